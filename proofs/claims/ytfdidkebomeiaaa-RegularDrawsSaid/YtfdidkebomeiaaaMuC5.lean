/- The code comes to what was worked out. -/
import Derived.Test.YtfdidkebomeiaaaMuDf
import Derived.Test.YtfdidkebomeiaaaMuPa
import Derived.Test.YtfdidkebomeiaaaMuC4
set_option linter.unusedVariables false
set_option linter.unnecessarySimpa false
set_option linter.unusedSimpArgs false
set_option maxHeartbeats 2000000
set_option maxRecDepth 10000
namespace Mu
open Go (IntKind BinOp UnOp)
theorem zy.ok {h:Hp}{l:List Za}{at_:List Zl}{v_l:V}{v_at_:V}(s_l:Sl Zf h v_l l) (s_at_:Sl Zm h v_at_ at_) {r:Bool}(hp:zy l at_=some r) :
  ∃ u k',Is G 261 [v_l,v_at_] h u k'∧V.b r=u∧Own (fun r=>r<h.n) h k' []:=by
 refine WC.is (ZaT ZeL ?_);unfold zy at hp;let B:Nat→Prop:=(fun r=>r<h.n);have hO:Own B h h []:=Own.start0 h;refine Zh (Zb (.b false) rfl (Ze (Z9 (Zh (Zb v_at_ rfl (Zd (Zaz (hO.rd0 s_at_.rd) rfl) (Zb v_l rfl (Zd (Zaz (hO.rd0 s_l.rd) rfl) (Zd (Zcz rfl rfl) (Zk ?_))))))))));refine Zr (z8 hp rfl (fun aU hp=>?_) (fun aU hp=>?_))
 ·refine Zh (Zb (.b false) rfl (Ze (zZ (ZX (zj (zz rfl ZD) ?_)))));cases hp;exact ⟨rfl,(hO.pk [])⟩
 ·refine Zaj (Zh (Zb v_l rfl (Zb v_at_ rfl ?_)));obtain ⟨x,⟨_,bF,a0,rfl,bB⟩,hp⟩:=bdk hp fun _=>Zaw.ok (h:=h)  (hO.rd0 s_l.rd) (hO.rd0 s_at_.rd);refine Za7 rfl rfl a0 ?_;have ad:=hO.call bB rfl;refine Zb (.b x) rfl (Ze (Z9 (Zh (Zb (.b x) rfl (Zd (ZcX rfl) (Ze (z8 hp rfl (fun aV hp=>?_) (fun aV hp=>?_))))))))
  ·refine Zh (Zb (.b false) rfl (Ze (zZ (ZX (zj (zz rfl ZD) ?_)))));cases hp;exact ⟨rfl,(ad.pk [])⟩
  ·refine Zaj (Zh (Zb v_l rfl ?_));obtain ⟨⟨x1,x2⟩,⟨_,_,a1,L,M,N,H,O,I,rfl,bC⟩,hp⟩:=bdk hp fun _=>Zb0.ok (h:=bF)  (ad.rd0 s_l.rd);refine Za7 rfl rfl a1 ?_;have aO:=ad.call bC rfl;refine Zb (.tu [.ag [L,M,N,O],.b x2]) rfl (Zd (Za3 rfl rfl) (Zd (Za3 rfl rfl) (Zac (aO.alloc (cs:=[.sn,.sn,.sn,.sn]) aO.fr) ?_)));rintro _ _ ⟨F,rfl,_,_,U⟩;refine Zac (U.stb (cs':=[L,M,N,O]) 6 rfl rfl rfl rfl ⟨rfl,Nat.le_of_ble_eq_true rfl,(all_cons (U.sl 0 rfl).oneV (all_cons (U.sl 1 rfl).oneV (all_cons (U.sl 2 rfl).oneV (all_cons (U.sl 4 rfl).oneV all_nil))))⟩ rfl) ?_;rintro _ bG ⟨rfl,_,_,C⟩;refine Zb (.b x2) rfl (Ze (Zh (Zd (ZbT (C.box 6 rfl) rfl rfl) ?_)));obtain ⟨x3,⟨_,_,a2,y,rfl,bD⟩,hp⟩:=bdk hp fun _=>zU.ok (h:=bG)  (C.sl 0 rfl) (C.sl 1 rfl) (C.sl 2 rfl) (C.allLen 3 rfl:(H).length=(x1.Vert).length) (fun j hj=>C.inn 3 rfl hj) (C.sl 4 rfl) (C.allLen 5 rfl:(I).length=(x1.Horz).length) (fun j hj=>C.inn 5 rfl hj);refine Za7 rfl rfl a2 ?_;have bA:=C.call bD rfl;refine Zb y rfl (Ze (Z9 (Zh (Zb (.n 0) rfl (Ze (Zai (ZbI hp (fun i fr k=>fr 1=v_at_∧fr 6=.p F 0∧fr 8=y∧fr 9=.n i∧Own B h k [Zb4 F [L,M,N,O],eSl zB L x1.X,eSl zB M x1.Y,eSl eV N H,Zc6 zB H x1.Vert,eSl eV O I,Zc6 zB I x1.Horz,eSl zF y x3]) (fun|.inl _,e,fr,k=>e=(.exit 0)∧Own B h k []|.inr _,e,fr,k=>e=.ret∧fr 4=.b false∧Own B h k []) ⟨rfl,rfl,rfl,rfl,(bA.pk [6,0,1,2,3,4,5,7])⟩ ?_ ?_)))))))
   ·rintro i _ _ ⟨bJ,bK,aT,al,af⟩ _ hp;dsimp only [zy.s0] at hp;refine Z9 (Zh (Zb _ al (Zb _ aT (Zd (Zaz (af.sl 7 rfl) rfl) (Zd (zG rfl rfl) (Ze (z8 hp rfl (fun aW hp=>?_) (fun aW hp=>?_))))))))
    ·refine Zaj (Z9 (Zai (Zh (Zb _ al (ckk hp fun ao hp=>Zd (zu rfl rfl ao) (Zb (.n (i+1)) rfl (Ze (Zai (ZbI hp (fun k_ fr k=>fr 1=v_at_∧fr 6=.p F 0∧fr 8=y∧fr 9=.n i∧fr 10=.n k_∧Own B h k [Zb4 F [L,M,N,O],eSl zB L x1.X,eSl zB M x1.Y,eSl eV N H,Zc6 zB H x1.Vert,eSl eV O I,Zc6 zB I x1.Horz,eSl zF y x3]) (fun|.inl _,e,fr,k=>e=(.exit 2)∧fr 1=v_at_∧fr 6=.p F 0∧fr 8=y∧fr 9=.n i∧Own B h k [Zb4 F [L,M,N,O],eSl zB L x1.X,eSl zB M x1.Y,eSl eV N H,Zc6 zB H x1.Vert,eSl eV O I,Zc6 zB I x1.Horz,eSl zF y x3]|.inr _,e,fr,k=>e=.ret∧fr 4=.b false∧Own B h k []) ⟨bJ,bK,aT,al,rfl,(af.pk [0,1,2,3,4,5,6,7])⟩ ?_ ?_)))))))))
     ·rintro k_ _ bH ⟨W,D,E,T,S,ai⟩ _ hp;dsimp only [zy.s1] at hp;refine Z9 (Zh (Zb _ S (Zb _ E (Zd (Zaz (ai.sl 7 rfl) rfl) (Zd (zG rfl rfl) (Ze (z8 hp rfl (fun aX hp=>?_) (fun aX hp=>?_))))))))
      ·refine Zaj (Z9 (Zai (Z9 (Zft ?_))));have a:=ai.bump 23;refine zt (ZbT (a.box 0 rfl) D rfl) (ZaJ _ E (ZaJ _ T (ckk hp fun J hp=>zt (ZM (a.sl 7 rfl) rfl rfl J) (zt (Zax (a.sl 7 rfl) (Zc J) rfl rfl) (zt (zk (a.sl 7 rfl) rfl (Zc J) rfl) (ZaJ _ E (ZaJ _ T (zt (ZM (a.sl 7 rfl) rfl rfl J) (zt (Zax (a.sl 7 rfl) (Zc J) rfl rfl) (zt (zk (a.sl 7 rfl) rfl (Zc J) rfl) (ZaJ _ E (ZaJ _ S ?_))))))))))));refine ckk hp fun K hp=>zt (ZM (a.sl 7 rfl) rfl rfl K) (zt (Zax (a.sl 7 rfl) (Zc K) rfl rfl) (zt (zk (a.sl 7 rfl) rfl (Zc K) rfl) (ZaJ _ E (ZaJ _ S (zt (ZM (a.sl 7 rfl) rfl rfl K) (zt (Zax (a.sl 7 rfl) (Zc K) rfl rfl) (zt (zk (a.sl 7 rfl) rfl (Zc K) rfl) ?_)))))));obtain ⟨x4,⟨_,aj,a3,rfl,bE⟩,hp⟩:=bdk hp fun _=>ZaA.ok (h:=(bH.bump 23))  (a.sl 1 rfl) (a.sl 2 rfl) (a.sl 3 rfl) (a.allLen 4 rfl:(H).length=(x1.Vert).length) (fun j hj=>a.inn 4 rfl hj) (a.sl 5 rfl) (a.allLen 6 rfl:(I).length=(x1.Horz).length) (fun j hj=>a.inn 6 rfl hj);refine ZgM rfl rfl a3 ?_;have Q:=a.call bE rfl;refine ZaJ (.b x4) rfl (Zc7 ?_);refine And.intro ?_ ?_
       ·intro q hq;simp only [List.mem_cons,List.not_mem_nil,or_false] at hq;rcases hq with rfl|rfl|rfl|rfl|rfl|rfl|rfl|rfl|rfl|rfl
        ·refine Zam ?_ ?_
         ·exact nofun
         ·exact nofun
        ·refine Zam ?_ ?_
         ·exact nofun
         ·exact nofun
        ·refine Zam ?_ ?_
         ·exact nofun
         ·exact nofun
        ·refine Zam ?_ ?_
         ·exact nofun
         ·exact nofun
        ·refine Zam ?_ ?_
         ·exact nofun
         ·exact nofun
        ·refine Zam ?_ ?_
         ·exact nofun
         ·exact nofun
        ·refine Zam ?_ ?_
         ·exact nofun
         ·exact nofun
        ·refine Zam ?_ ?_
         ·exact nofun
         ·exact nofun
        ·refine Zam ?_ ?_
         ·exact nofun
         ·exact nofun
        ·refine Zam ?_ ?_
         ·exact nofun
         ·exact nofun
       refine Zr (Z9 (Zft ?_));have t:=Q.bump 14;have a9:=Fresh.start aj 14;have aR:∀ {i:Nat},h.n≤aj.n+i:=Nat.le_trans Q.n (Nat.le_add_right _ _);refine zt (ZbT (t.box 0 rfl) D rfl) (ZaJ _ E (ZaJ _ T (zt (ZM (t.sl 7 rfl) rfl rfl J) (zt (Zez (t.sl 7 rfl) rfl (Zc J)) (ZaJ _ W ?_)))));obtain ⟨⟨x5,x6⟩,⟨_,_,a4,rfl,aP⟩,hp⟩:=bdk hp fun _=>Zb9.ok (h:=(aj.bump 14))  (t.sl 1 rfl) (t.sl 2 rfl) (t.sl 3 rfl) (t.allLen 4 rfl:(H).length=(x1.Vert).length) (fun j hj=>t.inn 4 rfl hj) (t.sl 5 rfl) (t.allLen 6 rfl:(I).length=(x1.Horz).length) (fun j hj=>t.inn 6 rfl hj) (t.rd0 s_at_.rd);refine ZgM rfl rfl a4 ?_;have aq:=a9.call aP;have br:=t.call aP rfl;refine ZaJ (.tu [.ag (Zm.c x5),.ag (Zm.c x6)]) rfl (zt (Za3 rfl rfl) (zt (Za3 rfl rfl) (ZdN (br.alloc (cs:=Zm.c (⟨0,0⟩:Zl)) ⟨aq.m 10 (by decide) (by decide),aR⟩) ?_)));rintro _ _ _ ⟨ab,rfl,_,a6,bs⟩;have ba:=aq.kept a6 (by decide);refine ZdN (bs.alloc (cs:=Zm.c (⟨0,0⟩:Zl)) ⟨ba.m 11 (by decide) (by decide),aR⟩) ?_;rintro _ _ _ ⟨am,rfl,_,_,bt⟩;refine ZdN (bt.stb (cs':=Zm.c x5) 8 rfl rfl rfl rfl ⟨rfl,Nat.le_of_ble_eq_true rfl,rfl⟩ rfl) ?_;rintro _ _ _ ⟨rfl,_,_,bu⟩;refine ZdN (bu.stb (cs':=Zm.c x6) 9 rfl rfl rfl rfl ⟨rfl,Nat.le_of_ble_eq_true rfl,rfl⟩ rfl) ?_;rintro _ ak _ ⟨rfl,_,_,R⟩;refine Zc7 ?_;refine And.intro ?_ ?_
       ·intro q hq;simp only [List.mem_cons,List.not_mem_nil,or_false] at hq;rcases hq with rfl|rfl|rfl|rfl|rfl|rfl|rfl|rfl
        ·refine Zam ?_ ?_
         ·exact nofun
         ·exact nofun
        ·refine Zam ?_ ?_
         ·exact nofun
         ·exact (fun _ hm=>Nat.lt_irrefl _ (Nat.lt_of_lt_of_le (Q.ltAt 0 rfl _ (tch (ZbP hm) D)) (Nat.le_add_right _ _)))
        ·refine Zam ?_ ?_
         ·exact nofun
         ·exact (fun _ hm=>Nat.lt_irrefl _ (Nat.lt_of_lt_of_le (Q.ltAt 7 rfl _ (ZbX (tch (ZbP hm) rfl))) (Nat.le_add_right _ _)))
        ·refine ZfE rfl ?_
         ·exact (fun r hm hc=>nomatch hm)
        ·refine Zam ?_ ?_
         ·exact nofun
         ·exact (fun _ hm=>Nat.lt_irrefl _ (Nat.lt_of_lt_of_le (Q.ltAt 0 rfl _ (tch (ZbP hm) D)) (Nat.le_add_right _ _)))
        ·refine Zam ?_ ?_
         ·exact nofun
         ·exact (fun _ hm=>Nat.lt_irrefl _ (Nat.lt_of_lt_of_le (Q.ltAt 7 rfl _ (ZbX (tch (ZbP hm) rfl))) (Nat.le_add_right _ _)))
        ·refine ZfE rfl ?_
         ·exact (fun r hm hc=>nomatch hm)
        ·refine Zam ?_ ?_
         ·exact (fun _=>List.not_mem_nil)
         ·exact (fun _=>List.not_mem_nil)
       refine Zr (Z9 (Zft ?_));have v:=R.bump 14;have bb:=Fresh.start ak 14;have aS:∀ {i:Nat},h.n≤ak.n+i:=Nat.le_trans R.n (Nat.le_add_right _ _);refine zt (ZbT (v.box 0 rfl) D rfl) (ZaJ _ E (ZaJ _ S (zt (ZM (v.sl 7 rfl) rfl rfl K) (zt (Zez (v.sl 7 rfl) rfl (Zc K)) (ZaJ _ W ?_)))));obtain ⟨⟨x7,x8⟩,⟨_,_,a5,rfl,aQ⟩,hp⟩:=bdk hp fun _=>Zb9.ok (h:=(ak.bump 14))  (v.sl 1 rfl) (v.sl 2 rfl) (v.sl 3 rfl) (v.allLen 4 rfl:(H).length=(x1.Vert).length) (fun j hj=>v.inn 4 rfl hj) (v.sl 5 rfl) (v.allLen 6 rfl:(I).length=(x1.Horz).length) (fun j hj=>v.inn 6 rfl hj) (v.rd0 s_at_.rd);refine ZgM rfl rfl a5 ?_;have ap:=bb.call aQ;have bv:=v.call aQ rfl;refine ZaJ (.tu [.ag (Zm.c x7),.ag (Zm.c x8)]) rfl (zt (Za3 rfl rfl) (zt (Za3 rfl rfl) (ZdN (bv.alloc (cs:=Zm.c (⟨0,0⟩:Zl)) ⟨ap.m 10 (by decide) (by decide),aS⟩) ?_)));rintro _ _ _ ⟨an,rfl,_,a7,bw⟩;have a8:=ap.kept a7 (by decide);refine ZdN (bw.alloc (cs:=Zm.c (⟨0,0⟩:Zl)) ⟨a8.m 11 (by decide) (by decide),aS⟩) ?_;rintro _ _ _ ⟨ac,rfl,_,_,bx⟩;refine ZdN (bx.stb (cs':=Zm.c x7) 10 rfl rfl rfl rfl ⟨rfl,Nat.le_of_ble_eq_true rfl,rfl⟩ rfl) ?_;rintro _ _ _ ⟨rfl,_,_,bz⟩;refine ZdN (bz.stb (cs':=Zm.c x8) 11 rfl rfl rfl rfl ⟨rfl,Nat.le_of_ble_eq_true rfl,rfl⟩ rfl) ?_;rintro _ aa _ ⟨rfl,_,_,A⟩;refine Zc7 ?_;refine And.intro ?_ ?_
       ·intro q hq;simp only [List.mem_cons,List.not_mem_nil,or_false] at hq;rcases hq with rfl|rfl|rfl|rfl|rfl|rfl|rfl|rfl
        ·refine Zam ?_ ?_
         ·exact nofun
         ·exact nofun
        ·refine Zam ?_ ?_
         ·exact nofun
         ·exact (fun _ hm=>Nat.lt_irrefl _ (Nat.lt_of_lt_of_le (R.ltAt 0 rfl _ (tch (ZbP hm) D)) (Nat.le_add_right _ _)))
        ·refine Zam ?_ ?_
         ·exact nofun
         ·exact (fun _ hm=>Nat.lt_irrefl _ (Nat.lt_of_lt_of_le (R.ltAt 7 rfl _ (ZbX (tch (ZbP hm) rfl))) (Nat.le_add_right _ _)))
        ·refine ZfE rfl ?_
         ·exact (fun r hm hc=>nomatch hm)
        ·refine Zam ?_ ?_
         ·exact nofun
         ·exact (fun _ hm=>Nat.lt_irrefl _ (Nat.lt_of_lt_of_le (R.ltAt 0 rfl _ (tch (ZbP hm) D)) (Nat.le_add_right _ _)))
        ·refine Zam ?_ ?_
         ·exact nofun
         ·exact (fun _ hm=>Nat.lt_irrefl _ (Nat.lt_of_lt_of_le (R.ltAt 7 rfl _ (ZbX (tch (ZbP hm) rfl))) (Nat.le_add_right _ _)))
        ·refine ZfE rfl ?_
         ·exact (fun r hm hc=>nomatch hm)
        ·refine Zam ?_ ?_
         ·exact (fun _=>List.not_mem_nil)
         ·exact (fun _=>List.not_mem_nil)
       refine Zr (Zh (Zd (Zbi (r:=am) (o:=0) rfl rfl) (Zd (Zay (A.box 9 rfl) rfl rfl) (Zd (Zbi (r:=an) (o:=0) rfl rfl) (Zd (Zay (A.box 10 rfl) rfl rfl) (Zd (zG rfl rfl) (Zb (.b (decide (x6.X<x7.X))) rfl (Zaq 6 (fun f k=>aa=k∧f 101=.b ((decide (x6.X<x7.X))||(decide (x8.X<x5.X)))∧f 1=v_at_∧f 10=.n k_∧f 11=.b x4∧f 12=.p ab 0∧f 13=.p am 0∧f 14=.p an 0∧f 15=.p ac 0∧f 6=.p F 0∧f 8=y∧f 9=.n i) ?_ ?_))))))))
       ·rcases bc (decide (x6.X<x7.X)) with d|d
        ·refine Zp rfl d (Zp rfl d (Zp rfl d (Zp rfl d (Zp rfl d (Zd (Zcn (w:=(decide (x6.X<x7.X))||(decide (x8.X<x5.X))) rfl d rfl) (Zk ?_))))));exact ⟨rfl,rfl,W,S,rfl,rfl,rfl,rfl,rfl,D,E,T⟩
        ·refine Z5 rfl d (Zd (Zbi (r:=ac) (o:=0) rfl rfl) (Z5 rfl d (Zd (Zay (A.box 11 rfl) rfl rfl) (Z5 rfl d (Zd (Zbi (r:=ab) (o:=0) rfl rfl) (Z5 rfl d (Zd (Zay (A.box 8 rfl) rfl rfl) (Z5 rfl d (Zd (zG rfl rfl) (Zd (Zco rfl d rfl) (Zk ?_)))))))))));exact ⟨rfl,rfl,W,S,rfl,rfl,rfl,rfl,rfl,D,E,T⟩
       rintro _ _ ⟨rfl,bd,ar,au,av,aw,be,bf,ax,ay,az,aA⟩;refine Zb _ bd (Zaq 6 (fun f k=>aa=k∧f 108=.b (((decide (x6.X<x7.X))||(decide (x8.X<x5.X)))||(decide (x6.Y<x7.Y)))∧f 1=v_at_∧f 10=.n k_∧f 11=.b x4∧f 12=.p ab 0∧f 15=.p ac 0∧f 6=.p F 0∧f 8=y∧f 9=.n i) ?_ ?_)
       ·rcases bc ((decide (x6.X<x7.X))||(decide (x8.X<x5.X))) with g|g
        ·refine Zp rfl g (Zp rfl g (Zp rfl g (Zp rfl g (Zp rfl g (Zd (Zcn (w:=((decide (x6.X<x7.X))||(decide (x8.X<x5.X)))||(decide (x6.Y<x7.Y))) rfl g rfl) (Zk ?_))))));exact ⟨rfl,rfl,ar,au,av,aw,ax,ay,az,aA⟩
        ·refine Z5 rfl g (Zd (Zbi (r:=am) (o:=0) be rfl) (Z5 rfl g (Zd (Zay (A.box 9 rfl) rfl rfl) (Z5 rfl g (Zd (Zbi (r:=an) (o:=0) bf rfl) (Z5 rfl g (Zd (Zay (A.box 10 rfl) rfl rfl) (Z5 rfl g (Zd (zG rfl rfl) (Zd (Zco rfl g rfl) (Zk ?_)))))))))));exact ⟨rfl,rfl,ar,au,av,aw,ax,ay,az,aA⟩
       rintro _ _ ⟨rfl,bg,aB,aC,aD,bh,bi,aE,aF,aG⟩;refine Zb _ bg (Zaq 6 (fun f k=>aa=k∧f 115=.b ((((decide (x6.X<x7.X))||(decide (x8.X<x5.X)))||(decide (x6.Y<x7.Y)))||(decide (x8.Y<x5.Y)))∧f 1=v_at_∧f 10=.n k_∧f 11=.b x4∧f 6=.p F 0∧f 8=y∧f 9=.n i) ?_ ?_)
       ·rcases bc (((decide (x6.X<x7.X))||(decide (x8.X<x5.X)))||(decide (x6.Y<x7.Y))) with s|s
        ·refine Zp rfl s (Zp rfl s (Zp rfl s (Zp rfl s (Zp rfl s (Zd (Zcn (w:=(((decide (x6.X<x7.X))||(decide (x8.X<x5.X)))||(decide (x6.Y<x7.Y)))||(decide (x8.Y<x5.Y))) rfl s rfl) (Zk ?_))))));exact ⟨rfl,rfl,aB,aC,aD,aE,aF,aG⟩
        ·refine Z5 rfl s (Zd (Zbi (r:=ac) (o:=0) bi rfl) (Z5 rfl s (Zd (Zay (A.box 11 rfl) rfl rfl) (Z5 rfl s (Zd (Zbi (r:=ab) (o:=0) bh rfl) (Z5 rfl s (Zd (Zay (A.box 8 rfl) rfl rfl) (Z5 rfl s (Zd (zG rfl rfl) (Zd (Zco rfl s rfl) (Zk ?_)))))))))));exact ⟨rfl,rfl,aB,aC,aD,aE,aF,aG⟩
       rintro _ _ ⟨rfl,bk,aH,aI,bj,aJ,aK,aL⟩;refine Zb _ bk (Ze (Zh (Zb _ bj (Zd (ZcX rfl) (Zb (.b (!x4)) rfl (Zaq 3 (fun f k=>aa=k∧f 121=.b ((!x4)&&(!((((decide (x6.X<x7.X))||(decide (x8.X<x5.X)))||(decide (x6.Y<x7.Y)))||(decide (x8.Y<x5.Y)))))∧f 1=v_at_∧f 10=.n k_∧f 6=.p F 0∧f 8=y∧f 9=.n i) ?_ ?_))))))
       ·rcases bc (!x4) with P|P
        ·refine Z5 rfl P (Zb (.b ((((decide (x6.X<x7.X))||(decide (x8.X<x5.X)))||(decide (x6.Y<x7.Y)))||(decide (x8.Y<x5.Y)))) rfl (Z5 rfl P (Zd (ZcX rfl) (Zd (ZdD rfl P rfl) (Zk ?_)))));exact ⟨rfl,rfl,aH,aI,aJ,aK,aL⟩
        ·refine Zp rfl P (Zp rfl P (Zd (ZdC (w:=(!x4)&&(!((((decide (x6.X<x7.X))||(decide (x8.X<x5.X)))||(decide (x6.Y<x7.Y)))||(decide (x8.Y<x5.Y))))) rfl P rfl) (Zk ?_)));exact ⟨rfl,rfl,aH,aI,aJ,aK,aL⟩
       rintro _ _ ⟨rfl,bn,bl,bm,bo,bp,bq⟩;refine Ze (z8 hp bn (fun aY hp=>?_) (fun aY hp=>?_))
       ·refine Zh (Zb (.b false) rfl (Ze (zZ (Zbd (ZX ?_)))));cases hp;exact ⟨nofun,rfl,rfl,(A.pk [])⟩
       ·refine Zc8 (Zap (Zr (Zaf (Zb _ bm (ckk hp fun aZ hp=>Zd (zu rfl rfl aZ) (Zb (.n (k_+1)) rfl (Zk ?_)))))));cases hp;exact ⟨rfl,bl,bo,bp,bq,rfl,(A.pk [0,1,2,3,4,5,6,7])⟩
      ·refine Zby (zY ?_);cases hp;exact ⟨nofun,rfl,W,D,E,T,(ai.pk [0,1,2,3,4,5,6,7])⟩
     rintro (_|_) hp _ _ _ aN
     ·obtain ⟨rfl,bL,bN,bO,bP,ah⟩:=aN;refine ZaF (Zap (Zr (Zaf (Zb _ bP (Zd (zu rfl rfl ao) (Zb (.n (i+1)) rfl (Zk ?_)))))));cases hp;exact ⟨rfl,bL,bN,bO,rfl,(ah.pk [0,1,2,3,4,5,6,7])⟩
     ·obtain ⟨rfl,bM,ah⟩:=aN;refine Zbd (Zbd (ZX ?_));cases hp;exact ⟨nofun,rfl,bM,(ah.pk [])⟩
    ·refine Zby (zY ?_);cases hp;exact ⟨nofun,rfl,(af.pk [])⟩
   rintro (_|_) hp _ _ _ aM
   ·obtain ⟨rfl,ae⟩:=aM;refine ZaF (Zr (Zh (Zb (.b true) rfl (Ze (zZ (zj (zz rfl ZD) ?_))))));cases hp;exact ⟨rfl,(ae.pk [])⟩
   ·obtain ⟨rfl,bI,ae⟩:=aM;refine Zbd (ZX (zj (zz bI ZD) ?_));cases hp;exact ⟨rfl,(ae.pk [])⟩

theorem Zbz.ok {h:Hp}{z:Zah}{picks:List Bool}{v_z_At:V}{v_z_Bits:V}{v_z_Own:V}{v_picks:V}(s_z_At:Sl ZjO h v_z_At z.At) (s_z_Bits:Sl ZjO h v_z_Bits z.Bits) (s_z_Own:Sl Zmp h v_z_Own z.Own) (s_picks:Sl e_bool h v_picks picks) {r:Bool}(hp:Zbz z picks=some r) :
  ∃ u k',Is G 249 [.ag [v_z_At,v_z_Bits,v_z_Own],v_picks] h u k'∧V.b r=u∧Own (fun r=>r<h.n) h k' []:=by
 refine WC.is (ZaT Zdn ?_);unfold Zbz at hp;let B:Nat→Prop:=(fun r=>r<h.n);have hO:Own B h h []:=Own.start0 h;refine Zh (Zac (hO.boxd (cs:=[v_z_At,v_z_Bits,v_z_Own]) hO.fr rfl rfl) ?_);rintro _ a6 ⟨_,rfl,_,_,p⟩;refine Zb (.b false) rfl (Ze (Zh (Zd (ZbT (p.box 0 rfl) rfl rfl) ?_)));obtain ⟨⟨x,x1⟩,⟨_,ba,aB,D,aw,rfl,aV⟩,hp⟩:=bdk hp fun _=>ZW.ok (h:=a6)  (p.rd0 s_z_At.rd) (p.rd0 s_z_Bits.rd) (p.rd0 s_z_Own.rd);refine Za7 rfl rfl aB ?_;have T:=p.call aV rfl;refine Zb (.tu [D,aw]) rfl (Zd (Za3 rfl rfl) (Zd (Za3 rfl rfl) (Zb D rfl (Zb aw rfl (Ze (Zh (Zb D rfl (Zb v_picks rfl ?_))))))));obtain ⟨⟨x2,x3,x4⟩,⟨_,bb,aG,K,rfl,a0⟩,hp⟩:=bdk hp fun _=>ZaO.ok (h:=ba)  (T.sl 1 rfl) (T.rd0 s_picks.rd);refine Za7 rfl rfl aG ?_;have aT:=T.call a0 rfl;refine Zb (.tu [K,.n x3,.n x4]) rfl (Zd (Za3 rfl rfl) (Zd (Za3 rfl rfl) (Zd (Za3 rfl rfl) (Zb K rfl (Zb (.n x3) rfl (Zb (.n x4) rfl (Ze (Z9 (Zh ?_)))))))));obtain ⟨x5,⟨_,aa,aH,rfl,a1⟩,hp⟩:=bdk hp fun _=>ZbF.ok (h:=bb)  ;refine Za7 rfl Zke aH ?_;have I:=aT.call a1 rfl;refine Zd (ZcX rfl) (Zb (.b (!x5)) rfl (Zaq 3 (fun f k=>aa=k∧f 34=.b ((!x5)||(!(decide (x4=0))))∧f 5=D∧f 7=K) ?_ ?_))
 ·rcases bc (!x5) with g|g
  ·refine Zp rfl g (Zp rfl g (Zd (Zcn (w:=(!x5)||(!(decide (x4=0)))) rfl g rfl) (Zk ?_)));exact ⟨rfl,rfl,rfl,rfl⟩
  ·refine Z5 rfl g (Zb (.n x4) rfl (Z5 rfl g (Zd (Zcz rfl rfl) (Zd (Zco rfl g rfl) (Zk ?_)))));exact ⟨rfl,rfl,rfl,rfl⟩
 rintro _ _ ⟨rfl,aP,ah,ai⟩;refine Ze (z8 hp aP (fun ax hp=>?_) (fun ax hp=>?_))
 ·refine Zh ?_;obtain ⟨x6,⟨_,_,aI,rfl,a2⟩,hp⟩:=bdk hp fun _=>ZbF.ok (h:=aa)  ;refine Za7 rfl Zke aI ?_;have aU:=I.call a2 rfl;refine Zb (.b x6) rfl (Ze (zZ (ZX (zj (zz rfl ZD) ?_))));cases hp;exact ⟨rfl,(aU.pk [])⟩
 ·refine Zaj (Zh (Zb _ ai ?_));refine I.freeze fun B h al af ac=>?_;have au:Rd B h Zf D x:=af (I.sl 1 rfl);have av:Rd B h Zf K x2:=af (I.sl 3 rfl);obtain ⟨⟨x7,x8⟩,⟨_,ar,aJ,d,ay,rfl,W,a3⟩,hp⟩:=bdk hp fun _=>ZfY.ok (h:=aa)  (al.pick [] rfl (by decide)) av;refine Za7 rfl rfl aJ ?_;have U:=al.call a3 rfl;refine Zb (.tu [d,.n x8]) rfl (Zd (Za3 rfl rfl) (Zd (Za3 rfl rfl) (Zb d rfl (Zb (.n x8) rfl (Ze (Z9 (Zh (Zb (.n x8) rfl (Zd (Zcz rfl rfl) (Ze (z8 hp rfl (fun az hp=>?_) (fun az hp=>?_))))))))))))
  ·refine Zh (Zb (.b false) rfl (Ze (zZ (ZX (zj (zz rfl ZD) ?_)))));cases hp;exact ⟨rfl,(ac _ _ (U.pk []))⟩
  ·refine Zaj (Zh (Zb d rfl ?_));obtain ⟨⟨x9,x10⟩,⟨_,_,aK,L,M,N,P,O,Q,rfl,a4⟩,hp⟩:=bdk hp fun _=>Zb0.ok (h:=ar)  (U.may 0 rfl W:Sl Zf ar d x7);refine Za7 rfl rfl aK ?_;have am:=U.call a4 rfl;refine Zb (.tu [.ag [L,M,N,O],.b x10]) rfl (Zd (Za3 rfl rfl) (Zd (Za3 rfl rfl) (Zac (am.alloc (cs:=[.sn,.sn,.sn,.sn]) am.fr) ?_)));rintro _ _ ⟨C,rfl,_,_,y⟩;refine Zac (y.stb (cs':=[L,M,N,O]) 7 rfl rfl rfl rfl ⟨rfl,Nat.le_of_ble_eq_true rfl,(all_cons (y.sl 1 rfl).oneV (all_cons (y.sl 2 rfl).oneV (all_cons (y.sl 3 rfl).oneV (all_cons (y.sl 5 rfl).oneV all_nil))))⟩ rfl) ?_;rintro _ ab ⟨rfl,_,_,e⟩;refine Zb (.b x10) rfl (Ze (Z9 (Zh (Zb (.b x10) rfl (Zd (ZcX rfl) (Ze (z8 hp rfl (fun aA hp=>?_) (fun aA hp=>?_))))))))
   ·refine Zh (Zb (.b false) rfl (Ze (zZ (ZX (zj (zz rfl ZD) ?_)))));cases hp;exact ⟨rfl,(ac _ _ (e.pk []))⟩
   ·refine Zaj (Z9 (Zft ?_));have i:=e.bump 18;have F:=Fresh.start ab 18;refine zt (Zbi (r:=C) (o:=0) rfl rfl) (zt (Zay (i.box 7 rfl) rfl rfl) (zt (Zf1 (n:=(x9.Vert).length) (i.sl 3 rfl) (i.allLen 4 rfl:(P).length=(x9.Vert).length) rfl) (ZaJ d rfl (zt (Zbi (r:=C) (o:=0) rfl rfl) (zt (Zay (i.box 7 rfl) rfl rfl) ?_)))));obtain ⟨x11,⟨_,a7,aL,be,rfl,A⟩,hp⟩:=bdk hp fun _=>ZaB.ok (h:=(ab.bump 18))  (i.may 0 rfl W:Sl Zf (ab.bump 18) d x7) (i.sl 1 rfl);refine ZgM rfl rfl aL ?_;have S:=F.call A;have aj:=i.call A rfl;obtain ⟨x12,⟨_,ao,aM,ad,rfl,J⟩,hp⟩:=bdk hp fun _=>zC.ok (h:=a7)  (aj.sl 8 rfl);refine ZgM rfl rfl aM ?_;have aO:=S.call J;have l:=aj.call J rfl;refine zt (Zbi (r:=C) (o:=0) rfl rfl) (zt (Zay (l.box 7 rfl) rfl rfl) (zt (Zf1 (n:=(x9.Horz).length) (l.sl 5 rfl) (l.allLen 6 rfl:(Q).length=(x9.Horz).length) rfl) (ZaJ d rfl (zt (Zbi (r:=C) (o:=0) rfl rfl) (zt (Zay (l.box 7 rfl) rfl rfl) ?_)))));obtain ⟨x13,⟨_,a8,aN,bd,rfl,an⟩,hp⟩:=bdk hp fun _=>ZaB.ok (h:=ao)  (l.may 0 rfl W:Sl Zf ao d x7) (l.sl 2 rfl);refine ZgM rfl rfl aN ?_;have ak:=l.call an rfl;obtain ⟨x14,⟨_,a9,aC,ae,rfl,aW⟩,hp⟩:=bdk hp fun _=>zC.ok (h:=a8)  (ak.sl 10 rfl);refine ZgM rfl rfl aC ?_;have a:=ak.call aW rfl;refine ZaJ ad rfl (ZaJ ae rfl (Zc7 ?_));refine And.intro ?_ ?_
    ·intro q hq;simp only [List.mem_cons,List.not_mem_nil,or_false] at hq;rcases hq with rfl|rfl|rfl|rfl|rfl|rfl|rfl|rfl|rfl|rfl|rfl|rfl
     ·refine Zam ?_ ?_
      ·exact nofun
      ·exact nofun
     ·refine Zit rfl rfl ?_
      ·exact (fun r hm hc=>hc (A.base r (Nat.lt_of_lt_of_le (e.ltAt 7 rfl _ (tch (ZbP hm) rfl)) (Nat.le_trans (Nat.le_add_right _ _) F.n))))
     ·refine Zam ?_ ?_
      ·exact nofun
      ·exact nofun
     ·refine Zam ?_ ?_
      ·exact nofun
      ·exact nofun
     ·refine ZfE rfl ?_
      ·exact (fun r hm hc=>hc (A.base r (Nat.lt_of_lt_of_le (e.ltAt 7 rfl _ (tch (ZbP hm) rfl)) (Nat.le_trans (Nat.le_add_right _ _) F.n))))
     ·refine ZfE rfl ?_
      ·exact (fun r hm hc=>hc (J.base r (Nat.lt_of_lt_of_le (e.ltAt 7 rfl _ (tch (ZbP hm) rfl)) (Nat.le_trans (Nat.le_add_right _ _) S.n))))
     ·refine Zam ?_ ?_
      ·exact nofun
      ·exact nofun
     ·refine Zam ?_ ?_
      ·exact nofun
      ·exact nofun
     ·refine ZfE rfl ?_
      ·exact (fun r hm hc=>hc (A.base r (Nat.lt_of_lt_of_le (e.ltAt 7 rfl _ (tch (ZbP hm) rfl)) (Nat.le_trans (Nat.le_add_right _ _) F.n))))
     ·refine ZfE rfl ?_
      ·exact (fun r hm hc=>hc (J.base r (Nat.lt_of_lt_of_le (e.ltAt 7 rfl _ (tch (ZbP hm) rfl)) (Nat.le_trans (Nat.le_add_right _ _) S.n))))
     ·refine Zam ?_ ?_
      ·exact nofun
      ·exact nofun
     ·refine Zit rfl rfl ?_
      ·exact (fun r hm hc=>hc (an.base r (Nat.lt_of_lt_of_le (e.ltAt 7 rfl _ (tch (ZbP hm) rfl)) (Nat.le_trans (Nat.le_add_right _ _) aO.n))))
    refine Zr (Zh (Zd (ZbT (a.box 7 rfl) rfl rfl) (Zb ad rfl (Zb ae rfl ?_))));obtain ⟨x15,⟨_,ap,aD,m,rfl,aX⟩,hp⟩:=bdk hp fun _=>ZaR.ok (h:=a9)  (a.sl 1 rfl) (a.sl 2 rfl) (a.sl 3 rfl) (a.allLen 4 rfl:(P).length=(x9.Vert).length) (fun j hj=>a.inn 4 rfl hj) (a.sl 5 rfl) (a.allLen 6 rfl:(Q).length=(x9.Horz).length) (fun j hj=>a.inn 6 rfl hj) (a.sl 9 rfl) (a.sl 11 rfl);refine Za7 rfl rfl aD ?_;have s:=a.call aX rfl;refine Zb _ ah (Zd (Zaz (s.rd0 au) rfl) (ckk hp fun R hp=>Zd (ZmK (E:=Zm) (z:=(x.length:Int)) (s.sl 12 rfl) rfl rfl R) (Zb ((V.cut m 0 ((x.length:Int):Int).toNat)) rfl (Ze (Zh (Zb _ ai (Zb ((V.cut m 0 ((x.length:Int):Int).toNat)) rfl ?_)))))));obtain ⟨x16,⟨_,aq,aE,rfl,aY⟩,hp⟩:=bdk hp fun _=>zy.ok (h:=ap)  (s.rd0 av) (Sl.cutU (s.sl 12 rfl) R:Sl Zm ap (V.cut m 0 ((x.length:Int):Int).toNat) (x15.take ((x.length:Int):Int).toNat));refine Za7 rfl rfl aE ?_;have H:=s.call aY rfl;refine Zb (.b x16) rfl ?_;obtain ⟨t,a5,hp⟩:=Zbj hp;refine Zaq 4 (fun f k=>Own B h k [ZpY ay Zf d x7,eSl zB L x9.X,eSl zB M x9.Y,eSl eV N P,Zc6 zB P x9.Vert,eSl eV O Q,Zc6 zB Q x9.Horz,Zb4 C [L,M,N,O],eSl ZaU be x11,eSl zB ad x12,eSl ZaU bd x13,eSl zB ae x14,eSl Zm m x15]∧f 80=.b t) ?_ ?_
    ·clear hp;rcases Zbt a5 with ⟨c,hp⟩|⟨c,hp⟩
     ·refine Z5 rfl c (Zb _ ah (Z5 rfl c (Zb ((V.cut m 0 ((x.length:Int):Int).toNat)) rfl (Z5 rfl c ?_))));obtain ⟨x17,⟨_,_,aF,rfl,aZ⟩,hp⟩:=bdk hp fun _=>zy.ok (h:=aq)  (H.rd0 au) (Sl.cutU (H.sl 12 rfl) R:Sl Zm aq (V.cut m 0 ((x.length:Int):Int).toNat) (x15.take ((x.length:Int):Int).toNat));refine Za7 rfl rfl aF ?_;have aR:=H.call aZ rfl;refine Zd (Zbh (v:=.b t) rfl c (Eq.trans (b:=V.b x17) rfl (congrArg V.b (Option.some.inj hp)))) (Zk ?_);exact ⟨aR.pk [0,1,2,3,4,5,6,7,8,9,10,11,12],rfl⟩
     ·refine Zp rfl c (Zp rfl c (Zp rfl c (Zd (Zba (v:=.b t) rfl c (Eq.trans (b:=V.b false) rfl (congrArg V.b (Option.some.inj hp)))) (Zk ?_))));exact ⟨H.pk [0,1,2,3,4,5,6,7,8,9,10,11,12],rfl⟩
    rintro _ _ ⟨aS,aQ⟩;refine Zb _ aQ (Ze (zZ (zj (zz rfl ZD) ?_)));cases hp;exact ⟨rfl,(ac _ _ (aS.pk []))⟩

end Mu
