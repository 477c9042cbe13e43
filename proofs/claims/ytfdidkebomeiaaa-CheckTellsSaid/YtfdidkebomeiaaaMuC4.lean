/- The code comes to what was worked out. -/
import Derived.Test.YtfdidkebomeiaaaMuDf
import Derived.Test.YtfdidkebomeiaaaMuPa
import Derived.Test.YtfdidkebomeiaaaMuC3
set_option linter.unusedVariables false
set_option linter.unnecessarySimpa false
set_option linter.unusedSimpArgs false
set_option maxHeartbeats 2000000
set_option maxRecDepth 10000
namespace Mu
open Go (IntKind BinOp UnOp)
theorem zJ.ok {h:Hp} {c:Zah} {v_c_X:V} {v_c_Y:V} {v_c_Vert:V} {vs_c_Vert:List V} {v_c_Horz:V} {vs_c_Horz:List V} (s_c_X:Sl ZM h v_c_X c.X) (s_c_Y:Sl ZM h v_c_Y c.Y) (sN_c_Vert:Sl eV h v_c_Vert vs_c_Vert) (lN_c_Vert:vs_c_Vert.length = c.Vert.length) (iN_c_Vert:∀ j,j < c.Vert.length→Sl ZM h (gi vs_c_Vert j) (gi c.Vert j)) (sN_c_Horz:Sl eV h v_c_Horz vs_c_Horz) (lN_c_Horz:vs_c_Horz.length = c.Horz.length) (iN_c_Horz:∀ j,j < c.Horz.length→Sl ZM h (gi vs_c_Horz j) (gi c.Horz j)) {r:(List ZY)} (hp:zJ c = some r) :
  ∃ u k',Is G 188 [.ag [v_c_X,v_c_Y,v_c_Vert,v_c_Horz]] h u k'∧∃ (v'1:V),v'1 = u∧Own (fun r=>r < h.n) h k' [eSl ZD v'1 r]:=by
 refine WC.is (ZaM Zd2 ?_)
 unfold zJ at hp
 let B:Nat→Prop:=(fun r=>r < h.n)
 have hO:Own B h h []:=Own.start0 h
 refine Zh (Zk (zQ (hO.boxd (v:=.ag [v_c_X,v_c_Y,v_c_Vert,v_c_Horz]) (cs:=[v_c_X,v_c_Y,v_c_Vert,v_c_Horz]) hO.fr rfl rfl) ?_))
 rintro _ k'1 ⟨r'1,rfl,n'1,f'1,hW⟩
 have hO'1:=hW
 refine Zd (.sn) rfl (Zb (Za (Zh (Zk (Zd (.sn) rfl (Zb (Za ?_)))))))
 refine Zh (Zh (Zk (Zd (.n 0) rfl (Zb (Za (Zaq ?_))))))
 obtain ⟨o'1,ho'1,hp⟩:=Zq hp
 refine W.mono (Q:=fun e fr k=>match (generalizing:=false) o'1 with
   | l1=>e = (.exit 0)∧∃ (v'3:V),fr 1 = .p r'1 0∧fr 3 = v'3∧Own B h k [ZbF r'1 [v_c_X,v_c_Y,v_c_Vert,v_c_Horz],eSl ZD v'3 l1]) ?_ ?_
 ·clear hp
  have hO'3:=hO'1.nil ZD
  refine zP (fun st fr k=>match st with | (l,i)=>∃ (v'2:V),fr 1 = .p r'1 0∧fr 3 = v'2∧fr 4 = .n i∧Own B h k [ZbF r'1 [v_c_X,v_c_Y,v_c_Vert,v_c_Horz],eSl ZD v'2 l]) ho'1 (s:=(([]:List ZY),0)) ⟨V.sn,rfl,rfl,rfl,(hO'3.pick [0,1] rfl (by decide))⟩ ?_
  rintro ⟨l,i⟩ q'2 k'3 ⟨v'2,q'2_1,q'2_3,q'2_4,hO'4⟩ o'2 hp
  dsimp only [zJ.s0] at hp
  refine Zh (Zh (Zk (Zd (.n i) q'2_4 (Zg (ZaL (r:=r'1) (o:=0) (o':=2) q'2_1 rfl) (Zg (Zac (cs:=[v_c_X,v_c_Y,v_c_Vert,v_c_Horz]) (v:=v_c_Vert) (hO'4.box 0 rfl) rfl rfl) (Zg (Zej (n:=(c.Vert).length) (hO'4.rd0 sN_c_Vert.rd) lN_c_Vert rfl) (Zg (zN (a:=i) (b:=(c.Vert.length:Int)) rfl rfl) ?_)))))))
  refine Zb (Za ?_)
  rcases Zp hp with ⟨b'1,hp⟩ | ⟨b'1,hp⟩
  ·refine zA (t:=(decide (i < (c.Vert.length:Int)))) rfl b'1 ?_
   refine zD (Za (Zh (Zaq (Zh (Zk (Zg (ZaL (r:=r'1) (o:=0) (o':=2) q'2_1 rfl) (Zg (Zac (cs:=[v_c_X,v_c_Y,v_c_Vert,v_c_Horz]) (v:=v_c_Vert) (hO'4.box 0 rfl) rfl rfl) ?_)))))))
   refine Zd (.n i) q'2_4 ?_
   obtain ⟨c'1,hp⟩:=Zj hp
   refine Zg (zf (E:=eV) (z:=i) (hO'4.rd0 sN_c_Vert.rd) rfl rfl (by rw [lN_c_Vert]; exact c'1)) (Zg (zB (w:=(gi vs_c_Vert i.toNat)) (hO'4.rd0 sN_c_Vert.rd) rfl (by rw [lN_c_Vert]; exact Zi c'1) rfl) (Zg (Zau (hO'4.rd0 ((fun j hj=>(iN_c_Vert j hj).rd) _ (Zi c'1)):Sl ZM k'3 (gi vs_c_Vert i.toNat) (gi c.Vert i.toNat)) rfl) (Zg (ZdP (a:=((gi c.Vert i.toNat).length:Int)) (b:=1) rfl rfl) (Zb (Za ?_)))))
   rcases Zp hp with ⟨b'2,hp⟩ | ⟨b'2,hp⟩
   ·refine zA (t:=(decide (1 < ((gi c.Vert i.toNat).length:Int)))) rfl b'2 ?_
    refine Zk (Zd v'2 q'2_3 (Zd (.n i) q'2_4 (Zg (ZbB (cs:=ZD.c (⟨true,i⟩:ZY)) (by rw [(zt (v:=.b true) rfl (zt (v:=.n i) rfl Za2))]; rfl)) (zQ (hO'4.bsl (E:=ZD) (l:=[(⟨true,i⟩:ZY)]) hO'4.fr (by rw [(zt (v:=.ag (ZD.c (⟨true,i⟩:ZY))) rfl Za2)]; rfl) rfl) ?_))))
    rintro v'4 k'4 ⟨r'2,f'2,hW⟩
    have hO'5:=hW
    obtain ⟨c'2,hp⟩:=Zj hp
    refine zQ (hO'5.app (E:=ZD) (bytes:=16) 1 hO'5.fr rfl (hO'5.sl 2 rfl) rfl rfl (fun _=>rfl) c'2 (by decide)) ?_
    rintro v'5 k'5 ⟨f'3,hW⟩
    have hO'6:=hW
    refine Zd v'5 rfl (Zb (Zan (Za (Zk (Zd (.n i) q'2_4 ?_)))))
    obtain ⟨c'3,hp⟩:=Zj hp
    refine Zg (z6 (a:=i) (b:=1) rfl rfl c'3) (Zd (.n (i + 1)) rfl (Zb ?_))
    cases hp
    exact (Or.inl ⟨(l++[(⟨true,i⟩:ZY)],i + 1),rfl,rfl,v'5,q'2_1,rfl,rfl,(hO'6.pick [0,1] rfl (by decide))⟩)
   ·refine z7 (t:=(decide (1 < ((gi c.Vert i.toNat).length:Int)))) rfl b'2 ?_
    refine zD (Zan (Za (Zk (Zd (.n i) q'2_4 ?_))))
    obtain ⟨c'4,hp⟩:=Zj hp
    refine Zg (z6 (a:=i) (b:=1) rfl rfl c'4) (Zd (.n (i + 1)) rfl (Zb ?_))
    cases hp
    exact (Or.inl ⟨(l,i + 1),rfl,rfl,v'2,q'2_1,q'2_3,rfl,(hO'4.pick [0,1] rfl (by decide))⟩)
  ·refine z7 (t:=(decide (i < (c.Vert.length:Int)))) rfl b'1 ?_
   refine Zbv (zY ?_)
   cases hp
   refine (Or.inr ⟨l,rfl,(fun h=>nomatch h),(fun he=>?_)⟩)
   subst he; exact ⟨rfl,v'2,q'2_1,q'2_3,(hO'4.pick [0,1] rfl (by decide))⟩
 intro e'1 q'1 k'2 hJ'1
 obtain ⟨l1,rfl⟩:∃ x,x = o'1:=⟨_,rfl⟩
 obtain ⟨rfl,v'3,q'1_1,q'1_3,hO'2⟩:=hJ'1
 refine ZaD (Za (Zh (Zh (Zk (Zd (.n 0) rfl (Zb (Za ?_)))))))
 refine Zaq ?_
 obtain ⟨o'3,ho'2,hp⟩:=Zq hp
 refine W.mono (Q:=fun e fr k=>match (generalizing:=false) o'3 with
   | l3=>e = (.exit 2)∧∃ (v'7:V),fr 3 = v'7∧Own B h k [eSl ZD v'7 l3]) ?_ ?_
 ·clear hp
  refine zP (fun st fr k=>match st with | (l2,i1)=>∃ (v'6:V),fr 1 = .p r'1 0∧fr 3 = v'6∧fr 5 = .n i1∧Own B h k [ZbF r'1 [v_c_X,v_c_Y,v_c_Vert,v_c_Horz],eSl ZD v'6 l2]) ho'2 (s:=(l1,0)) ⟨v'3,q'1_1,q'1_3,rfl,(hO'2.pick [0,1] rfl (by decide))⟩ ?_
  rintro ⟨l2,i1⟩ q'4 k'7 ⟨v'6,q'4_1,q'4_3,q'4_5,hO'8⟩ o'4 hp
  dsimp only [zJ.s1] at hp
  refine Zh (Zh (Zk (Zd (.n i1) q'4_5 (Zg (ZaL (r:=r'1) (o:=0) (o':=3) q'4_1 rfl) (Zg (Zac (cs:=[v_c_X,v_c_Y,v_c_Vert,v_c_Horz]) (v:=v_c_Horz) (hO'8.box 0 rfl) rfl rfl) (Zg (Zej (n:=(c.Horz).length) (hO'8.rd0 sN_c_Horz.rd) lN_c_Horz rfl) (Zg (zN (a:=i1) (b:=(c.Horz.length:Int)) rfl rfl) ?_)))))))
  refine Zb (Za ?_)
  rcases Zp hp with ⟨b'3,hp⟩ | ⟨b'3,hp⟩
  ·refine zA (t:=(decide (i1 < (c.Horz.length:Int)))) rfl b'3 ?_
   refine zD (Za (Zh (Zaq (Zh (Zk (Zg (ZaL (r:=r'1) (o:=0) (o':=3) q'4_1 rfl) (Zg (Zac (cs:=[v_c_X,v_c_Y,v_c_Vert,v_c_Horz]) (v:=v_c_Horz) (hO'8.box 0 rfl) rfl rfl) ?_)))))))
   refine Zd (.n i1) q'4_5 ?_
   obtain ⟨c'5,hp⟩:=Zj hp
   refine Zg (zf (E:=eV) (z:=i1) (hO'8.rd0 sN_c_Horz.rd) rfl rfl (by rw [lN_c_Horz]; exact c'5)) (Zg (zB (w:=(gi vs_c_Horz i1.toNat)) (hO'8.rd0 sN_c_Horz.rd) rfl (by rw [lN_c_Horz]; exact Zi c'5) rfl) (Zg (Zau (hO'8.rd0 ((fun j hj=>(iN_c_Horz j hj).rd) _ (Zi c'5)):Sl ZM k'7 (gi vs_c_Horz i1.toNat) (gi c.Horz i1.toNat)) rfl) (Zg (ZdP (a:=((gi c.Horz i1.toNat).length:Int)) (b:=1) rfl rfl) (Zb (Za ?_)))))
   rcases Zp hp with ⟨b'4,hp⟩ | ⟨b'4,hp⟩
   ·refine zA (t:=(decide (1 < ((gi c.Horz i1.toNat).length:Int)))) rfl b'4 ?_
    refine Zk (Zd v'6 q'4_3 (Zd (.n i1) q'4_5 (Zg (ZbB (cs:=ZD.c (⟨false,i1⟩:ZY)) (by rw [(zt (v:=.n i1) rfl Za2)]; rfl)) (zQ (hO'8.bsl (E:=ZD) (l:=[(⟨false,i1⟩:ZY)]) hO'8.fr (by rw [(zt (v:=.ag (ZD.c (⟨false,i1⟩:ZY))) rfl Za2)]; rfl) rfl) ?_))))
    rintro v'8 k'8 ⟨r'3,f'4,hW⟩
    have hO'9:=hW
    obtain ⟨c'6,hp⟩:=Zj hp
    refine zQ (hO'9.app (E:=ZD) (bytes:=16) 1 hO'9.fr rfl (hO'9.sl 2 rfl) rfl rfl (fun _=>rfl) c'6 (by decide)) ?_
    rintro v'9 k'9 ⟨f'5,hW⟩
    have hO'10:=hW
    refine Zd v'9 rfl (Zb (Zan (Za (Zk (Zd (.n i1) q'4_5 ?_)))))
    obtain ⟨c'7,hp⟩:=Zj hp
    refine Zg (z6 (a:=i1) (b:=1) rfl rfl c'7) (Zd (.n (i1 + 1)) rfl (Zb ?_))
    cases hp
    exact (Or.inl ⟨(l2++[(⟨false,i1⟩:ZY)],i1 + 1),rfl,rfl,v'9,q'4_1,rfl,rfl,(hO'10.pick [0,1] rfl (by decide))⟩)
   ·refine z7 (t:=(decide (1 < ((gi c.Horz i1.toNat).length:Int)))) rfl b'4 ?_
    refine zD (Zan (Za (Zk (Zd (.n i1) q'4_5 ?_))))
    obtain ⟨c'8,hp⟩:=Zj hp
    refine Zg (z6 (a:=i1) (b:=1) rfl rfl c'8) (Zd (.n (i1 + 1)) rfl (Zb ?_))
    cases hp
    exact (Or.inl ⟨(l2,i1 + 1),rfl,rfl,v'6,q'4_1,q'4_3,rfl,(hO'8.pick [0,1] rfl (by decide))⟩)
  ·refine z7 (t:=(decide (i1 < (c.Horz.length:Int)))) rfl b'3 ?_
   refine Zbv (zY ?_)
   cases hp
   refine (Or.inr ⟨l2,rfl,(fun h=>nomatch h),(fun he=>?_)⟩)
   subst he; exact ⟨rfl,v'6,q'4_3,(hO'8.pick [1] rfl (by decide))⟩
 intro e'2 q'3 k'6 hJ'2
 obtain ⟨l3,rfl⟩:∃ x,x = o'3:=⟨_,rfl⟩
 obtain ⟨rfl,v'7,q'3_3,hO'7⟩:=hJ'2
 refine ZaD (Za (Zh (Zk (Zd v'7 q'3_3 (Zd v'7 rfl (Zb (Za ?_)))))))
 refine Zad (zu (zG (n:=2) (v:=v'7) rfl ZN) ?_)
 cases hp
 exact ⟨v'7,rfl,(hO'7.pick [0] rfl (by decide))⟩

theorem Zao.ok {h:Hp} {c:Zah} {vertical:Bool} {i:Int} {other:Bool} {k_:Int} {v_c_X:V} {v_c_Y:V} {v_c_Vert:V} {vs_c_Vert:List V} {v_c_Horz:V} {vs_c_Horz:List V} (s_c_X:Sl ZM h v_c_X c.X) (s_c_Y:Sl ZM h v_c_Y c.Y) (sN_c_Vert:Sl eV h v_c_Vert vs_c_Vert) (lN_c_Vert:vs_c_Vert.length = c.Vert.length) (iN_c_Vert:∀ j,j < c.Vert.length→Sl ZM h (gi vs_c_Vert j) (gi c.Vert j)) (sN_c_Horz:Sl eV h v_c_Horz vs_c_Horz) (lN_c_Horz:vs_c_Horz.length = c.Horz.length) (iN_c_Horz:∀ j,j < c.Horz.length→Sl ZM h (gi vs_c_Horz j) (gi c.Horz j)) {r:Bool} (hp:Zao c vertical i other k_ = some r) :
  ∃ u k',Is G 124 [.ag [v_c_X,v_c_Y,v_c_Vert,v_c_Horz],.b vertical,.n i,.b other,.n k_] h u k'∧V.b r = u∧Own (fun r=>r < h.n) h k' []:=by
 refine WC.is (ZaM ZdJ ?_)
 unfold Zao at hp
 let B:Nat→Prop:=(fun r=>r < h.n)
 have hO:Own B h h []:=Own.start0 h
 refine Zh (Zk (zQ (hO.boxd (v:=.ag [v_c_X,v_c_Y,v_c_Vert,v_c_Horz]) (cs:=[v_c_X,v_c_Y,v_c_Vert,v_c_Horz]) hO.fr rfl rfl) ?_))
 rintro _ k'1 ⟨r'1,rfl,n'1,f'1,hW⟩
 have hO'1:=hW
 refine Zd (.b false) rfl (Zb (Za (Zh (Zh (Zk (Zd (.n 0) rfl (Zb ?_)))))))
 refine Za (Zaq ?_)
 obtain ⟨o'1,ho'1,hp⟩:=Zq hp
 refine W.mono (Q:=fun e fr k=>match (generalizing:=false) o'1 with
   | .inl _=>e = (.exit 0)∧Own B h k []
   | .inr _=>e = .ret∧fr 10 = .b true∧Own B h k []) ?_ ?_
 ·clear hp
  refine zP (fun st fr k=>match st with | v=>fr 1 = .b vertical∧fr 2 = .n i∧fr 3 = .b other∧fr 4 = .n k_∧fr 5 = .p r'1 0∧fr 11 = .n v∧Own B h k [ZbF r'1 [v_c_X,v_c_Y,v_c_Vert,v_c_Horz]]) ho'1 (s:=0) ⟨rfl,rfl,rfl,rfl,rfl,rfl,(hO'1.pick [0] rfl (by decide))⟩ ?_
  rintro v q'2 k'3 ⟨q'2_1,q'2_2,q'2_3,q'2_4,q'2_5,q'2_11,hO'3⟩ o'2 hp
  dsimp only [Zao.s0] at hp
  refine Zh (Zh (Zk (Zd (.n v) q'2_11 (Zg (ZaL (r:=r'1) (o:=0) (o':=0) q'2_5 rfl) (Zg (Zac (cs:=[v_c_X,v_c_Y,v_c_Vert,v_c_Horz]) (v:=v_c_X) (hO'3.box 0 rfl) rfl rfl) (Zg (Zau (hO'3.rd0 s_c_X.rd) rfl) (Zg (zN (a:=v) (b:=(c.X.length:Int)) rfl rfl) ?_)))))))
  refine Zb (Za ?_)
  rcases Zp hp with ⟨b'1,hp⟩ | ⟨b'1,hp⟩
  ·refine zA (t:=(decide (v < (c.X.length:Int)))) rfl b'1 ?_
   refine zD (Za (Zh (Zaq (Zh (Zk (Zg (ZaL (r:=r'1) (o:=0) (o':=1) q'2_5 rfl) (Zg (Zac (cs:=[v_c_X,v_c_Y,v_c_Vert,v_c_Horz]) (v:=v_c_Y) (hO'3.box 0 rfl) rfl rfl) ?_)))))))
   refine Zd (.n v) q'2_11 ?_
   obtain ⟨c'1,hp⟩:=Zj hp
   refine Zg (zf (E:=ZM) (z:=v) (hO'3.rd0 s_c_Y.rd) rfl rfl c'1) (Zg (zB (w:=.n (gi c.Y v.toNat)) (hO'3.rd0 s_c_Y.rd) rfl (Zi c'1) rfl) (Zd (.n i) q'2_2 (Zg (ZbQ (a:=(gi c.Y v.toNat)) (b:=i) rfl rfl) (Zd (.b (decide (gi c.Y v.toNat = i))) rfl (Zb (Za (Zh ?_)))))))
   refine Zh (Zk (Zd (.b vertical) q'2_1 (Zb (Za ?_))))
   obtain ⟨o'3,ho'2,hp⟩:=Zq hp
   refine W.mono (Q:=fun e fr k=>match (generalizing:=false) o'3 with
     | a=>e = .normal∧fr 1 = .b vertical∧fr 2 = .n i∧fr 3 = .b other∧fr 4 = .n k_∧fr 5 = .p r'1 0∧fr 11 = .n v∧fr 12 = .b a∧Own B h k [ZbF r'1 [v_c_X,v_c_Y,v_c_Vert,v_c_Horz]]) ?_ ?_
   ·clear hp; have hp:=ho'2; clear ho'2
    rcases Zp hp with ⟨b'2,hp⟩ | ⟨b'2,hp⟩
    ·refine zA (t:=vertical) rfl b'2 ?_
     refine Zk (Zg (ZaL (r:=r'1) (o:=0) (o':=0) q'2_5 rfl) (Zg (Zac (cs:=[v_c_X,v_c_Y,v_c_Vert,v_c_Horz]) (v:=v_c_X) (hO'3.box 0 rfl) rfl rfl) (Zd (.n v) q'2_11 ?_)))
     obtain ⟨c'2,hp⟩:=Zj hp
     refine Zg (zf (E:=ZM) (z:=v) (hO'3.rd0 s_c_X.rd) rfl rfl c'2) (Zg (zB (w:=.n (gi c.X v.toNat)) (hO'3.rd0 s_c_X.rd) rfl (Zi c'2) rfl) (Zd (.n i) q'2_2 (Zg (ZbQ (a:=(gi c.X v.toNat)) (b:=i) rfl rfl) (Zd (.b (decide (gi c.X v.toNat = i))) rfl (Zb ?_)))))
     cases hp
     exact ⟨rfl,q'2_1,q'2_2,q'2_3,q'2_4,q'2_5,q'2_11,rfl,(hO'3.pick [0] rfl (by decide))⟩
    ·refine z7 (t:=vertical) rfl b'2 ?_
     refine zD ?_
     cases hp
     exact ⟨rfl,q'2_1,q'2_2,q'2_3,q'2_4,q'2_5,q'2_11,rfl,(hO'3.pick [0] rfl (by decide))⟩
   intro e'2 q'3 k'4 hJ'2
   obtain ⟨a,rfl⟩:∃ x,x = o'3:=⟨_,rfl⟩
   obtain ⟨rfl,q'3_1,q'3_2,q'3_3,q'3_4,q'3_5,q'3_11,q'3_12,hO'4⟩:=hJ'2
   refine Za (Zh (Zk (Zg (ZaL (r:=r'1) (o:=0) (o':=1) q'3_5 rfl) (Zg (Zac (cs:=[v_c_X,v_c_Y,v_c_Vert,v_c_Horz]) (v:=v_c_Y) (hO'4.box 0 rfl) rfl rfl) (Zd (.n v) q'3_11 (Zg (zf (E:=ZM) (z:=v) (hO'4.rd0 s_c_Y.rd) rfl rfl c'1) (Zg (zB (w:=.n (gi c.Y v.toNat)) (hO'4.rd0 s_c_Y.rd) rfl (Zi c'1) rfl) ?_)))))))
   refine Zd (.n k_) q'3_4 (Zg (ZbQ (a:=(gi c.Y v.toNat)) (b:=k_) rfl rfl) (Zd (.b (decide (gi c.Y v.toNat = k_))) rfl (Zb (Za (Zh (Zh (Zk ?_)))))))
   refine Zd (.b other) q'3_3 (Zb (Za ?_))
   rcases Zp hp with ⟨b'3,hp⟩ | ⟨b'3,hp⟩
   ·refine zA (t:=other) rfl b'3 ?_
    refine Zk (Zg (ZaL (r:=r'1) (o:=0) (o':=0) q'3_5 rfl) (Zg (Zac (cs:=[v_c_X,v_c_Y,v_c_Vert,v_c_Horz]) (v:=v_c_X) (hO'4.box 0 rfl) rfl rfl) (Zd (.n v) q'3_11 ?_)))
    obtain ⟨c'3,hp⟩:=Zj hp
    refine Zg (zf (E:=ZM) (z:=v) (hO'4.rd0 s_c_X.rd) rfl rfl c'3) (Zg (zB (w:=.n (gi c.X v.toNat)) (hO'4.rd0 s_c_X.rd) rfl (Zi c'3) rfl) (Zd (.n k_) q'3_4 (Zg (ZbQ (a:=(gi c.X v.toNat)) (b:=k_) rfl rfl) (Zd (.b (decide (gi c.X v.toNat = k_))) rfl (Zb (Za (Zh ?_)))))))
    refine Zk (Zd (.b a) q'3_12 (Zd (.b a) rfl ?_))
    refine Za0 2 (fun fr' k'=>k'4 = k'∧fr' 54 = .b (a && (decide (gi c.X v.toNat = k_)))∧fr' 1 = .b vertical∧fr' 11 = .n v∧fr' 2 = .n i∧fr' 3 = .b other∧fr' 4 = .n k_∧fr' 5 = .p r'1 0) ?_ ?_
    ·rcases bc a with b'4 | b'4
     ·skip
      refine Z8 rfl b'4 (Zd (.b (decide (gi c.X v.toNat = k_))) rfl (Zg (zr (t:=a) (v:=.b (a && (decide (gi c.X v.toNat = k_)))) rfl b'4 (Eq.trans (b:=V.b (decide (gi c.X v.toNat = k_))) rfl (Zd7 b'4))) (Zb ?_)))
      exact ⟨rfl,rfl,q'3_1,q'3_11,q'3_2,q'3_3,q'3_4,q'3_5⟩
     ·skip
      refine Zv rfl b'4 (Zg (zm (t:=a) (v:=.b (a && (decide (gi c.X v.toNat = k_)))) rfl b'4 (Eq.trans (b:=V.b false) rfl (ZcN b'4))) (Zb ?_))
      exact ⟨rfl,rfl,q'3_1,q'3_11,q'3_2,q'3_3,q'3_4,q'3_5⟩
    rintro frg'1 _ ⟨rfl,g'1_54,g'1_1,g'1_11,g'1_2,g'1_3,g'1_4,g'1_5⟩
    refine Zb (Za ?_)
    rcases Zp hp with ⟨b'5,hp⟩ | ⟨b'5,hp⟩
    ·refine zA (t:=(a && (decide (gi c.X v.toNat = k_)))) g'1_54 b'5 ?_
     refine Zh (Zk (Zd (.b true) rfl (Zb (Za (Zad (ZaP (zk ?_)))))))
     cases hp
     refine (Or.inr ⟨.inr (),rfl,(fun h=>nomatch h),(fun he=>?_)⟩)
     subst he; exact ⟨rfl,rfl,(hO'4.pick [] rfl (by decide))⟩
    ·refine z7 (t:=(a && (decide (gi c.X v.toNat = k_)))) g'1_54 b'5 ?_
     refine zD (Zan (Za (Zk (Zd (.n v) g'1_11 ?_))))
     obtain ⟨c'4,hp⟩:=Zj hp
     refine Zg (z6 (a:=v) (b:=1) rfl rfl c'4) (Zd (.n (v + 1)) rfl (Zb ?_))
     cases hp
     exact (Or.inl ⟨v + 1,rfl,rfl,g'1_1,g'1_2,g'1_3,g'1_4,g'1_5,rfl,(hO'4.pick [0] rfl (by decide))⟩)
   ·refine z7 (t:=other) rfl b'3 ?_
    refine zD (Za (Zh (Zk (Zd (.b a) q'3_12 (Zd (.b a) rfl ?_)))))
    refine Za0 2 (fun fr' k'=>k'4 = k'∧fr' 54 = .b (a && (decide (gi c.Y v.toNat = k_)))∧fr' 1 = .b vertical∧fr' 11 = .n v∧fr' 2 = .n i∧fr' 3 = .b other∧fr' 4 = .n k_∧fr' 5 = .p r'1 0) ?_ ?_
    ·rcases bc a with b'6 | b'6
     ·skip
      refine Z8 rfl b'6 (Zd (.b (decide (gi c.Y v.toNat = k_))) rfl (Zg (zr (t:=a) (v:=.b (a && (decide (gi c.Y v.toNat = k_)))) rfl b'6 (Eq.trans (b:=V.b (decide (gi c.Y v.toNat = k_))) rfl (Zd7 b'6))) (Zb ?_)))
      exact ⟨rfl,rfl,q'3_1,q'3_11,q'3_2,q'3_3,q'3_4,q'3_5⟩
     ·skip
      refine Zv rfl b'6 (Zg (zm (t:=a) (v:=.b (a && (decide (gi c.Y v.toNat = k_)))) rfl b'6 (Eq.trans (b:=V.b false) rfl (ZcN b'6))) (Zb ?_))
      exact ⟨rfl,rfl,q'3_1,q'3_11,q'3_2,q'3_3,q'3_4,q'3_5⟩
    rintro frg'2 _ ⟨rfl,g'2_54,g'2_1,g'2_11,g'2_2,g'2_3,g'2_4,g'2_5⟩
    refine Zb (Za ?_)
    rcases Zp hp with ⟨b'7,hp⟩ | ⟨b'7,hp⟩
    ·refine zA (t:=(a && (decide (gi c.Y v.toNat = k_)))) g'2_54 b'7 ?_
     refine Zh (Zk (Zd (.b true) rfl (Zb (Za (Zad (ZaP (zk ?_)))))))
     cases hp
     refine (Or.inr ⟨.inr (),rfl,(fun h=>nomatch h),(fun he=>?_)⟩)
     subst he; exact ⟨rfl,rfl,(hO'4.pick [] rfl (by decide))⟩
    ·refine z7 (t:=(a && (decide (gi c.Y v.toNat = k_)))) g'2_54 b'7 ?_
     refine zD (Zan (Za (Zk (Zd (.n v) g'2_11 ?_))))
     obtain ⟨c'5,hp⟩:=Zj hp
     refine Zg (z6 (a:=v) (b:=1) rfl rfl c'5) (Zd (.n (v + 1)) rfl (Zb ?_))
     cases hp
     exact (Or.inl ⟨v + 1,rfl,rfl,g'2_1,g'2_2,g'2_3,g'2_4,g'2_5,rfl,(hO'4.pick [0] rfl (by decide))⟩)
  ·refine z7 (t:=(decide (v < (c.X.length:Int)))) rfl b'1 ?_
   refine Zbv (zY ?_)
   cases hp
   refine (Or.inr ⟨.inl (),rfl,(fun h=>nomatch h),(fun he=>?_)⟩)
   subst he; exact ⟨rfl,(hO'3.pick [] rfl (by decide))⟩
 intro e'1 q'1 k'2 hJ'1
 rcases o'1 with _ | _
 ·obtain ⟨rfl,hO'2⟩:=hJ'1
  refine ZaD (Za (Zh (Zk (Zd (.b false) rfl (Zb (Za (Zad ?_)))))))
  refine zu (zG (n:=10) (v:=.b false) rfl ZN) ?_
  cases hp
  exact ⟨rfl,(hO'2.pick [] rfl (by decide))⟩
 ·obtain ⟨rfl,q'1_10,hO'2⟩:=hJ'1
  refine ZaP (zk (zu (zG (n:=10) (v:=.b true) q'1_10 ZN) ?_))
  cases hp
  exact ⟨rfl,(hO'2.pick [] rfl (by decide))⟩

theorem Zbo.ok {h:Hp} {c:Zah} {l:ZY} {at_:List Zf} {v_c_X:V} {v_c_Y:V} {v_c_Vert:V} {vs_c_Vert:List V} {v_c_Horz:V} {vs_c_Horz:List V} {v_at_:V} (s_c_X:Sl ZM h v_c_X c.X) (s_c_Y:Sl ZM h v_c_Y c.Y) (sN_c_Vert:Sl eV h v_c_Vert vs_c_Vert) (lN_c_Vert:vs_c_Vert.length = c.Vert.length) (iN_c_Vert:∀ j,j < c.Vert.length→Sl ZM h (gi vs_c_Vert j) (gi c.Vert j)) (sN_c_Horz:Sl eV h v_c_Horz vs_c_Horz) (lN_c_Horz:vs_c_Horz.length = c.Horz.length) (iN_c_Horz:∀ j,j < c.Horz.length→Sl ZM h (gi vs_c_Horz j) (gi c.Horz j)) (s_at_:Sl Zc h v_at_ at_) {r:Zf × Zf} (hp:Zbo c l at_ = some r) :
  ∃ u k',Is G 274 [.ag [v_c_X,v_c_Y,v_c_Vert,v_c_Horz],.ag (ZD.c l),v_at_] h u k'∧V.tu [.ag (Zc.c r.1),.ag (Zc.c r.2)] = u∧Own (fun r=>r < h.n) h k' []:=by
 refine WC.is (ZaM ZdL ?_)
 unfold Zbo at hp
 let B:Nat→Prop:=(fun r=>r < h.n)
 have hO:Own B h h []:=Own.start0 h
 refine Zh (Zk (zQ (hO.boxd (v:=.ag [v_c_X,v_c_Y,v_c_Vert,v_c_Horz]) (cs:=[v_c_X,v_c_Y,v_c_Vert,v_c_Horz]) hO.fr rfl rfl) ?_))
 rintro _ k'1 ⟨r'1,rfl,n'1,f'1,hW⟩
 have hO'1:=hW
 refine zQ (hO'1.boxd (v:=.ag (ZD.c l)) (cs:=ZD.c l) hO'1.fr rfl rfl) ?_
 rintro _ k'2 ⟨r'2,rfl,n'2,f'2,hW⟩
 have hO'2:=hW
 refine zQ (hO'2.alloc (cs:=Zc.c (⟨0,0⟩:Zf)) hO'2.fr) ?_
 rintro _ k'3 ⟨r'3,rfl,n'3,f'3,hW⟩
 have hO'3:=hW
 refine zQ (hO'3.alloc (cs:=Zc.c (⟨0,0⟩:Zf)) hO'3.fr) ?_
 rintro _ k'4 ⟨r'4,rfl,n'4,f'4,hW⟩
 have hO'4:=hW
 refine Zb (Za (Zh (Zk (Zg (ZaL (r:=r'1) (o:=0) (o':=3) rfl rfl) (Zg (Zac (cs:=[v_c_X,v_c_Y,v_c_Vert,v_c_Horz]) (v:=v_c_Horz) (hO'4.box 0 rfl) rfl rfl) (Zd v_c_Horz rfl (Zb ?_)))))))
 refine Za (Zh (Zh (Zk (Zg (ZaL (r:=r'2) (o:=0) (o':=0) rfl rfl) (Zg (Zac (cs:=(ZD.c l)) (v:=.b l.Vertical) (hO'4.box 1 rfl) rfl rfl) (Zb (Za ?_)))))))
 obtain ⟨o'1,ho'1,hp⟩:=Zq hp
 refine W.mono (Q:=fun e fr k=>match (generalizing:=false) o'1 with
   | x=>e = .normal∧∃ (v'1:V),∃ (vs'1:List V),fr 2 = v_at_∧fr 4 = .p r'2 0∧fr 6 = .p r'3 0∧fr 7 = .p r'4 0∧fr 8 = v'1∧Rd B h eV v'1 vs'1∧vs'1.length = x.length∧(∀ j,j < x.length→Rd B h ZM (gi vs'1 j) (gi x j))∧Own B h k [ZbF r'2 (ZD.c l),ZbF r'3 (Zc.c (⟨0,0⟩:Zf)),ZbF r'4 (Zc.c (⟨0,0⟩:Zf))]) ?_ ?_
 ·clear hp; have hp:=ho'1; clear ho'1
  rcases Zp hp with ⟨b'1,hp⟩ | ⟨b'1,hp⟩
  ·refine zA (t:=l.Vertical) rfl b'1 ?_
   refine Zk (Zg (ZaL (r:=r'1) (o:=0) (o':=2) rfl rfl) (Zg (Zac (cs:=[v_c_X,v_c_Y,v_c_Vert,v_c_Horz]) (v:=v_c_Vert) (hO'4.box 0 rfl) rfl rfl) (Zd v_c_Vert rfl (Zb ?_))))
   cases hp
   exact ⟨rfl,v_c_Vert,vs_c_Vert,rfl,rfl,rfl,rfl,rfl,sN_c_Vert.rd,lN_c_Vert,(fun j hj=>(iN_c_Vert j hj).rd),(hO'4.pick [1,2,3] rfl (by decide))⟩
  ·refine z7 (t:=l.Vertical) rfl b'1 ?_
   refine zD ?_
   cases hp
   exact ⟨rfl,v_c_Horz,vs_c_Horz,rfl,rfl,rfl,rfl,rfl,sN_c_Horz.rd,lN_c_Horz,(fun j hj=>(iN_c_Horz j hj).rd),(hO'4.pick [1,2,3] rfl (by decide))⟩
 intro e'1 q'1 k'5 hJ'1
 obtain ⟨x,rfl⟩:∃ x,x = o'1:=⟨_,rfl⟩
 obtain ⟨rfl,v'1,vs'1,q'1_2,q'1_4,q'1_6,q'1_7,q'1_8,s'1,sl'1,si'1,hO'5⟩:=hJ'1
 refine Za (Zh (Zk (Zd v'1 q'1_8 (Zg (ZaL (r:=r'2) (o:=0) (o':=1) q'1_4 rfl) (Zg (Zac (cs:=(ZD.c l)) (v:=.n l.Place) (hO'5.box 0 rfl) rfl rfl) ?_)))))
 obtain ⟨c'1,hp⟩:=Zj hp
 refine Zg (zf (E:=eV) (z:=l.Place) (hO'5.rd0 s'1) rfl rfl (by rw [sl'1]; exact c'1)) (Zg (zB (w:=(gi vs'1 (l.Place:Int).toNat)) (hO'5.rd0 s'1) rfl (by rw [sl'1]; exact Zi c'1) rfl) (Zd ((gi vs'1 (l.Place:Int).toNat)) rfl (Zb (Za (Zh (Zfi ?_))))))
 have hW:=hO'5.bump 17
 have fr'1:=Fresh.start k'5 17
 have nb'1:∀ {i:Nat},h.n≤k'5.n + i:=Nat.le_trans hO'5.n (Nat.le_add_right _ _)
 have hO'6:=hW
 refine ZaS v_at_ q'1_2 (ZaS ((gi vs'1 (l.Place:Int).toNat)) rfl ?_)
 obtain ⟨c'2,hp⟩:=Zj hp
 refine z9 (zf (E:=ZM) (z:=0) (hO'6.rd0 ((fun j hj=>(si'1 j hj)) _ (Zi c'1)):Sl ZM (k'5.bump 17) (gi vs'1 (l.Place:Int).toNat) (gi x (l.Place:Int).toNat)) rfl rfl c'2) (z9 (zB (w:=.n (gi (gi x (l.Place:Int).toNat) (0:Int).toNat)) (hO'6.rd0 ((fun j hj=>(si'1 j hj)) _ (Zi c'1)):Sl ZM (k'5.bump 17) (gi vs'1 (l.Place:Int).toNat) (gi x (l.Place:Int).toNat)) rfl (Zi c'2) rfl) ?_)
 obtain ⟨c'3,hp⟩:=Zj hp
 refine z9 (zf (E:=Zc) (z:=(gi (gi x (l.Place:Int).toNat) (0:Int).toNat)) (hO'6.rd0 s_at_.rd) rfl rfl c'3) (z9 (Zd5 (E:=Zc) (hO'6.rd0 s_at_.rd) rfl (Zi c'3)) (ZaS v_at_ q'1_2 (ZaS ((gi vs'1 (l.Place:Int).toNat)) rfl (ZaS ((gi vs'1 (l.Place:Int).toNat)) rfl (z9 (Zau (hO'6.rd0 ((fun j hj=>(si'1 j hj)) _ (Zi c'1)):Sl ZM (k'5.bump 17) (gi vs'1 (l.Place:Int).toNat) (gi x (l.Place:Int).toNat)) rfl) ?_)))))
 obtain ⟨c'4,hp⟩:=Zj hp
 refine z9 (ZgH (a:=((gi x (l.Place:Int).toNat).length:Int)) (b:=1) rfl rfl c'4) ?_
 obtain ⟨c'5,hp⟩:=Zj hp
 refine z9 (zf (E:=ZM) (z:=(((gi x (l.Place:Int).toNat).length:Int) - 1)) (hO'6.rd0 ((fun j hj=>(si'1 j hj)) _ (Zi c'1)):Sl ZM (k'5.bump 17) (gi vs'1 (l.Place:Int).toNat) (gi x (l.Place:Int).toNat)) rfl rfl c'5) (z9 (zB (w:=.n (gi (gi x (l.Place:Int).toNat) (((gi x (l.Place:Int).toNat).length:Int) - 1:Int).toNat)) (hO'6.rd0 ((fun j hj=>(si'1 j hj)) _ (Zi c'1)):Sl ZM (k'5.bump 17) (gi vs'1 (l.Place:Int).toNat) (gi x (l.Place:Int).toNat)) rfl (Zi c'5) rfl) ?_)
 obtain ⟨c'6,hp⟩:=Zj hp
 refine z9 (zf (E:=Zc) (z:=(gi (gi x (l.Place:Int).toNat) (((gi x (l.Place:Int).toNat).length:Int) - 1:Int).toNat)) (hO'6.rd0 s_at_.rd) rfl rfl c'6) (z9 (Zd5 (E:=Zc) (hO'6.rd0 s_at_.rd) rfl (Zi c'6)) (Ze5 (hO'6.stb (ws:=Zc.c (gi at_ (gi (gi x (l.Place:Int).toNat) (0:Int).toNat:Int).toNat)) (cs':=Zc.c (gi at_ (gi (gi x (l.Place:Int).toNat) (0:Int).toNat:Int).toNat)) (v:=.ag (Zc.c (gi at_ (gi (gi x (l.Place:Int).toNat) (0:Int).toNat:Int).toNat))) 1 rfl q'1_6 rfl rfl ⟨rfl,Nat.le_of_ble_eq_true rfl,rfl⟩ rfl) ?_))
 rintro _ k'7 z'1 ⟨rfl,f'5,m'1,hW⟩
 have fr'2:=fr'1.kept f'5 (by decide)
 have hO'7:=hW
 refine Ze5 (hO'7.stb (ws:=Zc.c (gi at_ (gi (gi x (l.Place:Int).toNat) (((gi x (l.Place:Int).toNat).length:Int) - 1:Int).toNat:Int).toNat)) (cs':=Zc.c (gi at_ (gi (gi x (l.Place:Int).toNat) (((gi x (l.Place:Int).toNat).length:Int) - 1:Int).toNat:Int).toNat)) (v:=.ag (Zc.c (gi at_ (gi (gi x (l.Place:Int).toNat) (((gi x (l.Place:Int).toNat).length:Int) - 1:Int).toNat:Int).toNat))) 2 rfl q'1_7 rfl rfl ⟨rfl,Nat.le_of_ble_eq_true rfl,rfl⟩ rfl) ?_
 rintro _ k'8 z'2 ⟨rfl,f'6,m'2,hW⟩
 have fr'3:=fr'2.kept f'6 (by decide)
 have hO'8:=hW
 refine Zcu ?_
 refine And.intro ?_ ?_
 ·intro q hq
  simp only [List.mem_cons,List.not_mem_nil,or_false] at hq
  rcases hq with rfl | rfl | rfl | rfl | rfl | rfl
  ·refine ZaF ?_ ?_
   ·exact (fun h=>nomatch h)
   ·exact (fun h=>nomatch h)
  ·refine ZaF ?_ ?_
   ·exact (fun h=>nomatch h)
   ·exact (fun h=>nomatch h)
  ·refine ZaF ?_ ?_
   ·exact (fun h=>nomatch h)
   ·exact (fun h=>nomatch h)
  ·refine ZaF ?_ ?_
   ·exact (fun h=>nomatch h)
   ·exact (fun h=>nomatch h)
  ·refine Zls ?_ ?_ ?_
   ·exact (fun r h1 h2=>hO'5.offAt 1 rfl r (tch (v:=V.p r'3 0) (Zl2 h2) q'1_6) (Rd.B ((fun j hj=>(si'1 j hj)) _ (Zi c'1)) hO'5.lo (Zi c'5) _ (Zct (tch (v:=V.elt (gi vs'1 (l.Place:Int).toNat) (((gi x (l.Place:Int).toNat).length:Int) - 1:Int).toNat 0) (ZcH h1) rfl))))
   ·exact (fun h=>nomatch h)
   ·exact (fun _ hm=>Nat.lt_irrefl _ (Nat.lt_of_lt_of_le (Nat.lt_of_lt_of_le (hO'5.lo _ (Rd.B ((fun j hj=>(si'1 j hj)) _ (Zi c'1)) hO'5.lo (Zi c'5) _ (Zct (tch (v:=V.elt (gi vs'1 (l.Place:Int).toNat) (((gi x (l.Place:Int).toNat).length:Int) - 1:Int).toNat 0) (ZcH hm) rfl)))) hO'5.n) (Nat.le_add_right _ _)))
  ·refine Zls ?_ ?_ ?_
   ·exact (fun r h1 h2=>hO'5.offAt 1 rfl r (tch (v:=V.p r'3 0) (Zl2 h2) q'1_6) (Rd.B s_at_.rd hO'5.lo (Zi c'6) _ (Zct (tch (v:=V.elt v_at_ (gi (gi x (l.Place:Int).toNat) (((gi x (l.Place:Int).toNat).length:Int) - 1:Int).toNat:Int).toNat 0) (ZcH h1) rfl))))
   ·exact (fun h=>nomatch h)
   ·exact (fun _ hm=>Nat.lt_irrefl _ (Nat.lt_of_lt_of_le (Nat.lt_of_lt_of_le (hO'5.lo _ (Rd.B s_at_.rd hO'5.lo (Zi c'6) _ (Zct (tch (v:=V.elt v_at_ (gi (gi x (l.Place:Int).toNat) (((gi x (l.Place:Int).toNat).length:Int) - 1:Int).toNat:Int).toNat 0) (ZcH hm) rfl)))) hO'5.n) (Nat.le_add_right _ _)))
 refine Za (Zad (zu (Zg6 (n:=6) (v:=.ag (Zc.c (gi at_ (gi (gi x (l.Place:Int).toNat) (0:Int).toNat:Int).toNat))) (r:=r'3) q'1_6 (hO'8.box 1 rfl) rfl (Zg6 (n:=7) (v:=.ag (Zc.c (gi at_ (gi (gi x (l.Place:Int).toNat) (((gi x (l.Place:Int).toNat).length:Int) - 1:Int).toNat:Int).toNat))) (r:=r'4) q'1_7 (hO'8.box 2 rfl) rfl ZN)) ?_))
 cases hp
 exact ⟨rfl,(hO'8.pick [] rfl (by decide))⟩

theorem z8.ok {h:Hp} {l:List Ze} {at_:List Zf} {v_l:V} {v_at_:V} (s_l:Sl Zn h v_l l) (s_at_:Sl Zc h v_at_ at_) {r:Bool} (hp:z8 l at_ = some r) :
  ∃ u k',Is G 261 [v_l,v_at_] h u k'∧V.b r = u∧Own (fun r=>r < h.n) h k' []:=by
 refine WC.is (ZaM ZdK ?_)
 unfold z8 at hp
 let B:Nat→Prop:=(fun r=>r < h.n)
 have hO:Own B h h []:=Own.start0 h
 refine Zh (Zk (Zd (.b false) rfl (Zb (Za (Zh (Zh (Zk ?_)))))))
 refine Zd v_at_ rfl (Zg (Zau (hO.rd0 s_at_.rd) rfl) (Zd v_l rfl (Zg (Zau (hO.rd0 s_l.rd) rfl) (Zg (Zck (a:=(at_.length:Int)) (b:=(l.length:Int)) rfl rfl) (Zb (Za ?_))))))
 rcases Zp hp with ⟨b'1,hp⟩ | ⟨b'1,hp⟩
 ·refine zA (t:=(!(decide ((at_.length:Int) = (l.length:Int))))) rfl b'1 ?_
  refine Zh (Zk (Zd (.b false) rfl (Zb (Za (Zad (zk (zu (zG (n:=4) (v:=.b false) rfl ZN) ?_)))))))
  cases hp
  exact ⟨rfl,(hO.pick [] rfl (by decide))⟩
 ·refine z7 (t:=(!(decide ((at_.length:Int) = (l.length:Int))))) rfl b'1 ?_
  refine zD (Za (Zh (Zk (Zd v_l rfl (Zd v_at_ rfl ?_)))))
  obtain ⟨x,hx'1,hp⟩:=Zq hp
  obtain ⟨u'1,k'1,ca'1,rfl,hW'1⟩:=zT.ok (h:=h)  (hO.rd0 s_l.rd) (hO.rd0 s_at_.rd) hx'1
  refine Zbd (id:=193) (caps:=[]) rfl (Zu (v:=v_l) rfl (Zu (v:=v_at_) rfl zx)) ca'1 ?_
  have hO'1:=hO.call hW'1 rfl
  refine Zd (.b x) rfl (Zb (Za (Zh (Zh (Zk (Zd (.b x) rfl (Zg (Zc3 (t:=x) rfl) ?_)))))))
  refine Zb (Za ?_)
  rcases Zp hp with ⟨b'2,hp⟩ | ⟨b'2,hp⟩
  ·refine zA (t:=(!x)) rfl b'2 ?_
   refine Zh (Zk (Zd (.b false) rfl (Zb (Za (Zad (zk (zu (zG (n:=4) (v:=.b false) rfl ZN) ?_)))))))
   cases hp
   exact ⟨rfl,(hO'1.pick [] rfl (by decide))⟩
  ·refine z7 (t:=(!x)) rfl b'2 ?_
   refine zD (Za (Zh (Zk (Zd v_l rfl ?_))))
   obtain ⟨⟨x1,x2⟩,hx'2,hp⟩:=Zq hp
   obtain ⟨u'2,k'2,ca'2,v'1,v'2,v'3,vs'1,v'4,vs'2,rfl,hW'2⟩:=ZaW.ok (h:=k'1)  (hO'1.rd0 s_l.rd) hx'2
   refine Zbd (id:=121) (caps:=[]) rfl (Zu (v:=v_l) rfl zx) ca'2 ?_
   have hO'2:=hO'1.call hW'2 rfl
   refine Zd (.tu [.ag [v'1,v'2,v'3,v'4],.b x2]) rfl (Zg (Zb6 (vs:=[.ag [v'1,v'2,v'3,v'4],.b x2]) (v:=.ag [v'1,v'2,v'3,v'4]) rfl rfl) (Zg (Zb6 (vs:=[.ag [v'1,v'2,v'3,v'4],.b x2]) (v:=.b x2) rfl rfl) (zQ (hO'2.alloc (cs:=[.sn,.sn,.sn,.sn]) hO'2.fr) ?_)))
   rintro _ k'3 ⟨r'1,rfl,n'1,f'1,hW⟩
   have hO'3:=hW
   refine zQ (hO'3.stb (ws:=[v'1,v'2,v'3,v'4]) (cs':=[v'1,v'2,v'3,v'4]) (v:=.ag [v'1,v'2,v'3,v'4]) 6 rfl rfl rfl rfl ⟨rfl,Nat.le_of_ble_eq_true rfl,(all_cons (hO'3.sl 0 rfl).oneV (all_cons (hO'3.sl 1 rfl).oneV (all_cons (hO'3.sl 2 rfl).oneV (all_cons (hO'3.sl 4 rfl).oneV all_nil))))⟩ rfl) ?_
   rintro _ k'4 ⟨rfl,f'2,m'1,hW⟩
   have hO'4:=hW
   refine Zd (.b x2) rfl (Zb (Za (Zh (Zk (Zg (Zb7 (cs:=[v'1,v'2,v'3,v'4]) (ws:=[v'1,v'2,v'3,v'4]) (hO'4.box 6 rfl) rfl rfl) ?_)))))
   obtain ⟨x3,hx'3,hp⟩:=Zq hp
   obtain ⟨u'3,k'5,ca'3,v'5,rfl,hW'3⟩:=zJ.ok (h:=k'4)  (hO'4.sl 0 rfl) (hO'4.sl 1 rfl) (hO'4.sl 2 rfl) (hO'4.allLen 3 rfl:(vs'1).length = (x1.Vert).length) (fun j hj=>hO'4.inn 3 rfl hj) (hO'4.sl 4 rfl) (hO'4.allLen 5 rfl:(vs'2).length = (x1.Horz).length) (fun j hj=>hO'4.inn 5 rfl hj) hx'3
   refine Zbd (id:=188) (caps:=[]) rfl (Zu (v:=.ag [v'1,v'2,v'3,v'4]) rfl zx) ca'3 ?_
   have hO'5:=hO'4.call hW'3 rfl
   refine Zd v'5 rfl (Zb (Za (Zh (Zh (Zk (Zd (.n 0) rfl (Zb ?_)))))))
   refine Za (Zaq ?_)
   obtain ⟨o'1,ho'1,hp⟩:=Zq hp
   refine W.mono (Q:=fun e fr k=>match (generalizing:=false) o'1 with
     | .inl _=>e = (.exit 0)∧Own B h k []
     | .inr _=>e = .ret∧fr 4 = .b false∧Own B h k []) ?_ ?_
   ·clear hp
    refine zP (fun st fr k=>match st with | i=>fr 1 = v_at_∧fr 6 = .p r'1 0∧fr 8 = v'5∧fr 9 = .n i∧Own B h k [ZbF r'1 [v'1,v'2,v'3,v'4],eSl ZM v'1 x1.X,eSl ZM v'2 x1.Y,eSl eV v'3 vs'1,ZbE ZM vs'1 x1.Vert,eSl eV v'4 vs'2,ZbE ZM vs'2 x1.Horz,eSl ZD v'5 x3]) ho'1 (s:=0) ⟨rfl,rfl,rfl,rfl,(hO'5.pick [6,0,1,2,3,4,5,7] rfl (by decide))⟩ ?_
    rintro i q'2 k'7 ⟨q'2_1,q'2_6,q'2_8,q'2_9,hO'7⟩ o'2 hp
    dsimp only [z8.s0] at hp
    refine Zh (Zh (Zk (Zd (.n i) q'2_9 (Zd v'5 q'2_8 (Zg (Zau (hO'7.sl 7 rfl) rfl) (Zg (zN (a:=i) (b:=(x3.length:Int)) rfl rfl) (Zb ?_)))))))
    refine Za ?_
    rcases Zp hp with ⟨b'3,hp⟩ | ⟨b'3,hp⟩
    ·refine zA (t:=(decide (i < (x3.length:Int)))) rfl b'3 ?_
     refine zD (Za (Zh (Zaq (Zh (Zk (Zd (.n i) q'2_9 ?_))))))
     obtain ⟨c'1,hp⟩:=Zj hp
     refine Zg (z6 (a:=i) (b:=1) rfl rfl c'1) (Zd (.n (i + 1)) rfl (Zb (Za (Zaq ?_))))
     obtain ⟨o'3,ho'2,hp⟩:=Zq hp
     refine W.mono (Q:=fun e fr k=>match (generalizing:=false) o'3 with
       | .inl _=>e = (.exit 2)∧fr 1 = v_at_∧fr 6 = .p r'1 0∧fr 8 = v'5∧fr 9 = .n i∧Own B h k [ZbF r'1 [v'1,v'2,v'3,v'4],eSl ZM v'1 x1.X,eSl ZM v'2 x1.Y,eSl eV v'3 vs'1,ZbE ZM vs'1 x1.Vert,eSl eV v'4 vs'2,ZbE ZM vs'2 x1.Horz,eSl ZD v'5 x3]
       | .inr _=>e = .ret∧fr 4 = .b false∧Own B h k []) ?_ ?_
     ·clear hp
      refine zP (fun st fr k=>match st with | k_=>fr 1 = v_at_∧fr 6 = .p r'1 0∧fr 8 = v'5∧fr 9 = .n i∧fr 10 = .n k_∧Own B h k [ZbF r'1 [v'1,v'2,v'3,v'4],eSl ZM v'1 x1.X,eSl ZM v'2 x1.Y,eSl eV v'3 vs'1,ZbE ZM vs'1 x1.Vert,eSl eV v'4 vs'2,ZbE ZM vs'2 x1.Horz,eSl ZD v'5 x3]) ho'2 (s:=i + 1) ⟨q'2_1,q'2_6,q'2_8,q'2_9,rfl,(hO'7.pick [0,1,2,3,4,5,6,7] rfl (by decide))⟩ ?_
      rintro k_ q'4 k'9 ⟨q'4_1,q'4_6,q'4_8,q'4_9,q'4_10,hO'9⟩ o'4 hp
      dsimp only [z8.s1] at hp
      refine Zh (Zh (Zk (Zd (.n k_) q'4_10 (Zd v'5 q'4_8 (Zg (Zau (hO'9.sl 7 rfl) rfl) (Zg (zN (a:=k_) (b:=(x3.length:Int)) rfl rfl) (Zb ?_)))))))
      refine Za ?_
      rcases Zp hp with ⟨b'4,hp⟩ | ⟨b'4,hp⟩
      ·refine zA (t:=(decide (k_ < (x3.length:Int)))) rfl b'4 ?_
       refine zD (Za (Zh (Zaq (Zh (Zfi ?_)))))
       have hW:=hO'9.bump 23
       have fr'1:=Fresh.start k'9 23
       have nb'1:∀ {i:Nat},h.n≤k'9.n + i:=Nat.le_trans hO'9.n (Nat.le_add_right _ _)
       have hO'10:=hW
       refine z9 (Zb7 (cs:=[v'1,v'2,v'3,v'4]) (ws:=[v'1,v'2,v'3,v'4]) (hO'10.box 0 rfl) q'4_6 rfl) (ZaS v'5 q'4_8 (ZaS (.n i) q'4_9 ?_))
       obtain ⟨c'2,hp⟩:=Zj hp
       refine z9 (zf (E:=ZD) (z:=i) (hO'10.sl 7 rfl) rfl rfl c'2) (z9 (Za1 (off':=0) (off2:=0) (hO'10.sl 7 rfl) (Zi c'2) rfl rfl) (z9 (zB (w:=.b ((gi x3 i.toNat).Vertical)) (hO'10.sl 7 rfl) rfl (Zi c'2) rfl) (ZaS v'5 q'4_8 (ZaS (.n i) q'4_9 (z9 (zf (E:=ZD) (z:=i) (hO'10.sl 7 rfl) rfl rfl c'2) (z9 (Za1 (off':=0) (off2:=1) (hO'10.sl 7 rfl) (Zi c'2) rfl rfl) (z9 (zB (w:=.n ((gi x3 i.toNat).Place)) (hO'10.sl 7 rfl) rfl (Zi c'2) rfl) ?_)))))))
       refine ZaS v'5 q'4_8 (ZaS (.n k_) q'4_10 ?_)
       obtain ⟨c'3,hp⟩:=Zj hp
       refine z9 (zf (E:=ZD) (z:=k_) (hO'10.sl 7 rfl) rfl rfl c'3) (z9 (Za1 (off':=0) (off2:=0) (hO'10.sl 7 rfl) (Zi c'3) rfl rfl) (z9 (zB (w:=.b ((gi x3 k_.toNat).Vertical)) (hO'10.sl 7 rfl) rfl (Zi c'3) rfl) (ZaS v'5 q'4_8 (ZaS (.n k_) q'4_10 (z9 (zf (E:=ZD) (z:=k_) (hO'10.sl 7 rfl) rfl rfl c'3) (z9 (Za1 (off':=0) (off2:=1) (hO'10.sl 7 rfl) (Zi c'3) rfl rfl) (z9 (zB (w:=.n ((gi x3 k_.toNat).Place)) (hO'10.sl 7 rfl) rfl (Zi c'3) rfl) ?_)))))))
       obtain ⟨x4,hx'4,hp⟩:=Zq hp
       obtain ⟨u'4,k'11,ca'4,rfl,hW'4⟩:=Zao.ok (h:=(k'9.bump 23))  (hO'10.sl 1 rfl) (hO'10.sl 2 rfl) (hO'10.sl 3 rfl) (hO'10.allLen 4 rfl:(vs'1).length = (x1.Vert).length) (fun j hj=>hO'10.inn 4 rfl hj) (hO'10.sl 5 rfl) (hO'10.allLen 6 rfl:(vs'2).length = (x1.Horz).length) (fun j hj=>hO'10.inn 6 rfl hj) hx'4
       refine Zgf (id:=124) (caps:=[]) rfl (Zu (v:=.ag [v'1,v'2,v'3,v'4]) rfl (Zu (v:=.b ((gi x3 i.toNat).Vertical)) rfl (Zu (v:=.n ((gi x3 i.toNat).Place)) rfl (Zu (v:=.b ((gi x3 k_.toNat).Vertical)) rfl (Zu (v:=.n ((gi x3 k_.toNat).Place)) rfl zx))))) ca'4 ?_
       have fr'2:=fr'1.call hW'4
       have hO'11:=hO'10.call hW'4 rfl
       refine ZaS (.b x4) rfl (Zcu ?_)
       refine And.intro ?_ ?_
       ·intro q hq
        simp only [List.mem_cons,List.not_mem_nil,or_false] at hq
        rcases hq with rfl | rfl | rfl | rfl | rfl | rfl | rfl | rfl | rfl | rfl
        ·refine ZaF ?_ ?_
         ·exact (fun h=>nomatch h)
         ·exact (fun h=>nomatch h)
        ·refine ZaF ?_ ?_
         ·exact (fun h=>nomatch h)
         ·exact (fun h=>nomatch h)
        ·refine ZaF ?_ ?_
         ·exact (fun h=>nomatch h)
         ·exact (fun h=>nomatch h)
        ·refine ZaF ?_ ?_
         ·exact (fun h=>nomatch h)
         ·exact (fun h=>nomatch h)
        ·refine ZaF ?_ ?_
         ·exact (fun h=>nomatch h)
         ·exact (fun h=>nomatch h)
        ·refine ZaF ?_ ?_
         ·exact (fun h=>nomatch h)
         ·exact (fun h=>nomatch h)
        ·refine ZaF ?_ ?_
         ·exact (fun h=>nomatch h)
         ·exact (fun h=>nomatch h)
        ·refine ZaF ?_ ?_
         ·exact (fun h=>nomatch h)
         ·exact (fun h=>nomatch h)
        ·refine ZaF ?_ ?_
         ·exact (fun h=>nomatch h)
         ·exact (fun h=>nomatch h)
        ·refine ZaF ?_ ?_
         ·exact (fun h=>nomatch h)
         ·exact (fun h=>nomatch h)
       refine Za (Zh (Zfi ?_))
       have hW:=hO'11.bump 14
       have fr'3:=Fresh.start k'11 14
       have nb'2:∀ {i:Nat},h.n≤k'11.n + i:=Nat.le_trans hO'11.n (Nat.le_add_right _ _)
       have hO'12:=hW
       refine z9 (Zb7 (cs:=[v'1,v'2,v'3,v'4]) (ws:=[v'1,v'2,v'3,v'4]) (hO'12.box 0 rfl) q'4_6 rfl) (ZaS v'5 q'4_8 (ZaS (.n i) q'4_9 (z9 (zf (E:=ZD) (z:=i) (hO'12.sl 7 rfl) rfl rfl c'2) (z9 (Zd5 (E:=ZD) (hO'12.sl 7 rfl) rfl (Zi c'2)) (ZaS v_at_ q'4_1 ?_)))))
       obtain ⟨⟨x5,x6⟩,hx'5,hp⟩:=Zq hp
       obtain ⟨u'5,k'13,ca'5,rfl,hW'5⟩:=Zbo.ok (h:=(k'11.bump 14))  (hO'12.sl 1 rfl) (hO'12.sl 2 rfl) (hO'12.sl 3 rfl) (hO'12.allLen 4 rfl:(vs'1).length = (x1.Vert).length) (fun j hj=>hO'12.inn 4 rfl hj) (hO'12.sl 5 rfl) (hO'12.allLen 6 rfl:(vs'2).length = (x1.Horz).length) (fun j hj=>hO'12.inn 6 rfl hj) (hO'12.rd0 s_at_.rd) hx'5
       refine Zgf (id:=274) (caps:=[]) rfl (Zu (v:=.ag [v'1,v'2,v'3,v'4]) rfl (Zu (v:=.ag (ZD.c (gi x3 i.toNat))) rfl (Zu (v:=v_at_) rfl zx))) ca'5 ?_
       have fr'4:=fr'3.call hW'5
       have hO'13:=hO'12.call hW'5 rfl
       refine ZaS (.tu [.ag (Zc.c x5),.ag (Zc.c x6)]) rfl (z9 (Zb6 (vs:=[.ag (Zc.c x5),.ag (Zc.c x6)]) (v:=.ag (Zc.c x5)) rfl rfl) (z9 (Zb6 (vs:=[.ag (Zc.c x5),.ag (Zc.c x6)]) (v:=.ag (Zc.c x6)) rfl rfl) (Ze5 (hO'13.alloc (cs:=Zc.c (⟨0,0⟩:Zf)) ⟨fr'4.m 10 (by decide) (by decide),nb'2⟩) ?_)))
       rintro _ k'14 z'1 ⟨r'2,rfl,n'2,f'3,hW⟩
       have fr'5:=fr'4.kept f'3 (by decide)
       have hO'14:=hW
       refine Ze5 (hO'14.alloc (cs:=Zc.c (⟨0,0⟩:Zf)) ⟨fr'5.m 11 (by decide) (by decide),nb'2⟩) ?_
       rintro _ k'15 z'2 ⟨r'3,rfl,n'3,f'4,hW⟩
       have fr'6:=fr'5.kept f'4 (by decide)
       have hO'15:=hW
       refine Ze5 (hO'15.stb (ws:=Zc.c x5) (cs':=Zc.c x5) (v:=.ag (Zc.c x5)) 8 rfl rfl rfl rfl ⟨rfl,Nat.le_of_ble_eq_true rfl,rfl⟩ rfl) ?_
       rintro _ k'16 z'3 ⟨rfl,f'5,m'2,hW⟩
       have fr'7:=fr'6.kept f'5 (by decide)
       have hO'16:=hW
       refine Ze5 (hO'16.stb (ws:=Zc.c x6) (cs':=Zc.c x6) (v:=.ag (Zc.c x6)) 9 rfl rfl rfl rfl ⟨rfl,Nat.le_of_ble_eq_true rfl,rfl⟩ rfl) ?_
       rintro _ k'17 z'4 ⟨rfl,f'6,m'3,hW⟩
       have fr'8:=fr'7.kept f'6 (by decide)
       have hO'17:=hW
       refine Zcu ?_
       refine And.intro ?_ ?_
       ·intro q hq
        simp only [List.mem_cons,List.not_mem_nil,or_false] at hq
        rcases hq with rfl | rfl | rfl | rfl | rfl | rfl | rfl | rfl
        ·refine ZaF ?_ ?_
         ·exact (fun h=>nomatch h)
         ·exact (fun h=>nomatch h)
        ·refine ZaF ?_ ?_
         ·exact (fun h=>nomatch h)
         ·exact (fun _ hm=>Nat.lt_irrefl _ (Nat.lt_of_lt_of_le (hO'11.ltAt 0 rfl _ (tch (v:=V.p r'1 0) (ZcH hm) q'4_6)) (Nat.le_add_right _ _)))
        ·refine ZaF ?_ ?_
         ·exact (fun h=>nomatch h)
         ·exact (fun _ hm=>Nat.lt_irrefl _ (Nat.lt_of_lt_of_le (hO'11.ltAt 7 rfl _ (Zct (tch (v:=V.elt v'5 i.toNat 0) (ZcH hm) rfl))) (Nat.le_add_right _ _)))
        ·refine Zgn rfl ?_
         ·exact (fun r hm hc=>nomatch hm)
        ·refine ZaF ?_ ?_
         ·exact (fun h=>nomatch h)
         ·exact (fun _ hm=>Nat.lt_irrefl _ (Nat.lt_of_lt_of_le (hO'11.ltAt 0 rfl _ (tch (v:=V.p r'1 0) (ZcH hm) q'4_6)) (Nat.le_add_right _ _)))
        ·refine ZaF ?_ ?_
         ·exact (fun h=>nomatch h)
         ·exact (fun _ hm=>Nat.lt_irrefl _ (Nat.lt_of_lt_of_le (hO'11.ltAt 7 rfl _ (Zct (tch (v:=V.elt v'5 i.toNat 0) (ZcH hm) rfl))) (Nat.le_add_right _ _)))
        ·refine Zgn rfl ?_
         ·exact (fun r hm hc=>nomatch hm)
        ·refine ZaF ?_ ?_
         ·exact (fun _=>List.not_mem_nil)
         ·exact (fun _=>List.not_mem_nil)
       refine Za (Zh (Zfi ?_))
       have hW:=hO'17.bump 14
       have fr'9:=Fresh.start k'17 14
       have nb'3:∀ {i:Nat},h.n≤k'17.n + i:=Nat.le_trans hO'17.n (Nat.le_add_right _ _)
       have hO'18:=hW
       refine z9 (Zb7 (cs:=[v'1,v'2,v'3,v'4]) (ws:=[v'1,v'2,v'3,v'4]) (hO'18.box 0 rfl) q'4_6 rfl) (ZaS v'5 q'4_8 (ZaS (.n k_) q'4_10 (z9 (zf (E:=ZD) (z:=k_) (hO'18.sl 7 rfl) rfl rfl c'3) (z9 (Zd5 (E:=ZD) (hO'18.sl 7 rfl) rfl (Zi c'3)) (ZaS v_at_ q'4_1 ?_)))))
       obtain ⟨⟨x7,x8⟩,hx'6,hp⟩:=Zq hp
       obtain ⟨u'6,k'19,ca'6,rfl,hW'6⟩:=Zbo.ok (h:=(k'17.bump 14))  (hO'18.sl 1 rfl) (hO'18.sl 2 rfl) (hO'18.sl 3 rfl) (hO'18.allLen 4 rfl:(vs'1).length = (x1.Vert).length) (fun j hj=>hO'18.inn 4 rfl hj) (hO'18.sl 5 rfl) (hO'18.allLen 6 rfl:(vs'2).length = (x1.Horz).length) (fun j hj=>hO'18.inn 6 rfl hj) (hO'18.rd0 s_at_.rd) hx'6
       refine Zgf (id:=274) (caps:=[]) rfl (Zu (v:=.ag [v'1,v'2,v'3,v'4]) rfl (Zu (v:=.ag (ZD.c (gi x3 k_.toNat))) rfl (Zu (v:=v_at_) rfl zx))) ca'6 ?_
       have fr'10:=fr'9.call hW'6
       have hO'19:=hO'18.call hW'6 rfl
       refine ZaS (.tu [.ag (Zc.c x7),.ag (Zc.c x8)]) rfl (z9 (Zb6 (vs:=[.ag (Zc.c x7),.ag (Zc.c x8)]) (v:=.ag (Zc.c x7)) rfl rfl) (z9 (Zb6 (vs:=[.ag (Zc.c x7),.ag (Zc.c x8)]) (v:=.ag (Zc.c x8)) rfl rfl) (Ze5 (hO'19.alloc (cs:=Zc.c (⟨0,0⟩:Zf)) ⟨fr'10.m 10 (by decide) (by decide),nb'3⟩) ?_)))
       rintro _ k'20 z'5 ⟨r'4,rfl,n'4,f'7,hW⟩
       have fr'11:=fr'10.kept f'7 (by decide)
       have hO'20:=hW
       refine Ze5 (hO'20.alloc (cs:=Zc.c (⟨0,0⟩:Zf)) ⟨fr'11.m 11 (by decide) (by decide),nb'3⟩) ?_
       rintro _ k'21 z'6 ⟨r'5,rfl,n'5,f'8,hW⟩
       have fr'12:=fr'11.kept f'8 (by decide)
       have hO'21:=hW
       refine Ze5 (hO'21.stb (ws:=Zc.c x7) (cs':=Zc.c x7) (v:=.ag (Zc.c x7)) 10 rfl rfl rfl rfl ⟨rfl,Nat.le_of_ble_eq_true rfl,rfl⟩ rfl) ?_
       rintro _ k'22 z'7 ⟨rfl,f'9,m'4,hW⟩
       have fr'13:=fr'12.kept f'9 (by decide)
       have hO'22:=hW
       refine Ze5 (hO'22.stb (ws:=Zc.c x8) (cs':=Zc.c x8) (v:=.ag (Zc.c x8)) 11 rfl rfl rfl rfl ⟨rfl,Nat.le_of_ble_eq_true rfl,rfl⟩ rfl) ?_
       rintro _ k'23 z'8 ⟨rfl,f'10,m'5,hW⟩
       have fr'14:=fr'13.kept f'10 (by decide)
       have hO'23:=hW
       refine Zcu ?_
       refine And.intro ?_ ?_
       ·intro q hq
        simp only [List.mem_cons,List.not_mem_nil,or_false] at hq
        rcases hq with rfl | rfl | rfl | rfl | rfl | rfl | rfl | rfl
        ·refine ZaF ?_ ?_
         ·exact (fun h=>nomatch h)
         ·exact (fun h=>nomatch h)
        ·refine ZaF ?_ ?_
         ·exact (fun h=>nomatch h)
         ·exact (fun _ hm=>Nat.lt_irrefl _ (Nat.lt_of_lt_of_le (hO'17.ltAt 0 rfl _ (tch (v:=V.p r'1 0) (ZcH hm) q'4_6)) (Nat.le_add_right _ _)))
        ·refine ZaF ?_ ?_
         ·exact (fun h=>nomatch h)
         ·exact (fun _ hm=>Nat.lt_irrefl _ (Nat.lt_of_lt_of_le (hO'17.ltAt 7 rfl _ (Zct (tch (v:=V.elt v'5 k_.toNat 0) (ZcH hm) rfl))) (Nat.le_add_right _ _)))
        ·refine Zgn rfl ?_
         ·exact (fun r hm hc=>nomatch hm)
        ·refine ZaF ?_ ?_
         ·exact (fun h=>nomatch h)
         ·exact (fun _ hm=>Nat.lt_irrefl _ (Nat.lt_of_lt_of_le (hO'17.ltAt 0 rfl _ (tch (v:=V.p r'1 0) (ZcH hm) q'4_6)) (Nat.le_add_right _ _)))
        ·refine ZaF ?_ ?_
         ·exact (fun h=>nomatch h)
         ·exact (fun _ hm=>Nat.lt_irrefl _ (Nat.lt_of_lt_of_le (hO'17.ltAt 7 rfl _ (Zct (tch (v:=V.elt v'5 k_.toNat 0) (ZcH hm) rfl))) (Nat.le_add_right _ _)))
        ·refine Zgn rfl ?_
         ·exact (fun r hm hc=>nomatch hm)
        ·refine ZaF ?_ ?_
         ·exact (fun _=>List.not_mem_nil)
         ·exact (fun _=>List.not_mem_nil)
       refine Za (Zh (Zk (Zg (ZaL (r:=r'3) (o:=0) (o':=0) rfl rfl) (Zg (Zac (cs:=(Zc.c x6)) (v:=.n x6.X) (hO'23.box 9 rfl) rfl rfl) (Zg (ZaL (r:=r'4) (o:=0) (o':=0) rfl rfl) (Zg (Zac (cs:=(Zc.c x7)) (v:=.n x7.X) (hO'23.box 10 rfl) rfl rfl) (Zg (zN (a:=x6.X) (b:=x7.X) rfl rfl) ?_)))))))
       refine Zd (.b (decide (x6.X < x7.X))) rfl ?_
       refine Za0 6 (fun fr' k'=>k'23 = k'∧fr' 101 = .b ((decide (x6.X < x7.X)) || (decide (x8.X < x5.X)))∧fr' 1 = v_at_∧fr' 10 = .n k_∧fr' 11 = .b x4∧fr' 12 = .p r'2 0∧fr' 13 = .p r'3 0∧fr' 14 = .p r'4 0∧fr' 15 = .p r'5 0∧fr' 6 = .p r'1 0∧fr' 8 = v'5∧fr' 9 = .n i) ?_ ?_
       ·rcases bc (decide (x6.X < x7.X)) with b'5 | b'5
        ·skip
         refine Zv rfl b'5 (Zv rfl b'5 (Zv rfl b'5 (Zv rfl b'5 (Zv rfl b'5 (Zg (zr (t:=(decide (x6.X < x7.X))) (v:=.b ((decide (x6.X < x7.X)) || (decide (x8.X < x5.X)))) rfl b'5 (Eq.trans (b:=V.b true) rfl (Zbx b'5))) (Zb ?_))))))
         exact ⟨rfl,rfl,q'4_1,q'4_10,rfl,rfl,rfl,rfl,rfl,q'4_6,q'4_8,q'4_9⟩
        ·skip
         refine Z8 rfl b'5 (Zg (ZaL (r:=r'5) (o:=0) (o':=0) rfl rfl) (Z8 rfl b'5 (Zg (Zac (cs:=(Zc.c x8)) (v:=.n x8.X) (hO'23.box 11 rfl) rfl rfl) (Z8 rfl b'5 (Zg (ZaL (r:=r'2) (o:=0) (o':=0) rfl rfl) (Z8 rfl b'5 (Zg (Zac (cs:=(Zc.c x5)) (v:=.n x5.X) (hO'23.box 8 rfl) rfl rfl) ?_)))))))
         refine Z8 rfl b'5 (Zg (zN (a:=x8.X) (b:=x5.X) rfl rfl) (Zg (zm (t:=(decide (x6.X < x7.X))) (v:=.b ((decide (x6.X < x7.X)) || (decide (x8.X < x5.X)))) rfl b'5 (Eq.trans (b:=V.b (decide (x8.X < x5.X))) rfl (Zca b'5))) (Zb ?_)))
         exact ⟨rfl,rfl,q'4_1,q'4_10,rfl,rfl,rfl,rfl,rfl,q'4_6,q'4_8,q'4_9⟩
       rintro frg'1 _ ⟨rfl,g'1_101,g'1_1,g'1_10,g'1_11,g'1_12,g'1_13,g'1_14,g'1_15,g'1_6,g'1_8,g'1_9⟩
       refine Zd (.b ((decide (x6.X < x7.X)) || (decide (x8.X < x5.X)))) g'1_101 ?_
       refine Za0 6 (fun fr' k'=>k'23 = k'∧fr' 108 = .b (((decide (x6.X < x7.X)) || (decide (x8.X < x5.X))) || (decide (x6.Y < x7.Y)))∧fr' 1 = v_at_∧fr' 10 = .n k_∧fr' 11 = .b x4∧fr' 12 = .p r'2 0∧fr' 15 = .p r'5 0∧fr' 6 = .p r'1 0∧fr' 8 = v'5∧fr' 9 = .n i) ?_ ?_
       ·rcases bc ((decide (x6.X < x7.X)) || (decide (x8.X < x5.X))) with b'6 | b'6
        ·skip
         refine Zv rfl b'6 (Zv rfl b'6 (Zv rfl b'6 (Zv rfl b'6 (Zv rfl b'6 (Zg (zr (t:=((decide (x6.X < x7.X)) || (decide (x8.X < x5.X)))) (v:=.b (((decide (x6.X < x7.X)) || (decide (x8.X < x5.X))) || (decide (x6.Y < x7.Y)))) rfl b'6 (Eq.trans (b:=V.b true) rfl (Zbx b'6))) (Zb ?_))))))
         exact ⟨rfl,rfl,g'1_1,g'1_10,g'1_11,g'1_12,g'1_15,g'1_6,g'1_8,g'1_9⟩
        ·skip
         refine Z8 rfl b'6 (Zg (ZaL (r:=r'3) (o:=0) (o':=1) g'1_13 rfl) (Z8 rfl b'6 (Zg (Zac (cs:=(Zc.c x6)) (v:=.n x6.Y) (hO'23.box 9 rfl) rfl rfl) (Z8 rfl b'6 (Zg (ZaL (r:=r'4) (o:=0) (o':=1) g'1_14 rfl) (Z8 rfl b'6 (Zg (Zac (cs:=(Zc.c x7)) (v:=.n x7.Y) (hO'23.box 10 rfl) rfl rfl) ?_)))))))
         refine Z8 rfl b'6 (Zg (zN (a:=x6.Y) (b:=x7.Y) rfl rfl) (Zg (zm (t:=((decide (x6.X < x7.X)) || (decide (x8.X < x5.X)))) (v:=.b (((decide (x6.X < x7.X)) || (decide (x8.X < x5.X))) || (decide (x6.Y < x7.Y)))) rfl b'6 (Eq.trans (b:=V.b (decide (x6.Y < x7.Y))) rfl (Zca b'6))) (Zb ?_)))
         exact ⟨rfl,rfl,g'1_1,g'1_10,g'1_11,g'1_12,g'1_15,g'1_6,g'1_8,g'1_9⟩
       rintro frg'2 _ ⟨rfl,g'2_108,g'2_1,g'2_10,g'2_11,g'2_12,g'2_15,g'2_6,g'2_8,g'2_9⟩
       refine Zd (.b (((decide (x6.X < x7.X)) || (decide (x8.X < x5.X))) || (decide (x6.Y < x7.Y)))) g'2_108 ?_
       refine Za0 6 (fun fr' k'=>k'23 = k'∧fr' 115 = .b ((((decide (x6.X < x7.X)) || (decide (x8.X < x5.X))) || (decide (x6.Y < x7.Y))) || (decide (x8.Y < x5.Y)))∧fr' 1 = v_at_∧fr' 10 = .n k_∧fr' 11 = .b x4∧fr' 6 = .p r'1 0∧fr' 8 = v'5∧fr' 9 = .n i) ?_ ?_
       ·rcases bc (((decide (x6.X < x7.X)) || (decide (x8.X < x5.X))) || (decide (x6.Y < x7.Y))) with b'7 | b'7
        ·skip
         refine Zv rfl b'7 (Zv rfl b'7 (Zv rfl b'7 (Zv rfl b'7 (Zv rfl b'7 (Zg (zr (t:=(((decide (x6.X < x7.X)) || (decide (x8.X < x5.X))) || (decide (x6.Y < x7.Y)))) (v:=.b ((((decide (x6.X < x7.X)) || (decide (x8.X < x5.X))) || (decide (x6.Y < x7.Y))) || (decide (x8.Y < x5.Y)))) rfl b'7 (Eq.trans (b:=V.b true) rfl (Zbx b'7))) (Zb ?_))))))
         exact ⟨rfl,rfl,g'2_1,g'2_10,g'2_11,g'2_6,g'2_8,g'2_9⟩
        ·skip
         refine Z8 rfl b'7 (Zg (ZaL (r:=r'5) (o:=0) (o':=1) g'2_15 rfl) (Z8 rfl b'7 (Zg (Zac (cs:=(Zc.c x8)) (v:=.n x8.Y) (hO'23.box 11 rfl) rfl rfl) (Z8 rfl b'7 (Zg (ZaL (r:=r'2) (o:=0) (o':=1) g'2_12 rfl) (Z8 rfl b'7 (Zg (Zac (cs:=(Zc.c x5)) (v:=.n x5.Y) (hO'23.box 8 rfl) rfl rfl) ?_)))))))
         refine Z8 rfl b'7 (Zg (zN (a:=x8.Y) (b:=x5.Y) rfl rfl) (Zg (zm (t:=(((decide (x6.X < x7.X)) || (decide (x8.X < x5.X))) || (decide (x6.Y < x7.Y)))) (v:=.b ((((decide (x6.X < x7.X)) || (decide (x8.X < x5.X))) || (decide (x6.Y < x7.Y))) || (decide (x8.Y < x5.Y)))) rfl b'7 (Eq.trans (b:=V.b (decide (x8.Y < x5.Y))) rfl (Zca b'7))) (Zb ?_)))
         exact ⟨rfl,rfl,g'2_1,g'2_10,g'2_11,g'2_6,g'2_8,g'2_9⟩
       rintro frg'3 _ ⟨rfl,g'3_115,g'3_1,g'3_10,g'3_11,g'3_6,g'3_8,g'3_9⟩
       refine Zd (.b ((((decide (x6.X < x7.X)) || (decide (x8.X < x5.X))) || (decide (x6.Y < x7.Y))) || (decide (x8.Y < x5.Y)))) g'3_115 (Zb (Za (Zh (Zk (Zd (.b x4) g'3_11 (Zg (Zc3 (t:=x4) rfl) (Zd (.b (!x4)) rfl ?_)))))))
       refine Za0 3 (fun fr' k'=>k'23 = k'∧fr' 121 = .b ((!x4) && (!((((decide (x6.X < x7.X)) || (decide (x8.X < x5.X))) || (decide (x6.Y < x7.Y))) || (decide (x8.Y < x5.Y)))))∧fr' 1 = v_at_∧fr' 10 = .n k_∧fr' 6 = .p r'1 0∧fr' 8 = v'5∧fr' 9 = .n i) ?_ ?_
       ·rcases bc (!x4) with b'8 | b'8
        ·skip
         refine Z8 rfl b'8 (Zd (.b ((((decide (x6.X < x7.X)) || (decide (x8.X < x5.X))) || (decide (x6.Y < x7.Y))) || (decide (x8.Y < x5.Y)))) rfl (Z8 rfl b'8 (Zg (Zc3 (t:=((((decide (x6.X < x7.X)) || (decide (x8.X < x5.X))) || (decide (x6.Y < x7.Y))) || (decide (x8.Y < x5.Y)))) rfl) (Zg (zr (t:=(!x4)) (v:=.b ((!x4) && (!((((decide (x6.X < x7.X)) || (decide (x8.X < x5.X))) || (decide (x6.Y < x7.Y))) || (decide (x8.Y < x5.Y)))))) rfl b'8 (Eq.trans (b:=V.b (!((((decide (x6.X < x7.X)) || (decide (x8.X < x5.X))) || (decide (x6.Y < x7.Y))) || (decide (x8.Y < x5.Y))))) rfl (Zd7 b'8))) (Zb ?_)))))
         exact ⟨rfl,rfl,g'3_1,g'3_10,g'3_6,g'3_8,g'3_9⟩
        ·skip
         refine Zv rfl b'8 (Zv rfl b'8 (Zg (zm (t:=(!x4)) (v:=.b ((!x4) && (!((((decide (x6.X < x7.X)) || (decide (x8.X < x5.X))) || (decide (x6.Y < x7.Y))) || (decide (x8.Y < x5.Y)))))) rfl b'8 (Eq.trans (b:=V.b false) rfl (ZcN b'8))) (Zb ?_)))
         exact ⟨rfl,rfl,g'3_1,g'3_10,g'3_6,g'3_8,g'3_9⟩
       rintro frg'4 _ ⟨rfl,g'4_121,g'4_1,g'4_10,g'4_6,g'4_8,g'4_9⟩
       refine Zb (Za ?_)
       rcases Zp hp with ⟨b'9,hp⟩ | ⟨b'9,hp⟩
       ·refine zA (t:=((!x4) && (!((((decide (x6.X < x7.X)) || (decide (x8.X < x5.X))) || (decide (x6.Y < x7.Y))) || (decide (x8.Y < x5.Y)))))) g'4_121 b'9 ?_
        refine Zh (Zk (Zd (.b false) rfl (Zb (Za (Zad (ZaP (zk ?_)))))))
        cases hp
        refine (Or.inr ⟨.inr (),rfl,(fun h=>nomatch h),(fun he=>?_)⟩)
        subst he; exact ⟨rfl,rfl,(hO'23.pick [] rfl (by decide))⟩
       ·refine z7 (t:=((!x4) && (!((((decide (x6.X < x7.X)) || (decide (x8.X < x5.X))) || (decide (x6.Y < x7.Y))) || (decide (x8.Y < x5.Y)))))) g'4_121 b'9 ?_
        refine zD (Zan (Za (Zk (Zd (.n k_) g'4_10 ?_))))
        obtain ⟨c'4,hp⟩:=Zj hp
        refine Zg (z6 (a:=k_) (b:=1) rfl rfl c'4) (Zd (.n (k_ + 1)) rfl (Zb ?_))
        cases hp
        exact (Or.inl ⟨k_ + 1,rfl,rfl,g'4_1,g'4_6,g'4_8,g'4_9,rfl,(hO'23.pick [0,1,2,3,4,5,6,7] rfl (by decide))⟩)
      ·refine z7 (t:=(decide (k_ < (x3.length:Int)))) rfl b'4 ?_
       refine Zbv (zY ?_)
       cases hp
       refine (Or.inr ⟨.inl (),rfl,(fun h=>nomatch h),(fun he=>?_)⟩)
       subst he; exact ⟨rfl,q'4_1,q'4_6,q'4_8,q'4_9,(hO'9.pick [0,1,2,3,4,5,6,7] rfl (by decide))⟩
     intro e'2 q'3 k'8 hJ'2
     rcases o'3 with _ | _
     ·obtain ⟨rfl,q'3_1,q'3_6,q'3_8,q'3_9,hO'8⟩:=hJ'2
      refine ZaD (Zan (Za (Zk (Zd (.n i) q'3_9 (Zg (z6 (a:=i) (b:=1) rfl rfl c'1) (Zd (.n (i + 1)) rfl (Zb ?_)))))))
      cases hp
      exact (Or.inl ⟨i + 1,rfl,rfl,q'3_1,q'3_6,q'3_8,rfl,(hO'8.pick [0,1,2,3,4,5,6,7] rfl (by decide))⟩)
     ·obtain ⟨rfl,q'3_4,hO'8⟩:=hJ'2
      refine ZaP (ZaP (zk ?_))
      cases hp
      refine (Or.inr ⟨.inr (),rfl,(fun h=>nomatch h),(fun he=>?_)⟩)
      subst he; exact ⟨rfl,q'3_4,(hO'8.pick [] rfl (by decide))⟩
    ·refine z7 (t:=(decide (i < (x3.length:Int)))) rfl b'3 ?_
     refine Zbv (zY ?_)
     cases hp
     refine (Or.inr ⟨.inl (),rfl,(fun h=>nomatch h),(fun he=>?_)⟩)
     subst he; exact ⟨rfl,(hO'7.pick [] rfl (by decide))⟩
   intro e'1 q'1 k'6 hJ'1
   rcases o'1 with _ | _
   ·obtain ⟨rfl,hO'6⟩:=hJ'1
    refine ZaD (Za (Zh (Zk (Zd (.b true) rfl (Zb (Za (Zad ?_)))))))
    refine zu (zG (n:=4) (v:=.b true) rfl ZN) ?_
    cases hp
    exact ⟨rfl,(hO'6.pick [] rfl (by decide))⟩
   ·obtain ⟨rfl,q'1_4,hO'6⟩:=hJ'1
    refine ZaP (zk (zu (zG (n:=4) (v:=.b false) q'1_4 ZN) ?_))
    cases hp
    exact ⟨rfl,(hO'6.pick [] rfl (by decide))⟩

theorem Za5.ok {h:Hp} {l:List Ze} {at_:List Zf} {v_l:V} {v_at_:V} (s_l:Sl Zn h v_l l) (s_at_:Sl Zc h v_at_ at_) {r:Int} (hp:Za5 l at_ = some r) :
  ∃ u k',Is G 263 [v_l,v_at_] h u k'∧V.n r = u∧Own (fun r=>r < h.n) h k' []:=by
 refine WC.is (ZaM ZdM ?_)
 unfold Za5 at hp
 let B:Nat→Prop:=(fun r=>r < h.n)
 have hO:Own B h h []:=Own.start0 h
 refine Zh (Zk (Zd (.n 0) rfl (Zb (Za (Zh (Zk (Zd v_l rfl ?_)))))))
 obtain ⟨⟨x,x1⟩,hx'1,hp⟩:=Zq hp
 obtain ⟨u'1,k'1,ca'1,rfl,hW'1⟩:=Za7.ok (h:=h)  (hO.rd0 s_l.rd) hx'1
 refine Zbd (id:=181) (caps:=[]) rfl (Zu (v:=v_l) rfl zx) ca'1 ?_
 have hO'1:=hO.call hW'1 rfl
 refine Zd (.tu [.n x,.n x1]) rfl (Zg (Zb6 (vs:=[.n x,.n x1]) (v:=.n x) rfl rfl) (Zg (Zb6 (vs:=[.n x,.n x1]) (v:=.n x1) rfl rfl) (Zd (.n x) rfl (Zd (.n x1) rfl (Zb (Za (Zh ?_)))))))
 refine Zh (Zk (Zd (.n x1) rfl (Zg (Zck (a:=x1) (b:=0) rfl rfl) (Zb (Za ?_)))))
 rcases Zp hp with ⟨b'1,hp⟩ | ⟨b'1,hp⟩
 ·refine zA (t:=(!(decide (x1 = 0)))) rfl b'1 ?_
  refine Zh (Zk (Zd (.n x1) rfl (Zd (.n x1) rfl (Zb (Za (Zad (zk ?_)))))))
  refine zu (zG (n:=4) (v:=.n x1) rfl ZN) ?_
  cases hp
  exact ⟨rfl,(hO'1.pick [] rfl (by decide))⟩
 ·refine z7 (t:=(!(decide (x1 = 0)))) rfl b'1 ?_
  refine zD (Za (Zh (Zh (Zk (Zd v_at_ rfl (Zg (Zau (hO'1.rd0 s_at_.rd) rfl) (Zd v_l rfl ?_)))))))
  refine Zg (Zau (hO'1.rd0 s_l.rd) rfl) (Zg (Zck (a:=(at_.length:Int)) (b:=(l.length:Int)) rfl rfl) (Zb (Za ?_)))
  rcases Zp hp with ⟨b'2,hp⟩ | ⟨b'2,hp⟩
  ·refine zA (t:=(!(decide ((at_.length:Int) = (l.length:Int))))) rfl b'2 ?_
   refine Zh (Zk (Zd (.n 2) rfl (Zb (Za (Zad (zk (zu (zG (n:=4) (v:=.n 2) rfl ZN) ?_)))))))
   cases hp
   exact ⟨rfl,(hO'1.pick [] rfl (by decide))⟩
  ·refine z7 (t:=(!(decide ((at_.length:Int) = (l.length:Int))))) rfl b'2 ?_
   refine zD (Za (Zh (Zh (Zk (Zd (.n 0) rfl (Zb (Za ?_)))))))
   refine Zaq ?_
   obtain ⟨o'1,ho'1,hp⟩:=Zq hp
   refine W.mono (Q:=fun e fr k=>match (generalizing:=false) o'1 with
     | .inl _=>e = (.exit 0)∧fr 0 = v_l∧fr 1 = v_at_∧Own B h k []
     | .inr _=>e = .ret∧fr 4 = .n 2∧Own B h k []) ?_ ?_
   ·clear hp
    refine zP (fun st fr k=>match st with | i=>fr 0 = v_l∧fr 1 = v_at_∧fr 7 = .n i∧Own B h k []) ho'1 (s:=0) ⟨rfl,rfl,rfl,(hO'1.pick [] rfl (by decide))⟩ ?_
    rintro i q'2 k'3 ⟨q'2_0,q'2_1,q'2_7,hO'3⟩ o'2 hp
    dsimp only [Za5.s0] at hp
    refine Zh (Zh (Zk (Zd (.n i) q'2_7 (Zd v_at_ q'2_1 (Zg (Zau (hO'3.rd0 s_at_.rd) rfl) (Zg (zN (a:=i) (b:=(at_.length:Int)) rfl rfl) (Zb ?_)))))))
    refine Za ?_
    rcases Zp hp with ⟨b'3,hp⟩ | ⟨b'3,hp⟩
    ·refine zA (t:=(decide (i < (at_.length:Int)))) rfl b'3 ?_
     refine zD (Za (Zh (Zaq (Zh (Zk (Zd v_at_ q'2_1 (Zd (.n i) q'2_7 ?_)))))))
     obtain ⟨c'1,hp⟩:=Zj hp
     refine Zg (zf (E:=Zc) (z:=i) (hO'3.rd0 s_at_.rd) rfl rfl c'1) (Zg (Za1 (off':=0) (off2:=0) (hO'3.rd0 s_at_.rd) (Zi c'1) rfl rfl) (Zg (zB (w:=.n ((gi at_ i.toNat).X)) (hO'3.rd0 s_at_.rd) rfl (Zi c'1) rfl) (Zg (ZdP (a:=((gi at_ i.toNat).X)) (b:=1000000) rfl rfl) (Zd (.b (decide (1000000 < ((gi at_ i.toNat).X)))) rfl ?_))))
     refine Za0 7 (fun fr' k'=>k'3 = k'∧fr' 42 = .b ((decide (1000000 < ((gi at_ i.toNat).X))) || (decide (((gi at_ i.toNat).X) < (-1000000))))∧fr' 0 = v_l∧fr' 1 = v_at_∧fr' 7 = .n i) ?_ ?_
     ·rcases bc (decide (1000000 < ((gi at_ i.toNat).X))) with b'4 | b'4
      ·skip
       refine Zv rfl b'4 (Zv rfl b'4 (Zv rfl b'4 (Zv rfl b'4 (Zv rfl b'4 (Zv rfl b'4 (Zg (zr (t:=(decide (1000000 < ((gi at_ i.toNat).X)))) (v:=.b ((decide (1000000 < ((gi at_ i.toNat).X))) || (decide (((gi at_ i.toNat).X) < (-1000000))))) rfl b'4 (Eq.trans (b:=V.b true) rfl (Zbx b'4))) (Zb ?_)))))))
       exact ⟨rfl,rfl,q'2_0,q'2_1,q'2_7⟩
      ·skip
       refine Z8 rfl b'4 (Zd v_at_ q'2_1 (Z8 rfl b'4 (Zd (.n i) q'2_7 (Z8 rfl b'4 (Zg (zf (E:=Zc) (z:=i) (hO'3.rd0 s_at_.rd) rfl rfl c'1) (Z8 rfl b'4 (Zg (Za1 (off':=0) (off2:=0) (hO'3.rd0 s_at_.rd) (Zi c'1) rfl rfl) ?_)))))))
       refine Z8 rfl b'4 (Zg (zB (w:=.n ((gi at_ i.toNat).X)) (hO'3.rd0 s_at_.rd) rfl (Zi c'1) rfl) (Z8 rfl b'4 (Zg (zN (a:=((gi at_ i.toNat).X)) (b:=(-1000000)) rfl rfl) (Zg (zm (t:=(decide (1000000 < ((gi at_ i.toNat).X)))) (v:=.b ((decide (1000000 < ((gi at_ i.toNat).X))) || (decide (((gi at_ i.toNat).X) < (-1000000))))) rfl b'4 (Eq.trans (b:=V.b (decide (((gi at_ i.toNat).X) < (-1000000)))) rfl (Zca b'4))) (Zb ?_)))))
       exact ⟨rfl,rfl,q'2_0,q'2_1,q'2_7⟩
     rintro frg'1 _ ⟨rfl,g'1_42,g'1_0,g'1_1,g'1_7⟩
     refine Zd (.b ((decide (1000000 < ((gi at_ i.toNat).X))) || (decide (((gi at_ i.toNat).X) < (-1000000))))) g'1_42 ?_
     refine Za0 7 (fun fr' k'=>k'3 = k'∧fr' 50 = .b (((decide (1000000 < ((gi at_ i.toNat).X))) || (decide (((gi at_ i.toNat).X) < (-1000000)))) || (decide (1000000 < ((gi at_ i.toNat).Y))))∧fr' 0 = v_l∧fr' 1 = v_at_∧fr' 7 = .n i) ?_ ?_
     ·rcases bc ((decide (1000000 < ((gi at_ i.toNat).X))) || (decide (((gi at_ i.toNat).X) < (-1000000)))) with b'5 | b'5
      ·skip
       refine Zv rfl b'5 (Zv rfl b'5 (Zv rfl b'5 (Zv rfl b'5 (Zv rfl b'5 (Zv rfl b'5 (Zg (zr (t:=((decide (1000000 < ((gi at_ i.toNat).X))) || (decide (((gi at_ i.toNat).X) < (-1000000))))) (v:=.b (((decide (1000000 < ((gi at_ i.toNat).X))) || (decide (((gi at_ i.toNat).X) < (-1000000)))) || (decide (1000000 < ((gi at_ i.toNat).Y))))) rfl b'5 (Eq.trans (b:=V.b true) rfl (Zbx b'5))) (Zb ?_)))))))
       exact ⟨rfl,rfl,g'1_0,g'1_1,g'1_7⟩
      ·skip
       refine Z8 rfl b'5 (Zd v_at_ g'1_1 (Z8 rfl b'5 (Zd (.n i) g'1_7 (Z8 rfl b'5 (Zg (zf (E:=Zc) (z:=i) (hO'3.rd0 s_at_.rd) rfl rfl c'1) (Z8 rfl b'5 (Zg (Za1 (off':=0) (off2:=1) (hO'3.rd0 s_at_.rd) (Zi c'1) rfl rfl) ?_)))))))
       refine Z8 rfl b'5 (Zg (zB (w:=.n ((gi at_ i.toNat).Y)) (hO'3.rd0 s_at_.rd) rfl (Zi c'1) rfl) (Z8 rfl b'5 (Zg (ZdP (a:=((gi at_ i.toNat).Y)) (b:=1000000) rfl rfl) (Zg (zm (t:=((decide (1000000 < ((gi at_ i.toNat).X))) || (decide (((gi at_ i.toNat).X) < (-1000000))))) (v:=.b (((decide (1000000 < ((gi at_ i.toNat).X))) || (decide (((gi at_ i.toNat).X) < (-1000000)))) || (decide (1000000 < ((gi at_ i.toNat).Y))))) rfl b'5 (Eq.trans (b:=V.b (decide (1000000 < ((gi at_ i.toNat).Y)))) rfl (Zca b'5))) (Zb ?_)))))
       exact ⟨rfl,rfl,g'1_0,g'1_1,g'1_7⟩
     rintro frg'2 _ ⟨rfl,g'2_50,g'2_0,g'2_1,g'2_7⟩
     refine Zd (.b (((decide (1000000 < ((gi at_ i.toNat).X))) || (decide (((gi at_ i.toNat).X) < (-1000000)))) || (decide (1000000 < ((gi at_ i.toNat).Y))))) g'2_50 ?_
     refine Za0 7 (fun fr' k'=>k'3 = k'∧fr' 58 = .b ((((decide (1000000 < ((gi at_ i.toNat).X))) || (decide (((gi at_ i.toNat).X) < (-1000000)))) || (decide (1000000 < ((gi at_ i.toNat).Y)))) || (decide (((gi at_ i.toNat).Y) < (-1000000))))∧fr' 0 = v_l∧fr' 1 = v_at_∧fr' 7 = .n i) ?_ ?_
     ·rcases bc (((decide (1000000 < ((gi at_ i.toNat).X))) || (decide (((gi at_ i.toNat).X) < (-1000000)))) || (decide (1000000 < ((gi at_ i.toNat).Y)))) with b'6 | b'6
      ·skip
       refine Zv rfl b'6 (Zv rfl b'6 (Zv rfl b'6 (Zv rfl b'6 (Zv rfl b'6 (Zv rfl b'6 (Zg (zr (t:=(((decide (1000000 < ((gi at_ i.toNat).X))) || (decide (((gi at_ i.toNat).X) < (-1000000)))) || (decide (1000000 < ((gi at_ i.toNat).Y))))) (v:=.b ((((decide (1000000 < ((gi at_ i.toNat).X))) || (decide (((gi at_ i.toNat).X) < (-1000000)))) || (decide (1000000 < ((gi at_ i.toNat).Y)))) || (decide (((gi at_ i.toNat).Y) < (-1000000))))) rfl b'6 (Eq.trans (b:=V.b true) rfl (Zbx b'6))) (Zb ?_)))))))
       exact ⟨rfl,rfl,g'2_0,g'2_1,g'2_7⟩
      ·skip
       refine Z8 rfl b'6 (Zd v_at_ g'2_1 (Z8 rfl b'6 (Zd (.n i) g'2_7 (Z8 rfl b'6 (Zg (zf (E:=Zc) (z:=i) (hO'3.rd0 s_at_.rd) rfl rfl c'1) (Z8 rfl b'6 (Zg (Za1 (off':=0) (off2:=1) (hO'3.rd0 s_at_.rd) (Zi c'1) rfl rfl) ?_)))))))
       refine Z8 rfl b'6 (Zg (zB (w:=.n ((gi at_ i.toNat).Y)) (hO'3.rd0 s_at_.rd) rfl (Zi c'1) rfl) (Z8 rfl b'6 (Zg (zN (a:=((gi at_ i.toNat).Y)) (b:=(-1000000)) rfl rfl) (Zg (zm (t:=(((decide (1000000 < ((gi at_ i.toNat).X))) || (decide (((gi at_ i.toNat).X) < (-1000000)))) || (decide (1000000 < ((gi at_ i.toNat).Y))))) (v:=.b ((((decide (1000000 < ((gi at_ i.toNat).X))) || (decide (((gi at_ i.toNat).X) < (-1000000)))) || (decide (1000000 < ((gi at_ i.toNat).Y)))) || (decide (((gi at_ i.toNat).Y) < (-1000000))))) rfl b'6 (Eq.trans (b:=V.b (decide (((gi at_ i.toNat).Y) < (-1000000)))) rfl (Zca b'6))) (Zb ?_)))))
       exact ⟨rfl,rfl,g'2_0,g'2_1,g'2_7⟩
     rintro frg'3 _ ⟨rfl,g'3_58,g'3_0,g'3_1,g'3_7⟩
     refine Zb (Za ?_)
     rcases Zp hp with ⟨b'7,hp⟩ | ⟨b'7,hp⟩
     ·refine zA (t:=((((decide (1000000 < ((gi at_ i.toNat).X))) || (decide (((gi at_ i.toNat).X) < (-1000000)))) || (decide (1000000 < ((gi at_ i.toNat).Y)))) || (decide (((gi at_ i.toNat).Y) < (-1000000))))) g'3_58 b'7 ?_
      refine Zh (Zk (Zd (.n 2) rfl (Zb (Za (Zad (ZaP (zk ?_)))))))
      cases hp
      refine (Or.inr ⟨.inr (),rfl,(fun h=>nomatch h),(fun he=>?_)⟩)
      subst he; exact ⟨rfl,rfl,(hO'3.pick [] rfl (by decide))⟩
     ·refine z7 (t:=((((decide (1000000 < ((gi at_ i.toNat).X))) || (decide (((gi at_ i.toNat).X) < (-1000000)))) || (decide (1000000 < ((gi at_ i.toNat).Y)))) || (decide (((gi at_ i.toNat).Y) < (-1000000))))) g'3_58 b'7 ?_
      refine zD (Zan (Za (Zk (Zd (.n i) g'3_7 ?_))))
      obtain ⟨c'2,hp⟩:=Zj hp
      refine Zg (z6 (a:=i) (b:=1) rfl rfl c'2) (Zd (.n (i + 1)) rfl (Zb ?_))
      cases hp
      exact (Or.inl ⟨i + 1,rfl,rfl,g'3_0,g'3_1,rfl,(hO'3.pick [] rfl (by decide))⟩)
    ·refine z7 (t:=(decide (i < (at_.length:Int)))) rfl b'3 ?_
     refine Zbv (zY ?_)
     cases hp
     refine (Or.inr ⟨.inl (),rfl,(fun h=>nomatch h),(fun he=>?_)⟩)
     subst he; exact ⟨rfl,q'2_0,q'2_1,(hO'3.pick [] rfl (by decide))⟩
   intro e'1 q'1 k'2 hJ'1
   rcases o'1 with _ | _
   ·obtain ⟨rfl,q'1_0,q'1_1,hO'2⟩:=hJ'1
    refine ZaD (Za (Zh (Zk (Zd v_l q'1_0 (Zd v_at_ q'1_1 ?_)))))
    obtain ⟨x2,hx'2,hp⟩:=Zq hp
    obtain ⟨u'2,k'4,ca'2,rfl,hW'2⟩:=zT.ok (h:=k'2)  (hO'2.rd0 s_l.rd) (hO'2.rd0 s_at_.rd) hx'2
    refine Zbd (id:=193) (caps:=[]) rfl (Zu (v:=v_l) rfl (Zu (v:=v_at_) rfl zx)) ca'2 ?_
    have hO'4:=hO'2.call hW'2 rfl
    refine Zd (.b x2) rfl (Zb (Za (Zh (Zh (Zk (Zd (.b x2) rfl (Zg (Zc3 (t:=x2) rfl) ?_)))))))
    refine Zb (Za ?_)
    rcases Zp hp with ⟨b'8,hp⟩ | ⟨b'8,hp⟩
    ·refine zA (t:=(!x2)) rfl b'8 ?_
     refine Zh (Zk (Zd (.n 15) rfl (Zb (Za (Zad (zk (zu (zG (n:=4) (v:=.n 15) rfl ZN) ?_)))))))
     cases hp
     exact ⟨rfl,(hO'4.pick [] rfl (by decide))⟩
    ·refine z7 (t:=(!x2)) rfl b'8 ?_
     refine zD (Za (Zh (Zk (Zd v_l q'1_0 (Zd v_at_ q'1_1 ?_)))))
     obtain ⟨x3,hx'3,hp⟩:=Zq hp
     obtain ⟨u'3,k'5,ca'3,rfl,hW'3⟩:=z8.ok (h:=k'4)  (hO'4.rd0 s_l.rd) (hO'4.rd0 s_at_.rd) hx'3
     refine Zbd (id:=261) (caps:=[]) rfl (Zu (v:=v_l) rfl (Zu (v:=v_at_) rfl zx)) ca'3 ?_
     have hO'5:=hO'4.call hW'3 rfl
     refine Zd (.b x3) rfl (Zb (Za (Zh (Zh (Zk (Zd (.b x3) rfl (Zg (Zc3 (t:=x3) rfl) ?_)))))))
     refine Zb (Za ?_)
     rcases Zp hp with ⟨b'9,hp⟩ | ⟨b'9,hp⟩
     ·refine zA (t:=(!x3)) rfl b'9 ?_
      refine Zh (Zk (Zd (.n 14) rfl (Zb (Za (Zad (zk (zu (zG (n:=4) (v:=.n 14) rfl ZN) ?_)))))))
      cases hp
      exact ⟨rfl,(hO'5.pick [] rfl (by decide))⟩
     ·refine z7 (t:=(!x3)) rfl b'9 ?_
      refine zD (Za (Zh (Zk (Zd (.n 0) rfl (Zb (Za (Zad ?_)))))))
      refine zu (zG (n:=4) (v:=.n 0) rfl ZN) ?_
      cases hp
      exact ⟨rfl,(hO'5.pick [] rfl (by decide))⟩
   ·obtain ⟨rfl,q'1_4,hO'2⟩:=hJ'1
    refine ZaP (zk (zu (zG (n:=4) (v:=.n 2) q'1_4 ZN) ?_))
    cases hp
    exact ⟨rfl,(hO'2.pick [] rfl (by decide))⟩

theorem Zcn.ok {h:Hp} {l:List Ze} {v:Int} {d:Int} {w:Int} {o:Int} {v_l:V} (H:Own (Bm h [eSl Zn v_l l]) h h [eSl Zn v_l l]) {r:(List Ze) × Int} (hp:Zcn l v d w o = some r) :
  ∃ u k',Is G 53 [v_l,.n v,.n d,.n w,.n o] h u k'∧∃ (v'1:V),V.tu [v'1,.n r.2] = u∧Own (Bm h [eSl Zn v_l l]) h k' [eSl Zn v'1 r.1]:=by
 refine WC.is (ZaM ZdG ?_)
 unfold Zcn at hp
 let B:Nat→Prop:=(Bm h [eSl Zn v_l l])
 have hO:Own B h h [eSl Zn v_l l]:=H
 refine Zh (Zk (Zd (.sn) rfl (Zd (.n 0) rfl (Zb (Za (Zh (Zh ?_)))))))
 refine Zk (Zd (.n v) rfl (Zg (zN (a:=v) (b:=0) rfl rfl) (Zd (.b (decide (v < 0))) rfl ?_)))
 refine Za0 5 (fun fr' k'=>h = k'∧fr' 20 = .b ((decide (v < 0)) || (decide ((l.length:Int)≤v)))∧fr' 0 = v_l∧fr' 1 = .n v∧fr' 2 = .n d∧fr' 3 = .n w∧fr' 4 = .n o) ?_ ?_
 ·rcases bc (decide (v < 0)) with b'1 | b'1
  ·skip
   refine Zv rfl b'1 (Zv rfl b'1 (Zv rfl b'1 (Zv rfl b'1 (Zg (zr (t:=(decide (v < 0))) (v:=.b ((decide (v < 0)) || (decide ((l.length:Int)≤v)))) rfl b'1 (Eq.trans (b:=V.b true) rfl (Zbx b'1))) (Zb ?_)))))
   exact ⟨rfl,rfl,rfl,rfl,rfl,rfl,rfl⟩
  ·skip
   refine Z8 rfl b'1 (Zd (.n v) rfl (Z8 rfl b'1 (Zd v_l rfl (Z8 rfl b'1 (Zg (Zau (hO.sl 0 rfl) rfl) (Z8 rfl b'1 (Zg (Zcs (a:=v) (b:=(l.length:Int)) rfl rfl) ?_)))))))
   refine Zg (zm (t:=(decide (v < 0))) (v:=.b ((decide (v < 0)) || (decide ((l.length:Int)≤v)))) rfl b'1 (Eq.trans (b:=V.b (decide ((l.length:Int)≤v))) rfl (Zca b'1))) (Zb ?_)
   exact ⟨rfl,rfl,rfl,rfl,rfl,rfl,rfl⟩
 rintro frg'1 _ ⟨rfl,g'1_20,g'1_0,g'1_1,g'1_2,g'1_3,g'1_4⟩
 refine Zd (.b ((decide (v < 0)) || (decide ((l.length:Int)≤v)))) g'1_20 ?_
 refine Za0 3 (fun fr' k'=>h = k'∧fr' 24 = .b (((decide (v < 0)) || (decide ((l.length:Int)≤v))) || (decide (w < 0)))∧fr' 0 = v_l∧fr' 1 = .n v∧fr' 2 = .n d∧fr' 3 = .n w∧fr' 4 = .n o) ?_ ?_
 ·rcases bc ((decide (v < 0)) || (decide ((l.length:Int)≤v))) with b'2 | b'2
  ·skip
   refine Zv rfl b'2 (Zv rfl b'2 (Zg (zr (t:=((decide (v < 0)) || (decide ((l.length:Int)≤v)))) (v:=.b (((decide (v < 0)) || (decide ((l.length:Int)≤v))) || (decide (w < 0)))) rfl b'2 (Eq.trans (b:=V.b true) rfl (Zbx b'2))) (Zb ?_)))
   exact ⟨rfl,rfl,g'1_0,g'1_1,g'1_2,g'1_3,g'1_4⟩
  ·skip
   refine Z8 rfl b'2 (Zd (.n w) g'1_3 (Z8 rfl b'2 (Zg (zN (a:=w) (b:=0) rfl rfl) (Zg (zm (t:=((decide (v < 0)) || (decide ((l.length:Int)≤v)))) (v:=.b (((decide (v < 0)) || (decide ((l.length:Int)≤v))) || (decide (w < 0)))) rfl b'2 (Eq.trans (b:=V.b (decide (w < 0))) rfl (Zca b'2))) (Zb ?_)))))
   exact ⟨rfl,rfl,g'1_0,g'1_1,g'1_2,g'1_3,g'1_4⟩
 rintro frg'2 _ ⟨rfl,g'2_24,g'2_0,g'2_1,g'2_2,g'2_3,g'2_4⟩
 refine Zd (.b (((decide (v < 0)) || (decide ((l.length:Int)≤v))) || (decide (w < 0)))) g'2_24 ?_
 refine Za0 5 (fun fr' k'=>h = k'∧fr' 30 = .b ((((decide (v < 0)) || (decide ((l.length:Int)≤v))) || (decide (w < 0))) || (decide ((l.length:Int)≤w)))∧fr' 0 = v_l∧fr' 1 = .n v∧fr' 2 = .n d∧fr' 3 = .n w∧fr' 4 = .n o) ?_ ?_
 ·rcases bc (((decide (v < 0)) || (decide ((l.length:Int)≤v))) || (decide (w < 0))) with b'3 | b'3
  ·skip
   refine Zv rfl b'3 (Zv rfl b'3 (Zv rfl b'3 (Zv rfl b'3 (Zg (zr (t:=(((decide (v < 0)) || (decide ((l.length:Int)≤v))) || (decide (w < 0)))) (v:=.b ((((decide (v < 0)) || (decide ((l.length:Int)≤v))) || (decide (w < 0))) || (decide ((l.length:Int)≤w)))) rfl b'3 (Eq.trans (b:=V.b true) rfl (Zbx b'3))) (Zb ?_)))))
   exact ⟨rfl,rfl,g'2_0,g'2_1,g'2_2,g'2_3,g'2_4⟩
  ·skip
   refine Z8 rfl b'3 (Zd (.n w) g'2_3 (Z8 rfl b'3 (Zd v_l g'2_0 (Z8 rfl b'3 (Zg (Zau (hO.sl 0 rfl) rfl) (Z8 rfl b'3 (Zg (Zcs (a:=w) (b:=(l.length:Int)) rfl rfl) ?_)))))))
   refine Zg (zm (t:=(((decide (v < 0)) || (decide ((l.length:Int)≤v))) || (decide (w < 0)))) (v:=.b ((((decide (v < 0)) || (decide ((l.length:Int)≤v))) || (decide (w < 0))) || (decide ((l.length:Int)≤w)))) rfl b'3 (Eq.trans (b:=V.b (decide ((l.length:Int)≤w))) rfl (Zca b'3))) (Zb ?_)
   exact ⟨rfl,rfl,g'2_0,g'2_1,g'2_2,g'2_3,g'2_4⟩
 rintro frg'3 _ ⟨rfl,g'3_30,g'3_0,g'3_1,g'3_2,g'3_3,g'3_4⟩
 refine Zd (.b ((((decide (v < 0)) || (decide ((l.length:Int)≤v))) || (decide (w < 0))) || (decide ((l.length:Int)≤w)))) g'3_30 ?_
 refine Za0 4 (fun fr' k'=>h = k'∧fr' 35 = .b (((((decide (v < 0)) || (decide ((l.length:Int)≤v))) || (decide (w < 0))) || (decide ((l.length:Int)≤w))) || (decide (v = w)))∧fr' 0 = v_l∧fr' 1 = .n v∧fr' 2 = .n d∧fr' 3 = .n w∧fr' 4 = .n o) ?_ ?_
 ·rcases bc ((((decide (v < 0)) || (decide ((l.length:Int)≤v))) || (decide (w < 0))) || (decide ((l.length:Int)≤w))) with b'4 | b'4
  ·skip
   refine Zv rfl b'4 (Zv rfl b'4 (Zv rfl b'4 (Zg (zr (t:=((((decide (v < 0)) || (decide ((l.length:Int)≤v))) || (decide (w < 0))) || (decide ((l.length:Int)≤w)))) (v:=.b (((((decide (v < 0)) || (decide ((l.length:Int)≤v))) || (decide (w < 0))) || (decide ((l.length:Int)≤w))) || (decide (v = w)))) rfl b'4 (Eq.trans (b:=V.b true) rfl (Zbx b'4))) (Zb ?_))))
   exact ⟨rfl,rfl,g'3_0,g'3_1,g'3_2,g'3_3,g'3_4⟩
  ·skip
   refine Z8 rfl b'4 (Zd (.n v) g'3_1 (Z8 rfl b'4 (Zd (.n w) g'3_3 (Z8 rfl b'4 (Zg (ZbQ (a:=v) (b:=w) rfl rfl) (Zg (zm (t:=((((decide (v < 0)) || (decide ((l.length:Int)≤v))) || (decide (w < 0))) || (decide ((l.length:Int)≤w)))) (v:=.b (((((decide (v < 0)) || (decide ((l.length:Int)≤v))) || (decide (w < 0))) || (decide ((l.length:Int)≤w))) || (decide (v = w)))) rfl b'4 (Eq.trans (b:=V.b (decide (v = w))) rfl (Zca b'4))) (Zb ?_)))))))
   exact ⟨rfl,rfl,g'3_0,g'3_1,g'3_2,g'3_3,g'3_4⟩
 rintro frg'4 _ ⟨rfl,g'4_35,g'4_0,g'4_1,g'4_2,g'4_3,g'4_4⟩
 refine Zd (.b (((((decide (v < 0)) || (decide ((l.length:Int)≤v))) || (decide (w < 0))) || (decide ((l.length:Int)≤w))) || (decide (v = w)))) g'4_35 ?_
 refine Za0 3 (fun fr' k'=>h = k'∧fr' 39 = .b ((((((decide (v < 0)) || (decide ((l.length:Int)≤v))) || (decide (w < 0))) || (decide ((l.length:Int)≤w))) || (decide (v = w))) || (decide (d < 0)))∧fr' 0 = v_l∧fr' 1 = .n v∧fr' 2 = .n d∧fr' 3 = .n w∧fr' 4 = .n o) ?_ ?_
 ·rcases bc (((((decide (v < 0)) || (decide ((l.length:Int)≤v))) || (decide (w < 0))) || (decide ((l.length:Int)≤w))) || (decide (v = w))) with b'5 | b'5
  ·skip
   refine Zv rfl b'5 (Zv rfl b'5 (Zg (zr (t:=(((((decide (v < 0)) || (decide ((l.length:Int)≤v))) || (decide (w < 0))) || (decide ((l.length:Int)≤w))) || (decide (v = w)))) (v:=.b ((((((decide (v < 0)) || (decide ((l.length:Int)≤v))) || (decide (w < 0))) || (decide ((l.length:Int)≤w))) || (decide (v = w))) || (decide (d < 0)))) rfl b'5 (Eq.trans (b:=V.b true) rfl (Zbx b'5))) (Zb ?_)))
   exact ⟨rfl,rfl,g'4_0,g'4_1,g'4_2,g'4_3,g'4_4⟩
  ·skip
   refine Z8 rfl b'5 (Zd (.n d) g'4_2 (Z8 rfl b'5 (Zg (zN (a:=d) (b:=0) rfl rfl) (Zg (zm (t:=(((((decide (v < 0)) || (decide ((l.length:Int)≤v))) || (decide (w < 0))) || (decide ((l.length:Int)≤w))) || (decide (v = w)))) (v:=.b ((((((decide (v < 0)) || (decide ((l.length:Int)≤v))) || (decide (w < 0))) || (decide ((l.length:Int)≤w))) || (decide (v = w))) || (decide (d < 0)))) rfl b'5 (Eq.trans (b:=V.b (decide (d < 0))) rfl (Zca b'5))) (Zb ?_)))))
   exact ⟨rfl,rfl,g'4_0,g'4_1,g'4_2,g'4_3,g'4_4⟩
 rintro frg'5 _ ⟨rfl,g'5_39,g'5_0,g'5_1,g'5_2,g'5_3,g'5_4⟩
 refine Zd (.b ((((((decide (v < 0)) || (decide ((l.length:Int)≤v))) || (decide (w < 0))) || (decide ((l.length:Int)≤w))) || (decide (v = w))) || (decide (d < 0)))) g'5_39 ?_
 refine Za0 3 (fun fr' k'=>h = k'∧fr' 43 = .b (((((((decide (v < 0)) || (decide ((l.length:Int)≤v))) || (decide (w < 0))) || (decide ((l.length:Int)≤w))) || (decide (v = w))) || (decide (d < 0))) || (decide (3 < d)))∧fr' 0 = v_l∧fr' 1 = .n v∧fr' 2 = .n d∧fr' 3 = .n w∧fr' 4 = .n o) ?_ ?_
 ·rcases bc ((((((decide (v < 0)) || (decide ((l.length:Int)≤v))) || (decide (w < 0))) || (decide ((l.length:Int)≤w))) || (decide (v = w))) || (decide (d < 0))) with b'6 | b'6
  ·skip
   refine Zv rfl b'6 (Zv rfl b'6 (Zg (zr (t:=((((((decide (v < 0)) || (decide ((l.length:Int)≤v))) || (decide (w < 0))) || (decide ((l.length:Int)≤w))) || (decide (v = w))) || (decide (d < 0)))) (v:=.b (((((((decide (v < 0)) || (decide ((l.length:Int)≤v))) || (decide (w < 0))) || (decide ((l.length:Int)≤w))) || (decide (v = w))) || (decide (d < 0))) || (decide (3 < d)))) rfl b'6 (Eq.trans (b:=V.b true) rfl (Zbx b'6))) (Zb ?_)))
   exact ⟨rfl,rfl,g'5_0,g'5_1,g'5_2,g'5_3,g'5_4⟩
  ·skip
   refine Z8 rfl b'6 (Zd (.n d) g'5_2 (Z8 rfl b'6 (Zg (ZdP (a:=d) (b:=3) rfl rfl) (Zg (zm (t:=((((((decide (v < 0)) || (decide ((l.length:Int)≤v))) || (decide (w < 0))) || (decide ((l.length:Int)≤w))) || (decide (v = w))) || (decide (d < 0)))) (v:=.b (((((((decide (v < 0)) || (decide ((l.length:Int)≤v))) || (decide (w < 0))) || (decide ((l.length:Int)≤w))) || (decide (v = w))) || (decide (d < 0))) || (decide (3 < d)))) rfl b'6 (Eq.trans (b:=V.b (decide (3 < d))) rfl (Zca b'6))) (Zb ?_)))))
   exact ⟨rfl,rfl,g'5_0,g'5_1,g'5_2,g'5_3,g'5_4⟩
 rintro frg'6 _ ⟨rfl,g'6_43,g'6_0,g'6_1,g'6_2,g'6_3,g'6_4⟩
 refine Zd (.b (((((((decide (v < 0)) || (decide ((l.length:Int)≤v))) || (decide (w < 0))) || (decide ((l.length:Int)≤w))) || (decide (v = w))) || (decide (d < 0))) || (decide (3 < d)))) g'6_43 ?_
 refine Za0 3 (fun fr' k'=>h = k'∧fr' 47 = .b ((((((((decide (v < 0)) || (decide ((l.length:Int)≤v))) || (decide (w < 0))) || (decide ((l.length:Int)≤w))) || (decide (v = w))) || (decide (d < 0))) || (decide (3 < d))) || (decide (o < (-2))))∧fr' 0 = v_l∧fr' 1 = .n v∧fr' 2 = .n d∧fr' 3 = .n w∧fr' 4 = .n o) ?_ ?_
 ·rcases bc (((((((decide (v < 0)) || (decide ((l.length:Int)≤v))) || (decide (w < 0))) || (decide ((l.length:Int)≤w))) || (decide (v = w))) || (decide (d < 0))) || (decide (3 < d))) with b'7 | b'7
  ·skip
   refine Zv rfl b'7 (Zv rfl b'7 (Zg (zr (t:=(((((((decide (v < 0)) || (decide ((l.length:Int)≤v))) || (decide (w < 0))) || (decide ((l.length:Int)≤w))) || (decide (v = w))) || (decide (d < 0))) || (decide (3 < d)))) (v:=.b ((((((((decide (v < 0)) || (decide ((l.length:Int)≤v))) || (decide (w < 0))) || (decide ((l.length:Int)≤w))) || (decide (v = w))) || (decide (d < 0))) || (decide (3 < d))) || (decide (o < (-2))))) rfl b'7 (Eq.trans (b:=V.b true) rfl (Zbx b'7))) (Zb ?_)))
   exact ⟨rfl,rfl,g'6_0,g'6_1,g'6_2,g'6_3,g'6_4⟩
  ·skip
   refine Z8 rfl b'7 (Zd (.n o) g'6_4 (Z8 rfl b'7 (Zg (zN (a:=o) (b:=(-2)) rfl rfl) (Zg (zm (t:=(((((((decide (v < 0)) || (decide ((l.length:Int)≤v))) || (decide (w < 0))) || (decide ((l.length:Int)≤w))) || (decide (v = w))) || (decide (d < 0))) || (decide (3 < d)))) (v:=.b ((((((((decide (v < 0)) || (decide ((l.length:Int)≤v))) || (decide (w < 0))) || (decide ((l.length:Int)≤w))) || (decide (v = w))) || (decide (d < 0))) || (decide (3 < d))) || (decide (o < (-2))))) rfl b'7 (Eq.trans (b:=V.b (decide (o < (-2)))) rfl (Zca b'7))) (Zb ?_)))))
   exact ⟨rfl,rfl,g'6_0,g'6_1,g'6_2,g'6_3,g'6_4⟩
 rintro frg'7 _ ⟨rfl,g'7_47,g'7_0,g'7_1,g'7_2,g'7_3,g'7_4⟩
 refine Zb (Za ?_)
 rcases Zp hp with ⟨b'8,hp⟩ | ⟨b'8,hp⟩
 ·refine zA (t:=((((((((decide (v < 0)) || (decide ((l.length:Int)≤v))) || (decide (w < 0))) || (decide ((l.length:Int)≤w))) || (decide (v = w))) || (decide (d < 0))) || (decide (3 < d))) || (decide (o < (-2))))) g'7_47 b'8 ?_
  refine Zh (Zk (Zd v_l g'7_0 (Zd v_l rfl (Zd (.n 2) rfl (Zb (Za (Zad ?_)))))))
  refine zk (zu (zG (n:=10) (v:=v_l) rfl (zG (n:=11) (v:=.n 2) rfl ZN)) ?_)
  cases hp
  exact ⟨v_l,rfl,(hO.pick [0] rfl (by decide))⟩
 ·refine z7 (t:=((((((((decide (v < 0)) || (decide ((l.length:Int)≤v))) || (decide (w < 0))) || (decide ((l.length:Int)≤w))) || (decide (v = w))) || (decide (d < 0))) || (decide (3 < d))) || (decide (o < (-2))))) g'7_47 b'8 ?_
  refine zD (Za (Zh (Zh (Zk (Zd v_l g'7_0 (Zd (.n v) g'7_1 (Zd (.n d) g'7_2 ?_)))))))
  obtain ⟨c'1,hp⟩:=Zj hp
  refine Zg (zf (E:=Zn) (z:=v) (hO.sl 0 rfl) rfl rfl c'1) (Zg (Za1 (off':=0) (off2:=0) (hO.sl 0 rfl) (Zi c'1) rfl rfl) ?_)
  obtain ⟨c'2,hp⟩:=Zj hp
  refine Zg (ZbC (off:=0) (off2:=(0 + d.toNat * 1)) (z:=d) (hO.sl 0 rfl) (Zi c'1) rfl rfl c'2 rfl) (Zg (zB (w:=.n (((gi l v.toNat).Next).get d)) (hO.sl 0 rfl) rfl (Zi c'1) (zO c'2)) (Zg (Zck (a:=(((gi l v.toNat).Next).get d)) (b:=(-1)) rfl rfl) (Zd (.b (!(decide (((gi l v.toNat).Next).get d = (-1))))) rfl ?_)))
  obtain ⟨t,hv'1,hp⟩:=Zq hp
  refine Za0 11 (fun fr' k'=>h = k'∧fr' 68 = .b t∧fr' 0 = v_l∧fr' 1 = .n v∧fr' 2 = .n d∧fr' 3 = .n w∧fr' 4 = .n o) ?_ ?_
  ·clear hp; rcases Zp hv'1 with ⟨b'9,hp⟩ | ⟨b'9,hp⟩
   ·skip
    refine Zv rfl b'9 (Zv rfl b'9 (Zv rfl b'9 (Zv rfl b'9 (Zv rfl b'9 (Zv rfl b'9 (Zv rfl b'9 (Zv rfl b'9 ?_)))))))
    refine Zv rfl b'9 (Zv rfl b'9 (Zg (zr (t:=(!(decide (((gi l v.toNat).Next).get d = (-1))))) (v:=.b t) rfl b'9 (Eq.trans (b:=V.b true) rfl (congrArg V.b (Option.some.inj hp)))) (Zb ?_)))
    exact ⟨rfl,rfl,g'7_0,g'7_1,g'7_2,g'7_3,g'7_4⟩
   ·skip
    refine Z8 rfl b'9 (Zd v_l g'7_0 (Z8 rfl b'9 (Zd (.n w) g'7_3 (Z8 rfl b'9 (Zd (.n d) g'7_2 (Z8 rfl b'9 ?_))))))
    obtain ⟨c'3,hp⟩:=Zj hp
    refine Zg (z6 (a:=d) (b:=2) rfl rfl c'3) (Z8 rfl b'9 (Zg (ZcU (a:=(d + 2)) (b:=4) rfl rfl (by decide)) (Z8 rfl b'9 ?_)))
    obtain ⟨c'4,hp⟩:=Zj hp
    refine Zg (zf (E:=Zn) (z:=w) (hO.sl 0 rfl) rfl rfl c'4) (Z8 rfl b'9 (Zg (Za1 (off':=0) (off2:=0) (hO.sl 0 rfl) (Zi c'4) rfl rfl) (Z8 rfl b'9 ?_)))
    obtain ⟨c'5,hp⟩:=Zj hp
    refine Zg (ZbC (off:=0) (off2:=(0 + ((d + 2).tmod 4:Int).toNat * 1)) (z:=((d + 2).tmod 4)) (hO.sl 0 rfl) (Zi c'4) rfl rfl c'5 rfl) (Z8 rfl b'9 (Zg (zB (w:=.n (((gi l w.toNat).Next).get ((d + 2).tmod 4))) (hO.sl 0 rfl) rfl (Zi c'4) (zO c'5)) (Z8 rfl b'9 (Zg (Zck (a:=(((gi l w.toNat).Next).get ((d + 2).tmod 4))) (b:=(-1)) rfl rfl) (Zg (zm (t:=(!(decide (((gi l v.toNat).Next).get d = (-1))))) (v:=.b t) rfl b'9 (Eq.trans (b:=V.b (!(decide (((gi l w.toNat).Next).get ((d + 2).tmod 4) = (-1))))) rfl (congrArg V.b (Option.some.inj hp)))) (Zb ?_))))))
    exact ⟨rfl,rfl,g'7_0,g'7_1,g'7_2,g'7_3,g'7_4⟩
  rintro frg'8 _ ⟨rfl,g'8_68,g'8_0,g'8_1,g'8_2,g'8_3,g'8_4⟩
  refine Zb (Za ?_)
  rcases Zp hp with ⟨b'10,hp⟩ | ⟨b'10,hp⟩
  ·refine zA (t:=t) g'8_68 b'10 ?_
   refine Zh (Zk (Zd v_l g'8_0 (Zd v_l rfl (Zd (.n 9) rfl (Zb (Za (Zad ?_)))))))
   refine zk (zu (zG (n:=10) (v:=v_l) rfl (zG (n:=11) (v:=.n 9) rfl ZN)) ?_)
   cases hp
   exact ⟨v_l,rfl,(hO.pick [0] rfl (by decide))⟩
  ·refine z7 (t:=t) g'8_68 b'10 ?_
   refine zD (Za (Zh (Zk (Zd v_l g'8_0 (Zd (.n v) g'8_1 (Zd (.n d) g'8_2 (Zd (.n w) g'8_3 ?_)))))))
   refine Zd (.n o) g'8_4 ?_
   obtain ⟨x,hx'1,hp⟩:=Zq hp
   obtain ⟨u'1,k'1,ca'1,v'2,rfl,hW'1⟩:=Za4.ok (h:=h)  (hO.sl 0 rfl) hx'1
   refine Zbd (id:=65) (caps:=[]) rfl (Zu (v:=v_l) rfl (Zu (v:=.n v) rfl (Zu (v:=.n d) rfl (Zu (v:=.n w) rfl (Zu (v:=.n o) rfl zx))))) ca'1 ?_
   have hO'1:=hO.call hW'1 rfl
   refine Zd v'2 rfl (Zb (Za (Zh (Zk (Zd v'2 rfl (Zd v'2 rfl (Zd (.n 0) rfl ?_)))))))
   refine Zb (Za (Zad (zu (zG (n:=10) (v:=v'2) rfl (zG (n:=11) (v:=.n 0) rfl ZN)) ?_)))
   cases hp
   exact ⟨v'2,rfl,(hO'1.pick [1] rfl (by decide))⟩

theorem ZbW.ok {h:Hp}    {r:Bool} (hp:ZbW  = some r) :
  ∃ u k',Is G 185 [] h u k'∧V.b r = u∧Own (fun r=>r < h.n) h k' []:=by
 refine WC.is (ZaM Zdv ?_)
 unfold ZbW at hp
 let B:Nat→Prop:=(fun r=>r < h.n)
 have hO:Own B h h []:=Own.start0 h
 refine Zh (Zk (Zd (.b false) rfl (Zb (Za (Zh (Zk ?_))))))
 obtain ⟨x,hx'1,hp⟩:=Zq hp
 obtain ⟨u'1,k'1,ca'1,v'1,rfl,hW'1⟩:=zU.ok (h:=h)   hx'1
 refine Zbd (id:=46) (caps:=[]) rfl (Zu (v:=.n 2) rfl zx) ca'1 ?_
 have hO'1:=hO.call hW'1 rfl
 refine Zd v'1 rfl (Zb (Za (Zh (Zk (Zd v'1 rfl ?_)))))
 obtain ⟨⟨x1,x2⟩,hx'2,hp⟩:=Zq hp
 obtain ⟨u'2,k'2,ca'2,v'2,rfl,hW'2⟩:=Zcn.ok (h:=k'1) (l:=x) (v:=0) (d:=0) (w:=1) (o:=0) (hO'1.toM [0] rfl (by decide))  hx'2
 refine Zbd (id:=53) (caps:=[]) rfl (Zu (v:=v'1) rfl (Zu (v:=.n 0) rfl (Zu (v:=.n 0) rfl (Zu (v:=.n 1) rfl (Zu (v:=.n 0) rfl zx))))) ca'2 ?_
 have hO'2:=(hO'1.callM [0] [] rfl rfl (by decide) hW'2 rfl).pick [900,0] rfl (by decide)
 refine Zd (.tu [v'2,.n x2]) rfl (Zg (Zb6 (vs:=[v'2,.n x2]) (v:=v'2) rfl rfl) (Zg (Zb6 (vs:=[v'2,.n x2]) (v:=.n x2) rfl rfl) (Zd v'2 rfl (Zb (Za (Zh (Zk ?_)))))))
 refine Zd v'2 rfl (Zg (ZbB (cs:=Zc.c (⟨(0:Int),(0:Int)⟩:Zf)) (by rw [Za2]; rfl)) (Zg (ZbB (cs:=Zc.c (⟨4,(0:Int)⟩:Zf)) (by rw [(zt (v:=.n 4) rfl Za2)]; rfl)) (zQ (hO'2.bsl (E:=Zc) (l:=[(⟨(0:Int),(0:Int)⟩:Zf),(⟨4,(0:Int)⟩:Zf)]) hO'2.fr (by rw [(zt (v:=.ag (Zc.c (⟨(0:Int),(0:Int)⟩:Zf))) rfl (zt (v:=.ag (Zc.c (⟨4,(0:Int)⟩:Zf))) rfl Za2))]; rfl) rfl) ?_)))
 rintro v'3 k'3 ⟨r'1,f'1,hW⟩
 have hO'3:=hW
 obtain ⟨x3,hx'3,hp⟩:=Zq hp
 obtain ⟨u'3,k'4,ca'3,rfl,hW'3⟩:=Zb8.ok (h:=k'3)  (hO'3.sl 1 rfl) (hO'3.sl 2 rfl:Sl Zc k'3 v'3 [(⟨(0:Int),(0:Int)⟩:Zf),(⟨4,(0:Int)⟩:Zf)]) hx'3
 refine Zbd (id:=208) (caps:=[]) rfl (Zu (v:=v'2) rfl (Zu (v:=v'3) rfl zx)) ca'3 ?_
 have hO'4:=hO'3.call hW'3 rfl
 refine Zg (ZbQ (a:=x3) (b:=0) rfl rfl) (Zd (.b (decide (x3 = 0))) rfl ?_)
 obtain ⟨t,hv'1,hp⟩:=Zq hp
 refine Za0 7 (fun fr' k'=>Own B h k' [Zdk,eSl Zn v'2 x1,eSl Zc v'3 [(⟨(0:Int),(0:Int)⟩:Zf),(⟨4,(0:Int)⟩:Zf)]]∧fr' 21 = .b t∧fr' 1 = v'2) ?_ ?_
 ·clear hp; rcases Zp hv'1 with ⟨b'1,hp⟩ | ⟨b'1,hp⟩
  ·skip
   refine Z8 rfl b'1 (Zd v'2 rfl (Z8 rfl b'1 (Zg (ZbB (cs:=Zc.c (⟨(0:Int),(0:Int)⟩:Zf)) (by rw [Za2]; rfl)) (Z8 rfl b'1 (Zg (ZbB (cs:=Zc.c (⟨(0:Int),4⟩:Zf)) (by rw [(zt (v:=.n 4) rfl Za2)]; rfl)) (Z8 rfl b'1 (zQ (hO'4.bsl (E:=Zc) (l:=[(⟨(0:Int),(0:Int)⟩:Zf),(⟨(0:Int),4⟩:Zf)]) hO'4.fr (by rw [(zt (v:=.ag (Zc.c (⟨(0:Int),(0:Int)⟩:Zf))) rfl (zt (v:=.ag (Zc.c (⟨(0:Int),4⟩:Zf))) rfl Za2))]; rfl) rfl) ?_)))))))
   rintro v'4 k'5 ⟨r'2,f'2,hW⟩
   have hO'5:=hW
   refine Z8 rfl b'1 ?_
   obtain ⟨x4,hx'4,hp⟩:=Zq hp
   obtain ⟨u'4,k'6,ca'4,rfl,hW'4⟩:=Zb8.ok (h:=k'5)  (hO'5.sl 1 rfl) (hO'5.sl 3 rfl:Sl Zc k'5 v'4 [(⟨(0:Int),(0:Int)⟩:Zf),(⟨(0:Int),4⟩:Zf)]) hx'4
   refine Zbd (id:=208) (caps:=[]) rfl (Zu (v:=v'2) rfl (Zu (v:=v'4) rfl zx)) ca'4 ?_
   have hO'6:=hO'5.call hW'4 rfl
   refine Z8 rfl b'1 (Zg (ZbQ (a:=x4) (b:=15) rfl rfl) (Zg (zr (t:=(decide (x3 = 0))) (v:=.b t) rfl b'1 (Eq.trans (b:=V.b (decide (x4 = 15))) rfl (congrArg V.b (Option.some.inj hp)))) (Zb ?_)))
   exact ⟨hO'6.pick [0,1,2] rfl (by decide),rfl,rfl⟩
  ·skip
   refine Zv rfl b'1 (Zv rfl b'1 (Zv rfl b'1 (Zv rfl b'1 (Zv rfl b'1 (Zv rfl b'1 (Zg (zm (t:=(decide (x3 = 0))) (v:=.b t) rfl b'1 (Eq.trans (b:=V.b false) rfl (congrArg V.b (Option.some.inj hp)))) (Zb ?_)))))))
   exact ⟨hO'4.pick [0,1,2] rfl (by decide),rfl,rfl⟩
 rintro frg'1 k'7 ⟨hO'7,g'1_21,g'1_1⟩
 refine Zd (.b t) g'1_21 ?_
 obtain ⟨t1,hv'2,hp⟩:=Zq hp
 refine Za0 4 (fun fr' k'=>Own B h k' [Zdk,eSl Zn v'2 x1,eSl Zc v'3 [(⟨(0:Int),(0:Int)⟩:Zf),(⟨4,(0:Int)⟩:Zf)]]∧fr' 26 = .b t1) ?_ ?_
 ·clear hp; rcases Zp hv'2 with ⟨b'2,hp⟩ | ⟨b'2,hp⟩
  ·skip
   refine Z8 rfl b'2 (Zd v'2 g'1_1 (Z8 rfl b'2 ?_))
   obtain ⟨x5,hx'5,hp⟩:=Zq hp
   obtain ⟨u'5,k'8,ca'5,rfl,hW'5⟩:=Zb8.ok (h:=k'7)  (hO'7.sl 1 rfl) (Sl.nil:Sl Zc k'7 .sn ([]:List Zf)) hx'5
   refine Zbd (id:=208) (caps:=[]) rfl (Zu (v:=v'2) rfl (Zu (v:=.sn) rfl zx)) ca'5 ?_
   have hO'8:=hO'7.call hW'5 rfl
   refine Z8 rfl b'2 (Zg (ZbQ (a:=x5) (b:=2) rfl rfl) (Zg (zr (t:=t) (v:=.b t1) rfl b'2 (Eq.trans (b:=V.b (decide (x5 = 2))) rfl (congrArg V.b (Option.some.inj hp)))) (Zb ?_)))
   exact ⟨hO'8.pick [0,1,2] rfl (by decide),rfl⟩
  ·skip
   refine Zv rfl b'2 (Zv rfl b'2 (Zv rfl b'2 (Zg (zm (t:=t) (v:=.b t1) rfl b'2 (Eq.trans (b:=V.b false) rfl (congrArg V.b (Option.some.inj hp)))) (Zb ?_))))
   exact ⟨hO'7.pick [0,1,2] rfl (by decide),rfl⟩
 rintro frg'2 k'9 ⟨hO'9,g'2_26⟩
 refine Zd (.b t1) g'2_26 ?_
 obtain ⟨t2,hv'3,hp⟩:=Zq hp
 refine Za0 6 (fun fr' k'=>Own B h k' [Zdk,eSl Zn v'2 x1,eSl Zc v'3 [(⟨(0:Int),(0:Int)⟩:Zf),(⟨4,(0:Int)⟩:Zf)]]∧fr' 33 = .b t2) ?_ ?_
 ·clear hp; rcases Zp hv'3 with ⟨b'3,hp⟩ | ⟨b'3,hp⟩
  ·skip
   refine Z8 rfl b'3 (Zg (ZbB (cs:=zH.c (⟨(⟨0,0⟩:Zf),(⟨0,0⟩:Zf)⟩:Zbe)) (by rw [Za2]; rfl)) (Z8 rfl b'3 (Zg (ZbB (cs:=Zc.c (⟨1,(0:Int)⟩:Zf)) (by rw [(zt (v:=.n 1) rfl Za2)]; rfl)) (Z8 rfl b'3 (Zg (ZbB (cs:=Zc.c (⟨1,(0:Int)⟩:Zf)) (by rw [(zt (v:=.n 1) rfl Za2)]; rfl)) (Z8 rfl b'3 (Zg (ZbB (cs:=zH.c (⟨(⟨1,(0:Int)⟩:Zf),(⟨1,(0:Int)⟩:Zf)⟩:Zbe)) (by rw [(zt (v:=.ag (Zc.c (⟨1,(0:Int)⟩:Zf))) rfl (zt (v:=.ag (Zc.c (⟨1,(0:Int)⟩:Zf))) rfl Za2))]; rfl)) ?_)))))))
   refine Z8 rfl b'3 ?_
   obtain ⟨x6,hx'6,hp⟩:=Zq hp
   obtain ⟨u'6,k'10,ca'6,rfl,hW'6⟩:=Zci.ok (h:=k'9)   hx'6
   refine Zbd (id:=186) (caps:=[]) rfl (Zu (v:=.ag (zH.c (⟨(⟨0,0⟩:Zf),(⟨0,0⟩:Zf)⟩:Zbe))) rfl (Zu (v:=.ag (zH.c (⟨(⟨1,(0:Int)⟩:Zf),(⟨1,(0:Int)⟩:Zf)⟩:Zbe))) rfl zx)) ca'6 ?_
   have hO'10:=hO'9.call hW'6 rfl
   refine Zg (zr (t:=t1) (v:=.b t2) rfl b'3 (Eq.trans (b:=V.b x6) rfl (congrArg V.b (Option.some.inj hp)))) (Zb ?_)
   exact ⟨hO'10.pick [0,1,2] rfl (by decide),rfl⟩
  ·skip
   refine Zv rfl b'3 (Zv rfl b'3 (Zv rfl b'3 (Zv rfl b'3 (Zv rfl b'3 (Zg (zm (t:=t1) (v:=.b t2) rfl b'3 (Eq.trans (b:=V.b false) rfl (congrArg V.b (Option.some.inj hp)))) (Zb ?_))))))
   exact ⟨hO'9.pick [0,1,2] rfl (by decide),rfl⟩
 rintro frg'3 k'11 ⟨hO'11,g'3_33⟩
 refine Zd (.b t2) g'3_33 (Zb (Za (Zad (zu (zG (n:=0) (v:=.b t2) rfl ZN) ?_))))
 cases hp
 exact ⟨rfl,(hO'11.pick [] rfl (by decide))⟩

theorem zq.ok {h:Hp} {z:zX} {steps:List Int} {raw:List Zf} {v_z_At:V} {v_z_Bits:V} {v_z_Own:V} {v_steps:V} {v_raw:V} (s_z_At:Sl Zfm h v_z_At z.At) (s_z_Bits:Sl Zfm h v_z_Bits z.Bits) (s_z_Own:Sl ZiC h v_z_Own z.Own) (s_steps:Sl Zfm h v_steps steps) (s_raw:Sl Zc h v_raw raw) {r:Bool} (hp:zq z steps raw = some r) :
  ∃ u k',Is G 251 [.ag [v_z_At,v_z_Bits,v_z_Own],v_steps,v_raw] h u k'∧V.b r = u∧Own (fun r=>r < h.n) h k' []:=by
 refine WC.is (ZaM ZcC ?_)
 unfold zq at hp
 let B:Nat→Prop:=(fun r=>r < h.n)
 have hO:Own B h h []:=Own.start0 h
 refine Zh (Zk (zQ (hO.boxd (v:=.ag [v_z_At,v_z_Bits,v_z_Own]) (cs:=[v_z_At,v_z_Bits,v_z_Own]) hO.fr rfl rfl) ?_))
 rintro _ k'1 ⟨r'1,rfl,n'1,f'1,hW⟩
 have hO'1:=hW
 refine Zd (.b false) rfl (Zb (Za (Zh (Zk (Zg (Zb7 (cs:=[v_z_At,v_z_Bits,v_z_Own]) (ws:=[v_z_At,v_z_Bits,v_z_Own]) (hO'1.box 0 rfl) rfl rfl) ?_)))))
 obtain ⟨⟨x,x1⟩,hx'1,hp⟩:=Zq hp
 obtain ⟨u'1,k'2,ca'1,v'1,v'2,rfl,hW'1⟩:=ZV.ok (h:=k'1)  (hO'1.rd0 s_z_At.rd) (hO'1.rd0 s_z_Bits.rd) (hO'1.rd0 s_z_Own.rd) hx'1
 refine Zbd (id:=28) (caps:=[]) rfl (Zu (v:=.ag [v_z_At,v_z_Bits,v_z_Own]) rfl (Zu (v:=.n 14) rfl zx)) ca'1 ?_
 have hO'2:=hO'1.call hW'1 rfl
 refine Zd (.tu [v'1,v'2]) rfl (Zg (Zb6 (vs:=[v'1,v'2]) (v:=v'1) rfl rfl) (Zg (Zb6 (vs:=[v'1,v'2]) (v:=v'2) rfl rfl) (Zd v'1 rfl (Zd v'2 rfl (Zb (Za (Zh ?_)))))))
 refine Zk (Zd v'2 rfl ?_)
 obtain ⟨x2,hx'2,hp⟩:=Zq hp
 obtain ⟨u'2,k'3,ca'2,v'3,rfl,hW'2⟩:=ZbH.ok (h:=k'2)  (hO'2.sl 2 rfl) hx'2
 refine Zbd (id:=165) (caps:=[]) rfl (Zu (v:=v'2) rfl zx) ca'2 ?_
 have hO'3:=hO'2.call hW'2 rfl
 refine Zd v'3 rfl (Zb (Za (Zh (Zh (Zk (Zd v'3 rfl (Zg (Zau (hO'3.sl 3 rfl) rfl) ?_)))))))
 refine Zd (.n 0) rfl (Zb (Za (Zaq ?_)))
 obtain ⟨o'1,ho'1,hp⟩:=Zq hp
 refine W.mono (Q:=fun e fr k=>match (generalizing:=false) o'1 with
   | wild1=>e = (.exit 0)∧fr 1 = v_steps∧fr 2 = v_raw∧fr 7 = v'1∧fr 8 = v'2∧fr 9 = v'3∧Own B h k [eSl Zn v'1 x,eSl Zc v'2 x1,eSl Zc v'3 wild1]) ?_ ?_
 ·clear hp
  refine zP (fun st fr k=>match st with | (wild,x3)=>fr 1 = v_steps∧fr 2 = v_raw∧fr 7 = v'1∧fr 8 = v'2∧fr 9 = v'3∧fr 21 = .n (x2.length:Int)∧fr 22 = .n x3∧Own B h k [eSl Zn v'1 x,eSl Zc v'2 x1,eSl Zc v'3 wild]) ho'1 (s:=(x2,0)) ⟨rfl,rfl,rfl,rfl,rfl,rfl,rfl,(hO'3.pick [1,2,3] rfl (by decide))⟩ ?_
  rintro ⟨wild,x3⟩ q'2 k'5 ⟨q'2_1,q'2_2,q'2_7,q'2_8,q'2_9,q'2_21,q'2_22,hO'5⟩ o'2 hp
  dsimp only [zq.s0] at hp
  refine Zh (Zk (Zg (zN (a:=x3) (b:=(x2.length:Int)) q'2_22 q'2_21) (Zb (Za (Zh ?_)))))
  rcases Zp hp with ⟨b'1,hp⟩ | ⟨b'1,hp⟩
  ·refine zA (t:=(decide (x3 < (x2.length:Int)))) rfl b'1 ?_
   refine zD (Za (Zh (Zaq (Zh (Zk (Zd (.n x3) q'2_22 (Zd (.n x3) rfl ?_)))))))
   refine Zb (Za (Zh (Zk (Zd (.n x3) rfl (Zd v_raw q'2_2 (Zg (Zau (hO'5.rd0 s_raw.rd) rfl) (Zg (zN (a:=x3) (b:=(raw.length:Int)) rfl rfl) ?_)))))))
   refine Zb (Za ?_)
   rcases Zp hp with ⟨b'2,hp⟩ | ⟨b'2,hp⟩
   ·refine zA (t:=(decide (x3 < (raw.length:Int)))) rfl b'2 ?_
    refine Zh (Zfi ?_)
    have hW:=hO'5.bump 15
    have fr'1:=Fresh.start k'5 15
    have nb'1:∀ {i:Nat},h.n≤k'5.n + i:=Nat.le_trans hO'5.n (Nat.le_add_right _ _)
    have hO'6:=hW
    refine ZaS v'3 q'2_9 (ZaS (.n x3) rfl ?_)
    obtain ⟨c'1,hp⟩:=Zj hp
    refine z9 (zf (E:=Zc) (z:=x3) (hO'6.sl 2 rfl) rfl rfl c'1) (z9 (Za1 (off':=0) (off2:=0) (hO'6.sl 2 rfl) (Zi c'1) rfl rfl) (z9 (zB (w:=.n ((gi wild x3.toNat).X)) (hO'6.sl 2 rfl) rfl (Zi c'1) rfl) (ZaS v_raw q'2_2 (ZaS (.n x3) rfl ?_))))
    obtain ⟨c'2,hp⟩:=Zj hp
    refine z9 (zf (E:=Zc) (z:=x3) (hO'6.rd0 s_raw.rd) rfl rfl c'2) (z9 (Za1 (off':=0) (off2:=0) (hO'6.rd0 s_raw.rd) (Zi c'2) rfl rfl) (z9 (zB (w:=.n ((gi raw x3.toNat).X)) (hO'6.rd0 s_raw.rd) rfl (Zi c'2) rfl) (z9 (ZcU (a:=((gi raw x3.toNat).X)) (b:=4) rfl rfl (by decide)) ?_)))
    obtain ⟨c'3,hp⟩:=Zj hp
    refine z9 (z6 (a:=((gi wild x3.toNat).X)) (b:=(((gi raw x3.toNat).X).tmod 4)) rfl rfl c'3) (z9 (zf (E:=Zc) (z:=x3) (hO'6.sl 2 rfl) rfl rfl c'1) (z9 (Za1 (off':=0) (off2:=0) (hO'6.sl 2 rfl) (Zi c'1) rfl rfl) (Ze5 (hO'6.ste (E:=Zc) (y:=({ gi wild x3.toNat with X:=((gi wild x3.toNat).X) + (((gi raw x3.toNat).X).tmod 4) })) (ws:=[.n (((gi wild x3.toNat).X) + (((gi raw x3.toNat).X).tmod 4))]) 2 rfl rfl (Zi c'1) rfl rfl ⟨rfl,Nat.le_of_ble_eq_true rfl,rfl⟩ rfl) ?_)))
    rintro _ k'7 z'1 ⟨rfl,f'2,m'1,hW⟩
    have fr'2:=fr'1.kept f'2 (by decide)
    have hO'7:=hW
    refine Zcu ?_
    refine And.intro ?_ ?_
    ·intro q hq
     simp only [List.mem_cons,List.not_mem_nil,or_false] at hq
     rcases hq with rfl
     ·refine ZaF ?_ ?_
      ·exact (fun h=>nomatch h)
      ·exact (fun h=>nomatch h)
    refine Za (Zfi ?_)
    have hW:=hO'7.bump 15
    have fr'3:=Fresh.start k'7 15
    have nb'2:∀ {i:Nat},h.n≤k'7.n + i:=Nat.le_trans hO'7.n (Nat.le_add_right _ _)
    have hO'8:=hW
    refine ZaS v'3 q'2_9 (ZaS (.n x3) rfl ?_)
    obtain ⟨c'4,hp⟩:=Zj hp
    refine z9 (zf (E:=Zc) (z:=x3) (hO'8.sl 2 rfl:Sl Zc (k'7.bump 15) v'3 (wild.set x3.toNat ({ gi wild x3.toNat with X:=((gi wild x3.toNat).X) + (((gi raw x3.toNat).X).tmod 4) }))) rfl rfl c'4) (z9 (Za1 (off':=0) (off2:=1) (hO'8.sl 2 rfl:Sl Zc (k'7.bump 15) v'3 (wild.set x3.toNat ({ gi wild x3.toNat with X:=((gi wild x3.toNat).X) + (((gi raw x3.toNat).X).tmod 4) }))) (Zi c'4) rfl rfl) (z9 (zB (w:=.n ((gi (wild.set x3.toNat ({ gi wild x3.toNat with X:=((gi wild x3.toNat).X) + (((gi raw x3.toNat).X).tmod 4) })) x3.toNat).Y)) (hO'8.sl 2 rfl:Sl Zc (k'7.bump 15) v'3 (wild.set x3.toNat ({ gi wild x3.toNat with X:=((gi wild x3.toNat).X) + (((gi raw x3.toNat).X).tmod 4) }))) rfl (Zi c'4) rfl) (ZaS v_raw q'2_2 (ZaS (.n x3) rfl (z9 (zf (E:=Zc) (z:=x3) (hO'8.rd0 s_raw.rd) rfl rfl c'2) (z9 (Za1 (off':=0) (off2:=1) (hO'8.rd0 s_raw.rd) (Zi c'2) rfl rfl) (z9 (zB (w:=.n ((gi raw x3.toNat).Y)) (hO'8.rd0 s_raw.rd) rfl (Zi c'2) rfl) ?_)))))))
    refine z9 (ZcU (a:=((gi raw x3.toNat).Y)) (b:=4) rfl rfl (by decide)) ?_
    obtain ⟨c'5,hp⟩:=Zj hp
    refine z9 (z6 (a:=((gi (wild.set x3.toNat ({ gi wild x3.toNat with X:=((gi wild x3.toNat).X) + (((gi raw x3.toNat).X).tmod 4) })) x3.toNat).Y)) (b:=(((gi raw x3.toNat).Y).tmod 4)) rfl rfl c'5) (z9 (zf (E:=Zc) (z:=x3) (hO'8.sl 2 rfl:Sl Zc (k'7.bump 15) v'3 (wild.set x3.toNat ({ gi wild x3.toNat with X:=((gi wild x3.toNat).X) + (((gi raw x3.toNat).X).tmod 4) }))) rfl rfl c'4) (z9 (Za1 (off':=0) (off2:=1) (hO'8.sl 2 rfl:Sl Zc (k'7.bump 15) v'3 (wild.set x3.toNat ({ gi wild x3.toNat with X:=((gi wild x3.toNat).X) + (((gi raw x3.toNat).X).tmod 4) }))) (Zi c'4) rfl rfl) (Ze5 (hO'8.ste (E:=Zc) (y:=({ gi (wild.set x3.toNat ({ gi wild x3.toNat with X:=((gi wild x3.toNat).X) + (((gi raw x3.toNat).X).tmod 4) })) x3.toNat with Y:=((gi (wild.set x3.toNat ({ gi wild x3.toNat with X:=((gi wild x3.toNat).X) + (((gi raw x3.toNat).X).tmod 4) })) x3.toNat).Y) + (((gi raw x3.toNat).Y).tmod 4) })) (ws:=[.n (((gi (wild.set x3.toNat ({ gi wild x3.toNat with X:=((gi wild x3.toNat).X) + (((gi raw x3.toNat).X).tmod 4) })) x3.toNat).Y) + (((gi raw x3.toNat).Y).tmod 4))]) 2 rfl rfl (Zi c'4) rfl rfl ⟨rfl,Nat.le_of_ble_eq_true rfl,rfl⟩ rfl) ?_)))
    rintro _ k'9 z'2 ⟨rfl,f'3,m'2,hW⟩
    have fr'4:=fr'3.kept f'3 (by decide)
    have hO'9:=hW
    refine Zcu ?_
    refine And.intro ?_ ?_
    ·intro q hq
     simp only [List.mem_cons,List.not_mem_nil,or_false] at hq
     rcases hq with rfl
     ·refine ZaF ?_ ?_
      ·exact (fun h=>nomatch h)
      ·exact (fun h=>nomatch h)
    refine Zan (Za (Zk ?_))
    obtain ⟨c'6,hp⟩:=Zj hp
    refine Zg (z6 (a:=x3) (b:=1) q'2_22 rfl c'6) (Zd (.n (x3 + 1)) rfl (Zb ?_))
    cases hp
    exact (Or.inl ⟨((wild.set x3.toNat ({ gi wild x3.toNat with X:=((gi wild x3.toNat).X) + (((gi raw x3.toNat).X).tmod 4) })).set x3.toNat ({ gi (wild.set x3.toNat ({ gi wild x3.toNat with X:=((gi wild x3.toNat).X) + (((gi raw x3.toNat).X).tmod 4) })) x3.toNat with Y:=((gi (wild.set x3.toNat ({ gi wild x3.toNat with X:=((gi wild x3.toNat).X) + (((gi raw x3.toNat).X).tmod 4) })) x3.toNat).Y) + (((gi raw x3.toNat).Y).tmod 4) }),x3 + 1),rfl,rfl,q'2_1,q'2_2,q'2_7,q'2_8,q'2_9,q'2_21,rfl,(hO'9.pick [0,1,2] rfl (by decide))⟩)
   ·refine z7 (t:=(decide (x3 < (raw.length:Int)))) rfl b'2 ?_
    refine zD (Zan (Za (Zk ?_)))
    obtain ⟨c'7,hp⟩:=Zj hp
    refine Zg (z6 (a:=x3) (b:=1) q'2_22 rfl c'7) (Zd (.n (x3 + 1)) rfl (Zb ?_))
    cases hp
    exact (Or.inl ⟨(wild,x3 + 1),rfl,rfl,q'2_1,q'2_2,q'2_7,q'2_8,q'2_9,q'2_21,rfl,(hO'5.pick [0,1,2] rfl (by decide))⟩)
  ·refine z7 (t:=(decide (x3 < (x2.length:Int)))) rfl b'1 ?_
   refine Zbv (zY ?_)
   cases hp
   refine (Or.inr ⟨wild,rfl,(fun h=>nomatch h),(fun he=>?_)⟩)
   subst he; exact ⟨rfl,q'2_1,q'2_2,q'2_7,q'2_8,q'2_9,(hO'5.pick [0,1,2] rfl (by decide))⟩
 intro e'1 q'1 k'4 hJ'1
 obtain ⟨wild1,rfl⟩:∃ x,x = o'1:=⟨_,rfl⟩
 obtain ⟨rfl,q'1_1,q'1_2,q'1_7,q'1_8,q'1_9,hO'4⟩:=hJ'1
 refine ZaD (Za (Zh (Zh (Zfi ?_))))
 have hW:=hO'4.bump 18
 have fr'5:=Fresh.start k'4 18
 have nb'3:∀ {i:Nat},h.n≤k'4.n + i:=Nat.le_trans hO'4.n (Nat.le_add_right _ _)
 have hO'10:=hW
 refine ZaS v'2 q'1_8 (ZaS v'2 q'1_8 (ZaS v_steps q'1_1 ?_))
 obtain ⟨x4,hx'3,hp⟩:=Zq hp
 obtain ⟨u'3,k'11,ca'3,v'4,rfl,hW'3⟩:=zz.ok (h:=(k'4.bump 18))  (hO'10.sl 1 rfl) (hO'10.rd0 s_steps.rd) hx'3
 refine Zgf (id:=262) (caps:=[]) rfl (Zu (v:=v'2) rfl (Zu (v:=v_steps) rfl zx)) ca'3 ?_
 have fr'6:=fr'5.call hW'3
 have hO'11:=hO'10.call hW'3 rfl
 refine ZaS v'3 q'1_9 (ZaS v_raw q'1_2 (ZaS v_raw q'1_2 (z9 (Zau (hO'11.rd0 s_raw.rd) rfl) (z9 (ZmS (a:=(raw.length:Int)) (b:=20) rfl rfl) ?_))))
 obtain ⟨c'8,hp⟩:=Zj hp
 refine z9 (Zi8 (E:=Zc) (z:=(min (raw.length:Int) 20)) (hO'11.rd0 s_raw.rd) rfl rfl c'8) (ZaS v'2 q'1_8 (ZaS v'2 q'1_8 (z9 (Zau (hO'11.sl 1 rfl) rfl) ?_)))
 obtain ⟨c'9,hp⟩:=Zj hp
 refine z9 (Zlr (a:=(x1.length:Int)) (b:=2) rfl rfl c'9) ?_
 obtain ⟨c'10,hp⟩:=Zj hp
 refine z9 (Zi8 (E:=Zc) (z:=((x1.length:Int).tdiv 2)) (hO'11.sl 1 rfl) rfl rfl c'10) (Ze5 (hO'11.bsl (E:=eV) (l:=[v'2,v'4,v'3,(V.cut v_raw 0 (min (raw.length:Int) 20:Int).toNat),(V.cut v'2 0 ((x1.length:Int).tdiv 2:Int).toNat)]) ⟨fr'6.m 15 (by decide) (by decide),nb'3⟩ (by rw [(zt (v:=v'2) rfl (zt (v:=v'4) rfl (zt (v:=v'3) rfl (zt (v:=(V.cut v_raw 0 (min (raw.length:Int) 20:Int).toNat)) rfl (zt (v:=(V.cut v'2 0 ((x1.length:Int).tdiv 2:Int).toNat)) rfl Za2)))))]; simp only [fill,(hO'11.sl 1 rfl).cells,(hO'11.sl 3 rfl).cells,(hO'11.sl 2 rfl).cells,(Sl.cutU (hO'11.rd0 s_raw.rd) c'8:Sl Zc k'11 (V.cut v_raw 0 (min (raw.length:Int) 20:Int).toNat) (raw.take (min (raw.length:Int) 20:Int).toNat)).cells,(Sl.cutU (hO'11.sl 1 rfl) c'10:Sl Zc k'11 (V.cut v'2 0 ((x1.length:Int).tdiv 2:Int).toNat) (x1.take ((x1.length:Int).tdiv 2:Int).toNat)).cells]; simp [over]) rfl) ?_)
 rintro v'5 k'12 z'3 ⟨r'2,f'4,hW⟩
 have fr'7:=fr'6.kept f'4 (by decide)
 have hO'12:=hW
 refine z9 (Zej (n:=([x1,x4,wild1,raw.take (min (raw.length:Int) 20:Int).toNat,x1.take ((x1.length:Int).tdiv 2:Int).toNat]).length) (hO'12.sl 4 rfl:Sl eV k'12 v'5 [v'2,v'4,v'3,(V.cut v_raw 0 (min (raw.length:Int) 20:Int).toNat),(V.cut v'2 0 ((x1.length:Int).tdiv 2:Int).toNat)]) rfl rfl) (ZaS (.n 0) rfl (Zcu ?_))
 refine And.intro ?_ ?_
 ·intro q hq
  cases hq
 refine Za (Zaq ?_)
 obtain ⟨o'3,ho'2,hp⟩:=Zq hp
 refine W.mono (Q:=fun e fr k=>match (generalizing:=false) o'3 with
   | .inl _=>e = (.exit 2)∧Own B h k []
   | .inr _=>e = .ret∧fr 6 = .b false∧Own B h k []) ?_ ?_
 ·clear hp
  refine zP (fun st fr k=>match st with | x5=>fr 7 = v'1∧fr 73 = v'5∧fr 74 = .n ([x1,x4,wild1,raw.take (min (raw.length:Int) 20:Int).toNat,x1.take ((x1.length:Int).tdiv 2:Int).toNat].length:Int)∧fr 75 = .n x5∧Own B h k [eSl Zn v'1 x,eSl eV v'5 [v'2,v'4,v'3,(V.cut v_raw 0 (min (raw.length:Int) 20:Int).toNat),(V.cut v'2 0 ((x1.length:Int).tdiv 2:Int).toNat)],eSl Zc v'2 x1,eSl Zc v'4 x4,eSl Zc v'3 wild1]) ho'2 (s:=0) ⟨q'1_7,rfl,rfl,rfl,(hO'12.pick [0,4,1,3,2] rfl (by decide))⟩ ?_
  rintro x5 q'4 k'14 ⟨q'4_7,q'4_73,q'4_74,q'4_75,hO'14⟩ o'4 hp
  dsimp only [zq.s1] at hp
  refine Zh (Zk (Zg (zN (a:=x5) (b:=([x1,x4,wild1,raw.take (min (raw.length:Int) 20:Int).toNat,x1.take ((x1.length:Int).tdiv 2:Int).toNat].length:Int)) q'4_75 q'4_74) (Zb (Za (Zh ?_)))))
  rcases Zp hp with ⟨b'3,hp⟩ | ⟨b'3,hp⟩
  ·refine zA (t:=(decide (x5 < ([x1,x4,wild1,raw.take (min (raw.length:Int) 20:Int).toNat,x1.take ((x1.length:Int).tdiv 2:Int).toNat].length:Int)))) rfl b'3 ?_
   refine zD (Za (Zh (Zaq (Zh (Zk ?_)))))
   obtain ⟨c'11,hp⟩:=Zj hp
   refine Zg (zf (E:=eV) (z:=x5) (hO'14.sl 1 rfl:Sl eV k'14 v'5 [v'2,v'4,v'3,(V.cut v_raw 0 (min (raw.length:Int) 20:Int).toNat),(V.cut v'2 0 ((x1.length:Int).tdiv 2:Int).toNat)]) q'4_73 q'4_75 c'11) (Zg (zB (w:=(gi [v'2,v'4,v'3,(V.cut v_raw 0 (min (raw.length:Int) 20:Int).toNat),(V.cut v'2 0 ((x1.length:Int).tdiv 2:Int).toNat)] x5.toNat)) (hO'14.sl 1 rfl:Sl eV k'14 v'5 [v'2,v'4,v'3,(V.cut v_raw 0 (min (raw.length:Int) 20:Int).toNat),(V.cut v'2 0 ((x1.length:Int).tdiv 2:Int).toNat)]) rfl (Zi c'11) rfl) (Zd ((gi [v'2,v'4,v'3,(V.cut v_raw 0 (min (raw.length:Int) 20:Int).toNat),(V.cut v'2 0 ((x1.length:Int).tdiv 2:Int).toNat)] x5.toNat)) rfl (Zb (Za (Zh (Zk (Zd v'1 q'4_7 ?_)))))))
   refine Zd ((gi [v'2,v'4,v'3,(V.cut v_raw 0 (min (raw.length:Int) 20:Int).toNat),(V.cut v'2 0 ((x1.length:Int).tdiv 2:Int).toNat)] x5.toNat)) rfl ?_
   obtain ⟨x6,hx'4,hp⟩:=Zq hp
   obtain ⟨u'4,k'15,ca'4,rfl,hW'4⟩:=Zb8.ok (h:=k'14)  (hO'14.sl 0 rfl) (Lit.at (Lit.cons (hO'14.sl 2 rfl) (Lit.cons (hO'14.sl 3 rfl) (Lit.cons (hO'14.sl 4 rfl) (Lit.cons (Sl.cutU (hO'14.rd0 s_raw.rd) c'8:Sl Zc k'14 (V.cut v_raw 0 (min (raw.length:Int) 20:Int).toNat) (raw.take (min (raw.length:Int) 20:Int).toNat)) (Lit.cons (Sl.cutU (hO'14.sl 2 rfl) c'10:Sl Zc k'14 (V.cut v'2 0 ((x1.length:Int).tdiv 2:Int).toNat) (x1.take ((x1.length:Int).tdiv 2:Int).toNat)) Lit.nil))))) (Zi c'11):Sl Zc k'14 (gi [v'2,v'4,v'3,(V.cut v_raw 0 (min (raw.length:Int) 20:Int).toNat),(V.cut v'2 0 ((x1.length:Int).tdiv 2:Int).toNat)] x5.toNat) (gi [x1,x4,wild1,raw.take (min (raw.length:Int) 20:Int).toNat,x1.take ((x1.length:Int).tdiv 2:Int).toNat] x5.toNat)) hx'4
   refine Zbd (id:=208) (caps:=[]) rfl (Zu (v:=v'1) rfl (Zu (v:=(gi [v'2,v'4,v'3,(V.cut v_raw 0 (min (raw.length:Int) 20:Int).toNat),(V.cut v'2 0 ((x1.length:Int).tdiv 2:Int).toNat)] x5.toNat)) rfl zx)) ca'4 ?_
   have hO'15:=hO'14.call hW'4 rfl
   refine Zd v'1 q'4_7 (Zd ((gi [v'2,v'4,v'3,(V.cut v_raw 0 (min (raw.length:Int) 20:Int).toNat),(V.cut v'2 0 ((x1.length:Int).tdiv 2:Int).toNat)] x5.toNat)) rfl ?_)
   obtain ⟨x7,hx'5,hp⟩:=Zq hp
   obtain ⟨u'5,k'16,ca'5,rfl,hW'5⟩:=Za5.ok (h:=k'15)  (hO'15.sl 0 rfl) (Lit.at (Lit.cons (hO'15.sl 2 rfl) (Lit.cons (hO'15.sl 3 rfl) (Lit.cons (hO'15.sl 4 rfl) (Lit.cons (Sl.cutU (hO'15.rd0 s_raw.rd) c'8:Sl Zc k'15 (V.cut v_raw 0 (min (raw.length:Int) 20:Int).toNat) (raw.take (min (raw.length:Int) 20:Int).toNat)) (Lit.cons (Sl.cutU (hO'15.sl 2 rfl) c'10:Sl Zc k'15 (V.cut v'2 0 ((x1.length:Int).tdiv 2:Int).toNat) (x1.take ((x1.length:Int).tdiv 2:Int).toNat)) Lit.nil))))) (Zi c'11):Sl Zc k'15 (gi [v'2,v'4,v'3,(V.cut v_raw 0 (min (raw.length:Int) 20:Int).toNat),(V.cut v'2 0 ((x1.length:Int).tdiv 2:Int).toNat)] x5.toNat) (gi [x1,x4,wild1,raw.take (min (raw.length:Int) 20:Int).toNat,x1.take ((x1.length:Int).tdiv 2:Int).toNat] x5.toNat)) hx'5
   refine Zbd (id:=263) (caps:=[]) rfl (Zu (v:=v'1) rfl (Zu (v:=(gi [v'2,v'4,v'3,(V.cut v_raw 0 (min (raw.length:Int) 20:Int).toNat),(V.cut v'2 0 ((x1.length:Int).tdiv 2:Int).toNat)] x5.toNat)) rfl zx)) ca'5 ?_
   have hO'16:=hO'15.call hW'5 rfl
   refine Zg (Zck (a:=x6) (b:=x7) rfl rfl) (Zb (Za ?_))
   rcases Zp hp with ⟨b'4,hp⟩ | ⟨b'4,hp⟩
   ·refine zA (t:=(!(decide (x6 = x7)))) rfl b'4 ?_
    refine Zh (Zk (Zd (.b false) rfl (Zb (Za (Zad (ZaP (zk ?_)))))))
    cases hp
    refine (Or.inr ⟨.inr (),rfl,(fun h=>nomatch h),(fun he=>?_)⟩)
    subst he; exact ⟨rfl,rfl,(hO'16.pick [] rfl (by decide))⟩
   ·refine z7 (t:=(!(decide (x6 = x7)))) rfl b'4 ?_
    refine zD (Zan (Za (Zk ?_)))
    obtain ⟨c'12,hp⟩:=Zj hp
    refine Zg (z6 (a:=x5) (b:=1) q'4_75 rfl c'12) (Zd (.n (x5 + 1)) rfl (Zb ?_))
    cases hp
    exact (Or.inl ⟨x5 + 1,rfl,rfl,q'4_7,q'4_73,q'4_74,rfl,(hO'16.pick [0,1,2,3,4] rfl (by decide))⟩)
  ·refine z7 (t:=(decide (x5 < ([x1,x4,wild1,raw.take (min (raw.length:Int) 20:Int).toNat,x1.take ((x1.length:Int).tdiv 2:Int).toNat].length:Int)))) rfl b'3 ?_
   refine Zbv (zY ?_)
   cases hp
   refine (Or.inr ⟨.inl (),rfl,(fun h=>nomatch h),(fun he=>?_)⟩)
   subst he; exact ⟨rfl,(hO'14.pick [] rfl (by decide))⟩
 intro e'2 q'3 k'13 hJ'2
 rcases o'3 with _ | _
 ·obtain ⟨rfl,hO'13⟩:=hJ'2
  refine ZaD (Za (Zh (Zk ?_)))
  obtain ⟨x8,hx'6,hp⟩:=Zq hp
  obtain ⟨u'6,k'17,ca'6,rfl,hW'6⟩:=ZbW.ok (h:=k'13)   hx'6
  refine Zbd (id:=185) (caps:=[]) rfl zx ca'6 ?_
  have hO'17:=hO'13.call hW'6 rfl
  refine Zd (.b x8) rfl (Zb (Za (Zad (zu (zG (n:=6) (v:=.b x8) rfl ZN) ?_))))
  cases hp
  exact ⟨rfl,(hO'17.pick [] rfl (by decide))⟩
 ·obtain ⟨rfl,q'3_6,hO'13⟩:=hJ'2
  refine ZaP (zk (zu (zG (n:=6) (v:=.b false) q'3_6 ZN) ?_))
  cases hp
  exact ⟨rfl,(hO'13.pick [] rfl (by decide))⟩

end Mu
