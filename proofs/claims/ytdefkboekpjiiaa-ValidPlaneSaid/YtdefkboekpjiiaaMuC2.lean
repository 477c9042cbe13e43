/- The code comes to what was worked out. -/
import Derived.Test.YtdefkboekpjiiaaMuDf
import Derived.Test.YtdefkboekpjiiaaMuPa
import Derived.Test.YtdefkboekpjiiaaMuC1
set_option linter.unusedVariables false
set_option linter.unnecessarySimpa false
set_option linter.unusedSimpArgs false
set_option maxHeartbeats 2000000
set_option maxRecDepth 10000
namespace Mu
open Go (IntKind BinOp UnOp)
theorem zz.ok {h:Hp} {turns:List Int} {v_turns:V} (s_turns:Sl zt h v_turns turns) {r:Int} (hp:zz turns = some r) :
  ∃ u k',Is G 219 [v_turns] h u k'∧V.n r = u∧Own (fun r=>r < h.n) h k' []:=by
 refine WC.is (Za0 Zci ?_)
 unfold zz at hp
 let B:Nat→Prop:=(fun r=>r < h.n)
 have hO:Own B h h []:=Own.start0 h
 refine Zm (Zs (Zd (.n 0) rfl (Zc (Zb (Zm (Zs (Zd (.n 0) rfl ?_)))))))
 refine Zc (Zb (Zm (Zm (Zs (Zd v_turns rfl (Zi (Zam (hO.rd0 s_turns.rd) rfl) (Zd (.n 0) rfl ?_)))))))
 refine Zc (Zb (Zae ?_))
 obtain ⟨o'1,ho'1,hp⟩:=Zv hp
 refine W.mono (Q:=fun e fr k=>match (generalizing:=false) o'1 with
   | n1=>e = (.exit 0)∧fr 3 = .n n1∧Own B h k []) ?_ ?_
 ·clear hp
  refine zE (fun st fr k=>match st with | (n,x)=>fr 3 = .n n∧fr 6 = v_turns∧fr 7 = .n (turns.length:Int)∧fr 8 = .n x∧Own B h k []) ho'1 (s:=(0,0)) ⟨rfl,rfl,rfl,rfl,(hO.pick [] rfl (by decide))⟩ ?_
  rintro ⟨n,x⟩ q'2 k'2 ⟨q'2_3,q'2_6,q'2_7,q'2_8,hO'2⟩ o'2 hp
  dsimp only [zz.s0] at hp
  refine Zm (Zs (Zi (z4 (a:=x) (b:=(turns.length:Int)) q'2_8 q'2_7) (Zc (Zb (Zm ?_)))))
  rcases Zy hp with ⟨b'1,hp⟩ | ⟨b'1,hp⟩
  ·refine zA (t:=(decide (x < (turns.length:Int)))) rfl b'1 ?_
   refine zB (Zb (Zm (Zae (Zm (Zs ?_)))))
   obtain ⟨c'1,hp⟩:=Zp hp
   refine Zi (zn (E:=zt) (z:=x) (hO'2.rd0 s_turns.rd) q'2_6 q'2_8 c'1) (Zi (zI (w:=.n (gi turns x.toNat)) (hO'2.rd0 s_turns.rd) rfl (Zr c'1) rfl) (Zd (.n (gi turns x.toNat)) rfl (Zc (Zb (Zm (Zs (Zd (.n (gi turns x.toNat)) rfl ?_)))))))
   refine Zi (Zcx (a:=(gi turns x.toNat)) (b:=(-2)) rfl rfl) (Zd (.b (decide ((-2)≤(gi turns x.toNat)))) rfl ?_)
   refine zU 3 (fun fr' k'=>k'2 = k'∧fr' 17 = .b ((decide ((-2)≤(gi turns x.toNat))) && (decide ((gi turns x.toNat)≤1)))∧fr' 3 = .n n∧fr' 5 = .n (gi turns x.toNat)∧fr' 6 = v_turns∧fr' 7 = .n (turns.length:Int)∧fr' 8 = .n x) ?_ ?_
   ·rcases bc (decide ((-2)≤(gi turns x.toNat))) with b'2 | b'2
    ·skip
     refine ZO rfl b'2 (Zd (.n (gi turns x.toNat)) rfl (ZO rfl b'2 (Zi (ZjA (a:=(gi turns x.toNat)) (b:=1) rfl rfl) (Zi (ZV (t:=(decide ((-2)≤(gi turns x.toNat)))) (v:=.b ((decide ((-2)≤(gi turns x.toNat))) && (decide ((gi turns x.toNat)≤1)))) rfl b'2 (Eq.trans (b:=V.b (decide ((gi turns x.toNat)≤1))) rfl (Zc7 b'2))) (Zc ?_)))))
     exact ⟨rfl,rfl,q'2_3,rfl,q'2_6,q'2_7,q'2_8⟩
    ·skip
     refine ZC rfl b'2 (ZC rfl b'2 (Zi (ZT (t:=(decide ((-2)≤(gi turns x.toNat)))) (v:=.b ((decide ((-2)≤(gi turns x.toNat))) && (decide ((gi turns x.toNat)≤1)))) rfl b'2 (Eq.trans (b:=V.b false) rfl (ZbU b'2))) (Zc ?_)))
     exact ⟨rfl,rfl,q'2_3,rfl,q'2_6,q'2_7,q'2_8⟩
   rintro frg'1 _ ⟨rfl,g'1_17,g'1_3,g'1_5,g'1_6,g'1_7,g'1_8⟩
   refine Zc (Zb ?_)
   rcases Zy hp with ⟨b'3,hp⟩ | ⟨b'3,hp⟩
   ·refine zA (t:=((decide ((-2)≤(gi turns x.toNat))) && (decide ((gi turns x.toNat)≤1)))) g'1_17 b'3 ?_
    refine Zs (Zd (.n n) g'1_3 (Zd (.n (gi turns x.toNat)) g'1_5 ?_))
    obtain ⟨c'2,hp⟩:=Zp hp
    refine Zi (z8 (a:=n) (b:=(gi turns x.toNat)) rfl rfl c'2) (Zd (.n (n + (gi turns x.toNat))) rfl (Zc (zV (Zb (Zs ?_)))))
    obtain ⟨c'3,hp⟩:=Zp hp
    refine Zi (z8 (a:=x) (b:=1) g'1_8 rfl c'3) (Zd (.n (x + 1)) rfl (Zc ?_))
    cases hp
    exact (Or.inl ⟨(n + (gi turns x.toNat),x + 1),rfl,rfl,rfl,g'1_6,g'1_7,rfl,(hO'2.pick [] rfl (by decide))⟩)
   ·refine z9 (t:=((decide ((-2)≤(gi turns x.toNat))) && (decide ((gi turns x.toNat)≤1)))) g'1_17 b'3 ?_
    refine zB (zV (Zb (Zs ?_)))
    obtain ⟨c'4,hp⟩:=Zp hp
    refine Zi (z8 (a:=x) (b:=1) g'1_8 rfl c'4) (Zd (.n (x + 1)) rfl (Zc ?_))
    cases hp
    exact (Or.inl ⟨(n,x + 1),rfl,rfl,g'1_3,g'1_6,g'1_7,rfl,(hO'2.pick [] rfl (by decide))⟩)
  ·refine z9 (t:=(decide (x < (turns.length:Int)))) rfl b'1 ?_
   refine ZaL (zO ?_)
   cases hp
   refine (Or.inr ⟨n,rfl,(fun h=>nomatch h),(fun he=>?_)⟩)
   subst he; exact ⟨rfl,q'2_3,(hO'2.pick [] rfl (by decide))⟩
 intro e'1 q'1 k'1 hJ'1
 obtain ⟨n1,rfl⟩:∃ x,x = o'1:=⟨_,rfl⟩
 obtain ⟨rfl,q'1_3,hO'1⟩:=hJ'1
 refine Zav (Zb (Zm (Zs (Zd (.n n1) q'1_3 (Zd (.n n1) rfl (Zc (Zb ?_)))))))
 refine Zao (z6 (zR (n:=2) (v:=.n n1) rfl zj) ?_)
 cases hp
 exact ⟨rfl,(hO'1.pick [] rfl (by decide))⟩

theorem zw.ok {h:Hp} {cells:List Za} {v_cells:V} (s_cells:Sl Zh h v_cells cells) {r:Int × Bool} (hp:zw cells = some r) :
  ∃ u k',Is G 201 [v_cells] h u k'∧V.tu [.n r.1,.b r.2] = u∧Own (fun r=>r < h.n) h k' []:=by
 refine WC.is (Za0 ZcK ?_)
 unfold zw at hp
 let B:Nat→Prop:=(fun r=>r < h.n)
 have hO:Own B h h []:=Own.start0 h
 refine Zm (Zs (Zd (.n 0) rfl (Zd (.b false) rfl (Zc (Zb (Zm (Zs ?_)))))))
 refine Zd v_cells rfl ?_
 obtain ⟨⟨x,x1⟩,hx'1,hp⟩:=Zv hp
 obtain ⟨u'1,k'1,ca'1,v'1,vs'1,rfl,hW'1⟩:=zd.ok (h:=h)  (hO.rd0 s_cells.rd) hx'1
 refine Zat (id:=203) (caps:=[]) rfl (Z4 (v:=v_cells) rfl zh) ca'1 ?_
 have hO'1:=hO.call hW'1 rfl
 refine Zd (.tu [v'1,.n x1]) rfl (Zi (Za8 (vs:=[v'1,.n x1]) (v:=v'1) rfl rfl) (Zi (Za8 (vs:=[v'1,.n x1]) (v:=.n x1) rfl rfl) (Zd v'1 rfl (Zd (.n x1) rfl (Zc (Zb (Zm ?_)))))))
 refine Zs (Zd (.n (-1)) rfl (Zc (Zb (Zm (Zm (Zs (Zd v'1 rfl ?_)))))))
 refine Zi (Zg1 (n:=(x).length) (hO'1.sl 0 rfl) (hO'1.allLen 1 rfl:(vs'1).length = (x).length) rfl) (Zd (.n 0) rfl (Zc (Zb (Zae ?_))))
 obtain ⟨o'1,ho'1,hp⟩:=Zv hp
 refine W.mono (Q:=fun e fr k=>match (generalizing:=false) o'1 with
   | .inl at_1=>e = (.exit 0)∧fr 6 = .n at_1∧Own B h k []
   | .inr _=>e = .ret∧fr 2 = .n 0∧fr 3 = .b false∧Own B h k []) ?_ ?_
 ·clear hp
  refine zE (fun st fr k=>match st with | (at_,x2)=>fr 0 = v_cells∧fr 6 = .n at_∧fr 14 = v'1∧fr 15 = .n (x.length:Int)∧fr 16 = .n x2∧Own B h k [eSl eV v'1 vs'1,Zb3 Ze vs'1 x]) ho'1 (s:=((-1),0)) ⟨rfl,rfl,rfl,rfl,rfl,(hO'1.pick [0,1] rfl (by decide))⟩ ?_
  rintro ⟨at_,x2⟩ q'2 k'3 ⟨q'2_0,q'2_6,q'2_14,q'2_15,q'2_16,hO'3⟩ o'2 hp
  dsimp only [zw.s0] at hp
  refine Zm (Zs (Zi (z4 (a:=x2) (b:=(x.length:Int)) q'2_16 q'2_15) (Zc (Zb (Zm ?_)))))
  rcases Zy hp with ⟨b'1,hp⟩ | ⟨b'1,hp⟩
  ·refine zA (t:=(decide (x2 < (x.length:Int)))) rfl b'1 ?_
   refine zB (Zb (Zm (Zae (Zm (Zs (Zd (.n x2) q'2_16 ?_))))))
   obtain ⟨c'1,hp⟩:=Zp hp
   refine Zi (zn (E:=eV) (z:=x2) (hO'3.sl 0 rfl) q'2_14 q'2_16 (by rw [(hO'3.allLen 1 rfl:(vs'1).length = (x).length)]; exact c'1)) (Zi (zI (w:=(gi vs'1 x2.toNat)) (hO'3.sl 0 rfl) rfl (by rw [(hO'3.allLen 1 rfl:(vs'1).length = (x).length)]; exact Zr c'1) rfl) (Zd (.n x2) rfl (Zd ((gi vs'1 x2.toNat)) rfl (Zc (Zb (Zm (Zs ?_)))))))
   refine Zd v_cells q'2_0 (Zd ((gi vs'1 x2.toNat)) rfl ?_)
   obtain ⟨x3,hx'2,hp⟩:=Zv hp
   obtain ⟨u'2,k'4,ca'2,v'2,rfl,hW'2⟩:=zQ.ok (h:=k'3)  (hO'3.rd0 s_cells.rd) (hO'3.inn 1 rfl (Zr c'1):Sl Ze k'3 (gi vs'1 x2.toNat) (gi x x2.toNat)) hx'2
   refine Zat (id:=204) (caps:=[]) rfl (Z4 (v:=v_cells) rfl (Z4 (v:=(gi vs'1 x2.toNat)) rfl zh)) ca'2 ?_
   have hO'4:=hO'3.call hW'2 rfl
   obtain ⟨x4,hx'3,hp⟩:=Zv hp
   obtain ⟨u'3,k'5,ca'3,rfl,hW'3⟩:=zz.ok (h:=k'4)  (hO'4.sl 2 rfl) hx'3
   refine Zat (id:=219) (caps:=[]) rfl (Z4 (v:=v'2) rfl zh) ca'3 ?_
   have hO'5:=hO'4.call hW'3 rfl
   refine Zc (Zb (Zae (Zm (Zs (Zi (Za7 (a:=x4) (b:=4) rfl rfl) (Zd (.b (decide (x4 = 4))) rfl (Zc ?_)))))))
   refine Zb ?_
   rcases Zy hp with ⟨b'2,hp⟩ | ⟨b'2,hp⟩
   ·refine zA (t:=(decide (x4 = 4))) rfl b'2 ?_
    refine zB (zV (zV (Zb (Zs ?_))))
    obtain ⟨c'2,hp⟩:=Zp hp
    refine Zi (z8 (a:=x2) (b:=1) q'2_16 rfl c'2) (Zd (.n (x2 + 1)) rfl (Zc ?_))
    cases hp
    exact (Or.inl ⟨(at_,x2 + 1),rfl,rfl,q'2_0,q'2_6,q'2_14,q'2_15,rfl,(hO'5.pick [0,1] rfl (by decide))⟩)
   ·refine z9 (t:=(decide (x4 = 4))) rfl b'2 ?_
    refine Zm (Zs (Zi (Za7 (a:=x4) (b:=(-4)) rfl rfl) (Zd (.b (decide (x4 = (-4)))) rfl (Zc (Zb ?_)))))
    rcases Zy hp with ⟨b'3,hp⟩ | ⟨b'3,hp⟩
    ·refine zA (t:=(decide (x4 = (-4)))) rfl b'3 ?_
     refine Zm (Zm (Zs (Zd (.n at_) q'2_6 (Zi (Zcx (a:=at_) (b:=0) rfl rfl) (Zc (Zb ?_))))))
     rcases Zy hp with ⟨b'4,hp⟩ | ⟨b'4,hp⟩
     ·refine zA (t:=(decide (0≤at_))) rfl b'4 ?_
      refine Zm (Zs (Zd (.n 0) rfl (Zd (.b false) rfl (Zc (Zb (Zao (zX ?_)))))))
      refine ZbQ (ZbQ (zX ?_))
      cases hp
      refine (Or.inr ⟨.inr (),rfl,(fun h=>nomatch h),(fun he=>?_)⟩)
      subst he; exact ⟨rfl,rfl,rfl,(hO'5.pick [] rfl (by decide))⟩
     ·refine z9 (t:=(decide (0≤at_))) rfl b'4 ?_
      refine zB (Zb (Zs (Zd (.n x2) rfl (Zd (.n x2) rfl (Zc (zV (zV ?_)))))))
      refine Zb (Zs ?_)
      obtain ⟨c'3,hp⟩:=Zp hp
      refine Zi (z8 (a:=x2) (b:=1) q'2_16 rfl c'3) (Zd (.n (x2 + 1)) rfl (Zc ?_))
      cases hp
      exact (Or.inl ⟨(x2,x2 + 1),rfl,rfl,q'2_0,rfl,q'2_14,q'2_15,rfl,(hO'5.pick [0,1] rfl (by decide))⟩)
    ·refine z9 (t:=(decide (x4 = (-4)))) rfl b'3 ?_
     refine Zm (Zs (Zd (.n 0) rfl (Zd (.b false) rfl (Zc (Zb (Zao (ZbQ ?_)))))))
     refine ZbQ (zX ?_)
     cases hp
     refine (Or.inr ⟨.inr (),rfl,(fun h=>nomatch h),(fun he=>?_)⟩)
     subst he; exact ⟨rfl,rfl,rfl,(hO'5.pick [] rfl (by decide))⟩
  ·refine z9 (t:=(decide (x2 < (x.length:Int)))) rfl b'1 ?_
   refine ZaL (zO ?_)
   cases hp
   refine (Or.inr ⟨.inl at_,rfl,(fun h=>nomatch h),(fun he=>?_)⟩)
   subst he; exact ⟨rfl,q'2_6,(hO'3.pick [] rfl (by decide))⟩
 intro e'1 q'1 k'2 hJ'1
 rcases o'1 with at_1 | _
 ·obtain ⟨rfl,q'1_6,hO'2⟩:=hJ'1
  refine Zav (Zb (Zm (Zs (Zd (.n at_1) q'1_6 (Zd (.n at_1) q'1_6 (Zi (Zcx (a:=at_1) (b:=0) rfl rfl) (Zd (.n at_1) rfl ?_)))))))
  refine Zd (.b (decide (0≤at_1))) rfl (Zc (Zb (Zao (z6 (zR (n:=2) (v:=.n at_1) rfl (zR (n:=3) (v:=.b (decide (0≤at_1))) rfl zj)) ?_))))
  cases hp
  exact ⟨rfl,(hO'2.pick [] rfl (by decide))⟩
 ·obtain ⟨rfl,q'1_2,q'1_3,hO'2⟩:=hJ'1
  refine ZbQ (zX (z6 (zR (n:=2) (v:=.n 0) q'1_2 (zR (n:=3) (v:=.b false) q'1_3 zj)) ?_))
  cases hp
  exact ⟨rfl,(hO'2.pick [] rfl (by decide))⟩

theorem zo.ok {h:Hp} {cells:List Za} {v_cells:V} (s_cells:Sl Zh h v_cells cells) {r:Int} (hp:zo cells = some r) :
  ∃ u k',Is G 176 [v_cells] h u k'∧V.n r = u∧Own (fun r=>r < h.n) h k' []:=by
 refine WC.is (Za0 ZcI ?_)
 unfold zo at hp
 let B:Nat→Prop:=(fun r=>r < h.n)
 have hO:Own B h h []:=Own.start0 h
 refine Zm (Zs (Zd (.n 0) rfl (Zc (Zb (Zm (Zm (Zs ?_)))))))
 refine Zd v_cells rfl ?_
 obtain ⟨x,hx'1,hp⟩:=Zv hp
 obtain ⟨u'1,k'1,ca'1,rfl,hW'1⟩:=ZX.ok (h:=h)  (hO.rd0 s_cells.rd) hx'1
 refine Zat (id:=66) (caps:=[]) rfl (Z4 (v:=v_cells) rfl zh) ca'1 ?_
 have hO'1:=hO.call hW'1 rfl
 refine Zd (.n x) rfl (Zc (Zb (Zm (Zs (Zd (.n x) rfl (Zi (ZcL (a:=x) (b:=0) rfl rfl) (Zc ?_)))))))
 refine Zb ?_
 rcases Zy hp with ⟨b'1,hp⟩ | ⟨b'1,hp⟩
 ·refine zA (t:=(!(decide (x = 0)))) rfl b'1 ?_
  refine Zm (Zs (Zd (.n x) rfl (Zd (.n x) rfl (Zc (Zb (Zao (zX ?_)))))))
  refine z6 (zR (n:=2) (v:=.n x) rfl zj) ?_
  cases hp
  exact ⟨rfl,(hO'1.pick [] rfl (by decide))⟩
 ·refine z9 (t:=(!(decide (x = 0)))) rfl b'1 ?_
  refine zB (Zb (Zm (Zm (Zs (Zd v_cells rfl ?_)))))
  obtain ⟨x1,hx'2,hp⟩:=Zv hp
  obtain ⟨u'2,k'2,ca'2,rfl,hW'2⟩:=ZaG.ok (h:=k'1)  (hO'1.rd0 s_cells.rd) hx'2
  refine Zat (id:=32) (caps:=[]) rfl (Z4 (v:=v_cells) rfl zh) ca'2 ?_
  have hO'2:=hO'1.call hW'2 rfl
  refine Zi (ZcU (t:=x1) rfl) (Zc (Zb ?_))
  rcases Zy hp with ⟨b'2,hp⟩ | ⟨b'2,hp⟩
  ·refine zA (t:=(!x1)) rfl b'2 ?_
   refine Zm (Zs (Zd (.n 13) rfl (Zc (Zb (Zao (zX (z6 (zR (n:=2) (v:=.n 13) rfl zj) ?_)))))))
   cases hp
   exact ⟨rfl,(hO'2.pick [] rfl (by decide))⟩
  ·refine z9 (t:=(!x1)) rfl b'2 ?_
   refine zB (Zb (Zm (Zm (Zs (Zd v_cells rfl ?_)))))
   obtain ⟨⟨x2,x3⟩,hx'3,hp⟩:=Zv hp
   obtain ⟨u'3,k'3,ca'3,rfl,hW'3⟩:=zw.ok (h:=k'2)  (hO'2.rd0 s_cells.rd) hx'3
   refine Zat (id:=201) (caps:=[]) rfl (Z4 (v:=v_cells) rfl zh) ca'3 ?_
   have hO'3:=hO'2.call hW'3 rfl
   refine Zd (.tu [.n x2,.b x3]) rfl (Zi (Za8 (vs:=[.n x2,.b x3]) (v:=.n x2) rfl rfl) (Zi (Za8 (vs:=[.n x2,.b x3]) (v:=.b x3) rfl rfl) (Zd (.n x2) rfl (Zd (.b x3) rfl (Zc (Zb (Zm ?_)))))))
   refine Zs (Zd (.b x3) rfl (Zi (ZcU (t:=x3) rfl) (Zd (.b (!x3)) rfl ?_)))
   refine zU 4 (fun fr' k'=>k'3 = k'∧fr' 25 = .b ((!x3) && (decide (1 < (cells.length:Int))))) ?_ ?_
   ·rcases bc (!x3) with b'3 | b'3
    ·skip
     refine ZO rfl b'3 (Zd v_cells rfl (ZO rfl b'3 (Zi (Zam (hO'3.rd0 s_cells.rd) rfl) (ZO rfl b'3 (Zi (Zec (a:=(cells.length:Int)) (b:=1) rfl rfl) (Zi (ZV (t:=(!x3)) (v:=.b ((!x3) && (decide (1 < (cells.length:Int))))) rfl b'3 (Eq.trans (b:=V.b (decide (1 < (cells.length:Int)))) rfl (Zc7 b'3))) (Zc ?_)))))))
     exact ⟨rfl,rfl⟩
    ·skip
     refine ZC rfl b'3 (ZC rfl b'3 (ZC rfl b'3 (Zi (ZT (t:=(!x3)) (v:=.b ((!x3) && (decide (1 < (cells.length:Int))))) rfl b'3 (Eq.trans (b:=V.b false) rfl (ZbU b'3))) (Zc ?_))))
     exact ⟨rfl,rfl⟩
   rintro frg'1 _ ⟨rfl,g'1_25⟩
   refine Zc (Zb ?_)
   rcases Zy hp with ⟨b'4,hp⟩ | ⟨b'4,hp⟩
   ·refine zA (t:=((!x3) && (decide (1 < (cells.length:Int))))) g'1_25 b'4 ?_
    refine Zm (Zs (Zd (.n 10) rfl (Zc (Zb (Zao (zX (z6 (zR (n:=2) (v:=.n 10) rfl zj) ?_)))))))
    cases hp
    exact ⟨rfl,(hO'3.pick [] rfl (by decide))⟩
   ·refine z9 (t:=((!x3) && (decide (1 < (cells.length:Int))))) g'1_25 b'4 ?_
    refine zB (Zb (Zm (Zs (Zd (.n 0) rfl (Zc (Zb (Zao ?_)))))))
    refine z6 (zR (n:=2) (v:=.n 0) rfl zj) ?_
    cases hp
    exact ⟨rfl,(hO'3.pick [] rfl (by decide))⟩

theorem Za5.ok {h:Hp} {cells:List Za} {v_cells:V} (s_cells:Sl Zh h v_cells cells) {r:Int × Int} (hp:Za5 cells = some r) :
  ∃ u k',Is G 195 [v_cells] h u k'∧V.tu [.n r.1,.n r.2] = u∧Own (fun r=>r < h.n) h k' []:=by
 refine WC.is (Za0 ZcJ ?_)
 unfold Za5 at hp
 let B:Nat→Prop:=(fun r=>r < h.n)
 have hO:Own B h h []:=Own.start0 h
 refine Zm (Zs (Zd (.n 0) rfl (Zd (.n 0) rfl (Zc (Zb (Zm (Zm ?_)))))))
 refine Zs (Zd v_cells rfl ?_)
 obtain ⟨x,hx'1,hp⟩:=Zv hp
 obtain ⟨u'1,k'1,ca'1,rfl,hW'1⟩:=zo.ok (h:=h)  (hO.rd0 s_cells.rd) hx'1
 refine Zat (id:=176) (caps:=[]) rfl (Z4 (v:=v_cells) rfl zh) ca'1 ?_
 have hO'1:=hO.call hW'1 rfl
 refine Zd (.n x) rfl (Zc (Zb (Zm (Zs (Zd (.n x) rfl (Zi (ZcL (a:=x) (b:=0) rfl rfl) (Zc ?_)))))))
 refine Zb ?_
 rcases Zy hp with ⟨b'1,hp⟩ | ⟨b'1,hp⟩
 ·refine zA (t:=(!(decide (x = 0)))) rfl b'1 ?_
  refine Zm (Zs (Zd (.n x) rfl (Zd (.n 0) rfl (Zd (.n x) rfl (Zc (Zb (Zao ?_)))))))
  refine zX (z6 (zR (n:=2) (v:=.n 0) rfl (zR (n:=3) (v:=.n x) rfl zj)) ?_)
  cases hp
  exact ⟨rfl,(hO'1.pick [] rfl (by decide))⟩
 ·refine z9 (t:=(!(decide (x = 0)))) rfl b'1 ?_
  refine zB (Zb (Zm (Zs (Zd v_cells rfl ?_))))
  obtain ⟨⟨x1,x2⟩,hx'2,hp⟩:=Zv hp
  obtain ⟨u'2,k'2,ca'2,rfl,hW'2⟩:=zw.ok (h:=k'1)  (hO'1.rd0 s_cells.rd) hx'2
  refine Zat (id:=201) (caps:=[]) rfl (Z4 (v:=v_cells) rfl zh) ca'2 ?_
  have hO'2:=hO'1.call hW'2 rfl
  refine Zd (.tu [.n x1,.b x2]) rfl (Zi (Za8 (vs:=[.n x1,.b x2]) (v:=.n x1) rfl rfl) (Zi (Za8 (vs:=[.n x1,.b x2]) (v:=.b x2) rfl rfl) (Zd (.n x1) rfl (Zd (.b x2) rfl (Zc (Zb (Zm ?_)))))))
  refine Zm (Zs (Zd (.b x2) rfl (Zi (ZcU (t:=x2) rfl) (Zc (Zb ?_)))))
  rcases Zy hp with ⟨b'2,hp⟩ | ⟨b'2,hp⟩
  ·refine zA (t:=(!x2)) rfl b'2 ?_
   refine Zm (Zs (Zd (.n 0) rfl (Zd (.n 2) rfl (Zc (Zb (Zao (zX ?_)))))))
   refine z6 (zR (n:=2) (v:=.n 0) rfl (zR (n:=3) (v:=.n 2) rfl zj)) ?_
   cases hp
   exact ⟨rfl,(hO'2.pick [] rfl (by decide))⟩
  ·refine z9 (t:=(!x2)) rfl b'2 ?_
   refine zB (Zb (Zm (Zs (Zd (.n x1) rfl (Zd (.n x1) rfl (Zd (.n 0) rfl (Zc ?_)))))))
   refine Zb (Zao (z6 (zR (n:=2) (v:=.n x1) rfl (zR (n:=3) (v:=.n 0) rfl zj)) ?_))
   cases hp
   exact ⟨rfl,(hO'2.pick [] rfl (by decide))⟩

theorem Zal.ok {h:Hp}    {r:Bool} (hp:Zal  = some r) :
  ∃ u k',Is G 172 [] h u k'∧V.b r = u∧Own (fun r=>r < h.n) h k' []:=by
 refine WC.is (Za0 Zb4 ?_)
 unfold Zal at hp
 let B:Nat→Prop:=(fun r=>r < h.n)
 have hO:Own B h h []:=Own.start0 h
 refine Zm (Zs (Zd (.b false) rfl (Zc (Zb (Zm (Zs ?_))))))
 obtain ⟨x,hx'1,hp⟩:=Zv hp
 obtain ⟨u'1,k'1,ca'1,v'1,rfl,hW'1⟩:=zN.ok (h:=h)   hx'1
 refine Zat (id:=196) (caps:=[]) rfl zh ca'1 ?_
 have hO'1:=hO.call hW'1 rfl
 obtain ⟨⟨x1,x2⟩,hx'2,hp⟩:=Zv hp
 obtain ⟨u'2,k'2,ca'2,rfl,hW'2⟩:=Za5.ok (h:=k'1)  (hO'1.sl 0 rfl) hx'2
 refine Zat (id:=195) (caps:=[]) rfl (Z4 (v:=v'1) rfl zh) ca'2 ?_
 have hO'2:=hO'1.call hW'2 rfl
 refine Zd (.tu [.n x1,.n x2]) rfl (Zi (Za8 (vs:=[.n x1,.n x2]) (v:=.n x1) rfl rfl) (Zi (Za8 (vs:=[.n x1,.n x2]) (v:=.n x2) rfl rfl) (Zd (.n x1) rfl (Zd (.n x2) rfl (Zc (Zb (Zm ?_)))))))
 refine Zs ?_
 obtain ⟨x3,hx'3,hp⟩:=Zv hp
 obtain ⟨u'3,k'3,ca'3,v'2,rfl,hW'3⟩:=ZE.ok (h:=k'2)   hx'3
 refine Zat (id:=46) (caps:=[]) rfl (Z4 (v:=.n 1) rfl zh) ca'3 ?_
 have hO'3:=hO'2.call hW'3 rfl
 obtain ⟨⟨x4,x5⟩,hx'4,hp⟩:=Zv hp
 obtain ⟨u'4,k'4,ca'4,rfl,hW'4⟩:=Za5.ok (h:=k'3)  (hO'3.sl 1 rfl) hx'4
 refine Zat (id:=195) (caps:=[]) rfl (Z4 (v:=v'2) rfl zh) ca'4 ?_
 have hO'4:=hO'3.call hW'4 rfl
 refine Zd (.tu [.n x4,.n x5]) rfl (Zi (Za8 (vs:=[.n x4,.n x5]) (v:=.n x4) rfl rfl) (Zi (Za8 (vs:=[.n x4,.n x5]) (v:=.n x5) rfl rfl) (Zd (.n x4) rfl (Zd (.n x5) rfl (Zc (Zb (Zm ?_)))))))
 refine Zs ?_
 obtain ⟨x6,hx'5,hp⟩:=Zv hp
 obtain ⟨u'5,k'5,ca'5,v'3,rfl,hW'5⟩:=zN.ok (h:=k'4)   hx'5
 refine Zat (id:=196) (caps:=[]) rfl zh ca'5 ?_
 have hO'5:=hO'4.call hW'5 rfl
 obtain ⟨x7,hx'6,hp⟩:=Zv hp
 obtain ⟨u'6,k'6,ca'6,rfl,hW'6⟩:=zo.ok (h:=k'5)  (hO'5.sl 2 rfl) hx'6
 refine Zat (id:=176) (caps:=[]) rfl (Z4 (v:=v'3) rfl zh) ca'6 ?_
 have hO'6:=hO'5.call hW'6 rfl
 refine Zi (Za7 (a:=x7) (b:=0) rfl rfl) (Zd (.b (decide (x7 = 0))) rfl ?_)
 refine zU 3 (fun fr' k'=>k'6 = k'∧fr' 21 = .b ((decide (x7 = 0)) && (decide (x1 = 1)))∧fr' 2 = .n x2∧fr' 4 = .n x5) ?_ ?_
 ·rcases bc (decide (x7 = 0)) with b'1 | b'1
  ·skip
   refine ZO rfl b'1 (Zd (.n x1) rfl (ZO rfl b'1 (Zi (Za7 (a:=x1) (b:=1) rfl rfl) (Zi (ZV (t:=(decide (x7 = 0))) (v:=.b ((decide (x7 = 0)) && (decide (x1 = 1)))) rfl b'1 (Eq.trans (b:=V.b (decide (x1 = 1))) rfl (Zc7 b'1))) (Zc ?_)))))
   exact ⟨rfl,rfl,rfl,rfl⟩
  ·skip
   refine ZC rfl b'1 (ZC rfl b'1 (Zi (ZT (t:=(decide (x7 = 0))) (v:=.b ((decide (x7 = 0)) && (decide (x1 = 1)))) rfl b'1 (Eq.trans (b:=V.b false) rfl (ZbU b'1))) (Zc ?_)))
   exact ⟨rfl,rfl,rfl,rfl⟩
 rintro frg'1 _ ⟨rfl,g'1_21,g'1_2,g'1_4⟩
 refine Zd (.b ((decide (x7 = 0)) && (decide (x1 = 1)))) g'1_21 ?_
 refine zU 3 (fun fr' k'=>k'6 = k'∧fr' 25 = .b (((decide (x7 = 0)) && (decide (x1 = 1))) && (decide (x2 = 0)))∧fr' 4 = .n x5) ?_ ?_
 ·rcases bc ((decide (x7 = 0)) && (decide (x1 = 1))) with b'2 | b'2
  ·skip
   refine ZO rfl b'2 (Zd (.n x2) g'1_2 (ZO rfl b'2 (Zi (Za7 (a:=x2) (b:=0) rfl rfl) (Zi (ZV (t:=((decide (x7 = 0)) && (decide (x1 = 1)))) (v:=.b (((decide (x7 = 0)) && (decide (x1 = 1))) && (decide (x2 = 0)))) rfl b'2 (Eq.trans (b:=V.b (decide (x2 = 0))) rfl (Zc7 b'2))) (Zc ?_)))))
   exact ⟨rfl,rfl,g'1_4⟩
  ·skip
   refine ZC rfl b'2 (ZC rfl b'2 (Zi (ZT (t:=((decide (x7 = 0)) && (decide (x1 = 1)))) (v:=.b (((decide (x7 = 0)) && (decide (x1 = 1))) && (decide (x2 = 0)))) rfl b'2 (Eq.trans (b:=V.b false) rfl (ZbU b'2))) (Zc ?_)))
   exact ⟨rfl,rfl,g'1_4⟩
 rintro frg'2 _ ⟨rfl,g'2_25,g'2_4⟩
 refine Zd (.b (((decide (x7 = 0)) && (decide (x1 = 1))) && (decide (x2 = 0)))) g'2_25 ?_
 obtain ⟨t,hv'1,hp⟩:=Zv hp
 refine zU 4 (fun fr' k'=>Own B h k' [eSl Zh v'1 x,eSl Zh v'2 x3,eSl Zh v'3 x6]∧fr' 30 = .b t∧fr' 4 = .n x5) ?_ ?_
 ·clear hp; rcases Zy hv'1 with ⟨b'3,hp⟩ | ⟨b'3,hp⟩
  ·skip
   refine ZO rfl b'3 ?_
   obtain ⟨x8,hx'7,hp⟩:=Zv hp
   obtain ⟨u'7,k'7,ca'7,v'4,rfl,hW'7⟩:=ZE.ok (h:=k'6)   hx'7
   refine Zat (id:=46) (caps:=[]) rfl (Z4 (v:=.n 1) rfl zh) ca'7 ?_
   have hO'7:=hO'6.call hW'7 rfl
   refine ZO rfl b'3 ?_
   obtain ⟨x9,hx'8,hp⟩:=Zv hp
   obtain ⟨u'8,k'8,ca'8,rfl,hW'8⟩:=zo.ok (h:=k'7)  (hO'7.sl 3 rfl) hx'8
   refine Zat (id:=176) (caps:=[]) rfl (Z4 (v:=v'4) rfl zh) ca'8 ?_
   have hO'8:=hO'7.call hW'8 rfl
   refine ZO rfl b'3 (Zi (Za7 (a:=x9) (b:=0) rfl rfl) (Zi (ZV (t:=(((decide (x7 = 0)) && (decide (x1 = 1))) && (decide (x2 = 0)))) (v:=.b t) rfl b'3 (Eq.trans (b:=V.b (decide (x9 = 0))) rfl (congrArg V.b (Option.some.inj hp)))) (Zc ?_)))
   exact ⟨hO'8.pick [0,1,2] rfl (by decide),rfl,g'2_4⟩
  ·skip
   refine ZC rfl b'3 (ZC rfl b'3 (ZC rfl b'3 (Zi (ZT (t:=(((decide (x7 = 0)) && (decide (x1 = 1))) && (decide (x2 = 0)))) (v:=.b t) rfl b'3 (Eq.trans (b:=V.b false) rfl (congrArg V.b (Option.some.inj hp)))) (Zc ?_))))
   exact ⟨hO'6.pick [0,1,2] rfl (by decide),rfl,g'2_4⟩
 rintro frg'3 k'9 ⟨hO'9,g'3_30,g'3_4⟩
 refine Zd (.b t) g'3_30 ?_
 refine zU 3 (fun fr' k'=>k'9 = k'∧fr' 34 = .b (t && (decide (x5 = 2)))) ?_ ?_
 ·rcases bc t with b'4 | b'4
  ·skip
   refine ZO rfl b'4 (Zd (.n x5) g'3_4 (ZO rfl b'4 (Zi (Za7 (a:=x5) (b:=2) rfl rfl) (Zi (ZV (t:=t) (v:=.b (t && (decide (x5 = 2)))) rfl b'4 (Eq.trans (b:=V.b (decide (x5 = 2))) rfl (Zc7 b'4))) (Zc ?_)))))
   exact ⟨rfl,rfl⟩
  ·skip
   refine ZC rfl b'4 (ZC rfl b'4 (Zi (ZT (t:=t) (v:=.b (t && (decide (x5 = 2)))) rfl b'4 (Eq.trans (b:=V.b false) rfl (ZbU b'4))) (Zc ?_)))
   exact ⟨rfl,rfl⟩
 rintro frg'4 _ ⟨rfl,g'4_34⟩
 refine Zd (.b (t && (decide (x5 = 2)))) g'4_34 ?_
 obtain ⟨t1,hv'2,hp⟩:=Zv hp
 refine zU 4 (fun fr' k'=>Own B h k' [eSl Zh v'1 x,eSl Zh v'2 x3,eSl Zh v'3 x6]∧fr' 39 = .b t1) ?_ ?_
 ·clear hp; rcases Zy hv'2 with ⟨b'5,hp⟩ | ⟨b'5,hp⟩
  ·skip
   refine ZO rfl b'5 ?_
   obtain ⟨x10,hx'9,hp⟩:=Zv hp
   obtain ⟨u'9,k'10,ca'9,v'5,rfl,hW'9⟩:=ZE.ok (h:=k'9)   hx'9
   refine Zat (id:=46) (caps:=[]) rfl (Z4 (v:=.n 2) rfl zh) ca'9 ?_
   have hO'10:=hO'9.call hW'9 rfl
   refine ZO rfl b'5 ?_
   obtain ⟨x11,hx'10,hp⟩:=Zv hp
   obtain ⟨u'10,k'11,ca'10,rfl,hW'10⟩:=zo.ok (h:=k'10)  (hO'10.sl 3 rfl) hx'10
   refine Zat (id:=176) (caps:=[]) rfl (Z4 (v:=v'5) rfl zh) ca'10 ?_
   have hO'11:=hO'10.call hW'10 rfl
   refine ZO rfl b'5 (Zi (Za7 (a:=x11) (b:=13) rfl rfl) (Zi (ZV (t:=(t && (decide (x5 = 2)))) (v:=.b t1) rfl b'5 (Eq.trans (b:=V.b (decide (x11 = 13))) rfl (congrArg V.b (Option.some.inj hp)))) (Zc ?_)))
   exact ⟨hO'11.pick [0,1,2] rfl (by decide),rfl⟩
  ·skip
   refine ZC rfl b'5 (ZC rfl b'5 (ZC rfl b'5 (Zi (ZT (t:=(t && (decide (x5 = 2)))) (v:=.b t1) rfl b'5 (Eq.trans (b:=V.b false) rfl (congrArg V.b (Option.some.inj hp)))) (Zc ?_))))
   exact ⟨hO'9.pick [0,1,2] rfl (by decide),rfl⟩
 rintro frg'5 k'12 ⟨hO'12,g'5_39⟩
 refine Zd (.b t1) g'5_39 ?_
 obtain ⟨t2,hv'3,hp⟩:=Zv hp
 refine zU 3 (fun fr' k'=>Own B h k' [eSl Zh v'1 x,eSl Zh v'2 x3,eSl Zh v'3 x6]∧fr' 43 = .b t2) ?_ ?_
 ·clear hp; rcases Zy hv'3 with ⟨b'6,hp⟩ | ⟨b'6,hp⟩
  ·skip
   refine ZO rfl b'6 ?_
   obtain ⟨x12,hx'11,hp⟩:=Zv hp
   obtain ⟨u'11,k'13,ca'11,rfl,hW'11⟩:=zo.ok (h:=k'12)  (Sl.nil:Sl Zh k'12 .sn ([]:List Za)) hx'11
   refine Zat (id:=176) (caps:=[]) rfl (Z4 (v:=.sn) rfl zh) ca'11 ?_
   have hO'13:=hO'12.call hW'11 rfl
   refine ZO rfl b'6 (Zi (Za7 (a:=x12) (b:=13) rfl rfl) (Zi (ZV (t:=t1) (v:=.b t2) rfl b'6 (Eq.trans (b:=V.b (decide (x12 = 13))) rfl (congrArg V.b (Option.some.inj hp)))) (Zc ?_)))
   exact ⟨hO'13.pick [0,1,2] rfl (by decide),rfl⟩
  ·skip
   refine ZC rfl b'6 (ZC rfl b'6 (Zi (ZT (t:=t1) (v:=.b t2) rfl b'6 (Eq.trans (b:=V.b false) rfl (congrArg V.b (Option.some.inj hp)))) (Zc ?_)))
   exact ⟨hO'12.pick [0,1,2] rfl (by decide),rfl⟩
 rintro frg'6 k'14 ⟨hO'14,g'6_43⟩
 refine Zd (.b t2) g'6_43 (Zc (Zb (Zao (z6 (zR (n:=0) (v:=.b t2) rfl zj) ?_))))
 cases hp
 exact ⟨rfl,(hO'14.pick [] rfl (by decide))⟩

theorem zF.ok {h:Hp} {z:ZQ} {v_z_At:V} {v_z_Bits:V} {v_z_Own:V} (s_z_At:Sl Zeq h v_z_At z.At) (s_z_Bits:Sl Zeq h v_z_Bits z.Bits) (s_z_Own:Sl Zg7 h v_z_Own z.Own) {r:Bool} (hp:zF z = some r) :
  ∃ u k',Is G 156 [.ag [v_z_At,v_z_Bits,v_z_Own]] h u k'∧V.b r = u∧Own (fun r=>r < h.n) h k' []:=by
 refine WC.is (Za0 ZaK ?_)
 unfold zF at hp
 let B:Nat→Prop:=(fun r=>r < h.n)
 have hO:Own B h h []:=Own.start0 h
 refine Zm (Zs (zK (hO.boxd (v:=.ag [v_z_At,v_z_Bits,v_z_Own]) (cs:=[v_z_At,v_z_Bits,v_z_Own]) hO.fr rfl rfl) ?_))
 rintro _ k'1 ⟨r'1,rfl,n'1,f'1,hW⟩
 have hO'1:=hW
 refine Zd (.b false) rfl (Zc (Zb (Zm (Zs (Zi (ZaI (cs:=[v_z_At,v_z_Bits,v_z_Own]) (ws:=[v_z_At,v_z_Bits,v_z_Own]) (hO'1.box 0 rfl) rfl rfl) ?_)))))
 obtain ⟨⟨x,x1⟩,hx'1,hp⟩:=Zv hp
 obtain ⟨u'1,k'2,ca'1,v'1,v'2,rfl,hW'1⟩:=Z1.ok (h:=k'1)  (hO'1.rd0 s_z_At.rd) (hO'1.rd0 s_z_Bits.rd) (hO'1.rd0 s_z_Own.rd) hx'1
 refine Zat (id:=28) (caps:=[]) rfl (Z4 (v:=.ag [v_z_At,v_z_Bits,v_z_Own]) rfl (Z4 (v:=.n 20) rfl zh)) ca'1 ?_
 have hO'2:=hO'1.call hW'1 rfl
 refine Zd (.tu [v'1,v'2]) rfl (Zi (Za8 (vs:=[v'1,v'2]) (v:=v'1) rfl rfl) (Zi (Za8 (vs:=[v'1,v'2]) (v:=v'2) rfl rfl) (Zd v'1 rfl (Zd v'2 rfl (Zc (Zb (Zm ?_)))))))
 refine Zs (Zd (.n 0) rfl (Zc (Zb (Zm (Zm (Zs (Zd v'1 rfl ?_)))))))
 obtain ⟨x2,hx'2,hp⟩:=Zv hp
 obtain ⟨u'2,k'3,ca'2,v'3,vs'1,rfl,hW'2⟩:=ZK.ok (h:=k'2)  (hO'2.sl 1 rfl) hx'2
 refine Zat (id:=30) (caps:=[]) rfl (Z4 (v:=v'1) rfl zh) ca'2 ?_
 have hO'3:=hO'2.call hW'2 rfl
 refine Zi (Zg1 (n:=(x2).length) (hO'3.sl 3 rfl) (hO'3.allLen 4 rfl:(vs'1).length = (x2).length) rfl) (Zi (ZcL (a:=(x2.length:Int)) (b:=1) rfl rfl) (Zc (Zb ?_)))
 obtain ⟨o'1,ho'1,hp⟩:=Zv hp
 refine W.mono (Q:=fun e fr k=>match (generalizing:=false) o'1 with
   | want=>e = .normal∧fr 3 = v'1∧fr 5 = .n want∧Own B h k [eSl Zh v'1 x]) ?_ ?_
 ·clear hp; have hp:=ho'1; clear ho'1
  rcases Zy hp with ⟨b'1,hp⟩ | ⟨b'1,hp⟩
  ·refine zA (t:=(!(decide ((x2.length:Int) = 1)))) rfl b'1 ?_
   refine Zs (Zd (.n 13) rfl (Zc ?_))
   cases hp
   exact ⟨rfl,rfl,rfl,(hO'3.pick [1] rfl (by decide))⟩
  ·refine z9 (t:=(!(decide ((x2.length:Int) = 1)))) rfl b'1 ?_
   refine zB ?_
   cases hp
   exact ⟨rfl,rfl,rfl,(hO'3.pick [1] rfl (by decide))⟩
 intro e'1 q'1 k'4 hJ'1
 obtain ⟨want,rfl⟩:∃ x,x = o'1:=⟨_,rfl⟩
 obtain ⟨rfl,q'1_3,q'1_5,hO'4⟩:=hJ'1
 refine Zb (Zm (Zs ?_))
 obtain ⟨x3,hx'3,hp⟩:=Zv hp
 obtain ⟨u'3,k'5,ca'3,rfl,hW'3⟩:=Zal.ok (h:=k'4)   hx'3
 refine Zat (id:=172) (caps:=[]) rfl zh ca'3 ?_
 have hO'5:=hO'4.call hW'3 rfl
 refine Zd (.b x3) rfl ?_
 obtain ⟨t,hv'1,hp⟩:=Zv hp
 refine zU 5 (fun fr' k'=>Own B h k' [eSl Zh v'1 x]∧fr' 21 = .b t) ?_ ?_
 ·clear hp; rcases Zy hv'1 with ⟨b'2,hp⟩ | ⟨b'2,hp⟩
  ·skip
   refine ZO rfl b'2 (Zd v'1 q'1_3 (ZO rfl b'2 ?_))
   obtain ⟨x4,hx'4,hp⟩:=Zv hp
   obtain ⟨u'4,k'6,ca'4,rfl,hW'4⟩:=zo.ok (h:=k'5)  (hO'5.sl 0 rfl) hx'4
   refine Zat (id:=176) (caps:=[]) rfl (Z4 (v:=v'1) rfl zh) ca'4 ?_
   have hO'6:=hO'5.call hW'4 rfl
   refine ZO rfl b'2 (Zd (.n want) q'1_5 (ZO rfl b'2 (Zi (Za7 (a:=x4) (b:=want) rfl rfl) (Zi (ZV (t:=x3) (v:=.b t) rfl b'2 (Eq.trans (b:=V.b (decide (x4 = want))) rfl (congrArg V.b (Option.some.inj hp)))) (Zc ?_)))))
   exact ⟨hO'6.pick [0] rfl (by decide),rfl⟩
  ·skip
   refine ZC rfl b'2 (ZC rfl b'2 (ZC rfl b'2 (ZC rfl b'2 (Zi (ZT (t:=x3) (v:=.b t) rfl b'2 (Eq.trans (b:=V.b false) rfl (congrArg V.b (Option.some.inj hp)))) (Zc ?_)))))
   exact ⟨hO'5.pick [0] rfl (by decide),rfl⟩
 rintro frg'1 k'7 ⟨hO'7,g'1_21⟩
 refine Zd (.b t) g'1_21 (Zc (Zb (Zao (z6 (zR (n:=2) (v:=.b t) rfl zj) ?_))))
 cases hp
 exact ⟨rfl,(hO'7.pick [] rfl (by decide))⟩

end Mu
