/- The code comes to what was worked out. -/
import Derived.Test.YtdefkboekpjiiaaMuDf
import Derived.Test.YtdefkboekpjiiaaMuPa
import Derived.Test.YtdefkboekpjiiaaMuC1
set_option linter.unusedVariables false
set_option linter.unnecessarySimpa false
set_option linter.unusedSimpArgs false
set_option maxHeartbeats 2000000
set_option maxRecDepth 10000
namespace Mu
open Go (IntKind BinOp UnOp)
theorem ZaC.ok {h:Hp} {turns:List Int} {v_turns:V} (s_turns:Sl zn h v_turns turns) {r:Int} (hp:ZaC turns = some r) :
  ∃ u k',Is G 219 [v_turns] h u k'∧V.n r = u∧Own (fun r=>r < h.n) h k' []:=by
 refine WC.is (ZaQ Zdv ?_)
 unfold ZaC at hp
 let B:Nat→Prop:=(fun r=>r < h.n)
 have hO:Own B h h []:=Own.start0 h
 refine Zf (Zl (Zd (.n 0) rfl (Zb (Za (Zf (Zl (Zd (.n 0) rfl ?_)))))))
 refine Zb (Za (Zf (Zf (Zl (Zd v_turns rfl (Ze (Zao (hO.rd0 s_turns.rd) rfl) (Zd (.n 0) rfl ?_)))))))
 refine Zb (Za (Zae ?_))
 obtain ⟨o'1,ho'1,hp⟩:=Zp hp
 refine W.mono (Q:=fun e fr k=>match (generalizing:=false) o'1 with
   | n1=>e = (.exit 0)∧fr 3 = .n n1∧Own B h k []) ?_ ?_
 ·clear hp
  refine zC (fun st fr k=>match st with | (n,x)=>fr 3 = .n n∧fr 6 = v_turns∧fr 7 = .n (turns.length:Int)∧fr 8 = .n x∧Own B h k []) ho'1 (s:=(0,0)) ⟨rfl,rfl,rfl,rfl,(hO.pick [] rfl (by decide))⟩ ?_
  rintro ⟨n,x⟩ q'2 k'2 ⟨q'2_3,q'2_6,q'2_7,q'2_8,hO'2⟩ o'2 hp
  dsimp only [ZaC.s0] at hp
  refine Zf (Zl (Ze (zJ (a:=x) (b:=(turns.length:Int)) q'2_8 q'2_7) (Zb (Za (Zf ?_)))))
  rcases Zt hp with ⟨b'1,hp⟩ | ⟨b'1,hp⟩
  ·refine zH (t:=(decide (x < (turns.length:Int)))) rfl b'1 ?_
   refine zM (Za (Zf (Zae (Zf (Zl ?_)))))
   obtain ⟨c'1,hp⟩:=Zg hp
   refine Ze (z3 (E:=zn) (z:=x) (hO'2.rd0 s_turns.rd) q'2_6 q'2_8 c'1) (Ze (zO (w:=.n (gi turns x.toNat)) (hO'2.rd0 s_turns.rd) rfl (Zo c'1) rfl) (Zd (.n (gi turns x.toNat)) rfl (Zb (Za (Zf (Zl (Zd (.n (gi turns x.toNat)) rfl ?_)))))))
   refine Ze (Zcl (a:=(gi turns x.toNat)) (b:=(-2)) rfl rfl) (Zd (.b (decide ((-2)≤(gi turns x.toNat)))) rfl ?_)
   refine zT 3 (fun fr' k'=>k'2 = k'∧fr' 17 = .b ((decide ((-2)≤(gi turns x.toNat))) && (decide ((gi turns x.toNat)≤1)))∧fr' 3 = .n n∧fr' 5 = .n (gi turns x.toNat)∧fr' 6 = v_turns∧fr' 7 = .n (turns.length:Int)∧fr' 8 = .n x) ?_ ?_
   ·rcases bc (decide ((-2)≤(gi turns x.toNat))) with b'2 | b'2
    ·skip
     refine Z9 rfl b'2 (Zd (.n (gi turns x.toNat)) rfl (Z9 rfl b'2 (Ze (Zh3 (a:=(gi turns x.toNat)) (b:=1) rfl rfl) (Ze (zb (t:=(decide ((-2)≤(gi turns x.toNat)))) (v:=.b ((decide ((-2)≤(gi turns x.toNat))) && (decide ((gi turns x.toNat)≤1)))) rfl b'2 (Eq.trans (b:=V.b (decide ((gi turns x.toNat)≤1))) rfl (Zb8 b'2))) (Zb ?_)))))
     exact ⟨rfl,rfl,q'2_3,rfl,q'2_6,q'2_7,q'2_8⟩
    ·skip
     refine Zr rfl b'2 (Zr rfl b'2 (Ze (ZU (t:=(decide ((-2)≤(gi turns x.toNat)))) (v:=.b ((decide ((-2)≤(gi turns x.toNat))) && (decide ((gi turns x.toNat)≤1)))) rfl b'2 (Eq.trans (b:=V.b false) rfl (Zby b'2))) (Zb ?_)))
     exact ⟨rfl,rfl,q'2_3,rfl,q'2_6,q'2_7,q'2_8⟩
   rintro frg'1 _ ⟨rfl,g'1_17,g'1_3,g'1_5,g'1_6,g'1_7,g'1_8⟩
   refine Zb (Za ?_)
   rcases Zt hp with ⟨b'3,hp⟩ | ⟨b'3,hp⟩
   ·refine zH (t:=((decide ((-2)≤(gi turns x.toNat))) && (decide ((gi turns x.toNat)≤1)))) g'1_17 b'3 ?_
    refine Zl (Zd (.n n) g'1_3 (Zd (.n (gi turns x.toNat)) g'1_5 ?_))
    obtain ⟨c'2,hp⟩:=Zg hp
    refine Ze (zu (a:=n) (b:=(gi turns x.toNat)) rfl rfl c'2) (Zd (.n (n + (gi turns x.toNat))) rfl (Zb (Zaf (Za (Zl ?_)))))
    obtain ⟨c'3,hp⟩:=Zg hp
    refine Ze (zu (a:=x) (b:=1) g'1_8 rfl c'3) (Zd (.n (x + 1)) rfl (Zb ?_))
    cases hp
    exact (Or.inl ⟨(n + (gi turns x.toNat),x + 1),rfl,rfl,rfl,g'1_6,g'1_7,rfl,(hO'2.pick [] rfl (by decide))⟩)
   ·refine zG (t:=((decide ((-2)≤(gi turns x.toNat))) && (decide ((gi turns x.toNat)≤1)))) g'1_17 b'3 ?_
    refine zM (Zaf (Za (Zl ?_)))
    obtain ⟨c'4,hp⟩:=Zg hp
    refine Ze (zu (a:=x) (b:=1) g'1_8 rfl c'4) (Zd (.n (x + 1)) rfl (Zb ?_))
    cases hp
    exact (Or.inl ⟨(n,x + 1),rfl,rfl,g'1_3,g'1_6,g'1_7,rfl,(hO'2.pick [] rfl (by decide))⟩)
  ·refine zG (t:=(decide (x < (turns.length:Int)))) rfl b'1 ?_
   refine ZaZ (zN ?_)
   cases hp
   refine (Or.inr ⟨n,rfl,(fun h=>nomatch h),(fun he=>?_)⟩)
   subst he; exact ⟨rfl,q'2_3,(hO'2.pick [] rfl (by decide))⟩
 intro e'1 q'1 k'1 hJ'1
 obtain ⟨n1,rfl⟩:∃ x,x = o'1:=⟨_,rfl⟩
 obtain ⟨rfl,q'1_3,hO'1⟩:=hJ'1
 refine Zax (Za (Zf (Zl (Zd (.n n1) q'1_3 (Zd (.n n1) rfl (Zb (Za ?_)))))))
 refine Zav (zF (Zap (n:=2) (v:=.n n1) rfl zk) ?_)
 cases hp
 exact ⟨rfl,(hO'1.pick [] rfl (by decide))⟩

theorem Za9.ok {h:Hp} {cells:List Zc} {v_cells:V} (s_cells:Sl Zh h v_cells cells) {r:Int × Bool} (hp:Za9 cells = some r) :
  ∃ u k',Is G 201 [v_cells] h u k'∧V.tu [.n r.1,.b r.2] = u∧Own (fun r=>r < h.n) h k' []:=by
 refine WC.is (ZaQ ZdS ?_)
 unfold Za9 at hp
 let B:Nat→Prop:=(fun r=>r < h.n)
 have hO:Own B h h []:=Own.start0 h
 refine Zf (Zl (Zd (.n 0) rfl (Zd (.b false) rfl (Zb (Za (Zf (Zl ?_)))))))
 refine Zd v_cells rfl ?_
 obtain ⟨⟨x,x1⟩,hx'1,hp⟩:=Zp hp
 obtain ⟨u'1,k'1,ca'1,v'1,vs'1,rfl,hW'1⟩:=Zad.ok (h:=h)  (hO.rd0 s_cells.rd) hx'1
 refine Za8 (id:=203) (caps:=[]) rfl (Zx (v:=v_cells) rfl zo) ca'1 ?_
 have hO'1:=hO.call hW'1 rfl
 refine Zd (.tu [v'1,.n x1]) rfl (Ze (Zbn (vs:=[v'1,.n x1]) (v:=v'1) rfl rfl) (Ze (Zbn (vs:=[v'1,.n x1]) (v:=.n x1) rfl rfl) (Zd v'1 rfl (Zd (.n x1) rfl (Zb (Za (Zf ?_)))))))
 refine Zl (Zd (.n (-1)) rfl (Zb (Za (Zf (Zf (Zl (Zd v'1 rfl ?_)))))))
 refine Ze (Zgu (n:=(x).length) (hO'1.sl 0 rfl) (hO'1.allLen 1 rfl:(vs'1).length = (x).length) rfl) (Zd (.n 0) rfl (Zb (Za (Zae ?_))))
 obtain ⟨o'1,ho'1,hp⟩:=Zp hp
 refine W.mono (Q:=fun e fr k=>match (generalizing:=false) o'1 with
   | .inl at_1=>e = (.exit 0)∧fr 6 = .n at_1∧Own B h k []
   | .inr _=>e = .ret∧fr 2 = .n 0∧fr 3 = .b false∧Own B h k []) ?_ ?_
 ·clear hp
  refine zC (fun st fr k=>match st with | (at_,x2)=>fr 0 = v_cells∧fr 6 = .n at_∧fr 14 = v'1∧fr 15 = .n (x.length:Int)∧fr 16 = .n x2∧Own B h k [eSl eV v'1 vs'1,Zbt Zi vs'1 x]) ho'1 (s:=((-1),0)) ⟨rfl,rfl,rfl,rfl,rfl,(hO'1.pick [0,1] rfl (by decide))⟩ ?_
  rintro ⟨at_,x2⟩ q'2 k'3 ⟨q'2_0,q'2_6,q'2_14,q'2_15,q'2_16,hO'3⟩ o'2 hp
  dsimp only [Za9.s0] at hp
  refine Zf (Zl (Ze (zJ (a:=x2) (b:=(x.length:Int)) q'2_16 q'2_15) (Zb (Za (Zf ?_)))))
  rcases Zt hp with ⟨b'1,hp⟩ | ⟨b'1,hp⟩
  ·refine zH (t:=(decide (x2 < (x.length:Int)))) rfl b'1 ?_
   refine zM (Za (Zf (Zae (Zf (Zl (Zd (.n x2) q'2_16 ?_))))))
   obtain ⟨c'1,hp⟩:=Zg hp
   refine Ze (z3 (E:=eV) (z:=x2) (hO'3.sl 0 rfl) q'2_14 q'2_16 (by rw [(hO'3.allLen 1 rfl:(vs'1).length = (x).length)]; exact c'1)) (Ze (zO (w:=(gi vs'1 x2.toNat)) (hO'3.sl 0 rfl) rfl (by rw [(hO'3.allLen 1 rfl:(vs'1).length = (x).length)]; exact Zo c'1) rfl) (Zd (.n x2) rfl (Zd ((gi vs'1 x2.toNat)) rfl (Zb (Za (Zf (Zl ?_)))))))
   refine Zd v_cells q'2_0 (Zd ((gi vs'1 x2.toNat)) rfl ?_)
   obtain ⟨x3,hx'2,hp⟩:=Zp hp
   obtain ⟨u'2,k'4,ca'2,v'2,rfl,hW'2⟩:=ZaY.ok (h:=k'3)  (hO'3.rd0 s_cells.rd) (hO'3.inn 1 rfl (Zo c'1):Sl Zi k'3 (gi vs'1 x2.toNat) (gi x x2.toNat)) hx'2
   refine Za8 (id:=204) (caps:=[]) rfl (Zx (v:=v_cells) rfl (Zx (v:=(gi vs'1 x2.toNat)) rfl zo)) ca'2 ?_
   have hO'4:=hO'3.call hW'2 rfl
   obtain ⟨x4,hx'3,hp⟩:=Zp hp
   obtain ⟨u'3,k'5,ca'3,rfl,hW'3⟩:=ZaC.ok (h:=k'4)  (hO'4.sl 2 rfl) hx'3
   refine Za8 (id:=219) (caps:=[]) rfl (Zx (v:=v'2) rfl zo) ca'3 ?_
   have hO'5:=hO'4.call hW'3 rfl
   refine Zb (Za (Zae (Zf (Zl (Ze (ZaS (a:=x4) (b:=4) rfl rfl) (Zd (.b (decide (x4 = 4))) rfl (Zb ?_)))))))
   refine Za ?_
   rcases Zt hp with ⟨b'2,hp⟩ | ⟨b'2,hp⟩
   ·refine zH (t:=(decide (x4 = 4))) rfl b'2 ?_
    refine zM (Zaf (Zaf (Za (Zl ?_))))
    obtain ⟨c'2,hp⟩:=Zg hp
    refine Ze (zu (a:=x2) (b:=1) q'2_16 rfl c'2) (Zd (.n (x2 + 1)) rfl (Zb ?_))
    cases hp
    exact (Or.inl ⟨(at_,x2 + 1),rfl,rfl,q'2_0,q'2_6,q'2_14,q'2_15,rfl,(hO'5.pick [0,1] rfl (by decide))⟩)
   ·refine zG (t:=(decide (x4 = 4))) rfl b'2 ?_
    refine Zf (Zl (Ze (ZaS (a:=x4) (b:=(-4)) rfl rfl) (Zd (.b (decide (x4 = (-4)))) rfl (Zb (Za ?_)))))
    rcases Zt hp with ⟨b'3,hp⟩ | ⟨b'3,hp⟩
    ·refine zH (t:=(decide (x4 = (-4)))) rfl b'3 ?_
     refine Zf (Zf (Zl (Zd (.n at_) q'2_6 (Ze (Zcl (a:=at_) (b:=0) rfl rfl) (Zb (Za ?_))))))
     rcases Zt hp with ⟨b'4,hp⟩ | ⟨b'4,hp⟩
     ·refine zH (t:=(decide (0≤at_))) rfl b'4 ?_
      refine Zf (Zl (Zd (.n 0) rfl (Zd (.b false) rfl (Zb (Za (Zav (zI ?_)))))))
      refine Zbs (Zbs (zI ?_))
      cases hp
      refine (Or.inr ⟨.inr (),rfl,(fun h=>nomatch h),(fun he=>?_)⟩)
      subst he; exact ⟨rfl,rfl,rfl,(hO'5.pick [] rfl (by decide))⟩
     ·refine zG (t:=(decide (0≤at_))) rfl b'4 ?_
      refine zM (Za (Zl (Zd (.n x2) rfl (Zd (.n x2) rfl (Zb (Zaf (Zaf ?_)))))))
      refine Za (Zl ?_)
      obtain ⟨c'3,hp⟩:=Zg hp
      refine Ze (zu (a:=x2) (b:=1) q'2_16 rfl c'3) (Zd (.n (x2 + 1)) rfl (Zb ?_))
      cases hp
      exact (Or.inl ⟨(x2,x2 + 1),rfl,rfl,q'2_0,rfl,q'2_14,q'2_15,rfl,(hO'5.pick [0,1] rfl (by decide))⟩)
    ·refine zG (t:=(decide (x4 = (-4)))) rfl b'3 ?_
     refine Zf (Zl (Zd (.n 0) rfl (Zd (.b false) rfl (Zb (Za (Zav (Zbs ?_)))))))
     refine Zbs (zI ?_)
     cases hp
     refine (Or.inr ⟨.inr (),rfl,(fun h=>nomatch h),(fun he=>?_)⟩)
     subst he; exact ⟨rfl,rfl,rfl,(hO'5.pick [] rfl (by decide))⟩
  ·refine zG (t:=(decide (x2 < (x.length:Int)))) rfl b'1 ?_
   refine ZaZ (zN ?_)
   cases hp
   refine (Or.inr ⟨.inl at_,rfl,(fun h=>nomatch h),(fun he=>?_)⟩)
   subst he; exact ⟨rfl,q'2_6,(hO'3.pick [] rfl (by decide))⟩
 intro e'1 q'1 k'2 hJ'1
 rcases o'1 with at_1 | _
 ·obtain ⟨rfl,q'1_6,hO'2⟩:=hJ'1
  refine Zax (Za (Zf (Zl (Zd (.n at_1) q'1_6 (Zd (.n at_1) q'1_6 (Ze (Zcl (a:=at_1) (b:=0) rfl rfl) (Zd (.n at_1) rfl ?_)))))))
  refine Zd (.b (decide (0≤at_1))) rfl (Zb (Za (Zav (zF (Zap (n:=2) (v:=.n at_1) rfl (Zap (n:=3) (v:=.b (decide (0≤at_1))) rfl zk)) ?_))))
  cases hp
  exact ⟨rfl,(hO'2.pick [] rfl (by decide))⟩
 ·obtain ⟨rfl,q'1_2,q'1_3,hO'2⟩:=hJ'1
  refine Zbs (zI (zF (Zap (n:=2) (v:=.n 0) q'1_2 (Zap (n:=3) (v:=.b false) q'1_3 zk)) ?_))
  cases hp
  exact ⟨rfl,(hO'2.pick [] rfl (by decide))⟩

theorem Zaz.ok {h:Hp} {cells:List Zc} {v_cells:V} (s_cells:Sl Zh h v_cells cells) {r:Int} (hp:Zaz cells = some r) :
  ∃ u k',Is G 176 [v_cells] h u k'∧V.n r = u∧Own (fun r=>r < h.n) h k' []:=by
 refine WC.is (ZaQ ZdQ ?_)
 unfold Zaz at hp
 let B:Nat→Prop:=(fun r=>r < h.n)
 have hO:Own B h h []:=Own.start0 h
 refine Zf (Zl (Zd (.n 0) rfl (Zb (Za (Zf (Zf (Zl ?_)))))))
 refine Zd v_cells rfl ?_
 obtain ⟨x,hx'1,hp⟩:=Zp hp
 obtain ⟨u'1,k'1,ca'1,rfl,hW'1⟩:=zR.ok (h:=h)  (hO.rd0 s_cells.rd) hx'1
 refine Za8 (id:=66) (caps:=[]) rfl (Zx (v:=v_cells) rfl zo) ca'1 ?_
 have hO'1:=hO.call hW'1 rfl
 refine Zd (.n x) rfl (Zb (Za (Zf (Zl (Zd (.n x) rfl (Ze (ZbL (a:=x) (b:=0) rfl rfl) (Zb ?_)))))))
 refine Za ?_
 rcases Zt hp with ⟨b'1,hp⟩ | ⟨b'1,hp⟩
 ·refine zH (t:=(!(decide (x = 0)))) rfl b'1 ?_
  refine Zf (Zl (Zd (.n x) rfl (Zd (.n x) rfl (Zb (Za (Zav (zI ?_)))))))
  refine zF (Zap (n:=2) (v:=.n x) rfl zk) ?_
  cases hp
  exact ⟨rfl,(hO'1.pick [] rfl (by decide))⟩
 ·refine zG (t:=(!(decide (x = 0)))) rfl b'1 ?_
  refine zM (Za (Zf (Zf (Zl (Zd v_cells rfl ?_)))))
  obtain ⟨x1,hx'2,hp⟩:=Zp hp
  obtain ⟨u'2,k'2,ca'2,rfl,hW'2⟩:=ZbI.ok (h:=k'1)  (hO'1.rd0 s_cells.rd) hx'2
  refine Za8 (id:=32) (caps:=[]) rfl (Zx (v:=v_cells) rfl zo) ca'2 ?_
  have hO'2:=hO'1.call hW'2 rfl
  refine Ze (Zcb (t:=x1) rfl) (Zb (Za ?_))
  rcases Zt hp with ⟨b'2,hp⟩ | ⟨b'2,hp⟩
  ·refine zH (t:=(!x1)) rfl b'2 ?_
   refine Zf (Zl (Zd (.n 13) rfl (Zb (Za (Zav (zI (zF (Zap (n:=2) (v:=.n 13) rfl zk) ?_)))))))
   cases hp
   exact ⟨rfl,(hO'2.pick [] rfl (by decide))⟩
  ·refine zG (t:=(!x1)) rfl b'2 ?_
   refine zM (Za (Zf (Zf (Zl (Zd v_cells rfl ?_)))))
   obtain ⟨⟨x2,x3⟩,hx'3,hp⟩:=Zp hp
   obtain ⟨u'3,k'3,ca'3,rfl,hW'3⟩:=Za9.ok (h:=k'2)  (hO'2.rd0 s_cells.rd) hx'3
   refine Za8 (id:=201) (caps:=[]) rfl (Zx (v:=v_cells) rfl zo) ca'3 ?_
   have hO'3:=hO'2.call hW'3 rfl
   refine Zd (.tu [.n x2,.b x3]) rfl (Ze (Zbn (vs:=[.n x2,.b x3]) (v:=.n x2) rfl rfl) (Ze (Zbn (vs:=[.n x2,.b x3]) (v:=.b x3) rfl rfl) (Zd (.n x2) rfl (Zd (.b x3) rfl (Zb (Za (Zf ?_)))))))
   refine Zl (Zd (.b x3) rfl (Ze (Zcb (t:=x3) rfl) (Zd (.b (!x3)) rfl ?_)))
   refine zT 4 (fun fr' k'=>k'3 = k'∧fr' 25 = .b ((!x3) && (decide (1 < (cells.length:Int))))) ?_ ?_
   ·rcases bc (!x3) with b'3 | b'3
    ·skip
     refine Z9 rfl b'3 (Zd v_cells rfl (Z9 rfl b'3 (Ze (Zao (hO'3.rd0 s_cells.rd) rfl) (Z9 rfl b'3 (Ze (Zdd (a:=(cells.length:Int)) (b:=1) rfl rfl) (Ze (zb (t:=(!x3)) (v:=.b ((!x3) && (decide (1 < (cells.length:Int))))) rfl b'3 (Eq.trans (b:=V.b (decide (1 < (cells.length:Int)))) rfl (Zb8 b'3))) (Zb ?_)))))))
     exact ⟨rfl,rfl⟩
    ·skip
     refine Zr rfl b'3 (Zr rfl b'3 (Zr rfl b'3 (Ze (ZU (t:=(!x3)) (v:=.b ((!x3) && (decide (1 < (cells.length:Int))))) rfl b'3 (Eq.trans (b:=V.b false) rfl (Zby b'3))) (Zb ?_))))
     exact ⟨rfl,rfl⟩
   rintro frg'1 _ ⟨rfl,g'1_25⟩
   refine Zb (Za ?_)
   rcases Zt hp with ⟨b'4,hp⟩ | ⟨b'4,hp⟩
   ·refine zH (t:=((!x3) && (decide (1 < (cells.length:Int))))) g'1_25 b'4 ?_
    refine Zf (Zl (Zd (.n 10) rfl (Zb (Za (Zav (zI (zF (Zap (n:=2) (v:=.n 10) rfl zk) ?_)))))))
    cases hp
    exact ⟨rfl,(hO'3.pick [] rfl (by decide))⟩
   ·refine zG (t:=((!x3) && (decide (1 < (cells.length:Int))))) g'1_25 b'4 ?_
    refine zM (Za (Zf (Zl (Zd (.n 0) rfl (Zb (Za (Zav ?_)))))))
    refine zF (Zap (n:=2) (v:=.n 0) rfl zk) ?_
    cases hp
    exact ⟨rfl,(hO'3.pick [] rfl (by decide))⟩

theorem Zbe.ok {h:Hp} {cells:List Zc} {v_cells:V} (s_cells:Sl Zh h v_cells cells) {r:Int × Int} (hp:Zbe cells = some r) :
  ∃ u k',Is G 195 [v_cells] h u k'∧V.tu [.n r.1,.n r.2] = u∧Own (fun r=>r < h.n) h k' []:=by
 refine WC.is (ZaQ ZdR ?_)
 unfold Zbe at hp
 let B:Nat→Prop:=(fun r=>r < h.n)
 have hO:Own B h h []:=Own.start0 h
 refine Zf (Zl (Zd (.n 0) rfl (Zd (.n 0) rfl (Zb (Za (Zf (Zf ?_)))))))
 refine Zl (Zd v_cells rfl ?_)
 obtain ⟨x,hx'1,hp⟩:=Zp hp
 obtain ⟨u'1,k'1,ca'1,rfl,hW'1⟩:=Zaz.ok (h:=h)  (hO.rd0 s_cells.rd) hx'1
 refine Za8 (id:=176) (caps:=[]) rfl (Zx (v:=v_cells) rfl zo) ca'1 ?_
 have hO'1:=hO.call hW'1 rfl
 refine Zd (.n x) rfl (Zb (Za (Zf (Zl (Zd (.n x) rfl (Ze (ZbL (a:=x) (b:=0) rfl rfl) (Zb ?_)))))))
 refine Za ?_
 rcases Zt hp with ⟨b'1,hp⟩ | ⟨b'1,hp⟩
 ·refine zH (t:=(!(decide (x = 0)))) rfl b'1 ?_
  refine Zf (Zl (Zd (.n x) rfl (Zd (.n 0) rfl (Zd (.n x) rfl (Zb (Za (Zav ?_)))))))
  refine zI (zF (Zap (n:=2) (v:=.n 0) rfl (Zap (n:=3) (v:=.n x) rfl zk)) ?_)
  cases hp
  exact ⟨rfl,(hO'1.pick [] rfl (by decide))⟩
 ·refine zG (t:=(!(decide (x = 0)))) rfl b'1 ?_
  refine zM (Za (Zf (Zl (Zd v_cells rfl ?_))))
  obtain ⟨⟨x1,x2⟩,hx'2,hp⟩:=Zp hp
  obtain ⟨u'2,k'2,ca'2,rfl,hW'2⟩:=Za9.ok (h:=k'1)  (hO'1.rd0 s_cells.rd) hx'2
  refine Za8 (id:=201) (caps:=[]) rfl (Zx (v:=v_cells) rfl zo) ca'2 ?_
  have hO'2:=hO'1.call hW'2 rfl
  refine Zd (.tu [.n x1,.b x2]) rfl (Ze (Zbn (vs:=[.n x1,.b x2]) (v:=.n x1) rfl rfl) (Ze (Zbn (vs:=[.n x1,.b x2]) (v:=.b x2) rfl rfl) (Zd (.n x1) rfl (Zd (.b x2) rfl (Zb (Za (Zf ?_)))))))
  refine Zf (Zl (Zd (.b x2) rfl (Ze (Zcb (t:=x2) rfl) (Zb (Za ?_)))))
  rcases Zt hp with ⟨b'2,hp⟩ | ⟨b'2,hp⟩
  ·refine zH (t:=(!x2)) rfl b'2 ?_
   refine Zf (Zl (Zd (.n 0) rfl (Zd (.n 2) rfl (Zb (Za (Zav (zI ?_)))))))
   refine zF (Zap (n:=2) (v:=.n 0) rfl (Zap (n:=3) (v:=.n 2) rfl zk)) ?_
   cases hp
   exact ⟨rfl,(hO'2.pick [] rfl (by decide))⟩
  ·refine zG (t:=(!x2)) rfl b'2 ?_
   refine zM (Za (Zf (Zl (Zd (.n x1) rfl (Zd (.n x1) rfl (Zd (.n 0) rfl (Zb ?_)))))))
   refine Za (Zav (zF (Zap (n:=2) (v:=.n x1) rfl (Zap (n:=3) (v:=.n 0) rfl zk)) ?_))
   cases hp
   exact ⟨rfl,(hO'2.pick [] rfl (by decide))⟩

theorem Zbw.ok {h:Hp}    {r:Bool} (hp:Zbw  = some r) :
  ∃ u k',Is G 172 [] h u k'∧V.b r = u∧Own (fun r=>r < h.n) h k' []:=by
 refine WC.is (ZaQ Zc0 ?_)
 unfold Zbw at hp
 let B:Nat→Prop:=(fun r=>r < h.n)
 have hO:Own B h h []:=Own.start0 h
 refine Zf (Zl (Zd (.b false) rfl (Zb (Za (Zf (Zl ?_))))))
 obtain ⟨x,hx'1,hp⟩:=Zp hp
 obtain ⟨u'1,k'1,ca'1,v'1,rfl,hW'1⟩:=ZaW.ok (h:=h)   hx'1
 refine Za8 (id:=196) (caps:=[]) rfl zo ca'1 ?_
 have hO'1:=hO.call hW'1 rfl
 obtain ⟨⟨x1,x2⟩,hx'2,hp⟩:=Zp hp
 obtain ⟨u'2,k'2,ca'2,rfl,hW'2⟩:=Zbe.ok (h:=k'1)  (hO'1.sl 0 rfl) hx'2
 refine Za8 (id:=195) (caps:=[]) rfl (Zx (v:=v'1) rfl zo) ca'2 ?_
 have hO'2:=hO'1.call hW'2 rfl
 refine Zd (.tu [.n x1,.n x2]) rfl (Ze (Zbn (vs:=[.n x1,.n x2]) (v:=.n x1) rfl rfl) (Ze (Zbn (vs:=[.n x1,.n x2]) (v:=.n x2) rfl rfl) (Zd (.n x1) rfl (Zd (.n x2) rfl (Zb (Za (Zf ?_)))))))
 refine Zl ?_
 obtain ⟨x3,hx'3,hp⟩:=Zp hp
 obtain ⟨u'3,k'3,ca'3,v'2,rfl,hW'3⟩:=ZJ.ok (h:=k'2)   hx'3
 refine Za8 (id:=46) (caps:=[]) rfl (Zx (v:=.n 1) rfl zo) ca'3 ?_
 have hO'3:=hO'2.call hW'3 rfl
 obtain ⟨⟨x4,x5⟩,hx'4,hp⟩:=Zp hp
 obtain ⟨u'4,k'4,ca'4,rfl,hW'4⟩:=Zbe.ok (h:=k'3)  (hO'3.sl 1 rfl) hx'4
 refine Za8 (id:=195) (caps:=[]) rfl (Zx (v:=v'2) rfl zo) ca'4 ?_
 have hO'4:=hO'3.call hW'4 rfl
 refine Zd (.tu [.n x4,.n x5]) rfl (Ze (Zbn (vs:=[.n x4,.n x5]) (v:=.n x4) rfl rfl) (Ze (Zbn (vs:=[.n x4,.n x5]) (v:=.n x5) rfl rfl) (Zd (.n x4) rfl (Zd (.n x5) rfl (Zb (Za (Zf ?_)))))))
 refine Zl ?_
 obtain ⟨x6,hx'5,hp⟩:=Zp hp
 obtain ⟨u'5,k'5,ca'5,v'3,rfl,hW'5⟩:=ZaW.ok (h:=k'4)   hx'5
 refine Za8 (id:=196) (caps:=[]) rfl zo ca'5 ?_
 have hO'5:=hO'4.call hW'5 rfl
 obtain ⟨x7,hx'6,hp⟩:=Zp hp
 obtain ⟨u'6,k'6,ca'6,rfl,hW'6⟩:=Zaz.ok (h:=k'5)  (hO'5.sl 2 rfl) hx'6
 refine Za8 (id:=176) (caps:=[]) rfl (Zx (v:=v'3) rfl zo) ca'6 ?_
 have hO'6:=hO'5.call hW'6 rfl
 refine Ze (ZaS (a:=x7) (b:=0) rfl rfl) (Zd (.b (decide (x7 = 0))) rfl ?_)
 refine zT 3 (fun fr' k'=>k'6 = k'∧fr' 21 = .b ((decide (x7 = 0)) && (decide (x1 = 1)))∧fr' 2 = .n x2∧fr' 4 = .n x5) ?_ ?_
 ·rcases bc (decide (x7 = 0)) with b'1 | b'1
  ·skip
   refine Z9 rfl b'1 (Zd (.n x1) rfl (Z9 rfl b'1 (Ze (ZaS (a:=x1) (b:=1) rfl rfl) (Ze (zb (t:=(decide (x7 = 0))) (v:=.b ((decide (x7 = 0)) && (decide (x1 = 1)))) rfl b'1 (Eq.trans (b:=V.b (decide (x1 = 1))) rfl (Zb8 b'1))) (Zb ?_)))))
   exact ⟨rfl,rfl,rfl,rfl⟩
  ·skip
   refine Zr rfl b'1 (Zr rfl b'1 (Ze (ZU (t:=(decide (x7 = 0))) (v:=.b ((decide (x7 = 0)) && (decide (x1 = 1)))) rfl b'1 (Eq.trans (b:=V.b false) rfl (Zby b'1))) (Zb ?_)))
   exact ⟨rfl,rfl,rfl,rfl⟩
 rintro frg'1 _ ⟨rfl,g'1_21,g'1_2,g'1_4⟩
 refine Zd (.b ((decide (x7 = 0)) && (decide (x1 = 1)))) g'1_21 ?_
 refine zT 3 (fun fr' k'=>k'6 = k'∧fr' 25 = .b (((decide (x7 = 0)) && (decide (x1 = 1))) && (decide (x2 = 0)))∧fr' 4 = .n x5) ?_ ?_
 ·rcases bc ((decide (x7 = 0)) && (decide (x1 = 1))) with b'2 | b'2
  ·skip
   refine Z9 rfl b'2 (Zd (.n x2) g'1_2 (Z9 rfl b'2 (Ze (ZaS (a:=x2) (b:=0) rfl rfl) (Ze (zb (t:=((decide (x7 = 0)) && (decide (x1 = 1)))) (v:=.b (((decide (x7 = 0)) && (decide (x1 = 1))) && (decide (x2 = 0)))) rfl b'2 (Eq.trans (b:=V.b (decide (x2 = 0))) rfl (Zb8 b'2))) (Zb ?_)))))
   exact ⟨rfl,rfl,g'1_4⟩
  ·skip
   refine Zr rfl b'2 (Zr rfl b'2 (Ze (ZU (t:=((decide (x7 = 0)) && (decide (x1 = 1)))) (v:=.b (((decide (x7 = 0)) && (decide (x1 = 1))) && (decide (x2 = 0)))) rfl b'2 (Eq.trans (b:=V.b false) rfl (Zby b'2))) (Zb ?_)))
   exact ⟨rfl,rfl,g'1_4⟩
 rintro frg'2 _ ⟨rfl,g'2_25,g'2_4⟩
 refine Zd (.b (((decide (x7 = 0)) && (decide (x1 = 1))) && (decide (x2 = 0)))) g'2_25 ?_
 obtain ⟨t,hv'1,hp⟩:=Zp hp
 refine zT 4 (fun fr' k'=>Own B h k' [eSl Zh v'1 x,eSl Zh v'2 x3,eSl Zh v'3 x6]∧fr' 30 = .b t∧fr' 4 = .n x5) ?_ ?_
 ·clear hp; rcases Zt hv'1 with ⟨b'3,hp⟩ | ⟨b'3,hp⟩
  ·skip
   refine Z9 rfl b'3 ?_
   obtain ⟨x8,hx'7,hp⟩:=Zp hp
   obtain ⟨u'7,k'7,ca'7,v'4,rfl,hW'7⟩:=ZJ.ok (h:=k'6)   hx'7
   refine Za8 (id:=46) (caps:=[]) rfl (Zx (v:=.n 1) rfl zo) ca'7 ?_
   have hO'7:=hO'6.call hW'7 rfl
   refine Z9 rfl b'3 ?_
   obtain ⟨x9,hx'8,hp⟩:=Zp hp
   obtain ⟨u'8,k'8,ca'8,rfl,hW'8⟩:=Zaz.ok (h:=k'7)  (hO'7.sl 3 rfl) hx'8
   refine Za8 (id:=176) (caps:=[]) rfl (Zx (v:=v'4) rfl zo) ca'8 ?_
   have hO'8:=hO'7.call hW'8 rfl
   refine Z9 rfl b'3 (Ze (ZaS (a:=x9) (b:=0) rfl rfl) (Ze (zb (t:=(((decide (x7 = 0)) && (decide (x1 = 1))) && (decide (x2 = 0)))) (v:=.b t) rfl b'3 (Eq.trans (b:=V.b (decide (x9 = 0))) rfl (congrArg V.b (Option.some.inj hp)))) (Zb ?_)))
   exact ⟨hO'8.pick [0,1,2] rfl (by decide),rfl,g'2_4⟩
  ·skip
   refine Zr rfl b'3 (Zr rfl b'3 (Zr rfl b'3 (Ze (ZU (t:=(((decide (x7 = 0)) && (decide (x1 = 1))) && (decide (x2 = 0)))) (v:=.b t) rfl b'3 (Eq.trans (b:=V.b false) rfl (congrArg V.b (Option.some.inj hp)))) (Zb ?_))))
   exact ⟨hO'6.pick [0,1,2] rfl (by decide),rfl,g'2_4⟩
 rintro frg'3 k'9 ⟨hO'9,g'3_30,g'3_4⟩
 refine Zd (.b t) g'3_30 ?_
 refine zT 3 (fun fr' k'=>k'9 = k'∧fr' 34 = .b (t && (decide (x5 = 2)))) ?_ ?_
 ·rcases bc t with b'4 | b'4
  ·skip
   refine Z9 rfl b'4 (Zd (.n x5) g'3_4 (Z9 rfl b'4 (Ze (ZaS (a:=x5) (b:=2) rfl rfl) (Ze (zb (t:=t) (v:=.b (t && (decide (x5 = 2)))) rfl b'4 (Eq.trans (b:=V.b (decide (x5 = 2))) rfl (Zb8 b'4))) (Zb ?_)))))
   exact ⟨rfl,rfl⟩
  ·skip
   refine Zr rfl b'4 (Zr rfl b'4 (Ze (ZU (t:=t) (v:=.b (t && (decide (x5 = 2)))) rfl b'4 (Eq.trans (b:=V.b false) rfl (Zby b'4))) (Zb ?_)))
   exact ⟨rfl,rfl⟩
 rintro frg'4 _ ⟨rfl,g'4_34⟩
 refine Zd (.b (t && (decide (x5 = 2)))) g'4_34 ?_
 obtain ⟨t1,hv'2,hp⟩:=Zp hp
 refine zT 4 (fun fr' k'=>Own B h k' [eSl Zh v'1 x,eSl Zh v'2 x3,eSl Zh v'3 x6]∧fr' 39 = .b t1) ?_ ?_
 ·clear hp; rcases Zt hv'2 with ⟨b'5,hp⟩ | ⟨b'5,hp⟩
  ·skip
   refine Z9 rfl b'5 ?_
   obtain ⟨x10,hx'9,hp⟩:=Zp hp
   obtain ⟨u'9,k'10,ca'9,v'5,rfl,hW'9⟩:=ZJ.ok (h:=k'9)   hx'9
   refine Za8 (id:=46) (caps:=[]) rfl (Zx (v:=.n 2) rfl zo) ca'9 ?_
   have hO'10:=hO'9.call hW'9 rfl
   refine Z9 rfl b'5 ?_
   obtain ⟨x11,hx'10,hp⟩:=Zp hp
   obtain ⟨u'10,k'11,ca'10,rfl,hW'10⟩:=Zaz.ok (h:=k'10)  (hO'10.sl 3 rfl) hx'10
   refine Za8 (id:=176) (caps:=[]) rfl (Zx (v:=v'5) rfl zo) ca'10 ?_
   have hO'11:=hO'10.call hW'10 rfl
   refine Z9 rfl b'5 (Ze (ZaS (a:=x11) (b:=13) rfl rfl) (Ze (zb (t:=(t && (decide (x5 = 2)))) (v:=.b t1) rfl b'5 (Eq.trans (b:=V.b (decide (x11 = 13))) rfl (congrArg V.b (Option.some.inj hp)))) (Zb ?_)))
   exact ⟨hO'11.pick [0,1,2] rfl (by decide),rfl⟩
  ·skip
   refine Zr rfl b'5 (Zr rfl b'5 (Zr rfl b'5 (Ze (ZU (t:=(t && (decide (x5 = 2)))) (v:=.b t1) rfl b'5 (Eq.trans (b:=V.b false) rfl (congrArg V.b (Option.some.inj hp)))) (Zb ?_))))
   exact ⟨hO'9.pick [0,1,2] rfl (by decide),rfl⟩
 rintro frg'5 k'12 ⟨hO'12,g'5_39⟩
 refine Zd (.b t1) g'5_39 ?_
 obtain ⟨t2,hv'3,hp⟩:=Zp hp
 refine zT 3 (fun fr' k'=>Own B h k' [eSl Zh v'1 x,eSl Zh v'2 x3,eSl Zh v'3 x6]∧fr' 43 = .b t2) ?_ ?_
 ·clear hp; rcases Zt hv'3 with ⟨b'6,hp⟩ | ⟨b'6,hp⟩
  ·skip
   refine Z9 rfl b'6 ?_
   obtain ⟨x12,hx'11,hp⟩:=Zp hp
   obtain ⟨u'11,k'13,ca'11,rfl,hW'11⟩:=Zaz.ok (h:=k'12)  (Sl.nil:Sl Zh k'12 .sn ([]:List Zc)) hx'11
   refine Za8 (id:=176) (caps:=[]) rfl (Zx (v:=.sn) rfl zo) ca'11 ?_
   have hO'13:=hO'12.call hW'11 rfl
   refine Z9 rfl b'6 (Ze (ZaS (a:=x12) (b:=13) rfl rfl) (Ze (zb (t:=t1) (v:=.b t2) rfl b'6 (Eq.trans (b:=V.b (decide (x12 = 13))) rfl (congrArg V.b (Option.some.inj hp)))) (Zb ?_)))
   exact ⟨hO'13.pick [0,1,2] rfl (by decide),rfl⟩
  ·skip
   refine Zr rfl b'6 (Zr rfl b'6 (Ze (ZU (t:=t1) (v:=.b t2) rfl b'6 (Eq.trans (b:=V.b false) rfl (congrArg V.b (Option.some.inj hp)))) (Zb ?_)))
   exact ⟨hO'12.pick [0,1,2] rfl (by decide),rfl⟩
 rintro frg'6 k'14 ⟨hO'14,g'6_43⟩
 refine Zd (.b t2) g'6_43 (Zb (Za (Zav (zF (Zap (n:=0) (v:=.b t2) rfl zk) ?_))))
 cases hp
 exact ⟨rfl,(hO'14.pick [] rfl (by decide))⟩

theorem zq.ok {h:Hp} {l:List Zc} {v_l:V} (s_l:Sl Zh h v_l l) {r:Int} (hp:zq l = some r) :
  ∃ u k',Is G 34 [v_l] h u k'∧V.n r = u∧Own (fun r=>r < h.n) h k' []:=by
 refine WC.is (ZaQ Zc3 ?_)
 unfold zq at hp
 let B:Nat→Prop:=(fun r=>r < h.n)
 have hO:Own B h h []:=Own.start0 h
 refine Zf (Zl (Zd (.n 0) rfl (Zb (Za (Zf (Zf (Zl ?_)))))))
 refine Zd v_l rfl (Ze (Zao (hO.rd0 s_l.rd) rfl) (Ze (Zdd (a:=(l.length:Int)) (b:=4096) rfl rfl) (Zb (Za ?_))))
 rcases Zt hp with ⟨b'1,hp⟩ | ⟨b'1,hp⟩
 ·refine zH (t:=(decide (4096 < (l.length:Int)))) rfl b'1 ?_
  refine Zf (Zl (Zd (.n 6) rfl (Zb (Za (Zav (zI (zF (Zap (n:=2) (v:=.n 6) rfl zk) ?_)))))))
  cases hp
  exact ⟨rfl,(hO.pick [] rfl (by decide))⟩
 ·refine zG (t:=(decide (4096 < (l.length:Int)))) rfl b'1 ?_
  refine zM (Za (Zf (Zf (Zl (Zd (.n 0) rfl (Zb (Za ?_)))))))
  refine Zae ?_
  obtain ⟨o'1,ho'1,hp⟩:=Zp hp
  refine W.mono (Q:=fun e fr k=>match (generalizing:=false) o'1 with
    | .inl _=>e = (.exit 0)∧Own B h k []
    | .inr x=>e = .ret∧fr 2 = .n x∧Own B h k []) ?_ ?_
  ·clear hp
   refine zC (fun st fr k=>match st with | v=>fr 0 = v_l∧fr 3 = .n v∧Own B h k []) ho'1 (s:=0) ⟨rfl,rfl,(hO.pick [] rfl (by decide))⟩ ?_
   rintro v q'2 k'2 ⟨q'2_0,q'2_3,hO'2⟩ o'2 hp
   dsimp only [zq.s0] at hp
   refine Zf (Zf (Zl (Zd (.n v) q'2_3 (Zd v_l q'2_0 (Ze (Zao (hO'2.rd0 s_l.rd) rfl) (Ze (zJ (a:=v) (b:=(l.length:Int)) rfl rfl) (Zb ?_)))))))
   refine Za ?_
   rcases Zt hp with ⟨b'2,hp⟩ | ⟨b'2,hp⟩
   ·refine zH (t:=(decide (v < (l.length:Int)))) rfl b'2 ?_
    refine zM (Za (Zf (Zae (Zf (Zl (Zd (.n 0) rfl (Zb ?_)))))))
    refine Za (Zae ?_)
    obtain ⟨o'3,ho'2,hp⟩:=Zp hp
    refine W.mono (Q:=fun e fr k=>match (generalizing:=false) o'3 with
      | .inl _=>e = (.exit 2)∧fr 0 = v_l∧fr 3 = .n v∧Own B h k []
      | .inr x1=>e = .ret∧fr 2 = .n x1∧Own B h k []) ?_ ?_
    ·clear hp
     refine zC (fun st fr k=>match st with | d=>fr 0 = v_l∧fr 3 = .n v∧fr 4 = .n d∧Own B h k []) ho'2 (s:=0) ⟨q'2_0,q'2_3,rfl,(hO'2.pick [] rfl (by decide))⟩ ?_
     rintro d q'4 k'4 ⟨q'4_0,q'4_3,q'4_4,hO'4⟩ o'4 hp
     dsimp only [zq.s1] at hp
     refine Zf (Zf (Zl (Zd (.n d) q'4_4 (Ze (zJ (a:=d) (b:=4) rfl rfl) (Zb (Za ?_))))))
     rcases Zt hp with ⟨b'3,hp⟩ | ⟨b'3,hp⟩
     ·refine zH (t:=(decide (d < 4))) rfl b'3 ?_
      refine zM (Za (Zf (Zae (Zf (Zl (Zd v_l q'4_0 (Zd (.n v) q'4_3 ?_)))))))
      refine Zd (.n d) q'4_4 ?_
      obtain ⟨c'1,hp⟩:=Zg hp
      refine Ze (z3 (E:=Zh) (z:=v) (hO'4.rd0 s_l.rd) rfl rfl c'1) (Ze (ZaT (off':=0) (off2:=0) (hO'4.rd0 s_l.rd) (Zo c'1) rfl rfl) ?_)
      obtain ⟨c'2,hp⟩:=Zg hp
      refine Ze (ZaX (off:=0) (off2:=(0 + d.toNat * 1)) (z:=d) (hO'4.rd0 s_l.rd) (Zo c'1) rfl rfl c'2 rfl) (Ze (zO (w:=.n (((gi l v.toNat).Next).get d)) (hO'4.rd0 s_l.rd) rfl (Zo c'1) (Zaj c'2)) (Zd (.n (((gi l v.toNat).Next).get d)) rfl (Zb (Za (Zf (Zl (Zd v_l q'4_0 ?_)))))))
      refine Zd (.n v) q'4_3 (Zd (.n d) q'4_4 (Ze (z3 (E:=Zh) (z:=v) (hO'4.rd0 s_l.rd) rfl rfl c'1) (Ze (ZaT (off':=0) (off2:=4) (hO'4.rd0 s_l.rd) (Zo c'1) rfl rfl) (Ze (ZaX (off:=4) (off2:=(4 + d.toNat * 1)) (z:=d) (hO'4.rd0 s_l.rd) (Zo c'1) rfl rfl c'2 rfl) (Ze (zO (w:=.n (((gi l v.toNat).Owner).get d)) (hO'4.rd0 s_l.rd) rfl (Zo c'1) (ZbC c'2)) (Zd (.n (((gi l v.toNat).Owner).get d)) rfl (Zb ?_)))))))
      refine Za (Zf (Zf (Zl (Zd (.n (((gi l v.toNat).Next).get d)) rfl (Ze (ZaS (a:=(((gi l v.toNat).Next).get d)) (b:=(-1)) rfl rfl) (Zb (Za ?_)))))))
      rcases Zt hp with ⟨b'4,hp⟩ | ⟨b'4,hp⟩
      ·refine zH (t:=(decide (((gi l v.toNat).Next).get d = (-1)))) rfl b'4 ?_
       refine Zf (Zf (Zl (Zd (.n (((gi l v.toNat).Owner).get d)) rfl (Ze (ZbL (a:=(((gi l v.toNat).Owner).get d)) (b:=0) rfl rfl) (Zb (Za ?_))))))
       rcases Zt hp with ⟨b'5,hp⟩ | ⟨b'5,hp⟩
       ·refine zH (t:=(!(decide (((gi l v.toNat).Owner).get d = 0)))) rfl b'5 ?_
        refine Zf (Zl (Zd (.n 9) rfl (Zb (Za (Zav (zI (zI ?_)))))))
        refine Zbs (zI ?_)
        cases hp
        refine (Or.inr ⟨.inr 9,rfl,(fun h=>nomatch h),(fun he=>?_)⟩)
        subst he; exact ⟨rfl,rfl,(hO'4.pick [] rfl (by decide))⟩
       ·refine zG (t:=(!(decide (((gi l v.toNat).Owner).get d = 0)))) rfl b'5 ?_
        refine zM (Za (ZaZ (zN (Zax (Za (Zl (Zd (.n d) q'4_4 ?_)))))))
        obtain ⟨c'3,hp⟩:=Zg hp
        refine Ze (zu (a:=d) (b:=1) rfl rfl c'3) (Zd (.n (d + 1)) rfl (Zb ?_))
        cases hp
        exact (Or.inl ⟨d + 1,rfl,rfl,q'4_0,q'4_3,rfl,(hO'4.pick [] rfl (by decide))⟩)
      ·refine zG (t:=(decide (((gi l v.toNat).Next).get d = (-1)))) rfl b'4 ?_
       refine zM (Za (Zf (Zf (Zl (Zd (.n (((gi l v.toNat).Next).get d)) rfl (Ze (zJ (a:=(((gi l v.toNat).Next).get d)) (b:=0) rfl rfl) (Zd (.b (decide ((((gi l v.toNat).Next).get d) < 0))) rfl ?_)))))))
       refine zT 5 (fun fr' k'=>k'4 = k'∧fr' 45 = .b ((decide ((((gi l v.toNat).Next).get d) < 0)) || (decide ((l.length:Int)≤(((gi l v.toNat).Next).get d))))∧fr' 0 = v_l∧fr' 3 = .n v∧fr' 4 = .n d∧fr' 5 = .n (((gi l v.toNat).Next).get d)∧fr' 6 = .n (((gi l v.toNat).Owner).get d)) ?_ ?_
       ·rcases bc (decide ((((gi l v.toNat).Next).get d) < 0)) with b'6 | b'6
        ·skip
         refine Zr rfl b'6 (Zr rfl b'6 (Zr rfl b'6 (Zr rfl b'6 (Ze (zb (t:=(decide ((((gi l v.toNat).Next).get d) < 0))) (v:=.b ((decide ((((gi l v.toNat).Next).get d) < 0)) || (decide ((l.length:Int)≤(((gi l v.toNat).Next).get d))))) rfl b'6 (Eq.trans (b:=V.b true) rfl (Zbx b'6))) (Zb ?_)))))
         exact ⟨rfl,rfl,q'4_0,q'4_3,q'4_4,rfl,rfl⟩
        ·skip
         refine Z9 rfl b'6 (Zd (.n (((gi l v.toNat).Next).get d)) rfl (Z9 rfl b'6 (Zd v_l q'4_0 (Z9 rfl b'6 (Ze (Zao (hO'4.rd0 s_l.rd) rfl) (Z9 rfl b'6 (Ze (Zcl (a:=(((gi l v.toNat).Next).get d)) (b:=(l.length:Int)) rfl rfl) ?_)))))))
         refine Ze (ZU (t:=(decide ((((gi l v.toNat).Next).get d) < 0))) (v:=.b ((decide ((((gi l v.toNat).Next).get d) < 0)) || (decide ((l.length:Int)≤(((gi l v.toNat).Next).get d))))) rfl b'6 (Eq.trans (b:=V.b (decide ((l.length:Int)≤(((gi l v.toNat).Next).get d)))) rfl (ZbA b'6))) (Zb ?_)
         exact ⟨rfl,rfl,q'4_0,q'4_3,q'4_4,rfl,rfl⟩
       rintro frg'1 _ ⟨rfl,g'1_45,g'1_0,g'1_3,g'1_4,g'1_5,g'1_6⟩
       refine Zd (.b ((decide ((((gi l v.toNat).Next).get d) < 0)) || (decide ((l.length:Int)≤(((gi l v.toNat).Next).get d))))) g'1_45 ?_
       refine zT 4 (fun fr' k'=>k'4 = k'∧fr' 50 = .b (((decide ((((gi l v.toNat).Next).get d) < 0)) || (decide ((l.length:Int)≤(((gi l v.toNat).Next).get d)))) || (decide (((gi l v.toNat).Next).get d = v)))∧fr' 0 = v_l∧fr' 3 = .n v∧fr' 4 = .n d∧fr' 5 = .n (((gi l v.toNat).Next).get d)∧fr' 6 = .n (((gi l v.toNat).Owner).get d)) ?_ ?_
       ·rcases bc ((decide ((((gi l v.toNat).Next).get d) < 0)) || (decide ((l.length:Int)≤(((gi l v.toNat).Next).get d)))) with b'7 | b'7
        ·skip
         refine Zr rfl b'7 (Zr rfl b'7 (Zr rfl b'7 (Ze (zb (t:=((decide ((((gi l v.toNat).Next).get d) < 0)) || (decide ((l.length:Int)≤(((gi l v.toNat).Next).get d))))) (v:=.b (((decide ((((gi l v.toNat).Next).get d) < 0)) || (decide ((l.length:Int)≤(((gi l v.toNat).Next).get d)))) || (decide (((gi l v.toNat).Next).get d = v)))) rfl b'7 (Eq.trans (b:=V.b true) rfl (Zbx b'7))) (Zb ?_))))
         exact ⟨rfl,rfl,g'1_0,g'1_3,g'1_4,g'1_5,g'1_6⟩
        ·skip
         refine Z9 rfl b'7 (Zd (.n (((gi l v.toNat).Next).get d)) g'1_5 (Z9 rfl b'7 (Zd (.n v) g'1_3 (Z9 rfl b'7 (Ze (ZaS (a:=(((gi l v.toNat).Next).get d)) (b:=v) rfl rfl) (Ze (ZU (t:=((decide ((((gi l v.toNat).Next).get d) < 0)) || (decide ((l.length:Int)≤(((gi l v.toNat).Next).get d))))) (v:=.b (((decide ((((gi l v.toNat).Next).get d) < 0)) || (decide ((l.length:Int)≤(((gi l v.toNat).Next).get d)))) || (decide (((gi l v.toNat).Next).get d = v)))) rfl b'7 (Eq.trans (b:=V.b (decide (((gi l v.toNat).Next).get d = v))) rfl (ZbA b'7))) (Zb ?_)))))))
         exact ⟨rfl,rfl,g'1_0,g'1_3,g'1_4,g'1_5,g'1_6⟩
       rintro frg'2 _ ⟨rfl,g'2_50,g'2_0,g'2_3,g'2_4,g'2_5,g'2_6⟩
       refine Zb (Za ?_)
       rcases Zt hp with ⟨b'8,hp⟩ | ⟨b'8,hp⟩
       ·refine zH (t:=(((decide ((((gi l v.toNat).Next).get d) < 0)) || (decide ((l.length:Int)≤(((gi l v.toNat).Next).get d)))) || (decide (((gi l v.toNat).Next).get d = v)))) g'2_50 b'8 ?_
        refine Zf (Zl (Zd (.n 3) rfl (Zb (Za (Zav (zI (Zbs ?_)))))))
        refine zI ?_
        cases hp
        refine (Or.inr ⟨.inr 3,rfl,(fun h=>nomatch h),(fun he=>?_)⟩)
        subst he; exact ⟨rfl,rfl,(hO'4.pick [] rfl (by decide))⟩
       ·refine zG (t:=(((decide ((((gi l v.toNat).Next).get d) < 0)) || (decide ((l.length:Int)≤(((gi l v.toNat).Next).get d)))) || (decide (((gi l v.toNat).Next).get d = v)))) g'2_50 b'8 ?_
        refine zM (Za (Zf (Zl (Zd v_l g'2_0 (Zd (.n (((gi l v.toNat).Next).get d)) g'2_5 (Zd (.n d) g'2_4 ?_))))))
        obtain ⟨c'4,hp⟩:=Zg hp
        refine Ze (zu (a:=d) (b:=2) rfl rfl c'4) (Ze (ZbJ (a:=(d + 2)) (b:=4) rfl rfl (by decide)) ?_)
        obtain ⟨c'5,hp⟩:=Zg hp
        refine Ze (z3 (E:=Zh) (z:=(((gi l v.toNat).Next).get d)) (hO'4.rd0 s_l.rd) rfl rfl c'5) (Ze (ZaT (off':=0) (off2:=0) (hO'4.rd0 s_l.rd) (Zo c'5) rfl rfl) ?_)
        obtain ⟨c'6,hp⟩:=Zg hp
        refine Ze (ZaX (off:=0) (off2:=(0 + ((d + 2).tmod 4:Int).toNat * 1)) (z:=((d + 2).tmod 4)) (hO'4.rd0 s_l.rd) (Zo c'5) rfl rfl c'6 rfl) (Ze (zO (w:=.n (((gi l (((gi l v.toNat).Next).get d:Int).toNat).Next).get ((d + 2).tmod 4))) (hO'4.rd0 s_l.rd) rfl (Zo c'5) (Zaj c'6)) (Zd (.n v) g'2_3 (Ze (ZbL (a:=(((gi l (((gi l v.toNat).Next).get d:Int).toNat).Next).get ((d + 2).tmod 4))) (b:=v) rfl rfl) (Zd (.b (!(decide (((gi l (((gi l v.toNat).Next).get d:Int).toNat).Next).get ((d + 2).tmod 4) = v)))) rfl ?_))))
        refine zT 12 (fun fr' k'=>k'4 = k'∧fr' 74 = .b ((!(decide (((gi l (((gi l v.toNat).Next).get d:Int).toNat).Next).get ((d + 2).tmod 4) = v))) || (!(decide (((gi l (((gi l v.toNat).Next).get d:Int).toNat).Owner).get ((d + 2).tmod 4) = ((gi l v.toNat).Owner).get d))))∧fr' 0 = v_l∧fr' 3 = .n v∧fr' 4 = .n d∧fr' 6 = .n (((gi l v.toNat).Owner).get d)) ?_ ?_
        ·rcases bc (!(decide (((gi l (((gi l v.toNat).Next).get d:Int).toNat).Next).get ((d + 2).tmod 4) = v))) with b'9 | b'9
         ·skip
          refine Zr rfl b'9 (Zr rfl b'9 (Zr rfl b'9 (Zr rfl b'9 (Zr rfl b'9 (Zr rfl b'9 (Zr rfl b'9 (Zr rfl b'9 ?_)))))))
          refine Zr rfl b'9 (Zr rfl b'9 (Zr rfl b'9 (Ze (zb (t:=(!(decide (((gi l (((gi l v.toNat).Next).get d:Int).toNat).Next).get ((d + 2).tmod 4) = v)))) (v:=.b ((!(decide (((gi l (((gi l v.toNat).Next).get d:Int).toNat).Next).get ((d + 2).tmod 4) = v))) || (!(decide (((gi l (((gi l v.toNat).Next).get d:Int).toNat).Owner).get ((d + 2).tmod 4) = ((gi l v.toNat).Owner).get d))))) rfl b'9 (Eq.trans (b:=V.b true) rfl (Zbx b'9))) (Zb ?_))))
          exact ⟨rfl,rfl,g'2_0,g'2_3,g'2_4,g'2_6⟩
         ·skip
          refine Z9 rfl b'9 (Zd v_l g'2_0 (Z9 rfl b'9 (Zd (.n (((gi l v.toNat).Next).get d)) g'2_5 (Z9 rfl b'9 (Zd (.n d) g'2_4 (Z9 rfl b'9 (Ze (zu (a:=d) (b:=2) rfl rfl c'4) ?_)))))))
          refine Z9 rfl b'9 (Ze (ZbJ (a:=(d + 2)) (b:=4) rfl rfl (by decide)) (Z9 rfl b'9 (Ze (z3 (E:=Zh) (z:=(((gi l v.toNat).Next).get d)) (hO'4.rd0 s_l.rd) rfl rfl c'5) (Z9 rfl b'9 (Ze (ZaT (off':=0) (off2:=4) (hO'4.rd0 s_l.rd) (Zo c'5) rfl rfl) (Z9 rfl b'9 (Ze (ZaX (off:=4) (off2:=(4 + ((d + 2).tmod 4:Int).toNat * 1)) (z:=((d + 2).tmod 4)) (hO'4.rd0 s_l.rd) (Zo c'5) rfl rfl c'6 rfl) ?_)))))))
          refine Z9 rfl b'9 (Ze (zO (w:=.n (((gi l (((gi l v.toNat).Next).get d:Int).toNat).Owner).get ((d + 2).tmod 4))) (hO'4.rd0 s_l.rd) rfl (Zo c'5) (ZbC c'6)) (Z9 rfl b'9 (Zd (.n (((gi l v.toNat).Owner).get d)) g'2_6 (Z9 rfl b'9 (Ze (ZbL (a:=(((gi l (((gi l v.toNat).Next).get d:Int).toNat).Owner).get ((d + 2).tmod 4))) (b:=(((gi l v.toNat).Owner).get d)) rfl rfl) (Ze (ZU (t:=(!(decide (((gi l (((gi l v.toNat).Next).get d:Int).toNat).Next).get ((d + 2).tmod 4) = v)))) (v:=.b ((!(decide (((gi l (((gi l v.toNat).Next).get d:Int).toNat).Next).get ((d + 2).tmod 4) = v))) || (!(decide (((gi l (((gi l v.toNat).Next).get d:Int).toNat).Owner).get ((d + 2).tmod 4) = ((gi l v.toNat).Owner).get d))))) rfl b'9 (Eq.trans (b:=V.b (!(decide (((gi l (((gi l v.toNat).Next).get d:Int).toNat).Owner).get ((d + 2).tmod 4) = ((gi l v.toNat).Owner).get d)))) rfl (ZbA b'9))) (Zb ?_)))))))
          exact ⟨rfl,rfl,g'2_0,g'2_3,g'2_4,g'2_6⟩
        rintro frg'3 _ ⟨rfl,g'3_74,g'3_0,g'3_3,g'3_4,g'3_6⟩
        refine Zd (.b ((!(decide (((gi l (((gi l v.toNat).Next).get d:Int).toNat).Next).get ((d + 2).tmod 4) = v))) || (!(decide (((gi l (((gi l v.toNat).Next).get d:Int).toNat).Owner).get ((d + 2).tmod 4) = ((gi l v.toNat).Owner).get d))))) g'3_74 ?_
        refine zT 3 (fun fr' k'=>k'4 = k'∧fr' 78 = .b (((!(decide (((gi l (((gi l v.toNat).Next).get d:Int).toNat).Next).get ((d + 2).tmod 4) = v))) || (!(decide (((gi l (((gi l v.toNat).Next).get d:Int).toNat).Owner).get ((d + 2).tmod 4) = ((gi l v.toNat).Owner).get d)))) || (decide ((((gi l v.toNat).Owner).get d) < (-2))))∧fr' 0 = v_l∧fr' 3 = .n v∧fr' 4 = .n d) ?_ ?_
        ·rcases bc ((!(decide (((gi l (((gi l v.toNat).Next).get d:Int).toNat).Next).get ((d + 2).tmod 4) = v))) || (!(decide (((gi l (((gi l v.toNat).Next).get d:Int).toNat).Owner).get ((d + 2).tmod 4) = ((gi l v.toNat).Owner).get d)))) with b'10 | b'10
         ·skip
          refine Zr rfl b'10 (Zr rfl b'10 (Ze (zb (t:=((!(decide (((gi l (((gi l v.toNat).Next).get d:Int).toNat).Next).get ((d + 2).tmod 4) = v))) || (!(decide (((gi l (((gi l v.toNat).Next).get d:Int).toNat).Owner).get ((d + 2).tmod 4) = ((gi l v.toNat).Owner).get d))))) (v:=.b (((!(decide (((gi l (((gi l v.toNat).Next).get d:Int).toNat).Next).get ((d + 2).tmod 4) = v))) || (!(decide (((gi l (((gi l v.toNat).Next).get d:Int).toNat).Owner).get ((d + 2).tmod 4) = ((gi l v.toNat).Owner).get d)))) || (decide ((((gi l v.toNat).Owner).get d) < (-2))))) rfl b'10 (Eq.trans (b:=V.b true) rfl (Zbx b'10))) (Zb ?_)))
          exact ⟨rfl,rfl,g'3_0,g'3_3,g'3_4⟩
         ·skip
          refine Z9 rfl b'10 (Zd (.n (((gi l v.toNat).Owner).get d)) g'3_6 (Z9 rfl b'10 (Ze (zJ (a:=(((gi l v.toNat).Owner).get d)) (b:=(-2)) rfl rfl) (Ze (ZU (t:=((!(decide (((gi l (((gi l v.toNat).Next).get d:Int).toNat).Next).get ((d + 2).tmod 4) = v))) || (!(decide (((gi l (((gi l v.toNat).Next).get d:Int).toNat).Owner).get ((d + 2).tmod 4) = ((gi l v.toNat).Owner).get d))))) (v:=.b (((!(decide (((gi l (((gi l v.toNat).Next).get d:Int).toNat).Next).get ((d + 2).tmod 4) = v))) || (!(decide (((gi l (((gi l v.toNat).Next).get d:Int).toNat).Owner).get ((d + 2).tmod 4) = ((gi l v.toNat).Owner).get d)))) || (decide ((((gi l v.toNat).Owner).get d) < (-2))))) rfl b'10 (Eq.trans (b:=V.b (decide ((((gi l v.toNat).Owner).get d) < (-2)))) rfl (ZbA b'10))) (Zb ?_)))))
          exact ⟨rfl,rfl,g'3_0,g'3_3,g'3_4⟩
        rintro frg'4 _ ⟨rfl,g'4_78,g'4_0,g'4_3,g'4_4⟩
        refine Zb (Za ?_)
        rcases Zt hp with ⟨b'11,hp⟩ | ⟨b'11,hp⟩
        ·refine zH (t:=(((!(decide (((gi l (((gi l v.toNat).Next).get d:Int).toNat).Next).get ((d + 2).tmod 4) = v))) || (!(decide (((gi l (((gi l v.toNat).Next).get d:Int).toNat).Owner).get ((d + 2).tmod 4) = ((gi l v.toNat).Owner).get d)))) || (decide ((((gi l v.toNat).Owner).get d) < (-2))))) g'4_78 b'11 ?_
         refine Zf (Zl (Zd (.n 9) rfl (Zb (Za (Zav (Zbs (zI ?_)))))))
         cases hp
         refine (Or.inr ⟨.inr 9,rfl,(fun h=>nomatch h),(fun he=>?_)⟩)
         subst he; exact ⟨rfl,rfl,(hO'4.pick [] rfl (by decide))⟩
        ·refine zG (t:=(((!(decide (((gi l (((gi l v.toNat).Next).get d:Int).toNat).Next).get ((d + 2).tmod 4) = v))) || (!(decide (((gi l (((gi l v.toNat).Next).get d:Int).toNat).Owner).get ((d + 2).tmod 4) = ((gi l v.toNat).Owner).get d)))) || (decide ((((gi l v.toNat).Owner).get d) < (-2))))) g'4_78 b'11 ?_
         refine zM (Zaf (Za (Zl (Zd (.n d) g'4_4 ?_))))
         obtain ⟨c'7,hp⟩:=Zg hp
         refine Ze (zu (a:=d) (b:=1) rfl rfl c'7) (Zd (.n (d + 1)) rfl (Zb ?_))
         cases hp
         exact (Or.inl ⟨d + 1,rfl,rfl,g'4_0,g'4_3,rfl,(hO'4.pick [] rfl (by decide))⟩)
     ·refine zG (t:=(decide (d < 4))) rfl b'3 ?_
      refine ZaZ (zN ?_)
      cases hp
      refine (Or.inr ⟨.inl (),rfl,(fun h=>nomatch h),(fun he=>?_)⟩)
      subst he; exact ⟨rfl,q'4_0,q'4_3,(hO'4.pick [] rfl (by decide))⟩
    intro e'2 q'3 k'3 hJ'2
    rcases o'3 with _ | x1
    ·obtain ⟨rfl,q'3_0,q'3_3,hO'3⟩:=hJ'2
     refine Zax (Zaf (Za (Zl (Zd (.n v) q'3_3 ?_))))
     obtain ⟨c'8,hp⟩:=Zg hp
     refine Ze (zu (a:=v) (b:=1) rfl rfl c'8) (Zd (.n (v + 1)) rfl (Zb ?_))
     cases hp
     exact (Or.inl ⟨v + 1,rfl,rfl,q'3_0,rfl,(hO'3.pick [] rfl (by decide))⟩)
    ·obtain ⟨rfl,q'3_2,hO'3⟩:=hJ'2
     refine Zbs (Zbs (zI ?_))
     cases hp
     refine (Or.inr ⟨.inr x1,rfl,(fun h=>nomatch h),(fun he=>?_)⟩)
     subst he; exact ⟨rfl,q'3_2,(hO'3.pick [] rfl (by decide))⟩
   ·refine zG (t:=(decide (v < (l.length:Int)))) rfl b'2 ?_
    refine ZaZ (zN ?_)
    cases hp
    refine (Or.inr ⟨.inl (),rfl,(fun h=>nomatch h),(fun he=>?_)⟩)
    subst he; exact ⟨rfl,(hO'2.pick [] rfl (by decide))⟩
  intro e'1 q'1 k'1 hJ'1
  rcases o'1 with _ | x
  ·obtain ⟨rfl,hO'1⟩:=hJ'1
   refine Zax (Za (Zf (Zl (Zd (.n 0) rfl (Zb (Za (Zav ?_)))))))
   refine zF (Zap (n:=2) (v:=.n 0) rfl zk) ?_
   cases hp
   exact ⟨rfl,(hO'1.pick [] rfl (by decide))⟩
  ·obtain ⟨rfl,q'1_2,hO'1⟩:=hJ'1
   refine Zbs (zI (zF (Zap (n:=2) (v:=.n x) q'1_2 zk) ?_))
   cases hp
   exact ⟨rfl,(hO'1.pick [] rfl (by decide))⟩

theorem ZR.ok {h:Hp} {l:List Zc} {v:Int} {v_l:V} (s_l:Sl Zh h v_l l) {r:(List Int)} (hp:ZR l v = some r) :
  ∃ u k',Is G 36 [v_l,.n v] h u k'∧∃ (v'1:V),v'1 = u∧Own (fun r=>r < h.n) h k' [eSl zn v'1 r]:=by
 refine WC.is (ZaQ Zdc ?_)
 unfold ZR at hp
 let B:Nat→Prop:=(fun r=>r < h.n)
 have hO:Own B h h []:=Own.start0 h
 refine Zf (Zl (Zd (.sn) rfl (Zb (Za (Zf (Zl (Zd v_l rfl ?_)))))))
 refine Ze (Zao (hO.rd0 s_l.rd) rfl) ?_
 obtain ⟨c'1,hp⟩:=Zg hp
 refine zA (hO.mks (E:=zn) (y:=(0:Int)) (bytes:=8) (z:=(l.length:Int)) hO.fr rfl rfl rfl c'1 (by decide)) ?_
 rintro v'2 k'1 ⟨r'1,f'1,hW⟩
 have hO'1:=hW
 refine Zd v'2 rfl (Zb (Za (Zf (Zf (Zl (Zd (.n 0) rfl (Zb ?_)))))))
 refine Za (Zae ?_)
 obtain ⟨o'1,ho'1,hp⟩:=Zp hp
 refine W.mono (Q:=fun e fr k=>match (generalizing:=false) o'1 with
   | far1=>e = (.exit 0)∧fr 0 = v_l∧fr 1 = .n v∧fr 5 = v'2∧Own B h k [eSl zn v'2 far1]) ?_ ?_
 ·clear hp
  refine zC (fun st fr k=>match st with | (far,i)=>fr 0 = v_l∧fr 1 = .n v∧fr 5 = v'2∧fr 6 = .n i∧Own B h k [eSl zn v'2 far]) ho'1 (s:=(List.replicate ((l.length:Int):Int).toNat (0:Int),0)) ⟨rfl,rfl,rfl,rfl,(hO'1.pick [0] rfl (by decide))⟩ ?_
  rintro ⟨far,i⟩ q'2 k'3 ⟨q'2_0,q'2_1,q'2_5,q'2_6,hO'3⟩ o'2 hp
  dsimp only [ZR.s0] at hp
  refine Zf (Zf (Zl (Zd (.n i) q'2_6 (Zd v_l q'2_0 (Ze (Zao (hO'3.rd0 s_l.rd) rfl) (Ze (zJ (a:=i) (b:=(l.length:Int)) rfl rfl) (Zb ?_)))))))
  refine Za ?_
  rcases Zt hp with ⟨b'1,hp⟩ | ⟨b'1,hp⟩
  ·refine zH (t:=(decide (i < (l.length:Int)))) rfl b'1 ?_
   refine zM (Za (Zf (Zae (Zl (Zd v'2 q'2_5 (Zd (.n i) q'2_6 ?_))))))
   obtain ⟨c'2,hp⟩:=Zg hp
   refine Ze (z3 (E:=zn) (z:=i) (hO'3.sl 0 rfl) rfl rfl c'2) (zA (hO'3.ste (E:=zn) (y:=(-1)) (ws:=[.n (-1)]) 0 rfl rfl (Zo c'2) rfl rfl ⟨rfl,Nat.le_of_ble_eq_true rfl,rfl⟩ rfl) ?_)
   rintro _ k'4 ⟨rfl,f'2,m'1,hW⟩
   have hO'4:=hW
   refine Zb (Zaf (Za (Zl (Zd (.n i) q'2_6 ?_))))
   obtain ⟨c'3,hp⟩:=Zg hp
   refine Ze (zu (a:=i) (b:=1) rfl rfl c'3) (Zd (.n (i + 1)) rfl (Zb ?_))
   cases hp
   exact (Or.inl ⟨(far.set i.toNat (-1),i + 1),rfl,rfl,q'2_0,q'2_1,q'2_5,rfl,(hO'4.pick [0] rfl (by decide))⟩)
  ·refine zG (t:=(decide (i < (l.length:Int)))) rfl b'1 ?_
   refine ZaZ (zN ?_)
   cases hp
   refine (Or.inr ⟨far,rfl,(fun h=>nomatch h),(fun he=>?_)⟩)
   subst he; exact ⟨rfl,q'2_0,q'2_1,q'2_5,(hO'3.pick [0] rfl (by decide))⟩
 intro e'1 q'1 k'2 hJ'1
 obtain ⟨far1,rfl⟩:∃ x,x = o'1:=⟨_,rfl⟩
 obtain ⟨rfl,q'1_0,q'1_1,q'1_5,hO'2⟩:=hJ'1
 refine Zax (Za (Zf (Zl (Zd v'2 q'1_5 (Zd (.n v) q'1_1 ?_)))))
 obtain ⟨c'4,hp⟩:=Zg hp
 refine Ze (z3 (E:=zn) (z:=v) (hO'2.sl 0 rfl) rfl rfl c'4) (zA (hO'2.ste (E:=zn) (y:=0) (ws:=[.n 0]) 0 rfl rfl (Zo c'4) rfl rfl ⟨rfl,Nat.le_of_ble_eq_true rfl,rfl⟩ rfl) ?_)
 rintro _ k'5 ⟨rfl,f'3,m'2,hW⟩
 have hO'5:=hW
 refine Zb (Za (Zf (Zf (Zl (Zd (.n 0) rfl (Zb (Za ?_)))))))
 refine Zae ?_
 obtain ⟨o'3,ho'2,hp⟩:=Zp hp
 refine W.mono (Q:=fun e fr k=>match (generalizing:=false) o'3 with
   | far3=>e = (.exit 2)∧fr 5 = v'2∧Own B h k [eSl zn v'2 far3]) ?_ ?_
 ·clear hp
  refine zC (fun st fr k=>match st with | (far2,round)=>fr 0 = v_l∧fr 5 = v'2∧fr 7 = .n round∧Own B h k [eSl zn v'2 far2]) ho'2 (s:=(far1.set v.toNat 0,0)) ⟨q'1_0,q'1_5,rfl,(hO'5.pick [0] rfl (by decide))⟩ ?_
  rintro ⟨far2,round⟩ q'4 k'7 ⟨q'4_0,q'4_5,q'4_7,hO'7⟩ o'4 hp
  dsimp only [ZR.s1] at hp
  refine Zf (Zf (Zl (Zd (.n round) q'4_7 (Zd v_l q'4_0 (Ze (Zao (hO'7.rd0 s_l.rd) rfl) (Ze (zJ (a:=round) (b:=(l.length:Int)) rfl rfl) (Zb ?_)))))))
  refine Za ?_
  rcases Zt hp with ⟨b'2,hp⟩ | ⟨b'2,hp⟩
  ·refine zH (t:=(decide (round < (l.length:Int)))) rfl b'2 ?_
   refine zM (Za (Zf (Zae (Zf (Zl (Zd (.n 0) rfl (Zb ?_)))))))
   refine Za (Zae ?_)
   obtain ⟨o'5,ho'3,hp⟩:=Zp hp
   refine W.mono (Q:=fun e fr k=>match (generalizing:=false) o'5 with
     | far5=>e = (.exit 4)∧fr 0 = v_l∧fr 5 = v'2∧fr 7 = .n round∧Own B h k [eSl zn v'2 far5]) ?_ ?_
   ·clear hp
    refine zC (fun st fr k=>match st with | (far4,i1)=>fr 0 = v_l∧fr 5 = v'2∧fr 7 = .n round∧fr 8 = .n i1∧Own B h k [eSl zn v'2 far4]) ho'3 (s:=(far2,0)) ⟨q'4_0,q'4_5,q'4_7,rfl,(hO'7.pick [0] rfl (by decide))⟩ ?_
    rintro ⟨far4,i1⟩ q'6 k'9 ⟨q'6_0,q'6_5,q'6_7,q'6_8,hO'9⟩ o'6 hp
    dsimp only [ZR.s2] at hp
    refine Zf (Zf (Zl (Zd (.n i1) q'6_8 (Zd v_l q'6_0 (Ze (Zao (hO'9.rd0 s_l.rd) rfl) (Ze (zJ (a:=i1) (b:=(l.length:Int)) rfl rfl) (Zb ?_)))))))
    refine Za ?_
    rcases Zt hp with ⟨b'3,hp⟩ | ⟨b'3,hp⟩
    ·refine zH (t:=(decide (i1 < (l.length:Int)))) rfl b'3 ?_
     refine zM (Za (Zf (Zae (Zf (Zl (Zd (.n 0) rfl (Zb ?_)))))))
     refine Za (Zae ?_)
     obtain ⟨o'7,ho'4,hp⟩:=Zp hp
     refine W.mono (Q:=fun e fr k=>match (generalizing:=false) o'7 with
       | far7=>e = (.exit 6)∧fr 0 = v_l∧fr 5 = v'2∧fr 7 = .n round∧fr 8 = .n i1∧Own B h k [eSl zn v'2 far7]) ?_ ?_
     ·clear hp
      refine zC (fun st fr k=>match st with | (far6,d)=>fr 0 = v_l∧fr 5 = v'2∧fr 7 = .n round∧fr 8 = .n i1∧fr 9 = .n d∧Own B h k [eSl zn v'2 far6]) ho'4 (s:=(far4,0)) ⟨q'6_0,q'6_5,q'6_7,q'6_8,rfl,(hO'9.pick [0] rfl (by decide))⟩ ?_
      rintro ⟨far6,d⟩ q'8 k'11 ⟨q'8_0,q'8_5,q'8_7,q'8_8,q'8_9,hO'11⟩ o'8 hp
      dsimp only [ZR.s3] at hp
      refine Zf (Zf (Zl (Zd (.n d) q'8_9 (Ze (zJ (a:=d) (b:=4) rfl rfl) (Zb (Za ?_))))))
      rcases Zt hp with ⟨b'4,hp⟩ | ⟨b'4,hp⟩
      ·refine zH (t:=(decide (d < 4))) rfl b'4 ?_
       refine zM (Za (Zf (Zae (Zf (Zl (Zd v_l q'8_0 (Zd (.n i1) q'8_8 ?_)))))))
       refine Zd (.n d) q'8_9 ?_
       obtain ⟨c'5,hp⟩:=Zg hp
       refine Ze (z3 (E:=Zh) (z:=i1) (hO'11.rd0 s_l.rd) rfl rfl c'5) (Ze (ZaT (off':=0) (off2:=0) (hO'11.rd0 s_l.rd) (Zo c'5) rfl rfl) ?_)
       obtain ⟨c'6,hp⟩:=Zg hp
       refine Ze (ZaX (off:=0) (off2:=(0 + d.toNat * 1)) (z:=d) (hO'11.rd0 s_l.rd) (Zo c'5) rfl rfl c'6 rfl) (Ze (zO (w:=.n (((gi l i1.toNat).Next).get d)) (hO'11.rd0 s_l.rd) rfl (Zo c'5) (Zaj c'6)) (Zd (.n (((gi l i1.toNat).Next).get d)) rfl (Zb (Za (Zf (Zl (Zd v'2 q'8_5 ?_)))))))
       refine Zd (.n i1) q'8_8 ?_
       obtain ⟨c'7,hp⟩:=Zg hp
       refine Ze (z3 (E:=zn) (z:=i1) (hO'11.sl 0 rfl) rfl rfl c'7) (Ze (zO (w:=.n (gi far6 i1.toNat)) (hO'11.sl 0 rfl) rfl (Zo c'7) rfl) (Zd (.n round) q'8_7 (Ze (ZaS (a:=(gi far6 i1.toNat)) (b:=round) rfl rfl) (Zd (.b (decide (gi far6 i1.toNat = round))) rfl ?_))))
       refine zT 3 (fun fr' k'=>k'11 = k'∧fr' 58 = .b ((decide (gi far6 i1.toNat = round)) && (decide (0≤(((gi l i1.toNat).Next).get d))))∧fr' 0 = v_l∧fr' 10 = .n (((gi l i1.toNat).Next).get d)∧fr' 5 = v'2∧fr' 7 = .n round∧fr' 8 = .n i1∧fr' 9 = .n d) ?_ ?_
       ·rcases bc (decide (gi far6 i1.toNat = round)) with b'5 | b'5
        ·skip
         refine Z9 rfl b'5 (Zd (.n (((gi l i1.toNat).Next).get d)) rfl (Z9 rfl b'5 (Ze (Zcl (a:=(((gi l i1.toNat).Next).get d)) (b:=0) rfl rfl) (Ze (zb (t:=(decide (gi far6 i1.toNat = round))) (v:=.b ((decide (gi far6 i1.toNat = round)) && (decide (0≤(((gi l i1.toNat).Next).get d))))) rfl b'5 (Eq.trans (b:=V.b (decide (0≤(((gi l i1.toNat).Next).get d)))) rfl (Zb8 b'5))) (Zb ?_)))))
         exact ⟨rfl,rfl,q'8_0,rfl,q'8_5,q'8_7,q'8_8,q'8_9⟩
        ·skip
         refine Zr rfl b'5 (Zr rfl b'5 (Ze (ZU (t:=(decide (gi far6 i1.toNat = round))) (v:=.b ((decide (gi far6 i1.toNat = round)) && (decide (0≤(((gi l i1.toNat).Next).get d))))) rfl b'5 (Eq.trans (b:=V.b false) rfl (Zby b'5))) (Zb ?_)))
         exact ⟨rfl,rfl,q'8_0,rfl,q'8_5,q'8_7,q'8_8,q'8_9⟩
       rintro frg'1 _ ⟨rfl,g'1_58,g'1_0,g'1_10,g'1_5,g'1_7,g'1_8,g'1_9⟩
       refine Zd (.b ((decide (gi far6 i1.toNat = round)) && (decide (0≤(((gi l i1.toNat).Next).get d))))) g'1_58 ?_
       obtain ⟨t,hv'1,hp⟩:=Zp hp
       refine zT 7 (fun fr' k'=>k'11 = k'∧fr' 66 = .b t∧fr' 0 = v_l∧fr' 10 = .n (((gi l i1.toNat).Next).get d)∧fr' 5 = v'2∧fr' 7 = .n round∧fr' 8 = .n i1∧fr' 9 = .n d) ?_ ?_
       ·clear hp; rcases Zt hv'1 with ⟨b'6,hp⟩ | ⟨b'6,hp⟩
        ·skip
         refine Z9 rfl b'6 (Zd v'2 g'1_5 (Z9 rfl b'6 (Zd (.n (((gi l i1.toNat).Next).get d)) g'1_10 (Z9 rfl b'6 (Ze (ZlN (a:=(((gi l i1.toNat).Next).get d)) (b:=0) rfl rfl) (Z9 rfl b'6 ?_))))))
         obtain ⟨c'8,hp⟩:=Zg hp
         refine Ze (z3 (E:=zn) (z:=(max (((gi l i1.toNat).Next).get d) 0)) (hO'11.sl 0 rfl) rfl rfl c'8) (Z9 rfl b'6 (Ze (zO (w:=.n (gi far6 (max (((gi l i1.toNat).Next).get d) 0:Int).toNat)) (hO'11.sl 0 rfl) rfl (Zo c'8) rfl) (Z9 rfl b'6 (Ze (zJ (a:=(gi far6 (max (((gi l i1.toNat).Next).get d) 0:Int).toNat)) (b:=0) rfl rfl) (Ze (zb (t:=((decide (gi far6 i1.toNat = round)) && (decide (0≤(((gi l i1.toNat).Next).get d))))) (v:=.b t) rfl b'6 (Eq.trans (b:=V.b (decide ((gi far6 (max (((gi l i1.toNat).Next).get d) 0:Int).toNat) < 0))) rfl (congrArg V.b (Option.some.inj hp)))) (Zb ?_))))))
         exact ⟨rfl,rfl,g'1_0,g'1_10,g'1_5,g'1_7,g'1_8,g'1_9⟩
        ·skip
         refine Zr rfl b'6 (Zr rfl b'6 (Zr rfl b'6 (Zr rfl b'6 (Zr rfl b'6 (Zr rfl b'6 (Ze (ZU (t:=((decide (gi far6 i1.toNat = round)) && (decide (0≤(((gi l i1.toNat).Next).get d))))) (v:=.b t) rfl b'6 (Eq.trans (b:=V.b false) rfl (congrArg V.b (Option.some.inj hp)))) (Zb ?_)))))))
         exact ⟨rfl,rfl,g'1_0,g'1_10,g'1_5,g'1_7,g'1_8,g'1_9⟩
       rintro frg'2 _ ⟨rfl,g'2_66,g'2_0,g'2_10,g'2_5,g'2_7,g'2_8,g'2_9⟩
       refine Zb (Za ?_)
       rcases Zt hp with ⟨b'7,hp⟩ | ⟨b'7,hp⟩
       ·refine zH (t:=t) g'2_66 b'7 ?_
        refine Zl (Zd v'2 g'2_5 (Zd (.n (((gi l i1.toNat).Next).get d)) g'2_10 (Zd (.n round) g'2_7 ?_)))
        obtain ⟨c'9,hp⟩:=Zg hp
        refine Ze (zu (a:=round) (b:=1) rfl rfl c'9) ?_
        obtain ⟨c'10,hp⟩:=Zg hp
        refine Ze (z3 (E:=zn) (z:=(((gi l i1.toNat).Next).get d)) (hO'11.sl 0 rfl) rfl rfl c'10) (zA (hO'11.ste (E:=zn) (y:=(round + 1)) (ws:=[.n (round + 1)]) 0 rfl rfl (Zo c'10) rfl rfl ⟨rfl,Nat.le_of_ble_eq_true rfl,rfl⟩ rfl) ?_)
        rintro _ k'12 ⟨rfl,f'4,m'3,hW⟩
        have hO'12:=hW
        refine Zb (Zaf (Za (Zl (Zd (.n d) g'2_9 ?_))))
        obtain ⟨c'11,hp⟩:=Zg hp
        refine Ze (zu (a:=d) (b:=1) rfl rfl c'11) (Zd (.n (d + 1)) rfl (Zb ?_))
        cases hp
        exact (Or.inl ⟨(far6.set (((gi l i1.toNat).Next).get d:Int).toNat (round + 1),d + 1),rfl,rfl,g'2_0,g'2_5,g'2_7,g'2_8,rfl,(hO'12.pick [0] rfl (by decide))⟩)
       ·refine zG (t:=t) g'2_66 b'7 ?_
        refine zM (Zaf (Za (Zl (Zd (.n d) g'2_9 ?_))))
        obtain ⟨c'12,hp⟩:=Zg hp
        refine Ze (zu (a:=d) (b:=1) rfl rfl c'12) (Zd (.n (d + 1)) rfl (Zb ?_))
        cases hp
        exact (Or.inl ⟨(far6,d + 1),rfl,rfl,g'2_0,g'2_5,g'2_7,g'2_8,rfl,(hO'11.pick [0] rfl (by decide))⟩)
      ·refine zG (t:=(decide (d < 4))) rfl b'4 ?_
       refine ZaZ (zN ?_)
       cases hp
       refine (Or.inr ⟨far6,rfl,(fun h=>nomatch h),(fun he=>?_)⟩)
       subst he; exact ⟨rfl,q'8_0,q'8_5,q'8_7,q'8_8,(hO'11.pick [0] rfl (by decide))⟩
     intro e'4 q'7 k'10 hJ'4
     obtain ⟨far7,rfl⟩:∃ x,x = o'7:=⟨_,rfl⟩
     obtain ⟨rfl,q'7_0,q'7_5,q'7_7,q'7_8,hO'10⟩:=hJ'4
     refine Zax (Zaf (Za (Zl (Zd (.n i1) q'7_8 ?_))))
     obtain ⟨c'13,hp⟩:=Zg hp
     refine Ze (zu (a:=i1) (b:=1) rfl rfl c'13) (Zd (.n (i1 + 1)) rfl (Zb ?_))
     cases hp
     exact (Or.inl ⟨(far7,i1 + 1),rfl,rfl,q'7_0,q'7_5,q'7_7,rfl,(hO'10.pick [0] rfl (by decide))⟩)
    ·refine zG (t:=(decide (i1 < (l.length:Int)))) rfl b'3 ?_
     refine ZaZ (zN ?_)
     cases hp
     refine (Or.inr ⟨far4,rfl,(fun h=>nomatch h),(fun he=>?_)⟩)
     subst he; exact ⟨rfl,q'6_0,q'6_5,q'6_7,(hO'9.pick [0] rfl (by decide))⟩
   intro e'3 q'5 k'8 hJ'3
   obtain ⟨far5,rfl⟩:∃ x,x = o'5:=⟨_,rfl⟩
   obtain ⟨rfl,q'5_0,q'5_5,q'5_7,hO'8⟩:=hJ'3
   refine Zax (Zaf (Za (Zl (Zd (.n round) q'5_7 ?_))))
   obtain ⟨c'14,hp⟩:=Zg hp
   refine Ze (zu (a:=round) (b:=1) rfl rfl c'14) (Zd (.n (round + 1)) rfl (Zb ?_))
   cases hp
   exact (Or.inl ⟨(far5,round + 1),rfl,rfl,q'5_0,q'5_5,rfl,(hO'8.pick [0] rfl (by decide))⟩)
  ·refine zG (t:=(decide (round < (l.length:Int)))) rfl b'2 ?_
   refine ZaZ (zN ?_)
   cases hp
   refine (Or.inr ⟨far2,rfl,(fun h=>nomatch h),(fun he=>?_)⟩)
   subst he; exact ⟨rfl,q'4_5,(hO'7.pick [0] rfl (by decide))⟩
 intro e'2 q'3 k'6 hJ'2
 obtain ⟨far3,rfl⟩:∃ x,x = o'3:=⟨_,rfl⟩
 obtain ⟨rfl,q'3_5,hO'6⟩:=hJ'2
 refine Zax (Za (Zf (Zl (Zd v'2 q'3_5 (Zd v'2 rfl (Zb (Za ?_)))))))
 refine Zav (zF (Zap (n:=4) (v:=v'2) rfl zk) ?_)
 cases hp
 exact ⟨v'2,rfl,(hO'6.pick [0] rfl (by decide))⟩

theorem z4.ok {h:Hp} {l:List Zc} {v_l:V} (s_l:Sl Zh h v_l l) {r:(List (List Int))} (hp:z4 l = some r) :
  ∃ u k',Is G 30 [v_l] h u k'∧∃ (v'1:V),∃ (vs'1:List V),v'1 = u∧Own (fun r=>r < h.n) h k' [eSl eV v'1 vs'1,Zbt zn vs'1 r]:=by
 refine WC.is (ZaQ Zc8 ?_)
 unfold z4 at hp
 let B:Nat→Prop:=(fun r=>r < h.n)
 have hO:Own B h h []:=Own.start0 h
 refine Zf (Zl (Zd (.sn) rfl (Zb (Za (Zf (Zl (Zd v_l rfl ?_)))))))
 refine Ze (Zao (hO.rd0 s_l.rd) rfl) ?_
 obtain ⟨c'1,hp⟩:=Zg hp
 refine zA (hO.mks (E:=e_bool) (y:=false) (bytes:=1) (z:=(l.length:Int)) hO.fr rfl rfl rfl c'1 (by decide)) ?_
 rintro v'2 k'1 ⟨r'1,f'1,hW⟩
 have hO'1:=hW
 refine Zd v'2 rfl (Zb (Za (Zf (Zl (Zd (.sn) rfl (Zb (Za ?_)))))))
 refine Zf (Zf (Zl (Zd (.n 0) rfl (Zb (Za (Zae ?_))))))
 obtain ⟨o'1,ho'1,hp⟩:=Zp hp
 refine W.mono (Q:=fun e fr k=>match (generalizing:=false) o'1 with
   | out1=>e = (.exit 0)∧∃ (v'4:V),∃ (vs'3:List V),fr 4 = v'4∧Own B h k [eSl eV v'4 vs'3,Zbt zn vs'3 out1]) ?_ ?_
 ·clear hp
  have hO'3:=hO'1.nil eV
  have hO'4:=hO'3.allNil zn 0
  refine zC (fun st fr k=>match st with | (in_,out,v)=>∃ (v'3:V),∃ (vs'2:List V),fr 0 = v_l∧fr 3 = v'2∧fr 4 = v'3∧fr 5 = .n v∧Own B h k [eSl e_bool v'2 in_,eSl eV v'3 vs'2,Zbt zn vs'2 out]) ho'1 (s:=(List.replicate ((l.length:Int):Int).toNat false,([]:List (List Int)),0)) ⟨V.sn,[],rfl,rfl,rfl,rfl,(hO'4.pick [0,1,2] rfl (by decide))⟩ ?_
  rintro ⟨in_,out,v⟩ q'2 k'3 ⟨v'3,vs'2,q'2_0,q'2_3,q'2_4,q'2_5,hO'5⟩ o'2 hp
  dsimp only [z4.s0] at hp
  refine Zf (Zf (Zl (Zd (.n v) q'2_5 (Zd v_l q'2_0 (Ze (Zao (hO'5.rd0 s_l.rd) rfl) (Ze (zJ (a:=v) (b:=(l.length:Int)) rfl rfl) (Zb ?_)))))))
  refine Za ?_
  rcases Zt hp with ⟨b'1,hp⟩ | ⟨b'1,hp⟩
  ·refine zH (t:=(decide (v < (l.length:Int)))) rfl b'1 ?_
   refine zM (Za (Zf (Zae (Zf (Zf (Zl (Zd v'2 q'2_3 ?_)))))))
   refine Zd (.n v) q'2_5 ?_
   obtain ⟨c'2,hp⟩:=Zg hp
   refine Ze (z3 (E:=e_bool) (z:=v) (hO'5.sl 0 rfl) rfl rfl c'2) (Ze (zO (w:=.b (gi in_ v.toNat)) (hO'5.sl 0 rfl) rfl (Zo c'2) rfl) (Zb (Za ?_)))
   rcases Zt hp with ⟨b'2,hp⟩ | ⟨b'2,hp⟩
   ·refine zH (t:=(gi in_ v.toNat)) rfl b'2 ?_
    refine ZaZ (zN (Zax (Za (Zl (Zd (.n v) q'2_5 ?_)))))
    obtain ⟨c'3,hp⟩:=Zg hp
    refine Ze (zu (a:=v) (b:=1) rfl rfl c'3) (Zd (.n (v + 1)) rfl (Zb ?_))
    cases hp
    exact (Or.inl ⟨(in_,out,v + 1),rfl,rfl,v'3,vs'2,q'2_0,q'2_3,q'2_4,rfl,(hO'5.pick [0,1,2] rfl (by decide))⟩)
   ·refine zG (t:=(gi in_ v.toNat)) rfl b'2 ?_
    refine zM (Za (Zf (Zl (Zd v_l q'2_0 (Zd (.n v) q'2_5 ?_)))))
    obtain ⟨x,hx'1,hp⟩:=Zp hp
    obtain ⟨u'1,k'4,ca'1,v'5,rfl,hW'1⟩:=ZR.ok (h:=k'3)  (hO'5.rd0 s_l.rd) hx'1
    refine Za8 (id:=36) (caps:=[]) rfl (Zx (v:=v_l) rfl (Zx (v:=.n v) rfl zo)) ca'1 ?_
    have hO'6:=hO'5.call hW'1 rfl
    refine Zd v'5 rfl (Zb (Za (Zf (Zl (Zd (.sn) rfl (Zb (Za ?_)))))))
    refine Zf (Zf (Zl (Zd (.n 0) rfl (Zb (Za (Zae ?_))))))
    obtain ⟨o'3,ho'2,hp⟩:=Zp hp
    refine W.mono (Q:=fun e fr k=>match (generalizing:=false) o'3 with
      | (in_2,p1)=>e = (.exit 2)∧∃ (v'7:V),fr 0 = v_l∧fr 3 = v'2∧fr 4 = v'3∧fr 5 = .n v∧fr 7 = v'7∧Own B h k [eSl e_bool v'2 in_2,eSl eV v'3 vs'2,Zbt zn vs'2 out,eSl zn v'7 p1]) ?_ ?_
    ·clear hp
     have hO'8:=hO'6.nil zn
     refine zC (fun st fr k=>match st with | (in_1,p,w)=>∃ (v'6:V),fr 0 = v_l∧fr 3 = v'2∧fr 4 = v'3∧fr 5 = .n v∧fr 6 = v'5∧fr 7 = v'6∧fr 8 = .n w∧Own B h k [eSl e_bool v'2 in_1,eSl eV v'3 vs'2,Zbt zn vs'2 out,eSl zn v'5 x,eSl zn v'6 p]) ho'2 (s:=(in_,([]:List Int),0)) ⟨V.sn,q'2_0,q'2_3,q'2_4,q'2_5,rfl,rfl,rfl,(hO'8.pick [0,1,2,3,4] rfl (by decide))⟩ ?_
     rintro ⟨in_1,p,w⟩ q'4 k'6 ⟨v'6,q'4_0,q'4_3,q'4_4,q'4_5,q'4_6,q'4_7,q'4_8,hO'9⟩ o'4 hp
     dsimp only [z4.s1] at hp
     refine Zf (Zf (Zl (Zd (.n w) q'4_8 (Zd v_l q'4_0 (Ze (Zao (hO'9.rd0 s_l.rd) rfl) (Ze (zJ (a:=w) (b:=(l.length:Int)) rfl rfl) (Zb ?_)))))))
     refine Za ?_
     rcases Zt hp with ⟨b'3,hp⟩ | ⟨b'3,hp⟩
     ·refine zH (t:=(decide (w < (l.length:Int)))) rfl b'3 ?_
      refine zM (Za (Zf (Zae (Zf (Zl (Zd v'5 q'4_6 (Zd (.n w) q'4_8 ?_)))))))
      obtain ⟨c'4,hp⟩:=Zg hp
      refine Ze (z3 (E:=zn) (z:=w) (hO'9.sl 3 rfl) rfl rfl c'4) (Ze (zO (w:=.n (gi x w.toNat)) (hO'9.sl 3 rfl) rfl (Zo c'4) rfl) (Ze (Zcl (a:=(gi x w.toNat)) (b:=0) rfl rfl) (Zb (Za ?_))))
      rcases Zt hp with ⟨b'4,hp⟩ | ⟨b'4,hp⟩
      ·refine zH (t:=(decide (0≤(gi x w.toNat)))) rfl b'4 ?_
       refine Zf (Zl (Zd v'2 q'4_3 (Zd (.n w) q'4_8 ?_)))
       obtain ⟨c'5,hp⟩:=Zg hp
       refine Ze (z3 (E:=e_bool) (z:=w) (hO'9.sl 0 rfl) rfl rfl c'5) (zA (hO'9.ste (E:=e_bool) (y:=true) (ws:=[.b true]) 0 rfl rfl (Zo c'5) rfl rfl ⟨rfl,Nat.le_of_ble_eq_true rfl,rfl⟩ rfl) ?_)
       rintro _ k'7 ⟨rfl,f'2,m'1,hW⟩
       have hO'10:=hW
       refine Zb (Za (Zl (Zd v'6 q'4_7 (Zd (.n w) q'4_8 (zA (hO'10.bsl (E:=zn) (l:=[w]) hO'10.fr (by rw [(z9 (v:=.n w) rfl ZaI)]; rfl) rfl) ?_)))))
       rintro v'8 k'8 ⟨r'2,f'3,hW⟩
       have hO'11:=hW
       obtain ⟨c'6,hp⟩:=Zg hp
       refine zA (hO'11.app (E:=zn) (bytes:=8) 4 hO'11.fr rfl (hO'11.sl 5 rfl) rfl rfl (fun _=>rfl) c'6 (by decide)) ?_
       rintro v'9 k'9 ⟨f'4,hW⟩
       have hO'12:=hW
       refine Zd v'9 rfl (Zb (Zaf (Za (Zl (Zd (.n w) q'4_8 ?_)))))
       obtain ⟨c'7,hp⟩:=Zg hp
       refine Ze (zu (a:=w) (b:=1) rfl rfl c'7) (Zd (.n (w + 1)) rfl (Zb ?_))
       cases hp
       exact (Or.inl ⟨(in_1.set w.toNat true,p++[w],w + 1),rfl,rfl,v'9,q'4_0,q'4_3,q'4_4,q'4_5,q'4_6,rfl,rfl,(hO'12.pick [0,1,2,3,4] rfl (by decide))⟩)
      ·refine zG (t:=(decide (0≤(gi x w.toNat)))) rfl b'4 ?_
       refine zM (Zaf (Za (Zl (Zd (.n w) q'4_8 ?_))))
       obtain ⟨c'8,hp⟩:=Zg hp
       refine Ze (zu (a:=w) (b:=1) rfl rfl c'8) (Zd (.n (w + 1)) rfl (Zb ?_))
       cases hp
       exact (Or.inl ⟨(in_1,p,w + 1),rfl,rfl,v'6,q'4_0,q'4_3,q'4_4,q'4_5,q'4_6,q'4_7,rfl,(hO'9.pick [0,1,2,3,4] rfl (by decide))⟩)
     ·refine zG (t:=(decide (w < (l.length:Int)))) rfl b'3 ?_
      refine ZaZ (zN ?_)
      cases hp
      refine (Or.inr ⟨(in_1,p),rfl,(fun h=>nomatch h),(fun he=>?_)⟩)
      subst he; exact ⟨rfl,v'6,q'4_0,q'4_3,q'4_4,q'4_5,q'4_7,(hO'9.pick [0,1,2,4] rfl (by decide))⟩
    intro e'2 q'3 k'5 hJ'2
    obtain ⟨in_2,p1⟩:=o'3
    obtain ⟨rfl,v'7,q'3_0,q'3_3,q'3_4,q'3_5,q'3_7,hO'7⟩:=hJ'2
    refine Zax (Za (Zl (Zd v'3 q'3_4 (Zd v'7 q'3_7 (zA (hO'7.bsl (E:=eV) (l:=[v'7]) hO'7.fr (by rw [(z9 (v:=v'7) rfl ZaI)]; simp only [fill,(hO'7.sl 3 rfl).cells]; simp [over]) rfl) ?_)))))
    rintro v'10 k'10 ⟨r'3,f'5,hW⟩
    have hO'13:=hW
    obtain ⟨c'9,hp⟩:=Zg hp
    refine zA (hO'13.appV (bytes:=24) 1 hO'13.fr rfl (hO'13.sl 4 rfl) rfl rfl (by simp only [List.all_cons,List.all_nil,Bool.and_true]; exact (hO'13.sl 3 rfl).oneV) (by rw [(hO'13.allLen 2 rfl:(vs'2).length = (out).length)]; exact c'9) (by decide)) ?_
    rintro v'11 k'11 ⟨f'6,hW⟩
    have hO'14:=hW
    have hO'15:=hO'14.absorb 2 3 rfl rfl (by decide)
    refine Zd v'11 rfl (Zb (Zaf (Za (Zl (Zd (.n v) q'3_5 ?_)))))
    obtain ⟨c'10,hp⟩:=Zg hp
    refine Ze (zu (a:=v) (b:=1) rfl rfl c'10) (Zd (.n (v + 1)) rfl (Zb ?_))
    cases hp
    exact (Or.inl ⟨(in_2,out++[p1],v + 1),rfl,rfl,v'11,vs'2++[v'7],q'3_0,q'3_3,rfl,rfl,(hO'15.pick [0,1,2] rfl (by decide))⟩)
  ·refine zG (t:=(decide (v < (l.length:Int)))) rfl b'1 ?_
   refine ZaZ (zN ?_)
   cases hp
   refine (Or.inr ⟨out,rfl,(fun h=>nomatch h),(fun he=>?_)⟩)
   subst he; exact ⟨rfl,v'3,vs'2,q'2_4,(hO'5.pick [1,2] rfl (by decide))⟩
 intro e'1 q'1 k'2 hJ'1
 obtain ⟨out1,rfl⟩:∃ x,x = o'1:=⟨_,rfl⟩
 obtain ⟨rfl,v'4,vs'3,q'1_4,hO'2⟩:=hJ'1
 refine Zax (Za (Zf (Zl (Zd v'4 q'1_4 (Zd v'4 rfl (Zb (Za ?_)))))))
 refine Zav (zF (Zap (n:=2) (v:=v'4) rfl zk) ?_)
 cases hp
 exact ⟨v'4,vs'3,rfl,(hO'2.pick [0,1] rfl (by decide))⟩

theorem zK.ok {h:Hp} {l:List Zc} {d:Zw} {v_l:V} (s_l:Sl Zh h v_l l) {r:Zw} (hp:zK l d = some r) :
  ∃ u k',Is G 202 [v_l,.ag (Zm.c d)] h u k'∧V.ag (Zm.c r) = u∧Own (fun r=>r < h.n) h k' []:=by
 refine WC.is (ZaQ Zcr ?_)
 unfold zK at hp
 let B:Nat→Prop:=(fun r=>r < h.n)
 have hO:Own B h h []:=Own.start0 h
 refine Zf (Zl (zA (hO.boxd (v:=.ag (Zm.c d)) (cs:=Zm.c d) hO.fr rfl rfl) ?_))
 rintro _ k'1 ⟨r'1,rfl,n'1,f'1,hW⟩
 have hO'1:=hW
 refine zA (hO'1.alloc (cs:=Zm.c (⟨0,0⟩:Zw)) hO'1.fr) ?_
 rintro _ k'2 ⟨r'2,rfl,n'2,f'2,hW⟩
 have hO'2:=hW
 refine Zb (Za (Zf (Zgs ?_)))
 have hW:=hO'2.bump 10
 have hO'3:=hW
 refine Za7 v_l rfl (zm rfl (zU (r:=r'1) (o:=0) (o':=0) rfl rfl) (zm rfl (zy (cs:=(Zm.c d)) (v:=.n d.Cell) (hO'3.box 0 rfl) rfl rfl) (zm rfl (zU (r:=r'1) (o:=0) (o':=1) rfl rfl) (zm rfl (zy (cs:=(Zm.c d)) (v:=.n d.Dir) (hO'3.box 0 rfl) rfl rfl) ?_))))
 obtain ⟨c'1,hp⟩:=Zg hp
 refine zm rfl (z3 (E:=Zh) (z:=d.Cell) (hO'3.rd0 s_l.rd) rfl rfl c'1) (zm rfl (ZaT (off':=0) (off2:=0) (hO'3.rd0 s_l.rd) (Zo c'1) rfl rfl) ?_)
 obtain ⟨c'2,hp⟩:=Zg hp
 refine zm rfl (ZaX (off:=0) (off2:=(0 + (d.Dir:Int).toNat * 1)) (z:=d.Dir) (hO'3.rd0 s_l.rd) (Zo c'1) rfl rfl c'2 rfl) (zm rfl (zO (w:=.n (((gi l (d.Cell:Int).toNat).Next).get d.Dir)) (hO'3.rd0 s_l.rd) rfl (Zo c'1) (Zaj c'2)) (Za7 (.n (((gi l (d.Cell:Int).toNat).Next).get d.Dir)) rfl (Za4 (Za (Zf (Zl (zA (hO'3.bsl (E:=zn) (l:=([1,0,3,2]:List Int)) hO'3.fr (by rw [(z9 (v:=.n 1) rfl (z9 (v:=.n 0) rfl (z9 (v:=.n 3) rfl (z9 (v:=.n 2) rfl ZaI))))]; rfl) rfl) ?_)))))))
 rintro v'1 k'4 ⟨r'3,f'3,hW⟩
 have hO'4:=hW
 refine Zd v'1 rfl (Zb (Za (Zf (Zf (Zl (Zd (.n 0) rfl (Zb ?_)))))))
 refine Za (Zae ?_)
 obtain ⟨o'1,ho'1,hp⟩:=Zp hp
 refine W.mono (Q:=fun e fr k=>match (generalizing:=false) o'1 with
   | .inl _=>e = (.exit 0)∧fr 3 = .p r'1 0∧fr 4 = .p r'2 0∧Own B h k [Zac r'1 (Zm.c d),Zac r'2 (Zm.c (⟨0,0⟩:Zw))]
   | .inr x=>e = .ret∧fr 4 = .p r'2 0∧Own B h k [Zac r'2 (Zm.c x)]) ?_ ?_
 ·clear hp
  refine zC (fun st fr k=>match st with | i=>fr 0 = v_l∧fr 3 = .p r'1 0∧fr 4 = .p r'2 0∧fr 5 = .n (((gi l (d.Cell:Int).toNat).Next).get d.Dir)∧fr 6 = v'1∧fr 7 = .n i∧Own B h k [Zac r'1 (Zm.c d),Zac r'2 (Zm.c (⟨0,0⟩:Zw)),eSl zn v'1 ([1,0,3,2]:List Int)]) ho'1 (s:=0) ⟨rfl,rfl,rfl,rfl,rfl,rfl,(hO'4.pick [0,1,2] rfl (by decide))⟩ ?_
  rintro i q'2 k'6 ⟨q'2_0,q'2_3,q'2_4,q'2_5,q'2_6,q'2_7,hO'6⟩ o'2 hp
  dsimp only [zK.s0] at hp
  refine Zf (Zf (Zl (Zd (.n i) q'2_7 (Ze (zJ (a:=i) (b:=4) rfl rfl) (Zb (Za ?_))))))
  rcases Zt hp with ⟨b'1,hp⟩ | ⟨b'1,hp⟩
  ·refine zH (t:=(decide (i < 4))) rfl b'1 ?_
   refine zM (Za (Zf (Zae (Zf (Zgs ?_)))))
   have hW:=hO'6.bump 9
   have hO'7:=hW
   refine zm rfl (zU (r:=r'1) (o:=0) (o':=1) q'2_3 rfl) (zm rfl (zy (cs:=(Zm.c d)) (v:=.n d.Dir) (hO'7.box 0 rfl) rfl rfl) (Za7 v'1 q'2_6 (Za7 (.n i) q'2_7 ?_)))
   obtain ⟨c'3,hp⟩:=Zg hp
   refine zm rfl (z3 (E:=zn) (z:=i) (hO'7.sl 2 rfl) rfl rfl c'3) (zm rfl (zO (w:=.n (gi ([1,0,3,2]:List Int) i.toNat)) (hO'7.sl 2 rfl) rfl (Zo c'3) rfl) ?_)
   obtain ⟨c'4,hp⟩:=Zg hp
   refine zm rfl (zu (a:=d.Dir) (b:=(gi ([1,0,3,2]:List Int) i.toNat)) rfl rfl c'4) (zm rfl (ZbJ (a:=(d.Dir + (gi ([1,0,3,2]:List Int) i.toNat))) (b:=4) rfl rfl (by decide)) (Za7 (.n ((d.Dir + (gi ([1,0,3,2]:List Int) i.toNat)).tmod 4)) rfl (Za4 (Za (Zf (Zl (Zd v_l q'2_0 ?_)))))))
   refine Zd (.n (((gi l (d.Cell:Int).toNat).Next).get d.Dir)) q'2_5 (Zd (.n ((d.Dir + (gi ([1,0,3,2]:List Int) i.toNat)).tmod 4)) rfl ?_)
   obtain ⟨c'5,hp⟩:=Zg hp
   refine Ze (z3 (E:=Zh) (z:=(((gi l (d.Cell:Int).toNat).Next).get d.Dir)) (hO'7.rd0 s_l.rd) rfl rfl c'5) (Ze (ZaT (off':=0) (off2:=0) (hO'7.rd0 s_l.rd) (Zo c'5) rfl rfl) ?_)
   obtain ⟨c'6,hp⟩:=Zg hp
   refine Ze (ZaX (off:=0) (off2:=(0 + ((d.Dir + (gi ([1,0,3,2]:List Int) i.toNat)).tmod 4:Int).toNat * 1)) (z:=((d.Dir + (gi ([1,0,3,2]:List Int) i.toNat)).tmod 4)) (hO'7.rd0 s_l.rd) (Zo c'5) rfl rfl c'6 rfl) (Ze (zO (w:=.n (((gi l (((gi l (d.Cell:Int).toNat).Next).get d.Dir:Int).toNat).Next).get ((d.Dir + (gi ([1,0,3,2]:List Int) i.toNat)).tmod 4))) (hO'7.rd0 s_l.rd) rfl (Zo c'5) (Zaj c'6)) (Ze (Zcl (a:=(((gi l (((gi l (d.Cell:Int).toNat).Next).get d.Dir:Int).toNat).Next).get ((d.Dir + (gi ([1,0,3,2]:List Int) i.toNat)).tmod 4))) (b:=0) rfl rfl) (Zb (Za ?_))))
   rcases Zt hp with ⟨b'2,hp⟩ | ⟨b'2,hp⟩
   ·refine zH (t:=(decide (0≤(((gi l (((gi l (d.Cell:Int).toNat).Next).get d.Dir:Int).toNat).Next).get ((d.Dir + (gi ([1,0,3,2]:List Int) i.toNat)).tmod 4))))) rfl b'2 ?_
    refine Zf (Zl (Zd (.n (((gi l (d.Cell:Int).toNat).Next).get d.Dir)) q'2_5 (Zd (.n ((d.Dir + (gi ([1,0,3,2]:List Int) i.toNat)).tmod 4)) rfl (Ze (ZcG (cs:=Zm.c (⟨((gi l (d.Cell:Int).toNat).Next).get d.Dir,(d.Dir + (gi ([1,0,3,2]:List Int) i.toNat)).tmod 4⟩:Zw)) (by rw [(z9 (v:=.n (((gi l (d.Cell:Int).toNat).Next).get d.Dir)) rfl (z9 (v:=.n ((d.Dir + (gi ([1,0,3,2]:List Int) i.toNat)).tmod 4)) rfl ZaI))]; rfl)) (zA (hO'7.stb (ws:=Zm.c (⟨((gi l (d.Cell:Int).toNat).Next).get d.Dir,(d.Dir + (gi ([1,0,3,2]:List Int) i.toNat)).tmod 4⟩:Zw)) (cs':=Zm.c (⟨((gi l (d.Cell:Int).toNat).Next).get d.Dir,(d.Dir + (gi ([1,0,3,2]:List Int) i.toNat)).tmod 4⟩:Zw)) (v:=.ag (Zm.c (⟨((gi l (d.Cell:Int).toNat).Next).get d.Dir,(d.Dir + (gi ([1,0,3,2]:List Int) i.toNat)).tmod 4⟩:Zw))) 1 rfl q'2_4 rfl rfl ⟨rfl,Nat.le_of_ble_eq_true rfl,rfl⟩ rfl) ?_)))))
    rintro _ k'8 ⟨rfl,f'4,m'1,hW⟩
    have hO'8:=hW
    refine Zb (Za (Zav (Zbs (zI ?_))))
    cases hp
    refine (Or.inr ⟨(.inr (⟨((gi l (d.Cell:Int).toNat).Next).get d.Dir,(d.Dir + (gi ([1,0,3,2]:List Int) i.toNat)).tmod 4⟩:Zw)),rfl,(fun h=>nomatch h),(fun he=>?_)⟩)
    subst he; exact ⟨rfl,q'2_4,(hO'8.pick [1] rfl (by decide))⟩
   ·refine zG (t:=(decide (0≤(((gi l (((gi l (d.Cell:Int).toNat).Next).get d.Dir:Int).toNat).Next).get ((d.Dir + (gi ([1,0,3,2]:List Int) i.toNat)).tmod 4))))) rfl b'2 ?_
    refine zM (Zaf (Za (Zl (Zd (.n i) q'2_7 ?_))))
    obtain ⟨c'7,hp⟩:=Zg hp
    refine Ze (zu (a:=i) (b:=1) rfl rfl c'7) (Zd (.n (i + 1)) rfl (Zb ?_))
    cases hp
    exact (Or.inl ⟨i + 1,rfl,rfl,q'2_0,q'2_3,q'2_4,q'2_5,q'2_6,rfl,(hO'7.pick [0,1,2] rfl (by decide))⟩)
  ·refine zG (t:=(decide (i < 4))) rfl b'1 ?_
   refine ZaZ (zN ?_)
   cases hp
   refine (Or.inr ⟨.inl (),rfl,(fun h=>nomatch h),(fun he=>?_)⟩)
   subst he; exact ⟨rfl,q'2_3,q'2_4,(hO'6.pick [0,1] rfl (by decide))⟩
 intro e'1 q'1 k'5 hJ'1
 rcases o'1 with _ | x
 ·obtain ⟨rfl,q'1_3,q'1_4,hO'5⟩:=hJ'1
  refine Zax (Za (Zf (Zl (Ze (ZaM (cs:=(Zm.c d)) (ws:=Zm.c d) (hO'5.box 0 rfl) q'1_3 rfl) (zA (hO'5.stb (ws:=Zm.c d) (cs':=Zm.c d) (v:=.ag (Zm.c d)) 1 rfl q'1_4 rfl rfl ⟨rfl,Nat.le_of_ble_eq_true rfl,rfl⟩ rfl) ?_)))))
  rintro _ k'9 ⟨rfl,f'5,m'2,hW⟩
  have hO'9:=hW
  refine Zb (Za (Zav (zF (Zhq (n:=4) (v:=.ag (Zm.c d)) (r:=r'2) q'1_4 (hO'9.box 1 rfl) rfl zk) ?_)))
  cases hp
  exact ⟨rfl,(hO'9.pick [] rfl (by decide))⟩
 ·obtain ⟨rfl,q'1_4,hO'5⟩:=hJ'1
  refine Zbs (zI (zF (Zhq (n:=4) (v:=.ag (Zm.c x)) (r:=r'2) q'1_4 (hO'5.box 0 rfl) rfl zk) ?_))
  cases hp
  exact ⟨rfl,(hO'5.pick [] rfl (by decide))⟩

theorem ZV.ok {h:Hp} {l:List Zc} {v_l:V} (s_l:Sl Zh h v_l l) {r:(List (List Zw))} (hp:ZV l = some r) :
  ∃ u k',Is G 177 [v_l] h u k'∧∃ (v'1:V),∃ (vs'1:List V),v'1 = u∧Own (fun r=>r < h.n) h k' [eSl eV v'1 vs'1,Zbt Zm vs'1 r]:=by
 refine WC.is (ZaQ Zc6 ?_)
 unfold ZV at hp
 let B:Nat→Prop:=(fun r=>r < h.n)
 have hO:Own B h h []:=Own.start0 h
 refine Zf (Zl (Zd (.sn) rfl (Zb (Za (Zf (Zl (Zd v_l rfl ?_)))))))
 refine Ze (Zao (hO.rd0 s_l.rd) rfl) ?_
 obtain ⟨c'1,hp⟩:=Zg hp
 refine Ze (Zfp (a:=4) (b:=(l.length:Int)) rfl rfl c'1) ?_
 obtain ⟨c'2,hp⟩:=Zg hp
 refine zA (hO.mks (E:=e_bool) (y:=false) (bytes:=1) (z:=(4 * (l.length:Int))) hO.fr rfl rfl rfl c'2 (by decide)) ?_
 rintro v'2 k'1 ⟨r'1,f'1,hW⟩
 have hO'1:=hW
 refine Zd v'2 rfl (Zb (Za (Zf (Zl (Zd (.sn) rfl (Zb (Za ?_)))))))
 refine Zf (Zf (Zl (Zd (.n 0) rfl (Zb (Za (Zae ?_))))))
 obtain ⟨o'1,ho'1,hp⟩:=Zp hp
 refine W.mono (Q:=fun e fr k=>match (generalizing:=false) o'1 with
   | out1=>e = (.exit 0)∧∃ (v'4:V),∃ (vs'3:List V),fr 4 = v'4∧Own B h k [eSl eV v'4 vs'3,Zbt Zm vs'3 out1]) ?_ ?_
 ·clear hp
  have hO'3:=hO'1.nil eV
  have hO'4:=hO'3.allNil Zm 0
  refine zC (fun st fr k=>match st with | (met,out,v)=>∃ (v'3:V),∃ (vs'2:List V),fr 0 = v_l∧fr 3 = v'2∧fr 4 = v'3∧fr 5 = .n v∧Own B h k [eSl e_bool v'2 met,eSl eV v'3 vs'2,Zbt Zm vs'2 out]) ho'1 (s:=(List.replicate (4 * (l.length:Int):Int).toNat false,([]:List (List Zw)),0)) ⟨V.sn,[],rfl,rfl,rfl,rfl,(hO'4.pick [0,1,2] rfl (by decide))⟩ ?_
  rintro ⟨met,out,v⟩ q'2 k'3 ⟨v'3,vs'2,q'2_0,q'2_3,q'2_4,q'2_5,hO'5⟩ o'2 hp
  dsimp only [ZV.s0] at hp
  refine Zf (Zf (Zl (Zd (.n v) q'2_5 (Zd v_l q'2_0 (Ze (Zao (hO'5.rd0 s_l.rd) rfl) (Ze (zJ (a:=v) (b:=(l.length:Int)) rfl rfl) (Zb ?_)))))))
  refine Za ?_
  rcases Zt hp with ⟨b'1,hp⟩ | ⟨b'1,hp⟩
  ·refine zH (t:=(decide (v < (l.length:Int)))) rfl b'1 ?_
   refine zM (Za (Zf (Zae (Zf (Zl (Zd (.n 0) rfl (Zb ?_)))))))
   refine Za (Zae ?_)
   obtain ⟨o'3,ho'2,hp⟩:=Zp hp
   refine W.mono (Q:=fun e fr k=>match (generalizing:=false) o'3 with
     | (met2,out3)=>e = (.exit 2)∧∃ (v'6:V),∃ (vs'5:List V),fr 0 = v_l∧fr 3 = v'2∧fr 4 = v'6∧fr 5 = .n v∧Own B h k [eSl e_bool v'2 met2,eSl eV v'6 vs'5,Zbt Zm vs'5 out3]) ?_ ?_
   ·clear hp
    refine zC (fun st fr k=>match st with | (met1,out2,e_)=>∃ (v'5:V),∃ (vs'4:List V),fr 0 = v_l∧fr 3 = v'2∧fr 4 = v'5∧fr 5 = .n v∧fr 6 = .n e_∧Own B h k [eSl e_bool v'2 met1,eSl eV v'5 vs'4,Zbt Zm vs'4 out2]) ho'2 (s:=(met,out,0)) ⟨v'3,vs'2,q'2_0,q'2_3,q'2_4,q'2_5,rfl,(hO'5.pick [0,1,2] rfl (by decide))⟩ ?_
    rintro ⟨met1,out2,e_⟩ q'4 k'5 ⟨v'5,vs'4,q'4_0,q'4_3,q'4_4,q'4_5,q'4_6,hO'7⟩ o'4 hp
    dsimp only [ZV.s1] at hp
    refine Zf (Zf (Zl (Zd (.n e_) q'4_6 (Ze (zJ (a:=e_) (b:=4) rfl rfl) (Zb (Za ?_))))))
    rcases Zt hp with ⟨b'2,hp⟩ | ⟨b'2,hp⟩
    ·refine zH (t:=(decide (e_ < 4))) rfl b'2 ?_
     refine zM (Za (Zf (Zae (Zf (Zf (Zl (Zd v_l q'4_0 ?_)))))))
     refine Zd (.n v) q'4_5 (Zd (.n e_) q'4_6 ?_)
     obtain ⟨c'3,hp⟩:=Zg hp
     refine Ze (z3 (E:=Zh) (z:=v) (hO'7.rd0 s_l.rd) rfl rfl c'3) (Ze (ZaT (off':=0) (off2:=0) (hO'7.rd0 s_l.rd) (Zo c'3) rfl rfl) ?_)
     obtain ⟨c'4,hp⟩:=Zg hp
     refine Ze (ZaX (off:=0) (off2:=(0 + e_.toNat * 1)) (z:=e_) (hO'7.rd0 s_l.rd) (Zo c'3) rfl rfl c'4 rfl) (Ze (zO (w:=.n (((gi l v.toNat).Next).get e_)) (hO'7.rd0 s_l.rd) rfl (Zo c'3) (Zaj c'4)) (Ze (zJ (a:=(((gi l v.toNat).Next).get e_)) (b:=0) rfl rfl) (Zd (.b (decide ((((gi l v.toNat).Next).get e_) < 0))) rfl ?_)))
     obtain ⟨t,hv'1,hp⟩:=Zp hp
     refine zT 8 (fun fr' k'=>k'5 = k'∧fr' 39 = .b t∧fr' 0 = v_l∧fr' 3 = v'2∧fr' 4 = v'5∧fr' 5 = .n v∧fr' 6 = .n e_) ?_ ?_
     ·clear hp; rcases Zt hv'1 with ⟨b'3,hp⟩ | ⟨b'3,hp⟩
      ·skip
       refine Zr rfl b'3 (Zr rfl b'3 (Zr rfl b'3 (Zr rfl b'3 (Zr rfl b'3 (Zr rfl b'3 (Zr rfl b'3 (Ze (zb (t:=(decide ((((gi l v.toNat).Next).get e_) < 0))) (v:=.b t) rfl b'3 (Eq.trans (b:=V.b true) rfl (congrArg V.b (Option.some.inj hp)))) ?_)))))))
       refine Zb ?_
       exact ⟨rfl,rfl,q'4_0,q'4_3,q'4_4,q'4_5,q'4_6⟩
      ·skip
       refine Z9 rfl b'3 (Zd v'2 q'4_3 (Z9 rfl b'3 (Zd (.n v) q'4_5 (Z9 rfl b'3 ?_))))
       obtain ⟨c'5,hp⟩:=Zg hp
       refine Ze (Zfp (a:=4) (b:=v) rfl rfl c'5) (Z9 rfl b'3 (Zd (.n e_) q'4_6 (Z9 rfl b'3 ?_)))
       obtain ⟨c'6,hp⟩:=Zg hp
       refine Ze (zu (a:=(4 * v)) (b:=e_) rfl rfl c'6) (Z9 rfl b'3 ?_)
       obtain ⟨c'7,hp⟩:=Zg hp
       refine Ze (z3 (E:=e_bool) (z:=((4 * v) + e_)) (hO'7.sl 0 rfl) rfl rfl c'7) (Z9 rfl b'3 (Ze (zO (w:=.b (gi met1 ((4 * v) + e_:Int).toNat)) (hO'7.sl 0 rfl) rfl (Zo c'7) rfl) (Ze (ZU (t:=(decide ((((gi l v.toNat).Next).get e_) < 0))) (v:=.b t) rfl b'3 (Eq.trans (b:=V.b (gi met1 ((4 * v) + e_:Int).toNat)) rfl (congrArg V.b (Option.some.inj hp)))) (Zb ?_))))
       exact ⟨rfl,rfl,q'4_0,q'4_3,q'4_4,q'4_5,q'4_6⟩
     rintro frg'1 _ ⟨rfl,g'1_39,g'1_0,g'1_3,g'1_4,g'1_5,g'1_6⟩
     refine Zb (Za ?_)
     rcases Zt hp with ⟨b'4,hp⟩ | ⟨b'4,hp⟩
     ·refine zH (t:=t) g'1_39 b'4 ?_
      refine ZaZ (zN (Zax (Za (Zl (Zd (.n e_) g'1_6 ?_)))))
      obtain ⟨c'8,hp⟩:=Zg hp
      refine Ze (zu (a:=e_) (b:=1) rfl rfl c'8) (Zd (.n (e_ + 1)) rfl (Zb ?_))
      cases hp
      exact (Or.inl ⟨(met1,out2,e_ + 1),rfl,rfl,v'5,vs'4,g'1_0,g'1_3,g'1_4,g'1_5,rfl,(hO'7.pick [0,1,2] rfl (by decide))⟩)
     ·refine zG (t:=t) g'1_39 b'4 ?_
      refine zM (Za (Zf (Zl (Zd (.sn) rfl (Zb (Za (Zf ?_)))))))
      refine Zl (Zd (.n v) g'1_5 (Zd (.n e_) g'1_6 (Ze (ZcG (cs:=Zm.c (⟨v,e_⟩:Zw)) (by rw [(z9 (v:=.n v) rfl (z9 (v:=.n e_) rfl ZaI))]; rfl)) (zA (hO'7.alloc (cs:=Zm.c (⟨0,0⟩:Zw)) hO'7.fr) ?_))))
      rintro _ k'6 ⟨r'2,rfl,n'1,f'2,hW⟩
      have hO'8:=hW
      refine zA (hO'8.stb (ws:=Zm.c (⟨v,e_⟩:Zw)) (cs':=Zm.c (⟨v,e_⟩:Zw)) (v:=.ag (Zm.c (⟨v,e_⟩:Zw))) 3 rfl rfl rfl rfl ⟨rfl,Nat.le_of_ble_eq_true rfl,rfl⟩ rfl) ?_
      rintro _ k'7 ⟨rfl,f'3,m'1,hW⟩
      have hO'9:=hW
      refine Zb (Za (Zf (Zae ?_)))
      obtain ⟨o'5,ho'3,hp⟩:=Zp hp
      refine W.mono (Q:=fun e fr k=>match (generalizing:=false) o'5 with
        | (met4,f1)=>e = (.exit 4)∧∃ (v'8:V),fr 0 = v_l∧fr 3 = v'2∧fr 4 = v'5∧fr 5 = .n v∧fr 6 = .n e_∧fr 7 = v'8∧Own B h k [eSl e_bool v'2 met4,eSl eV v'5 vs'4,Zbt Zm vs'4 out2,eSl Zm v'8 f1]) ?_ ?_
      ·clear hp
       have hO'11:=hO'9.nil Zm
       refine zC (fun st fr k=>match st with | (met3,f,d)=>∃ (v'7:V),fr 0 = v_l∧fr 3 = v'2∧fr 4 = v'5∧fr 5 = .n v∧fr 6 = .n e_∧fr 7 = v'7∧fr 8 = .p r'2 0∧Own B h k [eSl e_bool v'2 met3,eSl eV v'5 vs'4,Zbt Zm vs'4 out2,eSl Zm v'7 f,Zac r'2 (Zm.c d)]) ho'3 (s:=(met1,([]:List Zw),(⟨v,e_⟩:Zw))) ⟨V.sn,g'1_0,g'1_3,g'1_4,g'1_5,g'1_6,rfl,rfl,(hO'11.pick [0,1,2,4,3] rfl (by decide))⟩ ?_
       rintro ⟨met3,f,d⟩ q'6 k'9 ⟨v'7,q'6_0,q'6_3,q'6_4,q'6_5,q'6_6,q'6_7,q'6_8,hO'12⟩ o'6 hp
       dsimp only [ZV.s2] at hp
       refine Zf (Zf (Zl (Zd v'2 q'6_3 (Ze (zU (r:=r'2) (o:=0) (o':=0) q'6_8 rfl) (Ze (zy (cs:=(Zm.c d)) (v:=.n d.Cell) (hO'12.box 4 rfl) rfl rfl) ?_)))))
       obtain ⟨c'9,hp⟩:=Zg hp
       refine Ze (Zfp (a:=4) (b:=d.Cell) rfl rfl c'9) (Ze (zU (r:=r'2) (o:=0) (o':=1) q'6_8 rfl) (Ze (zy (cs:=(Zm.c d)) (v:=.n d.Dir) (hO'12.box 4 rfl) rfl rfl) ?_))
       obtain ⟨c'10,hp⟩:=Zg hp
       refine Ze (zu (a:=(4 * d.Cell)) (b:=d.Dir) rfl rfl c'10) ?_
       obtain ⟨c'11,hp⟩:=Zg hp
       refine Ze (z3 (E:=e_bool) (z:=((4 * d.Cell) + d.Dir)) (hO'12.sl 0 rfl) rfl rfl c'11) (Ze (zO (w:=.b (gi met3 ((4 * d.Cell) + d.Dir:Int).toNat)) (hO'12.sl 0 rfl) rfl (Zo c'11) rfl) (Ze (Zcb (t:=(gi met3 ((4 * d.Cell) + d.Dir:Int).toNat)) rfl) (Zb (Za ?_))))
       rcases Zt hp with ⟨b'5,hp⟩ | ⟨b'5,hp⟩
       ·refine zH (t:=(!(gi met3 ((4 * d.Cell) + d.Dir:Int).toNat))) rfl b'5 ?_
        refine zM (Za (Zae (Zf (Zl (Zd v'2 q'6_3 (Ze (zU (r:=r'2) (o:=0) (o':=0) q'6_8 rfl) (Ze (zy (cs:=(Zm.c d)) (v:=.n d.Cell) (hO'12.box 4 rfl) rfl rfl) ?_)))))))
        refine Ze (Zfp (a:=4) (b:=d.Cell) rfl rfl c'9) (Ze (zU (r:=r'2) (o:=0) (o':=1) q'6_8 rfl) (Ze (zy (cs:=(Zm.c d)) (v:=.n d.Dir) (hO'12.box 4 rfl) rfl rfl) (Ze (zu (a:=(4 * d.Cell)) (b:=d.Dir) rfl rfl c'10) (Ze (z3 (E:=e_bool) (z:=((4 * d.Cell) + d.Dir)) (hO'12.sl 0 rfl) rfl rfl c'11) (zA (hO'12.ste (E:=e_bool) (y:=true) (ws:=[.b true]) 0 rfl rfl (Zo c'11) rfl rfl ⟨rfl,Nat.le_of_ble_eq_true rfl,rfl⟩ rfl) ?_)))))
        rintro _ k'10 ⟨rfl,f'4,m'2,hW⟩
        have hO'13:=hW
        refine Zb (Za (Zf (Zl (Zd v'7 q'6_7 (Ze (ZaM (cs:=(Zm.c d)) (ws:=Zm.c d) (hO'13.box 4 rfl) q'6_8 rfl) (zA (hO'13.bsl (E:=Zm) (l:=[d]) hO'13.fr (by rw [(z9 (v:=.ag (Zm.c d)) rfl ZaI)]; rfl) rfl) ?_))))))
        rintro v'9 k'11 ⟨r'3,f'5,hW⟩
        have hO'14:=hW
        obtain ⟨c'12,hp⟩:=Zg hp
        refine zA (hO'14.app (E:=Zm) (bytes:=16) 3 hO'14.fr rfl (hO'14.sl 5 rfl) rfl rfl (fun _=>rfl) c'12 (by decide)) ?_
        rintro v'10 k'12 ⟨f'6,hW⟩
        have hO'15:=hW
        refine Zd v'10 rfl (Zb (Za (Zl (Zd v_l q'6_0 (Ze (ZaM (cs:=(Zm.c d)) (ws:=Zm.c d) (hO'15.box 4 rfl) q'6_8 rfl) ?_)))))
        obtain ⟨x,hx'1,hp⟩:=Zp hp
        obtain ⟨u'1,k'13,ca'1,rfl,hW'1⟩:=zK.ok (h:=k'12)  (hO'15.rd0 s_l.rd) hx'1
        refine Za8 (id:=202) (caps:=[]) rfl (Zx (v:=v_l) rfl (Zx (v:=.ag (Zm.c d)) rfl zo)) ca'1 ?_
        have hO'16:=hO'15.call hW'1 rfl
        refine zA (hO'16.stb (ws:=Zm.c x) (cs':=Zm.c x) (v:=.ag (Zm.c x)) 4 rfl q'6_8 rfl rfl ⟨rfl,Nat.le_of_ble_eq_true rfl,rfl⟩ rfl) ?_
        rintro _ k'14 ⟨rfl,f'7,m'3,hW⟩
        have hO'17:=hW
        refine Zb (Zaf ?_)
        cases hp
        exact (Or.inl ⟨(met3.set ((4 * d.Cell) + d.Dir:Int).toNat true,f++[d],x),rfl,rfl,v'10,q'6_0,q'6_3,q'6_4,q'6_5,q'6_6,rfl,q'6_8,(hO'17.pick [0,1,2,3,4] rfl (by decide))⟩)
       ·refine zG (t:=(!(gi met3 ((4 * d.Cell) + d.Dir:Int).toNat))) rfl b'5 ?_
        refine ZaZ (zN ?_)
        cases hp
        refine (Or.inr ⟨(met3,f),rfl,(fun h=>nomatch h),(fun he=>?_)⟩)
        subst he; exact ⟨rfl,v'7,q'6_0,q'6_3,q'6_4,q'6_5,q'6_6,q'6_7,(hO'12.pick [0,1,2,3] rfl (by decide))⟩
      intro e'3 q'5 k'8 hJ'3
      obtain ⟨met4,f1⟩:=o'5
      obtain ⟨rfl,v'8,q'5_0,q'5_3,q'5_4,q'5_5,q'5_6,q'5_7,hO'10⟩:=hJ'3
      refine Zax (Za (Zl (Zd v'5 q'5_4 (Zd v'8 q'5_7 (zA (hO'10.bsl (E:=eV) (l:=[v'8]) hO'10.fr (by rw [(z9 (v:=v'8) rfl ZaI)]; simp only [fill,(hO'10.sl 3 rfl).cells]; simp [over]) rfl) ?_)))))
      rintro v'11 k'15 ⟨r'4,f'8,hW⟩
      have hO'18:=hW
      obtain ⟨c'13,hp⟩:=Zg hp
      refine zA (hO'18.appV (bytes:=24) 1 hO'18.fr rfl (hO'18.sl 4 rfl) rfl rfl (by simp only [List.all_cons,List.all_nil,Bool.and_true]; exact (hO'18.sl 3 rfl).oneV) (by rw [(hO'18.allLen 2 rfl:(vs'4).length = (out2).length)]; exact c'13) (by decide)) ?_
      rintro v'12 k'16 ⟨f'9,hW⟩
      have hO'19:=hW
      have hO'20:=hO'19.absorb 2 3 rfl rfl (by decide)
      refine Zd v'12 rfl (Zb (Zaf (Za (Zl (Zd (.n e_) q'5_6 ?_)))))
      obtain ⟨c'14,hp⟩:=Zg hp
      refine Ze (zu (a:=e_) (b:=1) rfl rfl c'14) (Zd (.n (e_ + 1)) rfl (Zb ?_))
      cases hp
      exact (Or.inl ⟨(met4,out2++[f1],e_ + 1),rfl,rfl,v'12,vs'4++[v'8],q'5_0,q'5_3,rfl,q'5_5,rfl,(hO'20.pick [0,1,2] rfl (by decide))⟩)
    ·refine zG (t:=(decide (e_ < 4))) rfl b'2 ?_
     refine ZaZ (zN ?_)
     cases hp
     refine (Or.inr ⟨(met1,out2),rfl,(fun h=>nomatch h),(fun he=>?_)⟩)
     subst he; exact ⟨rfl,v'5,vs'4,q'4_0,q'4_3,q'4_4,q'4_5,(hO'7.pick [0,1,2] rfl (by decide))⟩
   intro e'2 q'3 k'4 hJ'2
   obtain ⟨met2,out3⟩:=o'3
   obtain ⟨rfl,v'6,vs'5,q'3_0,q'3_3,q'3_4,q'3_5,hO'6⟩:=hJ'2
   refine Zax (Zaf (Za (Zl (Zd (.n v) q'3_5 ?_))))
   obtain ⟨c'15,hp⟩:=Zg hp
   refine Ze (zu (a:=v) (b:=1) rfl rfl c'15) (Zd (.n (v + 1)) rfl (Zb ?_))
   cases hp
   exact (Or.inl ⟨(met2,out3,v + 1),rfl,rfl,v'6,vs'5,q'3_0,q'3_3,q'3_4,rfl,(hO'6.pick [0,1,2] rfl (by decide))⟩)
  ·refine zG (t:=(decide (v < (l.length:Int)))) rfl b'1 ?_
   refine ZaZ (zN ?_)
   cases hp
   refine (Or.inr ⟨out,rfl,(fun h=>nomatch h),(fun he=>?_)⟩)
   subst he; exact ⟨rfl,v'3,vs'2,q'2_4,(hO'5.pick [1,2] rfl (by decide))⟩
 intro e'1 q'1 k'2 hJ'1
 obtain ⟨out1,rfl⟩:∃ x,x = o'1:=⟨_,rfl⟩
 obtain ⟨rfl,v'4,vs'3,q'1_4,hO'2⟩:=hJ'1
 refine Zax (Za (Zf (Zl (Zd v'4 q'1_4 (Zd v'4 rfl (Zb (Za ?_)))))))
 refine Zav (zF (Zap (n:=2) (v:=v'4) rfl zk) ?_)
 cases hp
 exact ⟨v'4,vs'3,rfl,(hO'2.pick [0,1] rfl (by decide))⟩

theorem ZaL.ok {h:Hp} {d:Int}   {r:Bool} (hp:ZaL d = some r) :
  ∃ u k',Is G 223 [.n d] h u k'∧V.b r = u∧Own (fun r=>r < h.n) h k' []:=by
 refine WC.is (ZaQ ZcK ?_)
 unfold ZaL at hp
 let B:Nat→Prop:=(fun r=>r < h.n)
 have hO:Own B h h []:=Own.start0 h
 refine Zf (Zl (Zd (.b false) rfl (Zb (Za (Zf (Zl (Zd (.n d) rfl ?_)))))))
 refine Ze (Zcl (a:=d) (b:=0) rfl rfl) (Zd (.b (decide (0≤d))) rfl ?_)
 refine zT 3 (fun fr' k'=>h = k'∧fr' 8 = .b ((decide (0≤d)) && (decide (d≤3)))) ?_ ?_
 ·rcases bc (decide (0≤d)) with b'1 | b'1
  ·skip
   refine Z9 rfl b'1 (Zd (.n d) rfl (Z9 rfl b'1 (Ze (Zh3 (a:=d) (b:=3) rfl rfl) (Ze (zb (t:=(decide (0≤d))) (v:=.b ((decide (0≤d)) && (decide (d≤3)))) rfl b'1 (Eq.trans (b:=V.b (decide (d≤3))) rfl (Zb8 b'1))) (Zb ?_)))))
   exact ⟨rfl,rfl⟩
  ·skip
   refine Zr rfl b'1 (Zr rfl b'1 (Ze (ZU (t:=(decide (0≤d))) (v:=.b ((decide (0≤d)) && (decide (d≤3)))) rfl b'1 (Eq.trans (b:=V.b false) rfl (Zby b'1))) (Zb ?_)))
   exact ⟨rfl,rfl⟩
 rintro frg'1 _ ⟨rfl,g'1_8⟩
 refine Zd (.b ((decide (0≤d)) && (decide (d≤3)))) g'1_8 (Zb (Za (Zav (zF (Zap (n:=2) (v:=.b ((decide (0≤d)) && (decide (d≤3)))) rfl zk) ?_))))
 cases hp
 exact ⟨rfl,(hO.pick [] rfl (by decide))⟩

theorem Zbj.ok {h:Hp} {d:Int} {times:Int}   {r:Int} (hp:Zbj d times = some r) :
  ∃ u k',Is G 224 [.n d,.n times] h u k'∧V.n r = u∧Own (fun r=>r < h.n) h k' []:=by
 refine WC.is (ZaQ ZcL ?_)
 unfold Zbj at hp
 let B:Nat→Prop:=(fun r=>r < h.n)
 have hO:Own B h h []:=Own.start0 h
 refine Zf (Zl (Zd (.n 0) rfl (Zb (Za (Zf (Zl (Zd (.n d) rfl ?_)))))))
 obtain ⟨x,hx'1,hp⟩:=Zp hp
 obtain ⟨u'1,k'1,ca'1,rfl,hW'1⟩:=ZaL.ok (h:=h)   hx'1
 refine Za8 (id:=223) (caps:=[]) rfl (Zx (v:=.n d) rfl zo) ca'1 ?_
 have hO'1:=hO.call hW'1 rfl
 refine Zd (.b x) rfl (Zb (Za (Zf (Zf (Zl (Zd (.b x) rfl (Ze (Zcb (t:=x) rfl) ?_)))))))
 refine Zb (Za ?_)
 rcases Zt hp with ⟨b'1,hp⟩ | ⟨b'1,hp⟩
 ·refine zH (t:=(!x)) rfl b'1 ?_
  refine Zf (Zl (Zd (.n 0) rfl (Zb (Za (Zav (zI (zF (Zap (n:=4) (v:=.n 0) rfl zk) ?_)))))))
  cases hp
  exact ⟨rfl,(hO'1.pick [] rfl (by decide))⟩
 ·refine zG (t:=(!x)) rfl b'1 ?_
  refine zM (Za (Zf (Zl (Zd (.n times) rfl (Ze (ZbJ (a:=times) (b:=4) rfl rfl (by decide)) (Zd (.n (times.tmod 4)) rfl (Zb ?_)))))))
  refine Za (Zf (Zf (Zl (Zd (.n (times.tmod 4)) rfl (Ze (zJ (a:=(times.tmod 4)) (b:=0) rfl rfl) (Zb (Za ?_)))))))
  rcases Zt hp with ⟨b'2,hp⟩ | ⟨b'2,hp⟩
  ·refine zH (t:=(decide ((times.tmod 4) < 0))) rfl b'2 ?_
   refine Zl (Zd (.n (times.tmod 4)) rfl ?_)
   obtain ⟨c'1,hp⟩:=Zg hp
   refine Ze (zu (a:=(times.tmod 4)) (b:=4) rfl rfl c'1) (Zd (.n ((times.tmod 4) + 4)) rfl (Zb (Za (Zf (Zl (Zd (.n d) rfl (Zd (.n ((times.tmod 4) + 4)) rfl ?_)))))))
   obtain ⟨c'2,hp⟩:=Zg hp
   refine Ze (zu (a:=d) (b:=((times.tmod 4) + 4)) rfl rfl c'2) (Ze (ZbJ (a:=(d + ((times.tmod 4) + 4))) (b:=4) rfl rfl (by decide)) (Zd (.n ((d + ((times.tmod 4) + 4)).tmod 4)) rfl (Zb (Za (Zav (zF (Zap (n:=4) (v:=.n ((d + ((times.tmod 4) + 4)).tmod 4)) rfl zk) ?_))))))
   cases hp
   exact ⟨rfl,(hO'1.pick [] rfl (by decide))⟩
  ·refine zG (t:=(decide ((times.tmod 4) < 0))) rfl b'2 ?_
   refine zM (Za (Zf (Zl (Zd (.n d) rfl (Zd (.n (times.tmod 4)) rfl ?_)))))
   obtain ⟨c'3,hp⟩:=Zg hp
   refine Ze (zu (a:=d) (b:=(times.tmod 4)) rfl rfl c'3) (Ze (ZbJ (a:=(d + (times.tmod 4))) (b:=4) rfl rfl (by decide)) (Zd (.n ((d + (times.tmod 4)).tmod 4)) rfl (Zb (Za (Zav (zF (Zap (n:=4) (v:=.n ((d + (times.tmod 4)).tmod 4)) rfl zk) ?_))))))
   cases hp
   exact ⟨rfl,(hO'1.pick [] rfl (by decide))⟩

theorem Zbk.ok {h:Hp} {d:Int} {e_:Int}   {r:Int} (hp:Zbk d e_ = some r) :
  ∃ u k',Is G 207 [.n d,.n e_] h u k'∧V.n r = u∧Own (fun r=>r < h.n) h k' []:=by
 refine WC.is (ZaQ ZcM ?_)
 unfold Zbk at hp
 let B:Nat→Prop:=(fun r=>r < h.n)
 have hO:Own B h h []:=Own.start0 h
 refine Zf (Zl (Zd (.n 0) rfl (Zb (Za (Zf (Zl (Zd (.n d) rfl ?_)))))))
 obtain ⟨x,hx'1,hp⟩:=Zp hp
 obtain ⟨u'1,k'1,ca'1,rfl,hW'1⟩:=ZaL.ok (h:=h)   hx'1
 refine Za8 (id:=223) (caps:=[]) rfl (Zx (v:=.n d) rfl zo) ca'1 ?_
 have hO'1:=hO.call hW'1 rfl
 refine Zd (.b x) rfl (Zb (Za (Zf (Zl (Zd (.n e_) rfl ?_)))))
 obtain ⟨x1,hx'2,hp⟩:=Zp hp
 obtain ⟨u'2,k'2,ca'2,rfl,hW'2⟩:=ZaL.ok (h:=k'1)   hx'2
 refine Za8 (id:=223) (caps:=[]) rfl (Zx (v:=.n e_) rfl zo) ca'2 ?_
 have hO'2:=hO'1.call hW'2 rfl
 refine Zd (.b x1) rfl (Zb (Za (Zf (Zf (Zl (Zd (.b x) rfl (Ze (Zcb (t:=x) rfl) ?_)))))))
 refine Zd (.b (!x)) rfl ?_
 refine zT 3 (fun fr' k'=>k'2 = k'∧fr' 17 = .b ((!x) || (!x1))∧fr' 0 = .n d∧fr' 1 = .n e_) ?_ ?_
 ·rcases bc (!x) with b'1 | b'1
  ·skip
   refine Zr rfl b'1 (Zr rfl b'1 (Ze (zb (t:=(!x)) (v:=.b ((!x) || (!x1))) rfl b'1 (Eq.trans (b:=V.b true) rfl (Zbx b'1))) (Zb ?_)))
   exact ⟨rfl,rfl,rfl,rfl⟩
  ·skip
   refine Z9 rfl b'1 (Zd (.b x1) rfl (Z9 rfl b'1 (Ze (Zcb (t:=x1) rfl) (Ze (ZU (t:=(!x)) (v:=.b ((!x) || (!x1))) rfl b'1 (Eq.trans (b:=V.b (!x1)) rfl (ZbA b'1))) (Zb ?_)))))
   exact ⟨rfl,rfl,rfl,rfl⟩
 rintro frg'1 _ ⟨rfl,g'1_17,g'1_0,g'1_1⟩
 refine Zd (.b ((!x) || (!x1))) g'1_17 ?_
 refine zT 4 (fun fr' k'=>k'2 = k'∧fr' 22 = .b (((!x) || (!x1)) || (decide (d = e_)))∧fr' 0 = .n d∧fr' 1 = .n e_) ?_ ?_
 ·rcases bc ((!x) || (!x1)) with b'2 | b'2
  ·skip
   refine Zr rfl b'2 (Zr rfl b'2 (Zr rfl b'2 (Ze (zb (t:=((!x) || (!x1))) (v:=.b (((!x) || (!x1)) || (decide (d = e_)))) rfl b'2 (Eq.trans (b:=V.b true) rfl (Zbx b'2))) (Zb ?_))))
   exact ⟨rfl,rfl,g'1_0,g'1_1⟩
  ·skip
   refine Z9 rfl b'2 (Zd (.n d) g'1_0 (Z9 rfl b'2 (Zd (.n e_) g'1_1 (Z9 rfl b'2 (Ze (ZaS (a:=d) (b:=e_) rfl rfl) (Ze (ZU (t:=((!x) || (!x1))) (v:=.b (((!x) || (!x1)) || (decide (d = e_)))) rfl b'2 (Eq.trans (b:=V.b (decide (d = e_))) rfl (ZbA b'2))) (Zb ?_)))))))
   exact ⟨rfl,rfl,g'1_0,g'1_1⟩
 rintro frg'2 _ ⟨rfl,g'2_22,g'2_0,g'2_1⟩
 refine Zb (Za ?_)
 rcases Zt hp with ⟨b'3,hp⟩ | ⟨b'3,hp⟩
 ·refine zH (t:=(((!x) || (!x1)) || (decide (d = e_)))) g'2_22 b'3 ?_
  refine Zf (Zl (Zd (.n 0) rfl (Zb (Za (Zav (zI (zF (Zap (n:=4) (v:=.n 0) rfl zk) ?_)))))))
  cases hp
  exact ⟨rfl,(hO'2.pick [] rfl (by decide))⟩
 ·refine zG (t:=(((!x) || (!x1)) || (decide (d = e_)))) g'2_22 b'3 ?_
  refine zM (Za (Zf (Zl (Zd (.n d) g'2_0 ?_))))
  obtain ⟨x2,hx'3,hp⟩:=Zp hp
  obtain ⟨u'3,k'3,ca'3,rfl,hW'3⟩:=Zbj.ok (h:=k'2)   hx'3
  refine Za8 (id:=224) (caps:=[]) rfl (Zx (v:=.n d) rfl (Zx (v:=.n 1) rfl zo)) ca'3 ?_
  have hO'3:=hO'2.call hW'3 rfl
  refine Zd (.n x2) rfl (Zb (Za (Zf (Zf (Zl (Zd (.n x2) rfl (Zd (.n e_) g'2_1 ?_)))))))
  refine Ze (ZaS (a:=x2) (b:=e_) rfl rfl) (Zb (Za ?_))
  rcases Zt hp with ⟨b'4,hp⟩ | ⟨b'4,hp⟩
  ·refine zH (t:=(decide (x2 = e_))) rfl b'4 ?_
   refine Zf (Zl (Zd (.n 1) rfl (Zb (Za (Zav (zI (zF (Zap (n:=4) (v:=.n 1) rfl zk) ?_)))))))
   cases hp
   exact ⟨rfl,(hO'3.pick [] rfl (by decide))⟩
  ·refine zG (t:=(decide (x2 = e_))) rfl b'4 ?_
   refine zM (Za (Zf (Zl (Zd (.n d) g'2_0 ?_))))
   obtain ⟨x3,hx'4,hp⟩:=Zp hp
   obtain ⟨u'4,k'4,ca'4,rfl,hW'4⟩:=Zbj.ok (h:=k'3)   hx'4
   refine Za8 (id:=224) (caps:=[]) rfl (Zx (v:=.n d) rfl (Zx (v:=.n 3) rfl zo)) ca'4 ?_
   have hO'4:=hO'3.call hW'4 rfl
   refine Zd (.n x3) rfl (Zb (Za (Zf (Zf (Zl (Zd (.n x3) rfl (Zd (.n e_) g'2_1 ?_)))))))
   refine Ze (ZaS (a:=x3) (b:=e_) rfl rfl) (Zb (Za ?_))
   rcases Zt hp with ⟨b'5,hp⟩ | ⟨b'5,hp⟩
   ·refine zH (t:=(decide (x3 = e_))) rfl b'5 ?_
    refine Zf (Zl (Zd (.n (-1)) rfl (Zb (Za (Zav (zI (zF (Zap (n:=4) (v:=.n (-1)) rfl zk) ?_)))))))
    cases hp
    exact ⟨rfl,(hO'4.pick [] rfl (by decide))⟩
   ·refine zG (t:=(decide (x3 = e_))) rfl b'5 ?_
    refine zM (Za (Zf (Zl (Zd (.n (-2)) rfl (Zb (Za (Zav ?_)))))))
    refine zF (Zap (n:=4) (v:=.n (-2)) rfl zk) ?_
    cases hp
    exact ⟨rfl,(hO'4.pick [] rfl (by decide))⟩

theorem Zar.ok {h:Hp} {l:List Zc} {f:List Zw} {v_l:V} {v_f:V} (s_l:Sl Zh h v_l l) (s_f:Sl Zm h v_f f) {r:(List Int)} (hp:Zar l f = some r) :
  ∃ u k',Is G 182 [v_l,v_f] h u k'∧∃ (v'1:V),v'1 = u∧Own (fun r=>r < h.n) h k' [eSl zn v'1 r]:=by
 refine WC.is (ZaQ Zc7 ?_)
 unfold Zar at hp
 let B:Nat→Prop:=(fun r=>r < h.n)
 have hO:Own B h h []:=Own.start0 h
 refine Zf (Zl (Zd (.sn) rfl (Zb (Za (Zf (Zl (Zd (.sn) rfl ?_)))))))
 refine Zb (Za (Zf (Zf (Zl (Zd (.n 0) rfl (Zb (Za ?_)))))))
 refine Zae ?_
 obtain ⟨o'1,ho'1,hp⟩:=Zp hp
 refine W.mono (Q:=fun e fr k=>match (generalizing:=false) o'1 with
   | out1=>e = (.exit 0)∧∃ (v'3:V),fr 5 = v'3∧Own B h k [eSl zn v'3 out1]) ?_ ?_
 ·clear hp
  have hO'2:=hO.nil zn
  refine zC (fun st fr k=>match st with | (out,i)=>∃ (v'2:V),fr 0 = v_l∧fr 1 = v_f∧fr 5 = v'2∧fr 6 = .n i∧Own B h k [eSl zn v'2 out]) ho'1 (s:=(([]:List Int),0)) ⟨V.sn,rfl,rfl,rfl,rfl,(hO'2.pick [0] rfl (by decide))⟩ ?_
  rintro ⟨out,i⟩ q'2 k'2 ⟨v'2,q'2_0,q'2_1,q'2_5,q'2_6,hO'3⟩ o'2 hp
  dsimp only [Zar.s0] at hp
  refine Zf (Zf (Zl (Zd (.n i) q'2_6 (Zd v_f q'2_1 (Ze (Zao (hO'3.rd0 s_f.rd) rfl) (Ze (zJ (a:=i) (b:=(f.length:Int)) rfl rfl) (Zb ?_)))))))
  refine Za ?_
  rcases Zt hp with ⟨b'1,hp⟩ | ⟨b'1,hp⟩
  ·refine zH (t:=(decide (i < (f.length:Int)))) rfl b'1 ?_
   refine zM (Za (Zf (Zae (Zf (Zl (Zd v_l q'2_0 (Zd v_f q'2_1 ?_)))))))
   refine Zd (.n i) q'2_6 ?_
   obtain ⟨c'1,hp⟩:=Zg hp
   refine Ze (z3 (E:=Zm) (z:=i) (hO'3.rd0 s_f.rd) rfl rfl c'1) (Ze (Ze4 (E:=Zm) (hO'3.rd0 s_f.rd) rfl (Zo c'1)) ?_)
   obtain ⟨x,hx'1,hp⟩:=Zp hp
   obtain ⟨u'1,k'3,ca'1,rfl,hW'1⟩:=zK.ok (h:=k'2)  (hO'3.rd0 s_l.rd) hx'1
   refine Za8 (id:=202) (caps:=[]) rfl (Zx (v:=v_l) rfl (Zx (v:=.ag (Zm.c (gi f i.toNat))) rfl zo)) ca'1 ?_
   have hO'4:=hO'3.call hW'1 rfl
   refine zA (hO'4.alloc (cs:=Zm.c (⟨0,0⟩:Zw)) hO'4.fr) ?_
   rintro _ k'4 ⟨r'1,rfl,n'1,f'1,hW⟩
   have hO'5:=hW
   refine zA (hO'5.stb (ws:=Zm.c x) (cs':=Zm.c x) (v:=.ag (Zm.c x)) 1 rfl rfl rfl rfl ⟨rfl,Nat.le_of_ble_eq_true rfl,rfl⟩ rfl) ?_
   rintro _ k'5 ⟨rfl,f'2,m'1,hW⟩
   have hO'6:=hW
   refine Zb (Za (Zf (ZfN ?_)))
   have hW:=hO'6.bump 9
   have fr'1:=Fresh.start k'5 9
   have nb'1:∀ {i:Nat},h.n≤k'5.n + i:=Nat.le_trans hO'6.n (Nat.le_add_right _ _)
   have hO'7:=hW
   refine Zb7 v_f q'2_1 (Zb7 (.n i) q'2_6 (Zah (z3 (E:=Zm) (z:=i) (hO'7.rd0 s_f.rd) rfl rfl c'1) (Zah (ZaT (off':=0) (off2:=1) (hO'7.rd0 s_f.rd) (Zo c'1) rfl rfl) (Zah (zO (w:=.n ((gi f i.toNat).Dir)) (hO'7.rd0 s_f.rd) rfl (Zo c'1) rfl) (Zah (zU (r:=r'1) (o:=0) (o':=1) rfl rfl) (Zah (zy (cs:=(Zm.c x)) (v:=.n x.Dir) (hO'7.box 1 rfl) rfl rfl) ?_))))))
   obtain ⟨x1,hx'2,hp⟩:=Zp hp
   obtain ⟨u'2,k'7,ca'2,rfl,hW'2⟩:=Zbk.ok (h:=(k'5.bump 9))   hx'2
   refine Zig (id:=207) (caps:=[]) rfl (Zx (v:=.n ((gi f i.toNat).Dir)) rfl (Zx (v:=.n x.Dir) rfl zo)) ca'2 ?_
   have fr'2:=fr'1.call hW'2
   have hO'8:=hO'7.call hW'2 rfl
   refine Zb7 (.n x1) rfl (ZcC ?_)
   refine And.intro ?_ ?_
   ·intro q hq
    simp only [List.mem_cons,List.not_mem_nil,or_false] at hq
    rcases hq with rfl
    ·refine ZaG ?_ ?_
     ·exact (fun h=>nomatch h)
     ·exact (fun h=>nomatch h)
   refine Za (Zl (Zd v'2 q'2_5 (Zd (.n x1) rfl (zA (hO'8.bsl (E:=zn) (l:=[x1]) hO'8.fr (by rw [(z9 (v:=.n x1) rfl ZaI)]; rfl) rfl) ?_))))
   rintro v'4 k'8 ⟨r'2,f'3,hW⟩
   have hO'9:=hW
   obtain ⟨c'2,hp⟩:=Zg hp
   refine zA (hO'9.app (E:=zn) (bytes:=8) 0 hO'9.fr rfl (hO'9.sl 2 rfl) rfl rfl (fun _=>rfl) c'2 (by decide)) ?_
   rintro v'5 k'9 ⟨f'4,hW⟩
   have hO'10:=hW
   refine Zd v'5 rfl (Zb (Zaf (Za (Zl (Zd (.n i) q'2_6 ?_)))))
   obtain ⟨c'3,hp⟩:=Zg hp
   refine Ze (zu (a:=i) (b:=1) rfl rfl c'3) (Zd (.n (i + 1)) rfl (Zb ?_))
   cases hp
   exact (Or.inl ⟨(out++[x1],i + 1),rfl,rfl,v'5,q'2_0,q'2_1,rfl,rfl,(hO'10.pick [0] rfl (by decide))⟩)
  ·refine zG (t:=(decide (i < (f.length:Int)))) rfl b'1 ?_
   refine ZaZ (zN ?_)
   cases hp
   refine (Or.inr ⟨out,rfl,(fun h=>nomatch h),(fun he=>?_)⟩)
   subst he; exact ⟨rfl,v'2,q'2_5,(hO'3.pick [0] rfl (by decide))⟩
 intro e'1 q'1 k'1 hJ'1
 obtain ⟨out1,rfl⟩:∃ x,x = o'1:=⟨_,rfl⟩
 obtain ⟨rfl,v'3,q'1_5,hO'1⟩:=hJ'1
 refine Zax (Za (Zf (Zl (Zd v'3 q'1_5 (Zd v'3 rfl (Zb (Za ?_)))))))
 refine Zav (zF (Zap (n:=4) (v:=v'3) rfl zk) ?_)
 cases hp
 exact ⟨v'3,rfl,(hO'1.pick [0] rfl (by decide))⟩

theorem zX.ok {h:Hp} {t:List Int} {v_t:V} (s_t:Sl zn h v_t t) {r:Int} (hp:zX t = some r) :
  ∃ u k',Is G 206 [v_t] h u k'∧V.n r = u∧Own (fun r=>r < h.n) h k' []:=by
 refine WC.is (ZaQ Zca ?_)
 unfold zX at hp
 let B:Nat→Prop:=(fun r=>r < h.n)
 have hO:Own B h h []:=Own.start0 h
 refine Zf (Zl (Zd (.n 0) rfl (Zb (Za (Zf (Zl (Zd (.n 0) rfl ?_)))))))
 refine Zb (Za (Zf (Zf (Zl (Zd (.n 0) rfl (Zb (Za ?_)))))))
 refine Zae ?_
 obtain ⟨o'1,ho'1,hp⟩:=Zp hp
 refine W.mono (Q:=fun e fr k=>match (generalizing:=false) o'1 with
   | n1=>e = (.exit 0)∧fr 3 = .n n1∧Own B h k []) ?_ ?_
 ·clear hp
  refine zC (fun st fr k=>match st with | (n,i)=>fr 0 = v_t∧fr 3 = .n n∧fr 4 = .n i∧Own B h k []) ho'1 (s:=(0,0)) ⟨rfl,rfl,rfl,(hO.pick [] rfl (by decide))⟩ ?_
  rintro ⟨n,i⟩ q'2 k'2 ⟨q'2_0,q'2_3,q'2_4,hO'2⟩ o'2 hp
  dsimp only [zX.s0] at hp
  refine Zf (Zf (Zl (Zd (.n i) q'2_4 (Zd v_t q'2_0 (Ze (Zao (hO'2.rd0 s_t.rd) rfl) (Ze (zJ (a:=i) (b:=(t.length:Int)) rfl rfl) (Zb ?_)))))))
  refine Za ?_
  rcases Zt hp with ⟨b'1,hp⟩ | ⟨b'1,hp⟩
  ·refine zH (t:=(decide (i < (t.length:Int)))) rfl b'1 ?_
   refine zM (Za (Zf (Zae (Zf (Zl (Zd v_t q'2_0 (Zd (.n i) q'2_4 ?_)))))))
   obtain ⟨c'1,hp⟩:=Zg hp
   refine Ze (z3 (E:=zn) (z:=i) (hO'2.rd0 s_t.rd) rfl rfl c'1) (Ze (zO (w:=.n (gi t i.toNat)) (hO'2.rd0 s_t.rd) rfl (Zo c'1) rfl) (Ze (Zcl (a:=(gi t i.toNat)) (b:=(-2)) rfl rfl) (Zd (.b (decide ((-2)≤(gi t i.toNat)))) rfl ?_)))
   refine zT 6 (fun fr' k'=>k'2 = k'∧fr' 22 = .b ((decide ((-2)≤(gi t i.toNat))) && (decide ((gi t i.toNat)≤1)))∧fr' 0 = v_t∧fr' 3 = .n n∧fr' 4 = .n i) ?_ ?_
   ·rcases bc (decide ((-2)≤(gi t i.toNat))) with b'2 | b'2
    ·skip
     refine Z9 rfl b'2 (Zd v_t q'2_0 (Z9 rfl b'2 (Zd (.n i) q'2_4 (Z9 rfl b'2 (Ze (z3 (E:=zn) (z:=i) (hO'2.rd0 s_t.rd) rfl rfl c'1) (Z9 rfl b'2 (Ze (zO (w:=.n (gi t i.toNat)) (hO'2.rd0 s_t.rd) rfl (Zo c'1) rfl) ?_)))))))
     refine Z9 rfl b'2 (Ze (Zh3 (a:=(gi t i.toNat)) (b:=1) rfl rfl) (Ze (zb (t:=(decide ((-2)≤(gi t i.toNat)))) (v:=.b ((decide ((-2)≤(gi t i.toNat))) && (decide ((gi t i.toNat)≤1)))) rfl b'2 (Eq.trans (b:=V.b (decide ((gi t i.toNat)≤1))) rfl (Zb8 b'2))) (Zb ?_)))
     exact ⟨rfl,rfl,q'2_0,q'2_3,q'2_4⟩
    ·skip
     refine Zr rfl b'2 (Zr rfl b'2 (Zr rfl b'2 (Zr rfl b'2 (Zr rfl b'2 (Ze (ZU (t:=(decide ((-2)≤(gi t i.toNat)))) (v:=.b ((decide ((-2)≤(gi t i.toNat))) && (decide ((gi t i.toNat)≤1)))) rfl b'2 (Eq.trans (b:=V.b false) rfl (Zby b'2))) (Zb ?_))))))
     exact ⟨rfl,rfl,q'2_0,q'2_3,q'2_4⟩
   rintro frg'1 _ ⟨rfl,g'1_22,g'1_0,g'1_3,g'1_4⟩
   refine Zb (Za ?_)
   rcases Zt hp with ⟨b'3,hp⟩ | ⟨b'3,hp⟩
   ·refine zH (t:=((decide ((-2)≤(gi t i.toNat))) && (decide ((gi t i.toNat)≤1)))) g'1_22 b'3 ?_
    refine Zl (Zd (.n n) g'1_3 (Zd v_t g'1_0 (Zd (.n i) g'1_4 (Ze (z3 (E:=zn) (z:=i) (hO'2.rd0 s_t.rd) rfl rfl c'1) (Ze (zO (w:=.n (gi t i.toNat)) (hO'2.rd0 s_t.rd) rfl (Zo c'1) rfl) ?_)))))
    obtain ⟨c'2,hp⟩:=Zg hp
    refine Ze (zu (a:=n) (b:=(gi t i.toNat)) rfl rfl c'2) (Zd (.n (n + (gi t i.toNat))) rfl (Zb (Zaf (Za (Zl (Zd (.n i) g'1_4 ?_))))))
    obtain ⟨c'3,hp⟩:=Zg hp
    refine Ze (zu (a:=i) (b:=1) rfl rfl c'3) (Zd (.n (i + 1)) rfl (Zb ?_))
    cases hp
    exact (Or.inl ⟨(n + (gi t i.toNat),i + 1),rfl,rfl,g'1_0,rfl,rfl,(hO'2.pick [] rfl (by decide))⟩)
   ·refine zG (t:=((decide ((-2)≤(gi t i.toNat))) && (decide ((gi t i.toNat)≤1)))) g'1_22 b'3 ?_
    refine zM (Zaf (Za (Zl (Zd (.n i) g'1_4 ?_))))
    obtain ⟨c'4,hp⟩:=Zg hp
    refine Ze (zu (a:=i) (b:=1) rfl rfl c'4) (Zd (.n (i + 1)) rfl (Zb ?_))
    cases hp
    exact (Or.inl ⟨(n,i + 1),rfl,rfl,g'1_0,g'1_3,rfl,(hO'2.pick [] rfl (by decide))⟩)
  ·refine zG (t:=(decide (i < (t.length:Int)))) rfl b'1 ?_
   refine ZaZ (zN ?_)
   cases hp
   refine (Or.inr ⟨n,rfl,(fun h=>nomatch h),(fun he=>?_)⟩)
   subst he; exact ⟨rfl,q'2_3,(hO'2.pick [] rfl (by decide))⟩
 intro e'1 q'1 k'1 hJ'1
 obtain ⟨n1,rfl⟩:∃ x,x = o'1:=⟨_,rfl⟩
 obtain ⟨rfl,q'1_3,hO'1⟩:=hJ'1
 refine Zax (Za (Zf (Zl (Zd (.n n1) q'1_3 (Zd (.n n1) rfl (Zb (Za ?_)))))))
 refine Zav (zF (Zap (n:=2) (v:=.n n1) rfl zk) ?_)
 cases hp
 exact ⟨rfl,(hO'1.pick [] rfl (by decide))⟩

theorem Zan.ok {h:Hp} {l:List Zc} {v_l:V} (s_l:Sl Zh h v_l l) {r:Int × Int} (hp:Zan l = some r) :
  ∃ u k',Is G 181 [v_l] h u k'∧V.tu [.n r.1,.n r.2] = u∧Own (fun r=>r < h.n) h k' []:=by
 refine WC.is (ZaQ Zc9 ?_)
 unfold Zan at hp
 let B:Nat→Prop:=(fun r=>r < h.n)
 have hO:Own B h h []:=Own.start0 h
 refine Zf (Zl (Zd (.n 0) rfl (Zd (.n 0) rfl (Zb (Za (Zf (Zl ?_)))))))
 refine Zd v_l rfl ?_
 obtain ⟨x,hx'1,hp⟩:=Zp hp
 obtain ⟨u'1,k'1,ca'1,rfl,hW'1⟩:=zq.ok (h:=h)  (hO.rd0 s_l.rd) hx'1
 refine Za8 (id:=34) (caps:=[]) rfl (Zx (v:=v_l) rfl zo) ca'1 ?_
 have hO'1:=hO.call hW'1 rfl
 refine Zd (.n x) rfl (Zb (Za (Zf (Zf (Zl (Zd (.n x) rfl (Ze (ZbL (a:=x) (b:=0) rfl rfl) ?_)))))))
 refine Zb (Za ?_)
 rcases Zt hp with ⟨b'1,hp⟩ | ⟨b'1,hp⟩
 ·refine zH (t:=(!(decide (x = 0)))) rfl b'1 ?_
  refine Zf (Zl (Zd (.n x) rfl (Zd (.n (-1)) rfl (Zd (.n x) rfl (Zb (Za (Zav ?_)))))))
  refine zI (zF (Zap (n:=2) (v:=.n (-1)) rfl (Zap (n:=3) (v:=.n x) rfl zk)) ?_)
  cases hp
  exact ⟨rfl,(hO'1.pick [] rfl (by decide))⟩
 ·refine zG (t:=(!(decide (x = 0)))) rfl b'1 ?_
  refine zM (Za (Zf (Zl (Zd v_l rfl ?_))))
  obtain ⟨x1,hx'2,hp⟩:=Zp hp
  obtain ⟨u'2,k'2,ca'2,v'1,vs'1,rfl,hW'2⟩:=z4.ok (h:=k'1)  (hO'1.rd0 s_l.rd) hx'2
  refine Za8 (id:=30) (caps:=[]) rfl (Zx (v:=v_l) rfl zo) ca'2 ?_
  have hO'2:=hO'1.call hW'2 rfl
  refine Zd v'1 rfl (Zb (Za (Zf (Zf (Zl (Zd v'1 rfl (Ze (Zgu (n:=(x1).length) (hO'2.sl 0 rfl) (hO'2.allLen 1 rfl:(vs'1).length = (x1).length) rfl) ?_)))))))
  refine Ze (ZbL (a:=(x1.length:Int)) (b:=1) rfl rfl) (Zb (Za ?_))
  rcases Zt hp with ⟨b'2,hp⟩ | ⟨b'2,hp⟩
  ·refine zH (t:=(!(decide ((x1.length:Int) = 1)))) rfl b'2 ?_
   refine Zf (Zl (Zd (.n (-1)) rfl (Zd (.n 13) rfl (Zb (Za (Zav (zI ?_)))))))
   refine zF (Zap (n:=2) (v:=.n (-1)) rfl (Zap (n:=3) (v:=.n 13) rfl zk)) ?_
   cases hp
   exact ⟨rfl,(hO'2.pick [] rfl (by decide))⟩
  ·refine zG (t:=(!(decide ((x1.length:Int) = 1)))) rfl b'2 ?_
   refine zM (Za (Zf (Zf (Zl (Zd v_l rfl (Ze (Zao (hO'2.rd0 s_l.rd) rfl) (Ze (ZaS (a:=(l.length:Int)) (b:=1) rfl rfl) ?_)))))))
   refine Zb (Za ?_)
   rcases Zt hp with ⟨b'3,hp⟩ | ⟨b'3,hp⟩
   ·refine zH (t:=(decide ((l.length:Int) = 1))) rfl b'3 ?_
    refine Zf (Zl (Zd (.n (-1)) rfl (Zd (.n 0) rfl (Zb (Za (Zav (zI ?_)))))))
    refine zF (Zap (n:=2) (v:=.n (-1)) rfl (Zap (n:=3) (v:=.n 0) rfl zk)) ?_
    cases hp
    exact ⟨rfl,(hO'2.pick [] rfl (by decide))⟩
   ·refine zG (t:=(decide ((l.length:Int) = 1))) rfl b'3 ?_
    refine zM (Za (Zf (Zl (Zd v_l rfl ?_))))
    obtain ⟨x2,hx'3,hp⟩:=Zp hp
    obtain ⟨u'3,k'3,ca'3,v'2,vs'2,rfl,hW'3⟩:=ZV.ok (h:=k'2)  (hO'2.rd0 s_l.rd) hx'3
    refine Za8 (id:=177) (caps:=[]) rfl (Zx (v:=v_l) rfl zo) ca'3 ?_
    have hO'3:=hO'2.call hW'3 rfl
    refine Zd v'2 rfl (Zb (Za (Zf (Zl (Zd (.n (-1)) rfl (Zb (Za ?_)))))))
    refine Zf (Zf (Zl (Zd (.n 0) rfl (Zb (Za (Zae ?_))))))
    obtain ⟨o'1,ho'1,hp⟩:=Zp hp
    refine W.mono (Q:=fun e fr k=>match (generalizing:=false) o'1 with
      | .inl at_1=>e = (.exit 0)∧fr 7 = .n at_1∧Own B h k []
      | .inr _=>e = .ret∧fr 2 = .n (-1)∧fr 3 = .n 10∧Own B h k []) ?_ ?_
    ·clear hp
     refine zC (fun st fr k=>match st with | (at_,i)=>fr 0 = v_l∧fr 6 = v'2∧fr 7 = .n at_∧fr 8 = .n i∧Own B h k [eSl eV v'2 vs'2,Zbt Zm vs'2 x2]) ho'1 (s:=((-1),0)) ⟨rfl,rfl,rfl,rfl,(hO'3.pick [2,3] rfl (by decide))⟩ ?_
     rintro ⟨at_,i⟩ q'2 k'5 ⟨q'2_0,q'2_6,q'2_7,q'2_8,hO'5⟩ o'2 hp
     dsimp only [Zan.s0] at hp
     refine Zf (Zf (Zl (Zd (.n i) q'2_8 (Zd v'2 q'2_6 (Ze (Zgu (n:=(x2).length) (hO'5.sl 0 rfl) (hO'5.allLen 1 rfl:(vs'2).length = (x2).length) rfl) (Ze (zJ (a:=i) (b:=(x2.length:Int)) rfl rfl) (Zb ?_)))))))
     refine Za ?_
     rcases Zt hp with ⟨b'4,hp⟩ | ⟨b'4,hp⟩
     ·refine zH (t:=(decide (i < (x2.length:Int)))) rfl b'4 ?_
      refine zM (Za (Zf (Zae (Zf (Zl (Zd v_l q'2_0 (Zd v'2 q'2_6 ?_)))))))
      refine Zd (.n i) q'2_8 ?_
      obtain ⟨c'1,hp⟩:=Zg hp
      refine Ze (z3 (E:=eV) (z:=i) (hO'5.sl 0 rfl) rfl rfl (by rw [(hO'5.allLen 1 rfl:(vs'2).length = (x2).length)]; exact c'1)) (Ze (zO (w:=(gi vs'2 i.toNat)) (hO'5.sl 0 rfl) rfl (by rw [(hO'5.allLen 1 rfl:(vs'2).length = (x2).length)]; exact Zo c'1) rfl) ?_)
      obtain ⟨x3,hx'4,hp⟩:=Zp hp
      obtain ⟨u'4,k'6,ca'4,v'3,rfl,hW'4⟩:=Zar.ok (h:=k'5)  (hO'5.rd0 s_l.rd) (hO'5.inn 1 rfl (Zo c'1):Sl Zm k'5 (gi vs'2 i.toNat) (gi x2 i.toNat)) hx'4
      refine Za8 (id:=182) (caps:=[]) rfl (Zx (v:=v_l) rfl (Zx (v:=(gi vs'2 i.toNat)) rfl zo)) ca'4 ?_
      have hO'6:=hO'5.call hW'4 rfl
      refine Zd v'3 rfl (Zb (Za (Zf (Zl (Zd v'3 rfl ?_)))))
      obtain ⟨x4,hx'5,hp⟩:=Zp hp
      obtain ⟨u'5,k'7,ca'5,rfl,hW'5⟩:=zX.ok (h:=k'6)  (hO'6.sl 2 rfl) hx'5
      refine Za8 (id:=206) (caps:=[]) rfl (Zx (v:=v'3) rfl zo) ca'5 ?_
      have hO'7:=hO'6.call hW'5 rfl
      refine Zd (.n x4) rfl (Zb (Za (Zf (Zf (Zl (Zd (.n x4) rfl (Ze (ZbL (a:=x4) (b:=4) rfl rfl) ?_)))))))
      refine Zd (.b (!(decide (x4 = 4)))) rfl ?_
      refine zT 3 (fun fr' k'=>k'7 = k'∧fr' 45 = .b ((!(decide (x4 = 4))) && (!(decide (x4 = (-4)))))∧fr' 0 = v_l∧fr' 10 = .n x4∧fr' 6 = v'2∧fr' 7 = .n at_∧fr' 8 = .n i) ?_ ?_
      ·rcases bc (!(decide (x4 = 4))) with b'5 | b'5
       ·skip
        refine Z9 rfl b'5 (Zd (.n x4) rfl (Z9 rfl b'5 (Ze (ZbL (a:=x4) (b:=(-4)) rfl rfl) (Ze (zb (t:=(!(decide (x4 = 4)))) (v:=.b ((!(decide (x4 = 4))) && (!(decide (x4 = (-4)))))) rfl b'5 (Eq.trans (b:=V.b (!(decide (x4 = (-4))))) rfl (Zb8 b'5))) (Zb ?_)))))
        exact ⟨rfl,rfl,q'2_0,rfl,q'2_6,q'2_7,q'2_8⟩
       ·skip
        refine Zr rfl b'5 (Zr rfl b'5 (Ze (ZU (t:=(!(decide (x4 = 4)))) (v:=.b ((!(decide (x4 = 4))) && (!(decide (x4 = (-4)))))) rfl b'5 (Eq.trans (b:=V.b false) rfl (Zby b'5))) (Zb ?_)))
        exact ⟨rfl,rfl,q'2_0,rfl,q'2_6,q'2_7,q'2_8⟩
      rintro frg'1 _ ⟨rfl,g'1_45,g'1_0,g'1_10,g'1_6,g'1_7,g'1_8⟩
      refine Zd (.b ((!(decide (x4 = 4))) && (!(decide (x4 = (-4)))))) g'1_45 ?_
      refine zT 7 (fun fr' k'=>k'7 = k'∧fr' 53 = .b (((!(decide (x4 = 4))) && (!(decide (x4 = (-4))))) || ((decide (x4 = (-4))) && (decide (0≤at_))))∧fr' 0 = v_l∧fr' 10 = .n x4∧fr' 6 = v'2∧fr' 7 = .n at_∧fr' 8 = .n i) ?_ ?_
      ·rcases bc ((!(decide (x4 = 4))) && (!(decide (x4 = (-4))))) with b'6 | b'6
       ·skip
        refine Zr rfl b'6 (Zr rfl b'6 (Zr rfl b'6 (ZjL rfl (ZjL rfl (Zr rfl b'6 (Ze (zb (t:=((!(decide (x4 = 4))) && (!(decide (x4 = (-4)))))) (v:=.b (((!(decide (x4 = 4))) && (!(decide (x4 = (-4))))) || ((decide (x4 = (-4))) && (decide (0≤at_))))) rfl b'6 (Eq.trans (b:=V.b true) rfl (Zbx b'6))) (Zb ?_)))))))
        exact ⟨rfl,rfl,g'1_0,g'1_10,g'1_6,g'1_7,g'1_8⟩
       ·skip
        refine Z9 rfl b'6 (Zd (.n x4) g'1_10 (Z9 rfl b'6 (Ze (ZaS (a:=x4) (b:=(-4)) rfl rfl) (Z9 rfl b'6 (Zd (.b (decide (x4 = (-4)))) rfl ?_)))))
        refine zT 3 (fun fr' k'=>k'7 = k'∧fr' 52 = .b ((decide (x4 = (-4))) && (decide (0≤at_)))∧fr' 0 = v_l∧fr' 10 = .n x4∧fr' 46 = .b ((!(decide (x4 = 4))) && (!(decide (x4 = (-4)))))∧fr' 6 = v'2∧fr' 7 = .n at_∧fr' 8 = .n i) ?_ ?_
        ·rcases bc (decide (x4 = (-4))) with b'7 | b'7
         ·skip
          refine Z9 rfl b'7 (Zd (.n at_) g'1_7 (Z9 rfl b'7 (Ze (Zcl (a:=at_) (b:=0) rfl rfl) (Z9 rfl b'6 (Ze (zb (t:=(decide (x4 = (-4)))) (v:=.b ((decide (x4 = (-4))) && (decide (0≤at_)))) rfl b'7 (Eq.trans (b:=V.b (decide (0≤at_))) rfl (Zb8 b'7))) (Zb ?_))))))
          exact ⟨rfl,rfl,g'1_0,g'1_10,rfl,g'1_6,g'1_7,g'1_8⟩
         ·skip
          refine Zr rfl b'7 (Zr rfl b'7 (Z9 rfl b'6 (Ze (ZU (t:=(decide (x4 = (-4)))) (v:=.b ((decide (x4 = (-4))) && (decide (0≤at_)))) rfl b'7 (Eq.trans (b:=V.b false) rfl (Zby b'7))) (Zb ?_))))
          exact ⟨rfl,rfl,g'1_0,g'1_10,rfl,g'1_6,g'1_7,g'1_8⟩
        rintro frg'2 _ ⟨rfl,g'2_52,g'2_0,g'2_10,g'2_46,g'2_6,g'2_7,g'2_8⟩
        refine Ze (ZU (t:=((!(decide (x4 = 4))) && (!(decide (x4 = (-4)))))) (v:=.b (((!(decide (x4 = 4))) && (!(decide (x4 = (-4))))) || ((decide (x4 = (-4))) && (decide (0≤at_))))) g'2_46 b'6 (Eq.trans (b:=V.b ((decide (x4 = (-4))) && (decide (0≤at_)))) g'2_52 (ZbA b'6))) (Zb ?_)
        exact ⟨rfl,rfl,g'2_0,g'2_10,g'2_6,g'2_7,g'2_8⟩
      rintro frg'3 _ ⟨rfl,g'3_53,g'3_0,g'3_10,g'3_6,g'3_7,g'3_8⟩
      refine Zb (Za ?_)
      rcases Zt hp with ⟨b'8,hp⟩ | ⟨b'8,hp⟩
      ·refine zH (t:=(((!(decide (x4 = 4))) && (!(decide (x4 = (-4))))) || ((decide (x4 = (-4))) && (decide (0≤at_))))) g'3_53 b'8 ?_
       refine Zf (Zl (Zd (.n (-1)) rfl (Zd (.n 10) rfl (Zb (Za (Zav (zI ?_)))))))
       refine Zbs (zI ?_)
       cases hp
       refine (Or.inr ⟨.inr (),rfl,(fun h=>nomatch h),(fun he=>?_)⟩)
       subst he; exact ⟨rfl,rfl,rfl,(hO'7.pick [] rfl (by decide))⟩
      ·refine zG (t:=(((!(decide (x4 = 4))) && (!(decide (x4 = (-4))))) || ((decide (x4 = (-4))) && (decide (0≤at_))))) g'3_53 b'8 ?_
       refine zM (Za (Zf (Zl (Zd (.n x4) g'3_10 (Ze (ZaS (a:=x4) (b:=(-4)) rfl rfl) (Zb (Za ?_)))))))
       rcases Zt hp with ⟨b'9,hp⟩ | ⟨b'9,hp⟩
       ·refine zH (t:=(decide (x4 = (-4)))) rfl b'9 ?_
        refine Zl (Zd (.n i) g'3_8 (Zd (.n i) rfl (Zb (Zaf (Za (Zl (Zd (.n i) g'3_8 ?_)))))))
        obtain ⟨c'2,hp⟩:=Zg hp
        refine Ze (zu (a:=i) (b:=1) rfl rfl c'2) (Zd (.n (i + 1)) rfl (Zb ?_))
        cases hp
        exact (Or.inl ⟨(i,i + 1),rfl,rfl,g'3_0,g'3_6,rfl,rfl,(hO'7.pick [0,1] rfl (by decide))⟩)
       ·refine zG (t:=(decide (x4 = (-4)))) rfl b'9 ?_
        refine zM (Zaf (Za (Zl (Zd (.n i) g'3_8 ?_))))
        obtain ⟨c'3,hp⟩:=Zg hp
        refine Ze (zu (a:=i) (b:=1) rfl rfl c'3) (Zd (.n (i + 1)) rfl (Zb ?_))
        cases hp
        exact (Or.inl ⟨(at_,i + 1),rfl,rfl,g'3_0,g'3_6,g'3_7,rfl,(hO'7.pick [0,1] rfl (by decide))⟩)
     ·refine zG (t:=(decide (i < (x2.length:Int)))) rfl b'4 ?_
      refine ZaZ (zN ?_)
      cases hp
      refine (Or.inr ⟨.inl at_,rfl,(fun h=>nomatch h),(fun he=>?_)⟩)
      subst he; exact ⟨rfl,q'2_7,(hO'5.pick [] rfl (by decide))⟩
    intro e'1 q'1 k'4 hJ'1
    rcases o'1 with at_1 | _
    ·obtain ⟨rfl,q'1_7,hO'4⟩:=hJ'1
     refine Zax (Za (Zf (Zf (Zl (Zd (.n at_1) q'1_7 (Ze (zJ (a:=at_1) (b:=0) rfl rfl) (Zb ?_)))))))
     refine Za ?_
     rcases Zt hp with ⟨b'10,hp⟩ | ⟨b'10,hp⟩
     ·refine zH (t:=(decide (at_1 < 0))) rfl b'10 ?_
      refine Zf (Zl (Zd (.n (-1)) rfl (Zd (.n 10) rfl (Zb (Za (Zav (zI ?_)))))))
      refine zF (Zap (n:=2) (v:=.n (-1)) rfl (Zap (n:=3) (v:=.n 10) rfl zk)) ?_
      cases hp
      exact ⟨rfl,(hO'4.pick [] rfl (by decide))⟩
     ·refine zG (t:=(decide (at_1 < 0))) rfl b'10 ?_
      refine zM (Za (Zf (Zl (Zd (.n at_1) q'1_7 (Zd (.n at_1) rfl (Zd (.n 0) rfl (Zb ?_)))))))
      refine Za (Zav (zF (Zap (n:=2) (v:=.n at_1) rfl (Zap (n:=3) (v:=.n 0) rfl zk)) ?_))
      cases hp
      exact ⟨rfl,(hO'4.pick [] rfl (by decide))⟩
    ·obtain ⟨rfl,q'1_2,q'1_3,hO'4⟩:=hJ'1
     refine Zbs (zI (zF (Zap (n:=2) (v:=.n (-1)) q'1_2 (Zap (n:=3) (v:=.n 10) q'1_3 zk)) ?_))
     cases hp
     exact ⟨rfl,(hO'4.pick [] rfl (by decide))⟩

end Mu
