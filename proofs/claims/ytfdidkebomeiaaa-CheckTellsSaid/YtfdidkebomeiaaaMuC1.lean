/- The code comes to what was worked out. -/
import Derived.Test.YtfdidkebomeiaaaMuDf
import Derived.Test.YtfdidkebomeiaaaMuPa
import Derived.Test.YtfdidkebomeiaaaMuC0
set_option linter.unusedVariables false
set_option linter.unnecessarySimpa false
set_option linter.unusedSimpArgs false
set_option maxHeartbeats 2000000
set_option maxRecDepth 10000
namespace Mu
open Go (IntKind BinOp UnOp)
theorem zV.ok {h:Hp} {cells:List Ze} {v_cells:V} (s_cells:Sl Zn h v_cells cells) {r:Int} (hp:zV cells = some r) :
  ∃ u k',Is G 66 [v_cells] h u k'∧V.n r = u∧Own (fun r=>r < h.n) h k' []:=by
 refine WC.is (ZaM Zfe ?_)
 unfold zV at hp
 let B:Nat→Prop:=(fun r=>r < h.n)
 have hO:Own B h h []:=Own.start0 h
 refine Zh (Zk (Zd (.n 0) rfl (Zb (Za (Zh (Zh (Zk ?_)))))))
 refine Zd v_cells rfl (Zg (Zau (hO.rd0 s_cells.rd) rfl) (Zg (ZdP (a:=(cells.length:Int)) (b:=4096) rfl rfl) (Zb (Za ?_))))
 rcases Zp hp with ⟨b'1,hp⟩ | ⟨b'1,hp⟩
 ·refine zA (t:=(decide (4096 < (cells.length:Int)))) rfl b'1 ?_
  refine Zh (Zk (Zd (.n 6) rfl (Zb (Za (Zad (zk (zu (zG (n:=2) (v:=.n 6) rfl ZN) ?_)))))))
  cases hp
  exact ⟨rfl,(hO.pick [] rfl (by decide))⟩
 ·refine z7 (t:=(decide (4096 < (cells.length:Int)))) rfl b'1 ?_
  refine zD (Za (Zh (Zh (Zk (Zd v_cells rfl (Zg (Zau (hO.rd0 s_cells.rd) rfl) (Zd (.n 0) rfl ?_)))))))
  refine Zb (Za (Zaq ?_))
  obtain ⟨o'1,ho'1,hp⟩:=Zq hp
  refine W.mono (Q:=fun e fr k=>match (generalizing:=false) o'1 with
    | .inl _=>e = (.exit 0)∧Own B h k []
    | .inr x1=>e = .ret∧fr 2 = .n x1∧Own B h k []) ?_ ?_
  ·clear hp
   refine zP (fun st fr k=>match st with | x=>fr 0 = v_cells∧fr 10 = .n (cells.length:Int)∧fr 11 = .n x∧Own B h k []) ho'1 (s:=0) ⟨rfl,rfl,rfl,(hO.pick [] rfl (by decide))⟩ ?_
   rintro x q'2 k'2 ⟨q'2_0,q'2_10,q'2_11,hO'2⟩ o'2 hp
   dsimp only [zV.s0] at hp
   refine Zh (Zk (Zg (zN (a:=x) (b:=(cells.length:Int)) q'2_11 q'2_10) (Zb (Za (Zh ?_)))))
   rcases Zp hp with ⟨b'2,hp⟩ | ⟨b'2,hp⟩
   ·refine zA (t:=(decide (x < (cells.length:Int)))) rfl b'2 ?_
    refine zD (Za (Zh (Zaq (Zh (Zk (Zd (.n x) q'2_11 (Zd (.n x) rfl ?_)))))))
    refine Zb (Za (Zh (Zk (Zd (.n 0) rfl (Zb (Za (Zaq ?_)))))))
    obtain ⟨o'3,ho'2,hp⟩:=Zq hp
    refine W.mono (Q:=fun e fr k=>match (generalizing:=false) o'3 with
      | .inl _=>e = (.exit 2)∧fr 0 = v_cells∧fr 10 = .n (cells.length:Int)∧fr 11 = .n x∧Own B h k []
      | .inr x3=>e = .ret∧fr 2 = .n x3∧Own B h k []) ?_ ?_
    ·clear hp
     refine zP (fun st fr k=>match st with | x2=>fr 0 = v_cells∧fr 3 = .n x∧fr 10 = .n (cells.length:Int)∧fr 11 = .n x∧fr 14 = .n x2∧Own B h k []) ho'2 (s:=0) ⟨q'2_0,rfl,q'2_10,q'2_11,rfl,(hO'2.pick [] rfl (by decide))⟩ ?_
     rintro x2 q'4 k'4 ⟨q'4_0,q'4_3,q'4_10,q'4_11,q'4_14,hO'4⟩ o'4 hp
     dsimp only [zV.s1] at hp
     refine Zh (Zk (Zg (zN (a:=x2) (b:=4) q'4_14 rfl) (Zb (Za (Zh ?_)))))
     rcases Zp hp with ⟨b'3,hp⟩ | ⟨b'3,hp⟩
     ·refine zA (t:=(decide (x2 < 4))) rfl b'3 ?_
      refine zD (Za (Zh (Zaq (Zh (Zk (Zd (.n x2) q'4_14 (Zd (.n x2) rfl ?_)))))))
      refine Zb (Za (Zh (Zk (Zd v_cells q'4_0 (Zd (.n x) q'4_3 (Zd (.n x2) rfl ?_))))))
      obtain ⟨x4,hx'1,hp⟩:=Zq hp
      obtain ⟨u'1,k'5,ca'1,rfl,hW'1⟩:=ZcK.ok (h:=k'4)  (hO'4.rd0 s_cells.rd) hx'1
      refine Zbd (id:=82) (caps:=[]) rfl (Zu (v:=v_cells) rfl (Zu (v:=.n x) rfl (Zu (v:=.n x2) rfl zx))) ca'1 ?_
      have hO'5:=hO'4.call hW'1 rfl
      refine Zd (.n x4) rfl (Zb (Za (Zh (Zk (Zd (.n x4) rfl (Zg (Zck (a:=x4) (b:=0) rfl rfl) (Zb ?_)))))))
      refine Za ?_
      rcases Zp hp with ⟨b'4,hp⟩ | ⟨b'4,hp⟩
      ·refine zA (t:=(!(decide (x4 = 0)))) rfl b'4 ?_
       refine Zh (Zk (Zd (.n x4) rfl (Zd (.n x4) rfl (Zb (Za (Zad (ZaP ?_)))))))
       refine zk ?_
       cases hp
       refine (Or.inr ⟨.inr x4,rfl,(fun h=>nomatch h),(fun he=>?_)⟩)
       subst he; exact ⟨rfl,rfl,(hO'5.pick [] rfl (by decide))⟩
      ·refine z7 (t:=(!(decide (x4 = 0)))) rfl b'4 ?_
       refine zD (Zan (Za (Zk ?_)))
       obtain ⟨c'1,hp⟩:=Zj hp
       refine Zg (z6 (a:=x2) (b:=1) q'4_14 rfl c'1) (Zd (.n (x2 + 1)) rfl (Zb ?_))
       cases hp
       exact (Or.inl ⟨x2 + 1,rfl,rfl,q'4_0,q'4_3,q'4_10,q'4_11,rfl,(hO'5.pick [] rfl (by decide))⟩)
     ·refine z7 (t:=(decide (x2 < 4))) rfl b'3 ?_
      refine Zbv (zY ?_)
      cases hp
      refine (Or.inr ⟨.inl (),rfl,(fun h=>nomatch h),(fun he=>?_)⟩)
      subst he; exact ⟨rfl,q'4_0,q'4_10,q'4_11,(hO'4.pick [] rfl (by decide))⟩
    intro e'2 q'3 k'3 hJ'2
    rcases o'3 with _ | x3
    ·obtain ⟨rfl,q'3_0,q'3_10,q'3_11,hO'3⟩:=hJ'2
     refine ZaD (Zan (Za (Zk ?_)))
     obtain ⟨c'2,hp⟩:=Zj hp
     refine Zg (z6 (a:=x) (b:=1) q'3_11 rfl c'2) (Zd (.n (x + 1)) rfl (Zb ?_))
     cases hp
     exact (Or.inl ⟨x + 1,rfl,rfl,q'3_0,q'3_10,rfl,(hO'3.pick [] rfl (by decide))⟩)
    ·obtain ⟨rfl,q'3_2,hO'3⟩:=hJ'2
     refine ZaP (ZaP (zk ?_))
     cases hp
     refine (Or.inr ⟨.inr x3,rfl,(fun h=>nomatch h),(fun he=>?_)⟩)
     subst he; exact ⟨rfl,q'3_2,(hO'3.pick [] rfl (by decide))⟩
   ·refine z7 (t:=(decide (x < (cells.length:Int)))) rfl b'2 ?_
    refine Zbv (zY ?_)
    cases hp
    refine (Or.inr ⟨.inl (),rfl,(fun h=>nomatch h),(fun he=>?_)⟩)
    subst he; exact ⟨rfl,(hO'2.pick [] rfl (by decide))⟩
  intro e'1 q'1 k'1 hJ'1
  rcases o'1 with _ | x1
  ·obtain ⟨rfl,hO'1⟩:=hJ'1
   refine ZaD (Za (Zh (Zk (Zd (.n 0) rfl (Zb (Za (Zad ?_)))))))
   refine zu (zG (n:=2) (v:=.n 0) rfl ZN) ?_
   cases hp
   exact ⟨rfl,(hO'1.pick [] rfl (by decide))⟩
  ·obtain ⟨rfl,q'1_2,hO'1⟩:=hJ'1
   refine ZaP (zk (zu (zG (n:=2) (v:=.n x1) q'1_2 ZN) ?_))
   cases hp
   exact ⟨rfl,(hO'1.pick [] rfl (by decide))⟩

theorem Zdt.ok {h:Hp} {x:Int} {y:Int}   {r:Int × Int} (hp:Zdt x y = some r) :
  ∃ u k',Is G 98 [.i .u64 x,.i .u64 y] h u k'∧V.tu [.i .u64 r.1,.i .u64 r.2] = u∧Own (fun r=>r < h.n) h k' []:=by
 refine WC.is (ZaM ZeZ ?_)
 unfold Zdt at hp
 let B:Nat→Prop:=(fun r=>r < h.n)
 have hO:Own B h h []:=Own.start0 h
 refine Zh (Zk (Zd (.i .u64 0) rfl (Zd (.i .u64 0) rfl (Zb (Za (Zh (Zk ?_)))))))
 refine Zd (.i .u64 x) rfl (Zg (Ze6 (a:=x) (b:=4294967295) (v:=.i .u64 (Z6 .u64 x 4294967295)) rfl rfl (by decide) rfl) (Zd (.i .u64 (Z6 .u64 x 4294967295)) rfl (Zb (Za (Zh (Zk (Zd (.i .u64 x) rfl ?_)))))))
 refine Zg (Zfv (a:=x) (b:=32) (v:=.i .u64 (ZO .u64 x 32)) rfl rfl (by decide) (Zeg (by decide))) (Zd (.i .u64 (ZO .u64 x 32)) rfl (Zb (Za (Zh (Zk (Zd (.i .u64 y) rfl (Zg (Ze6 (a:=y) (b:=4294967295) (v:=.i .u64 (Z6 .u64 y 4294967295)) rfl rfl (by decide) rfl) ?_)))))))
 refine Zd (.i .u64 (Z6 .u64 y 4294967295)) rfl (Zb (Za (Zh (Zk (Zd (.i .u64 y) rfl (Zg (Zfv (a:=y) (b:=32) (v:=.i .u64 (ZO .u64 y 32)) rfl rfl (by decide) (Zeg (by decide))) (Zd (.i .u64 (ZO .u64 y 32)) rfl ?_)))))))
 refine Zb (Za (Zh (Zk (Zd (.i .u64 (Z6 .u64 x 4294967295)) rfl (Zd (.i .u64 (Z6 .u64 y 4294967295)) rfl (Zg (Ze6 (a:=(Z6 .u64 x 4294967295)) (b:=(Z6 .u64 y 4294967295)) (v:=.i .u64 (zg .u64 (Z6 .u64 x 4294967295) (Z6 .u64 y 4294967295))) rfl rfl (by decide) rfl) (Zd (.i .u64 (zg .u64 (Z6 .u64 x 4294967295) (Z6 .u64 y 4294967295))) rfl ?_)))))))
 refine Zb (Za (Zh (Zk (Zd (.i .u64 (ZO .u64 x 32)) rfl (Zd (.i .u64 (Z6 .u64 y 4294967295)) rfl (Zg (Ze6 (a:=(ZO .u64 x 32)) (b:=(Z6 .u64 y 4294967295)) (v:=.i .u64 (zg .u64 (ZO .u64 x 32) (Z6 .u64 y 4294967295))) rfl rfl (by decide) rfl) (Zd (.i .u64 (zg .u64 (Z6 .u64 x 4294967295) (Z6 .u64 y 4294967295))) rfl ?_)))))))
 refine Zg (Zfv (a:=(zg .u64 (Z6 .u64 x 4294967295) (Z6 .u64 y 4294967295))) (b:=32) (v:=.i .u64 (ZO .u64 (zg .u64 (Z6 .u64 x 4294967295) (Z6 .u64 y 4294967295)) 32)) rfl rfl (by decide) (Zeg (by decide))) (Zg (Ze6 (a:=(zg .u64 (ZO .u64 x 32) (Z6 .u64 y 4294967295))) (b:=(ZO .u64 (zg .u64 (Z6 .u64 x 4294967295) (Z6 .u64 y 4294967295)) 32)) (v:=.i .u64 (Zaw .u64 (zg .u64 (ZO .u64 x 32) (Z6 .u64 y 4294967295)) (ZO .u64 (zg .u64 (Z6 .u64 x 4294967295) (Z6 .u64 y 4294967295)) 32))) rfl rfl (by decide) rfl) (Zd (.i .u64 (Zaw .u64 (zg .u64 (ZO .u64 x 32) (Z6 .u64 y 4294967295)) (ZO .u64 (zg .u64 (Z6 .u64 x 4294967295) (Z6 .u64 y 4294967295)) 32))) rfl (Zb (Za (Zh (Zk (Zd (.i .u64 (Zaw .u64 (zg .u64 (ZO .u64 x 32) (Z6 .u64 y 4294967295)) (ZO .u64 (zg .u64 (Z6 .u64 x 4294967295) (Z6 .u64 y 4294967295)) 32))) rfl ?_)))))))
 refine Zg (Ze6 (a:=(Zaw .u64 (zg .u64 (ZO .u64 x 32) (Z6 .u64 y 4294967295)) (ZO .u64 (zg .u64 (Z6 .u64 x 4294967295) (Z6 .u64 y 4294967295)) 32))) (b:=4294967295) (v:=.i .u64 (Z6 .u64 (Zaw .u64 (zg .u64 (ZO .u64 x 32) (Z6 .u64 y 4294967295)) (ZO .u64 (zg .u64 (Z6 .u64 x 4294967295) (Z6 .u64 y 4294967295)) 32)) 4294967295)) rfl rfl (by decide) rfl) (Zd (.i .u64 (Z6 .u64 (Zaw .u64 (zg .u64 (ZO .u64 x 32) (Z6 .u64 y 4294967295)) (ZO .u64 (zg .u64 (Z6 .u64 x 4294967295) (Z6 .u64 y 4294967295)) 32)) 4294967295)) rfl (Zb (Za (Zh (Zk (Zd (.i .u64 (Zaw .u64 (zg .u64 (ZO .u64 x 32) (Z6 .u64 y 4294967295)) (ZO .u64 (zg .u64 (Z6 .u64 x 4294967295) (Z6 .u64 y 4294967295)) 32))) rfl (Zg (Zfv (a:=(Zaw .u64 (zg .u64 (ZO .u64 x 32) (Z6 .u64 y 4294967295)) (ZO .u64 (zg .u64 (Z6 .u64 x 4294967295) (Z6 .u64 y 4294967295)) 32))) (b:=32) (v:=.i .u64 (ZO .u64 (Zaw .u64 (zg .u64 (ZO .u64 x 32) (Z6 .u64 y 4294967295)) (ZO .u64 (zg .u64 (Z6 .u64 x 4294967295) (Z6 .u64 y 4294967295)) 32)) 32)) rfl rfl (by decide) (Zeg (by decide))) ?_)))))))
 refine Zd (.i .u64 (ZO .u64 (Zaw .u64 (zg .u64 (ZO .u64 x 32) (Z6 .u64 y 4294967295)) (ZO .u64 (zg .u64 (Z6 .u64 x 4294967295) (Z6 .u64 y 4294967295)) 32)) 32)) rfl (Zb (Za (Zh (Zk (Zd (.i .u64 (Z6 .u64 (Zaw .u64 (zg .u64 (ZO .u64 x 32) (Z6 .u64 y 4294967295)) (ZO .u64 (zg .u64 (Z6 .u64 x 4294967295) (Z6 .u64 y 4294967295)) 32)) 4294967295)) rfl (Zd (.i .u64 (Z6 .u64 x 4294967295)) rfl (Zd (.i .u64 (ZO .u64 y 32)) rfl ?_)))))))
 refine Zg (Ze6 (a:=(Z6 .u64 x 4294967295)) (b:=(ZO .u64 y 32)) (v:=.i .u64 (zg .u64 (Z6 .u64 x 4294967295) (ZO .u64 y 32))) rfl rfl (by decide) rfl) (Zg (Ze6 (a:=(Z6 .u64 (Zaw .u64 (zg .u64 (ZO .u64 x 32) (Z6 .u64 y 4294967295)) (ZO .u64 (zg .u64 (Z6 .u64 x 4294967295) (Z6 .u64 y 4294967295)) 32)) 4294967295)) (b:=(zg .u64 (Z6 .u64 x 4294967295) (ZO .u64 y 32))) (v:=.i .u64 (Zaw .u64 (Z6 .u64 (Zaw .u64 (zg .u64 (ZO .u64 x 32) (Z6 .u64 y 4294967295)) (ZO .u64 (zg .u64 (Z6 .u64 x 4294967295) (Z6 .u64 y 4294967295)) 32)) 4294967295) (zg .u64 (Z6 .u64 x 4294967295) (ZO .u64 y 32)))) rfl rfl (by decide) rfl) (Zd (.i .u64 (Zaw .u64 (Z6 .u64 (Zaw .u64 (zg .u64 (ZO .u64 x 32) (Z6 .u64 y 4294967295)) (ZO .u64 (zg .u64 (Z6 .u64 x 4294967295) (Z6 .u64 y 4294967295)) 32)) 4294967295) (zg .u64 (Z6 .u64 x 4294967295) (ZO .u64 y 32)))) rfl (Zb (Za (Zh (Zk (Zd (.i .u64 (ZO .u64 x 32)) rfl ?_)))))))
 refine Zd (.i .u64 (ZO .u64 y 32)) rfl (Zg (Ze6 (a:=(ZO .u64 x 32)) (b:=(ZO .u64 y 32)) (v:=.i .u64 (zg .u64 (ZO .u64 x 32) (ZO .u64 y 32))) rfl rfl (by decide) rfl) (Zd (.i .u64 (ZO .u64 (Zaw .u64 (zg .u64 (ZO .u64 x 32) (Z6 .u64 y 4294967295)) (ZO .u64 (zg .u64 (Z6 .u64 x 4294967295) (Z6 .u64 y 4294967295)) 32)) 32)) rfl (Zg (Ze6 (a:=(zg .u64 (ZO .u64 x 32) (ZO .u64 y 32))) (b:=(ZO .u64 (Zaw .u64 (zg .u64 (ZO .u64 x 32) (Z6 .u64 y 4294967295)) (ZO .u64 (zg .u64 (Z6 .u64 x 4294967295) (Z6 .u64 y 4294967295)) 32)) 32)) (v:=.i .u64 (Zaw .u64 (zg .u64 (ZO .u64 x 32) (ZO .u64 y 32)) (ZO .u64 (Zaw .u64 (zg .u64 (ZO .u64 x 32) (Z6 .u64 y 4294967295)) (ZO .u64 (zg .u64 (Z6 .u64 x 4294967295) (Z6 .u64 y 4294967295)) 32)) 32))) rfl rfl (by decide) rfl) (Zd (.i .u64 (Zaw .u64 (Z6 .u64 (Zaw .u64 (zg .u64 (ZO .u64 x 32) (Z6 .u64 y 4294967295)) (ZO .u64 (zg .u64 (Z6 .u64 x 4294967295) (Z6 .u64 y 4294967295)) 32)) 4294967295) (zg .u64 (Z6 .u64 x 4294967295) (ZO .u64 y 32)))) rfl (Zg (Zfv (a:=(Zaw .u64 (Z6 .u64 (Zaw .u64 (zg .u64 (ZO .u64 x 32) (Z6 .u64 y 4294967295)) (ZO .u64 (zg .u64 (Z6 .u64 x 4294967295) (Z6 .u64 y 4294967295)) 32)) 4294967295) (zg .u64 (Z6 .u64 x 4294967295) (ZO .u64 y 32)))) (b:=32) (v:=.i .u64 (ZO .u64 (Zaw .u64 (Z6 .u64 (Zaw .u64 (zg .u64 (ZO .u64 x 32) (Z6 .u64 y 4294967295)) (ZO .u64 (zg .u64 (Z6 .u64 x 4294967295) (Z6 .u64 y 4294967295)) 32)) 4294967295) (zg .u64 (Z6 .u64 x 4294967295) (ZO .u64 y 32))) 32)) rfl rfl (by decide) (Zeg (by decide))) (Zg (Ze6 (a:=(Zaw .u64 (zg .u64 (ZO .u64 x 32) (ZO .u64 y 32)) (ZO .u64 (Zaw .u64 (zg .u64 (ZO .u64 x 32) (Z6 .u64 y 4294967295)) (ZO .u64 (zg .u64 (Z6 .u64 x 4294967295) (Z6 .u64 y 4294967295)) 32)) 32))) (b:=(ZO .u64 (Zaw .u64 (Z6 .u64 (Zaw .u64 (zg .u64 (ZO .u64 x 32) (Z6 .u64 y 4294967295)) (ZO .u64 (zg .u64 (Z6 .u64 x 4294967295) (Z6 .u64 y 4294967295)) 32)) 4294967295) (zg .u64 (Z6 .u64 x 4294967295) (ZO .u64 y 32))) 32)) (v:=.i .u64 (Zaw .u64 (Zaw .u64 (zg .u64 (ZO .u64 x 32) (ZO .u64 y 32)) (ZO .u64 (Zaw .u64 (zg .u64 (ZO .u64 x 32) (Z6 .u64 y 4294967295)) (ZO .u64 (zg .u64 (Z6 .u64 x 4294967295) (Z6 .u64 y 4294967295)) 32)) 32)) (ZO .u64 (Zaw .u64 (Z6 .u64 (Zaw .u64 (zg .u64 (ZO .u64 x 32) (Z6 .u64 y 4294967295)) (ZO .u64 (zg .u64 (Z6 .u64 x 4294967295) (Z6 .u64 y 4294967295)) 32)) 4294967295) (zg .u64 (Z6 .u64 x 4294967295) (ZO .u64 y 32))) 32))) rfl rfl (by decide) rfl) (Zd (.i .u64 (Zaw .u64 (Zaw .u64 (zg .u64 (ZO .u64 x 32) (ZO .u64 y 32)) (ZO .u64 (Zaw .u64 (zg .u64 (ZO .u64 x 32) (Z6 .u64 y 4294967295)) (ZO .u64 (zg .u64 (Z6 .u64 x 4294967295) (Z6 .u64 y 4294967295)) 32)) 32)) (ZO .u64 (Zaw .u64 (Z6 .u64 (Zaw .u64 (zg .u64 (ZO .u64 x 32) (Z6 .u64 y 4294967295)) (ZO .u64 (zg .u64 (Z6 .u64 x 4294967295) (Z6 .u64 y 4294967295)) 32)) 4294967295) (zg .u64 (Z6 .u64 x 4294967295) (ZO .u64 y 32))) 32))) rfl ?_)))))))
 refine Zb (Za (Zh (Zk (Zd (.i .u64 x) rfl (Zd (.i .u64 y) rfl (Zg (Ze6 (a:=x) (b:=y) (v:=.i .u64 (zg .u64 x y)) rfl rfl (by decide) rfl) (Zd (.i .u64 (zg .u64 x y)) rfl ?_)))))))
 refine Zb (Za (Zad (zu (zG (n:=4) (v:=.i .u64 (Zaw .u64 (Zaw .u64 (zg .u64 (ZO .u64 x 32) (ZO .u64 y 32)) (ZO .u64 (Zaw .u64 (zg .u64 (ZO .u64 x 32) (Z6 .u64 y 4294967295)) (ZO .u64 (zg .u64 (Z6 .u64 x 4294967295) (Z6 .u64 y 4294967295)) 32)) 32)) (ZO .u64 (Zaw .u64 (Z6 .u64 (Zaw .u64 (zg .u64 (ZO .u64 x 32) (Z6 .u64 y 4294967295)) (ZO .u64 (zg .u64 (Z6 .u64 x 4294967295) (Z6 .u64 y 4294967295)) 32)) 4294967295) (zg .u64 (Z6 .u64 x 4294967295) (ZO .u64 y 32))) 32))) rfl (zG (n:=5) (v:=.i .u64 (zg .u64 x y)) rfl ZN)) ?_)))
 cases hp
 exact ⟨rfl,(hO.pick [] rfl (by decide))⟩

theorem Zda.ok {h:Hp} {x:Int} {y:Int}   {r:Int × Int} (hp:Zda x y = some r) :
  ∃ u k',Is G 89 [.i .u64 x,.i .u64 y] h u k'∧V.tu [.i .u64 r.1,.i .u64 r.2] = u∧Own (fun r=>r < h.n) h k' []:=by
 refine WC.is (ZaM ZfF ?_)
 unfold Zda at hp
 let B:Nat→Prop:=(fun r=>r < h.n)
 have hO:Own B h h []:=Own.start0 h
 refine Zh (Zk (Zd (.i .u64 0) rfl (Zd (.i .u64 0) rfl (Zb (Za (Zh (z7 (t:=false) rfl rfl ?_)))))))
 refine zD (Za (Zh (Zk (Zd (.i .u64 x) rfl (Zd (.i .u64 y) rfl ?_)))))
 obtain ⟨⟨x1,x2⟩,hx'1,hp⟩:=Zq hp
 obtain ⟨u'1,k'1,ca'1,rfl,hW'1⟩:=Zdt.ok (h:=h)   hx'1
 refine Zbd (id:=98) (caps:=[]) rfl (Zu (v:=.i .u64 x) rfl (Zu (v:=.i .u64 y) rfl zx)) ca'1 ?_
 have hO'1:=hO.call hW'1 rfl
 refine Zd (.tu [.i .u64 x1,.i .u64 x2]) rfl (Zg (Zb6 (vs:=[.i .u64 x1,.i .u64 x2]) (v:=.i .u64 x1) rfl rfl) (Zg (Zb6 (vs:=[.i .u64 x1,.i .u64 x2]) (v:=.i .u64 x2) rfl rfl) (Zd (.i .u64 x1) rfl (Zd (.i .u64 x2) rfl (Zb (Za (Zh ?_)))))))
 refine Zk (Zd (.i .u64 x1) rfl (Zd (.i .u64 x2) rfl (Zd (.i .u64 x1) rfl (Zd (.i .u64 x2) rfl (Zb (Za (Zad ?_)))))))
 refine zu (zG (n:=4) (v:=.i .u64 x1) rfl (zG (n:=5) (v:=.i .u64 x2) rfl ZN)) ?_
 cases hp
 exact ⟨rfl,(hO'1.pick [] rfl (by decide))⟩

theorem Zaf.ok {h:Hp} {x:List Int} {count:Int} {v_x:V} (s_x:Sl ZM h v_x x) {r:(List Int)} (hp:Zaf x count = some r) :
  ∃ u k',Is G 83 [v_x,.n count] h u k'∧∃ (v'1:V),v'1 = u∧Own (fun r=>r < h.n) h k' [eSl ZM v'1 r]:=by
 refine WC.is (ZaM Zd4 ?_)
 unfold Zaf at hp
 let B:Nat→Prop:=(fun r=>r < h.n)
 have hO:Own B h h []:=Own.start0 h
 refine Zh (Zk (Zd (.sn) rfl (Zb (Za (Zh (Zh (Zk ?_)))))))
 refine Zd (.n count) rfl (Zg (zN (a:=count) (b:=0) rfl rfl) (Zb (Za ?_)))
 obtain ⟨o'1,ho'1,hp⟩:=Zq hp
 refine W.mono (Q:=fun e fr k=>match (generalizing:=false) o'1 with
   | _=>e = .normal∧fr 0 = v_x∧fr 1 = .n count∧Own B h k []) ?_ ?_
 ·clear hp; have hp:=ho'1; clear ho'1
  rcases Zp hp with ⟨b'1,hp⟩ | ⟨b'1,hp⟩
  ·refine zA (t:=(decide (count < 0))) rfl b'1 ?_
   exact nomatch hp
  ·refine z7 (t:=(decide (count < 0))) rfl b'1 ?_
   refine zD ?_
   cases hp
   exact ⟨rfl,rfl,rfl,(hO.pick [] rfl (by decide))⟩
 intro e'1 q'1 k'1 hJ'1
 obtain ⟨rfl,q'1_0,q'1_1,hO'1⟩:=hJ'1
 refine Za (Zh (Zk (Zd v_x q'1_0 (Zg (Zau (hO'1.rd0 s_x.rd) rfl) ?_))))
 obtain ⟨c'1,hp⟩:=Zj hp
 refine Zg (Zfj (a:=(x.length:Int)) rfl c'1) (Zd (.n count) q'1_1 ?_)
 obtain ⟨c'2,hp⟩:=Zj hp
 refine Zg (Zfj (a:=count) rfl c'2) ?_
 obtain ⟨⟨x1,x2⟩,hx'1,hp⟩:=Zq hp
 obtain ⟨u'1,k'2,ca'1,rfl,hW'1⟩:=Zda.ok (h:=k'1)   hx'1
 refine Zbd (id:=89) (caps:=[]) rfl (Zu (v:=.i .u64 (x.length:Int)) rfl (Zu (v:=.i .u64 count) rfl zx)) ca'1 ?_
 have hO'2:=hO'1.call hW'1 rfl
 refine Zd (.tu [.i .u64 x1,.i .u64 x2]) rfl (Zg (Zb6 (vs:=[.i .u64 x1,.i .u64 x2]) (v:=.i .u64 x1) rfl rfl) (Zg (Zb6 (vs:=[.i .u64 x1,.i .u64 x2]) (v:=.i .u64 x2) rfl rfl) (Zd (.i .u64 x1) rfl (Zd (.i .u64 x2) rfl (Zb (Za (Zh ?_)))))))
 refine Zh (Zk (Zd (.i .u64 x1) rfl (Zg (ZdP (a:=x1) (b:=0) rfl rfl) (Zd (.b (decide (0 < x1))) rfl ?_))))
 refine Za0 3 (fun fr' k'=>k'2 = k'∧fr' 26 = .b ((decide (0 < x1)) || (decide (9223372036854775807 < x2)))∧fr' 0 = v_x∧fr' 6 = .i .u64 x2) ?_ ?_
 ·rcases bc (decide (0 < x1)) with b'2 | b'2
  ·skip
   refine Zv rfl b'2 (Zv rfl b'2 (Zg (zr (t:=(decide (0 < x1))) (v:=.b ((decide (0 < x1)) || (decide (9223372036854775807 < x2)))) rfl b'2 (Eq.trans (b:=V.b true) rfl (Zbx b'2))) (Zb ?_)))
   exact ⟨rfl,rfl,q'1_0,rfl⟩
  ·skip
   refine Z8 rfl b'2 (Zd (.i .u64 x2) rfl (Z8 rfl b'2 (Zg (ZdP (a:=x2) (b:=9223372036854775807) rfl rfl) (Zg (zm (t:=(decide (0 < x1))) (v:=.b ((decide (0 < x1)) || (decide (9223372036854775807 < x2)))) rfl b'2 (Eq.trans (b:=V.b (decide (9223372036854775807 < x2))) rfl (Zca b'2))) (Zb ?_)))))
   exact ⟨rfl,rfl,q'1_0,rfl⟩
 rintro frg'1 _ ⟨rfl,g'1_26,g'1_0,g'1_6⟩
 refine Zb (Za ?_)
 obtain ⟨o'2,ho'2,hp⟩:=Zq hp
 refine W.mono (Q:=fun e fr k=>match (generalizing:=false) o'2 with
   | _=>e = .normal∧fr 0 = v_x∧fr 6 = .i .u64 x2∧Own B h k []) ?_ ?_
 ·clear hp; have hp:=ho'2; clear ho'2
  rcases Zp hp with ⟨b'3,hp⟩ | ⟨b'3,hp⟩
  ·refine zA (t:=((decide (0 < x1)) || (decide (9223372036854775807 < x2)))) g'1_26 b'3 ?_
   exact nomatch hp
  ·refine z7 (t:=((decide (0 < x1)) || (decide (9223372036854775807 < x2)))) g'1_26 b'3 ?_
   refine zD ?_
   cases hp
   exact ⟨rfl,g'1_0,g'1_6,(hO'2.pick [] rfl (by decide))⟩
 intro e'2 q'2 k'3 hJ'2
 obtain ⟨rfl,q'2_0,q'2_6,hO'3⟩:=hJ'2
 refine Za (Zh (Zk (Zd (.i .u64 x2) q'2_6 ?_)))
 obtain ⟨c'3,hp⟩:=Zj hp
 refine Zg (Zfj (a:=x2) rfl c'3) ?_
 obtain ⟨c'4,hp⟩:=Zj hp
 refine zQ (hO'3.mks (E:=ZM) (y:=(0:Int)) (bytes:=8) (z:=x2) hO'3.fr rfl rfl rfl c'4 (by decide)) ?_
 rintro v'2 k'4 ⟨r'1,f'1,hW⟩
 have hO'4:=hW
 refine Zd v'2 rfl (Zb (Za (Zh (Zk (Zd v'2 rfl (Zd v_x q'2_0 (zQ (hO'4.cpy (E:=ZM) 0 rfl (hO'4.rd0 s_x.rd) rfl rfl (fun _=>rfl)) ?_)))))))
 rintro _ k'5 ⟨rfl,f'2,hW⟩
 have hO'5:=hW
 refine Zd (.n ((min x.length (List.replicate x2.toNat (0:Int)).length:Nat):Int)) rfl (Zb (Za (Zh (Zaq ?_))))
 obtain ⟨o'3,ho'3,hp⟩:=Zq hp
 refine W.mono (Q:=fun e fr k=>match (generalizing:=false) o'3 with
   | newslice1=>e = (.exit 0)∧fr 7 = v'2∧Own B h k [eSl ZM v'2 newslice1]) ?_ ?_
 ·clear hp
  refine zP (fun st fr k=>match st with | (newslice,n)=>fr 7 = v'2∧fr 8 = .n n∧Own B h k [eSl ZM v'2 newslice]) ho'3 (s:=(x.take (List.replicate x2.toNat (0:Int)).length++(List.replicate x2.toNat (0:Int)).drop x.length,((min x.length (List.replicate x2.toNat (0:Int)).length:Nat):Int))) ⟨rfl,rfl,(hO'5.pick [0] rfl (by decide))⟩ ?_
  rintro ⟨newslice,n⟩ q'4 k'7 ⟨q'4_7,q'4_8,hO'7⟩ o'4 hp
  dsimp only [Zaf.s0] at hp
  refine Zh (Zh (Zk (Zd (.n n) q'4_8 (Zd v'2 q'4_7 (Zg (Zau (hO'7.sl 0 rfl) rfl) (Zg (zN (a:=n) (b:=(newslice.length:Int)) rfl rfl) (Zb ?_)))))))
  refine Za ?_
  rcases Zp hp with ⟨b'4,hp⟩ | ⟨b'4,hp⟩
  ·refine zA (t:=(decide (n < (newslice.length:Int)))) rfl b'4 ?_
   refine zD (Za (Zaq (Zfi ?_)))
   have hW:=hO'7.bump 10
   have fr'1:=Fresh.start k'7 10
   have nb'1:∀ {i:Nat},h.n≤k'7.n + i:=Nat.le_trans hO'7.n (Nat.le_add_right _ _)
   have hO'8:=hW
   refine ZaS (.n n) q'4_8 (ZaS v'2 q'4_7 (ZaS (.n n) q'4_8 ?_))
   obtain ⟨c'5,hp⟩:=Zj hp
   refine z9 (Zi7 (E:=ZM) (z:=n) (hO'8.sl 0 rfl) rfl rfl c'5) (ZaS v'2 q'4_7 (ZaS (.n n) q'4_8 (z9 (Zi8 (E:=ZM) (z:=n) (hO'8.sl 0 rfl) rfl rfl c'5) (Ze5 (hO'8.cpyF (E:=ZM) (z:=n) 0 rfl c'5 (Sl.cutU (hO'8.sl 0 rfl) c'5:Sl ZM (k'7.bump 10) (V.cut v'2 0 n.toNat) (newslice.take n.toNat)) rfl rfl (fun _=>rfl)) ?_))))
   rintro _ k'9 z'1 ⟨rfl,f'3,hW⟩
   have fr'2:=fr'1.kept f'3 (by decide)
   have hO'9:=hW
   obtain ⟨c'6,hp⟩:=Zj hp
   refine z9 (z6 (a:=n) (b:=((min (newslice.take n.toNat).length (newslice.drop n.toNat).length:Nat):Int)) rfl rfl c'6) (ZaS (.n (n + ((min (newslice.take n.toNat).length (newslice.drop n.toNat).length:Nat):Int))) rfl (Zcu ?_))
   refine And.intro ?_ ?_
   ·intro q hq
    cases hq
   refine Zan ?_
   cases hp
   exact (Or.inl ⟨(newslice.take n.toNat++((newslice.take n.toNat).take (newslice.drop n.toNat).length++(newslice.drop n.toNat).drop (newslice.take n.toNat).length),n + ((min (newslice.take n.toNat).length (newslice.drop n.toNat).length:Nat):Int)),rfl,rfl,q'4_7,rfl,(hO'9.pick [0] rfl (by decide))⟩)
  ·refine z7 (t:=(decide (n < (newslice.length:Int)))) rfl b'4 ?_
   refine Zbv (zY ?_)
   cases hp
   refine (Or.inr ⟨newslice,rfl,(fun h=>nomatch h),(fun he=>?_)⟩)
   subst he; exact ⟨rfl,q'4_7,(hO'7.pick [0] rfl (by decide))⟩
 intro e'3 q'3 k'6 hJ'3
 obtain ⟨newslice1,rfl⟩:∃ x,x = o'3:=⟨_,rfl⟩
 obtain ⟨rfl,q'3_7,hO'6⟩:=hJ'3
 refine ZaD (Za (Zh (Zk (Zd v'2 q'3_7 (Zd v'2 rfl (Zb (Za ?_)))))))
 refine Zad (zu (zG (n:=4) (v:=v'2) rfl ZN) ?_)
 cases hp
 exact ⟨v'2,rfl,(hO'6.pick [0] rfl (by decide))⟩

theorem ZaN.ok {h:Hp} {cells:List Ze} {v:Int} {v_cells:V} (s_cells:Sl Zn h v_cells cells) {r:(List Int) × (List Int)} (hp:ZaN cells v = some r) :
  ∃ u k',Is G 67 [v_cells,.n v] h u k'∧∃ (v'1:V),∃ (v'2:V),V.tu [v'1,v'2] = u∧Own (fun r=>r < h.n) h k' [eSl ZM v'1 r.1,eSl ZM v'2 r.2]:=by
 refine WC.is (ZaM ZeS ?_)
 unfold ZaN at hp
 let B:Nat→Prop:=(fun r=>r < h.n)
 have hO:Own B h h []:=Own.start0 h
 refine Zh (Zk (Zd (.sn) rfl (Zd (.sn) rfl (Zb (Za (Zh (Zk ?_)))))))
 refine zQ (hO.bsl (E:=ZM) (l:=([(-1)]:List Int)) hO.fr (by rw [(zt (v:=.n (-1)) rfl Za2)]; rfl) rfl) ?_
 rintro v'3 k'1 ⟨r'1,f'1,hW⟩
 have hO'1:=hW
 refine Zd v_cells rfl (Zg (Zau (hO'1.rd0 s_cells.rd) rfl) ?_)
 obtain ⟨x,hx'1,hp⟩:=Zq hp
 obtain ⟨u'1,k'2,ca'1,v'4,rfl,hW'1⟩:=Zaf.ok (h:=k'1)  (hO'1.sl 0 rfl:Sl ZM k'1 v'3 ([(-1)]:List Int)) hx'1
 refine Zbd (id:=83) (caps:=[]) rfl (Zu (v:=v'3) rfl (Zu (v:=.n (cells.length:Int)) rfl zx)) ca'1 ?_
 have hO'2:=hO'1.call hW'1 rfl
 refine zQ (hO'2.bsl (E:=ZM) (l:=([(-1)]:List Int)) hO'2.fr (by rw [(zt (v:=.n (-1)) rfl Za2)]; rfl) rfl) ?_
 rintro v'5 k'3 ⟨r'2,f'2,hW⟩
 have hO'3:=hW
 refine Zd v_cells rfl (Zg (Zau (hO'3.rd0 s_cells.rd) rfl) ?_)
 obtain ⟨x1,hx'2,hp⟩:=Zq hp
 obtain ⟨u'2,k'4,ca'2,v'6,rfl,hW'2⟩:=Zaf.ok (h:=k'3)  (hO'3.sl 2 rfl:Sl ZM k'3 v'5 ([(-1)]:List Int)) hx'2
 refine Zbd (id:=83) (caps:=[]) rfl (Zu (v:=v'5) rfl (Zu (v:=.n (cells.length:Int)) rfl zx)) ca'2 ?_
 have hO'4:=hO'3.call hW'2 rfl
 refine Zd v'4 rfl (Zd v'6 rfl (Zb (Za (Zh (Zk (Zd (.n v) rfl (zQ (hO'4.bsl (E:=ZM) (l:=[v]) hO'4.fr (by rw [(zt (v:=.n v) rfl Za2)]; rfl) rfl) ?_)))))))
 rintro v'7 k'5 ⟨r'3,f'3,hW⟩
 have hO'5:=hW
 refine Zd v'7 rfl (Zb (Za (Zh (Zk (Zd v_cells rfl (Zg (Zau (hO'5.rd0 s_cells.rd) rfl) ?_))))))
 obtain ⟨c'1,hp⟩:=Zj hp
 refine zQ (hO'5.mks (E:=e_bool) (y:=false) (bytes:=1) (z:=(cells.length:Int)) hO'5.fr rfl rfl rfl c'1 (by decide)) ?_
 rintro v'8 k'6 ⟨r'4,f'4,hW⟩
 have hO'6:=hW
 refine Zd v'8 rfl (Zb (Za (Zh (Zk (Zd v'8 rfl (Zd (.n v) rfl ?_))))))
 obtain ⟨c'2,hp⟩:=Zj hp
 refine Zg (zf (E:=e_bool) (z:=v) (hO'6.sl 5 rfl:Sl e_bool k'6 v'8 (List.replicate ((cells.length:Int):Int).toNat false)) rfl rfl c'2) (zQ (hO'6.ste (E:=e_bool) (y:=true) (ws:=[.b true]) 5 rfl rfl (Zi c'2) rfl rfl ⟨rfl,Nat.le_of_ble_eq_true rfl,rfl⟩ rfl) ?_)
 rintro _ k'7 ⟨rfl,f'5,m'1,hW⟩
 have hO'7:=hW
 refine Zb (Za (Zh (Zaq ?_)))
 obtain ⟨o'1,ho'1,hp⟩:=Zq hp
 refine W.mono (Q:=fun e fr k=>match (generalizing:=false) o'1 with
   | (from_1,dir1)=>e = (.exit 0)∧fr 6 = v'4∧fr 7 = v'6∧Own B h k [eSl ZM v'4 from_1,eSl ZM v'6 dir1]) ?_ ?_
 ·clear hp
  refine zP (fun st fr k=>match st with | (from_,dir,l,met)=>∃ (v'9:V),fr 0 = v_cells∧fr 6 = v'4∧fr 7 = v'6∧fr 8 = v'9∧fr 9 = v'8∧Own B h k [eSl ZM v'4 from_,eSl ZM v'6 dir,eSl ZM v'9 l,eSl e_bool v'8 met]) ho'1 (s:=(x,x1,[v],(List.replicate ((cells.length:Int):Int).toNat false).set v.toNat true)) ⟨v'7,rfl,rfl,rfl,rfl,rfl,(hO'7.pick [1,3,4,5] rfl (by decide))⟩ ?_
  rintro ⟨from_,dir,l,met⟩ q'2 k'9 ⟨v'9,q'2_0,q'2_6,q'2_7,q'2_8,q'2_9,hO'9⟩ o'2 hp
  dsimp only [ZaN.s0] at hp
  refine Zh (Zh (Zk (Zd v'9 q'2_8 (Zg (Zau (hO'9.sl 2 rfl) rfl) (Zg (ZdP (a:=(l.length:Int)) (b:=0) rfl rfl) (Zb (Za ?_)))))))
  rcases Zp hp with ⟨b'1,hp⟩ | ⟨b'1,hp⟩
  ·refine zA (t:=(decide (0 < (l.length:Int)))) rfl b'1 ?_
   refine zD (Za (Zaq (Zh (Zk (Zd v'9 q'2_8 ?_)))))
   obtain ⟨c'3,hp⟩:=Zj hp
   refine Zg (zf (E:=ZM) (z:=0) (hO'9.sl 2 rfl) rfl rfl c'3) (Zg (zB (w:=.n (gi l (0:Int).toNat)) (hO'9.sl 2 rfl) rfl (Zi c'3) rfl) (Zd (.n (gi l (0:Int).toNat)) rfl (Zb (Za (Zh (Zk (Zd v'9 q'2_8 ?_)))))))
   obtain ⟨c'4,hp⟩:=Zj hp
   refine Zg (Zi7 (E:=ZM) (z:=1) (hO'9.sl 2 rfl) rfl rfl c'4) (Zd ((V.cut v'9 (1:Int).toNat (l).length)) rfl (Zb (Za (Zh (Zk (Zd (.n 0) rfl (Zb ?_)))))))
   refine Za (Zaq ?_)
   obtain ⟨o'3,ho'2,hp⟩:=Zq hp
   refine W.mono (Q:=fun e fr k=>match (generalizing:=false) o'3 with
     | (from_3,dir3,l2,met2)=>e = (.exit 2)∧∃ (v'11:V),fr 0 = v_cells∧fr 6 = v'4∧fr 7 = v'6∧fr 8 = v'11∧fr 9 = v'8∧Own B h k [eSl ZM v'4 from_3,eSl ZM v'6 dir3,eSl ZM v'11 l2,eSl e_bool v'8 met2]) ?_ ?_
   ·clear hp
    have hO'11:=hO'9.cutF 2 rfl c'4
    refine zP (fun st fr k=>match st with | (from_2,dir2,l1,met1,x2)=>∃ (v'10:V),fr 0 = v_cells∧fr 6 = v'4∧fr 7 = v'6∧fr 8 = v'10∧fr 9 = v'8∧fr 10 = .n (gi l (0:Int).toNat)∧fr 37 = .n x2∧Own B h k [eSl ZM v'4 from_2,eSl ZM v'6 dir2,eSl ZM v'10 l1,eSl e_bool v'8 met1]) ho'2 (s:=(from_,dir,l.drop (1:Int).toNat,met,0)) ⟨(V.cut v'9 (1:Int).toNat (l).length),q'2_0,q'2_6,q'2_7,rfl,q'2_9,rfl,rfl,(hO'11.pick [0,1,2,3] rfl (by decide))⟩ ?_
    rintro ⟨from_2,dir2,l1,met1,x2⟩ q'4 k'11 ⟨v'10,q'4_0,q'4_6,q'4_7,q'4_8,q'4_9,q'4_10,q'4_37,hO'12⟩ o'4 hp
    dsimp only [ZaN.s1] at hp
    refine Zh (Zk (Zg (zN (a:=x2) (b:=4) q'4_37 rfl) (Zb (Za (Zh ?_)))))
    rcases Zp hp with ⟨b'2,hp⟩ | ⟨b'2,hp⟩
    ·refine zA (t:=(decide (x2 < 4))) rfl b'2 ?_
     refine zD (Za (Zh (Zaq (Zh (Zk (Zd (.n x2) q'4_37 (Zd (.n x2) rfl ?_)))))))
     refine Zb (Za (Zh (Zk (Zd v_cells q'4_0 (Zd (.n (gi l (0:Int).toNat)) q'4_10 (Zd (.n x2) rfl ?_))))))
     obtain ⟨c'5,hp⟩:=Zj hp
     refine Zg (zf (E:=Zn) (z:=(gi l (0:Int).toNat)) (hO'12.rd0 s_cells.rd) rfl rfl c'5) (Zg (Za1 (off':=0) (off2:=0) (hO'12.rd0 s_cells.rd) (Zi c'5) rfl rfl) ?_)
     obtain ⟨c'6,hp⟩:=Zj hp
     refine Zg (ZbC (off:=0) (off2:=(0 + x2.toNat * 1)) (z:=x2) (hO'12.rd0 s_cells.rd) (Zi c'5) rfl rfl c'6 rfl) (Zg (zB (w:=.n (((gi cells (gi l (0:Int).toNat:Int).toNat).Next).get x2)) (hO'12.rd0 s_cells.rd) rfl (Zi c'5) (zO c'6)) (Zd (.n (((gi cells (gi l (0:Int).toNat:Int).toNat).Next).get x2)) rfl (Zb (Za (Zh (Zk (Zd (.n (((gi cells (gi l (0:Int).toNat:Int).toNat).Next).get x2)) rfl ?_)))))))
     refine Zg (Zcs (a:=(((gi cells (gi l (0:Int).toNat:Int).toNat).Next).get x2)) (b:=0) rfl rfl) (Zd (.b (decide (0≤(((gi cells (gi l (0:Int).toNat:Int).toNat).Next).get x2)))) rfl ?_)
     obtain ⟨t,hv'1,hp⟩:=Zq hp
     refine Za0 6 (fun fr' k'=>k'11 = k'∧fr' 55 = .b t∧fr' 0 = v_cells∧fr' 10 = .n (gi l (0:Int).toNat)∧fr' 11 = .n x2∧fr' 12 = .n (((gi cells (gi l (0:Int).toNat:Int).toNat).Next).get x2)∧fr' 37 = .n x2∧fr' 6 = v'4∧fr' 7 = v'6∧fr' 8 = v'10∧fr' 9 = v'8) ?_ ?_
     ·clear hp; rcases Zp hv'1 with ⟨b'3,hp⟩ | ⟨b'3,hp⟩
      ·skip
       refine Z8 rfl b'3 (Zd v'8 q'4_9 (Z8 rfl b'3 (Zd (.n (((gi cells (gi l (0:Int).toNat:Int).toNat).Next).get x2)) rfl (Z8 rfl b'3 ?_))))
       obtain ⟨c'7,hp⟩:=Zj hp
       refine Zg (zf (E:=e_bool) (z:=(((gi cells (gi l (0:Int).toNat:Int).toNat).Next).get x2)) (hO'12.sl 3 rfl) rfl rfl c'7) (Z8 rfl b'3 (Zg (zB (w:=.b (gi met1 (((gi cells (gi l (0:Int).toNat:Int).toNat).Next).get x2:Int).toNat)) (hO'12.sl 3 rfl) rfl (Zi c'7) rfl) (Z8 rfl b'3 (Zg (Zc3 (t:=(gi met1 (((gi cells (gi l (0:Int).toNat:Int).toNat).Next).get x2:Int).toNat)) rfl) (Zg (zr (t:=(decide (0≤(((gi cells (gi l (0:Int).toNat:Int).toNat).Next).get x2)))) (v:=.b t) rfl b'3 (Eq.trans (b:=V.b (!(gi met1 (((gi cells (gi l (0:Int).toNat:Int).toNat).Next).get x2:Int).toNat))) rfl (congrArg V.b (Option.some.inj hp)))) (Zb ?_))))))
       exact ⟨rfl,rfl,q'4_0,q'4_10,rfl,rfl,q'4_37,q'4_6,q'4_7,q'4_8,q'4_9⟩
      ·skip
       refine Zv rfl b'3 (Zv rfl b'3 (Zv rfl b'3 (Zv rfl b'3 (Zv rfl b'3 (Zg (zm (t:=(decide (0≤(((gi cells (gi l (0:Int).toNat:Int).toNat).Next).get x2)))) (v:=.b t) rfl b'3 (Eq.trans (b:=V.b false) rfl (congrArg V.b (Option.some.inj hp)))) (Zb ?_))))))
       exact ⟨rfl,rfl,q'4_0,q'4_10,rfl,rfl,q'4_37,q'4_6,q'4_7,q'4_8,q'4_9⟩
     rintro frg'1 _ ⟨rfl,g'1_55,g'1_0,g'1_10,g'1_11,g'1_12,g'1_37,g'1_6,g'1_7,g'1_8,g'1_9⟩
     refine Zb (Za ?_)
     rcases Zp hp with ⟨b'4,hp⟩ | ⟨b'4,hp⟩
     ·refine zA (t:=t) g'1_55 b'4 ?_
      refine Zh (Zk (Zd v'8 g'1_9 (Zd (.n (((gi cells (gi l (0:Int).toNat:Int).toNat).Next).get x2)) g'1_12 (Zd v'4 g'1_6 (Zd (.n (((gi cells (gi l (0:Int).toNat:Int).toNat).Next).get x2)) g'1_12 (Zd v'6 g'1_7 (Zd (.n (((gi cells (gi l (0:Int).toNat:Int).toNat).Next).get x2)) g'1_12 ?_)))))))
      refine Zd (.n (gi l (0:Int).toNat)) g'1_10 (Zd (.n x2) g'1_11 ?_)
      obtain ⟨c'8,hp⟩:=Zj hp
      refine Zg (zf (E:=e_bool) (z:=(((gi cells (gi l (0:Int).toNat:Int).toNat).Next).get x2)) (hO'12.sl 3 rfl) rfl rfl c'8) (zQ (hO'12.ste (E:=e_bool) (y:=true) (ws:=[.b true]) 3 rfl rfl (Zi c'8) rfl rfl ⟨rfl,Nat.le_of_ble_eq_true rfl,rfl⟩ rfl) ?_)
      rintro _ k'12 ⟨rfl,f'6,m'2,hW⟩
      have hO'13:=hW
      obtain ⟨c'9,hp⟩:=Zj hp
      refine Zg (zf (E:=ZM) (z:=(((gi cells (gi l (0:Int).toNat:Int).toNat).Next).get x2)) (hO'13.sl 0 rfl) rfl rfl c'9) (zQ (hO'13.ste (E:=ZM) (y:=(gi l (0:Int).toNat)) (ws:=[.n (gi l (0:Int).toNat)]) 0 rfl rfl (Zi c'9) rfl rfl ⟨rfl,Nat.le_of_ble_eq_true rfl,rfl⟩ rfl) ?_)
      rintro _ k'13 ⟨rfl,f'7,m'3,hW⟩
      have hO'14:=hW
      obtain ⟨c'10,hp⟩:=Zj hp
      refine Zg (zf (E:=ZM) (z:=(((gi cells (gi l (0:Int).toNat:Int).toNat).Next).get x2)) (hO'14.sl 1 rfl) rfl rfl c'10) (zQ (hO'14.ste (E:=ZM) (y:=x2) (ws:=[.n x2]) 1 rfl rfl (Zi c'10) rfl rfl ⟨rfl,Nat.le_of_ble_eq_true rfl,rfl⟩ rfl) ?_)
      rintro _ k'14 ⟨rfl,f'8,m'4,hW⟩
      have hO'15:=hW
      refine Zb (Za (Zk (Zd v'10 g'1_8 (Zd (.n (((gi cells (gi l (0:Int).toNat:Int).toNat).Next).get x2)) g'1_12 (zQ (hO'15.bsl (E:=ZM) (l:=[((gi cells (gi l (0:Int).toNat:Int).toNat).Next).get x2]) hO'15.fr (by rw [(zt (v:=.n (((gi cells (gi l (0:Int).toNat:Int).toNat).Next).get x2)) rfl Za2)]; rfl) rfl) ?_)))))
      rintro v'12 k'15 ⟨r'5,f'9,hW⟩
      have hO'16:=hW
      obtain ⟨c'11,hp⟩:=Zj hp
      refine zQ (hO'16.app (E:=ZM) (bytes:=8) 2 hO'16.fr rfl (hO'16.sl 4 rfl:Sl ZM k'15 v'12 [((gi cells (gi l (0:Int).toNat:Int).toNat).Next).get x2]) rfl rfl (fun _=>rfl) c'11 (by decide)) ?_
      rintro v'13 k'16 ⟨f'10,hW⟩
      have hO'17:=hW
      refine Zd v'13 rfl (Zb (Zan (Za (Zk ?_))))
      obtain ⟨c'12,hp⟩:=Zj hp
      refine Zg (z6 (a:=x2) (b:=1) g'1_37 rfl c'12) (Zd (.n (x2 + 1)) rfl (Zb ?_))
      cases hp
      exact (Or.inl ⟨(from_2.set (((gi cells (gi l (0:Int).toNat:Int).toNat).Next).get x2:Int).toNat (gi l (0:Int).toNat),dir2.set (((gi cells (gi l (0:Int).toNat:Int).toNat).Next).get x2:Int).toNat x2,l1++[((gi cells (gi l (0:Int).toNat:Int).toNat).Next).get x2],met1.set (((gi cells (gi l (0:Int).toNat:Int).toNat).Next).get x2:Int).toNat true,x2 + 1),rfl,rfl,v'13,g'1_0,g'1_6,g'1_7,rfl,g'1_9,g'1_10,rfl,(hO'17.pick [0,1,2,3] rfl (by decide))⟩)
     ·refine z7 (t:=t) g'1_55 b'4 ?_
      refine zD (Zan (Za (Zk ?_)))
      obtain ⟨c'13,hp⟩:=Zj hp
      refine Zg (z6 (a:=x2) (b:=1) g'1_37 rfl c'13) (Zd (.n (x2 + 1)) rfl (Zb ?_))
      cases hp
      exact (Or.inl ⟨(from_2,dir2,l1,met1,x2 + 1),rfl,rfl,v'10,g'1_0,g'1_6,g'1_7,g'1_8,g'1_9,g'1_10,rfl,(hO'12.pick [0,1,2,3] rfl (by decide))⟩)
    ·refine z7 (t:=(decide (x2 < 4))) rfl b'2 ?_
     refine Zbv (zY ?_)
     cases hp
     refine (Or.inr ⟨(from_2,dir2,l1,met1),rfl,(fun h=>nomatch h),(fun he=>?_)⟩)
     subst he; exact ⟨rfl,v'10,q'4_0,q'4_6,q'4_7,q'4_8,q'4_9,(hO'12.pick [0,1,2,3] rfl (by decide))⟩
   intro e'2 q'3 k'10 hJ'2
   obtain ⟨from_3,dir3,l2,met2⟩:=o'3
   obtain ⟨rfl,v'11,q'3_0,q'3_6,q'3_7,q'3_8,q'3_9,hO'10⟩:=hJ'2
   refine ZaD (Zan ?_)
   cases hp
   exact (Or.inl ⟨(from_3,dir3,l2,met2),rfl,rfl,v'11,q'3_0,q'3_6,q'3_7,q'3_8,q'3_9,(hO'10.pick [0,1,2,3] rfl (by decide))⟩)
  ·refine z7 (t:=(decide (0 < (l.length:Int)))) rfl b'1 ?_
   refine Zbv (zY ?_)
   cases hp
   refine (Or.inr ⟨(from_,dir),rfl,(fun h=>nomatch h),(fun he=>?_)⟩)
   subst he; exact ⟨rfl,q'2_6,q'2_7,(hO'9.pick [0,1] rfl (by decide))⟩
 intro e'1 q'1 k'8 hJ'1
 obtain ⟨from_1,dir1⟩:=o'1
 obtain ⟨rfl,q'1_6,q'1_7,hO'8⟩:=hJ'1
 refine ZaD (Za (Zh (Zk (Zd v'4 q'1_6 (Zd v'6 q'1_7 (Zd v'4 rfl (Zd v'6 rfl ?_)))))))
 refine Zb (Za (Zad (zu (zG (n:=4) (v:=v'4) rfl (zG (n:=5) (v:=v'6) rfl ZN)) ?_)))
 cases hp
 exact ⟨v'4,v'6,rfl,(hO'8.pick [0,1] rfl (by decide))⟩

theorem ZaQ.ok {h:Hp} {cells:List Ze} {v_cells:V} (s_cells:Sl Zn h v_cells cells) {r:(List (List Int)) × Int} (hp:ZaQ cells = some r) :
  ∃ u k',Is G 29 [v_cells] h u k'∧∃ (v'1:V),∃ (vs'1:List V),V.tu [v'1,.n r.2] = u∧Own (fun r=>r < h.n) h k' [eSl eV v'1 vs'1,ZbE ZM vs'1 r.1]:=by
 refine WC.is (ZaM Zff ?_)
 unfold ZaQ at hp
 let B:Nat→Prop:=(fun r=>r < h.n)
 have hO:Own B h h []:=Own.start0 h
 refine Zh (Zk (Zd (.sn) rfl (Zd (.n 0) rfl (Zb (Za (Zh (Zh ?_)))))))
 refine Zk (Zd v_cells rfl ?_)
 obtain ⟨x,hx'1,hp⟩:=Zq hp
 obtain ⟨u'1,k'1,ca'1,rfl,hW'1⟩:=zV.ok (h:=h)  (hO.rd0 s_cells.rd) hx'1
 refine Zbd (id:=66) (caps:=[]) rfl (Zu (v:=v_cells) rfl zx) ca'1 ?_
 have hO'1:=hO.call hW'1 rfl
 refine Zd (.n x) rfl (Zb (Za (Zh (Zk (Zd (.n x) rfl (Zg (Zck (a:=x) (b:=0) rfl rfl) (Zb ?_)))))))
 refine Za ?_
 rcases Zp hp with ⟨b'1,hp⟩ | ⟨b'1,hp⟩
 ·refine zA (t:=(!(decide (x = 0)))) rfl b'1 ?_
  refine Zh (Zk (Zd (.n x) rfl (Zd (.sn) rfl (Zd (.n x) rfl (Zb (Za (Zad ?_)))))))
  refine zk ?_
  have hO'2:=hO'1.nil eV
  have hO'3:=hO'2.allNil ZM 0
  refine zu (zG (n:=2) (v:=.sn) rfl (zG (n:=3) (v:=.n x) rfl ZN)) ?_
  cases hp
  exact ⟨V.sn,[],rfl,(hO'3.pick [0,1] rfl (by decide))⟩
 ·refine z7 (t:=(!(decide (x = 0)))) rfl b'1 ?_
  refine zD (Za (Zh (Zk (Zd (.sn) rfl (Zb (Za (Zh ?_)))))))
  refine Zk (Zd v_cells rfl (Zg (Zau (hO'1.rd0 s_cells.rd) rfl) ?_))
  obtain ⟨c'1,hp⟩:=Zj hp
  refine zQ (hO'1.mks (E:=e_bool) (y:=false) (bytes:=1) (z:=(cells.length:Int)) hO'1.fr rfl rfl rfl c'1 (by decide)) ?_
  rintro v'2 k'2 ⟨r'1,f'1,hW⟩
  have hO'4:=hW
  refine Zd v'2 rfl (Zb (Za (Zh (Zh (Zk (Zd v_cells rfl (Zg (Zau (hO'4.rd0 s_cells.rd) rfl) ?_)))))))
  refine Zd (.n 0) rfl (Zb (Za (Zaq ?_)))
  obtain ⟨o'1,ho'1,hp⟩:=Zq hp
  refine W.mono (Q:=fun e fr k=>match (generalizing:=false) o'1 with
    | l1=>e = (.exit 0)∧∃ (v'4:V),∃ (vs'3:List V),fr 5 = v'4∧Own B h k [eSl eV v'4 vs'3,ZbE ZM vs'3 l1]) ?_ ?_
  ·clear hp
   have hO'6:=hO'4.nil eV
   have hO'7:=hO'6.allNil ZM 0
   refine zP (fun st fr k=>match st with | (l,met,x1)=>∃ (v'3:V),∃ (vs'2:List V),fr 0 = v_cells∧fr 5 = v'3∧fr 6 = v'2∧fr 21 = .n (cells.length:Int)∧fr 22 = .n x1∧Own B h k [eSl eV v'3 vs'2,ZbE ZM vs'2 l,eSl e_bool v'2 met]) ho'1 (s:=(([]:List (List Int)),List.replicate ((cells.length:Int):Int).toNat false,0)) ⟨V.sn,[],rfl,rfl,rfl,rfl,rfl,(hO'7.pick [1,2,0] rfl (by decide))⟩ ?_
   rintro ⟨l,met,x1⟩ q'2 k'4 ⟨v'3,vs'2,q'2_0,q'2_5,q'2_6,q'2_21,q'2_22,hO'8⟩ o'2 hp
   dsimp only [ZaQ.s0] at hp
   refine Zh (Zk (Zg (zN (a:=x1) (b:=(cells.length:Int)) q'2_22 q'2_21) (Zb (Za (Zh ?_)))))
   rcases Zp hp with ⟨b'2,hp⟩ | ⟨b'2,hp⟩
   ·refine zA (t:=(decide (x1 < (cells.length:Int)))) rfl b'2 ?_
    refine zD (Za (Zh (Zaq (Zh (Zk (Zd (.n x1) q'2_22 (Zd (.n x1) rfl ?_)))))))
    refine Zb (Za (Zh (Zh (Zk (Zd v'2 q'2_6 (Zd (.n x1) rfl ?_))))))
    obtain ⟨c'2,hp⟩:=Zj hp
    refine Zg (zf (E:=e_bool) (z:=x1) (hO'8.sl 2 rfl) rfl rfl c'2) (Zg (zB (w:=.b (gi met x1.toNat)) (hO'8.sl 2 rfl) rfl (Zi c'2) rfl) (Zb (Za ?_)))
    rcases Zp hp with ⟨b'3,hp⟩ | ⟨b'3,hp⟩
    ·refine zA (t:=(gi met x1.toNat)) rfl b'3 ?_
     refine Zbv (zY (ZaD (Za (Zk ?_))))
     obtain ⟨c'3,hp⟩:=Zj hp
     refine Zg (z6 (a:=x1) (b:=1) q'2_22 rfl c'3) (Zd (.n (x1 + 1)) rfl (Zb ?_))
     cases hp
     exact (Or.inl ⟨(l,met,x1 + 1),rfl,rfl,v'3,vs'2,q'2_0,q'2_5,q'2_6,q'2_21,rfl,(hO'8.pick [0,1,2] rfl (by decide))⟩)
    ·refine z7 (t:=(gi met x1.toNat)) rfl b'3 ?_
     refine zD (Za (Zh (Zk (Zd v_cells q'2_0 (Zd (.n x1) rfl ?_)))))
     obtain ⟨⟨x2,x3⟩,hx'2,hp⟩:=Zq hp
     obtain ⟨u'2,k'5,ca'2,v'5,v'6,rfl,hW'2⟩:=ZaN.ok (h:=k'4)  (hO'8.rd0 s_cells.rd) hx'2
     refine Zbd (id:=67) (caps:=[]) rfl (Zu (v:=v_cells) rfl (Zu (v:=.n x1) rfl zx)) ca'2 ?_
     have hO'9:=hO'8.call hW'2 rfl
     refine Zd (.tu [v'5,v'6]) rfl (Zg (Zb6 (vs:=[v'5,v'6]) (v:=v'5) rfl rfl) (Zg (Zb6 (vs:=[v'5,v'6]) (v:=v'6) rfl rfl) (Zd v'5 rfl (Zd v'6 rfl (Zb (Za (Zh ?_)))))))
     refine Zk (zQ (hO'9.bsl (E:=ZM) (l:=[]) hO'9.fr (by rw [Za2]; rfl) rfl) ?_)
     rintro v'7 k'6 ⟨r'2,f'2,hW⟩
     have hO'10:=hW
     refine Zd v'7 rfl (Zb (Za (Zh (Zh (Zk (Zd v_cells q'2_0 (Zg (Zau (hO'10.rd0 s_cells.rd) rfl) ?_)))))))
     refine Zd (.n 0) rfl (Zb (Za (Zaq ?_)))
     obtain ⟨o'3,ho'2,hp⟩:=Zq hp
     refine W.mono (Q:=fun e fr k=>match (generalizing:=false) o'3 with
       | (met2,part1)=>e = (.exit 2)∧∃ (v'9:V),fr 0 = v_cells∧fr 5 = v'3∧fr 6 = v'2∧fr 10 = v'9∧fr 21 = .n (cells.length:Int)∧fr 22 = .n x1∧Own B h k [eSl eV v'3 vs'2,ZbE ZM vs'2 l,eSl e_bool v'2 met2,eSl ZM v'9 part1]) ?_ ?_
     ·clear hp
      refine zP (fun st fr k=>match st with | (met1,part,x4)=>∃ (v'8:V),fr 0 = v_cells∧fr 5 = v'3∧fr 6 = v'2∧fr 7 = .n x1∧fr 9 = v'6∧fr 10 = v'8∧fr 21 = .n (cells.length:Int)∧fr 22 = .n x1∧fr 37 = .n (cells.length:Int)∧fr 38 = .n x4∧Own B h k [eSl eV v'3 vs'2,ZbE ZM vs'2 l,eSl e_bool v'2 met1,eSl ZM v'6 x3,eSl ZM v'8 part]) ho'2 (s:=(met,[],0)) ⟨v'7,q'2_0,q'2_5,q'2_6,rfl,rfl,rfl,q'2_21,q'2_22,rfl,rfl,(hO'10.pick [0,1,2,4,5] rfl (by decide))⟩ ?_
      rintro ⟨met1,part,x4⟩ q'4 k'8 ⟨v'8,q'4_0,q'4_5,q'4_6,q'4_7,q'4_9,q'4_10,q'4_21,q'4_22,q'4_37,q'4_38,hO'12⟩ o'4 hp
      dsimp only [ZaQ.s1] at hp
      refine Zh (Zk (Zg (zN (a:=x4) (b:=(cells.length:Int)) q'4_38 q'4_37) (Zb (Za (Zh ?_)))))
      rcases Zp hp with ⟨b'4,hp⟩ | ⟨b'4,hp⟩
      ·refine zA (t:=(decide (x4 < (cells.length:Int)))) rfl b'4 ?_
       refine zD (Za (Zh (Zaq (Zh (Zk (Zd (.n x4) q'4_38 (Zd (.n x4) rfl ?_)))))))
       refine Zb (Za (Zh (Zk (Zd (.n x4) rfl (Zd (.n x1) q'4_7 (Zg (ZbQ (a:=x4) (b:=x1) rfl rfl) (Zd (.b (decide (x4 = x1))) rfl ?_)))))))
       obtain ⟨t,hv'1,hp⟩:=Zq hp
       refine Za0 6 (fun fr' k'=>k'8 = k'∧fr' 50 = .b t∧fr' 0 = v_cells∧fr' 10 = v'8∧fr' 11 = .n x4∧fr' 21 = .n (cells.length:Int)∧fr' 22 = .n x1∧fr' 37 = .n (cells.length:Int)∧fr' 38 = .n x4∧fr' 5 = v'3∧fr' 6 = v'2∧fr' 7 = .n x1∧fr' 9 = v'6) ?_ ?_
       ·clear hp; rcases Zp hv'1 with ⟨b'5,hp⟩ | ⟨b'5,hp⟩
        ·skip
         refine Zv rfl b'5 (Zv rfl b'5 (Zv rfl b'5 (Zv rfl b'5 (Zv rfl b'5 (Zg (zr (t:=(decide (x4 = x1))) (v:=.b t) rfl b'5 (Eq.trans (b:=V.b true) rfl (congrArg V.b (Option.some.inj hp)))) (Zb ?_))))))
         exact ⟨rfl,rfl,q'4_0,q'4_10,rfl,q'4_21,q'4_22,q'4_37,q'4_38,q'4_5,q'4_6,q'4_7,q'4_9⟩
        ·skip
         refine Z8 rfl b'5 (Zd v'6 q'4_9 (Z8 rfl b'5 (Zd (.n x4) rfl (Z8 rfl b'5 ?_))))
         obtain ⟨c'4,hp⟩:=Zj hp
         refine Zg (zf (E:=ZM) (z:=x4) (hO'12.sl 3 rfl) rfl rfl c'4) (Z8 rfl b'5 (Zg (zB (w:=.n (gi x3 x4.toNat)) (hO'12.sl 3 rfl) rfl (Zi c'4) rfl) (Z8 rfl b'5 (Zg (Zcs (a:=(gi x3 x4.toNat)) (b:=0) rfl rfl) (Zg (zm (t:=(decide (x4 = x1))) (v:=.b t) rfl b'5 (Eq.trans (b:=V.b (decide (0≤(gi x3 x4.toNat)))) rfl (congrArg V.b (Option.some.inj hp)))) (Zb ?_))))))
         exact ⟨rfl,rfl,q'4_0,q'4_10,rfl,q'4_21,q'4_22,q'4_37,q'4_38,q'4_5,q'4_6,q'4_7,q'4_9⟩
       rintro frg'1 _ ⟨rfl,g'1_50,g'1_0,g'1_10,g'1_11,g'1_21,g'1_22,g'1_37,g'1_38,g'1_5,g'1_6,g'1_7,g'1_9⟩
       refine Zb (Za ?_)
       rcases Zp hp with ⟨b'6,hp⟩ | ⟨b'6,hp⟩
       ·refine zA (t:=t) g'1_50 b'6 ?_
        refine Zh (Zk (Zd v'2 g'1_6 (Zd (.n x4) g'1_11 ?_)))
        obtain ⟨c'5,hp⟩:=Zj hp
        refine Zg (zf (E:=e_bool) (z:=x4) (hO'12.sl 2 rfl) rfl rfl c'5) (zQ (hO'12.ste (E:=e_bool) (y:=true) (ws:=[.b true]) 2 rfl rfl (Zi c'5) rfl rfl ⟨rfl,Nat.le_of_ble_eq_true rfl,rfl⟩ rfl) ?_)
        rintro _ k'9 ⟨rfl,f'3,m'1,hW⟩
        have hO'13:=hW
        refine Zb (Za (Zk (Zd v'8 g'1_10 (Zd (.n x4) g'1_11 (zQ (hO'13.bsl (E:=ZM) (l:=[x4]) hO'13.fr (by rw [(zt (v:=.n x4) rfl Za2)]; rfl) rfl) ?_)))))
        rintro v'10 k'10 ⟨r'3,f'4,hW⟩
        have hO'14:=hW
        obtain ⟨c'6,hp⟩:=Zj hp
        refine zQ (hO'14.app (E:=ZM) (bytes:=8) 4 hO'14.fr rfl (hO'14.sl 5 rfl) rfl rfl (fun _=>rfl) c'6 (by decide)) ?_
        rintro v'11 k'11 ⟨f'5,hW⟩
        have hO'15:=hW
        refine Zd v'11 rfl (Zb (Zan (Za (Zk ?_))))
        obtain ⟨c'7,hp⟩:=Zj hp
        refine Zg (z6 (a:=x4) (b:=1) g'1_38 rfl c'7) (Zd (.n (x4 + 1)) rfl (Zb ?_))
        cases hp
        exact (Or.inl ⟨(met1.set x4.toNat true,part++[x4],x4 + 1),rfl,rfl,v'11,g'1_0,g'1_5,g'1_6,g'1_7,g'1_9,rfl,g'1_21,g'1_22,g'1_37,rfl,(hO'15.pick [0,1,2,3,4] rfl (by decide))⟩)
       ·refine z7 (t:=t) g'1_50 b'6 ?_
        refine zD (Zan (Za (Zk ?_)))
        obtain ⟨c'8,hp⟩:=Zj hp
        refine Zg (z6 (a:=x4) (b:=1) g'1_38 rfl c'8) (Zd (.n (x4 + 1)) rfl (Zb ?_))
        cases hp
        exact (Or.inl ⟨(met1,part,x4 + 1),rfl,rfl,v'8,g'1_0,g'1_5,g'1_6,g'1_7,g'1_9,g'1_10,g'1_21,g'1_22,g'1_37,rfl,(hO'12.pick [0,1,2,3,4] rfl (by decide))⟩)
      ·refine z7 (t:=(decide (x4 < (cells.length:Int)))) rfl b'4 ?_
       refine Zbv (zY ?_)
       cases hp
       refine (Or.inr ⟨(met1,part),rfl,(fun h=>nomatch h),(fun he=>?_)⟩)
       subst he; exact ⟨rfl,v'8,q'4_0,q'4_5,q'4_6,q'4_10,q'4_21,q'4_22,(hO'12.pick [0,1,2,4] rfl (by decide))⟩
     intro e'2 q'3 k'7 hJ'2
     obtain ⟨met2,part1⟩:=o'3
     obtain ⟨rfl,v'9,q'3_0,q'3_5,q'3_6,q'3_10,q'3_21,q'3_22,hO'11⟩:=hJ'2
     refine ZaD (Za (Zk (Zd v'3 q'3_5 (Zd v'9 q'3_10 (zQ (hO'11.bsl (E:=eV) (l:=[v'9]) hO'11.fr (by rw [(zt (v:=v'9) rfl Za2)]; simp only [fill,(hO'11.sl 3 rfl).cells]; simp [over]) rfl) ?_)))))
     rintro v'12 k'12 ⟨r'4,f'6,hW⟩
     have hO'16:=hW
     obtain ⟨c'9,hp⟩:=Zj hp
     refine zQ (hO'16.appV (bytes:=24) 0 hO'16.fr rfl (hO'16.sl 4 rfl) rfl rfl (by simp only [List.all_cons,List.all_nil,Bool.and_true]; exact (hO'16.sl 3 rfl).oneV) (by rw [(hO'16.allLen 1 rfl:(vs'2).length = (l).length)]; exact c'9) (by decide)) ?_
     rintro v'13 k'13 ⟨f'7,hW⟩
     have hO'17:=hW
     have hO'18:=hO'17.absorb 1 3 rfl rfl (by decide)
     refine Zd v'13 rfl (Zb (Zan (Za (Zk ?_))))
     obtain ⟨c'10,hp⟩:=Zj hp
     refine Zg (z6 (a:=x1) (b:=1) q'3_22 rfl c'10) (Zd (.n (x1 + 1)) rfl (Zb ?_))
     cases hp
     exact (Or.inl ⟨(l++[part1],met2,x1 + 1),rfl,rfl,v'13,vs'2++[v'9],q'3_0,rfl,q'3_6,q'3_21,rfl,(hO'18.pick [0,1,2] rfl (by decide))⟩)
   ·refine z7 (t:=(decide (x1 < (cells.length:Int)))) rfl b'2 ?_
    refine Zbv (zY ?_)
    cases hp
    refine (Or.inr ⟨l,rfl,(fun h=>nomatch h),(fun he=>?_)⟩)
    subst he; exact ⟨rfl,v'3,vs'2,q'2_5,(hO'8.pick [0,1] rfl (by decide))⟩
  intro e'1 q'1 k'3 hJ'1
  obtain ⟨l1,rfl⟩:∃ x,x = o'1:=⟨_,rfl⟩
  obtain ⟨rfl,v'4,vs'3,q'1_5,hO'5⟩:=hJ'1
  refine ZaD (Za (Zh (Zk (Zd v'4 q'1_5 (Zd v'4 rfl (Zd (.n 0) rfl (Zb ?_)))))))
  refine Za (Zad (zu (zG (n:=2) (v:=v'4) rfl (zG (n:=3) (v:=.n 0) rfl ZN)) ?_))
  cases hp
  exact ⟨v'4,vs'3,rfl,(hO'5.pick [0,1] rfl (by decide))⟩

theorem Zc6.ok {h:Hp} {cells:List Ze} {v_cells:V} (s_cells:Sl Zn h v_cells cells) {r:Bool} (hp:Zc6 cells = some r) :
  ∃ u k',Is G 32 [v_cells] h u k'∧V.b r = u∧Own (fun r=>r < h.n) h k' []:=by
 refine WC.is (ZaM Zfg ?_)
 unfold Zc6 at hp
 let B:Nat→Prop:=(fun r=>r < h.n)
 have hO:Own B h h []:=Own.start0 h
 refine Zh (Zk (Zd (.b false) rfl (Zb (Za (Zh (Zk (Zd v_cells rfl ?_)))))))
 obtain ⟨⟨x,x1⟩,hx'1,hp⟩:=Zq hp
 obtain ⟨u'1,k'1,ca'1,v'1,vs'1,rfl,hW'1⟩:=ZaQ.ok (h:=h)  (hO.rd0 s_cells.rd) hx'1
 refine Zbd (id:=29) (caps:=[]) rfl (Zu (v:=v_cells) rfl zx) ca'1 ?_
 have hO'1:=hO.call hW'1 rfl
 refine Zd (.tu [v'1,.n x1]) rfl (Zg (Zb6 (vs:=[v'1,.n x1]) (v:=v'1) rfl rfl) (Zg (Zb6 (vs:=[v'1,.n x1]) (v:=.n x1) rfl rfl) (Zd v'1 rfl (Zd (.n x1) rfl (Zb (Za (Zh ?_)))))))
 refine Zk (Zd (.n x1) rfl (Zg (ZbQ (a:=x1) (b:=0) rfl rfl) (Zd (.b (decide (x1 = 0))) rfl ?_)))
 refine Za0 4 (fun fr' k'=>k'1 = k'∧fr' 16 = .b ((decide (x1 = 0)) && (decide ((x.length:Int) = 1)))) ?_ ?_
 ·rcases bc (decide (x1 = 0)) with b'1 | b'1
  ·skip
   refine Z8 rfl b'1 (Zd v'1 rfl (Z8 rfl b'1 (Zg (Zej (n:=(x).length) (hO'1.sl 0 rfl) (hO'1.allLen 1 rfl:(vs'1).length = (x).length) rfl) (Z8 rfl b'1 (Zg (ZbQ (a:=(x.length:Int)) (b:=1) rfl rfl) (Zg (zr (t:=(decide (x1 = 0))) (v:=.b ((decide (x1 = 0)) && (decide ((x.length:Int) = 1)))) rfl b'1 (Eq.trans (b:=V.b (decide ((x.length:Int) = 1))) rfl (Zd7 b'1))) (Zb ?_)))))))
   exact ⟨rfl,rfl⟩
  ·skip
   refine Zv rfl b'1 (Zv rfl b'1 (Zv rfl b'1 (Zg (zm (t:=(decide (x1 = 0))) (v:=.b ((decide (x1 = 0)) && (decide ((x.length:Int) = 1)))) rfl b'1 (Eq.trans (b:=V.b false) rfl (ZcN b'1))) (Zb ?_))))
   exact ⟨rfl,rfl⟩
 rintro frg'1 _ ⟨rfl,g'1_16⟩
 refine Zd (.b ((decide (x1 = 0)) && (decide ((x.length:Int) = 1)))) g'1_16 (Zb (Za (Zad (zu (zG (n:=2) (v:=.b ((decide (x1 = 0)) && (decide ((x.length:Int) = 1)))) rfl ZN) ?_))))
 cases hp
 exact ⟨rfl,(hO'1.pick [] rfl (by decide))⟩

theorem Zbs.ok {h:Hp} {d:Zy} {cells:List Ze} {v_cells:V} (s_cells:Sl Zn h v_cells cells) {r:Bool} (hp:Zbs d cells = some r) :
  ∃ u k',Is G 220 [.ag (Zl.c d),v_cells] h u k'∧V.b r = u∧Own (fun r=>r < h.n) h k' []:=by
 refine WC.is (ZaM Ze4 ?_)
 unfold Zbs at hp
 let B:Nat→Prop:=(fun r=>r < h.n)
 have hO:Own B h h []:=Own.start0 h
 refine Zh (Zk (zQ (hO.boxd (v:=.ag (Zl.c d)) (cs:=Zl.c d) hO.fr rfl rfl) ?_))
 rintro _ k'1 ⟨r'1,rfl,n'1,f'1,hW⟩
 have hO'1:=hW
 refine Zd (.b false) rfl (Zb (Za (Zh (Zfi ?_))))
 have hW:=hO'1.bump 28
 have fr'1:=Fresh.start k'1 28
 have nb'1:∀ {i:Nat},h.n≤k'1.n + i:=Nat.le_trans hO'1.n (Nat.le_add_right _ _)
 have hO'2:=hW
 refine z9 (ZaL (r:=r'1) (o:=0) (o':=0) rfl rfl) (z9 (Zac (cs:=(Zl.c d)) (v:=.n d.Cell) (hO'2.box 0 rfl) rfl rfl) (z9 (Zcs (a:=d.Cell) (b:=0) rfl rfl) (ZaS (.b (decide (0≤d.Cell))) rfl ?_)))
 rcases Zp hp with ⟨b'1,hp⟩ | ⟨b'1,hp⟩
 ·skip
  refine Zcr rfl b'1 (z9 (ZaL (r:=r'1) (o:=0) (o':=0) rfl rfl) (Zcr rfl b'1 (z9 (Zac (cs:=(Zl.c d)) (v:=.n d.Cell) (hO'2.box 0 rfl) rfl rfl) (Zcr rfl b'1 (ZaS v_cells rfl (Zcr rfl b'1 (z9 (Zau (hO'2.rd0 s_cells.rd) rfl) ?_)))))))
  refine Zcr rfl b'1 (z9 (zN (a:=d.Cell) (b:=(cells.length:Int)) rfl rfl) (z9 (zr (t:=(decide (0≤d.Cell))) (v:=.b (decide (d.Cell < (cells.length:Int)))) rfl b'1 rfl) (ZaS (.b (decide (d.Cell < (cells.length:Int)))) rfl ?_)))
  rcases Zp hp with ⟨b'2,hp⟩ | ⟨b'2,hp⟩
  ·skip
   refine Zcr rfl b'2 (z9 (ZaL (r:=r'1) (o:=0) (o':=1) rfl rfl) (Zcr rfl b'2 (z9 (Zac (cs:=(Zl.c d)) (v:=.n d.Dir) (hO'2.box 0 rfl) rfl rfl) (Zcr rfl b'2 ?_))))
   obtain ⟨x,hx'1,hp⟩:=Zq hp
   obtain ⟨u'1,k'3,ca'1,rfl,hW'1⟩:=Zbq.ok (h:=(k'1.bump 28))   hx'1
   refine Zgf (id:=90) (caps:=[]) rfl (Zu (v:=.n d.Dir) rfl zx) ca'1 ?_
   have fr'2:=fr'1.call hW'1
   have hO'3:=hO'2.call hW'1 rfl
   refine z9 (zr (t:=(decide (d.Cell < (cells.length:Int)))) (v:=.b x) rfl b'2 rfl) (ZaS (.b x) rfl ?_)
   rcases Zp hp with ⟨b'3,hp⟩ | ⟨b'3,hp⟩
   ·skip
    refine Zcr rfl b'3 (ZaS v_cells rfl (Zcr rfl b'3 (z9 (ZaL (r:=r'1) (o:=0) (o':=0) rfl rfl) (Zcr rfl b'3 (z9 (Zac (cs:=(Zl.c d)) (v:=.n d.Cell) (hO'3.box 0 rfl) rfl rfl) (Zcr rfl b'3 (z9 (ZaL (r:=r'1) (o:=0) (o':=1) rfl rfl) ?_)))))))
    refine Zcr rfl b'3 (z9 (Zac (cs:=(Zl.c d)) (v:=.n d.Dir) (hO'3.box 0 rfl) rfl rfl) (Zcr rfl b'3 ?_))
    obtain ⟨c'1,hp⟩:=Zj hp
    refine z9 (zf (E:=Zn) (z:=d.Cell) (hO'3.rd0 s_cells.rd) rfl rfl c'1) (Zcr rfl b'3 (z9 (Za1 (off':=0) (off2:=0) (hO'3.rd0 s_cells.rd) (Zi c'1) rfl rfl) (Zcr rfl b'3 ?_)))
    obtain ⟨c'2,hp⟩:=Zj hp
    refine z9 (ZbC (off:=0) (off2:=(0 + (d.Dir:Int).toNat * 1)) (z:=d.Dir) (hO'3.rd0 s_cells.rd) (Zi c'1) rfl rfl c'2 rfl) (Zcr rfl b'3 (z9 (zB (w:=.n (((gi cells (d.Cell:Int).toNat).Next).get d.Dir)) (hO'3.rd0 s_cells.rd) rfl (Zi c'1) (zO c'2)) (Zcr rfl b'3 (z9 (Zcs (a:=(((gi cells (d.Cell:Int).toNat).Next).get d.Dir)) (b:=0) rfl rfl) (z9 (zr (t:=x) (v:=.b (decide (0≤(((gi cells (d.Cell:Int).toNat).Next).get d.Dir)))) rfl b'3 rfl) (ZaS (.b (decide (0≤(((gi cells (d.Cell:Int).toNat).Next).get d.Dir)))) rfl (Zcu ?_)))))))
    refine And.intro ?_ ?_
    ·intro q hq
     simp only [List.mem_cons,List.not_mem_nil,or_false] at hq
     rcases hq with rfl
     ·refine ZaF ?_ ?_
      ·exact (fun h=>nomatch h)
      ·exact (fun h=>nomatch h)
    refine Za (Zad (zu (zG (n:=4) (v:=.b (decide (0≤(((gi cells (d.Cell:Int).toNat).Next).get d.Dir)))) rfl ZN) ?_))
    cases hp
    exact ⟨rfl,(hO'3.pick [] rfl (by decide))⟩
   ·skip
    refine ZaK rfl b'3 (ZaK rfl b'3 (ZaK rfl b'3 (ZaK rfl b'3 (ZaK rfl b'3 (ZaK rfl b'3 (ZaK rfl b'3 (ZaK rfl b'3 ?_)))))))
    refine ZaK rfl b'3 (ZaK rfl b'3 (z9 (zm (t:=x) (v:=.b false) rfl b'3 rfl) (ZaS (.b false) rfl (Zcu ?_))))
    refine And.intro ?_ ?_
    ·intro q hq
     simp only [List.mem_cons,List.not_mem_nil,or_false] at hq
     rcases hq with rfl
     ·exact Ze7
    refine Za (Zad (zu (zG (n:=4) (v:=.b false) rfl ZN) ?_))
    cases hp
    exact ⟨rfl,(hO'3.pick [] rfl (by decide))⟩
  ·skip
   refine ZaK rfl b'2 (ZaK rfl b'2 (ZaK rfl b'2 (z9 (zm (t:=(decide (d.Cell < (cells.length:Int)))) (v:=.b false) rfl b'2 rfl) (ZaS (.b false) rfl (ZaK rfl rfl (ZaK rfl rfl (ZaK rfl rfl ?_)))))))
   refine ZaK rfl rfl (ZaK rfl rfl (ZaK rfl rfl (ZaK rfl rfl (ZaK rfl rfl (ZaK rfl rfl (ZaK rfl rfl (z9 (zm (t:=false) (v:=.b false) rfl rfl rfl) ?_)))))))
   refine ZaS (.b false) rfl (Zcu ?_)
   refine And.intro ?_ ?_
   ·intro q hq
    simp only [List.mem_cons,List.not_mem_nil,or_false] at hq
    rcases hq with rfl
    ·exact Ze7
   refine Za (Zad (zu (zG (n:=4) (v:=.b false) rfl ZN) ?_))
   cases hp
   exact ⟨rfl,(hO'2.pick [] rfl (by decide))⟩
 ·skip
  refine ZaK rfl b'1 (ZaK rfl b'1 (ZaK rfl b'1 (ZaK rfl b'1 (ZaK rfl b'1 (z9 (zm (t:=(decide (0≤d.Cell))) (v:=.b false) rfl b'1 rfl) (ZaS (.b false) rfl (ZaK rfl rfl ?_)))))))
  refine ZaK rfl rfl (ZaK rfl rfl (z9 (zm (t:=false) (v:=.b false) rfl rfl rfl) (ZaS (.b false) rfl (ZaK rfl rfl (ZaK rfl rfl (ZaK rfl rfl (ZaK rfl rfl ?_)))))))
  refine ZaK rfl rfl (ZaK rfl rfl (ZaK rfl rfl (ZaK rfl rfl (ZaK rfl rfl (ZaK rfl rfl (z9 (zm (t:=false) (v:=.b false) rfl rfl rfl) (ZaS (.b false) rfl ?_)))))))
  refine Zcu ?_
  refine And.intro ?_ ?_
  ·intro q hq
   simp only [List.mem_cons,List.not_mem_nil,or_false] at hq
   rcases hq with rfl
   ·exact Ze7
  refine Za (Zad (zu (zG (n:=4) (v:=.b false) rfl ZN) ?_))
  cases hp
  exact ⟨rfl,(hO'2.pick [] rfl (by decide))⟩

theorem Zav.ok {h:Hp} {d:Zy} {cells:List Ze} {v_cells:V} (s_cells:Sl Zn h v_cells cells) {r:Zy} (hp:Zav d cells = some r) :
  ∃ u k',Is G 221 [.ag (Zl.c d),v_cells] h u k'∧V.ag (Zl.c r) = u∧Own (fun r=>r < h.n) h k' []:=by
 refine WC.is (ZaM ZdC ?_)
 unfold Zav at hp
 let B:Nat→Prop:=(fun r=>r < h.n)
 have hO:Own B h h []:=Own.start0 h
 refine Zh (Zk (zQ (hO.boxd (v:=.ag (Zl.c d)) (cs:=Zl.c d) hO.fr rfl rfl) ?_))
 rintro _ k'1 ⟨r'1,rfl,n'1,f'1,hW⟩
 have hO'1:=hW
 refine zQ (hO'1.alloc (cs:=Zl.c (⟨0,0⟩:Zy)) hO'1.fr) ?_
 rintro _ k'2 ⟨r'2,rfl,n'2,f'2,hW⟩
 have hO'2:=hW
 refine Zb (Za (Zh (ZgF ?_)))
 have hW:=hO'2.bump 10
 have hO'3:=hW
 refine ZaE v_cells rfl (ze rfl (ZaL (r:=r'1) (o:=0) (o':=0) rfl rfl) (ze rfl (Zac (cs:=(Zl.c d)) (v:=.n d.Cell) (hO'3.box 0 rfl) rfl rfl) (ze rfl (ZaL (r:=r'1) (o:=0) (o':=1) rfl rfl) (ze rfl (Zac (cs:=(Zl.c d)) (v:=.n d.Dir) (hO'3.box 0 rfl) rfl rfl) ?_))))
 obtain ⟨c'1,hp⟩:=Zj hp
 refine ze rfl (zf (E:=Zn) (z:=d.Cell) (hO'3.rd0 s_cells.rd) rfl rfl c'1) (ze rfl (Za1 (off':=0) (off2:=0) (hO'3.rd0 s_cells.rd) (Zi c'1) rfl rfl) ?_)
 obtain ⟨c'2,hp⟩:=Zj hp
 refine ze rfl (ZbC (off:=0) (off2:=(0 + (d.Dir:Int).toNat * 1)) (z:=d.Dir) (hO'3.rd0 s_cells.rd) (Zi c'1) rfl rfl c'2 rfl) (ze rfl (zB (w:=.n (((gi cells (d.Cell:Int).toNat).Next).get d.Dir)) (hO'3.rd0 s_cells.rd) rfl (Zi c'1) (zO c'2)) (ZaE (.n (((gi cells (d.Cell:Int).toNat).Next).get d.Dir)) rfl (Za9 (Za (Zh (Zh (Zk ?_)))))))
 refine Zg (ZbB (cs:=ZcF.c (⟨1,0,(-1),2⟩:A4 Int)) (by rw [(zt (v:=.n 1) rfl (zt (v:=.n 0) rfl (zt (v:=.n (-1)) rfl (zt (v:=.n 2) rfl Za2))))]; rfl)) (Zd (.n 0) rfl (Zb (Za (Zaq ?_))))
 obtain ⟨o'1,ho'1,hp⟩:=Zq hp
 refine W.mono (Q:=fun e fr k=>match (generalizing:=false) o'1 with
   | .inl _=>e = (.exit 0)∧fr 2 = .p r'1 0∧fr 4 = .p r'2 0∧Own B h k [ZbF r'1 (Zl.c d),ZbF r'2 (Zl.c (⟨0,0⟩:Zy))]
   | .inr x1=>e = .ret∧fr 4 = .p r'2 0∧Own B h k [ZbF r'2 (Zl.c x1)]) ?_ ?_
 ·clear hp
  refine zP (fun st fr k=>match st with | x=>fr 1 = v_cells∧fr 2 = .p r'1 0∧fr 4 = .p r'2 0∧fr 5 = .n (((gi cells (d.Cell:Int).toNat).Next).get d.Dir)∧fr 18 = .ag (ZcF.c (⟨1,0,(-1),2⟩:A4 Int))∧fr 19 = .n x∧Own B h k [ZbF r'1 (Zl.c d),ZbF r'2 (Zl.c (⟨0,0⟩:Zy))]) ho'1 (s:=0) ⟨rfl,rfl,rfl,rfl,rfl,rfl,(hO'3.pick [0,1] rfl (by decide))⟩ ?_
  rintro x q'2 k'5 ⟨q'2_1,q'2_2,q'2_4,q'2_5,q'2_18,q'2_19,hO'5⟩ o'2 hp
  dsimp only [Zav.s0] at hp
  refine Zh (Zk (Zg (zN (a:=x) (b:=4) q'2_19 rfl) (Zb (Za (Zh ?_)))))
  rcases Zp hp with ⟨b'1,hp⟩ | ⟨b'1,hp⟩
  ·refine zA (t:=(decide (x < 4))) rfl b'1 ?_
   refine zD (Za (Zh (Zaq (Zh (Zk ?_)))))
   obtain ⟨c'3,hp⟩:=Zj hp
   refine Zg (ZmR (cs:=ZcF.c (⟨1,0,(-1),2⟩:A4 Int)) (z:=x) (v:=.n ((⟨1,0,(-1),2⟩:A4 Int).get x)) q'2_18 q'2_19 c'3 (Zh6 c'3)) (Zd (.n ((⟨1,0,(-1),2⟩:A4 Int).get x)) rfl (Zb (Za (Zh (Zk (Zd (.n (((gi cells (d.Cell:Int).toNat).Next).get d.Dir)) q'2_5 (Zg (ZaL (r:=r'1) (o:=0) (o':=1) q'2_2 rfl) ?_)))))))
   refine Zg (Zac (cs:=(Zl.c d)) (v:=.n d.Dir) (hO'5.box 0 rfl) rfl rfl) (Zd (.n ((⟨1,0,(-1),2⟩:A4 Int).get x)) rfl ?_)
   obtain ⟨x2,hx'1,hp⟩:=Zq hp
   obtain ⟨u'1,k'6,ca'1,rfl,hW'1⟩:=Zbr.ok (h:=k'5)   hx'1
   refine Zbd (id:=77) (caps:=[]) rfl (Zu (v:=.n d.Dir) rfl (Zu (v:=.n ((⟨1,0,(-1),2⟩:A4 Int).get x)) rfl zx)) ca'1 ?_
   have hO'6:=hO'5.call hW'1 rfl
   refine Zg (ZbB (cs:=Zl.c (⟨((gi cells (d.Cell:Int).toNat).Next).get d.Dir,x2⟩:Zy)) (by rw [(zt (v:=.n (((gi cells (d.Cell:Int).toNat).Next).get d.Dir)) rfl (zt (v:=.n x2) rfl Za2))]; rfl)) (zQ (hO'6.alloc (cs:=Zl.c (⟨0,0⟩:Zy)) hO'6.fr) ?_)
   rintro _ k'7 ⟨r'3,rfl,n'3,f'3,hW⟩
   have hO'7:=hW
   refine zQ (hO'7.stb (ws:=Zl.c (⟨((gi cells (d.Cell:Int).toNat).Next).get d.Dir,x2⟩:Zy)) (cs':=Zl.c (⟨((gi cells (d.Cell:Int).toNat).Next).get d.Dir,x2⟩:Zy)) (v:=.ag (Zl.c (⟨((gi cells (d.Cell:Int).toNat).Next).get d.Dir,x2⟩:Zy))) 2 rfl rfl rfl rfl ⟨rfl,Nat.le_of_ble_eq_true rfl,rfl⟩ rfl) ?_
   rintro _ k'8 ⟨rfl,f'4,m'1,hW⟩
   have hO'8:=hW
   refine Zb (Za (Zh (Zk (Zg (Zb7 (cs:=(Zl.c (⟨((gi cells (d.Cell:Int).toNat).Next).get d.Dir,x2⟩:Zy))) (ws:=Zl.c (⟨((gi cells (d.Cell:Int).toNat).Next).get d.Dir,x2⟩:Zy)) (hO'8.box 2 rfl) rfl rfl) (Zd v_cells q'2_1 ?_)))))
   obtain ⟨x3,hx'2,hp⟩:=Zq hp
   obtain ⟨u'2,k'9,ca'2,rfl,hW'2⟩:=Zbs.ok (h:=k'8)  (hO'8.rd0 s_cells.rd) hx'2
   refine Zbd (id:=220) (caps:=[]) rfl (Zu (v:=.ag (Zl.c (⟨((gi cells (d.Cell:Int).toNat).Next).get d.Dir,x2⟩:Zy))) rfl (Zu (v:=v_cells) rfl zx)) ca'2 ?_
   have hO'9:=hO'8.call hW'2 rfl
   refine Zb (Za ?_)
   rcases Zp hp with ⟨b'2,hp⟩ | ⟨b'2,hp⟩
   ·refine zA (t:=x3) rfl b'2 ?_
    refine Zh (Zk (Zg (Zb7 (cs:=(Zl.c (⟨((gi cells (d.Cell:Int).toNat).Next).get d.Dir,x2⟩:Zy))) (ws:=Zl.c (⟨((gi cells (d.Cell:Int).toNat).Next).get d.Dir,x2⟩:Zy)) (hO'9.box 2 rfl) rfl rfl) (zQ (hO'9.stb (ws:=Zl.c (⟨((gi cells (d.Cell:Int).toNat).Next).get d.Dir,x2⟩:Zy)) (cs':=Zl.c (⟨((gi cells (d.Cell:Int).toNat).Next).get d.Dir,x2⟩:Zy)) (v:=.ag (Zl.c (⟨((gi cells (d.Cell:Int).toNat).Next).get d.Dir,x2⟩:Zy))) 1 rfl q'2_4 rfl rfl ⟨rfl,Nat.le_of_ble_eq_true rfl,rfl⟩ rfl) ?_)))
    rintro _ k'10 ⟨rfl,f'5,m'2,hW⟩
    have hO'10:=hW
    refine Zb (Za (Zad (ZaP (zk ?_))))
    cases hp
    refine (Or.inr ⟨(.inr (⟨((gi cells (d.Cell:Int).toNat).Next).get d.Dir,x2⟩:Zy)),rfl,(fun h=>nomatch h),(fun he=>?_)⟩)
    subst he; exact ⟨rfl,q'2_4,(hO'10.pick [1] rfl (by decide))⟩
   ·refine z7 (t:=x3) rfl b'2 ?_
    refine zD (Zan (Za (Zk ?_)))
    obtain ⟨c'4,hp⟩:=Zj hp
    refine Zg (z6 (a:=x) (b:=1) q'2_19 rfl c'4) (Zd (.n (x + 1)) rfl (Zb ?_))
    cases hp
    exact (Or.inl ⟨x + 1,rfl,rfl,q'2_1,q'2_2,q'2_4,q'2_5,q'2_18,rfl,(hO'9.pick [0,1] rfl (by decide))⟩)
  ·refine z7 (t:=(decide (x < 4))) rfl b'1 ?_
   refine Zbv (zY ?_)
   cases hp
   refine (Or.inr ⟨.inl (),rfl,(fun h=>nomatch h),(fun he=>?_)⟩)
   subst he; exact ⟨rfl,q'2_2,q'2_4,(hO'5.pick [0,1] rfl (by decide))⟩
 intro e'1 q'1 k'4 hJ'1
 rcases o'1 with _ | x1
 ·obtain ⟨rfl,q'1_2,q'1_4,hO'4⟩:=hJ'1
  refine ZaD (Za (Zh (Zk (Zg (Zb7 (cs:=(Zl.c d)) (ws:=Zl.c d) (hO'4.box 0 rfl) q'1_2 rfl) (zQ (hO'4.stb (ws:=Zl.c d) (cs':=Zl.c d) (v:=.ag (Zl.c d)) 1 rfl q'1_4 rfl rfl ⟨rfl,Nat.le_of_ble_eq_true rfl,rfl⟩ rfl) ?_)))))
  rintro _ k'11 ⟨rfl,f'6,m'3,hW⟩
  have hO'11:=hW
  refine Zb (Za (Zad (zu (Zg6 (n:=4) (v:=.ag (Zl.c d)) (r:=r'2) q'1_4 (hO'11.box 1 rfl) rfl ZN) ?_)))
  cases hp
  exact ⟨rfl,(hO'11.pick [] rfl (by decide))⟩
 ·obtain ⟨rfl,q'1_4,hO'4⟩:=hJ'1
  refine ZaP (zk (zu (Zg6 (n:=4) (v:=.ag (Zl.c x1)) (r:=r'2) q'1_4 (hO'4.box 0 rfl) rfl ZN) ?_))
  cases hp
  exact ⟨rfl,(hO'4.pick [] rfl (by decide))⟩

theorem Zaz.ok {h:Hp} {cells:List Ze} {v_cells:V} (s_cells:Sl Zn h v_cells cells) {r:(List (List Zy)) × Int} (hp:Zaz cells = some r) :
  ∃ u k',Is G 203 [v_cells] h u k'∧∃ (v'1:V),∃ (vs'1:List V),V.tu [v'1,.n r.2] = u∧Own (fun r=>r < h.n) h k' [eSl eV v'1 vs'1,ZbE Zl vs'1 r.1]:=by
 refine WC.is (ZaM Zfc ?_)
 unfold Zaz at hp
 let B:Nat→Prop:=(fun r=>r < h.n)
 have hO:Own B h h []:=Own.start0 h
 refine Zh (Zk (Zd (.sn) rfl (Zd (.n 0) rfl (Zb (Za (Zh (Zh ?_)))))))
 refine Zk (Zd v_cells rfl ?_)
 obtain ⟨x,hx'1,hp⟩:=Zq hp
 obtain ⟨u'1,k'1,ca'1,rfl,hW'1⟩:=zV.ok (h:=h)  (hO.rd0 s_cells.rd) hx'1
 refine Zbd (id:=66) (caps:=[]) rfl (Zu (v:=v_cells) rfl zx) ca'1 ?_
 have hO'1:=hO.call hW'1 rfl
 refine Zd (.n x) rfl (Zb (Za (Zh (Zk (Zd (.n x) rfl (Zg (Zck (a:=x) (b:=0) rfl rfl) (Zb ?_)))))))
 refine Za ?_
 rcases Zp hp with ⟨b'1,hp⟩ | ⟨b'1,hp⟩
 ·refine zA (t:=(!(decide (x = 0)))) rfl b'1 ?_
  refine Zh (Zk (Zd (.n x) rfl (Zd (.sn) rfl (Zd (.n x) rfl (Zb (Za (Zad ?_)))))))
  refine zk ?_
  have hO'2:=hO'1.nil eV
  have hO'3:=hO'2.allNil Zl 0
  refine zu (zG (n:=2) (v:=.sn) rfl (zG (n:=3) (v:=.n x) rfl ZN)) ?_
  cases hp
  exact ⟨V.sn,[],rfl,(hO'3.pick [0,1] rfl (by decide))⟩
 ·refine z7 (t:=(!(decide (x = 0)))) rfl b'1 ?_
  refine zD (Za (Zh (Zk (Zd (.sn) rfl (Zb (Za (Zh ?_)))))))
  refine Zk (zQ (hO'1.mkm Zl hO'1.fr) ?_)
  rintro _ k'2 ⟨r'1,rfl,n'1,f'1,hW⟩
  have hO'4:=hW
  refine Zd (.mp r'1) rfl (Zb (Za (Zh (Zh (Zk (Zd v_cells rfl (Zg (Zau (hO'4.rd0 s_cells.rd) rfl) ?_)))))))
  refine Zd (.n 0) rfl (Zb (Za (Zaq ?_)))
  obtain ⟨o'1,ho'1,hp⟩:=Zq hp
  refine W.mono (Q:=fun e fr k=>match (generalizing:=false) o'1 with
    | l1=>e = (.exit 0)∧∃ (v'3:V),∃ (vs'3:List V),fr 5 = v'3∧Own B h k [eSl eV v'3 vs'3,ZbE Zl vs'3 l1]) ?_ ?_
  ·clear hp
   have hO'6:=hO'4.nil eV
   have hO'7:=hO'6.allNil Zl 0
   refine zP (fun st fr k=>match st with | (l,met,x1)=>∃ (v'2:V),∃ (vs'2:List V),fr 0 = v_cells∧fr 5 = v'2∧fr 6 = .mp r'1∧fr 19 = .n (cells.length:Int)∧fr 20 = .n x1∧Own B h k [eSl eV v'2 vs'2,ZbE Zl vs'2 l,eMp Zl r'1 met]) ho'1 (s:=(([]:List (List Zy)),([]:List (Zy × Bool)),0)) ⟨V.sn,[],rfl,rfl,rfl,rfl,rfl,(hO'7.pick [1,2,0] rfl (by decide))⟩ ?_
   rintro ⟨l,met,x1⟩ q'2 k'4 ⟨v'2,vs'2,q'2_0,q'2_5,q'2_6,q'2_19,q'2_20,hO'8⟩ o'2 hp
   dsimp only [Zaz.s0] at hp
   refine Zh (Zk (Zg (zN (a:=x1) (b:=(cells.length:Int)) q'2_20 q'2_19) (Zb (Za (Zh ?_)))))
   rcases Zp hp with ⟨b'2,hp⟩ | ⟨b'2,hp⟩
   ·refine zA (t:=(decide (x1 < (cells.length:Int)))) rfl b'2 ?_
    refine zD (Za (Zh (Zaq (Zh (Zk (Zd (.n x1) q'2_20 (Zd (.n x1) rfl ?_)))))))
    refine Zb (Za (Zh (Zk (Zd (.n 0) rfl (Zb (Za (Zaq ?_)))))))
    obtain ⟨o'3,ho'2,hp⟩:=Zq hp
    refine W.mono (Q:=fun e fr k=>match (generalizing:=false) o'3 with
      | (l3,met2)=>e = (.exit 2)∧∃ (v'5:V),∃ (vs'5:List V),fr 0 = v_cells∧fr 5 = v'5∧fr 6 = .mp r'1∧fr 19 = .n (cells.length:Int)∧fr 20 = .n x1∧Own B h k [eSl eV v'5 vs'5,ZbE Zl vs'5 l3,eMp Zl r'1 met2]) ?_ ?_
    ·clear hp
     refine zP (fun st fr k=>match st with | (l2,met1,x2)=>∃ (v'4:V),∃ (vs'4:List V),fr 0 = v_cells∧fr 5 = v'4∧fr 6 = .mp r'1∧fr 7 = .n x1∧fr 19 = .n (cells.length:Int)∧fr 20 = .n x1∧fr 23 = .n x2∧Own B h k [eSl eV v'4 vs'4,ZbE Zl vs'4 l2,eMp Zl r'1 met1]) ho'2 (s:=(l,met,0)) ⟨v'2,vs'2,q'2_0,q'2_5,q'2_6,rfl,q'2_19,q'2_20,rfl,(hO'8.pick [0,1,2] rfl (by decide))⟩ ?_
     rintro ⟨l2,met1,x2⟩ q'4 k'6 ⟨v'4,vs'4,q'4_0,q'4_5,q'4_6,q'4_7,q'4_19,q'4_20,q'4_23,hO'10⟩ o'4 hp
     dsimp only [Zaz.s1] at hp
     refine Zh (Zk (Zg (zN (a:=x2) (b:=4) q'4_23 rfl) (Zb (Za (Zh ?_)))))
     rcases Zp hp with ⟨b'3,hp⟩ | ⟨b'3,hp⟩
     ·refine zA (t:=(decide (x2 < 4))) rfl b'3 ?_
      refine zD (Za (Zh (Zaq (Zh (Zk (Zd (.n x2) q'4_23 (Zd (.n x2) rfl ?_)))))))
      refine Zb (Za (Zh (Zk (Zd (.n x1) q'4_7 (Zd (.n x2) rfl (Zg (ZbB (cs:=Zl.c (⟨x1,x2⟩:Zy)) (by rw [(zt (v:=.n x1) rfl (zt (v:=.n x2) rfl Za2))]; rfl)) (zQ (hO'10.alloc (cs:=Zl.c (⟨0,0⟩:Zy)) hO'10.fr) ?_)))))))
      rintro _ k'7 ⟨r'2,rfl,n'2,f'2,hW⟩
      have hO'11:=hW
      refine zQ (hO'11.stb (ws:=Zl.c (⟨x1,x2⟩:Zy)) (cs':=Zl.c (⟨x1,x2⟩:Zy)) (v:=.ag (Zl.c (⟨x1,x2⟩:Zy))) 3 rfl rfl rfl rfl ⟨rfl,Nat.le_of_ble_eq_true rfl,rfl⟩ rfl) ?_
      rintro _ k'8 ⟨rfl,f'3,m'1,hW⟩
      have hO'12:=hW
      refine Zb (Za (Zh (Zh (Zk (Zg (Zb7 (cs:=(Zl.c (⟨x1,x2⟩:Zy))) (ws:=Zl.c (⟨x1,x2⟩:Zy)) (hO'12.box 3 rfl) rfl rfl) (Zd v_cells q'4_0 ?_))))))
      obtain ⟨x3,hx'2,hp⟩:=Zq hp
      obtain ⟨u'2,k'9,ca'2,rfl,hW'2⟩:=Zbs.ok (h:=k'8)  (hO'12.rd0 s_cells.rd) hx'2
      refine Zbd (id:=220) (caps:=[]) rfl (Zu (v:=.ag (Zl.c (⟨x1,x2⟩:Zy))) rfl (Zu (v:=v_cells) rfl zx)) ca'2 ?_
      have hO'13:=hO'12.call hW'2 rfl
      refine Zg (Zc3 (t:=x3) rfl) (Zd (.b (!x3)) rfl ?_)
      refine Za0 4 (fun fr' k'=>k'9 = k'∧fr' 37 = .b ((!x3) || (Zds false (⟨x1,x2⟩:Zy) met1))∧fr' 0 = v_cells∧fr' 19 = .n (cells.length:Int)∧fr' 20 = .n x1∧fr' 23 = .n x2∧fr' 5 = v'4∧fr' 6 = .mp r'1∧fr' 7 = .n x1∧fr' 9 = .p r'2 0) ?_ ?_
      ·rcases bc (!x3) with b'4 | b'4
       ·skip
        refine Zv rfl b'4 (Zv rfl b'4 (Zv rfl b'4 (Zg (zr (t:=(!x3)) (v:=.b ((!x3) || (Zds false (⟨x1,x2⟩:Zy) met1))) rfl b'4 (Eq.trans (b:=V.b true) rfl (Zbx b'4))) (Zb ?_))))
        exact ⟨rfl,rfl,q'4_0,q'4_19,q'4_20,q'4_23,q'4_5,q'4_6,q'4_7,rfl⟩
       ·skip
        refine Z8 rfl b'4 (Zd (.mp r'1) q'4_6 (Z8 rfl b'4 (Zg (Zb7 (cs:=(Zl.c (⟨x1,x2⟩:Zy))) (ws:=Zl.c (⟨x1,x2⟩:Zy)) (hO'13.box 3 rfl) rfl rfl) (Z8 rfl b'4 (Zg (Zlq (E:=Zl) (m:=met1) (q:=(⟨x1,x2⟩:Zy)) (hO'13.mpP 2 rfl) rfl rfl (Mu.Zl.same)) (Zg (zm (t:=(!x3)) (v:=.b ((!x3) || (Zds false (⟨x1,x2⟩:Zy) met1))) rfl b'4 (Eq.trans (b:=V.b (Zds false (⟨x1,x2⟩:Zy) met1)) rfl (Zca b'4))) (Zb ?_)))))))
        exact ⟨rfl,rfl,q'4_0,q'4_19,q'4_20,q'4_23,q'4_5,q'4_6,q'4_7,rfl⟩
      rintro frg'1 _ ⟨rfl,g'1_37,g'1_0,g'1_19,g'1_20,g'1_23,g'1_5,g'1_6,g'1_7,g'1_9⟩
      refine Zb (Za ?_)
      rcases Zp hp with ⟨b'5,hp⟩ | ⟨b'5,hp⟩
      ·refine zA (t:=((!x3) || (Zds false (⟨x1,x2⟩:Zy) met1))) g'1_37 b'5 ?_
       refine Zbv (zY (ZaD (Za (Zk ?_))))
       obtain ⟨c'1,hp⟩:=Zj hp
       refine Zg (z6 (a:=x2) (b:=1) g'1_23 rfl c'1) (Zd (.n (x2 + 1)) rfl (Zb ?_))
       cases hp
       exact (Or.inl ⟨(l2,met1,x2 + 1),rfl,rfl,v'4,vs'4,g'1_0,g'1_5,g'1_6,g'1_7,g'1_19,g'1_20,rfl,(hO'13.pick [0,1,2] rfl (by decide))⟩)
      ·refine z7 (t:=((!x3) || (Zds false (⟨x1,x2⟩:Zy) met1))) g'1_37 b'5 ?_
       refine zD (Za (Zh (Zk (Zd (.sn) rfl (Zb (Za (Zh ?_)))))))
       refine Zh (Zk (Zg (Zb7 (cs:=(Zl.c (⟨x1,x2⟩:Zy))) (ws:=Zl.c (⟨x1,x2⟩:Zy)) (hO'13.box 3 rfl) g'1_9 rfl) (zQ (hO'13.alloc (cs:=Zl.c (⟨0,0⟩:Zy)) hO'13.fr) ?_)))
       rintro _ k'10 ⟨r'3,rfl,n'3,f'4,hW⟩
       have hO'14:=hW
       refine zQ (hO'14.stb (ws:=Zl.c (⟨x1,x2⟩:Zy)) (cs':=Zl.c (⟨x1,x2⟩:Zy)) (v:=.ag (Zl.c (⟨x1,x2⟩:Zy))) 4 rfl rfl rfl rfl ⟨rfl,Nat.le_of_ble_eq_true rfl,rfl⟩ rfl) ?_
       rintro _ k'11 ⟨rfl,f'5,m'2,hW⟩
       have hO'15:=hW
       refine Zb (Za (Zaq ?_))
       obtain ⟨o'5,ho'3,hp⟩:=Zq hp
       refine W.mono (Q:=fun e fr k=>match (generalizing:=false) o'5 with
         | (met4,f1)=>e = (.exit 4)∧∃ (v'7:V),fr 0 = v_cells∧fr 5 = v'4∧fr 6 = .mp r'1∧fr 7 = .n x1∧fr 10 = v'7∧fr 19 = .n (cells.length:Int)∧fr 20 = .n x1∧fr 23 = .n x2∧Own B h k [eSl eV v'4 vs'4,ZbE Zl vs'4 l2,eMp Zl r'1 met4,eSl Zl v'7 f1]) ?_ ?_
       ·clear hp
        have hO'17:=hO'15.nil Zl
        refine zP (fun st fr k=>match st with | (met3,f,x4)=>∃ (v'6:V),∃ (r'4:Nat),fr 0 = v_cells∧fr 5 = v'4∧fr 6 = .mp r'1∧fr 7 = .n x1∧fr 10 = v'6∧fr 11 = .p r'4 0∧fr 19 = .n (cells.length:Int)∧fr 20 = .n x1∧fr 23 = .n x2∧Own B h k [eSl eV v'4 vs'4,ZbE Zl vs'4 l2,eMp Zl r'1 met3,eSl Zl v'6 f,ZbF r'4 (Zl.c x4)]) ho'3 (s:=(met1,([]:List Zy),(⟨x1,x2⟩:Zy))) ⟨V.sn,r'3,g'1_0,g'1_5,g'1_6,g'1_7,rfl,rfl,g'1_19,g'1_20,g'1_23,(hO'17.pick [0,1,2,5,4] rfl (by decide))⟩ ?_
        rintro ⟨met3,f,x4⟩ q'6 k'13 ⟨v'6,r'4,q'6_0,q'6_5,q'6_6,q'6_7,q'6_10,q'6_11,q'6_19,q'6_20,q'6_23,hO'18⟩ o'6 hp
        dsimp only [Zaz.s2] at hp
        refine Zh (Zh (Zk (Zd (.mp r'1) q'6_6 (Zg (Zb7 (cs:=(Zl.c x4)) (ws:=Zl.c x4) (hO'18.box 4 rfl) q'6_11 rfl) (Zg (Zlq (E:=Zl) (m:=met3) (q:=x4) (hO'18.mpP 2 rfl) rfl rfl (Mu.Zl.same)) (Zg (Zc3 (t:=(Zds false x4 met3)) rfl) (Zb ?_)))))))
        refine Za ?_
        rcases Zp hp with ⟨b'6,hp⟩ | ⟨b'6,hp⟩
        ·refine zA (t:=(!(Zds false x4 met3))) rfl b'6 ?_
         refine zD (Za (Zh (Zaq (Zh (Zk (Zd (.mp r'1) q'6_6 (Zg (Zb7 (cs:=(Zl.c x4)) (ws:=Zl.c x4) (hO'18.box 4 rfl) q'6_11 rfl) ?_)))))))
         refine zQ (hO'18.mup (E:=Zl) (m:=met3) (q:=x4) (v:=true) 2 rfl rfl rfl rfl (Mu.Zl.same)) ?_
         rintro _ k'14 ⟨rfl,f'6,m'3,hW⟩
         have hO'19:=hW
         refine Zb (Za (Zk (Zd v'6 q'6_10 (Zg (Zb7 (cs:=(Zl.c x4)) (ws:=Zl.c x4) (hO'19.box 4 rfl) q'6_11 rfl) (zQ (hO'19.bsl (E:=Zl) (l:=[x4]) hO'19.fr (by rw [(zt (v:=.ag (Zl.c x4)) rfl Za2)]; rfl) rfl) ?_)))))
         rintro v'8 k'15 ⟨r'5,f'7,hW⟩
         have hO'20:=hW
         obtain ⟨c'2,hp⟩:=Zj hp
         refine zQ (hO'20.app (E:=Zl) (bytes:=16) 3 hO'20.fr rfl (hO'20.sl 5 rfl) rfl rfl (fun _=>rfl) c'2 (by decide)) ?_
         rintro v'9 k'16 ⟨f'8,hW⟩
         have hO'21:=hW
         refine Zd v'9 rfl (Zb (Zan (Za (Zh (Zh (Zk (Zg (Zb7 (cs:=(Zl.c x4)) (ws:=Zl.c x4) (hO'21.box 4 rfl) q'6_11 rfl) ?_)))))))
         refine Zb (Za (Zk (zQ (hO'21.alloc (cs:=Zl.c (⟨0,0⟩:Zy)) hO'21.fr) ?_)))
         rintro _ k'17 ⟨r'6,rfl,n'4,f'9,hW⟩
         have hO'22:=hW
         refine zQ (hO'22.stb (ws:=Zl.c x4) (cs':=Zl.c x4) (v:=.ag (Zl.c x4)) 6 rfl rfl rfl rfl ⟨rfl,Nat.le_of_ble_eq_true rfl,rfl⟩ rfl) ?_
         rintro _ k'18 ⟨rfl,f'10,m'4,hW⟩
         have hO'23:=hW
         refine Zb (Za (Zk (Zg (Zb7 (cs:=(Zl.c x4)) (ws:=Zl.c x4) (hO'23.box 6 rfl) rfl rfl) (Zd v_cells q'6_0 ?_))))
         obtain ⟨x5,hx'3,hp⟩:=Zq hp
         obtain ⟨u'3,k'19,ca'3,rfl,hW'3⟩:=Zav.ok (h:=k'18)  (hO'23.rd0 s_cells.rd) hx'3
         refine Zbd (id:=221) (caps:=[]) rfl (Zu (v:=.ag (Zl.c x4)) rfl (Zu (v:=v_cells) rfl zx)) ca'3 ?_
         have hO'24:=hO'23.call hW'3 rfl
         refine zQ (hO'24.stb (ws:=Zl.c x5) (cs':=Zl.c x5) (v:=.ag (Zl.c x5)) 6 rfl rfl rfl rfl ⟨rfl,Nat.le_of_ble_eq_true rfl,rfl⟩ rfl) ?_
         rintro _ k'20 ⟨rfl,f'11,m'5,hW⟩
         have hO'25:=hW
         refine Zb ?_
         cases hp
         exact (Or.inl ⟨(Zex x4 true met3,f++[x4],x5),rfl,rfl,v'9,r'6,q'6_0,q'6_5,q'6_6,q'6_7,rfl,rfl,q'6_19,q'6_20,q'6_23,(hO'25.pick [0,1,2,3,6] rfl (by decide))⟩)
        ·refine z7 (t:=(!(Zds false x4 met3))) rfl b'6 ?_
         refine Zbv (zY ?_)
         cases hp
         refine (Or.inr ⟨(met3,f),rfl,(fun h=>nomatch h),(fun he=>?_)⟩)
         subst he; exact ⟨rfl,v'6,q'6_0,q'6_5,q'6_6,q'6_7,q'6_10,q'6_19,q'6_20,q'6_23,(hO'18.pick [0,1,2,3] rfl (by decide))⟩
       intro e'3 q'5 k'12 hJ'3
       obtain ⟨met4,f1⟩:=o'5
       obtain ⟨rfl,v'7,q'5_0,q'5_5,q'5_6,q'5_7,q'5_10,q'5_19,q'5_20,q'5_23,hO'16⟩:=hJ'3
       refine ZaD (Za (Zk (Zd v'4 q'5_5 (Zd v'7 q'5_10 (zQ (hO'16.bsl (E:=eV) (l:=[v'7]) hO'16.fr (by rw [(zt (v:=v'7) rfl Za2)]; simp only [fill,(hO'16.sl 3 rfl).cells]; simp [over]) rfl) ?_)))))
       rintro v'10 k'21 ⟨r'7,f'12,hW⟩
       have hO'26:=hW
       obtain ⟨c'3,hp⟩:=Zj hp
       refine zQ (hO'26.appV (bytes:=24) 0 hO'26.fr rfl (hO'26.sl 4 rfl) rfl rfl (by simp only [List.all_cons,List.all_nil,Bool.and_true]; exact (hO'26.sl 3 rfl).oneV) (by rw [(hO'26.allLen 1 rfl:(vs'4).length = (l2).length)]; exact c'3) (by decide)) ?_
       rintro v'11 k'22 ⟨f'13,hW⟩
       have hO'27:=hW
       have hO'28:=hO'27.absorb 1 3 rfl rfl (by decide)
       refine Zd v'11 rfl (Zb (Zan (Za (Zk ?_))))
       obtain ⟨c'4,hp⟩:=Zj hp
       refine Zg (z6 (a:=x2) (b:=1) q'5_23 rfl c'4) (Zd (.n (x2 + 1)) rfl (Zb ?_))
       cases hp
       exact (Or.inl ⟨(l2++[f1],met4,x2 + 1),rfl,rfl,v'11,vs'4++[v'7],q'5_0,rfl,q'5_6,q'5_7,q'5_19,q'5_20,rfl,(hO'28.pick [0,1,2] rfl (by decide))⟩)
     ·refine z7 (t:=(decide (x2 < 4))) rfl b'3 ?_
      refine Zbv (zY ?_)
      cases hp
      refine (Or.inr ⟨(l2,met1),rfl,(fun h=>nomatch h),(fun he=>?_)⟩)
      subst he; exact ⟨rfl,v'4,vs'4,q'4_0,q'4_5,q'4_6,q'4_19,q'4_20,(hO'10.pick [0,1,2] rfl (by decide))⟩
    intro e'2 q'3 k'5 hJ'2
    obtain ⟨l3,met2⟩:=o'3
    obtain ⟨rfl,v'5,vs'5,q'3_0,q'3_5,q'3_6,q'3_19,q'3_20,hO'9⟩:=hJ'2
    refine ZaD (Zan (Za (Zk ?_)))
    obtain ⟨c'5,hp⟩:=Zj hp
    refine Zg (z6 (a:=x1) (b:=1) q'3_20 rfl c'5) (Zd (.n (x1 + 1)) rfl (Zb ?_))
    cases hp
    exact (Or.inl ⟨(l3,met2,x1 + 1),rfl,rfl,v'5,vs'5,q'3_0,q'3_5,q'3_6,q'3_19,rfl,(hO'9.pick [0,1,2] rfl (by decide))⟩)
   ·refine z7 (t:=(decide (x1 < (cells.length:Int)))) rfl b'2 ?_
    refine Zbv (zY ?_)
    cases hp
    refine (Or.inr ⟨l,rfl,(fun h=>nomatch h),(fun he=>?_)⟩)
    subst he; exact ⟨rfl,v'2,vs'2,q'2_5,(hO'8.pick [0,1] rfl (by decide))⟩
  intro e'1 q'1 k'3 hJ'1
  obtain ⟨l1,rfl⟩:∃ x,x = o'1:=⟨_,rfl⟩
  obtain ⟨rfl,v'3,vs'3,q'1_5,hO'5⟩:=hJ'1
  refine ZaD (Za (Zh (Zk (Zd v'3 q'1_5 (Zd v'3 rfl (Zd (.n 0) rfl (Zb ?_)))))))
  refine Za (Zad (zu (zG (n:=2) (v:=v'3) rfl (zG (n:=3) (v:=.n 0) rfl ZN)) ?_))
  cases hp
  exact ⟨v'3,vs'3,rfl,(hO'5.pick [0,1] rfl (by decide))⟩

theorem Zcm.ok {h:Hp} {d:Int} {e_:Int}   {r:Int} (hp:Zcm d e_ = some r) :
  ∃ u k',Is G 222 [.n d,.n e_] h u k'∧V.n r = u∧Own (fun r=>r < h.n) h k' []:=by
 refine WC.is (ZaM Ze3 ?_)
 unfold Zcm at hp
 let B:Nat→Prop:=(fun r=>r < h.n)
 have hO:Own B h h []:=Own.start0 h
 refine Zh (Zk (Zd (.n 0) rfl (Zb (Za (Zh (Zh (Zk ?_)))))))
 refine Zd (.n d) rfl ?_
 obtain ⟨x,hx'1,hp⟩:=Zq hp
 obtain ⟨u'1,k'1,ca'1,rfl,hW'1⟩:=Zbq.ok (h:=h)   hx'1
 refine Zbd (id:=90) (caps:=[]) rfl (Zu (v:=.n d) rfl zx) ca'1 ?_
 have hO'1:=hO.call hW'1 rfl
 refine Zg (Zc3 (t:=x) rfl) (Zd (.b (!x)) rfl ?_)
 obtain ⟨t,hv'1,hp⟩:=Zq hp
 refine Za0 4 (fun fr' k'=>Own B h k' []∧fr' 12 = .b t∧fr' 0 = .n d∧fr' 1 = .n e_) ?_ ?_
 ·clear hp; rcases Zp hv'1 with ⟨b'1,hp⟩ | ⟨b'1,hp⟩
  ·skip
   refine Zv rfl b'1 (Zv rfl b'1 (Zv rfl b'1 (Zg (zr (t:=(!x)) (v:=.b t) rfl b'1 (Eq.trans (b:=V.b true) rfl (congrArg V.b (Option.some.inj hp)))) (Zb ?_))))
   exact ⟨hO'1.pick [] rfl (by decide),rfl,rfl,rfl⟩
  ·skip
   refine Z8 rfl b'1 (Zd (.n e_) rfl (Z8 rfl b'1 ?_))
   obtain ⟨x1,hx'2,hp⟩:=Zq hp
   obtain ⟨u'2,k'2,ca'2,rfl,hW'2⟩:=Zbq.ok (h:=k'1)   hx'2
   refine Zbd (id:=90) (caps:=[]) rfl (Zu (v:=.n e_) rfl zx) ca'2 ?_
   have hO'2:=hO'1.call hW'2 rfl
   refine Z8 rfl b'1 (Zg (Zc3 (t:=x1) rfl) (Zg (zm (t:=(!x)) (v:=.b t) rfl b'1 (Eq.trans (b:=V.b (!x1)) rfl (congrArg V.b (Option.some.inj hp)))) (Zb ?_)))
   exact ⟨hO'2.pick [] rfl (by decide),rfl,rfl,rfl⟩
 rintro frg'1 k'3 ⟨hO'3,g'1_12,g'1_0,g'1_1⟩
 refine Zb (Za ?_)
 rcases Zp hp with ⟨b'2,hp⟩ | ⟨b'2,hp⟩
 ·refine zA (t:=t) g'1_12 b'2 ?_
  refine Zh (Zk (Zd (.n 0) rfl (Zb (Za (Zad (zk (zu (zG (n:=4) (v:=.n 0) rfl ZN) ?_)))))))
  cases hp
  exact ⟨rfl,(hO'3.pick [] rfl (by decide))⟩
 ·refine z7 (t:=t) g'1_12 b'2 ?_
  refine zD (Za (Zh (Zk (Zg (ZbB (cs:=ZcF.c (⟨0,1,(-2),(-1)⟩:A4 Int)) (by rw [(zt (v:=.n 0) rfl (zt (v:=.n 1) rfl (zt (v:=.n (-2)) rfl (zt (v:=.n (-1)) rfl Za2))))]; rfl)) (Zd (.n e_) g'1_1 (Zd (.n d) g'1_0 ?_))))))
  obtain ⟨c'1,hp⟩:=Zj hp
  refine Zg (ZgH (a:=e_) (b:=d) rfl rfl c'1) ?_
  obtain ⟨c'2,hp⟩:=Zj hp
  refine Zg (z6 (a:=(e_ - d)) (b:=4) rfl rfl c'2) (Zg (ZcU (a:=((e_ - d) + 4)) (b:=4) rfl rfl (by decide)) ?_)
  obtain ⟨c'3,hp⟩:=Zj hp
  refine Zg (ZmR (cs:=ZcF.c (⟨0,1,(-2),(-1)⟩:A4 Int)) (z:=(((e_ - d) + 4).tmod 4)) (v:=.n ((⟨0,1,(-2),(-1)⟩:A4 Int).get (((e_ - d) + 4).tmod 4))) rfl rfl c'3 (Zh6 c'3)) (Zd (.n ((⟨0,1,(-2),(-1)⟩:A4 Int).get (((e_ - d) + 4).tmod 4))) rfl (Zb (Za (Zad (zu (zG (n:=4) (v:=.n ((⟨0,1,(-2),(-1)⟩:A4 Int).get (((e_ - d) + 4).tmod 4))) rfl ZN) ?_)))))
  cases hp
  exact ⟨rfl,(hO'3.pick [] rfl (by decide))⟩

theorem Zb9.ok {h:Hp} {cells:List Ze} {f:List Zy} {v_cells:V} {v_f:V} (s_cells:Sl Zn h v_cells cells) (s_f:Sl Zl h v_f f) {r:(List Int)} (hp:Zb9 cells f = some r) :
  ∃ u k',Is G 204 [v_cells,v_f] h u k'∧∃ (v'1:V),v'1 = u∧Own (fun r=>r < h.n) h k' [eSl ZM v'1 r]:=by
 refine WC.is (ZaM Zfd ?_)
 unfold Zb9 at hp
 let B:Nat→Prop:=(fun r=>r < h.n)
 have hO:Own B h h []:=Own.start0 h
 refine Zh (Zk (Zd (.sn) rfl (Zb (Za (Zh (Zk (Zd v_f rfl ?_)))))))
 refine Zg (Zau (hO.rd0 s_f.rd) rfl) ?_
 obtain ⟨c'1,hp⟩:=Zj hp
 refine zQ (hO.mks (E:=ZM) (y:=(0:Int)) (bytes:=8) (z:=(f.length:Int)) hO.fr rfl rfl rfl c'1 (by decide)) ?_
 rintro v'2 k'1 ⟨r'1,f'1,hW⟩
 have hO'1:=hW
 refine Zd v'2 rfl (Zb (Za (Zh (Zh (Zk (Zd v_cells rfl ?_))))))
 obtain ⟨x,hx'1,hp⟩:=Zq hp
 obtain ⟨u'1,k'2,ca'1,rfl,hW'1⟩:=zV.ok (h:=k'1)  (hO'1.rd0 s_cells.rd) hx'1
 refine Zbd (id:=66) (caps:=[]) rfl (Zu (v:=v_cells) rfl zx) ca'1 ?_
 have hO'2:=hO'1.call hW'1 rfl
 refine Zg (Zck (a:=x) (b:=0) rfl rfl) (Zb (Za ?_))
 rcases Zp hp with ⟨b'1,hp⟩ | ⟨b'1,hp⟩
 ·refine zA (t:=(!(decide (x = 0)))) rfl b'1 ?_
  refine Zh (Zk (Zd v'2 rfl (Zd v'2 rfl (Zb (Za (Zad (zk ?_)))))))
  refine zu (zG (n:=4) (v:=v'2) rfl ZN) ?_
  cases hp
  exact ⟨v'2,rfl,(hO'2.pick [0] rfl (by decide))⟩
 ·refine z7 (t:=(!(decide (x = 0)))) rfl b'1 ?_
  refine zD (Za (Zh (Zh (Zk (Zd v_f rfl (Zg (Zau (hO'2.rd0 s_f.rd) rfl) (Zd (.n 0) rfl ?_)))))))
  refine Zb (Za (Zaq ?_))
  obtain ⟨o'1,ho'1,hp⟩:=Zq hp
  refine W.mono (Q:=fun e fr k=>match (generalizing:=false) o'1 with
    | l1=>e = (.exit 0)∧fr 5 = v'2∧Own B h k [eSl ZM v'2 l1]) ?_ ?_
  ·clear hp
   refine zP (fun st fr k=>match st with | (l,x1)=>fr 0 = v_cells∧fr 5 = v'2∧fr 15 = v_f∧fr 16 = .n (f.length:Int)∧fr 17 = .n x1∧Own B h k [eSl ZM v'2 l]) ho'1 (s:=(List.replicate ((f.length:Int):Int).toNat (0:Int),0)) ⟨rfl,rfl,rfl,rfl,rfl,(hO'2.pick [0] rfl (by decide))⟩ ?_
   rintro ⟨l,x1⟩ q'2 k'4 ⟨q'2_0,q'2_5,q'2_15,q'2_16,q'2_17,hO'4⟩ o'2 hp
   dsimp only [Zb9.s0] at hp
   refine Zh (Zk (Zg (zN (a:=x1) (b:=(f.length:Int)) q'2_17 q'2_16) (Zb (Za (Zh ?_)))))
   rcases Zp hp with ⟨b'2,hp⟩ | ⟨b'2,hp⟩
   ·refine zA (t:=(decide (x1 < (f.length:Int)))) rfl b'2 ?_
    refine zD (Za (Zh (Zaq (Zh (Zk (Zd (.n x1) q'2_17 ?_))))))
    obtain ⟨c'2,hp⟩:=Zj hp
    refine Zg (zf (E:=Zl) (z:=x1) (hO'4.rd0 s_f.rd) q'2_15 q'2_17 c'2) (Zg (Zd5 (E:=Zl) (hO'4.rd0 s_f.rd) rfl (Zi c'2)) (zQ (hO'4.alloc (cs:=Zl.c (⟨0,0⟩:Zy)) hO'4.fr) ?_))
    rintro _ k'5 ⟨r'2,rfl,n'1,f'2,hW⟩
    have hO'5:=hW
    refine Zd (.n x1) rfl (zQ (hO'5.stb (ws:=Zl.c (gi f x1.toNat)) (cs':=Zl.c (gi f x1.toNat)) (v:=.ag (Zl.c (gi f x1.toNat))) 1 rfl rfl rfl rfl ⟨rfl,Nat.le_of_ble_eq_true rfl,rfl⟩ rfl) ?_)
    rintro _ k'6 ⟨rfl,f'3,m'1,hW⟩
    have hO'6:=hW
    refine Zb (Za (Zh (Zk (Zg (Zb7 (cs:=(Zl.c (gi f x1.toNat))) (ws:=Zl.c (gi f x1.toNat)) (hO'6.box 1 rfl) rfl rfl) (Zd v_cells q'2_0 ?_)))))
    obtain ⟨x2,hx'2,hp⟩:=Zq hp
    obtain ⟨u'2,k'7,ca'2,rfl,hW'2⟩:=Zbs.ok (h:=k'6)  (hO'6.rd0 s_cells.rd) hx'2
    refine Zbd (id:=220) (caps:=[]) rfl (Zu (v:=.ag (Zl.c (gi f x1.toNat))) rfl (Zu (v:=v_cells) rfl zx)) ca'2 ?_
    have hO'7:=hO'6.call hW'2 rfl
    refine Zb (Za ?_)
    rcases Zp hp with ⟨b'3,hp⟩ | ⟨b'3,hp⟩
    ·refine zA (t:=x2) rfl b'3 ?_
     refine Zfi ?_
     have hW:=hO'7.bump 11
     have fr'1:=Fresh.start k'7 11
     have nb'1:∀ {i:Nat},h.n≤k'7.n + i:=Nat.le_trans hO'7.n (Nat.le_add_right _ _)
     have hO'8:=hW
     refine ZaS v'2 q'2_5 (ZaS (.n x1) rfl (z9 (ZaL (r:=r'2) (o:=0) (o':=1) rfl rfl) (z9 (Zac (cs:=(Zl.c (gi f x1.toNat))) (v:=.n ((gi f x1.toNat).Dir)) (hO'8.box 1 rfl) rfl rfl) (z9 (Zb7 (cs:=(Zl.c (gi f x1.toNat))) (ws:=Zl.c (gi f x1.toNat)) (hO'8.box 1 rfl) rfl rfl) (ZaS v_cells q'2_0 ?_)))))
     obtain ⟨x3,hx'3,hp⟩:=Zq hp
     obtain ⟨u'3,k'9,ca'3,rfl,hW'3⟩:=Zav.ok (h:=(k'7.bump 11))  (hO'8.rd0 s_cells.rd) hx'3
     refine Zgf (id:=221) (caps:=[]) rfl (Zu (v:=.ag (Zl.c (gi f x1.toNat))) rfl (Zu (v:=v_cells) rfl zx)) ca'3 ?_
     have fr'2:=fr'1.call hW'3
     have hO'9:=hO'8.call hW'3 rfl
     refine z9 (ZmQ (cs:=Zl.c x3) (v:=.n x3.Dir) rfl rfl) ?_
     obtain ⟨x4,hx'4,hp⟩:=Zq hp
     obtain ⟨u'4,k'10,ca'4,rfl,hW'4⟩:=Zcm.ok (h:=k'9)   hx'4
     refine Zgf (id:=222) (caps:=[]) rfl (Zu (v:=.n ((gi f x1.toNat).Dir)) rfl (Zu (v:=.n x3.Dir) rfl zx)) ca'4 ?_
     have fr'3:=fr'2.call hW'4
     have hO'10:=hO'9.call hW'4 rfl
     obtain ⟨c'3,hp⟩:=Zj hp
     refine z9 (zf (E:=ZM) (z:=x1) (hO'10.sl 0 rfl) rfl rfl c'3) (Ze5 (hO'10.ste (E:=ZM) (y:=x4) (ws:=[.n x4]) 0 rfl rfl (Zi c'3) rfl rfl ⟨rfl,Nat.le_of_ble_eq_true rfl,rfl⟩ rfl) ?_)
     rintro _ k'11 z'1 ⟨rfl,f'4,m'2,hW⟩
     have fr'4:=fr'3.kept f'4 (by decide)
     have hO'11:=hW
     refine Zcu ?_
     refine And.intro ?_ ?_
     ·intro q hq
      simp only [List.mem_cons,List.not_mem_nil,or_false] at hq
      rcases hq with rfl | rfl
      ·refine ZaF ?_ ?_
       ·exact (fun h=>nomatch h)
       ·exact (fun h=>nomatch h)
      ·refine ZjO rfl rfl ?_
       ·exact (fun r hm hc=>hc (hW'3.base r (Nat.lt_of_lt_of_le (hO'7.ltAt 1 rfl _ (tch (v:=V.p r'2 1) (ZcH hm) rfl)) (Nat.le_trans (Nat.le_add_right _ _) fr'1.n))))
     refine Zan (Za (Zk ?_))
     obtain ⟨c'4,hp⟩:=Zj hp
     refine Zg (z6 (a:=x1) (b:=1) q'2_17 rfl c'4) (Zd (.n (x1 + 1)) rfl (Zb ?_))
     cases hp
     exact (Or.inl ⟨(l.set x1.toNat x4,x1 + 1),rfl,rfl,q'2_0,q'2_5,q'2_15,q'2_16,rfl,(hO'11.pick [0] rfl (by decide))⟩)
    ·refine z7 (t:=x2) rfl b'3 ?_
     refine zD (Zan (Za (Zk ?_)))
     obtain ⟨c'5,hp⟩:=Zj hp
     refine Zg (z6 (a:=x1) (b:=1) q'2_17 rfl c'5) (Zd (.n (x1 + 1)) rfl (Zb ?_))
     cases hp
     exact (Or.inl ⟨(l,x1 + 1),rfl,rfl,q'2_0,q'2_5,q'2_15,q'2_16,rfl,(hO'7.pick [0] rfl (by decide))⟩)
   ·refine z7 (t:=(decide (x1 < (f.length:Int)))) rfl b'2 ?_
    refine Zbv (zY ?_)
    cases hp
    refine (Or.inr ⟨l,rfl,(fun h=>nomatch h),(fun he=>?_)⟩)
    subst he; exact ⟨rfl,q'2_5,(hO'4.pick [0] rfl (by decide))⟩
  intro e'1 q'1 k'3 hJ'1
  obtain ⟨l1,rfl⟩:∃ x,x = o'1:=⟨_,rfl⟩
  obtain ⟨rfl,q'1_5,hO'3⟩:=hJ'1
  refine ZaD (Za (Zh (Zk (Zd v'2 q'1_5 (Zd v'2 rfl (Zb (Za ?_)))))))
  refine Zad (zu (zG (n:=4) (v:=v'2) rfl ZN) ?_)
  cases hp
  exact ⟨v'2,rfl,(hO'3.pick [0] rfl (by decide))⟩

theorem Zbi.ok {h:Hp} {turns:List Int} {v_turns:V} (s_turns:Sl ZM h v_turns turns) {r:Int} (hp:Zbi turns = some r) :
  ∃ u k',Is G 219 [v_turns] h u k'∧V.n r = u∧Own (fun r=>r < h.n) h k' []:=by
 refine WC.is (ZaM Zeu ?_)
 unfold Zbi at hp
 let B:Nat→Prop:=(fun r=>r < h.n)
 have hO:Own B h h []:=Own.start0 h
 refine Zh (Zk (Zd (.n 0) rfl (Zb (Za (Zh (Zk (Zd (.n 0) rfl ?_)))))))
 refine Zb (Za (Zh (Zh (Zk (Zd v_turns rfl (Zg (Zau (hO.rd0 s_turns.rd) rfl) (Zd (.n 0) rfl ?_)))))))
 refine Zb (Za (Zaq ?_))
 obtain ⟨o'1,ho'1,hp⟩:=Zq hp
 refine W.mono (Q:=fun e fr k=>match (generalizing:=false) o'1 with
   | n1=>e = (.exit 0)∧fr 3 = .n n1∧Own B h k []) ?_ ?_
 ·clear hp
  refine zP (fun st fr k=>match st with | (n,x)=>fr 3 = .n n∧fr 6 = v_turns∧fr 7 = .n (turns.length:Int)∧fr 8 = .n x∧Own B h k []) ho'1 (s:=(0,0)) ⟨rfl,rfl,rfl,rfl,(hO.pick [] rfl (by decide))⟩ ?_
  rintro ⟨n,x⟩ q'2 k'2 ⟨q'2_3,q'2_6,q'2_7,q'2_8,hO'2⟩ o'2 hp
  dsimp only [Zbi.s0] at hp
  refine Zh (Zk (Zg (zN (a:=x) (b:=(turns.length:Int)) q'2_8 q'2_7) (Zb (Za (Zh ?_)))))
  rcases Zp hp with ⟨b'1,hp⟩ | ⟨b'1,hp⟩
  ·refine zA (t:=(decide (x < (turns.length:Int)))) rfl b'1 ?_
   refine zD (Za (Zh (Zaq (Zh (Zk ?_)))))
   obtain ⟨c'1,hp⟩:=Zj hp
   refine Zg (zf (E:=ZM) (z:=x) (hO'2.rd0 s_turns.rd) q'2_6 q'2_8 c'1) (Zg (zB (w:=.n (gi turns x.toNat)) (hO'2.rd0 s_turns.rd) rfl (Zi c'1) rfl) (Zd (.n (gi turns x.toNat)) rfl (Zb (Za (Zh (Zk (Zd (.n (gi turns x.toNat)) rfl ?_)))))))
   refine Zg (Zcs (a:=(gi turns x.toNat)) (b:=(-2)) rfl rfl) (Zd (.b (decide ((-2)≤(gi turns x.toNat)))) rfl ?_)
   refine Za0 3 (fun fr' k'=>k'2 = k'∧fr' 17 = .b ((decide ((-2)≤(gi turns x.toNat))) && (decide ((gi turns x.toNat)≤1)))∧fr' 3 = .n n∧fr' 5 = .n (gi turns x.toNat)∧fr' 6 = v_turns∧fr' 7 = .n (turns.length:Int)∧fr' 8 = .n x) ?_ ?_
   ·rcases bc (decide ((-2)≤(gi turns x.toNat))) with b'2 | b'2
    ·skip
     refine Z8 rfl b'2 (Zd (.n (gi turns x.toNat)) rfl (Z8 rfl b'2 (Zg (ZgG (a:=(gi turns x.toNat)) (b:=1) rfl rfl) (Zg (zr (t:=(decide ((-2)≤(gi turns x.toNat)))) (v:=.b ((decide ((-2)≤(gi turns x.toNat))) && (decide ((gi turns x.toNat)≤1)))) rfl b'2 (Eq.trans (b:=V.b (decide ((gi turns x.toNat)≤1))) rfl (Zd7 b'2))) (Zb ?_)))))
     exact ⟨rfl,rfl,q'2_3,rfl,q'2_6,q'2_7,q'2_8⟩
    ·skip
     refine Zv rfl b'2 (Zv rfl b'2 (Zg (zm (t:=(decide ((-2)≤(gi turns x.toNat)))) (v:=.b ((decide ((-2)≤(gi turns x.toNat))) && (decide ((gi turns x.toNat)≤1)))) rfl b'2 (Eq.trans (b:=V.b false) rfl (ZcN b'2))) (Zb ?_)))
     exact ⟨rfl,rfl,q'2_3,rfl,q'2_6,q'2_7,q'2_8⟩
   rintro frg'1 _ ⟨rfl,g'1_17,g'1_3,g'1_5,g'1_6,g'1_7,g'1_8⟩
   refine Zb (Za ?_)
   rcases Zp hp with ⟨b'3,hp⟩ | ⟨b'3,hp⟩
   ·refine zA (t:=((decide ((-2)≤(gi turns x.toNat))) && (decide ((gi turns x.toNat)≤1)))) g'1_17 b'3 ?_
    refine Zk (Zd (.n n) g'1_3 (Zd (.n (gi turns x.toNat)) g'1_5 ?_))
    obtain ⟨c'2,hp⟩:=Zj hp
    refine Zg (z6 (a:=n) (b:=(gi turns x.toNat)) rfl rfl c'2) (Zd (.n (n + (gi turns x.toNat))) rfl (Zb (Zan (Za (Zk ?_)))))
    obtain ⟨c'3,hp⟩:=Zj hp
    refine Zg (z6 (a:=x) (b:=1) g'1_8 rfl c'3) (Zd (.n (x + 1)) rfl (Zb ?_))
    cases hp
    exact (Or.inl ⟨(n + (gi turns x.toNat),x + 1),rfl,rfl,rfl,g'1_6,g'1_7,rfl,(hO'2.pick [] rfl (by decide))⟩)
   ·refine z7 (t:=((decide ((-2)≤(gi turns x.toNat))) && (decide ((gi turns x.toNat)≤1)))) g'1_17 b'3 ?_
    refine zD (Zan (Za (Zk ?_)))
    obtain ⟨c'4,hp⟩:=Zj hp
    refine Zg (z6 (a:=x) (b:=1) g'1_8 rfl c'4) (Zd (.n (x + 1)) rfl (Zb ?_))
    cases hp
    exact (Or.inl ⟨(n,x + 1),rfl,rfl,g'1_3,g'1_6,g'1_7,rfl,(hO'2.pick [] rfl (by decide))⟩)
  ·refine z7 (t:=(decide (x < (turns.length:Int)))) rfl b'1 ?_
   refine Zbv (zY ?_)
   cases hp
   refine (Or.inr ⟨n,rfl,(fun h=>nomatch h),(fun he=>?_)⟩)
   subst he; exact ⟨rfl,q'2_3,(hO'2.pick [] rfl (by decide))⟩
 intro e'1 q'1 k'1 hJ'1
 obtain ⟨n1,rfl⟩:∃ x,x = o'1:=⟨_,rfl⟩
 obtain ⟨rfl,q'1_3,hO'1⟩:=hJ'1
 refine ZaD (Za (Zh (Zk (Zd (.n n1) q'1_3 (Zd (.n n1) rfl (Zb (Za ?_)))))))
 refine Zad (zu (zG (n:=2) (v:=.n n1) rfl ZN) ?_)
 cases hp
 exact ⟨rfl,(hO'1.pick [] rfl (by decide))⟩

theorem Zbu.ok {h:Hp} {cells:List Ze} {v_cells:V} (s_cells:Sl Zn h v_cells cells) {r:Int × Bool} (hp:Zbu cells = some r) :
  ∃ u k',Is G 201 [v_cells] h u k'∧V.tu [.n r.1,.b r.2] = u∧Own (fun r=>r < h.n) h k' []:=by
 refine WC.is (ZaM ZeU ?_)
 unfold Zbu at hp
 let B:Nat→Prop:=(fun r=>r < h.n)
 have hO:Own B h h []:=Own.start0 h
 refine Zh (Zk (Zd (.n 0) rfl (Zd (.b false) rfl (Zb (Za (Zh (Zk ?_)))))))
 refine Zd v_cells rfl ?_
 obtain ⟨⟨x,x1⟩,hx'1,hp⟩:=Zq hp
 obtain ⟨u'1,k'1,ca'1,v'1,vs'1,rfl,hW'1⟩:=Zaz.ok (h:=h)  (hO.rd0 s_cells.rd) hx'1
 refine Zbd (id:=203) (caps:=[]) rfl (Zu (v:=v_cells) rfl zx) ca'1 ?_
 have hO'1:=hO.call hW'1 rfl
 refine Zd (.tu [v'1,.n x1]) rfl (Zg (Zb6 (vs:=[v'1,.n x1]) (v:=v'1) rfl rfl) (Zg (Zb6 (vs:=[v'1,.n x1]) (v:=.n x1) rfl rfl) (Zd v'1 rfl (Zd (.n x1) rfl (Zb (Za (Zh ?_)))))))
 refine Zk (Zd (.n (-1)) rfl (Zb (Za (Zh (Zh (Zk (Zd v'1 rfl ?_)))))))
 refine Zg (Zej (n:=(x).length) (hO'1.sl 0 rfl) (hO'1.allLen 1 rfl:(vs'1).length = (x).length) rfl) (Zd (.n 0) rfl (Zb (Za (Zaq ?_))))
 obtain ⟨o'1,ho'1,hp⟩:=Zq hp
 refine W.mono (Q:=fun e fr k=>match (generalizing:=false) o'1 with
   | .inl at_1=>e = (.exit 0)∧fr 6 = .n at_1∧Own B h k []
   | .inr _=>e = .ret∧fr 2 = .n 0∧fr 3 = .b false∧Own B h k []) ?_ ?_
 ·clear hp
  refine zP (fun st fr k=>match st with | (at_,x2)=>fr 0 = v_cells∧fr 6 = .n at_∧fr 14 = v'1∧fr 15 = .n (x.length:Int)∧fr 16 = .n x2∧Own B h k [eSl eV v'1 vs'1,ZbE Zl vs'1 x]) ho'1 (s:=((-1),0)) ⟨rfl,rfl,rfl,rfl,rfl,(hO'1.pick [0,1] rfl (by decide))⟩ ?_
  rintro ⟨at_,x2⟩ q'2 k'3 ⟨q'2_0,q'2_6,q'2_14,q'2_15,q'2_16,hO'3⟩ o'2 hp
  dsimp only [Zbu.s0] at hp
  refine Zh (Zk (Zg (zN (a:=x2) (b:=(x.length:Int)) q'2_16 q'2_15) (Zb (Za (Zh ?_)))))
  rcases Zp hp with ⟨b'1,hp⟩ | ⟨b'1,hp⟩
  ·refine zA (t:=(decide (x2 < (x.length:Int)))) rfl b'1 ?_
   refine zD (Za (Zh (Zaq (Zh (Zk (Zd (.n x2) q'2_16 ?_))))))
   obtain ⟨c'1,hp⟩:=Zj hp
   refine Zg (zf (E:=eV) (z:=x2) (hO'3.sl 0 rfl) q'2_14 q'2_16 (by rw [(hO'3.allLen 1 rfl:(vs'1).length = (x).length)]; exact c'1)) (Zg (zB (w:=(gi vs'1 x2.toNat)) (hO'3.sl 0 rfl) rfl (by rw [(hO'3.allLen 1 rfl:(vs'1).length = (x).length)]; exact Zi c'1) rfl) (Zd (.n x2) rfl (Zd ((gi vs'1 x2.toNat)) rfl (Zb (Za (Zh (Zk ?_)))))))
   refine Zd v_cells q'2_0 (Zd ((gi vs'1 x2.toNat)) rfl ?_)
   obtain ⟨x3,hx'2,hp⟩:=Zq hp
   obtain ⟨u'2,k'4,ca'2,v'2,rfl,hW'2⟩:=Zb9.ok (h:=k'3)  (hO'3.rd0 s_cells.rd) (hO'3.inn 1 rfl (Zi c'1):Sl Zl k'3 (gi vs'1 x2.toNat) (gi x x2.toNat)) hx'2
   refine Zbd (id:=204) (caps:=[]) rfl (Zu (v:=v_cells) rfl (Zu (v:=(gi vs'1 x2.toNat)) rfl zx)) ca'2 ?_
   have hO'4:=hO'3.call hW'2 rfl
   obtain ⟨x4,hx'3,hp⟩:=Zq hp
   obtain ⟨u'3,k'5,ca'3,rfl,hW'3⟩:=Zbi.ok (h:=k'4)  (hO'4.sl 2 rfl) hx'3
   refine Zbd (id:=219) (caps:=[]) rfl (Zu (v:=v'2) rfl zx) ca'3 ?_
   have hO'5:=hO'4.call hW'3 rfl
   refine Zb (Za (Zaq (Zh (Zk (Zg (ZbQ (a:=x4) (b:=4) rfl rfl) (Zd (.b (decide (x4 = 4))) rfl (Zb ?_)))))))
   refine Za ?_
   rcases Zp hp with ⟨b'2,hp⟩ | ⟨b'2,hp⟩
   ·refine zA (t:=(decide (x4 = 4))) rfl b'2 ?_
    refine zD (Zan (Zan (Za (Zk ?_))))
    obtain ⟨c'2,hp⟩:=Zj hp
    refine Zg (z6 (a:=x2) (b:=1) q'2_16 rfl c'2) (Zd (.n (x2 + 1)) rfl (Zb ?_))
    cases hp
    exact (Or.inl ⟨(at_,x2 + 1),rfl,rfl,q'2_0,q'2_6,q'2_14,q'2_15,rfl,(hO'5.pick [0,1] rfl (by decide))⟩)
   ·refine z7 (t:=(decide (x4 = 4))) rfl b'2 ?_
    refine Zh (Zk (Zg (ZbQ (a:=x4) (b:=(-4)) rfl rfl) (Zd (.b (decide (x4 = (-4)))) rfl (Zb (Za ?_)))))
    rcases Zp hp with ⟨b'3,hp⟩ | ⟨b'3,hp⟩
    ·refine zA (t:=(decide (x4 = (-4)))) rfl b'3 ?_
     refine Zh (Zh (Zk (Zd (.n at_) q'2_6 (Zg (Zcs (a:=at_) (b:=0) rfl rfl) (Zb (Za ?_))))))
     rcases Zp hp with ⟨b'4,hp⟩ | ⟨b'4,hp⟩
     ·refine zA (t:=(decide (0≤at_))) rfl b'4 ?_
      refine Zh (Zk (Zd (.n 0) rfl (Zd (.b false) rfl (Zb (Za (Zad (zk ?_)))))))
      refine ZaP (ZaP (zk ?_))
      cases hp
      refine (Or.inr ⟨.inr (),rfl,(fun h=>nomatch h),(fun he=>?_)⟩)
      subst he; exact ⟨rfl,rfl,rfl,(hO'5.pick [] rfl (by decide))⟩
     ·refine z7 (t:=(decide (0≤at_))) rfl b'4 ?_
      refine zD (Za (Zk (Zd (.n x2) rfl (Zd (.n x2) rfl (Zb (Zan (Zan ?_)))))))
      refine Za (Zk ?_)
      obtain ⟨c'3,hp⟩:=Zj hp
      refine Zg (z6 (a:=x2) (b:=1) q'2_16 rfl c'3) (Zd (.n (x2 + 1)) rfl (Zb ?_))
      cases hp
      exact (Or.inl ⟨(x2,x2 + 1),rfl,rfl,q'2_0,rfl,q'2_14,q'2_15,rfl,(hO'5.pick [0,1] rfl (by decide))⟩)
    ·refine z7 (t:=(decide (x4 = (-4)))) rfl b'3 ?_
     refine Zh (Zk (Zd (.n 0) rfl (Zd (.b false) rfl (Zb (Za (Zad (ZaP ?_)))))))
     refine ZaP (zk ?_)
     cases hp
     refine (Or.inr ⟨.inr (),rfl,(fun h=>nomatch h),(fun he=>?_)⟩)
     subst he; exact ⟨rfl,rfl,rfl,(hO'5.pick [] rfl (by decide))⟩
  ·refine z7 (t:=(decide (x2 < (x.length:Int)))) rfl b'1 ?_
   refine Zbv (zY ?_)
   cases hp
   refine (Or.inr ⟨.inl at_,rfl,(fun h=>nomatch h),(fun he=>?_)⟩)
   subst he; exact ⟨rfl,q'2_6,(hO'3.pick [] rfl (by decide))⟩
 intro e'1 q'1 k'2 hJ'1
 rcases o'1 with at_1 | _
 ·obtain ⟨rfl,q'1_6,hO'2⟩:=hJ'1
  refine ZaD (Za (Zh (Zk (Zd (.n at_1) q'1_6 (Zd (.n at_1) q'1_6 (Zg (Zcs (a:=at_1) (b:=0) rfl rfl) (Zd (.n at_1) rfl ?_)))))))
  refine Zd (.b (decide (0≤at_1))) rfl (Zb (Za (Zad (zu (zG (n:=2) (v:=.n at_1) rfl (zG (n:=3) (v:=.b (decide (0≤at_1))) rfl ZN)) ?_))))
  cases hp
  exact ⟨rfl,(hO'2.pick [] rfl (by decide))⟩
 ·obtain ⟨rfl,q'1_2,q'1_3,hO'2⟩:=hJ'1
  refine ZaP (zk (zu (zG (n:=2) (v:=.n 0) q'1_2 (zG (n:=3) (v:=.b false) q'1_3 ZN)) ?_))
  cases hp
  exact ⟨rfl,(hO'2.pick [] rfl (by decide))⟩

theorem Zcx.ok {h:Hp} {cells:List Ze} {v_cells:V} (s_cells:Sl Zn h v_cells cells) {r:Int} (hp:Zcx cells = some r) :
  ∃ u k',Is G 176 [v_cells] h u k'∧V.n r = u∧Own (fun r=>r < h.n) h k' []:=by
 refine WC.is (ZaM ZeT ?_)
 unfold Zcx at hp
 let B:Nat→Prop:=(fun r=>r < h.n)
 have hO:Own B h h []:=Own.start0 h
 refine Zh (Zk (Zd (.n 0) rfl (Zb (Za (Zh (Zh (Zk ?_)))))))
 refine Zd v_cells rfl ?_
 obtain ⟨x,hx'1,hp⟩:=Zq hp
 obtain ⟨u'1,k'1,ca'1,rfl,hW'1⟩:=zV.ok (h:=h)  (hO.rd0 s_cells.rd) hx'1
 refine Zbd (id:=66) (caps:=[]) rfl (Zu (v:=v_cells) rfl zx) ca'1 ?_
 have hO'1:=hO.call hW'1 rfl
 refine Zd (.n x) rfl (Zb (Za (Zh (Zk (Zd (.n x) rfl (Zg (Zck (a:=x) (b:=0) rfl rfl) (Zb ?_)))))))
 refine Za ?_
 rcases Zp hp with ⟨b'1,hp⟩ | ⟨b'1,hp⟩
 ·refine zA (t:=(!(decide (x = 0)))) rfl b'1 ?_
  refine Zh (Zk (Zd (.n x) rfl (Zd (.n x) rfl (Zb (Za (Zad (zk ?_)))))))
  refine zu (zG (n:=2) (v:=.n x) rfl ZN) ?_
  cases hp
  exact ⟨rfl,(hO'1.pick [] rfl (by decide))⟩
 ·refine z7 (t:=(!(decide (x = 0)))) rfl b'1 ?_
  refine zD (Za (Zh (Zh (Zk (Zd v_cells rfl ?_)))))
  obtain ⟨x1,hx'2,hp⟩:=Zq hp
  obtain ⟨u'2,k'2,ca'2,rfl,hW'2⟩:=Zc6.ok (h:=k'1)  (hO'1.rd0 s_cells.rd) hx'2
  refine Zbd (id:=32) (caps:=[]) rfl (Zu (v:=v_cells) rfl zx) ca'2 ?_
  have hO'2:=hO'1.call hW'2 rfl
  refine Zg (Zc3 (t:=x1) rfl) (Zb (Za ?_))
  rcases Zp hp with ⟨b'2,hp⟩ | ⟨b'2,hp⟩
  ·refine zA (t:=(!x1)) rfl b'2 ?_
   refine Zh (Zk (Zd (.n 13) rfl (Zb (Za (Zad (zk (zu (zG (n:=2) (v:=.n 13) rfl ZN) ?_)))))))
   cases hp
   exact ⟨rfl,(hO'2.pick [] rfl (by decide))⟩
  ·refine z7 (t:=(!x1)) rfl b'2 ?_
   refine zD (Za (Zh (Zh (Zk (Zd v_cells rfl ?_)))))
   obtain ⟨⟨x2,x3⟩,hx'3,hp⟩:=Zq hp
   obtain ⟨u'3,k'3,ca'3,rfl,hW'3⟩:=Zbu.ok (h:=k'2)  (hO'2.rd0 s_cells.rd) hx'3
   refine Zbd (id:=201) (caps:=[]) rfl (Zu (v:=v_cells) rfl zx) ca'3 ?_
   have hO'3:=hO'2.call hW'3 rfl
   refine Zd (.tu [.n x2,.b x3]) rfl (Zg (Zb6 (vs:=[.n x2,.b x3]) (v:=.n x2) rfl rfl) (Zg (Zb6 (vs:=[.n x2,.b x3]) (v:=.b x3) rfl rfl) (Zd (.n x2) rfl (Zd (.b x3) rfl (Zb (Za (Zh ?_)))))))
   refine Zk (Zd (.b x3) rfl (Zg (Zc3 (t:=x3) rfl) (Zd (.b (!x3)) rfl ?_)))
   refine Za0 4 (fun fr' k'=>k'3 = k'∧fr' 25 = .b ((!x3) && (decide (1 < (cells.length:Int))))) ?_ ?_
   ·rcases bc (!x3) with b'3 | b'3
    ·skip
     refine Z8 rfl b'3 (Zd v_cells rfl (Z8 rfl b'3 (Zg (Zau (hO'3.rd0 s_cells.rd) rfl) (Z8 rfl b'3 (Zg (ZdP (a:=(cells.length:Int)) (b:=1) rfl rfl) (Zg (zr (t:=(!x3)) (v:=.b ((!x3) && (decide (1 < (cells.length:Int))))) rfl b'3 (Eq.trans (b:=V.b (decide (1 < (cells.length:Int)))) rfl (Zd7 b'3))) (Zb ?_)))))))
     exact ⟨rfl,rfl⟩
    ·skip
     refine Zv rfl b'3 (Zv rfl b'3 (Zv rfl b'3 (Zg (zm (t:=(!x3)) (v:=.b ((!x3) && (decide (1 < (cells.length:Int))))) rfl b'3 (Eq.trans (b:=V.b false) rfl (ZcN b'3))) (Zb ?_))))
     exact ⟨rfl,rfl⟩
   rintro frg'1 _ ⟨rfl,g'1_25⟩
   refine Zb (Za ?_)
   rcases Zp hp with ⟨b'4,hp⟩ | ⟨b'4,hp⟩
   ·refine zA (t:=((!x3) && (decide (1 < (cells.length:Int))))) g'1_25 b'4 ?_
    refine Zh (Zk (Zd (.n 10) rfl (Zb (Za (Zad (zk (zu (zG (n:=2) (v:=.n 10) rfl ZN) ?_)))))))
    cases hp
    exact ⟨rfl,(hO'3.pick [] rfl (by decide))⟩
   ·refine z7 (t:=((!x3) && (decide (1 < (cells.length:Int))))) g'1_25 b'4 ?_
    refine zD (Za (Zh (Zk (Zd (.n 0) rfl (Zb (Za (Zad ?_)))))))
    refine zu (zG (n:=2) (v:=.n 0) rfl ZN) ?_
    cases hp
    exact ⟨rfl,(hO'3.pick [] rfl (by decide))⟩

theorem zM.ok {h:Hp} {s:List Zf} {f:Zf→Option Bool} {v_s:V} {id_f:Nat} {cap_f:List V} (s_s:Sl Zc h v_s s) (f_f:∀ (k:Hp) (x0:Zf) (y:Bool),Ex' (fun r=>r < h.n) h k→f x0 = some y→∃ u k',Is G id_f (.ag (Zc.c x0) :: cap_f) k u k'∧V.b y = u∧Own (fun r=>r < k.n) k k' []) {r:Int} (hp:zM s f = some r) :
  ∃ u k',Is G 151 [v_s,.f id_f cap_f] h u k'∧V.n r = u∧Own (fun r=>r < h.n) h k' []:=by
 refine WC.is (ZaM Zcz ?_)
 unfold zM at hp
 let B:Nat→Prop:=(fun r=>r < h.n)
 have hO:Own B h h []:=Own.start0 h
 refine Zh (Zk (Zd (.n 0) rfl (Zb (Za (Zh (Zh (Zk ?_)))))))
 refine Zd v_s rfl (Zg (Zau (hO.rd0 s_s.rd) rfl) (Zd (.n 0) rfl (Zb (Za (Zaq ?_)))))
 obtain ⟨o'1,ho'1,hp⟩:=Zq hp
 refine W.mono (Q:=fun e fr k=>match (generalizing:=false) o'1 with
   | .inl _=>e = (.exit 0)∧Own B h k []
   | .inr x1=>e = .ret∧fr 4 = .n x1∧Own B h k []) ?_ ?_
 ·clear hp
  refine zP (fun st fr k=>match st with | x=>fr 0 = v_s∧fr 1 = .f id_f cap_f∧fr 7 = .n (s.length:Int)∧fr 8 = .n x∧Own B h k []) ho'1 (s:=0) ⟨rfl,rfl,rfl,rfl,(hO.pick [] rfl (by decide))⟩ ?_
  rintro x q'2 k'2 ⟨q'2_0,q'2_1,q'2_7,q'2_8,hO'2⟩ o'2 hp
  dsimp only [zM.s0] at hp
  refine Zh (Zk (Zg (zN (a:=x) (b:=(s.length:Int)) q'2_8 q'2_7) (Zb (Za (Zh ?_)))))
  rcases Zp hp with ⟨b'1,hp⟩ | ⟨b'1,hp⟩
  ·refine zA (t:=(decide (x < (s.length:Int)))) rfl b'1 ?_
   refine zD (Za (Zh (Zaq (Zh (Zk (Zd (.n x) q'2_8 (Zd (.n x) rfl ?_)))))))
   refine Zb (Za (Zh (Zk (Zd (.f id_f cap_f) q'2_1 (Zd v_s q'2_0 (Zd (.n x) rfl ?_))))))
   obtain ⟨c'1,hp⟩:=Zj hp
   refine Zg (zf (E:=Zc) (z:=x) (hO'2.rd0 s_s.rd) rfl rfl c'1) (Zg (Zd5 (E:=Zc) (hO'2.rd0 s_s.rd) rfl (Zi c'1)) ?_)
   obtain ⟨x2,hx'1,hp⟩:=Zq hp
   obtain ⟨u'1,k'3,ca'1,rfl,hW'1⟩:=f_f _ _ _ hO'2.ext hx'1
   refine Zbd (id:=id_f) (caps:=cap_f) rfl (Zu (v:=.ag (Zc.c (gi s x.toNat))) rfl zx) ca'1 ?_
   have hO'3:=hO'2.call hW'1 rfl
   refine Zb (Za ?_)
   rcases Zp hp with ⟨b'2,hp⟩ | ⟨b'2,hp⟩
   ·refine zA (t:=x2) rfl b'2 ?_
    refine Zh (Zk (Zd (.n x) rfl (Zd (.n x) rfl (Zb (Za (Zad (ZaP ?_)))))))
    refine zk ?_
    cases hp
    refine (Or.inr ⟨.inr x,rfl,(fun h=>nomatch h),(fun he=>?_)⟩)
    subst he; exact ⟨rfl,rfl,(hO'3.pick [] rfl (by decide))⟩
   ·refine z7 (t:=x2) rfl b'2 ?_
    refine zD (Zan (Za (Zk ?_)))
    obtain ⟨c'2,hp⟩:=Zj hp
    refine Zg (z6 (a:=x) (b:=1) q'2_8 rfl c'2) (Zd (.n (x + 1)) rfl (Zb ?_))
    cases hp
    exact (Or.inl ⟨x + 1,rfl,rfl,q'2_0,q'2_1,q'2_7,rfl,(hO'3.pick [] rfl (by decide))⟩)
  ·refine z7 (t:=(decide (x < (s.length:Int)))) rfl b'1 ?_
   refine Zbv (zY ?_)
   cases hp
   refine (Or.inr ⟨.inl (),rfl,(fun h=>nomatch h),(fun he=>?_)⟩)
   subst he; exact ⟨rfl,(hO'2.pick [] rfl (by decide))⟩
 intro e'1 q'1 k'1 hJ'1
 rcases o'1 with _ | x1
 ·obtain ⟨rfl,hO'1⟩:=hJ'1
  refine ZaD (Za (Zh (Zk (Zd (.n (-1)) rfl (Zb (Za (Zad ?_)))))))
  refine zu (zG (n:=4) (v:=.n (-1)) rfl ZN) ?_
  cases hp
  exact ⟨rfl,(hO'1.pick [] rfl (by decide))⟩
 ·obtain ⟨rfl,q'1_4,hO'1⟩:=hJ'1
  refine ZaP (zk (zu (zG (n:=4) (v:=.n x1) q'1_4 ZN) ?_))
  cases hp
  exact ⟨rfl,(hO'1.pick [] rfl (by decide))⟩

theorem ZaA.ok {h:Hp} {s:List Zf} {f:Zf→Option Bool} {v_s:V} {id_f:Nat} {cap_f:List V} (s_s:Sl Zc h v_s s) (f_f:∀ (k:Hp) (x0:Zf) (y:Bool),Ex' (fun r=>r < h.n) h k→f x0 = some y→∃ u k',Is G id_f (.ag (Zc.c x0) :: cap_f) k u k'∧V.b y = u∧Own (fun r=>r < k.n) k k' []) {r:Bool} (hp:ZaA s f = some r) :
  ∃ u k',Is G 146 [v_s,.f id_f cap_f] h u k'∧V.b r = u∧Own (fun r=>r < h.n) h k' []:=by
 refine WC.is (ZaM Zco ?_)
 unfold ZaA at hp
 let B:Nat→Prop:=(fun r=>r < h.n)
 have hO:Own B h h []:=Own.start0 h
 refine Zh (Zk (Zd (.b false) rfl (Zb (Za (Zh (Zk (Zd v_s rfl ?_)))))))
 refine Zd (.f id_f cap_f) rfl ?_
 obtain ⟨x,hx'1,hp⟩:=Zq hp
 obtain ⟨u'1,k'1,ca'1,rfl,hW'1⟩:=zM.ok (h:=h)  (hO.rd0 s_s.rd) (fun k z0 y hk hx=>f_f k z0 y (ZmU hO hk) hx) hx'1
 refine Zbd (id:=151) (caps:=[]) rfl (Zu (v:=v_s) rfl (Zu (v:=.f id_f cap_f) rfl zx)) ca'1 ?_
 have hO'1:=hO.call hW'1 rfl
 refine Zg (Zcs (a:=x) (b:=0) rfl rfl) (Zd (.b (decide (0≤x))) rfl (Zb (Za (Zad (zu (zG (n:=4) (v:=.b (decide (0≤x))) rfl ZN) ?_)))))
 cases hp
 exact ⟨rfl,(hO'1.pick [] rfl (by decide))⟩

theorem ZcZ.ok {h:Hp} {p:Zf}   {r:Bool} (hp:ZcZ p = some r) :
  ∃ u k',Is G 147 [.ag (Zc.c p)] h u k'∧V.b r = u∧Own (fun r=>r < h.n) h k' []:=by
 refine WC.is (ZaM ZfE ?_)
 unfold ZcZ at hp
 let B:Nat→Prop:=(fun r=>r < h.n)
 have hO:Own B h h []:=Own.start0 h
 refine Zh (Zk (zQ (hO.boxd (v:=.ag (Zc.c p)) (cs:=Zc.c p) hO.fr rfl rfl) ?_))
 rintro _ k'1 ⟨r'1,rfl,n'1,f'1,hW⟩
 have hO'1:=hW
 refine Zd (.b false) rfl (Zb (Za (Zh (Zk (Zg (ZaL (r:=r'1) (o:=0) (o':=0) rfl rfl) (Zg (Zac (cs:=(Zc.c p)) (v:=.n p.X) (hO'1.box 0 rfl) rfl rfl) (Zg (ZaL (r:=r'1) (o:=0) (o':=1) rfl rfl) ?_)))))))
 refine Zg (Zac (cs:=(Zc.c p)) (v:=.n p.Y) (hO'1.box 0 rfl) rfl rfl) (Zg (Zjx (a:=p.X) (b:=p.Y) rfl rfl) (Zg (ZdP (a:=(max p.X p.Y)) (b:=1000000) rfl rfl) (Zd (.b (decide (1000000 < (max p.X p.Y)))) rfl ?_)))
 refine Za0 7 (fun fr' k'=>k'1 = k'∧fr' 16 = .b ((decide (1000000 < (max p.X p.Y))) || (decide ((min p.X p.Y) < (-1000000))))) ?_ ?_
 ·rcases bc (decide (1000000 < (max p.X p.Y))) with b'1 | b'1
  ·skip
   refine Zv rfl b'1 (Zv rfl b'1 (Zv rfl b'1 (Zv rfl b'1 (Zv rfl b'1 (Zv rfl b'1 (Zg (zr (t:=(decide (1000000 < (max p.X p.Y)))) (v:=.b ((decide (1000000 < (max p.X p.Y))) || (decide ((min p.X p.Y) < (-1000000))))) rfl b'1 (Eq.trans (b:=V.b true) rfl (Zbx b'1))) (Zb ?_)))))))
   exact ⟨rfl,rfl⟩
  ·skip
   refine Z8 rfl b'1 (Zg (ZaL (r:=r'1) (o:=0) (o':=0) rfl rfl) (Z8 rfl b'1 (Zg (Zac (cs:=(Zc.c p)) (v:=.n p.X) (hO'1.box 0 rfl) rfl rfl) (Z8 rfl b'1 (Zg (ZaL (r:=r'1) (o:=0) (o':=1) rfl rfl) (Z8 rfl b'1 (Zg (Zac (cs:=(Zc.c p)) (v:=.n p.Y) (hO'1.box 0 rfl) rfl rfl) ?_)))))))
   refine Z8 rfl b'1 (Zg (ZmS (a:=p.X) (b:=p.Y) rfl rfl) (Z8 rfl b'1 (Zg (zN (a:=(min p.X p.Y)) (b:=(-1000000)) rfl rfl) (Zg (zm (t:=(decide (1000000 < (max p.X p.Y)))) (v:=.b ((decide (1000000 < (max p.X p.Y))) || (decide ((min p.X p.Y) < (-1000000))))) rfl b'1 (Eq.trans (b:=V.b (decide ((min p.X p.Y) < (-1000000)))) rfl (Zca b'1))) (Zb ?_)))))
   exact ⟨rfl,rfl⟩
 rintro frg'1 _ ⟨rfl,g'1_16⟩
 refine Zd (.b ((decide (1000000 < (max p.X p.Y))) || (decide ((min p.X p.Y) < (-1000000))))) g'1_16 (Zb (Za (Zad (zu (zG (n:=2) (v:=.b ((decide (1000000 < (max p.X p.Y))) || (decide ((min p.X p.Y) < (-1000000))))) rfl ZN) ?_))))
 cases hp
 exact ⟨rfl,(hO'1.pick [] rfl (by decide))⟩

theorem Zb0.ok {h:Hp} {a:Zf} {b:Zf}   {r:Int × Bool} (hp:Zb0 a b = some r) :
  ∃ u k',Is G 148 [.ag (Zc.c a),.ag (Zc.c b)] h u k'∧V.tu [.n r.1,.b r.2] = u∧Own (fun r=>r < h.n) h k' []:=by
 refine WC.is (ZaM ZdX ?_)
 unfold Zb0 at hp
 let B:Nat→Prop:=(fun r=>r < h.n)
 have hO:Own B h h []:=Own.start0 h
 refine Zh (Zk (zQ (hO.boxd (v:=.ag (Zc.c a)) (cs:=Zc.c a) hO.fr rfl rfl) ?_))
 rintro _ k'1 ⟨r'1,rfl,n'1,f'1,hW⟩
 have hO'1:=hW
 refine zQ (hO'1.boxd (v:=.ag (Zc.c b)) (cs:=Zc.c b) hO'1.fr rfl rfl) ?_
 rintro _ k'2 ⟨r'2,rfl,n'2,f'2,hW⟩
 have hO'2:=hW
 refine Zd (.n 0) rfl (Zd (.b false) rfl (Zb (Za (Zh (Zaq (Zh (Zk ?_)))))))
 refine Zg (ZaL (r:=r'1) (o:=0) (o':=0) rfl rfl) (Zg (Zac (cs:=(Zc.c a)) (v:=.n a.X) (hO'2.box 0 rfl) rfl rfl) (Zg (ZaL (r:=r'2) (o:=0) (o':=0) rfl rfl) (Zg (Zac (cs:=(Zc.c b)) (v:=.n b.X) (hO'2.box 1 rfl) rfl rfl) (Zg (ZbQ (a:=a.X) (b:=b.X) rfl rfl) (Zg (ZaL (r:=r'1) (o:=0) (o':=1) rfl rfl) (Zg (Zac (cs:=(Zc.c a)) (v:=.n a.Y) (hO'2.box 0 rfl) rfl rfl) (Zg (ZaL (r:=r'2) (o:=0) (o':=1) rfl rfl) ?_)))))))
 refine Zg (Zac (cs:=(Zc.c b)) (v:=.n b.Y) (hO'2.box 1 rfl) rfl rfl) (Zg (ZbQ (a:=a.Y) (b:=b.Y) rfl rfl) (Zg (ZmO (a:=(decide (a.X = b.X))) (b:=(decide (a.Y = b.Y))) rfl rfl) (Zd (.b (decide ((decide (a.X = b.X)) = (decide (a.Y = b.Y))))) rfl (Zb (Za ?_)))))
 rcases Zp hp with ⟨b'1,hp⟩ | ⟨b'1,hp⟩
 ·refine zA (t:=(decide ((decide (a.X = b.X)) = (decide (a.Y = b.Y))))) rfl b'1 ?_
  refine Zh (Zk (Zd (.n 0) rfl (Zd (.b false) rfl (Zb (Za (Zad (ZaP ?_)))))))
  refine zk (zu (zG (n:=4) (v:=.n 0) rfl (zG (n:=5) (v:=.b false) rfl ZN)) ?_)
  cases hp
  exact ⟨rfl,(hO'2.pick [] rfl (by decide))⟩
 ·refine z7 (t:=(decide ((decide (a.X = b.X)) = (decide (a.Y = b.Y))))) rfl b'1 ?_
  refine Zh (Zk (Zg (ZaL (r:=r'1) (o:=0) (o':=0) rfl rfl) (Zg (Zac (cs:=(Zc.c a)) (v:=.n a.X) (hO'2.box 0 rfl) rfl rfl) (Zg (ZaL (r:=r'2) (o:=0) (o':=0) rfl rfl) (Zg (Zac (cs:=(Zc.c b)) (v:=.n b.X) (hO'2.box 1 rfl) rfl rfl) (Zg (zN (a:=a.X) (b:=b.X) rfl rfl) (Zd (.b (decide (a.X < b.X))) rfl ?_)))))))
  refine Zb (Za ?_)
  rcases Zp hp with ⟨b'2,hp⟩ | ⟨b'2,hp⟩
  ·refine zA (t:=(decide (a.X < b.X))) rfl b'2 ?_
   refine Zh (Zk (Zd (.n 0) rfl (Zd (.b true) rfl (Zb (Za (Zad (ZaP ?_)))))))
   refine zk (zu (zG (n:=4) (v:=.n 0) rfl (zG (n:=5) (v:=.b true) rfl ZN)) ?_)
   cases hp
   exact ⟨rfl,(hO'2.pick [] rfl (by decide))⟩
  ·refine z7 (t:=(decide (a.X < b.X))) rfl b'2 ?_
   refine Zh (Zk (Zg (ZaL (r:=r'1) (o:=0) (o':=0) rfl rfl) (Zg (Zac (cs:=(Zc.c a)) (v:=.n a.X) (hO'2.box 0 rfl) rfl rfl) (Zg (ZaL (r:=r'2) (o:=0) (o':=0) rfl rfl) (Zg (Zac (cs:=(Zc.c b)) (v:=.n b.X) (hO'2.box 1 rfl) rfl rfl) (Zg (ZdP (a:=a.X) (b:=b.X) rfl rfl) (Zd (.b (decide (b.X < a.X))) rfl ?_)))))))
   refine Zb (Za ?_)
   rcases Zp hp with ⟨b'3,hp⟩ | ⟨b'3,hp⟩
   ·refine zA (t:=(decide (b.X < a.X))) rfl b'3 ?_
    refine Zh (Zk (Zd (.n 2) rfl (Zd (.b true) rfl (Zb (Za (Zad (ZaP ?_)))))))
    refine zk (zu (zG (n:=4) (v:=.n 2) rfl (zG (n:=5) (v:=.b true) rfl ZN)) ?_)
    cases hp
    exact ⟨rfl,(hO'2.pick [] rfl (by decide))⟩
   ·refine z7 (t:=(decide (b.X < a.X))) rfl b'3 ?_
    refine Zh (Zk (Zg (ZaL (r:=r'1) (o:=0) (o':=1) rfl rfl) (Zg (Zac (cs:=(Zc.c a)) (v:=.n a.Y) (hO'2.box 0 rfl) rfl rfl) (Zg (ZaL (r:=r'2) (o:=0) (o':=1) rfl rfl) (Zg (Zac (cs:=(Zc.c b)) (v:=.n b.Y) (hO'2.box 1 rfl) rfl rfl) (Zg (zN (a:=a.Y) (b:=b.Y) rfl rfl) (Zd (.b (decide (a.Y < b.Y))) rfl ?_)))))))
    refine Zb (Za ?_)
    rcases Zp hp with ⟨b'4,hp⟩ | ⟨b'4,hp⟩
    ·refine zA (t:=(decide (a.Y < b.Y))) rfl b'4 ?_
     refine Zh (Zk (Zd (.n 1) rfl (Zd (.b true) rfl (Zb (Za (Zad (ZaP ?_)))))))
     refine zk (zu (zG (n:=4) (v:=.n 1) rfl (zG (n:=5) (v:=.b true) rfl ZN)) ?_)
     cases hp
     exact ⟨rfl,(hO'2.pick [] rfl (by decide))⟩
    ·refine z7 (t:=(decide (a.Y < b.Y))) rfl b'4 ?_
     refine zD (Zan (Za (Zh (Zk (Zd (.n 3) rfl (Zd (.b true) rfl (Zb ?_)))))))
     refine Za (Zad (zu (zG (n:=4) (v:=.n 3) rfl (zG (n:=5) (v:=.b true) rfl ZN)) ?_))
     cases hp
     exact ⟨rfl,(hO'2.pick [] rfl (by decide))⟩

theorem Zcw.ok {h:Hp} {owner:Int}   {r:Int} (hp:Zcw owner = some r) :
  ∃ u k',Is G 149 [.n owner] h u k'∧V.n r = u∧Own (fun r=>r < h.n) h k' []:=by
 refine WC.is (ZaM ZeQ ?_)
 unfold Zcw at hp
 let B:Nat→Prop:=(fun r=>r < h.n)
 have hO:Own B h h []:=Own.start0 h
 refine Zh (Zk (Zd (.n 0) rfl (Zb (Za (Zh (Zh (Zk ?_)))))))
 refine Zd (.n owner) rfl (Zg (Zcs (a:=owner) (b:=0) rfl rfl) (Zb (Za ?_)))
 rcases Zp hp with ⟨b'1,hp⟩ | ⟨b'1,hp⟩
 ·refine zA (t:=(decide (0≤owner))) rfl b'1 ?_
  refine Zh (Zk (Zd (.n 1) rfl (Zb (Za (Zad (zk (zu (zG (n:=2) (v:=.n 1) rfl ZN) ?_)))))))
  cases hp
  exact ⟨rfl,(hO.pick [] rfl (by decide))⟩
 ·refine z7 (t:=(decide (0≤owner))) rfl b'1 ?_
  refine zD (Za (Zh (Zk (Zd (.n 0) rfl (Zb (Za (Zad ?_)))))))
  refine zu (zG (n:=2) (v:=.n 0) rfl ZN) ?_
  cases hp
  exact ⟨rfl,(hO.pick [] rfl (by decide))⟩

end Mu
