/- The code comes to what was worked out. -/
import Derived.Test.YtdefkboekpjiiaaMuDf
import Derived.Test.YtdefkboekpjiiaaMuPa
import Derived.Test.YtdefkboekpjiiaaMuC2
set_option linter.unusedVariables false
set_option linter.unnecessarySimpa false
set_option linter.unusedSimpArgs false
set_option maxHeartbeats 2000000
set_option maxRecDepth 10000
namespace Mu
open Go (IntKind BinOp UnOp)
theorem Za5.ok {h:Hp} {l:List Zc} {v_l:V} (s_l:Sl Zh h v_l l) {r:Bool} (hp:Za5 l = some r) :
  ∃ u k',Is G 173 [v_l] h u k'∧V.b r = u∧Own (fun r=>r < h.n) h k' []:=by
 refine WC.is (ZaQ ZcJ ?_)
 unfold Za5 at hp
 let B:Nat→Prop:=(fun r=>r < h.n)
 have hO:Own B h h []:=Own.start0 h
 refine Zf (Zl (Zd (.b false) rfl (Zb (Za (Zf (Zl (Zd v_l rfl ?_)))))))
 obtain ⟨⟨x,x1⟩,hx'1,hp⟩:=Zp hp
 obtain ⟨u'1,k'1,ca'1,rfl,hW'1⟩:=Zan.ok (h:=h)  (hO.rd0 s_l.rd) hx'1
 refine Za8 (id:=181) (caps:=[]) rfl (Zx (v:=v_l) rfl zo) ca'1 ?_
 have hO'1:=hO.call hW'1 rfl
 refine Zd (.tu [.n x,.n x1]) rfl (Ze (Zbn (vs:=[.n x,.n x1]) (v:=.n x) rfl rfl) (Ze (Zbn (vs:=[.n x,.n x1]) (v:=.n x1) rfl rfl) (Zd (.n x) rfl (Zd (.n x1) rfl (Zb (Za (Zf ?_)))))))
 refine Zl (Zd v_l rfl ?_)
 obtain ⟨⟨x2,x3⟩,hx'2,hp⟩:=Zp hp
 obtain ⟨u'2,k'2,ca'2,rfl,hW'2⟩:=Zbe.ok (h:=k'1)  (hO'1.rd0 s_l.rd) hx'2
 refine Za8 (id:=195) (caps:=[]) rfl (Zx (v:=v_l) rfl zo) ca'2 ?_
 have hO'2:=hO'1.call hW'2 rfl
 refine Zd (.tu [.n x2,.n x3]) rfl (Ze (Zbn (vs:=[.n x2,.n x3]) (v:=.n x2) rfl rfl) (Ze (Zbn (vs:=[.n x2,.n x3]) (v:=.n x3) rfl rfl) (Zd (.n x2) rfl (Zd (.n x3) rfl (Zb (Za (Zf ?_)))))))
 refine Zf (Zl (Zd v_l rfl ?_))
 obtain ⟨x4,hx'3,hp⟩:=Zp hp
 obtain ⟨u'3,k'3,ca'3,rfl,hW'3⟩:=Zaz.ok (h:=k'2)  (hO'2.rd0 s_l.rd) hx'3
 refine Za8 (id:=176) (caps:=[]) rfl (Zx (v:=v_l) rfl zo) ca'3 ?_
 have hO'3:=hO'2.call hW'3 rfl
 refine Zd (.n x1) rfl (Ze (ZbL (a:=x4) (b:=x1) rfl rfl) (Zb (Za ?_)))
 rcases Zt hp with ⟨b'1,hp⟩ | ⟨b'1,hp⟩
 ·refine zH (t:=(!(decide (x4 = x1)))) rfl b'1 ?_
  refine Zf (Zl (Zd (.b false) rfl (Zb (Za (Zav (zI (zF (Zap (n:=2) (v:=.b false) rfl zk) ?_)))))))
  cases hp
  exact ⟨rfl,(hO'3.pick [] rfl (by decide))⟩
 ·refine zG (t:=(!(decide (x4 = x1)))) rfl b'1 ?_
  refine zM (Za (Zf (Zae (Zf (Zl (Zd (.n x1) rfl (Ze (ZbL (a:=x1) (b:=0) rfl rfl) ?_)))))))
  refine Zd (.b (!(decide (x1 = 0)))) rfl (Zb (Za ?_))
  rcases Zt hp with ⟨b'2,hp⟩ | ⟨b'2,hp⟩
  ·refine zH (t:=(!(decide (x1 = 0)))) rfl b'2 ?_
   refine Zf (Zl (Zd (.n x3) rfl (Zd (.n x1) rfl (Ze (ZaS (a:=x3) (b:=x1) rfl rfl) (Zd (.b (decide (x3 = x1))) rfl ?_)))))
   refine zT 3 (fun fr' k'=>k'3 = k'∧fr' 30 = .b ((decide (x3 = x1)) && (decide (x2 = 0)))) ?_ ?_
   ·rcases bc (decide (x3 = x1)) with b'3 | b'3
    ·skip
     refine Z9 rfl b'3 (Zd (.n x2) rfl (Z9 rfl b'3 (Ze (ZaS (a:=x2) (b:=0) rfl rfl) (Ze (zb (t:=(decide (x3 = x1))) (v:=.b ((decide (x3 = x1)) && (decide (x2 = 0)))) rfl b'3 (Eq.trans (b:=V.b (decide (x2 = 0))) rfl (Zb8 b'3))) (Zb ?_)))))
     exact ⟨rfl,rfl⟩
    ·skip
     refine Zr rfl b'3 (Zr rfl b'3 (Ze (ZU (t:=(decide (x3 = x1))) (v:=.b ((decide (x3 = x1)) && (decide (x2 = 0)))) rfl b'3 (Eq.trans (b:=V.b false) rfl (Zby b'3))) (Zb ?_)))
     exact ⟨rfl,rfl⟩
   rintro frg'1 _ ⟨rfl,g'1_30⟩
   refine Zd (.b ((decide (x3 = x1)) && (decide (x2 = 0)))) g'1_30 (Zb (Za (Zav (Zbs (zI (zF (Zap (n:=2) (v:=.b ((decide (x3 = x1)) && (decide (x2 = 0)))) rfl zk) ?_))))))
   cases hp
   exact ⟨rfl,(hO'3.pick [] rfl (by decide))⟩
  ·refine zG (t:=(!(decide (x1 = 0)))) rfl b'2 ?_
   refine Zf (Zl (Zd (.n x) rfl (Ze (zJ (a:=x) (b:=0) rfl rfl) (Zd (.b (decide (x < 0))) rfl (Zb (Za ?_))))))
   rcases Zt hp with ⟨b'4,hp⟩ | ⟨b'4,hp⟩
   ·refine zH (t:=(decide (x < 0))) rfl b'4 ?_
    refine Zf (Zl (Zd (.n x3) rfl (Ze (ZaS (a:=x3) (b:=2) rfl rfl) (Zd (.b (decide (x3 = 2))) rfl ?_))))
    refine zT 3 (fun fr' k'=>k'3 = k'∧fr' 39 = .b ((decide (x3 = 2)) && (decide (x2 = 0)))) ?_ ?_
    ·rcases bc (decide (x3 = 2)) with b'5 | b'5
     ·skip
      refine Z9 rfl b'5 (Zd (.n x2) rfl (Z9 rfl b'5 (Ze (ZaS (a:=x2) (b:=0) rfl rfl) (Ze (zb (t:=(decide (x3 = 2))) (v:=.b ((decide (x3 = 2)) && (decide (x2 = 0)))) rfl b'5 (Eq.trans (b:=V.b (decide (x2 = 0))) rfl (Zb8 b'5))) (Zb ?_)))))
      exact ⟨rfl,rfl⟩
     ·skip
      refine Zr rfl b'5 (Zr rfl b'5 (Ze (ZU (t:=(decide (x3 = 2))) (v:=.b ((decide (x3 = 2)) && (decide (x2 = 0)))) rfl b'5 (Eq.trans (b:=V.b false) rfl (Zby b'5))) (Zb ?_)))
      exact ⟨rfl,rfl⟩
    rintro frg'2 _ ⟨rfl,g'2_39⟩
    refine Zd (.b ((decide (x3 = 2)) && (decide (x2 = 0)))) g'2_39 (Zb (Za (Zav (Zbs (zI (zF (Zap (n:=2) (v:=.b ((decide (x3 = 2)) && (decide (x2 = 0)))) rfl zk) ?_))))))
    cases hp
    exact ⟨rfl,(hO'3.pick [] rfl (by decide))⟩
   ·refine zG (t:=(decide (x < 0))) rfl b'4 ?_
    refine zM (Zaf (Za (Zf (Zl (Zd (.n x3) rfl (Ze (ZaS (a:=x3) (b:=0) rfl rfl) (Zd (.b (decide (x3 = 0))) rfl ?_)))))))
    refine zT 4 (fun fr' k'=>k'3 = k'∧fr' 46 = .b ((decide (x3 = 0)) && (decide (x2 = x)))) ?_ ?_
    ·rcases bc (decide (x3 = 0)) with b'6 | b'6
     ·skip
      refine Z9 rfl b'6 (Zd (.n x2) rfl (Z9 rfl b'6 (Zd (.n x) rfl (Z9 rfl b'6 (Ze (ZaS (a:=x2) (b:=x) rfl rfl) (Ze (zb (t:=(decide (x3 = 0))) (v:=.b ((decide (x3 = 0)) && (decide (x2 = x)))) rfl b'6 (Eq.trans (b:=V.b (decide (x2 = x))) rfl (Zb8 b'6))) (Zb ?_)))))))
      exact ⟨rfl,rfl⟩
     ·skip
      refine Zr rfl b'6 (Zr rfl b'6 (Zr rfl b'6 (Ze (ZU (t:=(decide (x3 = 0))) (v:=.b ((decide (x3 = 0)) && (decide (x2 = x)))) rfl b'6 (Eq.trans (b:=V.b false) rfl (Zby b'6))) (Zb ?_))))
      exact ⟨rfl,rfl⟩
    rintro frg'3 _ ⟨rfl,g'3_46⟩
    refine Zd (.b ((decide (x3 = 0)) && (decide (x2 = x)))) g'3_46 (Zb (Za (Zav (zF (Zap (n:=2) (v:=.b ((decide (x3 = 0)) && (decide (x2 = x)))) rfl zk) ?_))))
    cases hp
    exact ⟨rfl,(hO'3.pick [] rfl (by decide))⟩

theorem Zam.ok {h:Hp} {s:ByteArray}   {r:Bool} (hp:Zam s = some r) :
  ∃ u k',Is G 217 [.s s] h u k'∧V.b r = u∧Own (fun r=>r < h.n) h k' []:=by
 refine WC.is (ZaQ Zc2 ?_)
 unfold Zam at hp
 let B:Nat→Prop:=(fun r=>r < h.n)
 have hO:Own B h h []:=Own.start0 h
 refine Zf (Zl (Zd (.b false) rfl (Zb (Za (Zf (Zf (Zl ?_)))))))
 refine Zd (.n 0) rfl (Zb (Za (Zae ?_)))
 obtain ⟨o'1,ho'1,hp⟩:=Zp hp
 refine W.mono (Q:=fun e fr k=>match (generalizing:=false) o'1 with
   | .inl _=>e = (.exit 0)∧Own B h k []
   | .inr _=>e = .ret∧fr 2 = .b false∧Own B h k []) ?_ ?_
 ·clear hp
  refine zC (fun st fr k=>match st with | i=>fr 0 = .s s∧fr 3 = .n i∧Own B h k []) ho'1 (s:=0) ⟨rfl,rfl,(hO.pick [] rfl (by decide))⟩ ?_
  rintro i q'2 k'2 ⟨q'2_0,q'2_3,hO'2⟩ o'2 hp
  dsimp only [Zam.s0] at hp
  refine Zf (Zf (Zl (Zd (.n i) q'2_3 (Zd (.s s) q'2_0 (Ze (Zfq (a:=s) rfl) (Ze (zJ (a:=i) (b:=(s.size:Int)) rfl rfl) (Zb ?_)))))))
  refine Za ?_
  rcases Zt hp with ⟨b'1,hp⟩ | ⟨b'1,hp⟩
  ·refine zH (t:=(decide (i < (s.size:Int)))) rfl b'1 ?_
   refine zM (Za (Zf (Zae (Zf (Zl (Zd (.s s) q'2_0 (Zd (.n i) q'2_3 ?_)))))))
   obtain ⟨c'1,hp⟩:=Zg hp
   refine Ze (Zh2 (a:=s) (z:=i) rfl rfl c'1) (Ze (ZbL (a:=(sAt s i.toNat)) (b:=76) rfl rfl) (Zd (.b (!(decide (sAt s i.toNat = 76)))) rfl ?_))
   refine zT 5 (fun fr' k'=>k'2 = k'∧fr' 19 = .b ((!(decide (sAt s i.toNat = 76))) && (!(decide (sAt s i.toNat = 82))))∧fr' 0 = .s s∧fr' 3 = .n i) ?_ ?_
   ·rcases bc (!(decide (sAt s i.toNat = 76))) with b'2 | b'2
    ·skip
     refine Z9 rfl b'2 (Zd (.s s) q'2_0 (Z9 rfl b'2 (Zd (.n i) q'2_3 (Z9 rfl b'2 (Ze (Zh2 (a:=s) (z:=i) rfl rfl c'1) (Z9 rfl b'2 (Ze (ZbL (a:=(sAt s i.toNat)) (b:=82) rfl rfl) ?_)))))))
     refine Ze (zb (t:=(!(decide (sAt s i.toNat = 76)))) (v:=.b ((!(decide (sAt s i.toNat = 76))) && (!(decide (sAt s i.toNat = 82))))) rfl b'2 (Eq.trans (b:=V.b (!(decide (sAt s i.toNat = 82)))) rfl (Zb8 b'2))) (Zb ?_)
     exact ⟨rfl,rfl,q'2_0,q'2_3⟩
    ·skip
     refine Zr rfl b'2 (Zr rfl b'2 (Zr rfl b'2 (Zr rfl b'2 (Ze (ZU (t:=(!(decide (sAt s i.toNat = 76)))) (v:=.b ((!(decide (sAt s i.toNat = 76))) && (!(decide (sAt s i.toNat = 82))))) rfl b'2 (Eq.trans (b:=V.b false) rfl (Zby b'2))) (Zb ?_)))))
     exact ⟨rfl,rfl,q'2_0,q'2_3⟩
   rintro frg'1 _ ⟨rfl,g'1_19,g'1_0,g'1_3⟩
   refine Zb (Za ?_)
   rcases Zt hp with ⟨b'3,hp⟩ | ⟨b'3,hp⟩
   ·refine zH (t:=((!(decide (sAt s i.toNat = 76))) && (!(decide (sAt s i.toNat = 82))))) g'1_19 b'3 ?_
    refine Zf (Zl (Zd (.b false) rfl (Zb (Za (Zav (Zbs (zI ?_)))))))
    cases hp
    refine (Or.inr ⟨.inr (),rfl,(fun h=>nomatch h),(fun he=>?_)⟩)
    subst he; exact ⟨rfl,rfl,(hO'2.pick [] rfl (by decide))⟩
   ·refine zG (t:=((!(decide (sAt s i.toNat = 76))) && (!(decide (sAt s i.toNat = 82))))) g'1_19 b'3 ?_
    refine zM (Zaf (Za (Zl (Zd (.n i) g'1_3 ?_))))
    obtain ⟨c'2,hp⟩:=Zg hp
    refine Ze (zu (a:=i) (b:=1) rfl rfl c'2) (Zd (.n (i + 1)) rfl (Zb ?_))
    cases hp
    exact (Or.inl ⟨i + 1,rfl,rfl,g'1_0,rfl,(hO'2.pick [] rfl (by decide))⟩)
  ·refine zG (t:=(decide (i < (s.size:Int)))) rfl b'1 ?_
   refine ZaZ (zN ?_)
   cases hp
   refine (Or.inr ⟨.inl (),rfl,(fun h=>nomatch h),(fun he=>?_)⟩)
   subst he; exact ⟨rfl,(hO'2.pick [] rfl (by decide))⟩
 intro e'1 q'1 k'1 hJ'1
 rcases o'1 with _ | _
 ·obtain ⟨rfl,hO'1⟩:=hJ'1
  refine Zax (Za (Zf (Zl (Zd (.b true) rfl (Zb (Za (Zav ?_)))))))
  refine zF (Zap (n:=2) (v:=.b true) rfl zk) ?_
  cases hp
  exact ⟨rfl,(hO'1.pick [] rfl (by decide))⟩
 ·obtain ⟨rfl,q'1_2,hO'1⟩:=hJ'1
  refine Zbs (zI (zF (Zap (n:=2) (v:=.b false) q'1_2 zk) ?_))
  cases hp
  exact ⟨rfl,(hO'1.pick [] rfl (by decide))⟩

theorem z7.ok {h:Hp} {s:z6} {v_s_Boxes:V} {v_s_Edges:V} (s_s_Boxes:Sl e_bool h v_s_Boxes s.Boxes) (s_s_Edges:Sl Zs h v_s_Edges s.Edges) {r:Int} (hp:z7 s = some r) :
  ∃ u k',Is G 197 [.ag [v_s_Boxes,v_s_Edges]] h u k'∧V.n r = u∧Own (fun r=>r < h.n) h k' []:=by
 refine WC.is (ZaQ Zc1 ?_)
 unfold z7 at hp
 let B:Nat→Prop:=(fun r=>r < h.n)
 have hO:Own B h h []:=Own.start0 h
 refine Zf (Zl (zA (hO.boxd (v:=.ag [v_s_Boxes,v_s_Edges]) (cs:=[v_s_Boxes,v_s_Edges]) hO.fr rfl rfl) ?_))
 rintro _ k'1 ⟨r'1,rfl,n'1,f'1,hW⟩
 have hO'1:=hW
 refine Zd (.n 0) rfl (Zb (Za (Zf (Zl (Zd (.n 0) rfl (Zb (Za ?_)))))))
 refine Zf (Zf (Zl (Zd (.n 0) rfl (Zb (Za (Zae ?_))))))
 obtain ⟨o'1,ho'1,hp⟩:=Zp hp
 refine W.mono (Q:=fun e fr k=>match (generalizing:=false) o'1 with
   | n1=>e = (.exit 0)∧fr 1 = .p r'1 0∧fr 3 = .n n1∧Own B h k [Zac r'1 [v_s_Boxes,v_s_Edges]]) ?_ ?_
 ·clear hp
  refine zC (fun st fr k=>match st with | (n,i)=>fr 1 = .p r'1 0∧fr 3 = .n n∧fr 4 = .n i∧Own B h k [Zac r'1 [v_s_Boxes,v_s_Edges]]) ho'1 (s:=(0,0)) ⟨rfl,rfl,rfl,(hO'1.pick [0] rfl (by decide))⟩ ?_
  rintro ⟨n,i⟩ q'2 k'3 ⟨q'2_1,q'2_3,q'2_4,hO'3⟩ o'2 hp
  dsimp only [z7.s0] at hp
  refine Zf (Zf (Zl (Zd (.n i) q'2_4 (Ze (zU (r:=r'1) (o:=0) (o':=1) q'2_1 rfl) (Ze (zy (cs:=[v_s_Boxes,v_s_Edges]) (v:=v_s_Edges) (hO'3.box 0 rfl) rfl rfl) (Ze (Zao (hO'3.rd0 s_s_Edges.rd) rfl) (Ze (zJ (a:=i) (b:=(s.Edges.length:Int)) rfl rfl) ?_)))))))
  refine Zb (Za ?_)
  rcases Zt hp with ⟨b'1,hp⟩ | ⟨b'1,hp⟩
  ·refine zH (t:=(decide (i < (s.Edges.length:Int)))) rfl b'1 ?_
   refine zM (Za (Zf (Zae (Zl (Zd (.n n) q'2_3 (Ze (zU (r:=r'1) (o:=0) (o':=1) q'2_1 rfl) (Ze (zy (cs:=[v_s_Boxes,v_s_Edges]) (v:=v_s_Edges) (hO'3.box 0 rfl) rfl rfl) ?_)))))))
   refine Zd (.n i) q'2_4 ?_
   obtain ⟨c'1,hp⟩:=Zg hp
   refine Ze (z3 (E:=Zs) (z:=i) (hO'3.rd0 s_s_Edges.rd) rfl rfl c'1) (Ze (ZaT (off':=0) (off2:=3) (hO'3.rd0 s_s_Edges.rd) (Zo c'1) rfl rfl) (Ze (zO (w:=.s ((gi s.Edges i.toNat).Bends)) (hO'3.rd0 s_s_Edges.rd) rfl (Zo c'1) rfl) (Ze (Zfq (a:=((gi s.Edges i.toNat).Bends)) rfl) ?_)))
   obtain ⟨c'2,hp⟩:=Zg hp
   refine Ze (zu (a:=n) (b:=(((gi s.Edges i.toNat).Bends).size:Int)) rfl rfl c'2) (Zd (.n (n + (((gi s.Edges i.toNat).Bends).size:Int))) rfl (Zb (Zaf (Za (Zl (Zd (.n i) q'2_4 ?_))))))
   obtain ⟨c'3,hp⟩:=Zg hp
   refine Ze (zu (a:=i) (b:=1) rfl rfl c'3) (Zd (.n (i + 1)) rfl (Zb ?_))
   cases hp
   exact (Or.inl ⟨(n + (((gi s.Edges i.toNat).Bends).size:Int),i + 1),rfl,rfl,q'2_1,rfl,rfl,(hO'3.pick [0] rfl (by decide))⟩)
  ·refine zG (t:=(decide (i < (s.Edges.length:Int)))) rfl b'1 ?_
   refine ZaZ (zN ?_)
   cases hp
   refine (Or.inr ⟨n,rfl,(fun h=>nomatch h),(fun he=>?_)⟩)
   subst he; exact ⟨rfl,q'2_1,q'2_3,(hO'3.pick [0] rfl (by decide))⟩
 intro e'1 q'1 k'2 hJ'1
 obtain ⟨n1,rfl⟩:∃ x,x = o'1:=⟨_,rfl⟩
 obtain ⟨rfl,q'1_1,q'1_3,hO'2⟩:=hJ'1
 refine Zax (Za (Zf (Zf (Zl (Ze (zU (r:=r'1) (o:=0) (o':=0) q'1_1 rfl) (Ze (zy (cs:=[v_s_Boxes,v_s_Edges]) (v:=v_s_Boxes) (hO'2.box 0 rfl) rfl rfl) (Ze (Zao (hO'2.rd0 s_s_Boxes.rd) rfl) ?_)))))))
 refine Ze (Zdd (a:=(s.Boxes.length:Int)) (b:=4096) rfl rfl) (Zd (.b (decide (4096 < (s.Boxes.length:Int)))) rfl ?_)
 refine zT 5 (fun fr' k'=>k'2 = k'∧fr' 33 = .b ((decide (4096 < (s.Boxes.length:Int))) || (decide (4096 < (s.Edges.length:Int))))∧fr' 1 = .p r'1 0∧fr' 3 = .n n1) ?_ ?_
 ·rcases bc (decide (4096 < (s.Boxes.length:Int))) with b'2 | b'2
  ·skip
   refine Zr rfl b'2 (Zr rfl b'2 (Zr rfl b'2 (Zr rfl b'2 (Ze (zb (t:=(decide (4096 < (s.Boxes.length:Int)))) (v:=.b ((decide (4096 < (s.Boxes.length:Int))) || (decide (4096 < (s.Edges.length:Int))))) rfl b'2 (Eq.trans (b:=V.b true) rfl (Zbx b'2))) (Zb ?_)))))
   exact ⟨rfl,rfl,q'1_1,q'1_3⟩
  ·skip
   refine Z9 rfl b'2 (Ze (zU (r:=r'1) (o:=0) (o':=1) q'1_1 rfl) (Z9 rfl b'2 (Ze (zy (cs:=[v_s_Boxes,v_s_Edges]) (v:=v_s_Edges) (hO'2.box 0 rfl) rfl rfl) (Z9 rfl b'2 (Ze (Zao (hO'2.rd0 s_s_Edges.rd) rfl) (Z9 rfl b'2 (Ze (Zdd (a:=(s.Edges.length:Int)) (b:=4096) rfl rfl) ?_)))))))
   refine Ze (ZU (t:=(decide (4096 < (s.Boxes.length:Int)))) (v:=.b ((decide (4096 < (s.Boxes.length:Int))) || (decide (4096 < (s.Edges.length:Int))))) rfl b'2 (Eq.trans (b:=V.b (decide (4096 < (s.Edges.length:Int)))) rfl (ZbA b'2))) (Zb ?_)
   exact ⟨rfl,rfl,q'1_1,q'1_3⟩
 rintro frg'1 _ ⟨rfl,g'1_33,g'1_1,g'1_3⟩
 refine Zd (.b ((decide (4096 < (s.Boxes.length:Int))) || (decide (4096 < (s.Edges.length:Int))))) g'1_33 ?_
 refine zT 3 (fun fr' k'=>k'2 = k'∧fr' 37 = .b (((decide (4096 < (s.Boxes.length:Int))) || (decide (4096 < (s.Edges.length:Int)))) || (decide (4096 < n1)))∧fr' 1 = .p r'1 0) ?_ ?_
 ·rcases bc ((decide (4096 < (s.Boxes.length:Int))) || (decide (4096 < (s.Edges.length:Int)))) with b'3 | b'3
  ·skip
   refine Zr rfl b'3 (Zr rfl b'3 (Ze (zb (t:=((decide (4096 < (s.Boxes.length:Int))) || (decide (4096 < (s.Edges.length:Int))))) (v:=.b (((decide (4096 < (s.Boxes.length:Int))) || (decide (4096 < (s.Edges.length:Int)))) || (decide (4096 < n1)))) rfl b'3 (Eq.trans (b:=V.b true) rfl (Zbx b'3))) (Zb ?_)))
   exact ⟨rfl,rfl,g'1_1⟩
  ·skip
   refine Z9 rfl b'3 (Zd (.n n1) g'1_3 (Z9 rfl b'3 (Ze (Zdd (a:=n1) (b:=4096) rfl rfl) (Ze (ZU (t:=((decide (4096 < (s.Boxes.length:Int))) || (decide (4096 < (s.Edges.length:Int))))) (v:=.b (((decide (4096 < (s.Boxes.length:Int))) || (decide (4096 < (s.Edges.length:Int)))) || (decide (4096 < n1)))) rfl b'3 (Eq.trans (b:=V.b (decide (4096 < n1))) rfl (ZbA b'3))) (Zb ?_)))))
   exact ⟨rfl,rfl,g'1_1⟩
 rintro frg'2 _ ⟨rfl,g'2_37,g'2_1⟩
 refine Zb (Za ?_)
 rcases Zt hp with ⟨b'4,hp⟩ | ⟨b'4,hp⟩
 ·refine zH (t:=(((decide (4096 < (s.Boxes.length:Int))) || (decide (4096 < (s.Edges.length:Int)))) || (decide (4096 < n1)))) g'2_37 b'4 ?_
  refine Zf (Zl (Zd (.n 6) rfl (Zb (Za (Zav (zI (zF (Zap (n:=2) (v:=.n 6) rfl zk) ?_)))))))
  cases hp
  exact ⟨rfl,(hO'2.pick [] rfl (by decide))⟩
 ·refine zG (t:=(((decide (4096 < (s.Boxes.length:Int))) || (decide (4096 < (s.Edges.length:Int)))) || (decide (4096 < n1)))) g'2_37 b'4 ?_
  refine zM (Za (Zf (Zf (Zl (Zd (.n 0) rfl (Zb (Za ?_)))))))
  refine Zae ?_
  obtain ⟨o'3,ho'2,hp⟩:=Zp hp
  refine W.mono (Q:=fun e fr k=>match (generalizing:=false) o'3 with
    | .inl _=>e = (.exit 2)∧Own B h k []
    | .inr x=>e = .ret∧fr 2 = .n x∧Own B h k []) ?_ ?_
  ·clear hp
   refine zC (fun st fr k=>match st with | i1=>fr 1 = .p r'1 0∧fr 5 = .n i1∧Own B h k [Zac r'1 [v_s_Boxes,v_s_Edges]]) ho'2 (s:=0) ⟨g'2_1,rfl,(hO'2.pick [0] rfl (by decide))⟩ ?_
   rintro i1 q'4 k'5 ⟨q'4_1,q'4_5,hO'5⟩ o'4 hp
   dsimp only [z7.s1] at hp
   refine Zf (Zf (Zl (Zd (.n i1) q'4_5 (Ze (zU (r:=r'1) (o:=0) (o':=1) q'4_1 rfl) (Ze (zy (cs:=[v_s_Boxes,v_s_Edges]) (v:=v_s_Edges) (hO'5.box 0 rfl) rfl rfl) (Ze (Zao (hO'5.rd0 s_s_Edges.rd) rfl) (Ze (zJ (a:=i1) (b:=(s.Edges.length:Int)) rfl rfl) ?_)))))))
   refine Zb (Za ?_)
   rcases Zt hp with ⟨b'5,hp⟩ | ⟨b'5,hp⟩
   ·refine zH (t:=(decide (i1 < (s.Edges.length:Int)))) rfl b'5 ?_
    refine zM (Za (Zf (Zae (Zf (Zl (Ze (zU (r:=r'1) (o:=0) (o':=1) q'4_1 rfl) (Ze (zy (cs:=[v_s_Boxes,v_s_Edges]) (v:=v_s_Edges) (hO'5.box 0 rfl) rfl rfl) ?_)))))))
    refine Zd (.n i1) q'4_5 ?_
    obtain ⟨c'4,hp⟩:=Zg hp
    refine Ze (z3 (E:=Zs) (z:=i1) (hO'5.rd0 s_s_Edges.rd) rfl rfl c'4) (Ze (Ze4 (E:=Zs) (hO'5.rd0 s_s_Edges.rd) rfl (Zo c'4)) (zA (hO'5.alloc (cs:=Zs.c (⟨0,0,0,(⟨#[]⟩:ByteArray)⟩:zW)) hO'5.fr) ?_))
    rintro _ k'6 ⟨r'2,rfl,n'2,f'2,hW⟩
    have hO'6:=hW
    refine zA (hO'6.stb (ws:=Zs.c (gi s.Edges i1.toNat)) (cs':=Zs.c (gi s.Edges i1.toNat)) (v:=.ag (Zs.c (gi s.Edges i1.toNat))) 1 rfl rfl rfl rfl ⟨rfl,Nat.le_of_ble_eq_true rfl,rfl⟩ rfl) ?_
    rintro _ k'7 ⟨rfl,f'3,m'1,hW⟩
    have hO'7:=hW
    refine Zb (Za (Zf (Zf (Zl (Ze (zU (r:=r'2) (o:=0) (o':=0) rfl rfl) (Ze (zy (cs:=(Zs.c (gi s.Edges i1.toNat))) (v:=.n ((gi s.Edges i1.toNat).From)) (hO'7.box 1 rfl) rfl rfl) (Ze (zJ (a:=((gi s.Edges i1.toNat).From)) (b:=0) rfl rfl) ?_)))))))
    refine Zd (.b (decide (((gi s.Edges i1.toNat).From) < 0))) rfl ?_
    refine zT 7 (fun fr' k'=>k'7 = k'∧fr' 60 = .b ((decide (((gi s.Edges i1.toNat).From) < 0)) || (decide ((s.Boxes.length:Int)≤((gi s.Edges i1.toNat).From))))∧fr' 1 = .p r'1 0∧fr' 5 = .n i1∧fr' 6 = .p r'2 0) ?_ ?_
    ·rcases bc (decide (((gi s.Edges i1.toNat).From) < 0)) with b'6 | b'6
     ·skip
      refine Zr rfl b'6 (Zr rfl b'6 (Zr rfl b'6 (Zr rfl b'6 (Zr rfl b'6 (Zr rfl b'6 (Ze (zb (t:=(decide (((gi s.Edges i1.toNat).From) < 0))) (v:=.b ((decide (((gi s.Edges i1.toNat).From) < 0)) || (decide ((s.Boxes.length:Int)≤((gi s.Edges i1.toNat).From))))) rfl b'6 (Eq.trans (b:=V.b true) rfl (Zbx b'6))) (Zb ?_)))))))
      exact ⟨rfl,rfl,q'4_1,q'4_5,rfl⟩
     ·skip
      refine Z9 rfl b'6 (Ze (zU (r:=r'2) (o:=0) (o':=0) rfl rfl) (Z9 rfl b'6 (Ze (zy (cs:=(Zs.c (gi s.Edges i1.toNat))) (v:=.n ((gi s.Edges i1.toNat).From)) (hO'7.box 1 rfl) rfl rfl) (Z9 rfl b'6 (Ze (zU (r:=r'1) (o:=0) (o':=0) q'4_1 rfl) (Z9 rfl b'6 (Ze (zy (cs:=[v_s_Boxes,v_s_Edges]) (v:=v_s_Boxes) (hO'7.box 0 rfl) rfl rfl) ?_)))))))
      refine Z9 rfl b'6 (Ze (Zao (hO'7.rd0 s_s_Boxes.rd) rfl) (Z9 rfl b'6 (Ze (Zcl (a:=((gi s.Edges i1.toNat).From)) (b:=(s.Boxes.length:Int)) rfl rfl) (Ze (ZU (t:=(decide (((gi s.Edges i1.toNat).From) < 0))) (v:=.b ((decide (((gi s.Edges i1.toNat).From) < 0)) || (decide ((s.Boxes.length:Int)≤((gi s.Edges i1.toNat).From))))) rfl b'6 (Eq.trans (b:=V.b (decide ((s.Boxes.length:Int)≤((gi s.Edges i1.toNat).From)))) rfl (ZbA b'6))) (Zb ?_)))))
      exact ⟨rfl,rfl,q'4_1,q'4_5,rfl⟩
    rintro frg'3 _ ⟨rfl,g'3_60,g'3_1,g'3_5,g'3_6⟩
    refine Zd (.b ((decide (((gi s.Edges i1.toNat).From) < 0)) || (decide ((s.Boxes.length:Int)≤((gi s.Edges i1.toNat).From))))) g'3_60 ?_
    refine zT 4 (fun fr' k'=>k'7 = k'∧fr' 65 = .b (((decide (((gi s.Edges i1.toNat).From) < 0)) || (decide ((s.Boxes.length:Int)≤((gi s.Edges i1.toNat).From)))) || (decide (((gi s.Edges i1.toNat).To) < 0)))∧fr' 1 = .p r'1 0∧fr' 5 = .n i1∧fr' 6 = .p r'2 0) ?_ ?_
    ·rcases bc ((decide (((gi s.Edges i1.toNat).From) < 0)) || (decide ((s.Boxes.length:Int)≤((gi s.Edges i1.toNat).From)))) with b'7 | b'7
     ·skip
      refine Zr rfl b'7 (Zr rfl b'7 (Zr rfl b'7 (Ze (zb (t:=((decide (((gi s.Edges i1.toNat).From) < 0)) || (decide ((s.Boxes.length:Int)≤((gi s.Edges i1.toNat).From))))) (v:=.b (((decide (((gi s.Edges i1.toNat).From) < 0)) || (decide ((s.Boxes.length:Int)≤((gi s.Edges i1.toNat).From)))) || (decide (((gi s.Edges i1.toNat).To) < 0)))) rfl b'7 (Eq.trans (b:=V.b true) rfl (Zbx b'7))) (Zb ?_))))
      exact ⟨rfl,rfl,g'3_1,g'3_5,g'3_6⟩
     ·skip
      refine Z9 rfl b'7 (Ze (zU (r:=r'2) (o:=0) (o':=1) g'3_6 rfl) (Z9 rfl b'7 (Ze (zy (cs:=(Zs.c (gi s.Edges i1.toNat))) (v:=.n ((gi s.Edges i1.toNat).To)) (hO'7.box 1 rfl) rfl rfl) (Z9 rfl b'7 (Ze (zJ (a:=((gi s.Edges i1.toNat).To)) (b:=0) rfl rfl) (Ze (ZU (t:=((decide (((gi s.Edges i1.toNat).From) < 0)) || (decide ((s.Boxes.length:Int)≤((gi s.Edges i1.toNat).From))))) (v:=.b (((decide (((gi s.Edges i1.toNat).From) < 0)) || (decide ((s.Boxes.length:Int)≤((gi s.Edges i1.toNat).From)))) || (decide (((gi s.Edges i1.toNat).To) < 0)))) rfl b'7 (Eq.trans (b:=V.b (decide (((gi s.Edges i1.toNat).To) < 0))) rfl (ZbA b'7))) (Zb ?_)))))))
      exact ⟨rfl,rfl,g'3_1,g'3_5,g'3_6⟩
    rintro frg'4 _ ⟨rfl,g'4_65,g'4_1,g'4_5,g'4_6⟩
    refine Zd (.b (((decide (((gi s.Edges i1.toNat).From) < 0)) || (decide ((s.Boxes.length:Int)≤((gi s.Edges i1.toNat).From)))) || (decide (((gi s.Edges i1.toNat).To) < 0)))) g'4_65 ?_
    refine zT 7 (fun fr' k'=>k'7 = k'∧fr' 73 = .b ((((decide (((gi s.Edges i1.toNat).From) < 0)) || (decide ((s.Boxes.length:Int)≤((gi s.Edges i1.toNat).From)))) || (decide (((gi s.Edges i1.toNat).To) < 0))) || (decide ((s.Boxes.length:Int)≤((gi s.Edges i1.toNat).To))))∧fr' 1 = .p r'1 0∧fr' 5 = .n i1∧fr' 6 = .p r'2 0) ?_ ?_
    ·rcases bc (((decide (((gi s.Edges i1.toNat).From) < 0)) || (decide ((s.Boxes.length:Int)≤((gi s.Edges i1.toNat).From)))) || (decide (((gi s.Edges i1.toNat).To) < 0))) with b'8 | b'8
     ·skip
      refine Zr rfl b'8 (Zr rfl b'8 (Zr rfl b'8 (Zr rfl b'8 (Zr rfl b'8 (Zr rfl b'8 (Ze (zb (t:=(((decide (((gi s.Edges i1.toNat).From) < 0)) || (decide ((s.Boxes.length:Int)≤((gi s.Edges i1.toNat).From)))) || (decide (((gi s.Edges i1.toNat).To) < 0)))) (v:=.b ((((decide (((gi s.Edges i1.toNat).From) < 0)) || (decide ((s.Boxes.length:Int)≤((gi s.Edges i1.toNat).From)))) || (decide (((gi s.Edges i1.toNat).To) < 0))) || (decide ((s.Boxes.length:Int)≤((gi s.Edges i1.toNat).To))))) rfl b'8 (Eq.trans (b:=V.b true) rfl (Zbx b'8))) (Zb ?_)))))))
      exact ⟨rfl,rfl,g'4_1,g'4_5,g'4_6⟩
     ·skip
      refine Z9 rfl b'8 (Ze (zU (r:=r'2) (o:=0) (o':=1) g'4_6 rfl) (Z9 rfl b'8 (Ze (zy (cs:=(Zs.c (gi s.Edges i1.toNat))) (v:=.n ((gi s.Edges i1.toNat).To)) (hO'7.box 1 rfl) rfl rfl) (Z9 rfl b'8 (Ze (zU (r:=r'1) (o:=0) (o':=0) g'4_1 rfl) (Z9 rfl b'8 (Ze (zy (cs:=[v_s_Boxes,v_s_Edges]) (v:=v_s_Boxes) (hO'7.box 0 rfl) rfl rfl) ?_)))))))
      refine Z9 rfl b'8 (Ze (Zao (hO'7.rd0 s_s_Boxes.rd) rfl) (Z9 rfl b'8 (Ze (Zcl (a:=((gi s.Edges i1.toNat).To)) (b:=(s.Boxes.length:Int)) rfl rfl) (Ze (ZU (t:=(((decide (((gi s.Edges i1.toNat).From) < 0)) || (decide ((s.Boxes.length:Int)≤((gi s.Edges i1.toNat).From)))) || (decide (((gi s.Edges i1.toNat).To) < 0)))) (v:=.b ((((decide (((gi s.Edges i1.toNat).From) < 0)) || (decide ((s.Boxes.length:Int)≤((gi s.Edges i1.toNat).From)))) || (decide (((gi s.Edges i1.toNat).To) < 0))) || (decide ((s.Boxes.length:Int)≤((gi s.Edges i1.toNat).To))))) rfl b'8 (Eq.trans (b:=V.b (decide ((s.Boxes.length:Int)≤((gi s.Edges i1.toNat).To)))) rfl (ZbA b'8))) (Zb ?_)))))
      exact ⟨rfl,rfl,g'4_1,g'4_5,g'4_6⟩
    rintro frg'5 _ ⟨rfl,g'5_73,g'5_1,g'5_5,g'5_6⟩
    refine Zb (Za ?_)
    rcases Zt hp with ⟨b'9,hp⟩ | ⟨b'9,hp⟩
    ·refine zH (t:=((((decide (((gi s.Edges i1.toNat).From) < 0)) || (decide ((s.Boxes.length:Int)≤((gi s.Edges i1.toNat).From)))) || (decide (((gi s.Edges i1.toNat).To) < 0))) || (decide ((s.Boxes.length:Int)≤((gi s.Edges i1.toNat).To))))) g'5_73 b'9 ?_
     refine Zf (Zl (Zd (.n 3) rfl (Zb (Za (Zav (zI (Zbs ?_)))))))
     refine zI ?_
     cases hp
     refine (Or.inr ⟨.inr 3,rfl,(fun h=>nomatch h),(fun he=>?_)⟩)
     subst he; exact ⟨rfl,rfl,(hO'7.pick [] rfl (by decide))⟩
    ·refine zG (t:=((((decide (((gi s.Edges i1.toNat).From) < 0)) || (decide ((s.Boxes.length:Int)≤((gi s.Edges i1.toNat).From)))) || (decide (((gi s.Edges i1.toNat).To) < 0))) || (decide ((s.Boxes.length:Int)≤((gi s.Edges i1.toNat).To))))) g'5_73 b'9 ?_
     refine zM (Za (Zf (Zl (Ze (zU (r:=r'2) (o:=0) (o':=3) g'5_6 rfl) (Ze (zy (cs:=(Zs.c (gi s.Edges i1.toNat))) (v:=.s ((gi s.Edges i1.toNat).Bends)) (hO'7.box 1 rfl) rfl rfl) ?_)))))
     obtain ⟨x1,hx'1,hp⟩:=Zp hp
     obtain ⟨u'1,k'8,ca'1,rfl,hW'1⟩:=Zam.ok (h:=k'7)   hx'1
     refine Za8 (id:=217) (caps:=[]) rfl (Zx (v:=.s ((gi s.Edges i1.toNat).Bends)) rfl zo) ca'1 ?_
     have hO'8:=hO'7.call hW'1 rfl
     refine Zd (.b x1) rfl (Zb (Za (Zf (Zl (Ze (zU (r:=r'2) (o:=0) (o':=2) g'5_6 rfl) (Ze (zy (cs:=(Zs.c (gi s.Edges i1.toNat))) (v:=.n ((gi s.Edges i1.toNat).Dir)) (hO'8.box 1 rfl) rfl rfl) (Ze (zJ (a:=((gi s.Edges i1.toNat).Dir)) (b:=0) rfl rfl) ?_)))))))
     refine Zd (.b (decide (((gi s.Edges i1.toNat).Dir) < 0))) rfl ?_
     refine zT 4 (fun fr' k'=>k'8 = k'∧fr' 84 = .b ((decide (((gi s.Edges i1.toNat).Dir) < 0)) || (decide (3 < ((gi s.Edges i1.toNat).Dir))))∧fr' 1 = .p r'1 0∧fr' 5 = .n i1∧fr' 7 = .b x1) ?_ ?_
     ·rcases bc (decide (((gi s.Edges i1.toNat).Dir) < 0)) with b'10 | b'10
      ·skip
       refine Zr rfl b'10 (Zr rfl b'10 (Zr rfl b'10 (Ze (zb (t:=(decide (((gi s.Edges i1.toNat).Dir) < 0))) (v:=.b ((decide (((gi s.Edges i1.toNat).Dir) < 0)) || (decide (3 < ((gi s.Edges i1.toNat).Dir))))) rfl b'10 (Eq.trans (b:=V.b true) rfl (Zbx b'10))) (Zb ?_))))
       exact ⟨rfl,rfl,g'5_1,g'5_5,rfl⟩
      ·skip
       refine Z9 rfl b'10 (Ze (zU (r:=r'2) (o:=0) (o':=2) g'5_6 rfl) (Z9 rfl b'10 (Ze (zy (cs:=(Zs.c (gi s.Edges i1.toNat))) (v:=.n ((gi s.Edges i1.toNat).Dir)) (hO'8.box 1 rfl) rfl rfl) (Z9 rfl b'10 (Ze (Zdd (a:=((gi s.Edges i1.toNat).Dir)) (b:=3) rfl rfl) (Ze (ZU (t:=(decide (((gi s.Edges i1.toNat).Dir) < 0))) (v:=.b ((decide (((gi s.Edges i1.toNat).Dir) < 0)) || (decide (3 < ((gi s.Edges i1.toNat).Dir))))) rfl b'10 (Eq.trans (b:=V.b (decide (3 < ((gi s.Edges i1.toNat).Dir)))) rfl (ZbA b'10))) (Zb ?_)))))))
       exact ⟨rfl,rfl,g'5_1,g'5_5,rfl⟩
     rintro frg'6 _ ⟨rfl,g'6_84,g'6_1,g'6_5,g'6_7⟩
     refine Zd (.b ((decide (((gi s.Edges i1.toNat).Dir) < 0)) || (decide (3 < ((gi s.Edges i1.toNat).Dir))))) g'6_84 ?_
     refine zT 3 (fun fr' k'=>k'8 = k'∧fr' 88 = .b (((decide (((gi s.Edges i1.toNat).Dir) < 0)) || (decide (3 < ((gi s.Edges i1.toNat).Dir)))) || (!x1))∧fr' 1 = .p r'1 0∧fr' 5 = .n i1) ?_ ?_
     ·rcases bc ((decide (((gi s.Edges i1.toNat).Dir) < 0)) || (decide (3 < ((gi s.Edges i1.toNat).Dir)))) with b'11 | b'11
      ·skip
       refine Zr rfl b'11 (Zr rfl b'11 (Ze (zb (t:=((decide (((gi s.Edges i1.toNat).Dir) < 0)) || (decide (3 < ((gi s.Edges i1.toNat).Dir))))) (v:=.b (((decide (((gi s.Edges i1.toNat).Dir) < 0)) || (decide (3 < ((gi s.Edges i1.toNat).Dir)))) || (!x1))) rfl b'11 (Eq.trans (b:=V.b true) rfl (Zbx b'11))) (Zb ?_)))
       exact ⟨rfl,rfl,g'6_1,g'6_5⟩
      ·skip
       refine Z9 rfl b'11 (Zd (.b x1) g'6_7 (Z9 rfl b'11 (Ze (Zcb (t:=x1) rfl) (Ze (ZU (t:=((decide (((gi s.Edges i1.toNat).Dir) < 0)) || (decide (3 < ((gi s.Edges i1.toNat).Dir))))) (v:=.b (((decide (((gi s.Edges i1.toNat).Dir) < 0)) || (decide (3 < ((gi s.Edges i1.toNat).Dir)))) || (!x1))) rfl b'11 (Eq.trans (b:=V.b (!x1)) rfl (ZbA b'11))) (Zb ?_)))))
       exact ⟨rfl,rfl,g'6_1,g'6_5⟩
     rintro frg'7 _ ⟨rfl,g'7_88,g'7_1,g'7_5⟩
     refine Zb (Za ?_)
     rcases Zt hp with ⟨b'12,hp⟩ | ⟨b'12,hp⟩
     ·refine zH (t:=(((decide (((gi s.Edges i1.toNat).Dir) < 0)) || (decide (3 < ((gi s.Edges i1.toNat).Dir)))) || (!x1))) g'7_88 b'12 ?_
      refine Zf (Zl (Zd (.n 2) rfl (Zb (Za (Zav (Zbs (zI ?_)))))))
      cases hp
      refine (Or.inr ⟨.inr 2,rfl,(fun h=>nomatch h),(fun he=>?_)⟩)
      subst he; exact ⟨rfl,rfl,(hO'8.pick [] rfl (by decide))⟩
     ·refine zG (t:=(((decide (((gi s.Edges i1.toNat).Dir) < 0)) || (decide (3 < ((gi s.Edges i1.toNat).Dir)))) || (!x1))) g'7_88 b'12 ?_
      refine zM (Zaf (Za (Zl (Zd (.n i1) g'7_5 ?_))))
      obtain ⟨c'5,hp⟩:=Zg hp
      refine Ze (zu (a:=i1) (b:=1) rfl rfl c'5) (Zd (.n (i1 + 1)) rfl (Zb ?_))
      cases hp
      exact (Or.inl ⟨i1 + 1,rfl,rfl,g'7_1,rfl,(hO'8.pick [0] rfl (by decide))⟩)
   ·refine zG (t:=(decide (i1 < (s.Edges.length:Int)))) rfl b'5 ?_
    refine ZaZ (zN ?_)
    cases hp
    refine (Or.inr ⟨.inl (),rfl,(fun h=>nomatch h),(fun he=>?_)⟩)
    subst he; exact ⟨rfl,(hO'5.pick [] rfl (by decide))⟩
  intro e'2 q'3 k'4 hJ'2
  rcases o'3 with _ | x
  ·obtain ⟨rfl,hO'4⟩:=hJ'2
   refine Zax (Za (Zf (Zl (Zd (.n 0) rfl (Zb (Za (Zav ?_)))))))
   refine zF (Zap (n:=2) (v:=.n 0) rfl zk) ?_
   cases hp
   exact ⟨rfl,(hO'4.pick [] rfl (by decide))⟩
  ·obtain ⟨rfl,q'3_2,hO'4⟩:=hJ'2
   refine Zbs (zI (zF (Zap (n:=2) (v:=.n x) q'3_2 zk) ?_))
   cases hp
   exact ⟨rfl,(hO'4.pick [] rfl (by decide))⟩

theorem Zaw.ok {h:Hp} {e_:zW}   {r:Int} (hp:Zaw e_ = some r) :
  ∃ u k',Is G 230 [.ag (Zs.c e_)] h u k'∧V.n r = u∧Own (fun r=>r < h.n) h k' []:=by
 refine WC.is (ZaQ ZcO ?_)
 unfold Zaw at hp
 let B:Nat→Prop:=(fun r=>r < h.n)
 have hO:Own B h h []:=Own.start0 h
 refine Zf (Zl (zA (hO.boxd (v:=.ag (Zs.c e_)) (cs:=Zs.c e_) hO.fr rfl rfl) ?_))
 rintro _ k'1 ⟨r'1,rfl,n'1,f'1,hW⟩
 have hO'1:=hW
 refine Zd (.n 0) rfl (Zb (Za (Zf (Zl (Ze (zU (r:=r'1) (o:=0) (o':=2) rfl rfl) (Ze (zy (cs:=(Zs.c e_)) (v:=.n e_.Dir) (hO'1.box 0 rfl) rfl rfl) (Zd (.n e_.Dir) rfl ?_)))))))
 refine Zb (Za (Zf (Zf (Zl (Zd (.n 0) rfl (Zb (Za ?_)))))))
 refine Zae ?_
 obtain ⟨o'1,ho'1,hp⟩:=Zp hp
 refine W.mono (Q:=fun e fr k=>match (generalizing:=false) o'1 with
   | d1=>e = (.exit 0)∧fr 3 = .n d1∧Own B h k []) ?_ ?_
 ·clear hp
  refine zC (fun st fr k=>match st with | (d,i)=>fr 1 = .p r'1 0∧fr 3 = .n d∧fr 4 = .n i∧Own B h k [Zac r'1 (Zs.c e_)]) ho'1 (s:=(e_.Dir,0)) ⟨rfl,rfl,rfl,(hO'1.pick [0] rfl (by decide))⟩ ?_
  rintro ⟨d,i⟩ q'2 k'3 ⟨q'2_1,q'2_3,q'2_4,hO'3⟩ o'2 hp
  dsimp only [Zaw.s0] at hp
  refine Zf (Zf (Zl (Zd (.n i) q'2_4 (Ze (zU (r:=r'1) (o:=0) (o':=3) q'2_1 rfl) (Ze (zy (cs:=(Zs.c e_)) (v:=.s e_.Bends) (hO'3.box 0 rfl) rfl rfl) (Ze (Zfq (a:=e_.Bends) rfl) (Ze (zJ (a:=i) (b:=(e_.Bends.size:Int)) rfl rfl) ?_)))))))
  refine Zb (Za ?_)
  rcases Zt hp with ⟨b'1,hp⟩ | ⟨b'1,hp⟩
  ·refine zH (t:=(decide (i < (e_.Bends.size:Int)))) rfl b'1 ?_
   refine zM (Za (Zf (Zae (Zf (Zl (Ze (zU (r:=r'1) (o:=0) (o':=3) q'2_1 rfl) (Ze (zy (cs:=(Zs.c e_)) (v:=.s e_.Bends) (hO'3.box 0 rfl) rfl rfl) ?_)))))))
   refine Zd (.n i) q'2_4 ?_
   obtain ⟨c'1,hp⟩:=Zg hp
   refine Ze (Zh2 (a:=e_.Bends) (z:=i) rfl rfl c'1) (Ze (ZaS (a:=(sAt e_.Bends i.toNat)) (b:=76) rfl rfl) (Zb (Za ?_)))
   rcases Zt hp with ⟨b'2,hp⟩ | ⟨b'2,hp⟩
   ·refine zH (t:=(decide (sAt e_.Bends i.toNat = 76))) rfl b'2 ?_
    refine Zl (Zd (.n d) q'2_3 ?_)
    obtain ⟨c'2,hp⟩:=Zg hp
    refine Ze (zu (a:=d) (b:=1) rfl rfl c'2) (Ze (ZbJ (a:=(d + 1)) (b:=4) rfl rfl (by decide)) (Zd (.n ((d + 1).tmod 4)) rfl (Zb (Zaf (Za (Zl (Zd (.n i) q'2_4 ?_)))))))
    obtain ⟨c'3,hp⟩:=Zg hp
    refine Ze (zu (a:=i) (b:=1) rfl rfl c'3) (Zd (.n (i + 1)) rfl (Zb ?_))
    cases hp
    exact (Or.inl ⟨((d + 1).tmod 4,i + 1),rfl,rfl,q'2_1,rfl,rfl,(hO'3.pick [0] rfl (by decide))⟩)
   ·refine zG (t:=(decide (sAt e_.Bends i.toNat = 76))) rfl b'2 ?_
    refine Zl (Zd (.n d) q'2_3 ?_)
    obtain ⟨c'4,hp⟩:=Zg hp
    refine Ze (zu (a:=d) (b:=3) rfl rfl c'4) (Ze (ZbJ (a:=(d + 3)) (b:=4) rfl rfl (by decide)) (Zd (.n ((d + 3).tmod 4)) rfl (Zb (Zaf (Za (Zl (Zd (.n i) q'2_4 ?_)))))))
    obtain ⟨c'5,hp⟩:=Zg hp
    refine Ze (zu (a:=i) (b:=1) rfl rfl c'5) (Zd (.n (i + 1)) rfl (Zb ?_))
    cases hp
    exact (Or.inl ⟨((d + 3).tmod 4,i + 1),rfl,rfl,q'2_1,rfl,rfl,(hO'3.pick [0] rfl (by decide))⟩)
  ·refine zG (t:=(decide (i < (e_.Bends.size:Int)))) rfl b'1 ?_
   refine ZaZ (zN ?_)
   cases hp
   refine (Or.inr ⟨d,rfl,(fun h=>nomatch h),(fun he=>?_)⟩)
   subst he; exact ⟨rfl,q'2_3,(hO'3.pick [] rfl (by decide))⟩
 intro e'1 q'1 k'2 hJ'1
 obtain ⟨d1,rfl⟩:∃ x,x = o'1:=⟨_,rfl⟩
 obtain ⟨rfl,q'1_3,hO'2⟩:=hJ'1
 refine Zax (Za (Zf (Zl (Zd (.n d1) q'1_3 (Zd (.n d1) rfl (Zb (Za ?_)))))))
 refine Zav (zF (Zap (n:=2) (v:=.n d1) rfl zk) ?_)
 cases hp
 exact ⟨rfl,(hO'2.pick [] rfl (by decide))⟩

theorem Zbl.ok {h:Hp} {e_:zW}   {r:Int} (hp:Zbl e_ = some r) :
  ∃ u k',Is G 218 [.ag (Zs.c e_)] h u k'∧V.n r = u∧Own (fun r=>r < h.n) h k' []:=by
 refine WC.is (ZaQ ZcS ?_)
 unfold Zbl at hp
 let B:Nat→Prop:=(fun r=>r < h.n)
 have hO:Own B h h []:=Own.start0 h
 refine Zf (Zl (zA (hO.boxd (v:=.ag (Zs.c e_)) (cs:=Zs.c e_) hO.fr rfl rfl) ?_))
 rintro _ k'1 ⟨r'1,rfl,n'1,f'1,hW⟩
 have hO'1:=hW
 refine Zd (.n 0) rfl (Zb (Za (Zf (Zl (Ze (ZaM (cs:=(Zs.c e_)) (ws:=Zs.c e_) (hO'1.box 0 rfl) rfl rfl) ?_)))))
 obtain ⟨x,hx'1,hp⟩:=Zp hp
 obtain ⟨u'1,k'2,ca'1,rfl,hW'1⟩:=Zaw.ok (h:=k'1)   hx'1
 refine Za8 (id:=230) (caps:=[]) rfl (Zx (v:=.ag (Zs.c e_)) rfl zo) ca'1 ?_
 have hO'2:=hO'1.call hW'1 rfl
 refine Zd (.n x) rfl (Zb (Za (Zf (Zl (Zd (.n x) rfl ?_)))))
 obtain ⟨c'1,hp⟩:=Zg hp
 refine Ze (zu (a:=x) (b:=2) rfl rfl c'1) (Ze (ZbJ (a:=(x + 2)) (b:=4) rfl rfl (by decide)) (Zd (.n ((x + 2).tmod 4)) rfl (Zb (Za (Zav (zF (Zap (n:=2) (v:=.n ((x + 2).tmod 4)) rfl zk) ?_))))))
 cases hp
 exact ⟨rfl,(hO'2.pick [] rfl (by decide))⟩

theorem zV.ok {h:Hp} {s:z6} {v:Int} {d:Int} {v_s_Boxes:V} {v_s_Edges:V} (s_s_Boxes:Sl e_bool h v_s_Boxes s.Boxes) (s_s_Edges:Sl Zs h v_s_Edges s.Edges) {r:(List Int)} (hp:zV s v d = some r) :
  ∃ u k',Is G 199 [.ag [v_s_Boxes,v_s_Edges],.n v,.n d] h u k'∧∃ (v'1:V),v'1 = u∧Own (fun r=>r < h.n) h k' [eSl zn v'1 r]:=by
 refine WC.is (ZaQ Zdl ?_)
 unfold zV at hp
 let B:Nat→Prop:=(fun r=>r < h.n)
 have hO:Own B h h []:=Own.start0 h
 refine Zf (Zl (zA (hO.boxd (v:=.ag [v_s_Boxes,v_s_Edges]) (cs:=[v_s_Boxes,v_s_Edges]) hO.fr rfl rfl) ?_))
 rintro _ k'1 ⟨r'1,rfl,n'1,f'1,hW⟩
 have hO'1:=hW
 refine Zd (.sn) rfl (Zb (Za (Zf (Zl (Zd (.sn) rfl (Zb (Za ?_)))))))
 refine Zf (Zf (Zl (Zd (.n 0) rfl (Zb (Za (Zae ?_))))))
 obtain ⟨o'1,ho'1,hp⟩:=Zp hp
 refine W.mono (Q:=fun e fr k=>match (generalizing:=false) o'1 with
   | l1=>e = (.exit 0)∧∃ (v'3:V),fr 7 = v'3∧Own B h k [eSl zn v'3 l1]) ?_ ?_
 ·clear hp
  have hO'3:=hO'1.nil zn
  refine zC (fun st fr k=>match st with | (l,i)=>∃ (v'2:V),fr 1 = .n v∧fr 2 = .n d∧fr 3 = .p r'1 0∧fr 7 = v'2∧fr 8 = .n i∧Own B h k [Zac r'1 [v_s_Boxes,v_s_Edges],eSl zn v'2 l]) ho'1 (s:=(([]:List Int),0)) ⟨V.sn,rfl,rfl,rfl,rfl,rfl,(hO'3.pick [0,1] rfl (by decide))⟩ ?_
  rintro ⟨l,i⟩ q'2 k'3 ⟨v'2,q'2_1,q'2_2,q'2_3,q'2_7,q'2_8,hO'4⟩ o'2 hp
  dsimp only [zV.s0] at hp
  refine Zf (Zf (Zl (Zd (.n i) q'2_8 (Ze (zU (r:=r'1) (o:=0) (o':=1) q'2_3 rfl) (Ze (zy (cs:=[v_s_Boxes,v_s_Edges]) (v:=v_s_Edges) (hO'4.box 0 rfl) rfl rfl) (Ze (Zao (hO'4.rd0 s_s_Edges.rd) rfl) (Ze (zJ (a:=i) (b:=(s.Edges.length:Int)) rfl rfl) ?_)))))))
  refine Zb (Za ?_)
  rcases Zt hp with ⟨b'1,hp⟩ | ⟨b'1,hp⟩
  ·refine zH (t:=(decide (i < (s.Edges.length:Int)))) rfl b'1 ?_
   refine zM (Za (Zf (Zae (Zf (Zl (Ze (zU (r:=r'1) (o:=0) (o':=1) q'2_3 rfl) (Ze (zy (cs:=[v_s_Boxes,v_s_Edges]) (v:=v_s_Edges) (hO'4.box 0 rfl) rfl rfl) ?_)))))))
   refine Zd (.n i) q'2_8 ?_
   obtain ⟨c'1,hp⟩:=Zg hp
   refine Ze (z3 (E:=Zs) (z:=i) (hO'4.rd0 s_s_Edges.rd) rfl rfl c'1) (Ze (Ze4 (E:=Zs) (hO'4.rd0 s_s_Edges.rd) rfl (Zo c'1)) (zA (hO'4.alloc (cs:=Zs.c (⟨0,0,0,(⟨#[]⟩:ByteArray)⟩:zW)) hO'4.fr) ?_))
   rintro _ k'4 ⟨r'2,rfl,n'2,f'2,hW⟩
   have hO'5:=hW
   refine zA (hO'5.stb (ws:=Zs.c (gi s.Edges i.toNat)) (cs':=Zs.c (gi s.Edges i.toNat)) (v:=.ag (Zs.c (gi s.Edges i.toNat))) 2 rfl rfl rfl rfl ⟨rfl,Nat.le_of_ble_eq_true rfl,rfl⟩ rfl) ?_
   rintro _ k'5 ⟨rfl,f'3,m'1,hW⟩
   have hO'6:=hW
   refine Zb (Za (Zf (Zf (Zl (Ze (zU (r:=r'2) (o:=0) (o':=0) rfl rfl) (Ze (zy (cs:=(Zs.c (gi s.Edges i.toNat))) (v:=.n ((gi s.Edges i.toNat).From)) (hO'6.box 2 rfl) rfl rfl) (Zd (.n v) q'2_1 ?_)))))))
   refine Ze (ZaS (a:=((gi s.Edges i.toNat).From)) (b:=v) rfl rfl) (Zd (.b (decide ((gi s.Edges i.toNat).From = v))) rfl ?_)
   refine zT 5 (fun fr' k'=>k'5 = k'∧fr' 32 = .b ((decide ((gi s.Edges i.toNat).From = v)) && (decide ((gi s.Edges i.toNat).Dir = d)))∧fr' 1 = .n v∧fr' 2 = .n d∧fr' 3 = .p r'1 0∧fr' 7 = v'2∧fr' 8 = .n i∧fr' 9 = .p r'2 0) ?_ ?_
   ·rcases bc (decide ((gi s.Edges i.toNat).From = v)) with b'2 | b'2
    ·skip
     refine Z9 rfl b'2 (Ze (zU (r:=r'2) (o:=0) (o':=2) rfl rfl) (Z9 rfl b'2 (Ze (zy (cs:=(Zs.c (gi s.Edges i.toNat))) (v:=.n ((gi s.Edges i.toNat).Dir)) (hO'6.box 2 rfl) rfl rfl) (Z9 rfl b'2 (Zd (.n d) q'2_2 (Z9 rfl b'2 (Ze (ZaS (a:=((gi s.Edges i.toNat).Dir)) (b:=d) rfl rfl) ?_)))))))
     refine Ze (zb (t:=(decide ((gi s.Edges i.toNat).From = v))) (v:=.b ((decide ((gi s.Edges i.toNat).From = v)) && (decide ((gi s.Edges i.toNat).Dir = d)))) rfl b'2 (Eq.trans (b:=V.b (decide ((gi s.Edges i.toNat).Dir = d))) rfl (Zb8 b'2))) (Zb ?_)
     exact ⟨rfl,rfl,q'2_1,q'2_2,q'2_3,q'2_7,q'2_8,rfl⟩
    ·skip
     refine Zr rfl b'2 (Zr rfl b'2 (Zr rfl b'2 (Zr rfl b'2 (Ze (ZU (t:=(decide ((gi s.Edges i.toNat).From = v))) (v:=.b ((decide ((gi s.Edges i.toNat).From = v)) && (decide ((gi s.Edges i.toNat).Dir = d)))) rfl b'2 (Eq.trans (b:=V.b false) rfl (Zby b'2))) (Zb ?_)))))
     exact ⟨rfl,rfl,q'2_1,q'2_2,q'2_3,q'2_7,q'2_8,rfl⟩
   rintro frg'1 _ ⟨rfl,g'1_32,g'1_1,g'1_2,g'1_3,g'1_7,g'1_8,g'1_9⟩
   refine Zb (Za ?_)
   obtain ⟨o'3,ho'2,hp⟩:=Zp hp
   refine W.mono (Q:=fun e fr k=>match (generalizing:=false) o'3 with
     | l2=>e = .normal∧∃ (v'4:V),fr 1 = .n v∧fr 2 = .n d∧fr 3 = .p r'1 0∧fr 7 = v'4∧fr 8 = .n i∧fr 9 = .p r'2 0∧Own B h k [Zac r'1 [v_s_Boxes,v_s_Edges],eSl zn v'4 l2,Zac r'2 (Zs.c (gi s.Edges i.toNat))]) ?_ ?_
   ·clear hp; have hp:=ho'2; clear ho'2
    rcases Zt hp with ⟨b'3,hp⟩ | ⟨b'3,hp⟩
    ·refine zH (t:=((decide ((gi s.Edges i.toNat).From = v)) && (decide ((gi s.Edges i.toNat).Dir = d)))) g'1_32 b'3 ?_
     refine Zl (Zd v'2 g'1_7 (Zd (.n i) g'1_8 ?_))
     obtain ⟨c'2,hp⟩:=Zg hp
     refine Ze (Zfp (a:=2) (b:=i) rfl rfl c'2) (zA (hO'6.bsl (E:=zn) (l:=[2 * i]) hO'6.fr (by rw [(z9 (v:=.n (2 * i)) rfl ZaI)]; rfl) rfl) ?_)
     rintro v'5 k'7 ⟨r'3,f'4,hW⟩
     have hO'8:=hW
     obtain ⟨c'3,hp⟩:=Zg hp
     refine zA (hO'8.app (E:=zn) (bytes:=8) 1 hO'8.fr rfl (hO'8.sl 3 rfl) rfl rfl (fun _=>rfl) c'3 (by decide)) ?_
     rintro v'6 k'8 ⟨f'5,hW⟩
     have hO'9:=hW
     refine Zd v'6 rfl (Zb ?_)
     cases hp
     exact ⟨rfl,v'6,g'1_1,g'1_2,g'1_3,rfl,g'1_8,g'1_9,(hO'9.pick [0,1,2] rfl (by decide))⟩
    ·refine zG (t:=((decide ((gi s.Edges i.toNat).From = v)) && (decide ((gi s.Edges i.toNat).Dir = d)))) g'1_32 b'3 ?_
     refine zM ?_
     cases hp
     exact ⟨rfl,v'2,g'1_1,g'1_2,g'1_3,g'1_7,g'1_8,g'1_9,(hO'6.pick [0,1,2] rfl (by decide))⟩
   intro e'2 q'3 k'6 hJ'2
   obtain ⟨l2,rfl⟩:∃ x,x = o'3:=⟨_,rfl⟩
   obtain ⟨rfl,v'4,q'3_1,q'3_2,q'3_3,q'3_7,q'3_8,q'3_9,hO'7⟩:=hJ'2
   refine Za (Zf (Zl (Ze (ZaM (cs:=(Zs.c (gi s.Edges i.toNat))) (ws:=Zs.c (gi s.Edges i.toNat)) (hO'7.box 2 rfl) q'3_9 rfl) ?_)))
   obtain ⟨x,hx'1,hp⟩:=Zp hp
   obtain ⟨u'1,k'9,ca'1,rfl,hW'1⟩:=Zbl.ok (h:=k'6)   hx'1
   refine Za8 (id:=218) (caps:=[]) rfl (Zx (v:=.ag (Zs.c (gi s.Edges i.toNat))) rfl zo) ca'1 ?_
   have hO'10:=hO'7.call hW'1 rfl
   refine Zd (.n x) rfl (Zb (Za (Zf (Zl (Ze (zU (r:=r'2) (o:=0) (o':=1) q'3_9 rfl) (Ze (zy (cs:=(Zs.c (gi s.Edges i.toNat))) (v:=.n ((gi s.Edges i.toNat).To)) (hO'10.box 2 rfl) rfl rfl) (Zd (.n v) q'3_1 ?_)))))))
   refine Ze (ZaS (a:=((gi s.Edges i.toNat).To)) (b:=v) rfl rfl) (Zd (.b (decide ((gi s.Edges i.toNat).To = v))) rfl ?_)
   refine zT 4 (fun fr' k'=>k'9 = k'∧fr' 48 = .b ((decide ((gi s.Edges i.toNat).To = v)) && (decide (x = d)))∧fr' 1 = .n v∧fr' 2 = .n d∧fr' 3 = .p r'1 0∧fr' 7 = v'4∧fr' 8 = .n i) ?_ ?_
   ·rcases bc (decide ((gi s.Edges i.toNat).To = v)) with b'4 | b'4
    ·skip
     refine Z9 rfl b'4 (Zd (.n x) rfl (Z9 rfl b'4 (Zd (.n d) q'3_2 (Z9 rfl b'4 (Ze (ZaS (a:=x) (b:=d) rfl rfl) (Ze (zb (t:=(decide ((gi s.Edges i.toNat).To = v))) (v:=.b ((decide ((gi s.Edges i.toNat).To = v)) && (decide (x = d)))) rfl b'4 (Eq.trans (b:=V.b (decide (x = d))) rfl (Zb8 b'4))) (Zb ?_)))))))
     exact ⟨rfl,rfl,q'3_1,q'3_2,q'3_3,q'3_7,q'3_8⟩
    ·skip
     refine Zr rfl b'4 (Zr rfl b'4 (Zr rfl b'4 (Ze (ZU (t:=(decide ((gi s.Edges i.toNat).To = v))) (v:=.b ((decide ((gi s.Edges i.toNat).To = v)) && (decide (x = d)))) rfl b'4 (Eq.trans (b:=V.b false) rfl (Zby b'4))) (Zb ?_))))
     exact ⟨rfl,rfl,q'3_1,q'3_2,q'3_3,q'3_7,q'3_8⟩
   rintro frg'2 _ ⟨rfl,g'2_48,g'2_1,g'2_2,g'2_3,g'2_7,g'2_8⟩
   refine Zb (Za ?_)
   rcases Zt hp with ⟨b'5,hp⟩ | ⟨b'5,hp⟩
   ·refine zH (t:=((decide ((gi s.Edges i.toNat).To = v)) && (decide (x = d)))) g'2_48 b'5 ?_
    refine Zl (Zd v'4 g'2_7 (Zd (.n i) g'2_8 ?_))
    obtain ⟨c'4,hp⟩:=Zg hp
    refine Ze (Zfp (a:=2) (b:=i) rfl rfl c'4) ?_
    obtain ⟨c'5,hp⟩:=Zg hp
    refine Ze (zu (a:=(2 * i)) (b:=1) rfl rfl c'5) (zA (hO'10.bsl (E:=zn) (l:=[(2 * i) + 1]) hO'10.fr (by rw [(z9 (v:=.n ((2 * i) + 1)) rfl ZaI)]; rfl) rfl) ?_)
    rintro v'7 k'10 ⟨r'4,f'6,hW⟩
    have hO'11:=hW
    obtain ⟨c'6,hp⟩:=Zg hp
    refine zA (hO'11.app (E:=zn) (bytes:=8) 1 hO'11.fr rfl (hO'11.sl 3 rfl) rfl rfl (fun _=>rfl) c'6 (by decide)) ?_
    rintro v'8 k'11 ⟨f'7,hW⟩
    have hO'12:=hW
    refine Zd v'8 rfl (Zb (Zaf (Za (Zl (Zd (.n i) g'2_8 ?_)))))
    obtain ⟨c'7,hp⟩:=Zg hp
    refine Ze (zu (a:=i) (b:=1) rfl rfl c'7) (Zd (.n (i + 1)) rfl (Zb ?_))
    cases hp
    exact (Or.inl ⟨(l2++[(2 * i) + 1],i + 1),rfl,rfl,v'8,g'2_1,g'2_2,g'2_3,rfl,rfl,(hO'12.pick [0,1] rfl (by decide))⟩)
   ·refine zG (t:=((decide ((gi s.Edges i.toNat).To = v)) && (decide (x = d)))) g'2_48 b'5 ?_
    refine zM (Zaf (Za (Zl (Zd (.n i) g'2_8 ?_))))
    obtain ⟨c'8,hp⟩:=Zg hp
    refine Ze (zu (a:=i) (b:=1) rfl rfl c'8) (Zd (.n (i + 1)) rfl (Zb ?_))
    cases hp
    exact (Or.inl ⟨(l2,i + 1),rfl,rfl,v'4,g'2_1,g'2_2,g'2_3,g'2_7,rfl,(hO'10.pick [0,1] rfl (by decide))⟩)
  ·refine zG (t:=(decide (i < (s.Edges.length:Int)))) rfl b'1 ?_
   refine ZaZ (zN ?_)
   cases hp
   refine (Or.inr ⟨l,rfl,(fun h=>nomatch h),(fun he=>?_)⟩)
   subst he; exact ⟨rfl,v'2,q'2_7,(hO'4.pick [1] rfl (by decide))⟩
 intro e'1 q'1 k'2 hJ'1
 obtain ⟨l1,rfl⟩:∃ x,x = o'1:=⟨_,rfl⟩
 obtain ⟨rfl,v'3,q'1_7,hO'2⟩:=hJ'1
 refine Zax (Za (Zf (Zl (Zd v'3 q'1_7 (Zd v'3 rfl (Zb (Za ?_)))))))
 refine Zav (zF (Zap (n:=6) (v:=v'3) rfl zk) ?_)
 cases hp
 exact ⟨v'3,rfl,(hO'2.pick [0] rfl (by decide))⟩

theorem zl.ok {h:Hp} {s:z6} {v_s_Boxes:V} {v_s_Edges:V} (s_s_Boxes:Sl e_bool h v_s_Boxes s.Boxes) (s_s_Edges:Sl Zs h v_s_Edges s.Edges) {r:Int} (hp:zl s = some r) :
  ∃ u k',Is G 198 [.ag [v_s_Boxes,v_s_Edges]] h u k'∧V.n r = u∧Own (fun r=>r < h.n) h k' []:=by
 refine WC.is (ZaQ Zc4 ?_)
 unfold zl at hp
 let B:Nat→Prop:=(fun r=>r < h.n)
 have hO:Own B h h []:=Own.start0 h
 refine Zf (Zl (zA (hO.boxd (v:=.ag [v_s_Boxes,v_s_Edges]) (cs:=[v_s_Boxes,v_s_Edges]) hO.fr rfl rfl) ?_))
 rintro _ k'1 ⟨r'1,rfl,n'1,f'1,hW⟩
 have hO'1:=hW
 refine Zd (.n 0) rfl (Zb (Za (Zf (Zl (Zd (.n 0) rfl (Zb (Za ?_)))))))
 refine Zf (Zf (Zl (Zd (.n 0) rfl (Zb (Za (Zae ?_))))))
 obtain ⟨o'1,ho'1,hp⟩:=Zp hp
 refine W.mono (Q:=fun e fr k=>match (generalizing:=false) o'1 with
   | n1=>e = (.exit 0)∧fr 1 = .p r'1 0∧fr 3 = .n n1∧Own B h k [Zac r'1 [v_s_Boxes,v_s_Edges]]) ?_ ?_
 ·clear hp
  refine zC (fun st fr k=>match st with | (n,v)=>fr 1 = .p r'1 0∧fr 3 = .n n∧fr 4 = .n v∧Own B h k [Zac r'1 [v_s_Boxes,v_s_Edges]]) ho'1 (s:=(0,0)) ⟨rfl,rfl,rfl,(hO'1.pick [0] rfl (by decide))⟩ ?_
  rintro ⟨n,v⟩ q'2 k'3 ⟨q'2_1,q'2_3,q'2_4,hO'3⟩ o'2 hp
  dsimp only [zl.s0] at hp
  refine Zf (Zf (Zl (Zd (.n v) q'2_4 (Ze (zU (r:=r'1) (o:=0) (o':=0) q'2_1 rfl) (Ze (zy (cs:=[v_s_Boxes,v_s_Edges]) (v:=v_s_Boxes) (hO'3.box 0 rfl) rfl rfl) (Ze (Zao (hO'3.rd0 s_s_Boxes.rd) rfl) (Ze (zJ (a:=v) (b:=(s.Boxes.length:Int)) rfl rfl) ?_)))))))
  refine Zb (Za ?_)
  rcases Zt hp with ⟨b'1,hp⟩ | ⟨b'1,hp⟩
  ·refine zH (t:=(decide (v < (s.Boxes.length:Int)))) rfl b'1 ?_
   refine zM (Za (Zf (Zae (Zf (Zl (Zd (.n n) q'2_3 ?_))))))
   obtain ⟨c'1,hp⟩:=Zg hp
   refine Ze (zu (a:=n) (b:=1) rfl rfl c'1) (Zd (.n (n + 1)) rfl (Zb (Za (Zf (Zf (Zl (Zd (.n 0) rfl ?_)))))))
   refine Zb (Za (Zae ?_))
   obtain ⟨o'3,ho'2,hp⟩:=Zp hp
   refine W.mono (Q:=fun e fr k=>match (generalizing:=false) o'3 with
     | n3=>e = (.exit 2)∧fr 1 = .p r'1 0∧fr 3 = .n n3∧fr 4 = .n v∧Own B h k [Zac r'1 [v_s_Boxes,v_s_Edges]]) ?_ ?_
   ·clear hp
    refine zC (fun st fr k=>match st with | (n2,d)=>fr 1 = .p r'1 0∧fr 3 = .n n2∧fr 4 = .n v∧fr 5 = .n d∧Own B h k [Zac r'1 [v_s_Boxes,v_s_Edges]]) ho'2 (s:=(n + 1,0)) ⟨q'2_1,rfl,q'2_4,rfl,(hO'3.pick [0] rfl (by decide))⟩ ?_
    rintro ⟨n2,d⟩ q'4 k'5 ⟨q'4_1,q'4_3,q'4_4,q'4_5,hO'5⟩ o'4 hp
    dsimp only [zl.s1] at hp
    refine Zf (Zf (Zl (Zd (.n d) q'4_5 (Ze (zJ (a:=d) (b:=4) rfl rfl) (Zd (.b (decide (d < 4))) rfl ?_)))))
    obtain ⟨t,hv'1,hp⟩:=Zp hp
    refine zT 6 (fun fr' k'=>k'5 = k'∧fr' 25 = .b t∧fr' 1 = .p r'1 0∧fr' 3 = .n n2∧fr' 4 = .n v∧fr' 5 = .n d) ?_ ?_
    ·clear hp; rcases Zt hv'1 with ⟨b'2,hp⟩ | ⟨b'2,hp⟩
     ·skip
      refine Z9 rfl b'2 (Ze (zU (r:=r'1) (o:=0) (o':=0) q'4_1 rfl) (Z9 rfl b'2 (Ze (zy (cs:=[v_s_Boxes,v_s_Edges]) (v:=v_s_Boxes) (hO'5.box 0 rfl) rfl rfl) (Z9 rfl b'2 (Zd (.n v) q'4_4 (Z9 rfl b'2 ?_))))))
      obtain ⟨c'2,hp⟩:=Zg hp
      refine Ze (z3 (E:=e_bool) (z:=v) (hO'5.rd0 s_s_Boxes.rd) rfl rfl c'2) (Z9 rfl b'2 (Ze (zO (w:=.b (gi s.Boxes v.toNat)) (hO'5.rd0 s_s_Boxes.rd) rfl (Zo c'2) rfl) (Ze (zb (t:=(decide (d < 4))) (v:=.b t) rfl b'2 (Eq.trans (b:=V.b (gi s.Boxes v.toNat)) rfl (congrArg V.b (Option.some.inj hp)))) (Zb ?_))))
      exact ⟨rfl,rfl,q'4_1,q'4_3,q'4_4,q'4_5⟩
     ·skip
      refine Zr rfl b'2 (Zr rfl b'2 (Zr rfl b'2 (Zr rfl b'2 (Zr rfl b'2 (Ze (ZU (t:=(decide (d < 4))) (v:=.b t) rfl b'2 (Eq.trans (b:=V.b false) rfl (congrArg V.b (Option.some.inj hp)))) (Zb ?_))))))
      exact ⟨rfl,rfl,q'4_1,q'4_3,q'4_4,q'4_5⟩
    rintro frg'1 _ ⟨rfl,g'1_25,g'1_1,g'1_3,g'1_4,g'1_5⟩
    refine Zb (Za ?_)
    rcases Zt hp with ⟨b'3,hp⟩ | ⟨b'3,hp⟩
    ·refine zH (t:=t) g'1_25 b'3 ?_
     refine zM (Za (Zf (Zae (Zf (Zl (Ze (ZaM (cs:=[v_s_Boxes,v_s_Edges]) (ws:=[v_s_Boxes,v_s_Edges]) (hO'5.box 0 rfl) g'1_1 rfl) (Zd (.n v) g'1_4 ?_)))))))
     refine Zd (.n d) g'1_5 ?_
     obtain ⟨x,hx'1,hp⟩:=Zp hp
     obtain ⟨u'1,k'6,ca'1,v'1,rfl,hW'1⟩:=zV.ok (h:=k'5)  (hO'5.rd0 s_s_Boxes.rd) (hO'5.rd0 s_s_Edges.rd) hx'1
     refine Za8 (id:=199) (caps:=[]) rfl (Zx (v:=.ag [v_s_Boxes,v_s_Edges]) rfl (Zx (v:=.n v) rfl (Zx (v:=.n d) rfl zo))) ca'1 ?_
     have hO'6:=hO'5.call hW'1 rfl
     refine Zd v'1 rfl (Zb (Za (Zl (Zd (.n n2) g'1_3 (Zd v'1 rfl (Ze (Zao (hO'6.sl 1 rfl) rfl) ?_))))))
     obtain ⟨c'3,hp⟩:=Zg hp
     refine Ze (zu (a:=n2) (b:=(x.length:Int)) rfl rfl c'3) (Zd (.n (n2 + (x.length:Int))) rfl (Zb (Zaf (Za (Zl (Zd (.n d) g'1_5 ?_))))))
     obtain ⟨c'4,hp⟩:=Zg hp
     refine Ze (zu (a:=d) (b:=1) rfl rfl c'4) (Zd (.n (d + 1)) rfl (Zb ?_))
     cases hp
     exact (Or.inl ⟨(n2 + (x.length:Int),d + 1),rfl,rfl,g'1_1,rfl,g'1_4,rfl,(hO'6.pick [0] rfl (by decide))⟩)
    ·refine zG (t:=t) g'1_25 b'3 ?_
     refine ZaZ (zN ?_)
     cases hp
     refine (Or.inr ⟨n2,rfl,(fun h=>nomatch h),(fun he=>?_)⟩)
     subst he; exact ⟨rfl,g'1_1,g'1_3,g'1_4,(hO'5.pick [0] rfl (by decide))⟩
   intro e'2 q'3 k'4 hJ'2
   obtain ⟨n3,rfl⟩:∃ x,x = o'3:=⟨_,rfl⟩
   obtain ⟨rfl,q'3_1,q'3_3,q'3_4,hO'4⟩:=hJ'2
   refine Zax (Za (Zf (Zl (Ze (zU (r:=r'1) (o:=0) (o':=0) q'3_1 rfl) (Ze (zy (cs:=[v_s_Boxes,v_s_Edges]) (v:=v_s_Boxes) (hO'4.box 0 rfl) rfl rfl) (Zd (.n v) q'3_4 ?_))))))
   obtain ⟨c'5,hp⟩:=Zg hp
   refine Ze (z3 (E:=e_bool) (z:=v) (hO'4.rd0 s_s_Boxes.rd) rfl rfl c'5) (Ze (zO (w:=.b (gi s.Boxes v.toNat)) (hO'4.rd0 s_s_Boxes.rd) rfl (Zo c'5) rfl) (Zb (Za ?_)))
   rcases Zt hp with ⟨b'4,hp⟩ | ⟨b'4,hp⟩
   ·refine zH (t:=(gi s.Boxes v.toNat)) rfl b'4 ?_
    refine Zl (Zd (.n n3) q'3_3 ?_)
    obtain ⟨c'6,hp⟩:=Zg hp
    refine Ze (zu (a:=n3) (b:=3) rfl rfl c'6) (Zd (.n (n3 + 3)) rfl (Zb (Zaf (Za (Zl (Zd (.n v) q'3_4 ?_))))))
    obtain ⟨c'7,hp⟩:=Zg hp
    refine Ze (zu (a:=v) (b:=1) rfl rfl c'7) (Zd (.n (v + 1)) rfl (Zb ?_))
    cases hp
    exact (Or.inl ⟨(n3 + 3,v + 1),rfl,rfl,q'3_1,rfl,rfl,(hO'4.pick [0] rfl (by decide))⟩)
   ·refine zG (t:=(gi s.Boxes v.toNat)) rfl b'4 ?_
    refine zM (Zaf (Za (Zl (Zd (.n v) q'3_4 ?_))))
    obtain ⟨c'8,hp⟩:=Zg hp
    refine Ze (zu (a:=v) (b:=1) rfl rfl c'8) (Zd (.n (v + 1)) rfl (Zb ?_))
    cases hp
    exact (Or.inl ⟨(n3,v + 1),rfl,rfl,q'3_1,q'3_3,rfl,(hO'4.pick [0] rfl (by decide))⟩)
  ·refine zG (t:=(decide (v < (s.Boxes.length:Int)))) rfl b'1 ?_
   refine ZaZ (zN ?_)
   cases hp
   refine (Or.inr ⟨n,rfl,(fun h=>nomatch h),(fun he=>?_)⟩)
   subst he; exact ⟨rfl,q'2_1,q'2_3,(hO'3.pick [0] rfl (by decide))⟩
 intro e'1 q'1 k'2 hJ'1
 obtain ⟨n1,rfl⟩:∃ x,x = o'1:=⟨_,rfl⟩
 obtain ⟨rfl,q'1_1,q'1_3,hO'2⟩:=hJ'1
 refine Zax (Za (Zf (Zf (Zl (Zd (.n 0) rfl (Zb (Za ?_)))))))
 refine Zae ?_
 obtain ⟨o'5,ho'3,hp⟩:=Zp hp
 refine W.mono (Q:=fun e fr k=>match (generalizing:=false) o'5 with
   | n5=>e = (.exit 4)∧fr 3 = .n n5∧Own B h k []) ?_ ?_
 ·clear hp
  refine zC (fun st fr k=>match st with | (n4,i)=>fr 1 = .p r'1 0∧fr 3 = .n n4∧fr 7 = .n i∧Own B h k [Zac r'1 [v_s_Boxes,v_s_Edges]]) ho'3 (s:=(n1,0)) ⟨q'1_1,q'1_3,rfl,(hO'2.pick [0] rfl (by decide))⟩ ?_
  rintro ⟨n4,i⟩ q'6 k'8 ⟨q'6_1,q'6_3,q'6_7,hO'8⟩ o'6 hp
  dsimp only [zl.s2] at hp
  refine Zf (Zf (Zl (Zd (.n i) q'6_7 (Ze (zU (r:=r'1) (o:=0) (o':=1) q'6_1 rfl) (Ze (zy (cs:=[v_s_Boxes,v_s_Edges]) (v:=v_s_Edges) (hO'8.box 0 rfl) rfl rfl) (Ze (Zao (hO'8.rd0 s_s_Edges.rd) rfl) (Ze (zJ (a:=i) (b:=(s.Edges.length:Int)) rfl rfl) ?_)))))))
  refine Zb (Za ?_)
  rcases Zt hp with ⟨b'5,hp⟩ | ⟨b'5,hp⟩
  ·refine zH (t:=(decide (i < (s.Edges.length:Int)))) rfl b'5 ?_
   refine zM (Za (Zf (Zae (Zl (Zd (.n n4) q'6_3 (Ze (zU (r:=r'1) (o:=0) (o':=1) q'6_1 rfl) (Ze (zy (cs:=[v_s_Boxes,v_s_Edges]) (v:=v_s_Edges) (hO'8.box 0 rfl) rfl rfl) ?_)))))))
   refine Zd (.n i) q'6_7 ?_
   obtain ⟨c'9,hp⟩:=Zg hp
   refine Ze (z3 (E:=Zs) (z:=i) (hO'8.rd0 s_s_Edges.rd) rfl rfl c'9) (Ze (ZaT (off':=0) (off2:=3) (hO'8.rd0 s_s_Edges.rd) (Zo c'9) rfl rfl) (Ze (zO (w:=.s ((gi s.Edges i.toNat).Bends)) (hO'8.rd0 s_s_Edges.rd) rfl (Zo c'9) rfl) (Ze (Zfq (a:=((gi s.Edges i.toNat).Bends)) rfl) ?_)))
   obtain ⟨c'10,hp⟩:=Zg hp
   refine Ze (zu (a:=n4) (b:=(((gi s.Edges i.toNat).Bends).size:Int)) rfl rfl c'10) (Zd (.n (n4 + (((gi s.Edges i.toNat).Bends).size:Int))) rfl (Zb (Zaf (Za (Zl (Zd (.n i) q'6_7 ?_))))))
   obtain ⟨c'11,hp⟩:=Zg hp
   refine Ze (zu (a:=i) (b:=1) rfl rfl c'11) (Zd (.n (i + 1)) rfl (Zb ?_))
   cases hp
   exact (Or.inl ⟨(n4 + (((gi s.Edges i.toNat).Bends).size:Int),i + 1),rfl,rfl,q'6_1,rfl,rfl,(hO'8.pick [0] rfl (by decide))⟩)
  ·refine zG (t:=(decide (i < (s.Edges.length:Int)))) rfl b'5 ?_
   refine ZaZ (zN ?_)
   cases hp
   refine (Or.inr ⟨n4,rfl,(fun h=>nomatch h),(fun he=>?_)⟩)
   subst he; exact ⟨rfl,q'6_3,(hO'8.pick [] rfl (by decide))⟩
 intro e'3 q'5 k'7 hJ'3
 obtain ⟨n5,rfl⟩:∃ x,x = o'5:=⟨_,rfl⟩
 obtain ⟨rfl,q'5_3,hO'7⟩:=hJ'3
 refine Zax (Za (Zf (Zl (Zd (.n n5) q'5_3 (Zd (.n n5) rfl (Zb (Za ?_)))))))
 refine Zav (zF (Zap (n:=2) (v:=.n n5) rfl zk) ?_)
 cases hp
 exact ⟨rfl,(hO'7.pick [] rfl (by decide))⟩

theorem zd.ok {h:Hp} {s:z6} {v_s_Boxes:V} {v_s_Edges:V} (s_s_Boxes:Sl e_bool h v_s_Boxes s.Boxes) (s_s_Edges:Sl Zs h v_s_Edges s.Edges) {r:Int} (hp:zd s = some r) :
  ∃ u k',Is G 174 [.ag [v_s_Boxes,v_s_Edges]] h u k'∧V.n r = u∧Own (fun r=>r < h.n) h k' []:=by
 refine WC.is (ZaQ Zc5 ?_)
 unfold zd at hp
 let B:Nat→Prop:=(fun r=>r < h.n)
 have hO:Own B h h []:=Own.start0 h
 refine Zf (Zl (zA (hO.boxd (v:=.ag [v_s_Boxes,v_s_Edges]) (cs:=[v_s_Boxes,v_s_Edges]) hO.fr rfl rfl) ?_))
 rintro _ k'1 ⟨r'1,rfl,n'1,f'1,hW⟩
 have hO'1:=hW
 refine Zd (.n 0) rfl (Zb (Za (Zf (Zl (Ze (ZaM (cs:=[v_s_Boxes,v_s_Edges]) (ws:=[v_s_Boxes,v_s_Edges]) (hO'1.box 0 rfl) rfl rfl) ?_)))))
 obtain ⟨x,hx'1,hp⟩:=Zp hp
 obtain ⟨u'1,k'2,ca'1,rfl,hW'1⟩:=z7.ok (h:=k'1)  (hO'1.rd0 s_s_Boxes.rd) (hO'1.rd0 s_s_Edges.rd) hx'1
 refine Za8 (id:=197) (caps:=[]) rfl (Zx (v:=.ag [v_s_Boxes,v_s_Edges]) rfl zo) ca'1 ?_
 have hO'2:=hO'1.call hW'1 rfl
 refine Zd (.n x) rfl (Zb (Za (Zf (Zf (Zl (Zd (.n x) rfl (Ze (ZbL (a:=x) (b:=0) rfl rfl) ?_)))))))
 refine Zb (Za ?_)
 rcases Zt hp with ⟨b'1,hp⟩ | ⟨b'1,hp⟩
 ·refine zH (t:=(!(decide (x = 0)))) rfl b'1 ?_
  refine Zf (Zl (Zd (.n x) rfl (Zd (.n x) rfl (Zb (Za (Zav (zI ?_)))))))
  refine zF (Zap (n:=2) (v:=.n x) rfl zk) ?_
  cases hp
  exact ⟨rfl,(hO'2.pick [] rfl (by decide))⟩
 ·refine zG (t:=(!(decide (x = 0)))) rfl b'1 ?_
  refine zM (Za (Zf (Zl (Ze (ZaM (cs:=[v_s_Boxes,v_s_Edges]) (ws:=[v_s_Boxes,v_s_Edges]) (hO'2.box 0 rfl) rfl rfl) ?_))))
  obtain ⟨x1,hx'2,hp⟩:=Zp hp
  obtain ⟨u'2,k'3,ca'2,rfl,hW'2⟩:=zl.ok (h:=k'2)  (hO'2.rd0 s_s_Boxes.rd) (hO'2.rd0 s_s_Edges.rd) hx'2
  refine Za8 (id:=198) (caps:=[]) rfl (Zx (v:=.ag [v_s_Boxes,v_s_Edges]) rfl zo) ca'2 ?_
  have hO'3:=hO'2.call hW'2 rfl
  refine Zd (.n x1) rfl (Zb (Za (Zf (Zf (Zl (Zd (.n x1) rfl (Ze (Zdd (a:=x1) (b:=4096) rfl rfl) ?_)))))))
  refine Zb (Za ?_)
  rcases Zt hp with ⟨b'2,hp⟩ | ⟨b'2,hp⟩
  ·refine zH (t:=(decide (4096 < x1))) rfl b'2 ?_
   refine Zf (Zl (Zd (.n 6) rfl (Zb (Za (Zav (zI (zF (Zap (n:=2) (v:=.n 6) rfl zk) ?_)))))))
   cases hp
   exact ⟨rfl,(hO'3.pick [] rfl (by decide))⟩
  ·refine zG (t:=(decide (4096 < x1))) rfl b'2 ?_
   refine zM (Za (Zf (Zf (Zl (Zd (.n 0) rfl (Zb (Za ?_)))))))
   refine Zae ?_
   obtain ⟨o'1,ho'1,hp⟩:=Zp hp
   refine W.mono (Q:=fun e fr k=>match (generalizing:=false) o'1 with
     | .inl _=>e = (.exit 0)∧fr 1 = .p r'1 0∧Own B h k [Zac r'1 [v_s_Boxes,v_s_Edges]]
     | .inr _=>e = .ret∧fr 2 = .n 8∧Own B h k []) ?_ ?_
   ·clear hp
    refine zC (fun st fr k=>match st with | v=>fr 1 = .p r'1 0∧fr 5 = .n v∧Own B h k [Zac r'1 [v_s_Boxes,v_s_Edges]]) ho'1 (s:=0) ⟨rfl,rfl,(hO'3.pick [0] rfl (by decide))⟩ ?_
    rintro v q'2 k'5 ⟨q'2_1,q'2_5,hO'5⟩ o'2 hp
    dsimp only [zd.s0] at hp
    refine Zf (Zf (Zl (Zd (.n v) q'2_5 (Ze (zU (r:=r'1) (o:=0) (o':=0) q'2_1 rfl) (Ze (zy (cs:=[v_s_Boxes,v_s_Edges]) (v:=v_s_Boxes) (hO'5.box 0 rfl) rfl rfl) (Ze (Zao (hO'5.rd0 s_s_Boxes.rd) rfl) (Ze (zJ (a:=v) (b:=(s.Boxes.length:Int)) rfl rfl) ?_)))))))
    refine Zb (Za ?_)
    rcases Zt hp with ⟨b'3,hp⟩ | ⟨b'3,hp⟩
    ·refine zH (t:=(decide (v < (s.Boxes.length:Int)))) rfl b'3 ?_
     refine zM (Za (Zf (Zae (Zf (Zl (Zd (.n 0) rfl (Zb ?_)))))))
     refine Za (Zae ?_)
     obtain ⟨o'3,ho'2,hp⟩:=Zp hp
     refine W.mono (Q:=fun e fr k=>match (generalizing:=false) o'3 with
       | .inl _=>e = (.exit 2)∧fr 1 = .p r'1 0∧fr 5 = .n v∧Own B h k [Zac r'1 [v_s_Boxes,v_s_Edges]]
       | .inr _=>e = .ret∧fr 2 = .n 8∧Own B h k []) ?_ ?_
     ·clear hp
      refine zC (fun st fr k=>match st with | d=>fr 1 = .p r'1 0∧fr 5 = .n v∧fr 6 = .n d∧Own B h k [Zac r'1 [v_s_Boxes,v_s_Edges]]) ho'2 (s:=0) ⟨q'2_1,q'2_5,rfl,(hO'5.pick [0] rfl (by decide))⟩ ?_
      rintro d q'4 k'7 ⟨q'4_1,q'4_5,q'4_6,hO'7⟩ o'4 hp
      dsimp only [zd.s1] at hp
      refine Zf (Zf (Zl (Zd (.n d) q'4_6 (Ze (zJ (a:=d) (b:=4) rfl rfl) (Zd (.b (decide (d < 4))) rfl ?_)))))
      obtain ⟨t,hv'1,hp⟩:=Zp hp
      refine zT 7 (fun fr' k'=>k'7 = k'∧fr' 35 = .b t∧fr' 1 = .p r'1 0∧fr' 5 = .n v∧fr' 6 = .n d) ?_ ?_
      ·clear hp; rcases Zt hv'1 with ⟨b'4,hp⟩ | ⟨b'4,hp⟩
       ·skip
        refine Z9 rfl b'4 (Ze (zU (r:=r'1) (o:=0) (o':=0) q'4_1 rfl) (Z9 rfl b'4 (Ze (zy (cs:=[v_s_Boxes,v_s_Edges]) (v:=v_s_Boxes) (hO'7.box 0 rfl) rfl rfl) (Z9 rfl b'4 (Zd (.n v) q'4_5 (Z9 rfl b'4 ?_))))))
        obtain ⟨c'1,hp⟩:=Zg hp
        refine Ze (z3 (E:=e_bool) (z:=v) (hO'7.rd0 s_s_Boxes.rd) rfl rfl c'1) (Z9 rfl b'4 (Ze (zO (w:=.b (gi s.Boxes v.toNat)) (hO'7.rd0 s_s_Boxes.rd) rfl (Zo c'1) rfl) (Z9 rfl b'4 (Ze (Zcb (t:=(gi s.Boxes v.toNat)) rfl) (Ze (zb (t:=(decide (d < 4))) (v:=.b t) rfl b'4 (Eq.trans (b:=V.b (!(gi s.Boxes v.toNat))) rfl (congrArg V.b (Option.some.inj hp)))) (Zb ?_))))))
        exact ⟨rfl,rfl,q'4_1,q'4_5,q'4_6⟩
       ·skip
        refine Zr rfl b'4 (Zr rfl b'4 (Zr rfl b'4 (Zr rfl b'4 (Zr rfl b'4 (Zr rfl b'4 (Ze (ZU (t:=(decide (d < 4))) (v:=.b t) rfl b'4 (Eq.trans (b:=V.b false) rfl (congrArg V.b (Option.some.inj hp)))) (Zb ?_)))))))
        exact ⟨rfl,rfl,q'4_1,q'4_5,q'4_6⟩
      rintro frg'1 _ ⟨rfl,g'1_35,g'1_1,g'1_5,g'1_6⟩
      refine Zb (Za ?_)
      rcases Zt hp with ⟨b'5,hp⟩ | ⟨b'5,hp⟩
      ·refine zH (t:=t) g'1_35 b'5 ?_
       refine zM (Za (Zf (Zae (Zf (Zl (Ze (ZaM (cs:=[v_s_Boxes,v_s_Edges]) (ws:=[v_s_Boxes,v_s_Edges]) (hO'7.box 0 rfl) g'1_1 rfl) (Zd (.n v) g'1_5 ?_)))))))
       refine Zd (.n d) g'1_6 ?_
       obtain ⟨x2,hx'3,hp⟩:=Zp hp
       obtain ⟨u'3,k'8,ca'3,v'1,rfl,hW'3⟩:=zV.ok (h:=k'7)  (hO'7.rd0 s_s_Boxes.rd) (hO'7.rd0 s_s_Edges.rd) hx'3
       refine Za8 (id:=199) (caps:=[]) rfl (Zx (v:=.ag [v_s_Boxes,v_s_Edges]) rfl (Zx (v:=.n v) rfl (Zx (v:=.n d) rfl zo))) ca'3 ?_
       have hO'8:=hO'7.call hW'3 rfl
       refine Zd v'1 rfl (Zb (Za (Zf (Zl (Zd v'1 rfl (Ze (Zao (hO'8.sl 1 rfl) rfl) (Ze (Zdd (a:=(x2.length:Int)) (b:=1) rfl rfl) ?_)))))))
       refine Zb (Za ?_)
       rcases Zt hp with ⟨b'6,hp⟩ | ⟨b'6,hp⟩
       ·refine zH (t:=(decide (1 < (x2.length:Int)))) rfl b'6 ?_
        refine Zf (Zl (Zd (.n 8) rfl (Zb (Za (Zav (Zbs (zI ?_)))))))
        cases hp
        refine (Or.inr ⟨.inr (),rfl,(fun h=>nomatch h),(fun he=>?_)⟩)
        subst he; exact ⟨rfl,rfl,(hO'8.pick [] rfl (by decide))⟩
       ·refine zG (t:=(decide (1 < (x2.length:Int)))) rfl b'6 ?_
        refine zM (Zaf (Za (Zl (Zd (.n d) g'1_6 ?_))))
        obtain ⟨c'2,hp⟩:=Zg hp
        refine Ze (zu (a:=d) (b:=1) rfl rfl c'2) (Zd (.n (d + 1)) rfl (Zb ?_))
        cases hp
        exact (Or.inl ⟨d + 1,rfl,rfl,g'1_1,g'1_5,rfl,(hO'8.pick [0] rfl (by decide))⟩)
      ·refine zG (t:=t) g'1_35 b'5 ?_
       refine ZaZ (zN ?_)
       cases hp
       refine (Or.inr ⟨.inl (),rfl,(fun h=>nomatch h),(fun he=>?_)⟩)
       subst he; exact ⟨rfl,g'1_1,g'1_5,(hO'7.pick [0] rfl (by decide))⟩
     intro e'2 q'3 k'6 hJ'2
     rcases o'3 with _ | _
     ·obtain ⟨rfl,q'3_1,q'3_5,hO'6⟩:=hJ'2
      refine Zax (Zaf (Za (Zl (Zd (.n v) q'3_5 ?_))))
      obtain ⟨c'3,hp⟩:=Zg hp
      refine Ze (zu (a:=v) (b:=1) rfl rfl c'3) (Zd (.n (v + 1)) rfl (Zb ?_))
      cases hp
      exact (Or.inl ⟨v + 1,rfl,rfl,q'3_1,rfl,(hO'6.pick [0] rfl (by decide))⟩)
     ·obtain ⟨rfl,q'3_2,hO'6⟩:=hJ'2
      refine Zbs (Zbs (zI ?_))
      cases hp
      refine (Or.inr ⟨.inr (),rfl,(fun h=>nomatch h),(fun he=>?_)⟩)
      subst he; exact ⟨rfl,q'3_2,(hO'6.pick [] rfl (by decide))⟩
    ·refine zG (t:=(decide (v < (s.Boxes.length:Int)))) rfl b'3 ?_
     refine ZaZ (zN ?_)
     cases hp
     refine (Or.inr ⟨.inl (),rfl,(fun h=>nomatch h),(fun he=>?_)⟩)
     subst he; exact ⟨rfl,q'2_1,(hO'5.pick [0] rfl (by decide))⟩
   intro e'1 q'1 k'4 hJ'1
   rcases o'1 with _ | _
   ·obtain ⟨rfl,q'1_1,hO'4⟩:=hJ'1
    refine Zax (Za (Zf (Zf (Zl (Zd (.n 0) rfl (Zb (Za ?_)))))))
    refine Zae ?_
    obtain ⟨o'5,ho'3,hp⟩:=Zp hp
    refine W.mono (Q:=fun e fr k=>match (generalizing:=false) o'5 with
      | .inl _=>e = (.exit 4)∧Own B h k []
      | .inr _=>e = .ret∧fr 2 = .n 10∧Own B h k []) ?_ ?_
    ·clear hp
     refine zC (fun st fr k=>match st with | i=>fr 1 = .p r'1 0∧fr 8 = .n i∧Own B h k [Zac r'1 [v_s_Boxes,v_s_Edges]]) ho'3 (s:=0) ⟨q'1_1,rfl,(hO'4.pick [0] rfl (by decide))⟩ ?_
     rintro i q'6 k'10 ⟨q'6_1,q'6_8,hO'10⟩ o'6 hp
     dsimp only [zd.s2] at hp
     refine Zf (Zf (Zl (Zd (.n i) q'6_8 (Ze (zU (r:=r'1) (o:=0) (o':=1) q'6_1 rfl) (Ze (zy (cs:=[v_s_Boxes,v_s_Edges]) (v:=v_s_Edges) (hO'10.box 0 rfl) rfl rfl) (Ze (Zao (hO'10.rd0 s_s_Edges.rd) rfl) (Ze (zJ (a:=i) (b:=(s.Edges.length:Int)) rfl rfl) ?_)))))))
     refine Zb (Za ?_)
     rcases Zt hp with ⟨b'7,hp⟩ | ⟨b'7,hp⟩
     ·refine zH (t:=(decide (i < (s.Edges.length:Int)))) rfl b'7 ?_
      refine zM (Za (Zf (Zae (Zf (Zl (Ze (zU (r:=r'1) (o:=0) (o':=1) q'6_1 rfl) (Ze (zy (cs:=[v_s_Boxes,v_s_Edges]) (v:=v_s_Edges) (hO'10.box 0 rfl) rfl rfl) ?_)))))))
      refine Zd (.n i) q'6_8 ?_
      obtain ⟨c'4,hp⟩:=Zg hp
      refine Ze (z3 (E:=Zs) (z:=i) (hO'10.rd0 s_s_Edges.rd) rfl rfl c'4) (Ze (Ze4 (E:=Zs) (hO'10.rd0 s_s_Edges.rd) rfl (Zo c'4)) (zA (hO'10.alloc (cs:=Zs.c (⟨0,0,0,(⟨#[]⟩:ByteArray)⟩:zW)) hO'10.fr) ?_))
      rintro _ k'11 ⟨r'2,rfl,n'2,f'2,hW⟩
      have hO'11:=hW
      refine zA (hO'11.stb (ws:=Zs.c (gi s.Edges i.toNat)) (cs':=Zs.c (gi s.Edges i.toNat)) (v:=.ag (Zs.c (gi s.Edges i.toNat))) 1 rfl rfl rfl rfl ⟨rfl,Nat.le_of_ble_eq_true rfl,rfl⟩ rfl) ?_
      rintro _ k'12 ⟨rfl,f'3,m'1,hW⟩
      have hO'12:=hW
      refine Zb (Za (Zf (Zl (Ze (zU (r:=r'2) (o:=0) (o':=0) rfl rfl) (Ze (zy (cs:=(Zs.c (gi s.Edges i.toNat))) (v:=.n ((gi s.Edges i.toNat).From)) (hO'12.box 1 rfl) rfl rfl) (Ze (zU (r:=r'2) (o:=0) (o':=1) rfl rfl) (Ze (zy (cs:=(Zs.c (gi s.Edges i.toNat))) (v:=.n ((gi s.Edges i.toNat).To)) (hO'12.box 1 rfl) rfl rfl) ?_)))))))
      refine Ze (ZaS (a:=((gi s.Edges i.toNat).From)) (b:=((gi s.Edges i.toNat).To)) rfl rfl) (Zd (.b (decide ((gi s.Edges i.toNat).From = (gi s.Edges i.toNat).To))) rfl ?_)
      refine zT 4 (fun fr' k'=>k'12 = k'∧fr' 66 = .b ((decide ((gi s.Edges i.toNat).From = (gi s.Edges i.toNat).To)) && (((gi s.Edges i.toNat).Bends).toList == (⟨#[]⟩:ByteArray).toList))∧fr' 1 = .p r'1 0∧fr' 8 = .n i∧fr' 9 = .p r'2 0) ?_ ?_
      ·rcases bc (decide ((gi s.Edges i.toNat).From = (gi s.Edges i.toNat).To)) with b'8 | b'8
       ·skip
        refine Z9 rfl b'8 (Ze (zU (r:=r'2) (o:=0) (o':=3) rfl rfl) (Z9 rfl b'8 (Ze (zy (cs:=(Zs.c (gi s.Edges i.toNat))) (v:=.s ((gi s.Edges i.toNat).Bends)) (hO'12.box 1 rfl) rfl rfl) (Z9 rfl b'8 (Ze (Zlh (a:=((gi s.Edges i.toNat).Bends)) (b:=(⟨#[]⟩:ByteArray)) rfl rfl) (Ze (zb (t:=(decide ((gi s.Edges i.toNat).From = (gi s.Edges i.toNat).To))) (v:=.b ((decide ((gi s.Edges i.toNat).From = (gi s.Edges i.toNat).To)) && (((gi s.Edges i.toNat).Bends).toList == (⟨#[]⟩:ByteArray).toList))) rfl b'8 (Eq.trans (b:=V.b (((gi s.Edges i.toNat).Bends).toList == (⟨#[]⟩:ByteArray).toList)) rfl (Zb8 b'8))) (Zb ?_)))))))
        exact ⟨rfl,rfl,q'6_1,q'6_8,rfl⟩
       ·skip
        refine Zr rfl b'8 (Zr rfl b'8 (Zr rfl b'8 (Ze (ZU (t:=(decide ((gi s.Edges i.toNat).From = (gi s.Edges i.toNat).To))) (v:=.b ((decide ((gi s.Edges i.toNat).From = (gi s.Edges i.toNat).To)) && (((gi s.Edges i.toNat).Bends).toList == (⟨#[]⟩:ByteArray).toList))) rfl b'8 (Eq.trans (b:=V.b false) rfl (Zby b'8))) (Zb ?_))))
        exact ⟨rfl,rfl,q'6_1,q'6_8,rfl⟩
      rintro frg'2 _ ⟨rfl,g'2_66,g'2_1,g'2_8,g'2_9⟩
      refine Zd (.b ((decide ((gi s.Edges i.toNat).From = (gi s.Edges i.toNat).To)) && (((gi s.Edges i.toNat).Bends).toList == (⟨#[]⟩:ByteArray).toList))) g'2_66 ?_
      obtain ⟨t1,hv'2,hp⟩:=Zp hp
      refine zT 8 (fun fr' k'=>k'12 = k'∧fr' 75 = .b t1∧fr' 1 = .p r'1 0∧fr' 8 = .n i) ?_ ?_
      ·clear hp; rcases Zt hv'2 with ⟨b'9,hp⟩ | ⟨b'9,hp⟩
       ·skip
        refine Z9 rfl b'9 (Ze (zU (r:=r'1) (o:=0) (o':=0) g'2_1 rfl) (Z9 rfl b'9 (Ze (zy (cs:=[v_s_Boxes,v_s_Edges]) (v:=v_s_Boxes) (hO'12.box 0 rfl) rfl rfl) (Z9 rfl b'9 (Ze (zU (r:=r'2) (o:=0) (o':=0) g'2_9 rfl) (Z9 rfl b'9 (Ze (zy (cs:=(Zs.c (gi s.Edges i.toNat))) (v:=.n ((gi s.Edges i.toNat).From)) (hO'12.box 1 rfl) rfl rfl) ?_)))))))
        refine Z9 rfl b'9 ?_
        obtain ⟨c'5,hp⟩:=Zg hp
        refine Ze (z3 (E:=e_bool) (z:=((gi s.Edges i.toNat).From)) (hO'12.rd0 s_s_Boxes.rd) rfl rfl c'5) (Z9 rfl b'9 (Ze (zO (w:=.b (gi s.Boxes ((gi s.Edges i.toNat).From:Int).toNat)) (hO'12.rd0 s_s_Boxes.rd) rfl (Zo c'5) rfl) (Z9 rfl b'9 (Ze (Zcb (t:=(gi s.Boxes ((gi s.Edges i.toNat).From:Int).toNat)) rfl) (Ze (zb (t:=((decide ((gi s.Edges i.toNat).From = (gi s.Edges i.toNat).To)) && (((gi s.Edges i.toNat).Bends).toList == (⟨#[]⟩:ByteArray).toList))) (v:=.b t1) rfl b'9 (Eq.trans (b:=V.b (!(gi s.Boxes ((gi s.Edges i.toNat).From:Int).toNat))) rfl (congrArg V.b (Option.some.inj hp)))) (Zb ?_))))))
        exact ⟨rfl,rfl,g'2_1,g'2_8⟩
       ·skip
        refine Zr rfl b'9 (Zr rfl b'9 (Zr rfl b'9 (Zr rfl b'9 (Zr rfl b'9 (Zr rfl b'9 (Zr rfl b'9 (Ze (ZU (t:=((decide ((gi s.Edges i.toNat).From = (gi s.Edges i.toNat).To)) && (((gi s.Edges i.toNat).Bends).toList == (⟨#[]⟩:ByteArray).toList))) (v:=.b t1) rfl b'9 (Eq.trans (b:=V.b false) rfl (congrArg V.b (Option.some.inj hp)))) ?_)))))))
        refine Zb ?_
        exact ⟨rfl,rfl,g'2_1,g'2_8⟩
      rintro frg'3 _ ⟨rfl,g'3_75,g'3_1,g'3_8⟩
      refine Zb (Za ?_)
      rcases Zt hp with ⟨b'10,hp⟩ | ⟨b'10,hp⟩
      ·refine zH (t:=t1) g'3_75 b'10 ?_
       refine Zf (Zl (Zd (.n 10) rfl (Zb (Za (Zav (Zbs (zI ?_)))))))
       cases hp
       refine (Or.inr ⟨.inr (),rfl,(fun h=>nomatch h),(fun he=>?_)⟩)
       subst he; exact ⟨rfl,rfl,(hO'12.pick [] rfl (by decide))⟩
      ·refine zG (t:=t1) g'3_75 b'10 ?_
       refine zM (Zaf (Za (Zl (Zd (.n i) g'3_8 ?_))))
       obtain ⟨c'6,hp⟩:=Zg hp
       refine Ze (zu (a:=i) (b:=1) rfl rfl c'6) (Zd (.n (i + 1)) rfl (Zb ?_))
       cases hp
       exact (Or.inl ⟨i + 1,rfl,rfl,g'3_1,rfl,(hO'12.pick [0] rfl (by decide))⟩)
     ·refine zG (t:=(decide (i < (s.Edges.length:Int)))) rfl b'7 ?_
      refine ZaZ (zN ?_)
      cases hp
      refine (Or.inr ⟨.inl (),rfl,(fun h=>nomatch h),(fun he=>?_)⟩)
      subst he; exact ⟨rfl,(hO'10.pick [] rfl (by decide))⟩
    intro e'3 q'5 k'9 hJ'3
    rcases o'5 with _ | _
    ·obtain ⟨rfl,hO'9⟩:=hJ'3
     refine Zax (Za (Zf (Zl (Zd (.n 0) rfl (Zb (Za (Zav ?_)))))))
     refine zF (Zap (n:=2) (v:=.n 0) rfl zk) ?_
     cases hp
     exact ⟨rfl,(hO'9.pick [] rfl (by decide))⟩
    ·obtain ⟨rfl,q'5_2,hO'9⟩:=hJ'3
     refine Zbs (zI (zF (Zap (n:=2) (v:=.n 10) q'5_2 zk) ?_))
     cases hp
     exact ⟨rfl,(hO'9.pick [] rfl (by decide))⟩
   ·obtain ⟨rfl,q'1_2,hO'4⟩:=hJ'1
    refine Zbs (zI (zF (Zap (n:=2) (v:=.n 8) q'1_2 zk) ?_))
    cases hp
    exact ⟨rfl,(hO'4.pick [] rfl (by decide))⟩

theorem zS.ok {h:Hp} {n:Zau} {s:z6} {v:Int} {v_n_Cells:V} {v_n_First:V} {v_n_Ends:V} {v_n_Ways:V} {vs_n_Ways:List V} {v_s_Boxes:V} {v_s_Edges:V} (H:Own (Bm h [eSl Zh v_n_Cells n.Cells,eSl zn v_n_First n.First,eSl Zai v_n_Ends n.Ends,eSl eV v_n_Ways vs_n_Ways,Zbt zn vs_n_Ways n.Ways]) h h [eSl Zh v_n_Cells n.Cells,eSl zn v_n_First n.First,eSl Zai v_n_Ends n.Ends,eSl eV v_n_Ways vs_n_Ways,Zbt zn vs_n_Ways n.Ways]) (s_s_Boxes:Rd (Bm h [eSl Zh v_n_Cells n.Cells,eSl zn v_n_First n.First,eSl Zai v_n_Ends n.Ends,eSl eV v_n_Ways vs_n_Ways,Zbt zn vs_n_Ways n.Ways]) h e_bool v_s_Boxes s.Boxes) (s_s_Edges:Rd (Bm h [eSl Zh v_n_Cells n.Cells,eSl zn v_n_First n.First,eSl Zai v_n_Ends n.Ends,eSl eV v_n_Ways vs_n_Ways,Zbt zn vs_n_Ways n.Ways]) h Zs v_s_Edges s.Edges) {r:Zau} (hp:zS n s v = some r) :
  ∃ u k',Is G 200 [.ag [v_n_Cells,v_n_First,v_n_Ends,v_n_Ways],.ag [v_s_Boxes,v_s_Edges],.n v] h u k'∧∃ (v'1:V),∃ (v'2:V),∃ (v'3:V),∃ (v'4:V),∃ (vs'1:List V),V.ag [v'1,v'2,v'3,v'4] = u∧Own (Bm h [eSl Zh v_n_Cells n.Cells,eSl zn v_n_First n.First,eSl Zai v_n_Ends n.Ends,eSl eV v_n_Ways vs_n_Ways,Zbt zn vs_n_Ways n.Ways]) h k' [eSl Zh v'1 r.Cells,eSl zn v'2 r.First,eSl Zai v'3 r.Ends,eSl eV v'4 vs'1,Zbt zn vs'1 r.Ways]:=by
 refine WC.is (ZaQ Zdb ?_)
 unfold zS at hp
 let B:Nat→Prop:=(Bm h [eSl Zh v_n_Cells n.Cells,eSl zn v_n_First n.First,eSl Zai v_n_Ends n.Ends,eSl eV v_n_Ways vs_n_Ways,Zbt zn vs_n_Ways n.Ways])
 have hO:Own B h h [eSl Zh v_n_Cells n.Cells,eSl zn v_n_First n.First,eSl Zai v_n_Ends n.Ends,eSl eV v_n_Ways vs_n_Ways,Zbt zn vs_n_Ways n.Ways]:=H
 refine Zf (Zl (zA (hO.boxd (v:=.ag [v_n_Cells,v_n_First,v_n_Ends,v_n_Ways]) (cs:=[v_n_Cells,v_n_First,v_n_Ends,v_n_Ways]) hO.fr rfl rfl) ?_))
 rintro _ k'1 ⟨r'1,rfl,n'1,f'1,hW⟩
 have hO'1:=hW
 refine zA (hO'1.boxd (v:=.ag [v_s_Boxes,v_s_Edges]) (cs:=[v_s_Boxes,v_s_Edges]) hO'1.fr rfl rfl) ?_
 rintro _ k'2 ⟨r'2,rfl,n'2,f'2,hW⟩
 have hO'2:=hW
 refine zA (hO'2.alloc (cs:=[.sn,.sn,.sn,.sn]) hO'2.fr) ?_
 rintro _ k'3 ⟨r'3,rfl,n'3,f'3,hW⟩
 have hO'3:=hW
 refine Zb (Za (Zf (Zl (Ze (zU (r:=r'1) (o:=0) (o':=0) rfl rfl) (Ze (zy (cs:=[v_n_Cells,v_n_First,v_n_Ends,v_n_Ways]) (v:=v_n_Cells) (hO'3.box 5 rfl) rfl rfl) (Ze (Zao (hO'3.sl 0 rfl) rfl) (Zd (.n (n.Cells.length:Int)) rfl ?_)))))))
 refine Zb (Za (Zf (Zl ?_)))
 obtain ⟨x,hx'1,hp⟩:=Zp hp
 obtain ⟨u'1,k'4,ca'1,v'5,rfl,hW'1⟩:=ZJ.ok (h:=k'3)   hx'1
 refine Za8 (id:=46) (caps:=[]) rfl (Zx (v:=.n 4) rfl zo) ca'1 ?_
 have hO'4:=hO'3.call hW'1 rfl
 refine Zd v'5 rfl (Zb (Za (Zf (Zl (Ze (zU (r:=r'1) (o:=0) (o':=0) rfl rfl) (Ze (zy (cs:=[v_n_Cells,v_n_First,v_n_Ends,v_n_Ways]) (v:=v_n_Cells) (hO'4.box 5 rfl) rfl rfl) (Zd v'5 rfl ?_)))))))
 obtain ⟨c'1,hp⟩:=Zg hp
 refine zA (hO'4.app (E:=Zh) (bytes:=64) 0 hO'4.fr rfl (hO'4.sl 8 rfl) rfl rfl (fun _=>rfl) c'1 (by decide)) ?_
 rintro v'6 k'5 ⟨f'4,hW⟩
 have hO'5:=hW
 refine Ze (zU (r:=r'1) (o:=0) (o':=0) rfl rfl) (zA (hO'5.stb (ws:=[v'6]) (cs':=[v'6,v_n_First,v_n_Ends,v_n_Ways]) (v:=v'6) 5 rfl rfl rfl (hO'5.sl 0 rfl).cells ⟨rfl,Nat.le_of_ble_eq_true rfl,(all_cons (hO'5.sl 0 rfl).oneV rfl)⟩ rfl) ?_)
 rintro _ k'6 ⟨rfl,f'5,m'1,hW⟩
 have hO'6:=hW
 refine Zb (Za (Zf (Zf (Zl (Zd (.n 0) rfl (Zb (Za ?_)))))))
 refine Zae ?_
 obtain ⟨o'1,ho'1,hp⟩:=Zp hp
 refine W.mono (Q:=fun e fr k=>match (generalizing:=false) o'1 with
   | (n3,n4)=>e = (.exit 0)∧∃ (v'8:V),fr 3 = .p r'1 0∧fr 6 = .p r'3 0∧Own B h k [Zac r'1 [v'8,v_n_First,v_n_Ends,v_n_Ways],eSl Zh v'8 n3,eSl zn v_n_First n.First,eSl Zai v_n_Ends n4,eSl eV v_n_Ways vs_n_Ways,Zbt zn vs_n_Ways n.Ways,Zac r'3 [.sn,.sn,.sn,.sn]]) ?_ ?_
 ·clear hp
  refine zC (fun st fr k=>match st with | (n1,n2,d)=>∃ (v'7:V),fr 2 = .n v∧fr 3 = .p r'1 0∧fr 4 = .p r'2 0∧fr 6 = .p r'3 0∧fr 7 = .n (n.Cells.length:Int)∧fr 9 = .n d∧Own B h k [Zac r'1 [v'7,v_n_First,v_n_Ends,v_n_Ways],eSl Zh v'7 n1,eSl zn v_n_First n.First,eSl Zai v_n_Ends n2,eSl eV v_n_Ways vs_n_Ways,Zbt zn vs_n_Ways n.Ways,Zac r'2 [v_s_Boxes,v_s_Edges],Zac r'3 [.sn,.sn,.sn,.sn]]) ho'1 (s:=(n.Cells++x,n.Ends,0)) ⟨v'6,rfl,rfl,rfl,rfl,rfl,rfl,(hO'6.pick [5,0,1,2,3,4,6,7] rfl (by decide))⟩ ?_
  rintro ⟨n1,n2,d⟩ q'2 k'8 ⟨v'7,q'2_2,q'2_3,q'2_4,q'2_6,q'2_7,q'2_9,hO'8⟩ o'2 hp
  dsimp only [zS.s0] at hp
  refine Zf (Zf (Zl (Zd (.n d) q'2_9 (Ze (zJ (a:=d) (b:=4) rfl rfl) (Zb (Za ?_))))))
  rcases Zt hp with ⟨b'1,hp⟩ | ⟨b'1,hp⟩
  ·refine zH (t:=(decide (d < 4))) rfl b'1 ?_
   refine zM (Za (Zf (Zae (Zf (Zl (Zd (.n (n.Cells.length:Int)) q'2_7 ?_))))))
   obtain ⟨c'2,hp⟩:=Zg hp
   refine Ze (zu (a:=(n.Cells.length:Int)) (b:=1) rfl rfl c'2) (Zd (.n (n.Cells.length:Int)) q'2_7 ?_)
   obtain ⟨c'3,hp⟩:=Zg hp
   refine Ze (zu (a:=(n.Cells.length:Int)) (b:=3) rfl rfl c'3) (Zd (.n (n.Cells.length:Int)) q'2_7 (Zd (.n (n.Cells.length:Int)) q'2_7 (zA (hO'8.bsl (E:=zn) (l:=[(n.Cells.length:Int) + 1,(n.Cells.length:Int) + 3,(n.Cells.length:Int),(n.Cells.length:Int)]) hO'8.fr (by rw [(z9 (v:=.n ((n.Cells.length:Int) + 1)) rfl (z9 (v:=.n ((n.Cells.length:Int) + 3)) rfl (z9 (v:=.n (n.Cells.length:Int)) rfl (z9 (v:=.n (n.Cells.length:Int)) rfl ZaI))))]; rfl) rfl) ?_)))
   rintro v'9 k'9 ⟨r'4,f'6,hW⟩
   have hO'9:=hW
   refine Zd (.n d) q'2_9 ?_
   obtain ⟨c'4,hp⟩:=Zg hp
   refine Ze (z3 (E:=zn) (z:=d) (hO'9.sl 8 rfl) rfl rfl c'4) (Ze (zO (w:=.n (gi [(n.Cells.length:Int) + 1,(n.Cells.length:Int) + 3,(n.Cells.length:Int),(n.Cells.length:Int)] d.toNat)) (hO'9.sl 8 rfl) rfl (Zo c'4) rfl) (Zd (.n (gi [(n.Cells.length:Int) + 1,(n.Cells.length:Int) + 3,(n.Cells.length:Int),(n.Cells.length:Int)] d.toNat)) rfl (Zb (Za (Zf (Zl (Zd (.n (n.Cells.length:Int)) q'2_7 ?_)))))))
   obtain ⟨c'5,hp⟩:=Zg hp
   refine Ze (zu (a:=(n.Cells.length:Int)) (b:=2) rfl rfl c'5) (Zd (.n (n.Cells.length:Int)) q'2_7 (Ze (zu (a:=(n.Cells.length:Int)) (b:=2) rfl rfl c'5) (Zd (.n (n.Cells.length:Int)) q'2_7 (Ze (zu (a:=(n.Cells.length:Int)) (b:=3) rfl rfl c'3) (Zd (.n (n.Cells.length:Int)) q'2_7 (Ze (zu (a:=(n.Cells.length:Int)) (b:=1) rfl rfl c'2) (zA (hO'9.bsl (E:=zn) (l:=[(n.Cells.length:Int) + 2,(n.Cells.length:Int) + 2,(n.Cells.length:Int) + 3,(n.Cells.length:Int) + 1]) hO'9.fr (by rw [(z9 (v:=.n ((n.Cells.length:Int) + 2)) rfl (z9 (v:=.n ((n.Cells.length:Int) + 2)) rfl (z9 (v:=.n ((n.Cells.length:Int) + 3)) rfl (z9 (v:=.n ((n.Cells.length:Int) + 1)) rfl ZaI))))]; rfl) rfl) ?_)))))))
   rintro v'10 k'10 ⟨r'5,f'7,hW⟩
   have hO'10:=hW
   refine Zd (.n d) q'2_9 ?_
   obtain ⟨c'6,hp⟩:=Zg hp
   refine Ze (z3 (E:=zn) (z:=d) (hO'10.sl 9 rfl) rfl rfl c'6) (Ze (zO (w:=.n (gi [(n.Cells.length:Int) + 2,(n.Cells.length:Int) + 2,(n.Cells.length:Int) + 3,(n.Cells.length:Int) + 1] d.toNat)) (hO'10.sl 9 rfl) rfl (Zo c'6) rfl) (Zd (.n (gi [(n.Cells.length:Int) + 2,(n.Cells.length:Int) + 2,(n.Cells.length:Int) + 3,(n.Cells.length:Int) + 1] d.toNat)) rfl (Zb (Za (Zf (Zl (zA (hO'10.bsl (E:=zn) (l:=([1,0,1,0]:List Int)) hO'10.fr (by rw [(z9 (v:=.n 1) rfl (z9 (v:=.n 0) rfl (z9 (v:=.n 1) rfl (z9 (v:=.n 0) rfl ZaI))))]; rfl) rfl) ?_)))))))
   rintro v'11 k'11 ⟨r'6,f'8,hW⟩
   have hO'11:=hW
   refine Zd (.n d) q'2_9 ?_
   obtain ⟨c'7,hp⟩:=Zg hp
   refine Ze (z3 (E:=zn) (z:=d) (hO'11.sl 10 rfl) rfl rfl c'7) (Ze (zO (w:=.n (gi ([1,0,1,0]:List Int) d.toNat)) (hO'11.sl 10 rfl) rfl (Zo c'7) rfl) (Zd (.n (gi ([1,0,1,0]:List Int) d.toNat)) rfl (Zb (Za (Zf (Zl (Ze (ZaM (cs:=[v_s_Boxes,v_s_Edges]) (ws:=[v_s_Boxes,v_s_Edges]) (hO'11.box 6 rfl) q'2_4 rfl) ?_)))))))
   refine Zd (.n v) q'2_2 (Zd (.n d) q'2_9 ?_)
   obtain ⟨x1,hx'2,hp⟩:=Zp hp
   obtain ⟨u'2,k'12,ca'2,v'12,rfl,hW'2⟩:=zV.ok (h:=k'11)  (hO'11.rd0 s_s_Boxes) (hO'11.rd0 s_s_Edges) hx'2
   refine Za8 (id:=199) (caps:=[]) rfl (Zx (v:=.ag [v_s_Boxes,v_s_Edges]) rfl (Zx (v:=.n v) rfl (Zx (v:=.n d) rfl zo))) ca'2 ?_
   have hO'12:=hO'11.call hW'2 rfl
   refine Zd v'12 rfl (Zb (Za (Zf (Zf (Zl (Zd (.n 0) rfl (Zb ?_)))))))
   refine Za (Zae ?_)
   obtain ⟨o'3,ho'2,hp⟩:=Zp hp
   refine W.mono (Q:=fun e fr k=>match (generalizing:=false) o'3 with
     | (n7,n8,from_1)=>e = (.exit 2)∧∃ (v'14:V),fr 2 = .n v∧fr 3 = .p r'1 0∧fr 4 = .p r'2 0∧fr 6 = .p r'3 0∧fr 7 = .n (n.Cells.length:Int)∧fr 9 = .n d∧fr 10 = .n from_1∧fr 11 = .n (gi [(n.Cells.length:Int) + 2,(n.Cells.length:Int) + 2,(n.Cells.length:Int) + 3,(n.Cells.length:Int) + 1] d.toNat)∧fr 12 = .n (gi ([1,0,1,0]:List Int) d.toNat)∧Own B h k [Zac r'1 [v'14,v_n_First,v_n_Ends,v_n_Ways],eSl Zh v'14 n7,eSl zn v_n_First n.First,eSl Zai v_n_Ends n8,eSl eV v_n_Ways vs_n_Ways,Zbt zn vs_n_Ways n.Ways,Zac r'2 [v_s_Boxes,v_s_Edges],Zac r'3 [.sn,.sn,.sn,.sn]]) ?_ ?_
   ·clear hp
    refine zC (fun st fr k=>match st with | (n5,n6,from_,i)=>∃ (v'13:V),fr 2 = .n v∧fr 3 = .p r'1 0∧fr 4 = .p r'2 0∧fr 6 = .p r'3 0∧fr 7 = .n (n.Cells.length:Int)∧fr 9 = .n d∧fr 10 = .n from_∧fr 11 = .n (gi [(n.Cells.length:Int) + 2,(n.Cells.length:Int) + 2,(n.Cells.length:Int) + 3,(n.Cells.length:Int) + 1] d.toNat)∧fr 12 = .n (gi ([1,0,1,0]:List Int) d.toNat)∧fr 13 = v'12∧fr 14 = .n i∧Own B h k [Zac r'1 [v'13,v_n_First,v_n_Ends,v_n_Ways],eSl Zh v'13 n5,eSl zn v_n_First n.First,eSl Zai v_n_Ends n6,eSl eV v_n_Ways vs_n_Ways,Zbt zn vs_n_Ways n.Ways,Zac r'2 [v_s_Boxes,v_s_Edges],Zac r'3 [.sn,.sn,.sn,.sn],eSl zn v'12 x1]) ho'2 (s:=(n1,n2,gi [(n.Cells.length:Int) + 1,(n.Cells.length:Int) + 3,(n.Cells.length:Int),(n.Cells.length:Int)] d.toNat,0)) ⟨v'7,q'2_2,q'2_3,q'2_4,q'2_6,q'2_7,q'2_9,rfl,rfl,rfl,rfl,rfl,(hO'12.pick [0,1,2,3,4,5,6,7,11] rfl (by decide))⟩ ?_
    rintro ⟨n5,n6,from_,i⟩ q'4 k'14 ⟨v'13,q'4_2,q'4_3,q'4_4,q'4_6,q'4_7,q'4_9,q'4_10,q'4_11,q'4_12,q'4_13,q'4_14,hO'14⟩ o'4 hp
    dsimp only [zS.s1] at hp
    refine Zf (Zf (Zl (Zd (.n i) q'4_14 (Zd v'12 q'4_13 (Ze (Zao (hO'14.sl 8 rfl) rfl) (Ze (zJ (a:=i) (b:=(x1.length:Int)) rfl rfl) (Zb ?_)))))))
    refine Za ?_
    rcases Zt hp with ⟨b'2,hp⟩ | ⟨b'2,hp⟩
    ·refine zH (t:=(decide (i < (x1.length:Int)))) rfl b'2 ?_
     refine zM (Za (Zf (Zae (Zf (Zl (Ze (zU (r:=r'1) (o:=0) (o':=0) q'4_3 rfl) (Ze (zy (cs:=[v'13,v_n_First,v_n_Ends,v_n_Ways]) (v:=v'13) (hO'14.box 0 rfl) rfl rfl) ?_)))))))
     refine Ze (Zao (hO'14.sl 1 rfl) rfl) (Zd (.n (n5.length:Int)) rfl (Zb (Za (Zf (Zl ?_)))))
     obtain ⟨x2,hx'3,hp⟩:=Zp hp
     obtain ⟨u'3,k'15,ca'3,v'15,rfl,hW'3⟩:=ZJ.ok (h:=k'14)   hx'3
     refine Za8 (id:=46) (caps:=[]) rfl (Zx (v:=.n 1) rfl zo) ca'3 ?_
     have hO'15:=hO'14.call hW'3 rfl
     refine Zd v'15 rfl (Zb (Za (Zf (Zl (Ze (zU (r:=r'1) (o:=0) (o':=0) q'4_3 rfl) (Ze (zy (cs:=[v'13,v_n_First,v_n_Ends,v_n_Ways]) (v:=v'13) (hO'15.box 0 rfl) rfl rfl) (Zd v'15 rfl ?_)))))))
     obtain ⟨c'8,hp⟩:=Zg hp
     refine zA (hO'15.app (E:=Zh) (bytes:=64) 1 hO'15.fr rfl (hO'15.sl 9 rfl) rfl rfl (fun _=>rfl) c'8 (by decide)) ?_
     rintro v'16 k'16 ⟨f'9,hW⟩
     have hO'16:=hW
     refine Ze (zU (r:=r'1) (o:=0) (o':=0) q'4_3 rfl) (zA (hO'16.stb (ws:=[v'16]) (cs':=[v'16,v_n_First,v_n_Ends,v_n_Ways]) (v:=v'16) 0 rfl rfl rfl (hO'16.sl 1 rfl).cells ⟨rfl,Nat.le_of_ble_eq_true rfl,(all_cons (hO'16.sl 1 rfl).oneV rfl)⟩ rfl) ?_)
     rintro _ k'17 ⟨rfl,f'10,m'2,hW⟩
     have hO'17:=hW
     refine Zb (Za (Zf (ZfN ?_)))
     have hW:=hO'17.bump 16
     have fr'1:=Fresh.start k'17 16
     have nb'1:∀ {i:Nat},h.n≤k'17.n + i:=Nat.le_trans hO'17.n (Nat.le_add_right _ _)
     have hO'18:=hW
     refine Zah (zU (r:=r'1) (o:=0) (o':=2) q'4_3 rfl) (Zah (zy (cs:=[v'16,v_n_First,v_n_Ends,v_n_Ways]) (v:=v_n_Ends) (hO'18.box 0 rfl) rfl rfl) (Zb7 v'12 q'4_13 (Zb7 (.n i) q'4_14 ?_)))
     obtain ⟨c'9,hp⟩:=Zg hp
     refine Zah (z3 (E:=zn) (z:=i) (hO'18.sl 8 rfl) rfl rfl c'9) (Zah (zO (w:=.n (gi x1 i.toNat)) (hO'18.sl 8 rfl) rfl (Zo c'9) rfl) ?_)
     obtain ⟨c'10,hp⟩:=Zg hp
     refine Zah (Zik (a:=(gi x1 i.toNat)) (b:=2) rfl rfl c'10) (Zb7 v'12 q'4_13 (Zb7 (.n i) q'4_14 (Zah (z3 (E:=zn) (z:=i) (hO'18.sl 8 rfl) rfl rfl c'9) (Zah (zO (w:=.n (gi x1 i.toNat)) (hO'18.sl 8 rfl) rfl (Zo c'9) rfl) (Zah (ZbJ (a:=(gi x1 i.toNat)) (b:=2) rfl rfl (by decide)) (Zb7 (.n (n5.length:Int)) rfl ?_))))))
     obtain ⟨c'11,hp⟩:=Zg hp
     refine Zah (z3 (E:=Zai) (z:=((gi x1 i.toNat).tdiv 2)) (hO'18.sl 3 rfl) rfl rfl c'11) ?_
     obtain ⟨c'12,hp⟩:=Zg hp
     refine Zah (ZaX (off:=0) (off2:=(0 + ((gi x1 i.toNat).tmod 2:Int).toNat * 1)) (z:=((gi x1 i.toNat).tmod 2)) (hO'18.sl 3 rfl) (Zo c'11) rfl rfl c'12 rfl) (Zfc (hO'18.ste (E:=Zai) (y:=((gi n6 ((gi x1 i.toNat).tdiv 2:Int).toNat).set ((gi x1 i.toNat).tmod 2) (n5.length:Int))) (ws:=[.n (n5.length:Int)]) 3 rfl rfl (Zo c'11) rfl rfl ⟨rfl,(by have:=c'12; exact (show 0 + ((gi x1 i.toNat).tmod 2:Int).toNat * 1 + 1≤2 by omega)),rfl⟩ (Zgp c'12)) ?_)
     rintro _ k'19 z'1 ⟨rfl,f'11,m'3,hW⟩
     have fr'2:=fr'1.kept f'11 (by decide)
     have hO'19:=hW
     refine ZcC ?_
     refine And.intro ?_ ?_
     ·intro q hq
      simp only [List.mem_cons,List.not_mem_nil,or_false] at hq
      rcases hq with rfl | rfl | rfl
      ·refine ZaG ?_ ?_
       ·exact (fun h=>nomatch h)
       ·exact (fun h=>nomatch h)
      ·refine ZaG ?_ ?_
       ·exact (fun h=>nomatch h)
       ·exact (fun h=>nomatch h)
      ·refine ZaG ?_ ?_
       ·exact (fun h=>nomatch h)
       ·exact (fun h=>nomatch h)
     refine Za (Zf (Zl (Ze (zU (r:=r'1) (o:=0) (o':=0) q'4_3 rfl) (Ze (zy (cs:=[v'16,v_n_First,v_n_Ends,v_n_Ways]) (v:=v'16) (hO'19.box 0 rfl) rfl rfl) (Zd (.n from_) q'4_10 (Zd (.n (gi ([1,0,1,0]:List Int) d.toNat)) q'4_12 (Zd (.n (n5.length:Int)) rfl ?_)))))))
     obtain ⟨⟨x3,x4⟩,hx'4,hp⟩:=Zp hp
     obtain ⟨u'4,k'20,ca'4,v'17,rfl,hW'4⟩:=zx.ok (h:=k'19) (l:=(n5++x2)) (v:=from_) (d:=(gi ([1,0,1,0]:List Int) d.toNat)) (w:=(n5.length:Int)) (o:=(-1)) (hO'19.toM [1] rfl (by decide))  hx'4
     refine Za8 (id:=53) (caps:=[]) rfl (Zx (v:=v'16) rfl (Zx (v:=.n from_) rfl (Zx (v:=.n (gi ([1,0,1,0]:List Int) d.toNat)) rfl (Zx (v:=.n (n5.length:Int)) rfl (Zx (v:=.n (-1)) rfl zo))))) ca'4 ?_
     have hO'20:=(hO'19.callM [1] [0,2,3,4,5,6,7,8,9] rfl rfl (by decide) hW'4 rfl).pick [0,900,1,2,3,4,5,6,7,8,9] rfl (by decide)
     refine Zd (.tu [v'17,.n x4]) rfl (Ze (Zbn (vs:=[v'17,.n x4]) (v:=v'17) rfl rfl) (Ze (Zbn (vs:=[v'17,.n x4]) (v:=.n x4) rfl rfl) (Ze (zU (r:=r'1) (o:=0) (o':=0) q'4_3 rfl) (zA (hO'20.stb (ws:=[v'17]) (cs':=[v'17,v_n_First,v_n_Ends,v_n_Ways]) (v:=v'17) 0 rfl rfl rfl (hO'20.sl 10 rfl).cells ⟨rfl,Nat.le_of_ble_eq_true rfl,(all_cons (hO'20.sl 10 rfl).oneV rfl)⟩ rfl) ?_))))
     rintro _ k'21 ⟨rfl,f'12,m'4,hW⟩
     have hO'21:=hW
     refine Zb (Za (Zl (Zd (.n (n5.length:Int)) rfl (Zd (.n (n5.length:Int)) rfl (Zb (Zaf (Za ?_)))))))
     refine Zl (Zd (.n i) q'4_14 ?_)
     obtain ⟨c'13,hp⟩:=Zg hp
     refine Ze (zu (a:=i) (b:=1) rfl rfl c'13) (Zd (.n (i + 1)) rfl (Zb ?_))
     cases hp
     exact (Or.inl ⟨(x3,n6.set ((gi x1 i.toNat).tdiv 2:Int).toNat ((gi n6 ((gi x1 i.toNat).tdiv 2:Int).toNat).set ((gi x1 i.toNat).tmod 2) (n5.length:Int)),(n5.length:Int),i + 1),rfl,rfl,v'17,q'4_2,q'4_3,q'4_4,q'4_6,q'4_7,q'4_9,rfl,q'4_11,q'4_12,q'4_13,rfl,(hO'21.pick [0,10,2,3,4,5,6,7,8] rfl (by decide))⟩)
    ·refine zG (t:=(decide (i < (x1.length:Int)))) rfl b'2 ?_
     refine ZaZ (zN ?_)
     cases hp
     refine (Or.inr ⟨(n5,n6,from_),rfl,(fun h=>nomatch h),(fun he=>?_)⟩)
     subst he; exact ⟨rfl,v'13,q'4_2,q'4_3,q'4_4,q'4_6,q'4_7,q'4_9,q'4_10,q'4_11,q'4_12,(hO'14.pick [0,1,2,3,4,5,6,7] rfl (by decide))⟩
   intro e'2 q'3 k'13 hJ'2
   obtain ⟨n7,n8,from_1⟩:=o'3
   obtain ⟨rfl,v'14,q'3_2,q'3_3,q'3_4,q'3_6,q'3_7,q'3_9,q'3_10,q'3_11,q'3_12,hO'13⟩:=hJ'2
   refine Zax (Za (Zl (Ze (zU (r:=r'1) (o:=0) (o':=0) q'3_3 rfl) (Ze (zy (cs:=[v'14,v_n_First,v_n_Ends,v_n_Ways]) (v:=v'14) (hO'13.box 0 rfl) rfl rfl) (Zd (.n from_1) q'3_10 (Zd (.n (gi ([1,0,1,0]:List Int) d.toNat)) q'3_12 (Zd (.n (gi [(n.Cells.length:Int) + 2,(n.Cells.length:Int) + 2,(n.Cells.length:Int) + 3,(n.Cells.length:Int) + 1] d.toNat)) q'3_11 ?_)))))))
   obtain ⟨⟨x5,x6⟩,hx'5,hp⟩:=Zp hp
   obtain ⟨u'5,k'22,ca'5,v'18,rfl,hW'5⟩:=zx.ok (h:=k'13) (l:=n7) (v:=from_1) (d:=(gi ([1,0,1,0]:List Int) d.toNat)) (w:=(gi [(n.Cells.length:Int) + 2,(n.Cells.length:Int) + 2,(n.Cells.length:Int) + 3,(n.Cells.length:Int) + 1] d.toNat)) (o:=(-1)) (hO'13.toM [1] rfl (by decide))  hx'5
   refine Za8 (id:=53) (caps:=[]) rfl (Zx (v:=v'14) rfl (Zx (v:=.n from_1) rfl (Zx (v:=.n (gi ([1,0,1,0]:List Int) d.toNat)) rfl (Zx (v:=.n (gi [(n.Cells.length:Int) + 2,(n.Cells.length:Int) + 2,(n.Cells.length:Int) + 3,(n.Cells.length:Int) + 1] d.toNat)) rfl (Zx (v:=.n (-1)) rfl zo))))) ca'5 ?_
   have hO'22:=(hO'13.callM [1] [0,2,3,4,5,6,7] rfl rfl (by decide) hW'5 rfl).pick [0,900,1,2,3,4,5,6,7] rfl (by decide)
   refine Zd (.tu [v'18,.n x6]) rfl (Ze (Zbn (vs:=[v'18,.n x6]) (v:=v'18) rfl rfl) (Ze (Zbn (vs:=[v'18,.n x6]) (v:=.n x6) rfl rfl) (Ze (zU (r:=r'1) (o:=0) (o':=0) q'3_3 rfl) (zA (hO'22.stb (ws:=[v'18]) (cs':=[v'18,v_n_First,v_n_Ends,v_n_Ways]) (v:=v'18) 0 rfl rfl rfl (hO'22.sl 8 rfl).cells ⟨rfl,Nat.le_of_ble_eq_true rfl,(all_cons (hO'22.sl 8 rfl).oneV rfl)⟩ rfl) ?_))))
   rintro _ k'23 ⟨rfl,f'13,m'5,hW⟩
   have hO'23:=hW
   refine Zb (Zaf (Za (Zl (Zd (.n d) q'3_9 ?_))))
   obtain ⟨c'14,hp⟩:=Zg hp
   refine Ze (zu (a:=d) (b:=1) rfl rfl c'14) (Zd (.n (d + 1)) rfl (Zb ?_))
   cases hp
   exact (Or.inl ⟨(x5,n8,d + 1),rfl,rfl,v'18,q'3_2,q'3_3,q'3_4,q'3_6,q'3_7,rfl,(hO'23.pick [0,8,2,3,4,5,6,7] rfl (by decide))⟩)
  ·refine zG (t:=(decide (d < 4))) rfl b'1 ?_
   refine ZaZ (zN ?_)
   cases hp
   refine (Or.inr ⟨(n1,n2),rfl,(fun h=>nomatch h),(fun he=>?_)⟩)
   subst he; exact ⟨rfl,v'7,q'2_3,q'2_6,(hO'8.pick [0,1,2,3,4,5,7] rfl (by decide))⟩
 intro e'1 q'1 k'7 hJ'1
 obtain ⟨n3,n4⟩:=o'1
 obtain ⟨rfl,v'8,q'1_3,q'1_6,hO'7⟩:=hJ'1
 refine Zax (Za (Zf (Zl (Ze (ZaM (cs:=[v'8,v_n_First,v_n_Ends,v_n_Ways]) (ws:=[v'8,v_n_First,v_n_Ends,v_n_Ways]) (hO'7.box 0 rfl) q'1_3 rfl) (zA (hO'7.stb (ws:=[v'8,v_n_First,v_n_Ends,v_n_Ways]) (cs':=[v'8,v_n_First,v_n_Ends,v_n_Ways]) (v:=.ag [v'8,v_n_First,v_n_Ends,v_n_Ways]) 6 rfl q'1_6 rfl rfl ⟨rfl,Nat.le_of_ble_eq_true rfl,(all_cons (hO'7.sl 1 rfl).oneV (all_cons (hO'7.sl 2 rfl).oneV (all_cons (hO'7.sl 3 rfl).oneV (all_cons (hO'7.sl 4 rfl).oneV all_nil))))⟩ rfl) ?_)))))
 rintro _ k'24 ⟨rfl,f'14,m'6,hW⟩
 have hO'24:=hW
 refine Zb (Za (Zav (zF (Zhq (n:=6) (v:=.ag [v'8,v_n_First,v_n_Ends,v_n_Ways]) (r:=r'3) q'1_6 (hO'24.box 6 rfl) rfl zk) ?_)))
 cases hp
 exact ⟨v'8,v_n_First,v_n_Ends,v_n_Ways,vs_n_Ways,rfl,(hO'24.pick [1,2,3,4,5] rfl (by decide))⟩

end Mu
