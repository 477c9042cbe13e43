/- The code comes to what was worked out. -/
import Derived.Test.YtfdidkebomeiaaaMuDf
import Derived.Test.YtfdidkebomeiaaaMuPa
import Derived.Test.YtfdidkebomeiaaaMuC2
set_option linter.unusedVariables false
set_option linter.unnecessarySimpa false
set_option linter.unusedSimpArgs false
set_option maxHeartbeats 2000000
set_option maxRecDepth 10000
namespace Mu
open Go (IntKind BinOp UnOp)
theorem zk.ok {h:Hp} {l:List Za} {v_l:V} (s_l:Sl Ze h v_l l) {r:Int} (hp:zk l = some r) :
  ∃ u k',Is G 34 [v_l] h u k'∧V.n r = u∧Own (fun r=>r < h.n) h k' []:=by
 refine WC.is (Za7 Zd0 ?_)
 unfold zk at hp
 let B:Nat→Prop:=(fun r=>r < h.n)
 have hO:Own B h h []:=Own.start0 h
 refine Zi (Zl (Zd (.n 0) rfl (Zc (Zb (Zi (Zi (Zl ?_)))))))
 refine Zd v_l rfl (Zg (ZaC (hO.rd0 s_l.rd) rfl) (Zg (ZeF (a:=(l.length:Int)) (b:=4096) rfl rfl) (Zc (Zb ?_))))
 rcases Zt hp with ⟨b'1,hp⟩ | ⟨b'1,hp⟩
 ·refine zB (t:=(decide (4096 < (l.length:Int)))) rfl b'1 ?_
  refine Zi (Zl (Zd (.n 6) rfl (Zc (Zb (zL (zh (zf (zl (n:=2) (v:=.n 6) rfl ZD) ?_)))))))
  cases hp
  exact ⟨rfl,(hO.pick [] rfl (by decide))⟩
 ·refine zz (t:=(decide (4096 < (l.length:Int)))) rfl b'1 ?_
  refine zC (Zb (Zi (Zi (Zl (Zd (.n 0) rfl (Zc (Zb ?_)))))))
  refine Zay ?_
  obtain ⟨o'1,ho'1,hp⟩:=Zq hp
  refine W.mono (Q:=fun e fr k=>match (generalizing:=false) o'1 with
    | .inl _=>e = (.exit 0)∧Own B h k []
    | .inr x=>e = .ret∧fr 2 = .n x∧Own B h k []) ?_ ?_
  ·clear hp
   refine zU (fun st fr k=>match st with | v=>fr 0 = v_l∧fr 3 = .n v∧Own B h k []) ho'1 (s:=0) ⟨rfl,rfl,(hO.pick [] rfl (by decide))⟩ ?_
   rintro v q'2 k'2 ⟨q'2_0,q'2_3,hO'2⟩ o'2 hp
   dsimp only [zk.s0] at hp
   refine Zi (Zi (Zl (Zd (.n v) q'2_3 (Zd v_l q'2_0 (Zg (ZaC (hO'2.rd0 s_l.rd) rfl) (Zg (zO (a:=v) (b:=(l.length:Int)) rfl rfl) (Zc ?_)))))))
   refine Zb ?_
   rcases Zt hp with ⟨b'2,hp⟩ | ⟨b'2,hp⟩
   ·refine zB (t:=(decide (v < (l.length:Int)))) rfl b'2 ?_
    refine zC (Zb (Zi (Zay (Zi (Zl (Zd (.n 0) rfl (Zc ?_)))))))
    refine Zb (Zay ?_)
    obtain ⟨o'3,ho'2,hp⟩:=Zq hp
    refine W.mono (Q:=fun e fr k=>match (generalizing:=false) o'3 with
      | .inl _=>e = (.exit 2)∧fr 0 = v_l∧fr 3 = .n v∧Own B h k []
      | .inr x1=>e = .ret∧fr 2 = .n x1∧Own B h k []) ?_ ?_
    ·clear hp
     refine zU (fun st fr k=>match st with | d=>fr 0 = v_l∧fr 3 = .n v∧fr 4 = .n d∧Own B h k []) ho'2 (s:=0) ⟨q'2_0,q'2_3,rfl,(hO'2.pick [] rfl (by decide))⟩ ?_
     rintro d q'4 k'4 ⟨q'4_0,q'4_3,q'4_4,hO'4⟩ o'4 hp
     dsimp only [zk.s1] at hp
     refine Zi (Zi (Zl (Zd (.n d) q'4_4 (Zg (zO (a:=d) (b:=4) rfl rfl) (Zc (Zb ?_))))))
     rcases Zt hp with ⟨b'3,hp⟩ | ⟨b'3,hp⟩
     ·refine zB (t:=(decide (d < 4))) rfl b'3 ?_
      refine zC (Zb (Zi (Zay (Zi (Zl (Zd v_l q'4_0 (Zd (.n v) q'4_3 ?_)))))))
      refine Zd (.n d) q'4_4 ?_
      obtain ⟨c'1,hp⟩:=Zn hp
      refine Zg (zt (E:=Ze) (z:=v) (hO'4.rd0 s_l.rd) rfl rfl c'1) (Zg (ZaO (off':=0) (off2:=0) (hO'4.rd0 s_l.rd) (Zj c'1) rfl rfl) ?_)
      obtain ⟨c'2,hp⟩:=Zn hp
      refine Zg (ZaZ (off:=0) (off2:=(0 + d.toNat * 1)) (z:=d) (hO'4.rd0 s_l.rd) (Zj c'1) rfl rfl c'2 rfl) (Zg (zX (w:=.n (((gi l v.toNat).Next).get d)) (hO'4.rd0 s_l.rd) rfl (Zj c'1) (zr c'2)) (Zd (.n (((gi l v.toNat).Next).get d)) rfl (Zc (Zb (Zi (Zl (Zd v_l q'4_0 ?_)))))))
      refine Zd (.n v) q'4_3 (Zd (.n d) q'4_4 (Zg (zt (E:=Ze) (z:=v) (hO'4.rd0 s_l.rd) rfl rfl c'1) (Zg (ZaO (off':=0) (off2:=4) (hO'4.rd0 s_l.rd) (Zj c'1) rfl rfl) (Zg (ZaZ (off:=4) (off2:=(4 + d.toNat * 1)) (z:=d) (hO'4.rd0 s_l.rd) (Zj c'1) rfl rfl c'2 rfl) (Zg (zX (w:=.n (((gi l v.toNat).Owner).get d)) (hO'4.rd0 s_l.rd) rfl (Zj c'1) (Zbo c'2)) (Zd (.n (((gi l v.toNat).Owner).get d)) rfl (Zc ?_)))))))
      refine Zb (Zi (Zi (Zl (Zd (.n (((gi l v.toNat).Next).get d)) rfl (Zg (ZbE (a:=(((gi l v.toNat).Next).get d)) (b:=(-1)) rfl rfl) (Zc (Zb ?_)))))))
      rcases Zt hp with ⟨b'4,hp⟩ | ⟨b'4,hp⟩
      ·refine zB (t:=(decide (((gi l v.toNat).Next).get d = (-1)))) rfl b'4 ?_
       refine Zi (Zi (Zl (Zd (.n (((gi l v.toNat).Owner).get d)) rfl (Zg (ZbK (a:=(((gi l v.toNat).Owner).get d)) (b:=0) rfl rfl) (Zc (Zb ?_))))))
       rcases Zt hp with ⟨b'5,hp⟩ | ⟨b'5,hp⟩
       ·refine zB (t:=(!(decide (((gi l v.toNat).Owner).get d = 0)))) rfl b'5 ?_
        refine Zi (Zl (Zd (.n 9) rfl (Zc (Zb (zL (zh (zh ?_)))))))
        refine Zbd (zh ?_)
        cases hp
        refine (Or.inr ⟨.inr 9,rfl,(fun h=>nomatch h),(fun he=>?_)⟩)
        subst he; exact ⟨rfl,rfl,(hO'4.pick [] rfl (by decide))⟩
       ·refine zz (t:=(!(decide (((gi l v.toNat).Owner).get d = 0)))) rfl b'5 ?_
        refine zC (Zb (ZbM (Zak (ZaN (Zb (Zl (Zd (.n d) q'4_4 ?_)))))))
        obtain ⟨c'3,hp⟩:=Zn hp
        refine Zg (zD (a:=d) (b:=1) rfl rfl c'3) (Zd (.n (d + 1)) rfl (Zc ?_))
        cases hp
        exact (Or.inl ⟨d + 1,rfl,rfl,q'4_0,q'4_3,rfl,(hO'4.pick [] rfl (by decide))⟩)
      ·refine zz (t:=(decide (((gi l v.toNat).Next).get d = (-1)))) rfl b'4 ?_
       refine zC (Zb (Zi (Zi (Zl (Zd (.n (((gi l v.toNat).Next).get d)) rfl (Zg (zO (a:=(((gi l v.toNat).Next).get d)) (b:=0) rfl rfl) (Zd (.b (decide ((((gi l v.toNat).Next).get d) < 0))) rfl ?_)))))))
       refine Zaa 5 (fun fr' k'=>k'4 = k'∧fr' 45 = .b ((decide ((((gi l v.toNat).Next).get d) < 0)) || (decide ((l.length:Int)≤(((gi l v.toNat).Next).get d))))∧fr' 0 = v_l∧fr' 3 = .n v∧fr' 4 = .n d∧fr' 5 = .n (((gi l v.toNat).Next).get d)∧fr' 6 = .n (((gi l v.toNat).Owner).get d)) ?_ ?_
       ·rcases bc (decide ((((gi l v.toNat).Next).get d) < 0)) with b'6 | b'6
        ·skip
         refine Zw rfl b'6 (Zw rfl b'6 (Zw rfl b'6 (Zw rfl b'6 (Zg (za (t:=(decide ((((gi l v.toNat).Next).get d) < 0))) (v:=.b ((decide ((((gi l v.toNat).Next).get d) < 0)) || (decide ((l.length:Int)≤(((gi l v.toNat).Next).get d))))) rfl b'6 (Eq.trans (b:=V.b true) rfl (Zbs b'6))) (Zc ?_)))))
         exact ⟨rfl,rfl,q'4_0,q'4_3,q'4_4,rfl,rfl⟩
        ·skip
         refine Z7 rfl b'6 (Zd (.n (((gi l v.toNat).Next).get d)) rfl (Z7 rfl b'6 (Zd v_l q'4_0 (Z7 rfl b'6 (Zg (ZaC (hO'4.rd0 s_l.rd) rfl) (Z7 rfl b'6 (Zg (ZcA (a:=(((gi l v.toNat).Next).get d)) (b:=(l.length:Int)) rfl rfl) ?_)))))))
         refine Zg (ZU (t:=(decide ((((gi l v.toNat).Next).get d) < 0))) (v:=.b ((decide ((((gi l v.toNat).Next).get d) < 0)) || (decide ((l.length:Int)≤(((gi l v.toNat).Next).get d))))) rfl b'6 (Eq.trans (b:=V.b (decide ((l.length:Int)≤(((gi l v.toNat).Next).get d)))) rfl (Zcc b'6))) (Zc ?_)
         exact ⟨rfl,rfl,q'4_0,q'4_3,q'4_4,rfl,rfl⟩
       rintro frg'1 _ ⟨rfl,g'1_45,g'1_0,g'1_3,g'1_4,g'1_5,g'1_6⟩
       refine Zd (.b ((decide ((((gi l v.toNat).Next).get d) < 0)) || (decide ((l.length:Int)≤(((gi l v.toNat).Next).get d))))) g'1_45 ?_
       refine Zaa 4 (fun fr' k'=>k'4 = k'∧fr' 50 = .b (((decide ((((gi l v.toNat).Next).get d) < 0)) || (decide ((l.length:Int)≤(((gi l v.toNat).Next).get d)))) || (decide (((gi l v.toNat).Next).get d = v)))∧fr' 0 = v_l∧fr' 3 = .n v∧fr' 4 = .n d∧fr' 5 = .n (((gi l v.toNat).Next).get d)∧fr' 6 = .n (((gi l v.toNat).Owner).get d)) ?_ ?_
       ·rcases bc ((decide ((((gi l v.toNat).Next).get d) < 0)) || (decide ((l.length:Int)≤(((gi l v.toNat).Next).get d)))) with b'7 | b'7
        ·skip
         refine Zw rfl b'7 (Zw rfl b'7 (Zw rfl b'7 (Zg (za (t:=((decide ((((gi l v.toNat).Next).get d) < 0)) || (decide ((l.length:Int)≤(((gi l v.toNat).Next).get d))))) (v:=.b (((decide ((((gi l v.toNat).Next).get d) < 0)) || (decide ((l.length:Int)≤(((gi l v.toNat).Next).get d)))) || (decide (((gi l v.toNat).Next).get d = v)))) rfl b'7 (Eq.trans (b:=V.b true) rfl (Zbs b'7))) (Zc ?_))))
         exact ⟨rfl,rfl,g'1_0,g'1_3,g'1_4,g'1_5,g'1_6⟩
        ·skip
         refine Z7 rfl b'7 (Zd (.n (((gi l v.toNat).Next).get d)) g'1_5 (Z7 rfl b'7 (Zd (.n v) g'1_3 (Z7 rfl b'7 (Zg (ZbE (a:=(((gi l v.toNat).Next).get d)) (b:=v) rfl rfl) (Zg (ZU (t:=((decide ((((gi l v.toNat).Next).get d) < 0)) || (decide ((l.length:Int)≤(((gi l v.toNat).Next).get d))))) (v:=.b (((decide ((((gi l v.toNat).Next).get d) < 0)) || (decide ((l.length:Int)≤(((gi l v.toNat).Next).get d)))) || (decide (((gi l v.toNat).Next).get d = v)))) rfl b'7 (Eq.trans (b:=V.b (decide (((gi l v.toNat).Next).get d = v))) rfl (Zcc b'7))) (Zc ?_)))))))
         exact ⟨rfl,rfl,g'1_0,g'1_3,g'1_4,g'1_5,g'1_6⟩
       rintro frg'2 _ ⟨rfl,g'2_50,g'2_0,g'2_3,g'2_4,g'2_5,g'2_6⟩
       refine Zc (Zb ?_)
       rcases Zt hp with ⟨b'8,hp⟩ | ⟨b'8,hp⟩
       ·refine zB (t:=(((decide ((((gi l v.toNat).Next).get d) < 0)) || (decide ((l.length:Int)≤(((gi l v.toNat).Next).get d)))) || (decide (((gi l v.toNat).Next).get d = v)))) g'2_50 b'8 ?_
        refine Zi (Zl (Zd (.n 3) rfl (Zc (Zb (zL (zh (Zbd ?_)))))))
        refine zh ?_
        cases hp
        refine (Or.inr ⟨.inr 3,rfl,(fun h=>nomatch h),(fun he=>?_)⟩)
        subst he; exact ⟨rfl,rfl,(hO'4.pick [] rfl (by decide))⟩
       ·refine zz (t:=(((decide ((((gi l v.toNat).Next).get d) < 0)) || (decide ((l.length:Int)≤(((gi l v.toNat).Next).get d)))) || (decide (((gi l v.toNat).Next).get d = v)))) g'2_50 b'8 ?_
        refine zC (Zb (Zi (Zl (Zd v_l g'2_0 (Zd (.n (((gi l v.toNat).Next).get d)) g'2_5 (Zd (.n d) g'2_4 ?_))))))
        obtain ⟨c'4,hp⟩:=Zn hp
        refine Zg (zD (a:=d) (b:=2) rfl rfl c'4) (Zg (Zd6 (a:=(d + 2)) (b:=4) rfl rfl (by decide)) ?_)
        obtain ⟨c'5,hp⟩:=Zn hp
        refine Zg (zt (E:=Ze) (z:=(((gi l v.toNat).Next).get d)) (hO'4.rd0 s_l.rd) rfl rfl c'5) (Zg (ZaO (off':=0) (off2:=0) (hO'4.rd0 s_l.rd) (Zj c'5) rfl rfl) ?_)
        obtain ⟨c'6,hp⟩:=Zn hp
        refine Zg (ZaZ (off:=0) (off2:=(0 + ((d + 2).tmod 4:Int).toNat * 1)) (z:=((d + 2).tmod 4)) (hO'4.rd0 s_l.rd) (Zj c'5) rfl rfl c'6 rfl) (Zg (zX (w:=.n (((gi l (((gi l v.toNat).Next).get d:Int).toNat).Next).get ((d + 2).tmod 4))) (hO'4.rd0 s_l.rd) rfl (Zj c'5) (zr c'6)) (Zd (.n v) g'2_3 (Zg (ZbK (a:=(((gi l (((gi l v.toNat).Next).get d:Int).toNat).Next).get ((d + 2).tmod 4))) (b:=v) rfl rfl) (Zd (.b (!(decide (((gi l (((gi l v.toNat).Next).get d:Int).toNat).Next).get ((d + 2).tmod 4) = v)))) rfl ?_))))
        refine Zaa 12 (fun fr' k'=>k'4 = k'∧fr' 74 = .b ((!(decide (((gi l (((gi l v.toNat).Next).get d:Int).toNat).Next).get ((d + 2).tmod 4) = v))) || (!(decide (((gi l (((gi l v.toNat).Next).get d:Int).toNat).Owner).get ((d + 2).tmod 4) = ((gi l v.toNat).Owner).get d))))∧fr' 0 = v_l∧fr' 3 = .n v∧fr' 4 = .n d∧fr' 6 = .n (((gi l v.toNat).Owner).get d)) ?_ ?_
        ·rcases bc (!(decide (((gi l (((gi l v.toNat).Next).get d:Int).toNat).Next).get ((d + 2).tmod 4) = v))) with b'9 | b'9
         ·skip
          refine Zw rfl b'9 (Zw rfl b'9 (Zw rfl b'9 (Zw rfl b'9 (Zw rfl b'9 (Zw rfl b'9 (Zw rfl b'9 (Zw rfl b'9 ?_)))))))
          refine Zw rfl b'9 (Zw rfl b'9 (Zw rfl b'9 (Zg (za (t:=(!(decide (((gi l (((gi l v.toNat).Next).get d:Int).toNat).Next).get ((d + 2).tmod 4) = v)))) (v:=.b ((!(decide (((gi l (((gi l v.toNat).Next).get d:Int).toNat).Next).get ((d + 2).tmod 4) = v))) || (!(decide (((gi l (((gi l v.toNat).Next).get d:Int).toNat).Owner).get ((d + 2).tmod 4) = ((gi l v.toNat).Owner).get d))))) rfl b'9 (Eq.trans (b:=V.b true) rfl (Zbs b'9))) (Zc ?_))))
          exact ⟨rfl,rfl,g'2_0,g'2_3,g'2_4,g'2_6⟩
         ·skip
          refine Z7 rfl b'9 (Zd v_l g'2_0 (Z7 rfl b'9 (Zd (.n (((gi l v.toNat).Next).get d)) g'2_5 (Z7 rfl b'9 (Zd (.n d) g'2_4 (Z7 rfl b'9 (Zg (zD (a:=d) (b:=2) rfl rfl c'4) ?_)))))))
          refine Z7 rfl b'9 (Zg (Zd6 (a:=(d + 2)) (b:=4) rfl rfl (by decide)) (Z7 rfl b'9 (Zg (zt (E:=Ze) (z:=(((gi l v.toNat).Next).get d)) (hO'4.rd0 s_l.rd) rfl rfl c'5) (Z7 rfl b'9 (Zg (ZaO (off':=0) (off2:=4) (hO'4.rd0 s_l.rd) (Zj c'5) rfl rfl) (Z7 rfl b'9 (Zg (ZaZ (off:=4) (off2:=(4 + ((d + 2).tmod 4:Int).toNat * 1)) (z:=((d + 2).tmod 4)) (hO'4.rd0 s_l.rd) (Zj c'5) rfl rfl c'6 rfl) ?_)))))))
          refine Z7 rfl b'9 (Zg (zX (w:=.n (((gi l (((gi l v.toNat).Next).get d:Int).toNat).Owner).get ((d + 2).tmod 4))) (hO'4.rd0 s_l.rd) rfl (Zj c'5) (Zbo c'6)) (Z7 rfl b'9 (Zd (.n (((gi l v.toNat).Owner).get d)) g'2_6 (Z7 rfl b'9 (Zg (ZbK (a:=(((gi l (((gi l v.toNat).Next).get d:Int).toNat).Owner).get ((d + 2).tmod 4))) (b:=(((gi l v.toNat).Owner).get d)) rfl rfl) (Zg (ZU (t:=(!(decide (((gi l (((gi l v.toNat).Next).get d:Int).toNat).Next).get ((d + 2).tmod 4) = v)))) (v:=.b ((!(decide (((gi l (((gi l v.toNat).Next).get d:Int).toNat).Next).get ((d + 2).tmod 4) = v))) || (!(decide (((gi l (((gi l v.toNat).Next).get d:Int).toNat).Owner).get ((d + 2).tmod 4) = ((gi l v.toNat).Owner).get d))))) rfl b'9 (Eq.trans (b:=V.b (!(decide (((gi l (((gi l v.toNat).Next).get d:Int).toNat).Owner).get ((d + 2).tmod 4) = ((gi l v.toNat).Owner).get d)))) rfl (Zcc b'9))) (Zc ?_)))))))
          exact ⟨rfl,rfl,g'2_0,g'2_3,g'2_4,g'2_6⟩
        rintro frg'3 _ ⟨rfl,g'3_74,g'3_0,g'3_3,g'3_4,g'3_6⟩
        refine Zd (.b ((!(decide (((gi l (((gi l v.toNat).Next).get d:Int).toNat).Next).get ((d + 2).tmod 4) = v))) || (!(decide (((gi l (((gi l v.toNat).Next).get d:Int).toNat).Owner).get ((d + 2).tmod 4) = ((gi l v.toNat).Owner).get d))))) g'3_74 ?_
        refine Zaa 3 (fun fr' k'=>k'4 = k'∧fr' 78 = .b (((!(decide (((gi l (((gi l v.toNat).Next).get d:Int).toNat).Next).get ((d + 2).tmod 4) = v))) || (!(decide (((gi l (((gi l v.toNat).Next).get d:Int).toNat).Owner).get ((d + 2).tmod 4) = ((gi l v.toNat).Owner).get d)))) || (decide ((((gi l v.toNat).Owner).get d) < (-2))))∧fr' 0 = v_l∧fr' 3 = .n v∧fr' 4 = .n d) ?_ ?_
        ·rcases bc ((!(decide (((gi l (((gi l v.toNat).Next).get d:Int).toNat).Next).get ((d + 2).tmod 4) = v))) || (!(decide (((gi l (((gi l v.toNat).Next).get d:Int).toNat).Owner).get ((d + 2).tmod 4) = ((gi l v.toNat).Owner).get d)))) with b'10 | b'10
         ·skip
          refine Zw rfl b'10 (Zw rfl b'10 (Zg (za (t:=((!(decide (((gi l (((gi l v.toNat).Next).get d:Int).toNat).Next).get ((d + 2).tmod 4) = v))) || (!(decide (((gi l (((gi l v.toNat).Next).get d:Int).toNat).Owner).get ((d + 2).tmod 4) = ((gi l v.toNat).Owner).get d))))) (v:=.b (((!(decide (((gi l (((gi l v.toNat).Next).get d:Int).toNat).Next).get ((d + 2).tmod 4) = v))) || (!(decide (((gi l (((gi l v.toNat).Next).get d:Int).toNat).Owner).get ((d + 2).tmod 4) = ((gi l v.toNat).Owner).get d)))) || (decide ((((gi l v.toNat).Owner).get d) < (-2))))) rfl b'10 (Eq.trans (b:=V.b true) rfl (Zbs b'10))) (Zc ?_)))
          exact ⟨rfl,rfl,g'3_0,g'3_3,g'3_4⟩
         ·skip
          refine Z7 rfl b'10 (Zd (.n (((gi l v.toNat).Owner).get d)) g'3_6 (Z7 rfl b'10 (Zg (zO (a:=(((gi l v.toNat).Owner).get d)) (b:=(-2)) rfl rfl) (Zg (ZU (t:=((!(decide (((gi l (((gi l v.toNat).Next).get d:Int).toNat).Next).get ((d + 2).tmod 4) = v))) || (!(decide (((gi l (((gi l v.toNat).Next).get d:Int).toNat).Owner).get ((d + 2).tmod 4) = ((gi l v.toNat).Owner).get d))))) (v:=.b (((!(decide (((gi l (((gi l v.toNat).Next).get d:Int).toNat).Next).get ((d + 2).tmod 4) = v))) || (!(decide (((gi l (((gi l v.toNat).Next).get d:Int).toNat).Owner).get ((d + 2).tmod 4) = ((gi l v.toNat).Owner).get d)))) || (decide ((((gi l v.toNat).Owner).get d) < (-2))))) rfl b'10 (Eq.trans (b:=V.b (decide ((((gi l v.toNat).Owner).get d) < (-2)))) rfl (Zcc b'10))) (Zc ?_)))))
          exact ⟨rfl,rfl,g'3_0,g'3_3,g'3_4⟩
        rintro frg'4 _ ⟨rfl,g'4_78,g'4_0,g'4_3,g'4_4⟩
        refine Zc (Zb ?_)
        rcases Zt hp with ⟨b'11,hp⟩ | ⟨b'11,hp⟩
        ·refine zB (t:=(((!(decide (((gi l (((gi l v.toNat).Next).get d:Int).toNat).Next).get ((d + 2).tmod 4) = v))) || (!(decide (((gi l (((gi l v.toNat).Next).get d:Int).toNat).Owner).get ((d + 2).tmod 4) = ((gi l v.toNat).Owner).get d)))) || (decide ((((gi l v.toNat).Owner).get d) < (-2))))) g'4_78 b'11 ?_
         refine Zi (Zl (Zd (.n 9) rfl (Zc (Zb (zL (Zbd (zh ?_)))))))
         cases hp
         refine (Or.inr ⟨.inr 9,rfl,(fun h=>nomatch h),(fun he=>?_)⟩)
         subst he; exact ⟨rfl,rfl,(hO'4.pick [] rfl (by decide))⟩
        ·refine zz (t:=(((!(decide (((gi l (((gi l v.toNat).Next).get d:Int).toNat).Next).get ((d + 2).tmod 4) = v))) || (!(decide (((gi l (((gi l v.toNat).Next).get d:Int).toNat).Owner).get ((d + 2).tmod 4) = ((gi l v.toNat).Owner).get d)))) || (decide ((((gi l v.toNat).Owner).get d) < (-2))))) g'4_78 b'11 ?_
         refine zC (Zax (Zb (Zl (Zd (.n d) g'4_4 ?_))))
         obtain ⟨c'7,hp⟩:=Zn hp
         refine Zg (zD (a:=d) (b:=1) rfl rfl c'7) (Zd (.n (d + 1)) rfl (Zc ?_))
         cases hp
         exact (Or.inl ⟨d + 1,rfl,rfl,g'4_0,g'4_3,rfl,(hO'4.pick [] rfl (by decide))⟩)
     ·refine zz (t:=(decide (d < 4))) rfl b'3 ?_
      refine ZbM (Zak ?_)
      cases hp
      refine (Or.inr ⟨.inl (),rfl,(fun h=>nomatch h),(fun he=>?_)⟩)
      subst he; exact ⟨rfl,q'4_0,q'4_3,(hO'4.pick [] rfl (by decide))⟩
    intro e'2 q'3 k'3 hJ'2
    rcases o'3 with _ | x1
    ·obtain ⟨rfl,q'3_0,q'3_3,hO'3⟩:=hJ'2
     refine ZaN (Zax (Zb (Zl (Zd (.n v) q'3_3 ?_))))
     obtain ⟨c'8,hp⟩:=Zn hp
     refine Zg (zD (a:=v) (b:=1) rfl rfl c'8) (Zd (.n (v + 1)) rfl (Zc ?_))
     cases hp
     exact (Or.inl ⟨v + 1,rfl,rfl,q'3_0,rfl,(hO'3.pick [] rfl (by decide))⟩)
    ·obtain ⟨rfl,q'3_2,hO'3⟩:=hJ'2
     refine Zbd (Zbd (zh ?_))
     cases hp
     refine (Or.inr ⟨.inr x1,rfl,(fun h=>nomatch h),(fun he=>?_)⟩)
     subst he; exact ⟨rfl,q'3_2,(hO'3.pick [] rfl (by decide))⟩
   ·refine zz (t:=(decide (v < (l.length:Int)))) rfl b'2 ?_
    refine ZbM (Zak ?_)
    cases hp
    refine (Or.inr ⟨.inl (),rfl,(fun h=>nomatch h),(fun he=>?_)⟩)
    subst he; exact ⟨rfl,(hO'2.pick [] rfl (by decide))⟩
  intro e'1 q'1 k'1 hJ'1
  rcases o'1 with _ | x
  ·obtain ⟨rfl,hO'1⟩:=hJ'1
   refine ZaN (Zb (Zi (Zl (Zd (.n 0) rfl (Zc (Zb (zL ?_)))))))
   refine zf (zl (n:=2) (v:=.n 0) rfl ZD) ?_
   cases hp
   exact ⟨rfl,(hO'1.pick [] rfl (by decide))⟩
  ·obtain ⟨rfl,q'1_2,hO'1⟩:=hJ'1
   refine Zbd (zh (zf (zl (n:=2) (v:=.n x) q'1_2 ZD) ?_))
   cases hp
   exact ⟨rfl,(hO'1.pick [] rfl (by decide))⟩

theorem ZP.ok {h:Hp} {l:List Za} {v:Int} {v_l:V} (s_l:Sl Ze h v_l l) {r:(List Int)} (hp:ZP l v = some r) :
  ∃ u k',Is G 36 [v_l,.n v] h u k'∧∃ (v'1:V),v'1 = u∧Own (fun r=>r < h.n) h k' [eSl Zao v'1 r]:=by
 refine WC.is (Za7 ZdZ ?_)
 unfold ZP at hp
 let B:Nat→Prop:=(fun r=>r < h.n)
 have hO:Own B h h []:=Own.start0 h
 refine Zi (Zl (Zd (.sn) rfl (Zc (Zb (Zi (Zl (Zd v_l rfl ?_)))))))
 refine Zg (ZaC (hO.rd0 s_l.rd) rfl) ?_
 obtain ⟨c'1,hp⟩:=Zn hp
 refine Za0 (hO.mks (E:=Zao) (y:=(0:Int)) (bytes:=8) (z:=(l.length:Int)) hO.fr rfl rfl rfl c'1 (by decide)) ?_
 rintro v'2 k'1 ⟨r'1,f'1,hW⟩
 have hO'1:=hW
 refine Zd v'2 rfl (Zc (Zb (Zi (Zi (Zl (Zd (.n 0) rfl (Zc ?_)))))))
 refine Zb (Zay ?_)
 obtain ⟨o'1,ho'1,hp⟩:=Zq hp
 refine W.mono (Q:=fun e fr k=>match (generalizing:=false) o'1 with
   | far1=>e = (.exit 0)∧fr 0 = v_l∧fr 1 = .n v∧fr 5 = v'2∧Own B h k [eSl Zao v'2 far1]) ?_ ?_
 ·clear hp
  refine zU (fun st fr k=>match st with | (far,i)=>fr 0 = v_l∧fr 1 = .n v∧fr 5 = v'2∧fr 6 = .n i∧Own B h k [eSl Zao v'2 far]) ho'1 (s:=(List.replicate ((l.length:Int):Int).toNat (0:Int),0)) ⟨rfl,rfl,rfl,rfl,(hO'1.pick [0] rfl (by decide))⟩ ?_
  rintro ⟨far,i⟩ q'2 k'3 ⟨q'2_0,q'2_1,q'2_5,q'2_6,hO'3⟩ o'2 hp
  dsimp only [ZP.s0] at hp
  refine Zi (Zi (Zl (Zd (.n i) q'2_6 (Zd v_l q'2_0 (Zg (ZaC (hO'3.rd0 s_l.rd) rfl) (Zg (zO (a:=i) (b:=(l.length:Int)) rfl rfl) (Zc ?_)))))))
  refine Zb ?_
  rcases Zt hp with ⟨b'1,hp⟩ | ⟨b'1,hp⟩
  ·refine zB (t:=(decide (i < (l.length:Int)))) rfl b'1 ?_
   refine zC (Zb (Zi (Zay (Zl (Zd v'2 q'2_5 (Zd (.n i) q'2_6 ?_))))))
   obtain ⟨c'2,hp⟩:=Zn hp
   refine Zg (zt (E:=Zao) (z:=i) (hO'3.sl 0 rfl) rfl rfl c'2) (Za0 (hO'3.ste (E:=Zao) (y:=(-1)) (ws:=[.n (-1)]) 0 rfl rfl (Zj c'2) rfl rfl ⟨rfl,Nat.le_of_ble_eq_true rfl,rfl⟩ rfl) ?_)
   rintro _ k'4 ⟨rfl,f'2,m'1,hW⟩
   have hO'4:=hW
   refine Zc (Zax (Zb (Zl (Zd (.n i) q'2_6 ?_))))
   obtain ⟨c'3,hp⟩:=Zn hp
   refine Zg (zD (a:=i) (b:=1) rfl rfl c'3) (Zd (.n (i + 1)) rfl (Zc ?_))
   cases hp
   exact (Or.inl ⟨(far.set i.toNat (-1),i + 1),rfl,rfl,q'2_0,q'2_1,q'2_5,rfl,(hO'4.pick [0] rfl (by decide))⟩)
  ·refine zz (t:=(decide (i < (l.length:Int)))) rfl b'1 ?_
   refine ZbM (Zak ?_)
   cases hp
   refine (Or.inr ⟨far,rfl,(fun h=>nomatch h),(fun he=>?_)⟩)
   subst he; exact ⟨rfl,q'2_0,q'2_1,q'2_5,(hO'3.pick [0] rfl (by decide))⟩
 intro e'1 q'1 k'2 hJ'1
 obtain ⟨far1,rfl⟩:∃ x,x = o'1:=⟨_,rfl⟩
 obtain ⟨rfl,q'1_0,q'1_1,q'1_5,hO'2⟩:=hJ'1
 refine ZaN (Zb (Zi (Zl (Zd v'2 q'1_5 (Zd (.n v) q'1_1 ?_)))))
 obtain ⟨c'4,hp⟩:=Zn hp
 refine Zg (zt (E:=Zao) (z:=v) (hO'2.sl 0 rfl) rfl rfl c'4) (Za0 (hO'2.ste (E:=Zao) (y:=0) (ws:=[.n 0]) 0 rfl rfl (Zj c'4) rfl rfl ⟨rfl,Nat.le_of_ble_eq_true rfl,rfl⟩ rfl) ?_)
 rintro _ k'5 ⟨rfl,f'3,m'2,hW⟩
 have hO'5:=hW
 refine Zc (Zb (Zi (Zi (Zl (Zd (.n 0) rfl (Zc (Zb ?_)))))))
 refine Zay ?_
 obtain ⟨o'3,ho'2,hp⟩:=Zq hp
 refine W.mono (Q:=fun e fr k=>match (generalizing:=false) o'3 with
   | far3=>e = (.exit 2)∧fr 5 = v'2∧Own B h k [eSl Zao v'2 far3]) ?_ ?_
 ·clear hp
  refine zU (fun st fr k=>match st with | (far2,round)=>fr 0 = v_l∧fr 5 = v'2∧fr 7 = .n round∧Own B h k [eSl Zao v'2 far2]) ho'2 (s:=(far1.set v.toNat 0,0)) ⟨q'1_0,q'1_5,rfl,(hO'5.pick [0] rfl (by decide))⟩ ?_
  rintro ⟨far2,round⟩ q'4 k'7 ⟨q'4_0,q'4_5,q'4_7,hO'7⟩ o'4 hp
  dsimp only [ZP.s1] at hp
  refine Zi (Zi (Zl (Zd (.n round) q'4_7 (Zd v_l q'4_0 (Zg (ZaC (hO'7.rd0 s_l.rd) rfl) (Zg (zO (a:=round) (b:=(l.length:Int)) rfl rfl) (Zc ?_)))))))
  refine Zb ?_
  rcases Zt hp with ⟨b'2,hp⟩ | ⟨b'2,hp⟩
  ·refine zB (t:=(decide (round < (l.length:Int)))) rfl b'2 ?_
   refine zC (Zb (Zi (Zay (Zi (Zl (Zd (.n 0) rfl (Zc ?_)))))))
   refine Zb (Zay ?_)
   obtain ⟨o'5,ho'3,hp⟩:=Zq hp
   refine W.mono (Q:=fun e fr k=>match (generalizing:=false) o'5 with
     | far5=>e = (.exit 4)∧fr 0 = v_l∧fr 5 = v'2∧fr 7 = .n round∧Own B h k [eSl Zao v'2 far5]) ?_ ?_
   ·clear hp
    refine zU (fun st fr k=>match st with | (far4,i1)=>fr 0 = v_l∧fr 5 = v'2∧fr 7 = .n round∧fr 8 = .n i1∧Own B h k [eSl Zao v'2 far4]) ho'3 (s:=(far2,0)) ⟨q'4_0,q'4_5,q'4_7,rfl,(hO'7.pick [0] rfl (by decide))⟩ ?_
    rintro ⟨far4,i1⟩ q'6 k'9 ⟨q'6_0,q'6_5,q'6_7,q'6_8,hO'9⟩ o'6 hp
    dsimp only [ZP.s2] at hp
    refine Zi (Zi (Zl (Zd (.n i1) q'6_8 (Zd v_l q'6_0 (Zg (ZaC (hO'9.rd0 s_l.rd) rfl) (Zg (zO (a:=i1) (b:=(l.length:Int)) rfl rfl) (Zc ?_)))))))
    refine Zb ?_
    rcases Zt hp with ⟨b'3,hp⟩ | ⟨b'3,hp⟩
    ·refine zB (t:=(decide (i1 < (l.length:Int)))) rfl b'3 ?_
     refine zC (Zb (Zi (Zay (Zi (Zl (Zd (.n 0) rfl (Zc ?_)))))))
     refine Zb (Zay ?_)
     obtain ⟨o'7,ho'4,hp⟩:=Zq hp
     refine W.mono (Q:=fun e fr k=>match (generalizing:=false) o'7 with
       | far7=>e = (.exit 6)∧fr 0 = v_l∧fr 5 = v'2∧fr 7 = .n round∧fr 8 = .n i1∧Own B h k [eSl Zao v'2 far7]) ?_ ?_
     ·clear hp
      refine zU (fun st fr k=>match st with | (far6,d)=>fr 0 = v_l∧fr 5 = v'2∧fr 7 = .n round∧fr 8 = .n i1∧fr 9 = .n d∧Own B h k [eSl Zao v'2 far6]) ho'4 (s:=(far4,0)) ⟨q'6_0,q'6_5,q'6_7,q'6_8,rfl,(hO'9.pick [0] rfl (by decide))⟩ ?_
      rintro ⟨far6,d⟩ q'8 k'11 ⟨q'8_0,q'8_5,q'8_7,q'8_8,q'8_9,hO'11⟩ o'8 hp
      dsimp only [ZP.s3] at hp
      refine Zi (Zi (Zl (Zd (.n d) q'8_9 (Zg (zO (a:=d) (b:=4) rfl rfl) (Zc (Zb ?_))))))
      rcases Zt hp with ⟨b'4,hp⟩ | ⟨b'4,hp⟩
      ·refine zB (t:=(decide (d < 4))) rfl b'4 ?_
       refine zC (Zb (Zi (Zay (Zi (Zl (Zd v_l q'8_0 (Zd (.n i1) q'8_8 ?_)))))))
       refine Zd (.n d) q'8_9 ?_
       obtain ⟨c'5,hp⟩:=Zn hp
       refine Zg (zt (E:=Ze) (z:=i1) (hO'11.rd0 s_l.rd) rfl rfl c'5) (Zg (ZaO (off':=0) (off2:=0) (hO'11.rd0 s_l.rd) (Zj c'5) rfl rfl) ?_)
       obtain ⟨c'6,hp⟩:=Zn hp
       refine Zg (ZaZ (off:=0) (off2:=(0 + d.toNat * 1)) (z:=d) (hO'11.rd0 s_l.rd) (Zj c'5) rfl rfl c'6 rfl) (Zg (zX (w:=.n (((gi l i1.toNat).Next).get d)) (hO'11.rd0 s_l.rd) rfl (Zj c'5) (zr c'6)) (Zd (.n (((gi l i1.toNat).Next).get d)) rfl (Zc (Zb (Zi (Zl (Zd v'2 q'8_5 ?_)))))))
       refine Zd (.n i1) q'8_8 ?_
       obtain ⟨c'7,hp⟩:=Zn hp
       refine Zg (zt (E:=Zao) (z:=i1) (hO'11.sl 0 rfl) rfl rfl c'7) (Zg (zX (w:=.n (gi far6 i1.toNat)) (hO'11.sl 0 rfl) rfl (Zj c'7) rfl) (Zd (.n round) q'8_7 (Zg (ZbE (a:=(gi far6 i1.toNat)) (b:=round) rfl rfl) (Zd (.b (decide (gi far6 i1.toNat = round))) rfl ?_))))
       refine Zaa 3 (fun fr' k'=>k'11 = k'∧fr' 58 = .b ((decide (gi far6 i1.toNat = round)) && (decide (0≤(((gi l i1.toNat).Next).get d))))∧fr' 0 = v_l∧fr' 10 = .n (((gi l i1.toNat).Next).get d)∧fr' 5 = v'2∧fr' 7 = .n round∧fr' 8 = .n i1∧fr' 9 = .n d) ?_ ?_
       ·rcases bc (decide (gi far6 i1.toNat = round)) with b'5 | b'5
        ·skip
         refine Z7 rfl b'5 (Zd (.n (((gi l i1.toNat).Next).get d)) rfl (Z7 rfl b'5 (Zg (ZcA (a:=(((gi l i1.toNat).Next).get d)) (b:=0) rfl rfl) (Zg (za (t:=(decide (gi far6 i1.toNat = round))) (v:=.b ((decide (gi far6 i1.toNat = round)) && (decide (0≤(((gi l i1.toNat).Next).get d))))) rfl b'5 (Eq.trans (b:=V.b (decide (0≤(((gi l i1.toNat).Next).get d)))) rfl (Zcs b'5))) (Zc ?_)))))
         exact ⟨rfl,rfl,q'8_0,rfl,q'8_5,q'8_7,q'8_8,q'8_9⟩
        ·skip
         refine Zw rfl b'5 (Zw rfl b'5 (Zg (ZU (t:=(decide (gi far6 i1.toNat = round))) (v:=.b ((decide (gi far6 i1.toNat = round)) && (decide (0≤(((gi l i1.toNat).Next).get d))))) rfl b'5 (Eq.trans (b:=V.b false) rfl (ZbW b'5))) (Zc ?_)))
         exact ⟨rfl,rfl,q'8_0,rfl,q'8_5,q'8_7,q'8_8,q'8_9⟩
       rintro frg'1 _ ⟨rfl,g'1_58,g'1_0,g'1_10,g'1_5,g'1_7,g'1_8,g'1_9⟩
       refine Zd (.b ((decide (gi far6 i1.toNat = round)) && (decide (0≤(((gi l i1.toNat).Next).get d))))) g'1_58 ?_
       obtain ⟨t,hv'1,hp⟩:=Zq hp
       refine Zaa 7 (fun fr' k'=>k'11 = k'∧fr' 66 = .b t∧fr' 0 = v_l∧fr' 10 = .n (((gi l i1.toNat).Next).get d)∧fr' 5 = v'2∧fr' 7 = .n round∧fr' 8 = .n i1∧fr' 9 = .n d) ?_ ?_
       ·clear hp; rcases Zt hv'1 with ⟨b'6,hp⟩ | ⟨b'6,hp⟩
        ·skip
         refine Z7 rfl b'6 (Zd v'2 g'1_5 (Z7 rfl b'6 (Zd (.n (((gi l i1.toNat).Next).get d)) g'1_10 (Z7 rfl b'6 (Zg (Zp2 (a:=(((gi l i1.toNat).Next).get d)) (b:=0) rfl rfl) (Z7 rfl b'6 ?_))))))
         obtain ⟨c'8,hp⟩:=Zn hp
         refine Zg (zt (E:=Zao) (z:=(max (((gi l i1.toNat).Next).get d) 0)) (hO'11.sl 0 rfl) rfl rfl c'8) (Z7 rfl b'6 (Zg (zX (w:=.n (gi far6 (max (((gi l i1.toNat).Next).get d) 0:Int).toNat)) (hO'11.sl 0 rfl) rfl (Zj c'8) rfl) (Z7 rfl b'6 (Zg (zO (a:=(gi far6 (max (((gi l i1.toNat).Next).get d) 0:Int).toNat)) (b:=0) rfl rfl) (Zg (za (t:=((decide (gi far6 i1.toNat = round)) && (decide (0≤(((gi l i1.toNat).Next).get d))))) (v:=.b t) rfl b'6 (Eq.trans (b:=V.b (decide ((gi far6 (max (((gi l i1.toNat).Next).get d) 0:Int).toNat) < 0))) rfl (congrArg V.b (Option.some.inj hp)))) (Zc ?_))))))
         exact ⟨rfl,rfl,g'1_0,g'1_10,g'1_5,g'1_7,g'1_8,g'1_9⟩
        ·skip
         refine Zw rfl b'6 (Zw rfl b'6 (Zw rfl b'6 (Zw rfl b'6 (Zw rfl b'6 (Zw rfl b'6 (Zg (ZU (t:=((decide (gi far6 i1.toNat = round)) && (decide (0≤(((gi l i1.toNat).Next).get d))))) (v:=.b t) rfl b'6 (Eq.trans (b:=V.b false) rfl (congrArg V.b (Option.some.inj hp)))) (Zc ?_)))))))
         exact ⟨rfl,rfl,g'1_0,g'1_10,g'1_5,g'1_7,g'1_8,g'1_9⟩
       rintro frg'2 _ ⟨rfl,g'2_66,g'2_0,g'2_10,g'2_5,g'2_7,g'2_8,g'2_9⟩
       refine Zc (Zb ?_)
       rcases Zt hp with ⟨b'7,hp⟩ | ⟨b'7,hp⟩
       ·refine zB (t:=t) g'2_66 b'7 ?_
        refine Zl (Zd v'2 g'2_5 (Zd (.n (((gi l i1.toNat).Next).get d)) g'2_10 (Zd (.n round) g'2_7 ?_)))
        obtain ⟨c'9,hp⟩:=Zn hp
        refine Zg (zD (a:=round) (b:=1) rfl rfl c'9) ?_
        obtain ⟨c'10,hp⟩:=Zn hp
        refine Zg (zt (E:=Zao) (z:=(((gi l i1.toNat).Next).get d)) (hO'11.sl 0 rfl) rfl rfl c'10) (Za0 (hO'11.ste (E:=Zao) (y:=(round + 1)) (ws:=[.n (round + 1)]) 0 rfl rfl (Zj c'10) rfl rfl ⟨rfl,Nat.le_of_ble_eq_true rfl,rfl⟩ rfl) ?_)
        rintro _ k'12 ⟨rfl,f'4,m'3,hW⟩
        have hO'12:=hW
        refine Zc (Zax (Zb (Zl (Zd (.n d) g'2_9 ?_))))
        obtain ⟨c'11,hp⟩:=Zn hp
        refine Zg (zD (a:=d) (b:=1) rfl rfl c'11) (Zd (.n (d + 1)) rfl (Zc ?_))
        cases hp
        exact (Or.inl ⟨(far6.set (((gi l i1.toNat).Next).get d:Int).toNat (round + 1),d + 1),rfl,rfl,g'2_0,g'2_5,g'2_7,g'2_8,rfl,(hO'12.pick [0] rfl (by decide))⟩)
       ·refine zz (t:=t) g'2_66 b'7 ?_
        refine zC (Zax (Zb (Zl (Zd (.n d) g'2_9 ?_))))
        obtain ⟨c'12,hp⟩:=Zn hp
        refine Zg (zD (a:=d) (b:=1) rfl rfl c'12) (Zd (.n (d + 1)) rfl (Zc ?_))
        cases hp
        exact (Or.inl ⟨(far6,d + 1),rfl,rfl,g'2_0,g'2_5,g'2_7,g'2_8,rfl,(hO'11.pick [0] rfl (by decide))⟩)
      ·refine zz (t:=(decide (d < 4))) rfl b'4 ?_
       refine ZbM (Zak ?_)
       cases hp
       refine (Or.inr ⟨far6,rfl,(fun h=>nomatch h),(fun he=>?_)⟩)
       subst he; exact ⟨rfl,q'8_0,q'8_5,q'8_7,q'8_8,(hO'11.pick [0] rfl (by decide))⟩
     intro e'4 q'7 k'10 hJ'4
     obtain ⟨far7,rfl⟩:∃ x,x = o'7:=⟨_,rfl⟩
     obtain ⟨rfl,q'7_0,q'7_5,q'7_7,q'7_8,hO'10⟩:=hJ'4
     refine ZaN (Zax (Zb (Zl (Zd (.n i1) q'7_8 ?_))))
     obtain ⟨c'13,hp⟩:=Zn hp
     refine Zg (zD (a:=i1) (b:=1) rfl rfl c'13) (Zd (.n (i1 + 1)) rfl (Zc ?_))
     cases hp
     exact (Or.inl ⟨(far7,i1 + 1),rfl,rfl,q'7_0,q'7_5,q'7_7,rfl,(hO'10.pick [0] rfl (by decide))⟩)
    ·refine zz (t:=(decide (i1 < (l.length:Int)))) rfl b'3 ?_
     refine ZbM (Zak ?_)
     cases hp
     refine (Or.inr ⟨far4,rfl,(fun h=>nomatch h),(fun he=>?_)⟩)
     subst he; exact ⟨rfl,q'6_0,q'6_5,q'6_7,(hO'9.pick [0] rfl (by decide))⟩
   intro e'3 q'5 k'8 hJ'3
   obtain ⟨far5,rfl⟩:∃ x,x = o'5:=⟨_,rfl⟩
   obtain ⟨rfl,q'5_0,q'5_5,q'5_7,hO'8⟩:=hJ'3
   refine ZaN (Zax (Zb (Zl (Zd (.n round) q'5_7 ?_))))
   obtain ⟨c'14,hp⟩:=Zn hp
   refine Zg (zD (a:=round) (b:=1) rfl rfl c'14) (Zd (.n (round + 1)) rfl (Zc ?_))
   cases hp
   exact (Or.inl ⟨(far5,round + 1),rfl,rfl,q'5_0,q'5_5,rfl,(hO'8.pick [0] rfl (by decide))⟩)
  ·refine zz (t:=(decide (round < (l.length:Int)))) rfl b'2 ?_
   refine ZbM (Zak ?_)
   cases hp
   refine (Or.inr ⟨far2,rfl,(fun h=>nomatch h),(fun he=>?_)⟩)
   subst he; exact ⟨rfl,q'4_5,(hO'7.pick [0] rfl (by decide))⟩
 intro e'2 q'3 k'6 hJ'2
 obtain ⟨far3,rfl⟩:∃ x,x = o'3:=⟨_,rfl⟩
 obtain ⟨rfl,q'3_5,hO'6⟩:=hJ'2
 refine ZaN (Zb (Zi (Zl (Zd v'2 q'3_5 (Zd v'2 rfl (Zc (Zb ?_)))))))
 refine zL (zf (zl (n:=4) (v:=v'2) rfl ZD) ?_)
 cases hp
 exact ⟨v'2,rfl,(hO'6.pick [0] rfl (by decide))⟩

theorem zo.ok {h:Hp} {l:List Za} {v_l:V} (s_l:Sl Ze h v_l l) {r:(List (List Int))} (hp:zo l = some r) :
  ∃ u k',Is G 30 [v_l] h u k'∧∃ (v'1:V),∃ (vs'1:List V),v'1 = u∧Own (fun r=>r < h.n) h k' [eSl eV v'1 vs'1,Zc7 Zao vs'1 r]:=by
 refine WC.is (Za7 Zd3 ?_)
 unfold zo at hp
 let B:Nat→Prop:=(fun r=>r < h.n)
 have hO:Own B h h []:=Own.start0 h
 refine Zi (Zl (Zd (.sn) rfl (Zc (Zb (Zi (Zl (Zd v_l rfl ?_)))))))
 refine Zg (ZaC (hO.rd0 s_l.rd) rfl) ?_
 obtain ⟨c'1,hp⟩:=Zn hp
 refine Za0 (hO.mks (E:=e_bool) (y:=false) (bytes:=1) (z:=(l.length:Int)) hO.fr rfl rfl rfl c'1 (by decide)) ?_
 rintro v'2 k'1 ⟨r'1,f'1,hW⟩
 have hO'1:=hW
 refine Zd v'2 rfl (Zc (Zb (Zi (Zl (Zd (.sn) rfl (Zc (Zb ?_)))))))
 refine Zi (Zi (Zl (Zd (.n 0) rfl (Zc (Zb (Zay ?_))))))
 obtain ⟨o'1,ho'1,hp⟩:=Zq hp
 refine W.mono (Q:=fun e fr k=>match (generalizing:=false) o'1 with
   | out1=>e = (.exit 0)∧∃ (v'4:V),∃ (vs'3:List V),fr 4 = v'4∧Own B h k [eSl eV v'4 vs'3,Zc7 Zao vs'3 out1]) ?_ ?_
 ·clear hp
  have hO'3:=hO'1.nil eV
  have hO'4:=hO'3.allNil Zao 0
  refine zU (fun st fr k=>match st with | (in_,out,v)=>∃ (v'3:V),∃ (vs'2:List V),fr 0 = v_l∧fr 3 = v'2∧fr 4 = v'3∧fr 5 = .n v∧Own B h k [eSl e_bool v'2 in_,eSl eV v'3 vs'2,Zc7 Zao vs'2 out]) ho'1 (s:=(List.replicate ((l.length:Int):Int).toNat false,([]:List (List Int)),0)) ⟨V.sn,[],rfl,rfl,rfl,rfl,(hO'4.pick [0,1,2] rfl (by decide))⟩ ?_
  rintro ⟨in_,out,v⟩ q'2 k'3 ⟨v'3,vs'2,q'2_0,q'2_3,q'2_4,q'2_5,hO'5⟩ o'2 hp
  dsimp only [zo.s0] at hp
  refine Zi (Zi (Zl (Zd (.n v) q'2_5 (Zd v_l q'2_0 (Zg (ZaC (hO'5.rd0 s_l.rd) rfl) (Zg (zO (a:=v) (b:=(l.length:Int)) rfl rfl) (Zc ?_)))))))
  refine Zb ?_
  rcases Zt hp with ⟨b'1,hp⟩ | ⟨b'1,hp⟩
  ·refine zB (t:=(decide (v < (l.length:Int)))) rfl b'1 ?_
   refine zC (Zb (Zi (Zay (Zi (Zi (Zl (Zd v'2 q'2_3 ?_)))))))
   refine Zd (.n v) q'2_5 ?_
   obtain ⟨c'2,hp⟩:=Zn hp
   refine Zg (zt (E:=e_bool) (z:=v) (hO'5.sl 0 rfl) rfl rfl c'2) (Zg (zX (w:=.b (gi in_ v.toNat)) (hO'5.sl 0 rfl) rfl (Zj c'2) rfl) (Zc (Zb ?_)))
   rcases Zt hp with ⟨b'2,hp⟩ | ⟨b'2,hp⟩
   ·refine zB (t:=(gi in_ v.toNat)) rfl b'2 ?_
    refine ZbM (Zak (ZaN (Zb (Zl (Zd (.n v) q'2_5 ?_)))))
    obtain ⟨c'3,hp⟩:=Zn hp
    refine Zg (zD (a:=v) (b:=1) rfl rfl c'3) (Zd (.n (v + 1)) rfl (Zc ?_))
    cases hp
    exact (Or.inl ⟨(in_,out,v + 1),rfl,rfl,v'3,vs'2,q'2_0,q'2_3,q'2_4,rfl,(hO'5.pick [0,1,2] rfl (by decide))⟩)
   ·refine zz (t:=(gi in_ v.toNat)) rfl b'2 ?_
    refine zC (Zb (Zi (Zl (Zd v_l q'2_0 (Zd (.n v) q'2_5 ?_)))))
    obtain ⟨x,hx'1,hp⟩:=Zq hp
    obtain ⟨u'1,k'4,ca'1,v'5,rfl,hW'1⟩:=ZP.ok (h:=k'3)  (hO'5.rd0 s_l.rd) hx'1
    refine Zai (id:=36) (caps:=[]) rfl (Zp (v:=v_l) rfl (Zp (v:=.n v) rfl ZK)) ca'1 ?_
    have hO'6:=hO'5.call hW'1 rfl
    refine Zd v'5 rfl (Zc (Zb (Zi (Zl (Zd (.sn) rfl (Zc (Zb ?_)))))))
    refine Zi (Zi (Zl (Zd (.n 0) rfl (Zc (Zb (Zay ?_))))))
    obtain ⟨o'3,ho'2,hp⟩:=Zq hp
    refine W.mono (Q:=fun e fr k=>match (generalizing:=false) o'3 with
      | (in_2,p1)=>e = (.exit 2)∧∃ (v'7:V),fr 0 = v_l∧fr 3 = v'2∧fr 4 = v'3∧fr 5 = .n v∧fr 7 = v'7∧Own B h k [eSl e_bool v'2 in_2,eSl eV v'3 vs'2,Zc7 Zao vs'2 out,eSl Zao v'7 p1]) ?_ ?_
    ·clear hp
     have hO'8:=hO'6.nil Zao
     refine zU (fun st fr k=>match st with | (in_1,p,w)=>∃ (v'6:V),fr 0 = v_l∧fr 3 = v'2∧fr 4 = v'3∧fr 5 = .n v∧fr 6 = v'5∧fr 7 = v'6∧fr 8 = .n w∧Own B h k [eSl e_bool v'2 in_1,eSl eV v'3 vs'2,Zc7 Zao vs'2 out,eSl Zao v'5 x,eSl Zao v'6 p]) ho'2 (s:=(in_,([]:List Int),0)) ⟨V.sn,q'2_0,q'2_3,q'2_4,q'2_5,rfl,rfl,rfl,(hO'8.pick [0,1,2,3,4] rfl (by decide))⟩ ?_
     rintro ⟨in_1,p,w⟩ q'4 k'6 ⟨v'6,q'4_0,q'4_3,q'4_4,q'4_5,q'4_6,q'4_7,q'4_8,hO'9⟩ o'4 hp
     dsimp only [zo.s1] at hp
     refine Zi (Zi (Zl (Zd (.n w) q'4_8 (Zd v_l q'4_0 (Zg (ZaC (hO'9.rd0 s_l.rd) rfl) (Zg (zO (a:=w) (b:=(l.length:Int)) rfl rfl) (Zc ?_)))))))
     refine Zb ?_
     rcases Zt hp with ⟨b'3,hp⟩ | ⟨b'3,hp⟩
     ·refine zB (t:=(decide (w < (l.length:Int)))) rfl b'3 ?_
      refine zC (Zb (Zi (Zay (Zi (Zl (Zd v'5 q'4_6 (Zd (.n w) q'4_8 ?_)))))))
      obtain ⟨c'4,hp⟩:=Zn hp
      refine Zg (zt (E:=Zao) (z:=w) (hO'9.sl 3 rfl) rfl rfl c'4) (Zg (zX (w:=.n (gi x w.toNat)) (hO'9.sl 3 rfl) rfl (Zj c'4) rfl) (Zg (ZcA (a:=(gi x w.toNat)) (b:=0) rfl rfl) (Zc (Zb ?_))))
      rcases Zt hp with ⟨b'4,hp⟩ | ⟨b'4,hp⟩
      ·refine zB (t:=(decide (0≤(gi x w.toNat)))) rfl b'4 ?_
       refine Zi (Zl (Zd v'2 q'4_3 (Zd (.n w) q'4_8 ?_)))
       obtain ⟨c'5,hp⟩:=Zn hp
       refine Zg (zt (E:=e_bool) (z:=w) (hO'9.sl 0 rfl) rfl rfl c'5) (Za0 (hO'9.ste (E:=e_bool) (y:=true) (ws:=[.b true]) 0 rfl rfl (Zj c'5) rfl rfl ⟨rfl,Nat.le_of_ble_eq_true rfl,rfl⟩ rfl) ?_)
       rintro _ k'7 ⟨rfl,f'2,m'1,hW⟩
       have hO'10:=hW
       refine Zc (Zb (Zl (Zd v'6 q'4_7 (Zd (.n w) q'4_8 (Za0 (hO'10.bsl (E:=Zao) (l:=[w]) hO'10.fr (by rw [(Zae (v:=.n w) rfl Zb3)]; rfl) rfl) ?_)))))
       rintro v'8 k'8 ⟨r'2,f'3,hW⟩
       have hO'11:=hW
       obtain ⟨c'6,hp⟩:=Zn hp
       refine Za0 (hO'11.app (E:=Zao) (bytes:=8) 4 hO'11.fr rfl (hO'11.sl 5 rfl) rfl rfl (fun _=>rfl) c'6 (by decide)) ?_
       rintro v'9 k'9 ⟨f'4,hW⟩
       have hO'12:=hW
       refine Zd v'9 rfl (Zc (Zax (Zb (Zl (Zd (.n w) q'4_8 ?_)))))
       obtain ⟨c'7,hp⟩:=Zn hp
       refine Zg (zD (a:=w) (b:=1) rfl rfl c'7) (Zd (.n (w + 1)) rfl (Zc ?_))
       cases hp
       exact (Or.inl ⟨(in_1.set w.toNat true,p++[w],w + 1),rfl,rfl,v'9,q'4_0,q'4_3,q'4_4,q'4_5,q'4_6,rfl,rfl,(hO'12.pick [0,1,2,3,4] rfl (by decide))⟩)
      ·refine zz (t:=(decide (0≤(gi x w.toNat)))) rfl b'4 ?_
       refine zC (Zax (Zb (Zl (Zd (.n w) q'4_8 ?_))))
       obtain ⟨c'8,hp⟩:=Zn hp
       refine Zg (zD (a:=w) (b:=1) rfl rfl c'8) (Zd (.n (w + 1)) rfl (Zc ?_))
       cases hp
       exact (Or.inl ⟨(in_1,p,w + 1),rfl,rfl,v'6,q'4_0,q'4_3,q'4_4,q'4_5,q'4_6,q'4_7,rfl,(hO'9.pick [0,1,2,3,4] rfl (by decide))⟩)
     ·refine zz (t:=(decide (w < (l.length:Int)))) rfl b'3 ?_
      refine ZbM (Zak ?_)
      cases hp
      refine (Or.inr ⟨(in_1,p),rfl,(fun h=>nomatch h),(fun he=>?_)⟩)
      subst he; exact ⟨rfl,v'6,q'4_0,q'4_3,q'4_4,q'4_5,q'4_7,(hO'9.pick [0,1,2,4] rfl (by decide))⟩
    intro e'2 q'3 k'5 hJ'2
    obtain ⟨in_2,p1⟩:=o'3
    obtain ⟨rfl,v'7,q'3_0,q'3_3,q'3_4,q'3_5,q'3_7,hO'7⟩:=hJ'2
    refine ZaN (Zb (Zl (Zd v'3 q'3_4 (Zd v'7 q'3_7 (Za0 (hO'7.bsl (E:=eV) (l:=[v'7]) hO'7.fr (by rw [(Zae (v:=v'7) rfl Zb3)]; simp only [fill,(hO'7.sl 3 rfl).cells]; simp [over]) rfl) ?_)))))
    rintro v'10 k'10 ⟨r'3,f'5,hW⟩
    have hO'13:=hW
    obtain ⟨c'9,hp⟩:=Zn hp
    refine Za0 (hO'13.appV (bytes:=24) 1 hO'13.fr rfl (hO'13.sl 4 rfl) rfl rfl (by simp only [List.all_cons,List.all_nil,Bool.and_true]; exact (hO'13.sl 3 rfl).oneV) (by rw [(hO'13.allLen 2 rfl:(vs'2).length = (out).length)]; exact c'9) (by decide)) ?_
    rintro v'11 k'11 ⟨f'6,hW⟩
    have hO'14:=hW
    have hO'15:=hO'14.absorb 2 3 rfl rfl (by decide)
    refine Zd v'11 rfl (Zc (Zax (Zb (Zl (Zd (.n v) q'3_5 ?_)))))
    obtain ⟨c'10,hp⟩:=Zn hp
    refine Zg (zD (a:=v) (b:=1) rfl rfl c'10) (Zd (.n (v + 1)) rfl (Zc ?_))
    cases hp
    exact (Or.inl ⟨(in_2,out++[p1],v + 1),rfl,rfl,v'11,vs'2++[v'7],q'3_0,q'3_3,rfl,rfl,(hO'15.pick [0,1,2] rfl (by decide))⟩)
  ·refine zz (t:=(decide (v < (l.length:Int)))) rfl b'1 ?_
   refine ZbM (Zak ?_)
   cases hp
   refine (Or.inr ⟨out,rfl,(fun h=>nomatch h),(fun he=>?_)⟩)
   subst he; exact ⟨rfl,v'3,vs'2,q'2_4,(hO'5.pick [1,2] rfl (by decide))⟩
 intro e'1 q'1 k'2 hJ'1
 obtain ⟨out1,rfl⟩:∃ x,x = o'1:=⟨_,rfl⟩
 obtain ⟨rfl,v'4,vs'3,q'1_4,hO'2⟩:=hJ'1
 refine ZaN (Zb (Zi (Zl (Zd v'4 q'1_4 (Zd v'4 rfl (Zc (Zb ?_)))))))
 refine zL (zf (zl (n:=2) (v:=v'4) rfl ZD) ?_)
 cases hp
 exact ⟨v'4,vs'3,rfl,(hO'2.pick [0,1] rfl (by decide))⟩

theorem zG.ok {h:Hp} {l:List Za} {d:Zu} {v_l:V} (s_l:Sl Ze h v_l l) {r:Zu} (hp:zG l d = some r) :
  ∃ u k',Is G 202 [v_l,.ag (Zm.c d)] h u k'∧V.ag (Zm.c r) = u∧Own (fun r=>r < h.n) h k' []:=by
 refine WC.is (Za7 Zdl ?_)
 unfold zG at hp
 let B:Nat→Prop:=(fun r=>r < h.n)
 have hO:Own B h h []:=Own.start0 h
 refine Zi (Zl (Za0 (hO.boxd (v:=.ag (Zm.c d)) (cs:=Zm.c d) hO.fr rfl rfl) ?_))
 rintro _ k'1 ⟨r'1,rfl,n'1,f'1,hW⟩
 have hO'1:=hW
 refine Za0 (hO'1.alloc (cs:=Zm.c (⟨0,0⟩:Zu)) hO'1.fr) ?_
 rintro _ k'2 ⟨r'2,rfl,n'2,f'2,hW⟩
 have hO'2:=hW
 refine Zc (Zb (Zi (ZgZ ?_)))
 have hW:=hO'2.bump 10
 have hO'3:=hW
 refine Zah v_l rfl (ZS rfl (Zbv (r:=r'1) (o:=0) (o':=0) rfl rfl) (ZS rfl (ZaK (cs:=(Zm.c d)) (v:=.n d.Cell) (hO'3.box 0 rfl) rfl rfl) (ZS rfl (Zbv (r:=r'1) (o:=0) (o':=1) rfl rfl) (ZS rfl (ZaK (cs:=(Zm.c d)) (v:=.n d.Dir) (hO'3.box 0 rfl) rfl rfl) ?_))))
 obtain ⟨c'1,hp⟩:=Zn hp
 refine ZS rfl (zt (E:=Ze) (z:=d.Cell) (hO'3.rd0 s_l.rd) rfl rfl c'1) (ZS rfl (ZaO (off':=0) (off2:=0) (hO'3.rd0 s_l.rd) (Zj c'1) rfl rfl) ?_)
 obtain ⟨c'2,hp⟩:=Zn hp
 refine ZS rfl (ZaZ (off:=0) (off2:=(0 + (d.Dir:Int).toNat * 1)) (z:=d.Dir) (hO'3.rd0 s_l.rd) (Zj c'1) rfl rfl c'2 rfl) (ZS rfl (zX (w:=.n (((gi l (d.Cell:Int).toNat).Next).get d.Dir)) (hO'3.rd0 s_l.rd) rfl (Zj c'1) (zr c'2)) (Zah (.n (((gi l (d.Cell:Int).toNat).Next).get d.Dir)) rfl (Zaj (Zb (Zi (Zl (Za0 (hO'3.bsl (E:=Zao) (l:=([1,0,3,2]:List Int)) hO'3.fr (by rw [(Zae (v:=.n 1) rfl (Zae (v:=.n 0) rfl (Zae (v:=.n 3) rfl (Zae (v:=.n 2) rfl Zb3))))]; rfl) rfl) ?_)))))))
 rintro v'1 k'4 ⟨r'3,f'3,hW⟩
 have hO'4:=hW
 refine Zd v'1 rfl (Zc (Zb (Zi (Zi (Zl (Zd (.n 0) rfl (Zc ?_)))))))
 refine Zb (Zay ?_)
 obtain ⟨o'1,ho'1,hp⟩:=Zq hp
 refine W.mono (Q:=fun e fr k=>match (generalizing:=false) o'1 with
   | .inl _=>e = (.exit 0)∧fr 3 = .p r'1 0∧fr 4 = .p r'2 0∧Own B h k [ZaD r'1 (Zm.c d),ZaD r'2 (Zm.c (⟨0,0⟩:Zu))]
   | .inr x=>e = .ret∧fr 4 = .p r'2 0∧Own B h k [ZaD r'2 (Zm.c x)]) ?_ ?_
 ·clear hp
  refine zU (fun st fr k=>match st with | i=>fr 0 = v_l∧fr 3 = .p r'1 0∧fr 4 = .p r'2 0∧fr 5 = .n (((gi l (d.Cell:Int).toNat).Next).get d.Dir)∧fr 6 = v'1∧fr 7 = .n i∧Own B h k [ZaD r'1 (Zm.c d),ZaD r'2 (Zm.c (⟨0,0⟩:Zu)),eSl Zao v'1 ([1,0,3,2]:List Int)]) ho'1 (s:=0) ⟨rfl,rfl,rfl,rfl,rfl,rfl,(hO'4.pick [0,1,2] rfl (by decide))⟩ ?_
  rintro i q'2 k'6 ⟨q'2_0,q'2_3,q'2_4,q'2_5,q'2_6,q'2_7,hO'6⟩ o'2 hp
  dsimp only [zG.s0] at hp
  refine Zi (Zi (Zl (Zd (.n i) q'2_7 (Zg (zO (a:=i) (b:=4) rfl rfl) (Zc (Zb ?_))))))
  rcases Zt hp with ⟨b'1,hp⟩ | ⟨b'1,hp⟩
  ·refine zB (t:=(decide (i < 4))) rfl b'1 ?_
   refine zC (Zb (Zi (Zay (Zi (ZgZ ?_)))))
   have hW:=hO'6.bump 9
   have hO'7:=hW
   refine ZS rfl (Zbv (r:=r'1) (o:=0) (o':=1) q'2_3 rfl) (ZS rfl (ZaK (cs:=(Zm.c d)) (v:=.n d.Dir) (hO'7.box 0 rfl) rfl rfl) (Zah v'1 q'2_6 (Zah (.n i) q'2_7 ?_)))
   obtain ⟨c'3,hp⟩:=Zn hp
   refine ZS rfl (zt (E:=Zao) (z:=i) (hO'7.sl 2 rfl) rfl rfl c'3) (ZS rfl (zX (w:=.n (gi ([1,0,3,2]:List Int) i.toNat)) (hO'7.sl 2 rfl) rfl (Zj c'3) rfl) ?_)
   obtain ⟨c'4,hp⟩:=Zn hp
   refine ZS rfl (zD (a:=d.Dir) (b:=(gi ([1,0,3,2]:List Int) i.toNat)) rfl rfl c'4) (ZS rfl (Zd6 (a:=(d.Dir + (gi ([1,0,3,2]:List Int) i.toNat))) (b:=4) rfl rfl (by decide)) (Zah (.n ((d.Dir + (gi ([1,0,3,2]:List Int) i.toNat)).tmod 4)) rfl (Zaj (Zb (Zi (Zl (Zd v_l q'2_0 ?_)))))))
   refine Zd (.n (((gi l (d.Cell:Int).toNat).Next).get d.Dir)) q'2_5 (Zd (.n ((d.Dir + (gi ([1,0,3,2]:List Int) i.toNat)).tmod 4)) rfl ?_)
   obtain ⟨c'5,hp⟩:=Zn hp
   refine Zg (zt (E:=Ze) (z:=(((gi l (d.Cell:Int).toNat).Next).get d.Dir)) (hO'7.rd0 s_l.rd) rfl rfl c'5) (Zg (ZaO (off':=0) (off2:=0) (hO'7.rd0 s_l.rd) (Zj c'5) rfl rfl) ?_)
   obtain ⟨c'6,hp⟩:=Zn hp
   refine Zg (ZaZ (off:=0) (off2:=(0 + ((d.Dir + (gi ([1,0,3,2]:List Int) i.toNat)).tmod 4:Int).toNat * 1)) (z:=((d.Dir + (gi ([1,0,3,2]:List Int) i.toNat)).tmod 4)) (hO'7.rd0 s_l.rd) (Zj c'5) rfl rfl c'6 rfl) (Zg (zX (w:=.n (((gi l (((gi l (d.Cell:Int).toNat).Next).get d.Dir:Int).toNat).Next).get ((d.Dir + (gi ([1,0,3,2]:List Int) i.toNat)).tmod 4))) (hO'7.rd0 s_l.rd) rfl (Zj c'5) (zr c'6)) (Zg (ZcA (a:=(((gi l (((gi l (d.Cell:Int).toNat).Next).get d.Dir:Int).toNat).Next).get ((d.Dir + (gi ([1,0,3,2]:List Int) i.toNat)).tmod 4))) (b:=0) rfl rfl) (Zc (Zb ?_))))
   rcases Zt hp with ⟨b'2,hp⟩ | ⟨b'2,hp⟩
   ·refine zB (t:=(decide (0≤(((gi l (((gi l (d.Cell:Int).toNat).Next).get d.Dir:Int).toNat).Next).get ((d.Dir + (gi ([1,0,3,2]:List Int) i.toNat)).tmod 4))))) rfl b'2 ?_
    refine Zi (Zl (Zd (.n (((gi l (d.Cell:Int).toNat).Next).get d.Dir)) q'2_5 (Zd (.n ((d.Dir + (gi ([1,0,3,2]:List Int) i.toNat)).tmod 4)) rfl (Zg (Zdo (cs:=Zm.c (⟨((gi l (d.Cell:Int).toNat).Next).get d.Dir,(d.Dir + (gi ([1,0,3,2]:List Int) i.toNat)).tmod 4⟩:Zu)) (by rw [(Zae (v:=.n (((gi l (d.Cell:Int).toNat).Next).get d.Dir)) rfl (Zae (v:=.n ((d.Dir + (gi ([1,0,3,2]:List Int) i.toNat)).tmod 4)) rfl Zb3))]; rfl)) (Za0 (hO'7.stb (ws:=Zm.c (⟨((gi l (d.Cell:Int).toNat).Next).get d.Dir,(d.Dir + (gi ([1,0,3,2]:List Int) i.toNat)).tmod 4⟩:Zu)) (cs':=Zm.c (⟨((gi l (d.Cell:Int).toNat).Next).get d.Dir,(d.Dir + (gi ([1,0,3,2]:List Int) i.toNat)).tmod 4⟩:Zu)) (v:=.ag (Zm.c (⟨((gi l (d.Cell:Int).toNat).Next).get d.Dir,(d.Dir + (gi ([1,0,3,2]:List Int) i.toNat)).tmod 4⟩:Zu))) 1 rfl q'2_4 rfl rfl ⟨rfl,Nat.le_of_ble_eq_true rfl,rfl⟩ rfl) ?_)))))
    rintro _ k'8 ⟨rfl,f'4,m'1,hW⟩
    have hO'8:=hW
    refine Zc (Zb (zL (Zbd (zh ?_))))
    cases hp
    refine (Or.inr ⟨(.inr (⟨((gi l (d.Cell:Int).toNat).Next).get d.Dir,(d.Dir + (gi ([1,0,3,2]:List Int) i.toNat)).tmod 4⟩:Zu)),rfl,(fun h=>nomatch h),(fun he=>?_)⟩)
    subst he; exact ⟨rfl,q'2_4,(hO'8.pick [1] rfl (by decide))⟩
   ·refine zz (t:=(decide (0≤(((gi l (((gi l (d.Cell:Int).toNat).Next).get d.Dir:Int).toNat).Next).get ((d.Dir + (gi ([1,0,3,2]:List Int) i.toNat)).tmod 4))))) rfl b'2 ?_
    refine zC (Zax (Zb (Zl (Zd (.n i) q'2_7 ?_))))
    obtain ⟨c'7,hp⟩:=Zn hp
    refine Zg (zD (a:=i) (b:=1) rfl rfl c'7) (Zd (.n (i + 1)) rfl (Zc ?_))
    cases hp
    exact (Or.inl ⟨i + 1,rfl,rfl,q'2_0,q'2_3,q'2_4,q'2_5,q'2_6,rfl,(hO'7.pick [0,1,2] rfl (by decide))⟩)
  ·refine zz (t:=(decide (i < 4))) rfl b'1 ?_
   refine ZbM (Zak ?_)
   cases hp
   refine (Or.inr ⟨.inl (),rfl,(fun h=>nomatch h),(fun he=>?_)⟩)
   subst he; exact ⟨rfl,q'2_3,q'2_4,(hO'6.pick [0,1] rfl (by decide))⟩
 intro e'1 q'1 k'5 hJ'1
 rcases o'1 with _ | x
 ·obtain ⟨rfl,q'1_3,q'1_4,hO'5⟩:=hJ'1
  refine ZaN (Zb (Zi (Zl (Zg (Zce (cs:=(Zm.c d)) (ws:=Zm.c d) (hO'5.box 0 rfl) q'1_3 rfl) (Za0 (hO'5.stb (ws:=Zm.c d) (cs':=Zm.c d) (v:=.ag (Zm.c d)) 1 rfl q'1_4 rfl rfl ⟨rfl,Nat.le_of_ble_eq_true rfl,rfl⟩ rfl) ?_)))))
  rintro _ k'9 ⟨rfl,f'5,m'2,hW⟩
  have hO'9:=hW
  refine Zc (Zb (zL (zf (ZjD (n:=4) (v:=.ag (Zm.c d)) (r:=r'2) q'1_4 (hO'9.box 1 rfl) rfl ZD) ?_)))
  cases hp
  exact ⟨rfl,(hO'9.pick [] rfl (by decide))⟩
 ·obtain ⟨rfl,q'1_4,hO'5⟩:=hJ'1
  refine Zbd (zh (zf (ZjD (n:=4) (v:=.ag (Zm.c x)) (r:=r'2) q'1_4 (hO'5.box 0 rfl) rfl ZD) ?_))
  cases hp
  exact ⟨rfl,(hO'5.pick [] rfl (by decide))⟩

theorem ZV.ok {h:Hp} {l:List Za} {v_l:V} (s_l:Sl Ze h v_l l) {r:(List (List Zu))} (hp:ZV l = some r) :
  ∃ u k',Is G 177 [v_l] h u k'∧∃ (v'1:V),∃ (vs'1:List V),v'1 = u∧Own (fun r=>r < h.n) h k' [eSl eV v'1 vs'1,Zc7 Zm vs'1 r]:=by
 refine WC.is (Za7 Zd1 ?_)
 unfold ZV at hp
 let B:Nat→Prop:=(fun r=>r < h.n)
 have hO:Own B h h []:=Own.start0 h
 refine Zi (Zl (Zd (.sn) rfl (Zc (Zb (Zi (Zl (Zd v_l rfl ?_)))))))
 refine Zg (ZaC (hO.rd0 s_l.rd) rfl) ?_
 obtain ⟨c'1,hp⟩:=Zn hp
 refine Zg (ZjX (a:=4) (b:=(l.length:Int)) rfl rfl c'1) ?_
 obtain ⟨c'2,hp⟩:=Zn hp
 refine Za0 (hO.mks (E:=e_bool) (y:=false) (bytes:=1) (z:=(4 * (l.length:Int))) hO.fr rfl rfl rfl c'2 (by decide)) ?_
 rintro v'2 k'1 ⟨r'1,f'1,hW⟩
 have hO'1:=hW
 refine Zd v'2 rfl (Zc (Zb (Zi (Zl (Zd (.sn) rfl (Zc (Zb ?_)))))))
 refine Zi (Zi (Zl (Zd (.n 0) rfl (Zc (Zb (Zay ?_))))))
 obtain ⟨o'1,ho'1,hp⟩:=Zq hp
 refine W.mono (Q:=fun e fr k=>match (generalizing:=false) o'1 with
   | out1=>e = (.exit 0)∧∃ (v'4:V),∃ (vs'3:List V),fr 4 = v'4∧Own B h k [eSl eV v'4 vs'3,Zc7 Zm vs'3 out1]) ?_ ?_
 ·clear hp
  have hO'3:=hO'1.nil eV
  have hO'4:=hO'3.allNil Zm 0
  refine zU (fun st fr k=>match st with | (met,out,v)=>∃ (v'3:V),∃ (vs'2:List V),fr 0 = v_l∧fr 3 = v'2∧fr 4 = v'3∧fr 5 = .n v∧Own B h k [eSl e_bool v'2 met,eSl eV v'3 vs'2,Zc7 Zm vs'2 out]) ho'1 (s:=(List.replicate (4 * (l.length:Int):Int).toNat false,([]:List (List Zu)),0)) ⟨V.sn,[],rfl,rfl,rfl,rfl,(hO'4.pick [0,1,2] rfl (by decide))⟩ ?_
  rintro ⟨met,out,v⟩ q'2 k'3 ⟨v'3,vs'2,q'2_0,q'2_3,q'2_4,q'2_5,hO'5⟩ o'2 hp
  dsimp only [ZV.s0] at hp
  refine Zi (Zi (Zl (Zd (.n v) q'2_5 (Zd v_l q'2_0 (Zg (ZaC (hO'5.rd0 s_l.rd) rfl) (Zg (zO (a:=v) (b:=(l.length:Int)) rfl rfl) (Zc ?_)))))))
  refine Zb ?_
  rcases Zt hp with ⟨b'1,hp⟩ | ⟨b'1,hp⟩
  ·refine zB (t:=(decide (v < (l.length:Int)))) rfl b'1 ?_
   refine zC (Zb (Zi (Zay (Zi (Zl (Zd (.n 0) rfl (Zc ?_)))))))
   refine Zb (Zay ?_)
   obtain ⟨o'3,ho'2,hp⟩:=Zq hp
   refine W.mono (Q:=fun e fr k=>match (generalizing:=false) o'3 with
     | (met2,out3)=>e = (.exit 2)∧∃ (v'6:V),∃ (vs'5:List V),fr 0 = v_l∧fr 3 = v'2∧fr 4 = v'6∧fr 5 = .n v∧Own B h k [eSl e_bool v'2 met2,eSl eV v'6 vs'5,Zc7 Zm vs'5 out3]) ?_ ?_
   ·clear hp
    refine zU (fun st fr k=>match st with | (met1,out2,e_)=>∃ (v'5:V),∃ (vs'4:List V),fr 0 = v_l∧fr 3 = v'2∧fr 4 = v'5∧fr 5 = .n v∧fr 6 = .n e_∧Own B h k [eSl e_bool v'2 met1,eSl eV v'5 vs'4,Zc7 Zm vs'4 out2]) ho'2 (s:=(met,out,0)) ⟨v'3,vs'2,q'2_0,q'2_3,q'2_4,q'2_5,rfl,(hO'5.pick [0,1,2] rfl (by decide))⟩ ?_
    rintro ⟨met1,out2,e_⟩ q'4 k'5 ⟨v'5,vs'4,q'4_0,q'4_3,q'4_4,q'4_5,q'4_6,hO'7⟩ o'4 hp
    dsimp only [ZV.s1] at hp
    refine Zi (Zi (Zl (Zd (.n e_) q'4_6 (Zg (zO (a:=e_) (b:=4) rfl rfl) (Zc (Zb ?_))))))
    rcases Zt hp with ⟨b'2,hp⟩ | ⟨b'2,hp⟩
    ·refine zB (t:=(decide (e_ < 4))) rfl b'2 ?_
     refine zC (Zb (Zi (Zay (Zi (Zi (Zl (Zd v_l q'4_0 ?_)))))))
     refine Zd (.n v) q'4_5 (Zd (.n e_) q'4_6 ?_)
     obtain ⟨c'3,hp⟩:=Zn hp
     refine Zg (zt (E:=Ze) (z:=v) (hO'7.rd0 s_l.rd) rfl rfl c'3) (Zg (ZaO (off':=0) (off2:=0) (hO'7.rd0 s_l.rd) (Zj c'3) rfl rfl) ?_)
     obtain ⟨c'4,hp⟩:=Zn hp
     refine Zg (ZaZ (off:=0) (off2:=(0 + e_.toNat * 1)) (z:=e_) (hO'7.rd0 s_l.rd) (Zj c'3) rfl rfl c'4 rfl) (Zg (zX (w:=.n (((gi l v.toNat).Next).get e_)) (hO'7.rd0 s_l.rd) rfl (Zj c'3) (zr c'4)) (Zg (zO (a:=(((gi l v.toNat).Next).get e_)) (b:=0) rfl rfl) (Zd (.b (decide ((((gi l v.toNat).Next).get e_) < 0))) rfl ?_)))
     obtain ⟨t,hv'1,hp⟩:=Zq hp
     refine Zaa 8 (fun fr' k'=>k'5 = k'∧fr' 39 = .b t∧fr' 0 = v_l∧fr' 3 = v'2∧fr' 4 = v'5∧fr' 5 = .n v∧fr' 6 = .n e_) ?_ ?_
     ·clear hp; rcases Zt hv'1 with ⟨b'3,hp⟩ | ⟨b'3,hp⟩
      ·skip
       refine Zw rfl b'3 (Zw rfl b'3 (Zw rfl b'3 (Zw rfl b'3 (Zw rfl b'3 (Zw rfl b'3 (Zw rfl b'3 (Zg (za (t:=(decide ((((gi l v.toNat).Next).get e_) < 0))) (v:=.b t) rfl b'3 (Eq.trans (b:=V.b true) rfl (congrArg V.b (Option.some.inj hp)))) ?_)))))))
       refine Zc ?_
       exact ⟨rfl,rfl,q'4_0,q'4_3,q'4_4,q'4_5,q'4_6⟩
      ·skip
       refine Z7 rfl b'3 (Zd v'2 q'4_3 (Z7 rfl b'3 (Zd (.n v) q'4_5 (Z7 rfl b'3 ?_))))
       obtain ⟨c'5,hp⟩:=Zn hp
       refine Zg (ZjX (a:=4) (b:=v) rfl rfl c'5) (Z7 rfl b'3 (Zd (.n e_) q'4_6 (Z7 rfl b'3 ?_)))
       obtain ⟨c'6,hp⟩:=Zn hp
       refine Zg (zD (a:=(4 * v)) (b:=e_) rfl rfl c'6) (Z7 rfl b'3 ?_)
       obtain ⟨c'7,hp⟩:=Zn hp
       refine Zg (zt (E:=e_bool) (z:=((4 * v) + e_)) (hO'7.sl 0 rfl) rfl rfl c'7) (Z7 rfl b'3 (Zg (zX (w:=.b (gi met1 ((4 * v) + e_:Int).toNat)) (hO'7.sl 0 rfl) rfl (Zj c'7) rfl) (Zg (ZU (t:=(decide ((((gi l v.toNat).Next).get e_) < 0))) (v:=.b t) rfl b'3 (Eq.trans (b:=V.b (gi met1 ((4 * v) + e_:Int).toNat)) rfl (congrArg V.b (Option.some.inj hp)))) (Zc ?_))))
       exact ⟨rfl,rfl,q'4_0,q'4_3,q'4_4,q'4_5,q'4_6⟩
     rintro frg'1 _ ⟨rfl,g'1_39,g'1_0,g'1_3,g'1_4,g'1_5,g'1_6⟩
     refine Zc (Zb ?_)
     rcases Zt hp with ⟨b'4,hp⟩ | ⟨b'4,hp⟩
     ·refine zB (t:=t) g'1_39 b'4 ?_
      refine ZbM (Zak (ZaN (Zb (Zl (Zd (.n e_) g'1_6 ?_)))))
      obtain ⟨c'8,hp⟩:=Zn hp
      refine Zg (zD (a:=e_) (b:=1) rfl rfl c'8) (Zd (.n (e_ + 1)) rfl (Zc ?_))
      cases hp
      exact (Or.inl ⟨(met1,out2,e_ + 1),rfl,rfl,v'5,vs'4,g'1_0,g'1_3,g'1_4,g'1_5,rfl,(hO'7.pick [0,1,2] rfl (by decide))⟩)
     ·refine zz (t:=t) g'1_39 b'4 ?_
      refine zC (Zb (Zi (Zl (Zd (.sn) rfl (Zc (Zb (Zi ?_)))))))
      refine Zl (Zd (.n v) g'1_5 (Zd (.n e_) g'1_6 (Zg (Zdo (cs:=Zm.c (⟨v,e_⟩:Zu)) (by rw [(Zae (v:=.n v) rfl (Zae (v:=.n e_) rfl Zb3))]; rfl)) (Za0 (hO'7.alloc (cs:=Zm.c (⟨0,0⟩:Zu)) hO'7.fr) ?_))))
      rintro _ k'6 ⟨r'2,rfl,n'1,f'2,hW⟩
      have hO'8:=hW
      refine Za0 (hO'8.stb (ws:=Zm.c (⟨v,e_⟩:Zu)) (cs':=Zm.c (⟨v,e_⟩:Zu)) (v:=.ag (Zm.c (⟨v,e_⟩:Zu))) 3 rfl rfl rfl rfl ⟨rfl,Nat.le_of_ble_eq_true rfl,rfl⟩ rfl) ?_
      rintro _ k'7 ⟨rfl,f'3,m'1,hW⟩
      have hO'9:=hW
      refine Zc (Zb (Zi (Zay ?_)))
      obtain ⟨o'5,ho'3,hp⟩:=Zq hp
      refine W.mono (Q:=fun e fr k=>match (generalizing:=false) o'5 with
        | (met4,f1)=>e = (.exit 4)∧∃ (v'8:V),fr 0 = v_l∧fr 3 = v'2∧fr 4 = v'5∧fr 5 = .n v∧fr 6 = .n e_∧fr 7 = v'8∧Own B h k [eSl e_bool v'2 met4,eSl eV v'5 vs'4,Zc7 Zm vs'4 out2,eSl Zm v'8 f1]) ?_ ?_
      ·clear hp
       have hO'11:=hO'9.nil Zm
       refine zU (fun st fr k=>match st with | (met3,f,d)=>∃ (v'7:V),fr 0 = v_l∧fr 3 = v'2∧fr 4 = v'5∧fr 5 = .n v∧fr 6 = .n e_∧fr 7 = v'7∧fr 8 = .p r'2 0∧Own B h k [eSl e_bool v'2 met3,eSl eV v'5 vs'4,Zc7 Zm vs'4 out2,eSl Zm v'7 f,ZaD r'2 (Zm.c d)]) ho'3 (s:=(met1,([]:List Zu),(⟨v,e_⟩:Zu))) ⟨V.sn,g'1_0,g'1_3,g'1_4,g'1_5,g'1_6,rfl,rfl,(hO'11.pick [0,1,2,4,3] rfl (by decide))⟩ ?_
       rintro ⟨met3,f,d⟩ q'6 k'9 ⟨v'7,q'6_0,q'6_3,q'6_4,q'6_5,q'6_6,q'6_7,q'6_8,hO'12⟩ o'6 hp
       dsimp only [ZV.s2] at hp
       refine Zi (Zi (Zl (Zd v'2 q'6_3 (Zg (Zbv (r:=r'2) (o:=0) (o':=0) q'6_8 rfl) (Zg (ZaK (cs:=(Zm.c d)) (v:=.n d.Cell) (hO'12.box 4 rfl) rfl rfl) ?_)))))
       obtain ⟨c'9,hp⟩:=Zn hp
       refine Zg (ZjX (a:=4) (b:=d.Cell) rfl rfl c'9) (Zg (Zbv (r:=r'2) (o:=0) (o':=1) q'6_8 rfl) (Zg (ZaK (cs:=(Zm.c d)) (v:=.n d.Dir) (hO'12.box 4 rfl) rfl rfl) ?_))
       obtain ⟨c'10,hp⟩:=Zn hp
       refine Zg (zD (a:=(4 * d.Cell)) (b:=d.Dir) rfl rfl c'10) ?_
       obtain ⟨c'11,hp⟩:=Zn hp
       refine Zg (zt (E:=e_bool) (z:=((4 * d.Cell) + d.Dir)) (hO'12.sl 0 rfl) rfl rfl c'11) (Zg (zX (w:=.b (gi met3 ((4 * d.Cell) + d.Dir:Int).toNat)) (hO'12.sl 0 rfl) rfl (Zj c'11) rfl) (Zg (Zcp (t:=(gi met3 ((4 * d.Cell) + d.Dir:Int).toNat)) rfl) (Zc (Zb ?_))))
       rcases Zt hp with ⟨b'5,hp⟩ | ⟨b'5,hp⟩
       ·refine zB (t:=(!(gi met3 ((4 * d.Cell) + d.Dir:Int).toNat))) rfl b'5 ?_
        refine zC (Zb (Zay (Zi (Zl (Zd v'2 q'6_3 (Zg (Zbv (r:=r'2) (o:=0) (o':=0) q'6_8 rfl) (Zg (ZaK (cs:=(Zm.c d)) (v:=.n d.Cell) (hO'12.box 4 rfl) rfl rfl) ?_)))))))
        refine Zg (ZjX (a:=4) (b:=d.Cell) rfl rfl c'9) (Zg (Zbv (r:=r'2) (o:=0) (o':=1) q'6_8 rfl) (Zg (ZaK (cs:=(Zm.c d)) (v:=.n d.Dir) (hO'12.box 4 rfl) rfl rfl) (Zg (zD (a:=(4 * d.Cell)) (b:=d.Dir) rfl rfl c'10) (Zg (zt (E:=e_bool) (z:=((4 * d.Cell) + d.Dir)) (hO'12.sl 0 rfl) rfl rfl c'11) (Za0 (hO'12.ste (E:=e_bool) (y:=true) (ws:=[.b true]) 0 rfl rfl (Zj c'11) rfl rfl ⟨rfl,Nat.le_of_ble_eq_true rfl,rfl⟩ rfl) ?_)))))
        rintro _ k'10 ⟨rfl,f'4,m'2,hW⟩
        have hO'13:=hW
        refine Zc (Zb (Zi (Zl (Zd v'7 q'6_7 (Zg (Zce (cs:=(Zm.c d)) (ws:=Zm.c d) (hO'13.box 4 rfl) q'6_8 rfl) (Za0 (hO'13.bsl (E:=Zm) (l:=[d]) hO'13.fr (by rw [(Zae (v:=.ag (Zm.c d)) rfl Zb3)]; rfl) rfl) ?_))))))
        rintro v'9 k'11 ⟨r'3,f'5,hW⟩
        have hO'14:=hW
        obtain ⟨c'12,hp⟩:=Zn hp
        refine Za0 (hO'14.app (E:=Zm) (bytes:=16) 3 hO'14.fr rfl (hO'14.sl 5 rfl) rfl rfl (fun _=>rfl) c'12 (by decide)) ?_
        rintro v'10 k'12 ⟨f'6,hW⟩
        have hO'15:=hW
        refine Zd v'10 rfl (Zc (Zb (Zl (Zd v_l q'6_0 (Zg (Zce (cs:=(Zm.c d)) (ws:=Zm.c d) (hO'15.box 4 rfl) q'6_8 rfl) ?_)))))
        obtain ⟨x,hx'1,hp⟩:=Zq hp
        obtain ⟨u'1,k'13,ca'1,rfl,hW'1⟩:=zG.ok (h:=k'12)  (hO'15.rd0 s_l.rd) hx'1
        refine Zai (id:=202) (caps:=[]) rfl (Zp (v:=v_l) rfl (Zp (v:=.ag (Zm.c d)) rfl ZK)) ca'1 ?_
        have hO'16:=hO'15.call hW'1 rfl
        refine Za0 (hO'16.stb (ws:=Zm.c x) (cs':=Zm.c x) (v:=.ag (Zm.c x)) 4 rfl q'6_8 rfl rfl ⟨rfl,Nat.le_of_ble_eq_true rfl,rfl⟩ rfl) ?_
        rintro _ k'14 ⟨rfl,f'7,m'3,hW⟩
        have hO'17:=hW
        refine Zc (Zax ?_)
        cases hp
        exact (Or.inl ⟨(met3.set ((4 * d.Cell) + d.Dir:Int).toNat true,f++[d],x),rfl,rfl,v'10,q'6_0,q'6_3,q'6_4,q'6_5,q'6_6,rfl,q'6_8,(hO'17.pick [0,1,2,3,4] rfl (by decide))⟩)
       ·refine zz (t:=(!(gi met3 ((4 * d.Cell) + d.Dir:Int).toNat))) rfl b'5 ?_
        refine ZbM (Zak ?_)
        cases hp
        refine (Or.inr ⟨(met3,f),rfl,(fun h=>nomatch h),(fun he=>?_)⟩)
        subst he; exact ⟨rfl,v'7,q'6_0,q'6_3,q'6_4,q'6_5,q'6_6,q'6_7,(hO'12.pick [0,1,2,3] rfl (by decide))⟩
      intro e'3 q'5 k'8 hJ'3
      obtain ⟨met4,f1⟩:=o'5
      obtain ⟨rfl,v'8,q'5_0,q'5_3,q'5_4,q'5_5,q'5_6,q'5_7,hO'10⟩:=hJ'3
      refine ZaN (Zb (Zl (Zd v'5 q'5_4 (Zd v'8 q'5_7 (Za0 (hO'10.bsl (E:=eV) (l:=[v'8]) hO'10.fr (by rw [(Zae (v:=v'8) rfl Zb3)]; simp only [fill,(hO'10.sl 3 rfl).cells]; simp [over]) rfl) ?_)))))
      rintro v'11 k'15 ⟨r'4,f'8,hW⟩
      have hO'18:=hW
      obtain ⟨c'13,hp⟩:=Zn hp
      refine Za0 (hO'18.appV (bytes:=24) 1 hO'18.fr rfl (hO'18.sl 4 rfl) rfl rfl (by simp only [List.all_cons,List.all_nil,Bool.and_true]; exact (hO'18.sl 3 rfl).oneV) (by rw [(hO'18.allLen 2 rfl:(vs'4).length = (out2).length)]; exact c'13) (by decide)) ?_
      rintro v'12 k'16 ⟨f'9,hW⟩
      have hO'19:=hW
      have hO'20:=hO'19.absorb 2 3 rfl rfl (by decide)
      refine Zd v'12 rfl (Zc (Zax (Zb (Zl (Zd (.n e_) q'5_6 ?_)))))
      obtain ⟨c'14,hp⟩:=Zn hp
      refine Zg (zD (a:=e_) (b:=1) rfl rfl c'14) (Zd (.n (e_ + 1)) rfl (Zc ?_))
      cases hp
      exact (Or.inl ⟨(met4,out2++[f1],e_ + 1),rfl,rfl,v'12,vs'4++[v'8],q'5_0,q'5_3,rfl,q'5_5,rfl,(hO'20.pick [0,1,2] rfl (by decide))⟩)
    ·refine zz (t:=(decide (e_ < 4))) rfl b'2 ?_
     refine ZbM (Zak ?_)
     cases hp
     refine (Or.inr ⟨(met1,out2),rfl,(fun h=>nomatch h),(fun he=>?_)⟩)
     subst he; exact ⟨rfl,v'5,vs'4,q'4_0,q'4_3,q'4_4,q'4_5,(hO'7.pick [0,1,2] rfl (by decide))⟩
   intro e'2 q'3 k'4 hJ'2
   obtain ⟨met2,out3⟩:=o'3
   obtain ⟨rfl,v'6,vs'5,q'3_0,q'3_3,q'3_4,q'3_5,hO'6⟩:=hJ'2
   refine ZaN (Zax (Zb (Zl (Zd (.n v) q'3_5 ?_))))
   obtain ⟨c'15,hp⟩:=Zn hp
   refine Zg (zD (a:=v) (b:=1) rfl rfl c'15) (Zd (.n (v + 1)) rfl (Zc ?_))
   cases hp
   exact (Or.inl ⟨(met2,out3,v + 1),rfl,rfl,v'6,vs'5,q'3_0,q'3_3,q'3_4,rfl,(hO'6.pick [0,1,2] rfl (by decide))⟩)
  ·refine zz (t:=(decide (v < (l.length:Int)))) rfl b'1 ?_
   refine ZbM (Zak ?_)
   cases hp
   refine (Or.inr ⟨out,rfl,(fun h=>nomatch h),(fun he=>?_)⟩)
   subst he; exact ⟨rfl,v'3,vs'2,q'2_4,(hO'5.pick [1,2] rfl (by decide))⟩
 intro e'1 q'1 k'2 hJ'1
 obtain ⟨out1,rfl⟩:∃ x,x = o'1:=⟨_,rfl⟩
 obtain ⟨rfl,v'4,vs'3,q'1_4,hO'2⟩:=hJ'1
 refine ZaN (Zb (Zi (Zl (Zd v'4 q'1_4 (Zd v'4 rfl (Zc (Zb ?_)))))))
 refine zL (zf (zl (n:=2) (v:=v'4) rfl ZD) ?_)
 cases hp
 exact ⟨v'4,vs'3,rfl,(hO'2.pick [0,1] rfl (by decide))⟩

theorem Zba.ok {h:Hp} {d:Int}   {r:Bool} (hp:Zba d = some r) :
  ∃ u k',Is G 223 [.n d] h u k'∧V.b r = u∧Own (fun r=>r < h.n) h k' []:=by
 refine WC.is (Za7 ZdJ ?_)
 unfold Zba at hp
 let B:Nat→Prop:=(fun r=>r < h.n)
 have hO:Own B h h []:=Own.start0 h
 refine Zi (Zl (Zd (.b false) rfl (Zc (Zb (Zi (Zl (Zd (.n d) rfl ?_)))))))
 refine Zg (ZcA (a:=d) (b:=0) rfl rfl) (Zd (.b (decide (0≤d))) rfl ?_)
 refine Zaa 3 (fun fr' k'=>h = k'∧fr' 8 = .b ((decide (0≤d)) && (decide (d≤3)))) ?_ ?_
 ·rcases bc (decide (0≤d)) with b'1 | b'1
  ·skip
   refine Z7 rfl b'1 (Zd (.n d) rfl (Z7 rfl b'1 (Zg (ZjW (a:=d) (b:=3) rfl rfl) (Zg (za (t:=(decide (0≤d))) (v:=.b ((decide (0≤d)) && (decide (d≤3)))) rfl b'1 (Eq.trans (b:=V.b (decide (d≤3))) rfl (Zcs b'1))) (Zc ?_)))))
   exact ⟨rfl,rfl⟩
  ·skip
   refine Zw rfl b'1 (Zw rfl b'1 (Zg (ZU (t:=(decide (0≤d))) (v:=.b ((decide (0≤d)) && (decide (d≤3)))) rfl b'1 (Eq.trans (b:=V.b false) rfl (ZbW b'1))) (Zc ?_)))
   exact ⟨rfl,rfl⟩
 rintro frg'1 _ ⟨rfl,g'1_8⟩
 refine Zd (.b ((decide (0≤d)) && (decide (d≤3)))) g'1_8 (Zc (Zb (zL (zf (zl (n:=2) (v:=.b ((decide (0≤d)) && (decide (d≤3)))) rfl ZD) ?_))))
 cases hp
 exact ⟨rfl,(hO.pick [] rfl (by decide))⟩

theorem Zb4.ok {h:Hp} {d:Int} {times:Int}   {r:Int} (hp:Zb4 d times = some r) :
  ∃ u k',Is G 224 [.n d,.n times] h u k'∧V.n r = u∧Own (fun r=>r < h.n) h k' []:=by
 refine WC.is (Za7 ZdK ?_)
 unfold Zb4 at hp
 let B:Nat→Prop:=(fun r=>r < h.n)
 have hO:Own B h h []:=Own.start0 h
 refine Zi (Zl (Zd (.n 0) rfl (Zc (Zb (Zi (Zl (Zd (.n d) rfl ?_)))))))
 obtain ⟨x,hx'1,hp⟩:=Zq hp
 obtain ⟨u'1,k'1,ca'1,rfl,hW'1⟩:=Zba.ok (h:=h)   hx'1
 refine Zai (id:=223) (caps:=[]) rfl (Zp (v:=.n d) rfl ZK) ca'1 ?_
 have hO'1:=hO.call hW'1 rfl
 refine Zd (.b x) rfl (Zc (Zb (Zi (Zi (Zl (Zd (.b x) rfl (Zg (Zcp (t:=x) rfl) ?_)))))))
 refine Zc (Zb ?_)
 rcases Zt hp with ⟨b'1,hp⟩ | ⟨b'1,hp⟩
 ·refine zB (t:=(!x)) rfl b'1 ?_
  refine Zi (Zl (Zd (.n 0) rfl (Zc (Zb (zL (zh (zf (zl (n:=4) (v:=.n 0) rfl ZD) ?_)))))))
  cases hp
  exact ⟨rfl,(hO'1.pick [] rfl (by decide))⟩
 ·refine zz (t:=(!x)) rfl b'1 ?_
  refine zC (Zb (Zi (Zl (Zd (.n times) rfl (Zg (Zd6 (a:=times) (b:=4) rfl rfl (by decide)) (Zd (.n (times.tmod 4)) rfl (Zc ?_)))))))
  refine Zb (Zi (Zi (Zl (Zd (.n (times.tmod 4)) rfl (Zg (zO (a:=(times.tmod 4)) (b:=0) rfl rfl) (Zc (Zb ?_)))))))
  rcases Zt hp with ⟨b'2,hp⟩ | ⟨b'2,hp⟩
  ·refine zB (t:=(decide ((times.tmod 4) < 0))) rfl b'2 ?_
   refine Zl (Zd (.n (times.tmod 4)) rfl ?_)
   obtain ⟨c'1,hp⟩:=Zn hp
   refine Zg (zD (a:=(times.tmod 4)) (b:=4) rfl rfl c'1) (Zd (.n ((times.tmod 4) + 4)) rfl (Zc (Zb (Zi (Zl (Zd (.n d) rfl (Zd (.n ((times.tmod 4) + 4)) rfl ?_)))))))
   obtain ⟨c'2,hp⟩:=Zn hp
   refine Zg (zD (a:=d) (b:=((times.tmod 4) + 4)) rfl rfl c'2) (Zg (Zd6 (a:=(d + ((times.tmod 4) + 4))) (b:=4) rfl rfl (by decide)) (Zd (.n ((d + ((times.tmod 4) + 4)).tmod 4)) rfl (Zc (Zb (zL (zf (zl (n:=4) (v:=.n ((d + ((times.tmod 4) + 4)).tmod 4)) rfl ZD) ?_))))))
   cases hp
   exact ⟨rfl,(hO'1.pick [] rfl (by decide))⟩
  ·refine zz (t:=(decide ((times.tmod 4) < 0))) rfl b'2 ?_
   refine zC (Zb (Zi (Zl (Zd (.n d) rfl (Zd (.n (times.tmod 4)) rfl ?_)))))
   obtain ⟨c'3,hp⟩:=Zn hp
   refine Zg (zD (a:=d) (b:=(times.tmod 4)) rfl rfl c'3) (Zg (Zd6 (a:=(d + (times.tmod 4))) (b:=4) rfl rfl (by decide)) (Zd (.n ((d + (times.tmod 4)).tmod 4)) rfl (Zc (Zb (zL (zf (zl (n:=4) (v:=.n ((d + (times.tmod 4)).tmod 4)) rfl ZD) ?_))))))
   cases hp
   exact ⟨rfl,(hO'1.pick [] rfl (by decide))⟩

theorem Zb5.ok {h:Hp} {d:Int} {e_:Int}   {r:Int} (hp:Zb5 d e_ = some r) :
  ∃ u k',Is G 207 [.n d,.n e_] h u k'∧V.n r = u∧Own (fun r=>r < h.n) h k' []:=by
 refine WC.is (Za7 ZdL ?_)
 unfold Zb5 at hp
 let B:Nat→Prop:=(fun r=>r < h.n)
 have hO:Own B h h []:=Own.start0 h
 refine Zi (Zl (Zd (.n 0) rfl (Zc (Zb (Zi (Zl (Zd (.n d) rfl ?_)))))))
 obtain ⟨x,hx'1,hp⟩:=Zq hp
 obtain ⟨u'1,k'1,ca'1,rfl,hW'1⟩:=Zba.ok (h:=h)   hx'1
 refine Zai (id:=223) (caps:=[]) rfl (Zp (v:=.n d) rfl ZK) ca'1 ?_
 have hO'1:=hO.call hW'1 rfl
 refine Zd (.b x) rfl (Zc (Zb (Zi (Zl (Zd (.n e_) rfl ?_)))))
 obtain ⟨x1,hx'2,hp⟩:=Zq hp
 obtain ⟨u'2,k'2,ca'2,rfl,hW'2⟩:=Zba.ok (h:=k'1)   hx'2
 refine Zai (id:=223) (caps:=[]) rfl (Zp (v:=.n e_) rfl ZK) ca'2 ?_
 have hO'2:=hO'1.call hW'2 rfl
 refine Zd (.b x1) rfl (Zc (Zb (Zi (Zi (Zl (Zd (.b x) rfl (Zg (Zcp (t:=x) rfl) ?_)))))))
 refine Zd (.b (!x)) rfl ?_
 refine Zaa 3 (fun fr' k'=>k'2 = k'∧fr' 17 = .b ((!x) || (!x1))∧fr' 0 = .n d∧fr' 1 = .n e_) ?_ ?_
 ·rcases bc (!x) with b'1 | b'1
  ·skip
   refine Zw rfl b'1 (Zw rfl b'1 (Zg (za (t:=(!x)) (v:=.b ((!x) || (!x1))) rfl b'1 (Eq.trans (b:=V.b true) rfl (Zbs b'1))) (Zc ?_)))
   exact ⟨rfl,rfl,rfl,rfl⟩
  ·skip
   refine Z7 rfl b'1 (Zd (.b x1) rfl (Z7 rfl b'1 (Zg (Zcp (t:=x1) rfl) (Zg (ZU (t:=(!x)) (v:=.b ((!x) || (!x1))) rfl b'1 (Eq.trans (b:=V.b (!x1)) rfl (Zcc b'1))) (Zc ?_)))))
   exact ⟨rfl,rfl,rfl,rfl⟩
 rintro frg'1 _ ⟨rfl,g'1_17,g'1_0,g'1_1⟩
 refine Zd (.b ((!x) || (!x1))) g'1_17 ?_
 refine Zaa 4 (fun fr' k'=>k'2 = k'∧fr' 22 = .b (((!x) || (!x1)) || (decide (d = e_)))∧fr' 0 = .n d∧fr' 1 = .n e_) ?_ ?_
 ·rcases bc ((!x) || (!x1)) with b'2 | b'2
  ·skip
   refine Zw rfl b'2 (Zw rfl b'2 (Zw rfl b'2 (Zg (za (t:=((!x) || (!x1))) (v:=.b (((!x) || (!x1)) || (decide (d = e_)))) rfl b'2 (Eq.trans (b:=V.b true) rfl (Zbs b'2))) (Zc ?_))))
   exact ⟨rfl,rfl,g'1_0,g'1_1⟩
  ·skip
   refine Z7 rfl b'2 (Zd (.n d) g'1_0 (Z7 rfl b'2 (Zd (.n e_) g'1_1 (Z7 rfl b'2 (Zg (ZbE (a:=d) (b:=e_) rfl rfl) (Zg (ZU (t:=((!x) || (!x1))) (v:=.b (((!x) || (!x1)) || (decide (d = e_)))) rfl b'2 (Eq.trans (b:=V.b (decide (d = e_))) rfl (Zcc b'2))) (Zc ?_)))))))
   exact ⟨rfl,rfl,g'1_0,g'1_1⟩
 rintro frg'2 _ ⟨rfl,g'2_22,g'2_0,g'2_1⟩
 refine Zc (Zb ?_)
 rcases Zt hp with ⟨b'3,hp⟩ | ⟨b'3,hp⟩
 ·refine zB (t:=(((!x) || (!x1)) || (decide (d = e_)))) g'2_22 b'3 ?_
  refine Zi (Zl (Zd (.n 0) rfl (Zc (Zb (zL (zh (zf (zl (n:=4) (v:=.n 0) rfl ZD) ?_)))))))
  cases hp
  exact ⟨rfl,(hO'2.pick [] rfl (by decide))⟩
 ·refine zz (t:=(((!x) || (!x1)) || (decide (d = e_)))) g'2_22 b'3 ?_
  refine zC (Zb (Zi (Zl (Zd (.n d) g'2_0 ?_))))
  obtain ⟨x2,hx'3,hp⟩:=Zq hp
  obtain ⟨u'3,k'3,ca'3,rfl,hW'3⟩:=Zb4.ok (h:=k'2)   hx'3
  refine Zai (id:=224) (caps:=[]) rfl (Zp (v:=.n d) rfl (Zp (v:=.n 1) rfl ZK)) ca'3 ?_
  have hO'3:=hO'2.call hW'3 rfl
  refine Zd (.n x2) rfl (Zc (Zb (Zi (Zi (Zl (Zd (.n x2) rfl (Zd (.n e_) g'2_1 ?_)))))))
  refine Zg (ZbE (a:=x2) (b:=e_) rfl rfl) (Zc (Zb ?_))
  rcases Zt hp with ⟨b'4,hp⟩ | ⟨b'4,hp⟩
  ·refine zB (t:=(decide (x2 = e_))) rfl b'4 ?_
   refine Zi (Zl (Zd (.n 1) rfl (Zc (Zb (zL (zh (zf (zl (n:=4) (v:=.n 1) rfl ZD) ?_)))))))
   cases hp
   exact ⟨rfl,(hO'3.pick [] rfl (by decide))⟩
  ·refine zz (t:=(decide (x2 = e_))) rfl b'4 ?_
   refine zC (Zb (Zi (Zl (Zd (.n d) g'2_0 ?_))))
   obtain ⟨x3,hx'4,hp⟩:=Zq hp
   obtain ⟨u'4,k'4,ca'4,rfl,hW'4⟩:=Zb4.ok (h:=k'3)   hx'4
   refine Zai (id:=224) (caps:=[]) rfl (Zp (v:=.n d) rfl (Zp (v:=.n 3) rfl ZK)) ca'4 ?_
   have hO'4:=hO'3.call hW'4 rfl
   refine Zd (.n x3) rfl (Zc (Zb (Zi (Zi (Zl (Zd (.n x3) rfl (Zd (.n e_) g'2_1 ?_)))))))
   refine Zg (ZbE (a:=x3) (b:=e_) rfl rfl) (Zc (Zb ?_))
   rcases Zt hp with ⟨b'5,hp⟩ | ⟨b'5,hp⟩
   ·refine zB (t:=(decide (x3 = e_))) rfl b'5 ?_
    refine Zi (Zl (Zd (.n (-1)) rfl (Zc (Zb (zL (zh (zf (zl (n:=4) (v:=.n (-1)) rfl ZD) ?_)))))))
    cases hp
    exact ⟨rfl,(hO'4.pick [] rfl (by decide))⟩
   ·refine zz (t:=(decide (x3 = e_))) rfl b'5 ?_
    refine zC (Zb (Zi (Zl (Zd (.n (-2)) rfl (Zc (Zb (zL ?_)))))))
    refine zf (zl (n:=4) (v:=.n (-2)) rfl ZD) ?_
    cases hp
    exact ⟨rfl,(hO'4.pick [] rfl (by decide))⟩

theorem Zas.ok {h:Hp} {l:List Za} {f:List Zu} {v_l:V} {v_f:V} (s_l:Sl Ze h v_l l) (s_f:Sl Zm h v_f f) {r:(List Int)} (hp:Zas l f = some r) :
  ∃ u k',Is G 182 [v_l,v_f] h u k'∧∃ (v'1:V),v'1 = u∧Own (fun r=>r < h.n) h k' [eSl Zao v'1 r]:=by
 refine WC.is (Za7 Zd2 ?_)
 unfold Zas at hp
 let B:Nat→Prop:=(fun r=>r < h.n)
 have hO:Own B h h []:=Own.start0 h
 refine Zi (Zl (Zd (.sn) rfl (Zc (Zb (Zi (Zl (Zd (.sn) rfl ?_)))))))
 refine Zc (Zb (Zi (Zi (Zl (Zd (.n 0) rfl (Zc (Zb ?_)))))))
 refine Zay ?_
 obtain ⟨o'1,ho'1,hp⟩:=Zq hp
 refine W.mono (Q:=fun e fr k=>match (generalizing:=false) o'1 with
   | out1=>e = (.exit 0)∧∃ (v'3:V),fr 5 = v'3∧Own B h k [eSl Zao v'3 out1]) ?_ ?_
 ·clear hp
  have hO'2:=hO.nil Zao
  refine zU (fun st fr k=>match st with | (out,i)=>∃ (v'2:V),fr 0 = v_l∧fr 1 = v_f∧fr 5 = v'2∧fr 6 = .n i∧Own B h k [eSl Zao v'2 out]) ho'1 (s:=(([]:List Int),0)) ⟨V.sn,rfl,rfl,rfl,rfl,(hO'2.pick [0] rfl (by decide))⟩ ?_
  rintro ⟨out,i⟩ q'2 k'2 ⟨v'2,q'2_0,q'2_1,q'2_5,q'2_6,hO'3⟩ o'2 hp
  dsimp only [Zas.s0] at hp
  refine Zi (Zi (Zl (Zd (.n i) q'2_6 (Zd v_f q'2_1 (Zg (ZaC (hO'3.rd0 s_f.rd) rfl) (Zg (zO (a:=i) (b:=(f.length:Int)) rfl rfl) (Zc ?_)))))))
  refine Zb ?_
  rcases Zt hp with ⟨b'1,hp⟩ | ⟨b'1,hp⟩
  ·refine zB (t:=(decide (i < (f.length:Int)))) rfl b'1 ?_
   refine zC (Zb (Zi (Zay (Zi (Zl (Zd v_l q'2_0 (Zd v_f q'2_1 ?_)))))))
   refine Zd (.n i) q'2_6 ?_
   obtain ⟨c'1,hp⟩:=Zn hp
   refine Zg (zt (E:=Zm) (z:=i) (hO'3.rd0 s_f.rd) rfl rfl c'1) (Zg (ZfI (E:=Zm) (hO'3.rd0 s_f.rd) rfl (Zj c'1)) ?_)
   obtain ⟨x,hx'1,hp⟩:=Zq hp
   obtain ⟨u'1,k'3,ca'1,rfl,hW'1⟩:=zG.ok (h:=k'2)  (hO'3.rd0 s_l.rd) hx'1
   refine Zai (id:=202) (caps:=[]) rfl (Zp (v:=v_l) rfl (Zp (v:=.ag (Zm.c (gi f i.toNat))) rfl ZK)) ca'1 ?_
   have hO'4:=hO'3.call hW'1 rfl
   refine Za0 (hO'4.alloc (cs:=Zm.c (⟨0,0⟩:Zu)) hO'4.fr) ?_
   rintro _ k'4 ⟨r'1,rfl,n'1,f'1,hW⟩
   have hO'5:=hW
   refine Za0 (hO'5.stb (ws:=Zm.c x) (cs':=Zm.c x) (v:=.ag (Zm.c x)) 1 rfl rfl rfl rfl ⟨rfl,Nat.le_of_ble_eq_true rfl,rfl⟩ rfl) ?_
   rintro _ k'5 ⟨rfl,f'2,m'1,hW⟩
   have hO'6:=hW
   refine Zc (Zb (Zi (Zh8 ?_)))
   have hW:=hO'6.bump 9
   have fr'1:=Fresh.start k'5 9
   have nb'1:∀ {i:Nat},h.n≤k'5.n + i:=Nat.le_trans hO'6.n (Nat.le_add_right _ _)
   have hO'7:=hW
   refine ZbD v_f q'2_1 (ZbD (.n i) q'2_6 (Zar (zt (E:=Zm) (z:=i) (hO'7.rd0 s_f.rd) rfl rfl c'1) (Zar (ZaO (off':=0) (off2:=1) (hO'7.rd0 s_f.rd) (Zj c'1) rfl rfl) (Zar (zX (w:=.n ((gi f i.toNat).Dir)) (hO'7.rd0 s_f.rd) rfl (Zj c'1) rfl) (Zar (Zbv (r:=r'1) (o:=0) (o':=1) rfl rfl) (Zar (ZaK (cs:=(Zm.c x)) (v:=.n x.Dir) (hO'7.box 1 rfl) rfl rfl) ?_))))))
   obtain ⟨x1,hx'2,hp⟩:=Zq hp
   obtain ⟨u'2,k'7,ca'2,rfl,hW'2⟩:=Zb5.ok (h:=(k'5.bump 9))   hx'2
   refine Zkx (id:=207) (caps:=[]) rfl (Zp (v:=.n ((gi f i.toNat).Dir)) rfl (Zp (v:=.n x.Dir) rfl ZK)) ca'2 ?_
   have fr'2:=fr'1.call hW'2
   have hO'8:=hO'7.call hW'2 rfl
   refine ZbD (.n x1) rfl (Zdn ?_)
   refine And.intro ?_ ?_
   ·intro q hq
    simp only [List.mem_cons,List.not_mem_nil,or_false] at hq
    rcases hq with rfl
    ·refine Zct ?_ ?_
     ·exact (fun h=>nomatch h)
     ·exact (fun h=>nomatch h)
   refine Zb (Zl (Zd v'2 q'2_5 (Zd (.n x1) rfl (Za0 (hO'8.bsl (E:=Zao) (l:=[x1]) hO'8.fr (by rw [(Zae (v:=.n x1) rfl Zb3)]; rfl) rfl) ?_))))
   rintro v'4 k'8 ⟨r'2,f'3,hW⟩
   have hO'9:=hW
   obtain ⟨c'2,hp⟩:=Zn hp
   refine Za0 (hO'9.app (E:=Zao) (bytes:=8) 0 hO'9.fr rfl (hO'9.sl 2 rfl) rfl rfl (fun _=>rfl) c'2 (by decide)) ?_
   rintro v'5 k'9 ⟨f'4,hW⟩
   have hO'10:=hW
   refine Zd v'5 rfl (Zc (Zax (Zb (Zl (Zd (.n i) q'2_6 ?_)))))
   obtain ⟨c'3,hp⟩:=Zn hp
   refine Zg (zD (a:=i) (b:=1) rfl rfl c'3) (Zd (.n (i + 1)) rfl (Zc ?_))
   cases hp
   exact (Or.inl ⟨(out++[x1],i + 1),rfl,rfl,v'5,q'2_0,q'2_1,rfl,rfl,(hO'10.pick [0] rfl (by decide))⟩)
  ·refine zz (t:=(decide (i < (f.length:Int)))) rfl b'1 ?_
   refine ZbM (Zak ?_)
   cases hp
   refine (Or.inr ⟨out,rfl,(fun h=>nomatch h),(fun he=>?_)⟩)
   subst he; exact ⟨rfl,v'2,q'2_5,(hO'3.pick [0] rfl (by decide))⟩
 intro e'1 q'1 k'1 hJ'1
 obtain ⟨out1,rfl⟩:∃ x,x = o'1:=⟨_,rfl⟩
 obtain ⟨rfl,v'3,q'1_5,hO'1⟩:=hJ'1
 refine ZaN (Zb (Zi (Zl (Zd v'3 q'1_5 (Zd v'3 rfl (Zc (Zb ?_)))))))
 refine zL (zf (zl (n:=4) (v:=v'3) rfl ZD) ?_)
 cases hp
 exact ⟨v'3,rfl,(hO'1.pick [0] rfl (by decide))⟩

theorem zQ.ok {h:Hp} {t:List Int} {v_t:V} (s_t:Sl Zao h v_t t) {r:Int} (hp:zQ t = some r) :
  ∃ u k',Is G 206 [v_t] h u k'∧V.n r = u∧Own (fun r=>r < h.n) h k' []:=by
 refine WC.is (Za7 ZcT ?_)
 unfold zQ at hp
 let B:Nat→Prop:=(fun r=>r < h.n)
 have hO:Own B h h []:=Own.start0 h
 refine Zi (Zl (Zd (.n 0) rfl (Zc (Zb (Zi (Zl (Zd (.n 0) rfl ?_)))))))
 refine Zc (Zb (Zi (Zi (Zl (Zd (.n 0) rfl (Zc (Zb ?_)))))))
 refine Zay ?_
 obtain ⟨o'1,ho'1,hp⟩:=Zq hp
 refine W.mono (Q:=fun e fr k=>match (generalizing:=false) o'1 with
   | n1=>e = (.exit 0)∧fr 3 = .n n1∧Own B h k []) ?_ ?_
 ·clear hp
  refine zU (fun st fr k=>match st with | (n,i)=>fr 0 = v_t∧fr 3 = .n n∧fr 4 = .n i∧Own B h k []) ho'1 (s:=(0,0)) ⟨rfl,rfl,rfl,(hO.pick [] rfl (by decide))⟩ ?_
  rintro ⟨n,i⟩ q'2 k'2 ⟨q'2_0,q'2_3,q'2_4,hO'2⟩ o'2 hp
  dsimp only [zQ.s0] at hp
  refine Zi (Zi (Zl (Zd (.n i) q'2_4 (Zd v_t q'2_0 (Zg (ZaC (hO'2.rd0 s_t.rd) rfl) (Zg (zO (a:=i) (b:=(t.length:Int)) rfl rfl) (Zc ?_)))))))
  refine Zb ?_
  rcases Zt hp with ⟨b'1,hp⟩ | ⟨b'1,hp⟩
  ·refine zB (t:=(decide (i < (t.length:Int)))) rfl b'1 ?_
   refine zC (Zb (Zi (Zay (Zi (Zl (Zd v_t q'2_0 (Zd (.n i) q'2_4 ?_)))))))
   obtain ⟨c'1,hp⟩:=Zn hp
   refine Zg (zt (E:=Zao) (z:=i) (hO'2.rd0 s_t.rd) rfl rfl c'1) (Zg (zX (w:=.n (gi t i.toNat)) (hO'2.rd0 s_t.rd) rfl (Zj c'1) rfl) (Zg (ZcA (a:=(gi t i.toNat)) (b:=(-2)) rfl rfl) (Zd (.b (decide ((-2)≤(gi t i.toNat)))) rfl ?_)))
   refine Zaa 6 (fun fr' k'=>k'2 = k'∧fr' 22 = .b ((decide ((-2)≤(gi t i.toNat))) && (decide ((gi t i.toNat)≤1)))∧fr' 0 = v_t∧fr' 3 = .n n∧fr' 4 = .n i) ?_ ?_
   ·rcases bc (decide ((-2)≤(gi t i.toNat))) with b'2 | b'2
    ·skip
     refine Z7 rfl b'2 (Zd v_t q'2_0 (Z7 rfl b'2 (Zd (.n i) q'2_4 (Z7 rfl b'2 (Zg (zt (E:=Zao) (z:=i) (hO'2.rd0 s_t.rd) rfl rfl c'1) (Z7 rfl b'2 (Zg (zX (w:=.n (gi t i.toNat)) (hO'2.rd0 s_t.rd) rfl (Zj c'1) rfl) ?_)))))))
     refine Z7 rfl b'2 (Zg (ZjW (a:=(gi t i.toNat)) (b:=1) rfl rfl) (Zg (za (t:=(decide ((-2)≤(gi t i.toNat)))) (v:=.b ((decide ((-2)≤(gi t i.toNat))) && (decide ((gi t i.toNat)≤1)))) rfl b'2 (Eq.trans (b:=V.b (decide ((gi t i.toNat)≤1))) rfl (Zcs b'2))) (Zc ?_)))
     exact ⟨rfl,rfl,q'2_0,q'2_3,q'2_4⟩
    ·skip
     refine Zw rfl b'2 (Zw rfl b'2 (Zw rfl b'2 (Zw rfl b'2 (Zw rfl b'2 (Zg (ZU (t:=(decide ((-2)≤(gi t i.toNat)))) (v:=.b ((decide ((-2)≤(gi t i.toNat))) && (decide ((gi t i.toNat)≤1)))) rfl b'2 (Eq.trans (b:=V.b false) rfl (ZbW b'2))) (Zc ?_))))))
     exact ⟨rfl,rfl,q'2_0,q'2_3,q'2_4⟩
   rintro frg'1 _ ⟨rfl,g'1_22,g'1_0,g'1_3,g'1_4⟩
   refine Zc (Zb ?_)
   rcases Zt hp with ⟨b'3,hp⟩ | ⟨b'3,hp⟩
   ·refine zB (t:=((decide ((-2)≤(gi t i.toNat))) && (decide ((gi t i.toNat)≤1)))) g'1_22 b'3 ?_
    refine Zl (Zd (.n n) g'1_3 (Zd v_t g'1_0 (Zd (.n i) g'1_4 (Zg (zt (E:=Zao) (z:=i) (hO'2.rd0 s_t.rd) rfl rfl c'1) (Zg (zX (w:=.n (gi t i.toNat)) (hO'2.rd0 s_t.rd) rfl (Zj c'1) rfl) ?_)))))
    obtain ⟨c'2,hp⟩:=Zn hp
    refine Zg (zD (a:=n) (b:=(gi t i.toNat)) rfl rfl c'2) (Zd (.n (n + (gi t i.toNat))) rfl (Zc (Zax (Zb (Zl (Zd (.n i) g'1_4 ?_))))))
    obtain ⟨c'3,hp⟩:=Zn hp
    refine Zg (zD (a:=i) (b:=1) rfl rfl c'3) (Zd (.n (i + 1)) rfl (Zc ?_))
    cases hp
    exact (Or.inl ⟨(n + (gi t i.toNat),i + 1),rfl,rfl,g'1_0,rfl,rfl,(hO'2.pick [] rfl (by decide))⟩)
   ·refine zz (t:=((decide ((-2)≤(gi t i.toNat))) && (decide ((gi t i.toNat)≤1)))) g'1_22 b'3 ?_
    refine zC (Zax (Zb (Zl (Zd (.n i) g'1_4 ?_))))
    obtain ⟨c'4,hp⟩:=Zn hp
    refine Zg (zD (a:=i) (b:=1) rfl rfl c'4) (Zd (.n (i + 1)) rfl (Zc ?_))
    cases hp
    exact (Or.inl ⟨(n,i + 1),rfl,rfl,g'1_0,g'1_3,rfl,(hO'2.pick [] rfl (by decide))⟩)
  ·refine zz (t:=(decide (i < (t.length:Int)))) rfl b'1 ?_
   refine ZbM (Zak ?_)
   cases hp
   refine (Or.inr ⟨n,rfl,(fun h=>nomatch h),(fun he=>?_)⟩)
   subst he; exact ⟨rfl,q'2_3,(hO'2.pick [] rfl (by decide))⟩
 intro e'1 q'1 k'1 hJ'1
 obtain ⟨n1,rfl⟩:∃ x,x = o'1:=⟨_,rfl⟩
 obtain ⟨rfl,q'1_3,hO'1⟩:=hJ'1
 refine ZaN (Zb (Zi (Zl (Zd (.n n1) q'1_3 (Zd (.n n1) rfl (Zc (Zb ?_)))))))
 refine zL (zf (zl (n:=2) (v:=.n n1) rfl ZD) ?_)
 cases hp
 exact ⟨rfl,(hO'1.pick [] rfl (by decide))⟩

theorem Zag.ok {h:Hp} {l:List Za} {v_l:V} (s_l:Sl Ze h v_l l) {r:Int × Int} (hp:Zag l = some r) :
  ∃ u k',Is G 181 [v_l] h u k'∧V.tu [.n r.1,.n r.2] = u∧Own (fun r=>r < h.n) h k' []:=by
 refine WC.is (Za7 Zd4 ?_)
 unfold Zag at hp
 let B:Nat→Prop:=(fun r=>r < h.n)
 have hO:Own B h h []:=Own.start0 h
 refine Zi (Zl (Zd (.n 0) rfl (Zd (.n 0) rfl (Zc (Zb (Zi (Zl ?_)))))))
 refine Zd v_l rfl ?_
 obtain ⟨x,hx'1,hp⟩:=Zq hp
 obtain ⟨u'1,k'1,ca'1,rfl,hW'1⟩:=zk.ok (h:=h)  (hO.rd0 s_l.rd) hx'1
 refine Zai (id:=34) (caps:=[]) rfl (Zp (v:=v_l) rfl ZK) ca'1 ?_
 have hO'1:=hO.call hW'1 rfl
 refine Zd (.n x) rfl (Zc (Zb (Zi (Zi (Zl (Zd (.n x) rfl (Zg (ZbK (a:=x) (b:=0) rfl rfl) ?_)))))))
 refine Zc (Zb ?_)
 rcases Zt hp with ⟨b'1,hp⟩ | ⟨b'1,hp⟩
 ·refine zB (t:=(!(decide (x = 0)))) rfl b'1 ?_
  refine Zi (Zl (Zd (.n x) rfl (Zd (.n (-1)) rfl (Zd (.n x) rfl (Zc (Zb (zL ?_)))))))
  refine zh (zf (zl (n:=2) (v:=.n (-1)) rfl (zl (n:=3) (v:=.n x) rfl ZD)) ?_)
  cases hp
  exact ⟨rfl,(hO'1.pick [] rfl (by decide))⟩
 ·refine zz (t:=(!(decide (x = 0)))) rfl b'1 ?_
  refine zC (Zb (Zi (Zl (Zd v_l rfl ?_))))
  obtain ⟨x1,hx'2,hp⟩:=Zq hp
  obtain ⟨u'2,k'2,ca'2,v'1,vs'1,rfl,hW'2⟩:=zo.ok (h:=k'1)  (hO'1.rd0 s_l.rd) hx'2
  refine Zai (id:=30) (caps:=[]) rfl (Zp (v:=v_l) rfl ZK) ca'2 ?_
  have hO'2:=hO'1.call hW'2 rfl
  refine Zd v'1 rfl (Zc (Zb (Zi (Zi (Zl (Zd v'1 rfl (Zg (Zgw (n:=(x1).length) (hO'2.sl 0 rfl) (hO'2.allLen 1 rfl:(vs'1).length = (x1).length) rfl) ?_)))))))
  refine Zg (ZbK (a:=(x1.length:Int)) (b:=1) rfl rfl) (Zc (Zb ?_))
  rcases Zt hp with ⟨b'2,hp⟩ | ⟨b'2,hp⟩
  ·refine zB (t:=(!(decide ((x1.length:Int) = 1)))) rfl b'2 ?_
   refine Zi (Zl (Zd (.n (-1)) rfl (Zd (.n 13) rfl (Zc (Zb (zL (zh ?_)))))))
   refine zf (zl (n:=2) (v:=.n (-1)) rfl (zl (n:=3) (v:=.n 13) rfl ZD)) ?_
   cases hp
   exact ⟨rfl,(hO'2.pick [] rfl (by decide))⟩
  ·refine zz (t:=(!(decide ((x1.length:Int) = 1)))) rfl b'2 ?_
   refine zC (Zb (Zi (Zi (Zl (Zd v_l rfl (Zg (ZaC (hO'2.rd0 s_l.rd) rfl) (Zg (ZbE (a:=(l.length:Int)) (b:=1) rfl rfl) ?_)))))))
   refine Zc (Zb ?_)
   rcases Zt hp with ⟨b'3,hp⟩ | ⟨b'3,hp⟩
   ·refine zB (t:=(decide ((l.length:Int) = 1))) rfl b'3 ?_
    refine Zi (Zl (Zd (.n (-1)) rfl (Zd (.n 0) rfl (Zc (Zb (zL (zh ?_)))))))
    refine zf (zl (n:=2) (v:=.n (-1)) rfl (zl (n:=3) (v:=.n 0) rfl ZD)) ?_
    cases hp
    exact ⟨rfl,(hO'2.pick [] rfl (by decide))⟩
   ·refine zz (t:=(decide ((l.length:Int) = 1))) rfl b'3 ?_
    refine zC (Zb (Zi (Zl (Zd v_l rfl ?_))))
    obtain ⟨x2,hx'3,hp⟩:=Zq hp
    obtain ⟨u'3,k'3,ca'3,v'2,vs'2,rfl,hW'3⟩:=ZV.ok (h:=k'2)  (hO'2.rd0 s_l.rd) hx'3
    refine Zai (id:=177) (caps:=[]) rfl (Zp (v:=v_l) rfl ZK) ca'3 ?_
    have hO'3:=hO'2.call hW'3 rfl
    refine Zd v'2 rfl (Zc (Zb (Zi (Zl (Zd (.n (-1)) rfl (Zc (Zb ?_)))))))
    refine Zi (Zi (Zl (Zd (.n 0) rfl (Zc (Zb (Zay ?_))))))
    obtain ⟨o'1,ho'1,hp⟩:=Zq hp
    refine W.mono (Q:=fun e fr k=>match (generalizing:=false) o'1 with
      | .inl at_1=>e = (.exit 0)∧fr 7 = .n at_1∧Own B h k []
      | .inr _=>e = .ret∧fr 2 = .n (-1)∧fr 3 = .n 10∧Own B h k []) ?_ ?_
    ·clear hp
     refine zU (fun st fr k=>match st with | (at_,i)=>fr 0 = v_l∧fr 6 = v'2∧fr 7 = .n at_∧fr 8 = .n i∧Own B h k [eSl eV v'2 vs'2,Zc7 Zm vs'2 x2]) ho'1 (s:=((-1),0)) ⟨rfl,rfl,rfl,rfl,(hO'3.pick [2,3] rfl (by decide))⟩ ?_
     rintro ⟨at_,i⟩ q'2 k'5 ⟨q'2_0,q'2_6,q'2_7,q'2_8,hO'5⟩ o'2 hp
     dsimp only [Zag.s0] at hp
     refine Zi (Zi (Zl (Zd (.n i) q'2_8 (Zd v'2 q'2_6 (Zg (Zgw (n:=(x2).length) (hO'5.sl 0 rfl) (hO'5.allLen 1 rfl:(vs'2).length = (x2).length) rfl) (Zg (zO (a:=i) (b:=(x2.length:Int)) rfl rfl) (Zc ?_)))))))
     refine Zb ?_
     rcases Zt hp with ⟨b'4,hp⟩ | ⟨b'4,hp⟩
     ·refine zB (t:=(decide (i < (x2.length:Int)))) rfl b'4 ?_
      refine zC (Zb (Zi (Zay (Zi (Zl (Zd v_l q'2_0 (Zd v'2 q'2_6 ?_)))))))
      refine Zd (.n i) q'2_8 ?_
      obtain ⟨c'1,hp⟩:=Zn hp
      refine Zg (zt (E:=eV) (z:=i) (hO'5.sl 0 rfl) rfl rfl (by rw [(hO'5.allLen 1 rfl:(vs'2).length = (x2).length)]; exact c'1)) (Zg (zX (w:=(gi vs'2 i.toNat)) (hO'5.sl 0 rfl) rfl (by rw [(hO'5.allLen 1 rfl:(vs'2).length = (x2).length)]; exact Zj c'1) rfl) ?_)
      obtain ⟨x3,hx'4,hp⟩:=Zq hp
      obtain ⟨u'4,k'6,ca'4,v'3,rfl,hW'4⟩:=Zas.ok (h:=k'5)  (hO'5.rd0 s_l.rd) (hO'5.inn 1 rfl (Zj c'1):Sl Zm k'5 (gi vs'2 i.toNat) (gi x2 i.toNat)) hx'4
      refine Zai (id:=182) (caps:=[]) rfl (Zp (v:=v_l) rfl (Zp (v:=(gi vs'2 i.toNat)) rfl ZK)) ca'4 ?_
      have hO'6:=hO'5.call hW'4 rfl
      refine Zd v'3 rfl (Zc (Zb (Zi (Zl (Zd v'3 rfl ?_)))))
      obtain ⟨x4,hx'5,hp⟩:=Zq hp
      obtain ⟨u'5,k'7,ca'5,rfl,hW'5⟩:=zQ.ok (h:=k'6)  (hO'6.sl 2 rfl) hx'5
      refine Zai (id:=206) (caps:=[]) rfl (Zp (v:=v'3) rfl ZK) ca'5 ?_
      have hO'7:=hO'6.call hW'5 rfl
      refine Zd (.n x4) rfl (Zc (Zb (Zi (Zi (Zl (Zd (.n x4) rfl (Zg (ZbK (a:=x4) (b:=4) rfl rfl) ?_)))))))
      refine Zd (.b (!(decide (x4 = 4)))) rfl ?_
      refine Zaa 3 (fun fr' k'=>k'7 = k'∧fr' 45 = .b ((!(decide (x4 = 4))) && (!(decide (x4 = (-4)))))∧fr' 0 = v_l∧fr' 10 = .n x4∧fr' 6 = v'2∧fr' 7 = .n at_∧fr' 8 = .n i) ?_ ?_
      ·rcases bc (!(decide (x4 = 4))) with b'5 | b'5
       ·skip
        refine Z7 rfl b'5 (Zd (.n x4) rfl (Z7 rfl b'5 (Zg (ZbK (a:=x4) (b:=(-4)) rfl rfl) (Zg (za (t:=(!(decide (x4 = 4)))) (v:=.b ((!(decide (x4 = 4))) && (!(decide (x4 = (-4)))))) rfl b'5 (Eq.trans (b:=V.b (!(decide (x4 = (-4))))) rfl (Zcs b'5))) (Zc ?_)))))
        exact ⟨rfl,rfl,q'2_0,rfl,q'2_6,q'2_7,q'2_8⟩
       ·skip
        refine Zw rfl b'5 (Zw rfl b'5 (Zg (ZU (t:=(!(decide (x4 = 4)))) (v:=.b ((!(decide (x4 = 4))) && (!(decide (x4 = (-4)))))) rfl b'5 (Eq.trans (b:=V.b false) rfl (ZbW b'5))) (Zc ?_)))
        exact ⟨rfl,rfl,q'2_0,rfl,q'2_6,q'2_7,q'2_8⟩
      rintro frg'1 _ ⟨rfl,g'1_45,g'1_0,g'1_10,g'1_6,g'1_7,g'1_8⟩
      refine Zd (.b ((!(decide (x4 = 4))) && (!(decide (x4 = (-4)))))) g'1_45 ?_
      refine Zaa 7 (fun fr' k'=>k'7 = k'∧fr' 53 = .b (((!(decide (x4 = 4))) && (!(decide (x4 = (-4))))) || ((decide (x4 = (-4))) && (decide (0≤at_))))∧fr' 0 = v_l∧fr' 10 = .n x4∧fr' 6 = v'2∧fr' 7 = .n at_∧fr' 8 = .n i) ?_ ?_
      ·rcases bc ((!(decide (x4 = 4))) && (!(decide (x4 = (-4))))) with b'6 | b'6
       ·skip
        refine Zw rfl b'6 (Zw rfl b'6 (Zw rfl b'6 (Znj rfl (Znj rfl (Zw rfl b'6 (Zg (za (t:=((!(decide (x4 = 4))) && (!(decide (x4 = (-4)))))) (v:=.b (((!(decide (x4 = 4))) && (!(decide (x4 = (-4))))) || ((decide (x4 = (-4))) && (decide (0≤at_))))) rfl b'6 (Eq.trans (b:=V.b true) rfl (Zbs b'6))) (Zc ?_)))))))
        exact ⟨rfl,rfl,g'1_0,g'1_10,g'1_6,g'1_7,g'1_8⟩
       ·skip
        refine Z7 rfl b'6 (Zd (.n x4) g'1_10 (Z7 rfl b'6 (Zg (ZbE (a:=x4) (b:=(-4)) rfl rfl) (Z7 rfl b'6 (Zd (.b (decide (x4 = (-4)))) rfl ?_)))))
        refine Zaa 3 (fun fr' k'=>k'7 = k'∧fr' 52 = .b ((decide (x4 = (-4))) && (decide (0≤at_)))∧fr' 0 = v_l∧fr' 10 = .n x4∧fr' 46 = .b ((!(decide (x4 = 4))) && (!(decide (x4 = (-4)))))∧fr' 6 = v'2∧fr' 7 = .n at_∧fr' 8 = .n i) ?_ ?_
        ·rcases bc (decide (x4 = (-4))) with b'7 | b'7
         ·skip
          refine Z7 rfl b'7 (Zd (.n at_) g'1_7 (Z7 rfl b'7 (Zg (ZcA (a:=at_) (b:=0) rfl rfl) (Z7 rfl b'6 (Zg (za (t:=(decide (x4 = (-4)))) (v:=.b ((decide (x4 = (-4))) && (decide (0≤at_)))) rfl b'7 (Eq.trans (b:=V.b (decide (0≤at_))) rfl (Zcs b'7))) (Zc ?_))))))
          exact ⟨rfl,rfl,g'1_0,g'1_10,rfl,g'1_6,g'1_7,g'1_8⟩
         ·skip
          refine Zw rfl b'7 (Zw rfl b'7 (Z7 rfl b'6 (Zg (ZU (t:=(decide (x4 = (-4)))) (v:=.b ((decide (x4 = (-4))) && (decide (0≤at_)))) rfl b'7 (Eq.trans (b:=V.b false) rfl (ZbW b'7))) (Zc ?_))))
          exact ⟨rfl,rfl,g'1_0,g'1_10,rfl,g'1_6,g'1_7,g'1_8⟩
        rintro frg'2 _ ⟨rfl,g'2_52,g'2_0,g'2_10,g'2_46,g'2_6,g'2_7,g'2_8⟩
        refine Zg (ZU (t:=((!(decide (x4 = 4))) && (!(decide (x4 = (-4)))))) (v:=.b (((!(decide (x4 = 4))) && (!(decide (x4 = (-4))))) || ((decide (x4 = (-4))) && (decide (0≤at_))))) g'2_46 b'6 (Eq.trans (b:=V.b ((decide (x4 = (-4))) && (decide (0≤at_)))) g'2_52 (Zcc b'6))) (Zc ?_)
        exact ⟨rfl,rfl,g'2_0,g'2_10,g'2_6,g'2_7,g'2_8⟩
      rintro frg'3 _ ⟨rfl,g'3_53,g'3_0,g'3_10,g'3_6,g'3_7,g'3_8⟩
      refine Zc (Zb ?_)
      rcases Zt hp with ⟨b'8,hp⟩ | ⟨b'8,hp⟩
      ·refine zB (t:=(((!(decide (x4 = 4))) && (!(decide (x4 = (-4))))) || ((decide (x4 = (-4))) && (decide (0≤at_))))) g'3_53 b'8 ?_
       refine Zi (Zl (Zd (.n (-1)) rfl (Zd (.n 10) rfl (Zc (Zb (zL (zh ?_)))))))
       refine Zbd (zh ?_)
       cases hp
       refine (Or.inr ⟨.inr (),rfl,(fun h=>nomatch h),(fun he=>?_)⟩)
       subst he; exact ⟨rfl,rfl,rfl,(hO'7.pick [] rfl (by decide))⟩
      ·refine zz (t:=(((!(decide (x4 = 4))) && (!(decide (x4 = (-4))))) || ((decide (x4 = (-4))) && (decide (0≤at_))))) g'3_53 b'8 ?_
       refine zC (Zb (Zi (Zl (Zd (.n x4) g'3_10 (Zg (ZbE (a:=x4) (b:=(-4)) rfl rfl) (Zc (Zb ?_)))))))
       rcases Zt hp with ⟨b'9,hp⟩ | ⟨b'9,hp⟩
       ·refine zB (t:=(decide (x4 = (-4)))) rfl b'9 ?_
        refine Zl (Zd (.n i) g'3_8 (Zd (.n i) rfl (Zc (Zax (Zb (Zl (Zd (.n i) g'3_8 ?_)))))))
        obtain ⟨c'2,hp⟩:=Zn hp
        refine Zg (zD (a:=i) (b:=1) rfl rfl c'2) (Zd (.n (i + 1)) rfl (Zc ?_))
        cases hp
        exact (Or.inl ⟨(i,i + 1),rfl,rfl,g'3_0,g'3_6,rfl,rfl,(hO'7.pick [0,1] rfl (by decide))⟩)
       ·refine zz (t:=(decide (x4 = (-4)))) rfl b'9 ?_
        refine zC (Zax (Zb (Zl (Zd (.n i) g'3_8 ?_))))
        obtain ⟨c'3,hp⟩:=Zn hp
        refine Zg (zD (a:=i) (b:=1) rfl rfl c'3) (Zd (.n (i + 1)) rfl (Zc ?_))
        cases hp
        exact (Or.inl ⟨(at_,i + 1),rfl,rfl,g'3_0,g'3_6,g'3_7,rfl,(hO'7.pick [0,1] rfl (by decide))⟩)
     ·refine zz (t:=(decide (i < (x2.length:Int)))) rfl b'4 ?_
      refine ZbM (Zak ?_)
      cases hp
      refine (Or.inr ⟨.inl at_,rfl,(fun h=>nomatch h),(fun he=>?_)⟩)
      subst he; exact ⟨rfl,q'2_7,(hO'5.pick [] rfl (by decide))⟩
    intro e'1 q'1 k'4 hJ'1
    rcases o'1 with at_1 | _
    ·obtain ⟨rfl,q'1_7,hO'4⟩:=hJ'1
     refine ZaN (Zb (Zi (Zi (Zl (Zd (.n at_1) q'1_7 (Zg (zO (a:=at_1) (b:=0) rfl rfl) (Zc ?_)))))))
     refine Zb ?_
     rcases Zt hp with ⟨b'10,hp⟩ | ⟨b'10,hp⟩
     ·refine zB (t:=(decide (at_1 < 0))) rfl b'10 ?_
      refine Zi (Zl (Zd (.n (-1)) rfl (Zd (.n 10) rfl (Zc (Zb (zL (zh ?_)))))))
      refine zf (zl (n:=2) (v:=.n (-1)) rfl (zl (n:=3) (v:=.n 10) rfl ZD)) ?_
      cases hp
      exact ⟨rfl,(hO'4.pick [] rfl (by decide))⟩
     ·refine zz (t:=(decide (at_1 < 0))) rfl b'10 ?_
      refine zC (Zb (Zi (Zl (Zd (.n at_1) q'1_7 (Zd (.n at_1) rfl (Zd (.n 0) rfl (Zc ?_)))))))
      refine Zb (zL (zf (zl (n:=2) (v:=.n at_1) rfl (zl (n:=3) (v:=.n 0) rfl ZD)) ?_))
      cases hp
      exact ⟨rfl,(hO'4.pick [] rfl (by decide))⟩
    ·obtain ⟨rfl,q'1_2,q'1_3,hO'4⟩:=hJ'1
     refine Zbd (zh (zf (zl (n:=2) (v:=.n (-1)) q'1_2 (zl (n:=3) (v:=.n 10) q'1_3 ZD)) ?_))
     cases hp
     exact ⟨rfl,(hO'4.pick [] rfl (by decide))⟩

end Mu
