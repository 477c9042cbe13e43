/- The code comes to what was worked out. -/
import Derived.Test.YtdefkboekpjiiaaMuDf
import Derived.Test.YtdefkboekpjiiaaMuPa
import Derived.Test.YtdefkboekpjiiaaMuC2
set_option linter.unusedVariables false
set_option linter.unnecessarySimpa false
set_option linter.unusedSimpArgs false
set_option maxHeartbeats 2000000
set_option maxRecDepth 10000
namespace Mu
open Go (IntKind BinOp UnOp)
theorem Za1.ok {h:Hp} {l:List Za} {v:Int} {d:Int} {v_l:V} (H:Own (Bm h [eSl Zd v_l l]) h h [eSl Zd v_l l]) {r:(List Za) × Int × Int} (hp:Za1 l v d=some r) :
  ∃ u k',Is G 49 [v_l,.n v,.n d] h u k'∧∃ ab,V.tu [ab,.n r.2.1,.n r.2.2]=u∧Own (Bm h [eSl Zd v_l l]) h k' [eSl Zd ab r.1]:=by
 refine WC.is (ZaI Zb5 ?_)
 unfold Za1 at hp
 let B:Nat→Prop:=(Bm h [eSl Zd v_l l])
 have hO:Own B h h [eSl Zd v_l l]:=H
 refine Zl (Zb (.sn) rfl (Zb (.n 0) rfl (Zb (.n 0) rfl (Zg (ZN (ZN ?_))))))
 refine zF (Zb (.n v) rfl (Zc (z3 rfl rfl) (Zb (.b (decide (v < 0))) rfl (zO 5 (fun f k=>h=k∧f 20=.b ((decide (v < 0)) || (decide ((l.length:Int)≤v)))∧f 0=v_l∧f 1=.n v∧f 2=.n d) ?_ ?_))))
 ·rcases bc (decide (v < 0)) with a | a
  ·refine Zr rfl a (Zr rfl a (Zr rfl a (Zr rfl a (Zc (Zbt (w:=(decide (v < 0)) || (decide ((l.length:Int)≤v))) rfl a rfl) (Zj ?_)))))
   exact ⟨rfl,rfl,rfl,rfl,rfl⟩
  ·refine Z5 rfl a (Zb (.n v) rfl (Z5 rfl a (Zb v_l rfl (Z5 rfl a (Zc (zP (hO.sl 0 rfl) rfl) (Z5 rfl a (Zc (Zcr rfl rfl) (Zc (Zbu rfl a rfl) ?_))))))))
   refine Zj ?_
   exact ⟨rfl,rfl,rfl,rfl,rfl⟩
 rintro aA _ ⟨rfl,ap,P,Q,y⟩
 refine Zb _ ap (zO 3 (fun f k=>h=k∧f 24=.b (((decide (v < 0)) || (decide ((l.length:Int)≤v))) || (decide (d < 0)))∧f 0=v_l∧f 1=.n v∧f 2=.n d) ?_ ?_)
 ·rcases bc ((decide (v < 0)) || (decide ((l.length:Int)≤v))) with j | j
  ·refine Zr rfl j (Zr rfl j (Zc (Zbt (w:=((decide (v < 0)) || (decide ((l.length:Int)≤v))) || (decide (d < 0))) rfl j rfl) (Zj ?_)))
   exact ⟨rfl,rfl,P,Q,y⟩
  ·refine Z5 rfl j (Zb _ y (Z5 rfl j (Zc (z3 rfl rfl) (Zc (Zbu rfl j rfl) (Zj ?_)))))
   exact ⟨rfl,rfl,P,Q,y⟩
 rintro aB _ ⟨rfl,aq,R,S,A⟩
 refine Zb _ aq (zO 3 (fun f k=>h=k∧f 28=.b ((((decide (v < 0)) || (decide ((l.length:Int)≤v))) || (decide (d < 0))) || (decide (3 < d)))∧f 0=v_l∧f 1=.n v∧f 2=.n d) ?_ ?_)
 ·rcases bc (((decide (v < 0)) || (decide ((l.length:Int)≤v))) || (decide (d < 0))) with o | o
  ·refine Zr rfl o (Zr rfl o (Zc (Zbt (w:=(((decide (v < 0)) || (decide ((l.length:Int)≤v))) || (decide (d < 0))) || (decide (3 < d))) rfl o rfl) (Zj ?_)))
   exact ⟨rfl,rfl,R,S,A⟩
  ·refine Z5 rfl o (Zb _ A (Z5 rfl o (Zc (Zc6 rfl rfl) (Zc (Zbu rfl o rfl) (Zj ?_)))))
   exact ⟨rfl,rfl,R,S,A⟩
 rintro aC _ ⟨rfl,ar,g,C,s⟩
 refine Zg (zB hp ar (fun ae hp=>?_) (fun ae hp=>?_))
 ·refine Zl (Zb _ g (Zb v_l rfl (Zb (.n 0) rfl (Zb (.n 2) rfl (Zg (Zak ?_))))))
  refine zG (z6 (zJ rfl (zJ rfl (zJ rfl ze))) ?_)
  cases hp
  exact ⟨v_l,rfl,(hO.pk [0])⟩
 ·refine Zal (Zl (Zb _ g (Zb _ C (Zb _ s (ckk hp fun e hp=>Zc (zm (hO.sl 0 rfl) rfl rfl e) ?_)))))
  refine Zc (Za9 (hO.sl 0 rfl) (Zh e) rfl rfl) (ckk hp fun p hp=>Zc (ZaE (hO.sl 0 rfl) (Zh e) rfl rfl p rfl) (Zc (zE (hO.sl 0 rfl) rfl (Zh e) (zS p)) (Zb (.n (((gi l v.toNat).Next).get d)) rfl (Zg (ZN (ZN ?_))))))
  refine zF (Zb (.n (((gi l v.toNat).Next).get d)) rfl (Zc (ZaX rfl rfl) (Zg (zB hp rfl (fun af hp=>?_) (fun af hp=>?_)))))
  ·refine Zl (Zb _ g (Zb v_l rfl (Zb (.n 0) rfl (Zb (.n 9) rfl (Zg (Zak ?_))))))
   refine zG (z6 (zJ rfl (zJ rfl (zJ rfl ze))) ?_)
   cases hp
   exact ⟨v_l,rfl,(hO.pk [0])⟩
  ·refine Zal (ZN (Zl (Zb _ g (Zc (zP (hO.sl 0 rfl) rfl) (Zc (Zcr rfl rfl) (Zj ?_))))))
   refine Zs (zB hp rfl (fun ah hp=>?_) (fun ah hp=>?_))
   ·refine Zl (Zb _ g (Zb v_l rfl (Zb (.n 0) rfl (Zb (.n 6) rfl (Zg (Zak ?_))))))
    refine zG (z6 (zJ rfl (zJ rfl (zJ rfl ze))) ?_)
    cases hp
    exact ⟨v_l,rfl,(hO.pk [0])⟩
   ·refine Zal (Zl (Zb _ g (Zb _ C (Zb _ s (Zc (zm (hO.sl 0 rfl) rfl rfl e) (Zc (Za9 (hO.sl 0 rfl) (Zh e) rfl rfl) ?_))))))
    refine Zc (ZaE (hO.sl 0 rfl) (Zh e) rfl rfl p rfl) (Zc (zE (hO.sl 0 rfl) rfl (Zh e) (Zbe p)) (Zb (.n (((gi l v.toNat).Owner).get d)) rfl (Zg (Zl (Zb _ g (Zc (zP (hO.sl 0 rfl) rfl) ?_))))))
    refine Zb (.n (l.length:Int)) rfl (Zg (Zl ?_))
    obtain ⟨x,⟨aH,J,aj,ac,rfl,av⟩,hp⟩:=bdk hp fun _=>Z3.ok (h:=h)  
    refine Zat rfl rfl aj ?_
    have D:=hO.call av rfl
    refine Zb ac rfl (Zg (ZN (Zfy ?_)))
    have T:=D.bump 8
    have M:=Fresh.start J 8
    have aa:∀ {i:Nat},h.n≤J.n + i:=Nat.le_trans D.n (Nat.le_add_right _ _)
    refine Zbi _ g ?_
    obtain ⟨x1,⟨aI,aD,ak,aL,rfl,I⟩,hp⟩:=bdk hp fun _=>ZS.ok (h:=(J.bump 8))  (T.sl 0 rfl)
    refine Ziy rfl rfl ak ?_
    have N:=M.call I
    have F:=T.call I rfl
    refine Zbi ac rfl (ckk hp fun L hp=>zA (zm (F.sl 1 rfl) rfl rfl L) (zA (ZdQ (F.sl 1 rfl) rfl (Zh L)) (Zei (F.bsl (E:=Zd) (l:=[gi x (0:Int).toNat]) ⟨N.m 5 (by decide) (by decide),aa⟩ (by rw [(zp (v:=.ag (Zd.c (gi x (0:Int).toNat))) rfl Za3)]; rfl) rfl) ?_)))
    rintro aM aE aN ⟨aG,an,U⟩
    have O:=N.kept an (by decide)
    refine ckk hp fun ai hp=>Zei (U.app (bytes:=64) 2 ⟨O.m 6 (by decide) (by decide),aa⟩ rfl (U.sl 3 rfl) rfl rfl (fun _=>rfl) ai (by decide)) ?_
    rintro K Y aO ⟨ao,W⟩
    have az:=O.kept ao (by decide)
    refine Zbi K rfl (Zcd ?_)
    refine And.intro ?_ ?_
    ·intro q hq
     simp only [List.mem_cons,List.not_mem_nil,or_false] at hq
     rcases hq with rfl | rfl
     ·refine Zia rfl ?_
      ·exact (fun r hm hc=>hc (I.base r (Nat.lt_of_lt_of_le (D.ltAt 1 rfl _ (ZcT (tch (ZcI hm) rfl))) (Nat.le_trans (Nat.le_add_right _ _) M.n))))
     ·refine Zia rfl ?_
      ·exact (fun r hm hc=>nomatch hm)
    refine Zs (Zl (Zb K rfl (Zb _ C (Zb _ s (Zb (.n (l.length:Int)) rfl (Zb (.n (((gi l v.toNat).Owner).get d)) rfl ?_))))))
    obtain ⟨x2,⟨aJ,ay,al,ad,rfl,aw⟩,hp⟩:=bdk hp fun _=>ZS.ok (h:=Y)  (W.sl 2 rfl:Sl Zd Y K (x1++[gi x (0:Int).toNat]))
    refine Zat rfl rfl al ?_
    have X:=W.call aw rfl
    refine Zb ad rfl (Zg (Zl (Zb ad rfl (Zb (.n (l.length:Int)) rfl (Zb _ s (Zb (.n (((gi l v.toNat).Next).get d)) rfl ?_))))))
    refine Zb (.n (((gi l v.toNat).Owner).get d)) rfl ?_
    obtain ⟨x3,⟨aK,aF,am,t,rfl,ax⟩,hp⟩:=bdk hp fun _=>ZS.ok (h:=ay)  (X.sl 4 rfl)
    refine Zat rfl rfl am ?_
    have au:=X.call ax rfl
    refine Zb t rfl (Zg (Zl (Zb t rfl (Zb (.n (l.length:Int)) rfl (Zb t rfl (Zb (.n (l.length:Int)) rfl ?_))))))
    refine Zb (.n 0) rfl (Zg (Zak (z6 (zJ rfl (zJ rfl (zJ rfl ze))) ?_)))
    cases hp
    exact ⟨t,rfl,(au.pk [5])⟩

theorem ZdI.ok {h:Hp} {B0:Nat→Prop} {h0:Hp} {l:List Za} {v:Int} {d:Int} {v_l:V} (HO:Own B0 h0 h []) (S_l:Rd B0 h0 Zd v_l l) {r:(List Za) × Int × Int} (hp:Za1 l v d=some r) :
  ∃ u k',Is G 49 [v_l,.n v,.n d] h u k'∧∃ J,∃ (L:Bool),V.tu [J,.n r.2.1,.n r.2.2]=u∧(L=false→Rd B0 h0 Zd J r.1)∧Own (fun r=>r < h.n) h k' [Zm2 L Zd J r.1]:=by
 refine WC.is (ZaI Zb5 ?_)
 unfold Za1 at hp
 let B:Nat→Prop:=(fun r=>r < h.n)
 have hO:Own B h h []:=Own.start0 h
 refine Zl (Zb (.sn) rfl (Zb (.n 0) rfl (Zb (.n 0) rfl (Zg (ZN (ZN ?_))))))
 refine zF (Zb (.n v) rfl (Zc (z3 rfl rfl) (Zb (.b (decide (v < 0))) rfl (zO 5 (fun f k=>h=k∧f 20=.b ((decide (v < 0)) || (decide ((l.length:Int)≤v)))∧f 0=v_l∧f 1=.n v∧f 2=.n d) ?_ ?_))))
 ·rcases bc (decide (v < 0)) with a | a
  ·refine Zr rfl a (Zr rfl a (Zr rfl a (Zr rfl a (Zc (Zbt (w:=(decide (v < 0)) || (decide ((l.length:Int)≤v))) rfl a rfl) (Zj ?_)))))
   exact ⟨rfl,rfl,rfl,rfl,rfl⟩
  ·refine Z5 rfl a (Zb (.n v) rfl (Z5 rfl a (Zb v_l rfl (Z5 rfl a (Zc (zP (hO.rd0 (Rd.via HO S_l):Sl Zd h v_l l) rfl) (Z5 rfl a (Zc (Zcr rfl rfl) (Zc (Zbu rfl a rfl) ?_))))))))
   refine Zj ?_
   exact ⟨rfl,rfl,rfl,rfl,rfl⟩
 rintro aA _ ⟨rfl,ap,Q,R,A⟩
 refine Zb _ ap (zO 3 (fun f k=>h=k∧f 24=.b (((decide (v < 0)) || (decide ((l.length:Int)≤v))) || (decide (d < 0)))∧f 0=v_l∧f 1=.n v∧f 2=.n d) ?_ ?_)
 ·rcases bc ((decide (v < 0)) || (decide ((l.length:Int)≤v))) with j | j
  ·refine Zr rfl j (Zr rfl j (Zc (Zbt (w:=((decide (v < 0)) || (decide ((l.length:Int)≤v))) || (decide (d < 0))) rfl j rfl) (Zj ?_)))
   exact ⟨rfl,rfl,Q,R,A⟩
  ·refine Z5 rfl j (Zb _ A (Z5 rfl j (Zc (z3 rfl rfl) (Zc (Zbu rfl j rfl) (Zj ?_)))))
   exact ⟨rfl,rfl,Q,R,A⟩
 rintro aB _ ⟨rfl,aq,S,T,C⟩
 refine Zb _ aq (zO 3 (fun f k=>h=k∧f 28=.b ((((decide (v < 0)) || (decide ((l.length:Int)≤v))) || (decide (d < 0))) || (decide (3 < d)))∧f 0=v_l∧f 1=.n v∧f 2=.n d) ?_ ?_)
 ·rcases bc (((decide (v < 0)) || (decide ((l.length:Int)≤v))) || (decide (d < 0))) with o | o
  ·refine Zr rfl o (Zr rfl o (Zc (Zbt (w:=(((decide (v < 0)) || (decide ((l.length:Int)≤v))) || (decide (d < 0))) || (decide (3 < d))) rfl o rfl) (Zj ?_)))
   exact ⟨rfl,rfl,S,T,C⟩
  ·refine Z5 rfl o (Zb _ C (Z5 rfl o (Zc (Zc6 rfl rfl) (Zc (Zbu rfl o rfl) (Zj ?_)))))
   exact ⟨rfl,rfl,S,T,C⟩
 rintro aC _ ⟨rfl,ar,g,D,s⟩
 refine Zg (zB hp ar (fun ae hp=>?_) (fun ae hp=>?_))
 ·refine Zl (Zb _ g (Zb v_l rfl (Zb (.n 0) rfl (Zb (.n 2) rfl (Zg (Zak ?_))))))
  refine zG (z6 (zJ rfl (zJ rfl (zJ rfl ze))) ?_)
  cases hp
  exact ⟨v_l,false,rfl,(fun _=>(S_l)),(hO.pk [900])⟩
 ·refine Zal (Zl (Zb _ g (Zb _ D (Zb _ s (ckk hp fun e hp=>Zc (zm (hO.rd0 (Rd.via HO S_l):Sl Zd h v_l l) rfl rfl e) ?_)))))
  refine Zc (Za9 (hO.rd0 (Rd.via HO S_l):Sl Zd h v_l l) (Zh e) rfl rfl) (ckk hp fun p hp=>Zc (ZaE (hO.rd0 (Rd.via HO S_l):Sl Zd h v_l l) (Zh e) rfl rfl p rfl) (Zc (zE (hO.rd0 (Rd.via HO S_l):Sl Zd h v_l l) rfl (Zh e) (zS p)) (Zb (.n (((gi l v.toNat).Next).get d)) rfl (Zg (ZN (ZN ?_))))))
  refine zF (Zb (.n (((gi l v.toNat).Next).get d)) rfl (Zc (ZaX rfl rfl) (Zg (zB hp rfl (fun af hp=>?_) (fun af hp=>?_)))))
  ·refine Zl (Zb _ g (Zb v_l rfl (Zb (.n 0) rfl (Zb (.n 9) rfl (Zg (Zak ?_))))))
   refine zG (z6 (zJ rfl (zJ rfl (zJ rfl ze))) ?_)
   cases hp
   exact ⟨v_l,false,rfl,(fun _=>(S_l)),(hO.pk [900])⟩
  ·refine Zal (ZN (Zl (Zb _ g (Zc (zP (hO.rd0 (Rd.via HO S_l):Sl Zd h v_l l) rfl) (Zc (Zcr rfl rfl) (Zj ?_))))))
   refine Zs (zB hp rfl (fun ah hp=>?_) (fun ah hp=>?_))
   ·refine Zl (Zb _ g (Zb v_l rfl (Zb (.n 0) rfl (Zb (.n 6) rfl (Zg (Zak ?_))))))
    refine zG (z6 (zJ rfl (zJ rfl (zJ rfl ze))) ?_)
    cases hp
    exact ⟨v_l,false,rfl,(fun _=>(S_l)),(hO.pk [900])⟩
   ·refine Zal (Zl (Zb _ g (Zb _ D (Zb _ s (Zc (zm (hO.rd0 (Rd.via HO S_l):Sl Zd h v_l l) rfl rfl e) (Zc (Za9 (hO.rd0 (Rd.via HO S_l):Sl Zd h v_l l) (Zh e) rfl rfl) ?_))))))
    refine Zc (ZaE (hO.rd0 (Rd.via HO S_l):Sl Zd h v_l l) (Zh e) rfl rfl p rfl) (Zc (zE (hO.rd0 (Rd.via HO S_l):Sl Zd h v_l l) rfl (Zh e) (Zbe p)) (Zb (.n (((gi l v.toNat).Owner).get d)) rfl (Zg (Zl (Zb _ g (Zc (zP (hO.rd0 (Rd.via HO S_l):Sl Zd h v_l l) rfl) ?_))))))
    refine Zb (.n (l.length:Int)) rfl (Zg (Zl ?_))
    obtain ⟨x,⟨aH,t,aj,ac,rfl,av⟩,hp⟩:=bdk hp fun _=>Z3.ok (h:=h)  
    refine Zat rfl rfl aj ?_
    have F:=hO.call av rfl
    refine Zb ac rfl (Zg (ZN (Zfy ?_)))
    have U:=F.bump 8
    have N:=Fresh.start t 8
    have ab:∀ {i:Nat},h.n≤t.n + i:=Nat.le_trans F.n (Nat.le_add_right _ _)
    refine Zbi _ g ?_
    obtain ⟨x1,⟨aI,aD,ak,aL,rfl,I⟩,hp⟩:=bdk hp fun _=>ZS.ok (h:=(t.bump 8))  (U.rd0 (Rd.via HO S_l):Sl Zd (t.bump 8) v_l l)
    refine Ziy rfl rfl ak ?_
    have O:=N.call I
    have H:=U.call I rfl
    refine Zbi ac rfl (ckk hp fun M hp=>zA (zm (H.sl 0 rfl) rfl rfl M) (zA (ZdQ (H.sl 0 rfl) rfl (Zh M)) (Zei (H.bsl (E:=Zd) (l:=[gi x (0:Int).toNat]) ⟨O.m 5 (by decide) (by decide),ab⟩ (by rw [(zp (v:=.ag (Zd.c (gi x (0:Int).toNat))) rfl Za3)]; rfl) rfl) ?_)))
    rintro aM aE aN ⟨aG,an,W⟩
    have P:=O.kept an (by decide)
    refine ckk hp fun ai hp=>Zei (W.app (bytes:=64) 1 ⟨P.m 6 (by decide) (by decide),ab⟩ rfl (W.sl 2 rfl) rfl rfl (fun _=>rfl) ai (by decide)) ?_
    rintro K aa aO ⟨ao,X⟩
    have az:=P.kept ao (by decide)
    refine Zbi K rfl (Zcd ?_)
    refine And.intro ?_ ?_
    ·intro q hq
     simp only [List.mem_cons,List.not_mem_nil,or_false] at hq
     rcases hq with rfl | rfl
     ·refine Zia rfl ?_
      ·exact (fun r hm hc=>hc (I.base r (Nat.lt_of_lt_of_le (F.ltAt 0 rfl _ (ZcT (tch (ZcI hm) rfl))) (Nat.le_trans (Nat.le_add_right _ _) N.n))))
     ·refine Zia rfl ?_
      ·exact (fun r hm hc=>nomatch hm)
    refine Zs (Zl (Zb K rfl (Zb _ D (Zb _ s (Zb (.n (l.length:Int)) rfl (Zb (.n (((gi l v.toNat).Owner).get d)) rfl ?_))))))
    obtain ⟨x2,⟨aJ,ay,al,ad,rfl,aw⟩,hp⟩:=bdk hp fun _=>ZS.ok (h:=aa)  (X.sl 1 rfl:Sl Zd aa K (x1++[gi x (0:Int).toNat]))
    refine Zat rfl rfl al ?_
    have Y:=X.call aw rfl
    refine Zb ad rfl (Zg (Zl (Zb ad rfl (Zb (.n (l.length:Int)) rfl (Zb _ s (Zb (.n (((gi l v.toNat).Next).get d)) rfl ?_))))))
    refine Zb (.n (((gi l v.toNat).Owner).get d)) rfl ?_
    obtain ⟨x3,⟨aK,aF,am,y,rfl,ax⟩,hp⟩:=bdk hp fun _=>ZS.ok (h:=ay)  (Y.sl 3 rfl)
    refine Zat rfl rfl am ?_
    have au:=Y.call ax rfl
    refine Zb y rfl (Zg (Zl (Zb y rfl (Zb (.n (l.length:Int)) rfl (Zb y rfl (Zb (.n (l.length:Int)) rfl ?_))))))
    refine Zb (.n 0) rfl (Zg (Zak (z6 (zJ rfl (zJ rfl (zJ rfl ze))) ?_)))
    cases hp
    exact ⟨y,true,rfl,(fun h=>nomatch h),(au.pk [4])⟩

theorem ZaA.ok {h:Hp}    {r:(List Za)} (hp:ZaA =some r) :
  ∃ u k',Is G 196 [] h u k'∧∃ k,k=u∧Own (fun r=>r < h.n) h k' [eSl Zd k r]:=by
 refine WC.is (ZaI Zca ?_)
 unfold ZaA at hp
 let B:Nat→Prop:=(fun r=>r < h.n)
 have hO:Own B h h []:=Own.start0 h
 refine Zl (Zb (.sn) rfl (Zg (Zl ?_)))
 obtain ⟨x,⟨N,I,p,m,rfl,C⟩,hp⟩:=bdk hp fun _=>Z3.ok (h:=h)  
 refine Zat rfl rfl p ?_
 have f:=hO.call C rfl
 refine Zb m rfl (Zg (Zl (Zb m rfl ?_)))
 obtain ⟨⟨x1,x2⟩,⟨O,J,q,b,rfl,D⟩,hp⟩:=bdk hp fun _=>ZZ.ok (h:=I) (l:=x) (v:=0) (d:=0) (w:=1) (o:=0) (f.toM [0] rfl (by decide)) 
 refine Zat rfl rfl q ?_
 have g:=(f.callM [0] [] rfl rfl (by decide) D rfl).pick [900,0] rfl (by decide)
 refine Zb (.tu [b,.n x2]) rfl (Zc (ZaJ rfl rfl) (Zc (ZaJ rfl rfl) (Zb b rfl (Zg (Zl (Zb b rfl ?_))))))
 obtain ⟨⟨x3,x4⟩,⟨P,K,s,c,rfl,E⟩,hp⟩:=bdk hp fun _=>ZZ.ok (h:=J) (l:=x1) (v:=1) (d:=1) (w:=2) (o:=0) (g.toM [1] rfl (by decide)) 
 refine Zat rfl rfl s ?_
 have i:=(g.callM [1] [] rfl rfl (by decide) E rfl).pick [900,901,0] rfl (by decide)
 refine Zb (.tu [c,.n x4]) rfl (Zc (ZaJ rfl rfl) (Zc (ZaJ rfl rfl) (Zb c rfl (Zg (Zl (Zb c rfl ?_))))))
 obtain ⟨⟨x5,x6⟩,⟨Q,L,t,e,rfl,F⟩,hp⟩:=bdk hp fun _=>ZZ.ok (h:=K) (l:=x3) (v:=2) (d:=2) (w:=3) (o:=0) (i.toM [2] rfl (by decide)) 
 refine Zat rfl rfl t ?_
 have j:=(i.callM [2] [] rfl rfl (by decide) F rfl).pick [900,901,902,0] rfl (by decide)
 refine Zb (.tu [e,.n x6]) rfl (Zc (ZaJ rfl rfl) (Zc (ZaJ rfl rfl) (Zb e rfl (Zg (Zl (Zb e rfl ?_))))))
 obtain ⟨⟨x7,x8⟩,⟨R,M,y,a,rfl,H⟩,hp⟩:=bdk hp fun _=>ZZ.ok (h:=L) (l:=x5) (v:=3) (d:=3) (w:=0) (o:=0) (j.toM [3] rfl (by decide)) 
 refine Zat rfl rfl y ?_
 have A:=(j.callM [3] [] rfl rfl (by decide) H rfl).pick [900,901,902,903,0] rfl (by decide)
 refine Zb (.tu [a,.n x8]) rfl (Zc (ZaJ rfl rfl) (Zc (ZaJ rfl rfl) (Zb a rfl (Zg (Zl (Zb a rfl ?_))))))
 refine Zb a rfl (Zg (Zak (z6 (zJ rfl ze) ?_)))
 cases hp
 exact ⟨a,rfl,(A.pk [4])⟩

theorem Zbq.ok {h:Hp} {cells:List Za} {v_cells:V} (s_cells:Sl Zd h v_cells cells) {r:Int × Int} (hp:Zbq cells=some r) :
  ∃ u k',Is G 195 [v_cells] h u k'∧V.tu [.n r.1,.n r.2]=u∧Own (fun r=>r < h.n) h k' []:=by
 refine WC.is (ZaI ZdC ?_)
 unfold Zbq at hp
 let B:Nat→Prop:=(fun r=>r < h.n)
 have hO:Own B h h []:=Own.start0 h
 refine Zl (Zb (.n 0) rfl (Zb (.n 0) rfl (Zg (ZN (Zl ?_)))))
 refine Zb v_cells rfl ?_
 obtain ⟨x,⟨m,k,f,rfl,i⟩,hp⟩:=bdk hp fun _=>z9.ok (h:=h)  (hO.rd0 s_cells.rd)
 refine Zat rfl rfl f ?_
 have a:=hO.call i rfl
 refine Zb (.n x) rfl (Zg (Zl (Zb (.n x) rfl (Zc (ZcH rfl rfl) (Zg (zB hp rfl (fun d hp=>?_) (fun d hp=>?_)))))))
 ·refine Zl (Zb (.n x) rfl (Zb (.n 0) rfl (Zb (.n x) rfl (Zg (Zak (zG ?_))))))
  refine z6 (zJ rfl (zJ rfl ze)) ?_
  cases hp
  exact ⟨rfl,(a.pk [])⟩
 ·refine Zal (Zl (Zb v_cells rfl ?_))
  obtain ⟨⟨x1,x2⟩,⟨o,l,g,rfl,j⟩,hp⟩:=bdk hp fun _=>Zai.ok (h:=k)  (a.rd0 s_cells.rd)
  refine Zat rfl rfl g ?_
  have c:=a.call j rfl
  refine Zb (.tu [.n x1,.b x2]) rfl (Zc (ZaJ rfl rfl) (Zc (ZaJ rfl rfl) (Zb (.n x1) rfl (Zb (.b x2) rfl (Zg (ZN (ZN ?_)))))))
  refine zF (Zb (.b x2) rfl (Zc (Zdd rfl) (Zg (zB hp rfl (fun e hp=>?_) (fun e hp=>?_)))))
  ·refine Zl (Zb (.n 0) rfl (Zb (.n 2) rfl (Zg (Zak (zG (z6 (zJ rfl (zJ rfl ze)) ?_))))))
   cases hp
   exact ⟨rfl,(c.pk [])⟩
  ·refine Zal (Zl (Zb (.n x1) rfl (Zb (.n x1) rfl (Zb (.n 0) rfl (Zg ?_)))))
   refine Zak (z6 (zJ rfl (zJ rfl ze)) ?_)
   cases hp
   exact ⟨rfl,(c.pk [])⟩

theorem ZaU.ok {h:Hp}    {r:Bool} (hp:ZaU =some r) :
  ∃ u k',Is G 172 [] h u k'∧V.b r=u∧Own (fun r=>r < h.n) h k' []:=by
 refine WC.is (ZaI Zck ?_)
 unfold ZaU at hp
 let B:Nat→Prop:=(fun r=>r < h.n)
 have hO:Own B h h []:=Own.start0 h
 refine Zl (Zb (.b false) rfl (Zg (Zl ?_)))
 obtain ⟨x,⟨aS,aB,K,l,rfl,al⟩,hp⟩:=bdk hp fun _=>ZaA.ok (h:=h)  
 refine Zat rfl ZhA K ?_
 have s:=hO.call al rfl
 obtain ⟨⟨x1,x2⟩,⟨aV,aD,N,rfl,ao⟩,hp⟩:=bdk hp fun _=>Zbq.ok (h:=aB)  (s.sl 0 rfl)
 refine Zat rfl rfl N ?_
 have ai:=s.call ao rfl
 refine Zb (.tu [.n x1,.n x2]) rfl (Zc (ZaJ rfl rfl) (Zc (ZaJ rfl rfl) (Zb (.n x1) rfl (Zb (.n x2) rfl (Zg (Zl ?_))))))
 obtain ⟨x3,⟨aW,aE,O,m,rfl,ap⟩,hp⟩:=bdk hp fun _=>Z3.ok (h:=aD)  
 refine Zat rfl rfl O ?_
 have C:=ai.call ap rfl
 obtain ⟨⟨x4,x5⟩,⟨aX,aF,P,rfl,aq⟩,hp⟩:=bdk hp fun _=>Zbq.ok (h:=aE)  (C.sl 1 rfl)
 refine Zat rfl rfl P ?_
 have aj:=C.call aq rfl
 refine Zb (.tu [.n x4,.n x5]) rfl (Zc (ZaJ rfl rfl) (Zc (ZaJ rfl rfl) (Zb (.n x4) rfl (Zb (.n x5) rfl (Zg (Zl ?_))))))
 obtain ⟨x6,⟨aY,aG,Q,o,rfl,ar⟩,hp⟩:=bdk hp fun _=>ZaA.ok (h:=aF)  
 refine Zat rfl ZhA Q ?_
 have D:=aj.call ar rfl
 obtain ⟨x7,⟨aZ,j,R,rfl,au⟩,hp⟩:=bdk hp fun _=>z9.ok (h:=aG)  (D.sl 2 rfl)
 refine Zat rfl rfl R ?_
 have E:=D.call au rfl
 refine Zc (ZaX rfl rfl) (Zb (.b (decide (x7=0))) rfl (zO 3 (fun f k=>j=k∧f 21=.b ((decide (x7=0)) && (decide (x1=1)))∧f 2=.n x2∧f 4=.n x5) ?_ ?_))
 ·rcases bc (decide (x7=0)) with d | d
  ·refine Z5 rfl d (Zb (.n x1) rfl (Z5 rfl d (Zc (ZaX rfl rfl) (Zc (Zda rfl d rfl) (Zj ?_)))))
   exact ⟨rfl,rfl,rfl,rfl⟩
  ·refine Zr rfl d (Zr rfl d (Zc (ZcZ (w:=(decide (x7=0)) && (decide (x1=1))) rfl d rfl) (Zj ?_)))
   exact ⟨rfl,rfl,rfl,rfl⟩
 rintro aI _ ⟨rfl,X,W,p⟩
 refine Zb _ X (zO 3 (fun f k=>j=k∧f 25=.b (((decide (x7=0)) && (decide (x1=1))) && (decide (x2=0)))∧f 4=.n x5) ?_ ?_)
 ·rcases bc ((decide (x7=0)) && (decide (x1=1))) with e | e
  ·refine Z5 rfl e (Zb _ W (Z5 rfl e (Zc (ZaX rfl rfl) (Zc (Zda rfl e rfl) (Zj ?_)))))
   exact ⟨rfl,rfl,p⟩
  ·refine Zr rfl e (Zr rfl e (Zc (ZcZ (w:=((decide (x7=0)) && (decide (x1=1))) && (decide (x2=0))) rfl e rfl) (Zj ?_)))
   exact ⟨rfl,rfl,p⟩
 rintro aJ _ ⟨rfl,Y,q⟩
 refine Zb _ Y ?_
 obtain ⟨t,ay,hp⟩:=Zan hp
 refine zO 4 (fun f k=>Own B h k [eSl Zd l x,eSl Zd m x3,eSl Zd o x6]∧f 30=.b t∧f 4=.n x5) ?_ ?_
 ·clear hp; rcases Zaw ay with ⟨a,hp⟩ | ⟨a,hp⟩
  ·refine Z5 rfl a ?_
   obtain ⟨x8,⟨a0,aH,S,a3,rfl,av⟩,hp⟩:=bdk hp fun _=>Z3.ok (h:=j)  
   refine Zat rfl rfl S ?_
   have F:=E.call av rfl
   refine Z5 rfl a ?_
   obtain ⟨x9,⟨a1,aR,T,rfl,aw⟩,hp⟩:=bdk hp fun _=>z9.ok (h:=aH)  (F.sl 3 rfl)
   refine Zat rfl rfl T ?_
   have ak:=F.call aw rfl
   refine Z5 rfl a (Zc (ZaX rfl rfl) (Zc (Zag (v:=.b t) rfl a (Eq.trans (b:=V.b (decide (x9=0))) rfl (congrArg V.b (Option.some.inj hp)))) (Zj ?_)))
   exact ⟨ak.pk [0,1,2],rfl,q⟩
  ·refine Zr rfl a (Zr rfl a (Zr rfl a (Zc (Zab (v:=.b t) rfl a (Eq.trans (b:=V.b false) rfl (congrArg V.b (Option.some.inj hp)))) (Zj ?_))))
   exact ⟨E.pk [0,1,2],rfl,q⟩
 rintro aK J ⟨H,aa,ab⟩
 refine Zb _ aa (zO 3 (fun f k=>J=k∧f 34=.b (t && (decide (x5=2)))) ?_ ?_)
 ·rcases bc t with g | g
  ·refine Z5 rfl g (Zb _ ab (Z5 rfl g (Zc (ZaX rfl rfl) (Zc (Zda rfl g rfl) (Zj ?_)))))
   exact ⟨rfl,rfl⟩
  ·refine Zr rfl g (Zr rfl g (Zc (ZcZ (w:=t && (decide (x5=2))) rfl g rfl) (Zj ?_)))
   exact ⟨rfl,rfl⟩
 rintro aL _ ⟨rfl,ac⟩
 refine Zb _ ac ?_
 obtain ⟨t1,az,hp⟩:=Zan hp
 refine zO 4 (fun f k=>Own B h k [eSl Zd l x,eSl Zd m x3,eSl Zd o x6]∧f 39=.b t1) ?_ ?_
 ·clear hp; rcases Zaw az with ⟨c,hp⟩ | ⟨c,hp⟩
  ·refine Z5 rfl c ?_
   obtain ⟨x10,⟨a2,aC,U,a4,rfl,ax⟩,hp⟩:=bdk hp fun _=>Z3.ok (h:=J)  
   refine Zat rfl rfl U ?_
   have y:=H.call ax rfl
   refine Z5 rfl c ?_
   obtain ⟨x11,⟨aT,aO,L,rfl,am⟩,hp⟩:=bdk hp fun _=>z9.ok (h:=aC)  (y.sl 3 rfl)
   refine Zat rfl rfl L ?_
   have af:=y.call am rfl
   refine Z5 rfl c (Zc (ZaX rfl rfl) (Zc (Zag (v:=.b t1) rfl c (Eq.trans (b:=V.b (decide (x11=13))) rfl (congrArg V.b (Option.some.inj hp)))) (Zj ?_)))
   exact ⟨af.pk [0,1,2],rfl⟩
  ·refine Zr rfl c (Zr rfl c (Zr rfl c (Zc (Zab (v:=.b t1) rfl c (Eq.trans (b:=V.b false) rfl (congrArg V.b (Option.some.inj hp)))) (Zj ?_))))
   exact ⟨H.pk [0,1,2],rfl⟩
 rintro aM I ⟨A,ad⟩
 refine Zb _ ad ?_
 obtain ⟨t2,aA,hp⟩:=Zan hp
 refine zO 3 (fun f k=>Own B h k [eSl Zd l x,eSl Zd m x3,eSl Zd o x6]∧f 43=.b t2) ?_ ?_
 ·clear hp; rcases Zaw aA with ⟨i,hp⟩ | ⟨i,hp⟩
  ·refine Z5 rfl i ?_
   obtain ⟨x12,⟨aU,aP,M,rfl,an⟩,hp⟩:=bdk hp fun _=>z9.ok (h:=I)  (Sl.nil:Sl Zd I .sn ([]:List Za))
   refine Zat rfl rfl M ?_
   have ag:=A.call an rfl
   refine Z5 rfl i (Zc (ZaX rfl rfl) (Zc (Zag (v:=.b t2) rfl i (Eq.trans (b:=V.b (decide (x12=13))) rfl (congrArg V.b (Option.some.inj hp)))) (Zj ?_)))
   exact ⟨ag.pk [0,1,2],rfl⟩
  ·refine Zr rfl i (Zr rfl i (Zc (Zab (v:=.b t2) rfl i (Eq.trans (b:=V.b false) rfl (congrArg V.b (Option.some.inj hp)))) (Zj ?_)))
   exact ⟨A.pk [0,1,2],rfl⟩
 rintro aN aQ ⟨ah,ae⟩
 refine Zb _ ae (Zg (Zak (z6 (zJ rfl ze) ?_)))
 cases hp
 exact ⟨rfl,(ah.pk [])⟩

theorem zi.ok {h:Hp} {z:zj} {y:Zaa} {at_:A2 Int} {v_z_At:V} {v_z_Bits:V} {v_z_Own:V} {v_y_Boxes:V} {v_y_Edges:V} {v_y_Bends:V} (s_z_At:Sl Zfi h v_z_At z.At) (s_z_Bits:Sl Zfi h v_z_Bits z.Bits) (s_z_Own:Sl Zi2 h v_z_Own z.Own) (s_y_Boxes:Sl e_bool h v_y_Boxes y.Boxes) (s_y_Edges:Sl Zeb h v_y_Edges y.Edges) (s_y_Bends:Sl Zfi h v_y_Bends y.Bends) {r:Bool} (hp:zi z y at_=some r) :
  ∃ u k',Is G 158 [.ag [v_z_At,v_z_Bits,v_z_Own],.ag [v_y_Boxes,v_y_Edges,v_y_Bends],.ag (Zdf.c at_)] h u k'∧V.b r=u∧Own (fun r=>r < h.n) h k' []:=by
 refine WC.is (ZaI Zb7 ?_)
 unfold zi at hp
 let B:Nat→Prop:=(fun r=>r < h.n)
 have hO:Own B h h []:=Own.start0 h
 refine Zl (zq (hO.boxd (cs:=[v_z_At,v_z_Bits,v_z_Own]) hO.fr rfl rfl) ?_)
 rintro _ bm ⟨bH,rfl,bz,be,T⟩
 refine zq (T.boxd (cs:=[v_y_Boxes,v_y_Edges,v_y_Bends]) T.fr rfl rfl) ?_
 rintro _ br ⟨bI,rfl,bA,bf,U⟩
 refine zq (U.boxd (cs:=Zdf.c at_) U.fr rfl rfl) ?_
 rintro _ a1 ⟨F,rfl,bB,bg,m⟩
 refine Zb (.b false) rfl (Zg (Zl (Zc (Za7 (m.box 0 rfl) rfl rfl) ?_)))
 obtain ⟨⟨x,x1⟩,⟨bM,bu,aw,d,aj,rfl,aO⟩,hp⟩:=bdk hp fun _=>Z8.ok (h:=a1)  (m.rd0 s_z_At.rd) (m.rd0 s_z_Bits.rd) (m.rd0 s_z_Own.rd)
 refine Zat rfl rfl aw ?_
 have M:=m.call aO rfl
 refine Zb (.tu [d,aj]) rfl (Zc (ZaJ rfl rfl) (Zc (ZaJ rfl rfl) (Zb d rfl (Zb aj rfl (Zg (Zl ?_))))))
 refine Zb d rfl (zq (M.bsl (E:=eV) (l:=[d]) M.fr (by rw [(zp (v:=d) rfl Za3)]; simp only [fill,(M.sl 3 rfl).cells]; simp [over]) rfl) ?_)
 rintro R a2 ⟨bJ,bh,q⟩
 refine Zb R rfl (Zg (ZN (Zl (Zc (Za7 (q.box 1 rfl) rfl rfl) ?_))))
 obtain ⟨x2,⟨bP,bv,az,a9,ba,rfl,aR⟩,hp⟩:=bdk hp fun _=>ZV.ok (h:=a2)  (q.rd0 s_y_Boxes.rd) (q.rd0 s_y_Edges.rd) (q.rd0 s_y_Bends.rd)
 refine Zat rfl rfl az ?_
 have ab:=q.call aR rfl
 refine zq (ab.alloc (cs:=[.sn,.sn]) ab.fr) ?_
 rintro _ bw ⟨bK,rfl,bC,bi,N⟩
 refine zq (N.stb (cs':=[a9,ba]) 8 rfl rfl rfl rfl ⟨rfl,Nat.le_of_ble_eq_true rfl,(all_cons (N.sl 6 rfl).oneV (all_cons (N.sl 7 rfl).oneV all_nil))⟩ rfl) ?_
 rintro _ a3 ⟨rfl,bj,bx,A⟩
 refine Zg (Zl (Zc (Za7 (A.box 8 rfl) rfl rfl) ?_))
 obtain ⟨x3,⟨bQ,a4,aA,rfl,aS⟩,hp⟩:=bdk hp fun _=>ZJ.ok (h:=a3)  (A.sl 6 rfl) (A.sl 7 rfl)
 refine Zat rfl rfl aA ?_
 have s:=A.call aS rfl
 refine Zc (ZaX rfl rfl) (Zg (Zgw hp (fun lists e fr k=>e=.normal∧∃ t a,fr 5=.p F 0∧fr 9=t∧Own B h k [zI F (Zdf.c at_),eSl eV t a,Zbj Zd a lists]) (fun _ hp=>?_) ?_))
 ·refine zB hp rfl (fun ak hp=>?_) (fun ak hp=>?_)
  ·refine zF (Zb R rfl (Zc (Za7 (s.box 8 rfl) rfl rfl) ?_))
   obtain ⟨x4,⟨bR,bo,aB,w,bb,bc,a8,bZ,rfl,aT⟩,hp⟩:=bdk hp fun _=>ZC.ok (h:=a4)  (s.sl 6 rfl) (s.sl 7 rfl)
   refine Zat rfl rfl aB ?_
   have J:=s.call aT rfl
   refine Zc (Zla (cs:=[w,bb,bc,a8]) (v:=w) rfl rfl) (zq (J.bsl (E:=eV) (l:=[w]) J.fr (by rw [(zp (v:=w) rfl Za3)]; simp only [fill,(J.sl 9 rfl).cells]; simp [over]) rfl) ?_)
   rintro bX bp ⟨bL,bk,aH⟩
   have aI:=aH.allNil Zd 0
   have i:=aI.absorb 15 3 rfl rfl (by decide)
   refine ckk hp fun ap hp=>zq (i.appV (bytes:=24) 5 i.fr rfl (i.sl 14 rfl) rfl rfl (by simp only [List.all_cons,List.all_nil,Bool.and_true]; exact (i.sl 9 rfl).oneV) (by rw [(i.allLen 15 rfl:([d]).length=([x]).length)]; exact ap) (by decide)) ?_
   rintro ai bq ⟨bl,aJ⟩
   have aK:=aJ.absorb 15 9 rfl rfl (by decide)
   refine Zb ai rfl (Zj ?_)
   cases hp
   exact ⟨rfl,ai,[d]++[w],rfl,rfl,(aK.pk [2,5,15])⟩
  ·refine ZbN ?_
   have aL:=s.allNil Zd 0
   have aM:=aL.absorb 9 3 rfl rfl (by decide)
   cases hp
   exact ⟨rfl,R,[d],rfl,rfl,(aM.pk [2,5,9])⟩
 rintro lists hp _ bE bn ⟨rfl,t,a,a5,a6,I⟩
 refine Zs (ZN (Zl (Zb _ a6 (Zc (Zhz (n:=(lists).length) (I.sl 1 rfl) (I.allLen 2 rfl:(a).length=(lists).length) rfl) (Zb (.n 0) rfl (Zg ?_))))))
 refine zW (Zbf hp (fun x5 fr k=>fr 5=.p F 0∧fr 38=t∧fr 39=.n (lists.length:Int)∧fr 40=.n x5∧Own B h k [zI F (Zdf.c at_),eSl eV t a,Zbj Zd a lists]) (fun | .inl _,e,fr,k=>e=(.exit 0)∧Own B h k [] | .inr _,e,fr,k=>e=.ret∧fr 6=.b false∧Own B h k []) ⟨a5,rfl,rfl,rfl,(I.pk [0,1,2])⟩ ?_ ?_)
 ·rintro x5 bG ad ⟨D,P,Q,C,f⟩ bD hp
  dsimp only [zi.s0] at hp
  refine Zl (Zc (z3 C Q) (Zg (ZN (zB hp rfl (fun al hp=>?_) (fun al hp=>?_)))))
  ·refine Zal (ZN (zW (Zl (ckk hp fun g hp=>Zc (zm (f.sl 1 rfl) P C (by rw [(f.allLen 2 rfl:(a).length=(lists).length)]; exact g)) (Zc (zE (f.sl 1 rfl) rfl (by rw [(f.allLen 2 rfl:(a).length=(lists).length)]; exact Zh g) rfl) ?_)))))
   refine Zb ((gi a x5.toNat)) rfl (Zg (Zl (Zb ((gi a x5.toNat)) rfl ?_)))
   obtain ⟨x6,⟨bS,ae,aC,rfl,aU⟩,hp⟩:=bdk hp fun _=>z9.ok (h:=ad)  (f.inn 2 rfl (Zh g):Sl Zd ad (gi a x5.toNat) (gi lists x5.toNat))
   refine Zat rfl rfl aC ?_
   have W:=f.call aU rfl
   refine Zb (.n x6) rfl (Zg (ZN (Zl (Zb ((gi a x5.toNat)) rfl ?_))))
   obtain ⟨x7,⟨bT,a0,aD,bY,rfl,aV⟩,hp⟩:=bdk hp fun _=>za.ok (h:=ae)  (W.inn 2 rfl (Zh g):Sl Zd ae (gi a x5.toNat) (gi lists x5.toNat))
   refine Zat rfl rfl aD ?_
   have X:=W.call aV rfl
   obtain ⟨x8,⟨bU,af,aE,rfl,aW⟩,hp⟩:=bdk hp fun _=>z9.ok (h:=a0)  (X.sl 3 rfl)
   refine Zat rfl rfl aE ?_
   have j:=X.call aW rfl
   refine Zb (.n x6) rfl (Zc (ZcH rfl rfl) (Zg (zB hp rfl (fun am hp=>?_) (fun am hp=>?_))))
   ·refine Zl (Zb (.b false) rfl (Zg (Zak (zG (Zbh (zG ?_))))))
    cases hp
    exact ⟨nofun,rfl,rfl,(j.pk [])⟩
   ·refine Zal (Zl (Zb ((gi a x5.toNat)) rfl (Zc (ZdP (o:=0) (o':=0) D rfl (by decide) rfl) (Zc (zd (j.box 0 rfl) rfl rfl) (ckk hp fun aq hp=>Zc (ZcB rfl aq) ?_)))))
    refine Zc (ZdP (o:=0) (o':=1) D rfl (by decide) rfl) (Zc (zd (j.box 0 rfl) rfl rfl) (ckk hp fun ar hp=>Zc (ZcB rfl ar) ?_))
    obtain ⟨⟨x9,x10,x11⟩,⟨bV,O,aF,rfl,aX⟩,hp⟩:=bdk hp fun _=>zU.ok (h:=af)  (j.inn 2 rfl (Zh g):Sl Zd af (gi a x5.toNat) (gi lists x5.toNat))
    refine Zat rfl rfl aF ?_
    have L:=j.call aX rfl
    refine Zb (.tu [.n x9,.n x10,.b x11]) rfl (Zc (ZaJ rfl rfl) (Zc (ZaJ rfl rfl) (Zc (ZaJ rfl rfl) (Zb (.n x9) rfl (Zb (.n x10) rfl (Zb (.b x11) rfl (Zg ?_)))))))
    refine Zl (Zb (.b x11) rfl (Zg (zB hp rfl (fun an hp=>?_) (fun an hp=>?_))))
    ·refine Zl (Zb ((gi a x5.toNat)) rfl (Zb (.n x9) rfl (Zb (.n x10) rfl ?_)))
     obtain ⟨⟨x12,x13,x14⟩,⟨bW,ah,aG,H,bd,rfl,aY,ac⟩,hp⟩:=bdk hp fun _=>ZdI.ok (h:=O)  (Own.start0 O) (Sl.rdk (L.inn 2 rfl (Zh g):Sl Zd O (gi a x5.toNat) (gi lists x5.toNat)))
     refine Zat rfl rfl aG ?_
     have Y:=L.call ac rfl
     refine Zb (.tu [H,.n x13,.n x14]) rfl (Zc (ZaJ rfl rfl) (Zc (ZaJ rfl rfl) (Zc (ZaJ rfl rfl) (Zb H rfl (Zb (.n x13) rfl (Zb (.n x14) rfl (Zg ?_)))))))
     refine Zl (Zb H rfl ?_)
     obtain ⟨x15,⟨bN,bs,ax,rfl,aP⟩,hp⟩:=bdk hp fun _=>z9.ok (h:=ah)  (Y.frz 4 rfl (fun h=>aY h _ ac.ext):Sl Zd ah H x12)
     refine Zat rfl rfl ax ?_
     have aa:=Y.call aP rfl
     refine Zb (.n x6) rfl (Zc (ZcH rfl rfl) (Zg (zB hp rfl (fun ao hp=>?_) (fun ao hp=>?_))))
     ·refine Zl (Zb (.b false) rfl (Zg (Zak (Zbh (zG ?_)))))
      cases hp
      exact ⟨nofun,rfl,rfl,(aa.pk [])⟩
     ·refine ZbN (zV (Zs (zF (ckk hp fun au hp=>Zc (zn C rfl au) (Zb (.n (x5 + 1)) rfl (Zj ?_))))))
      cases hp
      exact ⟨rfl,D,P,Q,rfl,(aa.pk [0,1,2])⟩
    ·refine ZbN (zV (Zs (zF (ckk hp fun av hp=>Zc (zn C rfl av) (Zb (.n (x5 + 1)) rfl (Zj ?_))))))
     cases hp
     exact ⟨rfl,D,P,Q,rfl,(L.pk [0,1,2])⟩
  ·refine ZaZ (zM ?_)
   cases hp
   exact ⟨nofun,rfl,(f.pk [])⟩
 rintro (_ | _) hp _ bF aZ S
 ·obtain ⟨rfl,K⟩:=S
  refine Zav (Zs (Zl ?_))
  obtain ⟨x16,⟨bO,bt,ay,rfl,aQ⟩,hp⟩:=bdk hp fun _=>ZaU.ok (h:=aZ)  
  refine Zat rfl ZhA ay ?_
  have aN:=K.call aQ rfl
  refine Zb (.b x16) rfl (Zg (Zak (z6 (zJ rfl ze) ?_)))
  cases hp
  exact ⟨rfl,(aN.pk [])⟩
 ·obtain ⟨rfl,a7,K⟩:=S
  refine Zbh (zG (z6 (zJ a7 ze) ?_))
  cases hp
  exact ⟨rfl,(K.pk [])⟩

end Mu
