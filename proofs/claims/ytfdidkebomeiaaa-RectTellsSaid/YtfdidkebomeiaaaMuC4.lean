/- The code comes to what was worked out. -/
import Derived.Test.YtfdidkebomeiaaaMuDf
import Derived.Test.YtfdidkebomeiaaaMuPa
import Derived.Test.YtfdidkebomeiaaaMuC3
set_option linter.unusedVariables false
set_option linter.unnecessarySimpa false
set_option linter.unusedSimpArgs false
set_option maxHeartbeats 2000000
set_option maxRecDepth 10000
namespace Mu
open Go (IntKind BinOp UnOp)
theorem z5.ok {h:Hp}{l:List Za}{v_l:V}(s_l:Sl Zd h v_l l) {r:Int×Int}(hp:z5 l=some r) :
  ∃ u k',Is G 179 [v_l] h u k'∧V.tu [.n r.1,.n r.2]=u∧Own (fun r=>r<h.n) h k' []:=by
 refine WC.is (ZaD Zev ?_)
 unfold z5 at hp
 let B:Nat→Prop:=(fun r=>r<h.n)
 have hO:Own B h h []:=Own.start0 h
 refine Zg (Zb (.n 0) rfl (Zb (.n 0) rfl (Ze (Zg (Zb v_l rfl ?_)))))
 obtain ⟨⟨x,x1⟩,⟨_,Q,ad,rfl,al⟩,hp⟩:=bdk hp fun _=>zJ.ok (h:=h)  (hO.rd0 s_l.rd)
 refine zU rfl rfl ad ?_
 have t:=hO.call al rfl
 refine Zb (.tu [.n x,.n x1]) rfl (Zc (zC rfl rfl) (Zc (zC rfl rfl) (Zb (.n x) rfl (Zb (.n x1) rfl (Ze (Z9 (Zg (Zb (.n x1) rfl (Zc (Zca rfl rfl) (Zb (.b (!(decide (x1=0)))) rfl (zN 3 (fun f k=>Q=k∧f 20=.b ((!(decide (x1=0)))||(decide (x<0)))∧f 0=v_l∧f 4=.n x) ?_ ?_)))))))))))
 ·rcases bc (!(decide (x1=0))) with j|j
  ·refine Zl rfl j (Zl rfl j (Zc (Zct (w:=(!(decide (x1=0)))||(decide (x<0))) rfl j rfl) (Zj ?_)))
   exact ⟨rfl,rfl,rfl,rfl⟩
  ·refine Zq rfl j (Zb (.n x) rfl (Zq rfl j (Zc (zA rfl rfl) (Zc (Zcu rfl j rfl) (Zj ?_)))))
   exact ⟨rfl,rfl,rfl,rfl⟩
 rintro _ _ ⟨rfl,ag,J,ah⟩
 refine Ze (zu hp ag (fun W hp=>?_) (fun W hp=>?_))
 ·refine Zg (Zb (.n (-1)) rfl (Zb (.n 0) rfl (Ze (zK (ZI (ZN (ZY rfl (ZY rfl Z6)) ?_))))))
  cases hp
  exact ⟨rfl,(t.pk [])⟩
 ·refine Zak (Zg (Zb _ J ?_))
  obtain ⟨x2,⟨_,_,ae,g,c,rfl,am⟩,hp⟩:=bdk hp fun _=>ZG.ok (h:=Q)  (t.rd0 s_l.rd)
  refine zU rfl rfl ae ?_
  have aj:=t.call am rfl
  refine Zb g rfl (Ze (Z9 (Zg (Zb (.n 0) rfl (Ze (Zai (ZbM hp (fun i fr k=>fr 0=v_l∧fr 4=.n x∧fr 6=g∧fr 7=.n i∧Own B h k [eSl eV g c,Zci Zh c x2]) (fun|.inl _,e,fr,k=>e=(.exit 0)∧Own B h k []|.inr (x3,x4),e,fr,k=>e=.ret∧fr 2=.n x3∧fr 3=.n x4∧Own B h k []) ⟨J,ah,rfl,rfl,(aj.pk [0,1])⟩ ?_ ?_)))))))
  ·rintro i _ R ⟨S,ar,A,C,a⟩ _ hp
   dsimp only [z5.s0] at hp
   refine Z9 (Zg (Zb _ C (Zb _ A (Zc (Zh8 (n:=(x2).length) (a.sl 0 rfl) (a.allLen 1 rfl:(c).length=(x2).length) rfl) (Zc (zA rfl rfl) (Ze (zu hp rfl (fun X hp=>?_) (fun X hp=>?_))))))))
   ·refine Zak (Z9 (Zai (Zg (Zb _ S (Zb _ A (Zb _ C (ckk hp fun p hp=>Zc (ZP (a.sl 0 rfl) rfl rfl (by rw [(a.allLen 1 rfl:(c).length=(x2).length)];exact p)) (Zc (zw (a.sl 0 rfl) rfl (by rw [(a.allLen 1 rfl:(c).length=(x2).length)];exact Zf p) rfl) ?_))))))))
    obtain ⟨x5,⟨_,_,af,o,rfl,an⟩,hp⟩:=bdk hp fun _=>zZ.ok (h:=R)  (a.rd0 s_l.rd) (a.inn 1 rfl (Zf p):Sl Zh R (gi c i.toNat) (gi x2 i.toNat))
    refine zU rfl rfl af ?_
    have ak:=a.call an rfl
    refine Zb o rfl (Ze (Zg (Zb (.n 0) rfl (Ze (Zai (ZbM hp (fun k_ fr k=>fr 0=v_l∧fr 4=.n x∧fr 6=g∧fr 7=.n i∧fr 8=o∧fr 9=.n k_∧Own B h k [eSl eV g c,Zci Zh c x2,eSl Zad o x5]) (fun|.inl _,e,fr,k=>e=(.exit 2)∧fr 0=v_l∧fr 4=.n x∧fr 6=g∧fr 7=.n i∧Own B h k [eSl eV g c,Zci Zh c x2]|.inr x6,e,fr,k=>e=.ret∧fr 2=.n i∧fr 3=.n x6∧Own B h k []) ⟨S,ar,A,C,rfl,rfl,(ak.pk [0,1,2])⟩ ?_ ?_))))))
    ·rintro k_ _ ao ⟨T,D,U,E,F,H,m⟩ _ hp
     dsimp only [z5.s1] at hp
     refine Z9 (Zg (Zb _ H (Zb _ F (Zc (Zap (m.sl 2 rfl) rfl) (Zc (zA rfl rfl) (Zb (.b (decide (k_<(x5.length:Int)))) rfl (zN 4 (fun f k=>ao=k∧f 43=.b ((decide (k_<(x5.length:Int)))&&(!(decide (i=x))))∧f 0=v_l∧f 4=.n x∧f 6=g∧f 7=.n i∧f 8=o∧f 9=.n k_) ?_ ?_)))))))
     ·rcases bc (decide (k_<(x5.length:Int))) with d|d
      ·refine Zq rfl d (Zb _ E (Zq rfl d (Zb _ D (Zq rfl d (Zc (Zca rfl rfl) (Zc (ZcU rfl d rfl) (Zj ?_)))))))
       exact ⟨rfl,rfl,T,D,U,E,F,H⟩
      ·refine Zl rfl d (Zl rfl d (Zl rfl d (Zc (ZcT (w:=(decide (k_<(x5.length:Int)))&&(!(decide (i=x)))) rfl d rfl) (Zj ?_))))
       exact ⟨rfl,rfl,T,D,U,E,F,H⟩
     rintro _ _ ⟨rfl,ai,K,L,M,q,N,s⟩
     refine Ze (zu hp ai (fun Y hp=>?_) (fun Y hp=>?_))
     ·refine Zak (Z9 (Zai (Zg (Zb _ N (Zb _ s (ckk hp fun I hp=>Zc (ZP (m.sl 2 rfl) rfl rfl I) (Zc (zw (m.sl 2 rfl) rfl (Zf I) rfl) (Zc (zA rfl rfl) (Ze (zu hp rfl (fun aa hp=>?_) (fun aa hp=>?_)))))))))))
      ·refine Zg (Zb _ q (Zb _ s (Zb (.n i) rfl (Zb (.n k_) rfl (Ze (zK (ZaZ (ZI ?_))))))))
       cases hp
       exact ⟨nofun,rfl,rfl,rfl,(m.pk [])⟩
      ·refine ZcB (Zam (Zt (Zaf (Zb _ s (ckk hp fun ab hp=>Zc (ZV rfl rfl ab) (Zb (.n (k_+1)) rfl (Zj ?_)))))))
       cases hp
       exact ⟨rfl,K,L,M,q,N,rfl,(m.pk [0,1,2])⟩
     ·refine Zb8 (zW ?_)
      cases hp
      exact ⟨nofun,rfl,K,L,M,q,(m.pk [0,1])⟩
    rintro (_|x6) hp _ _ _ P
    ·obtain ⟨rfl,au,ax,ay,az,y⟩:=P
     refine Za9 (Zam (Zt (Zaf (Zb _ az (ckk hp fun ac hp=>Zc (ZV rfl rfl ac) (Zb (.n (i+1)) rfl (Zj ?_)))))))
     cases hp
     exact ⟨rfl,au,ax,ay,rfl,(y.pk [0,1])⟩
    ·obtain ⟨rfl,av,aw,y⟩:=P
     refine ZaZ (ZaZ (ZI ?_))
     cases hp
     exact ⟨nofun,rfl,av,aw,(y.pk [])⟩
   ·refine Zb8 (zW ?_)
    cases hp
    exact ⟨nofun,rfl,(a.pk [])⟩
  rintro (_|⟨x3,x4⟩) hp _ _ _ O
  ·obtain ⟨rfl,v⟩:=O
   refine Za9 (Zt (Zg (Zb (.n (-1)) rfl (Zb (.n 0) rfl (Ze (zK (ZN (ZY rfl (ZY rfl Z6)) ?_)))))))
   cases hp
   exact ⟨rfl,(v.pk [])⟩
  ·obtain ⟨rfl,ap,aq,v⟩:=O
   refine ZaZ (ZI (ZN (ZY ap (ZY aq Z6)) ?_))
   cases hp
   exact ⟨rfl,(v.pk [])⟩

theorem ZbP.ok {h:Hp}{l:List Za}{v:Int}{d:Int}{v_l:V}(H:Own (Bm h [eSl Zd v_l l]) h h [eSl Zd v_l l]) {r:(List Za)×Int×Int}(hp:ZbP l v d=some r) :
  ∃ u k',Is G 49 [v_l,.n v,.n d] h u k'∧∃ aa,V.tu [aa,.n r.2.1,.n r.2.2]=u∧Own (Bm h [eSl Zd v_l l]) h k' [eSl Zd aa r.1]:=by
 refine WC.is (ZaD Zeo ?_)
 unfold ZbP at hp
 let B:Nat→Prop:=(Bm h [eSl Zd v_l l])
 have hO:Own B h h [eSl Zd v_l l]:=H
 refine Zg (Zb (.sn) rfl (Zb (.n 0) rfl (Zb (.n 0) rfl (Ze (Z9 (Zg (Zb (.n v) rfl (Zc (zA rfl rfl) (Zb (.b (decide (v<0))) rfl (zN 5 (fun f k=>h=k∧f 20=.b ((decide (v<0))||(decide ((l.length:Int)≤v)))∧f 0=v_l∧f 1=.n v∧f 2=.n d) ?_ ?_))))))))))
 ·rcases bc (decide (v<0)) with a|a
  ·refine Zl rfl a (Zl rfl a (Zl rfl a (Zl rfl a (Zc (Zct (w:=(decide (v<0))||(decide ((l.length:Int)≤v))) rfl a rfl) (Zj ?_)))))
   exact ⟨rfl,rfl,rfl,rfl,rfl⟩
  ·refine Zq rfl a (Zb (.n v) rfl (Zq rfl a (Zb v_l rfl (Zq rfl a (Zc (Zap (hO.sl 0 rfl) rfl) (Zq rfl a (Zc (Zda rfl rfl) (Zc (Zcu rfl a rfl) (Zj ?_)))))))))
   exact ⟨rfl,rfl,rfl,rfl,rfl⟩
 rintro _ _ ⟨rfl,ao,O,P,y⟩
 refine Zb _ ao (zN 3 (fun f k=>h=k∧f 24=.b (((decide (v<0))||(decide ((l.length:Int)≤v)))||(decide (d<0)))∧f 0=v_l∧f 1=.n v∧f 2=.n d) ?_ ?_)
 ·rcases bc ((decide (v<0))||(decide ((l.length:Int)≤v))) with j|j
  ·refine Zl rfl j (Zl rfl j (Zc (Zct (w:=((decide (v<0))||(decide ((l.length:Int)≤v)))||(decide (d<0))) rfl j rfl) (Zj ?_)))
   exact ⟨rfl,rfl,O,P,y⟩
  ·refine Zq rfl j (Zb _ y (Zq rfl j (Zc (zA rfl rfl) (Zc (Zcu rfl j rfl) (Zj ?_)))))
   exact ⟨rfl,rfl,O,P,y⟩
 rintro _ _ ⟨rfl,ap,Q,R,A⟩
 refine Zb _ ap (zN 3 (fun f k=>h=k∧f 28=.b ((((decide (v<0))||(decide ((l.length:Int)≤v)))||(decide (d<0)))||(decide (3<d)))∧f 0=v_l∧f 1=.n v∧f 2=.n d) ?_ ?_)
 ·rcases bc (((decide (v<0))||(decide ((l.length:Int)≤v)))||(decide (d<0))) with o|o
  ·refine Zl rfl o (Zl rfl o (Zc (Zct (w:=(((decide (v<0))||(decide ((l.length:Int)≤v)))||(decide (d<0)))||(decide (3<d))) rfl o rfl) (Zj ?_)))
   exact ⟨rfl,rfl,Q,R,A⟩
  ·refine Zq rfl o (Zb _ A (Zq rfl o (Zc (Zd1 rfl rfl) (Zc (Zcu rfl o rfl) (Zj ?_)))))
   exact ⟨rfl,rfl,Q,R,A⟩
 rintro _ _ ⟨rfl,aq,g,C,s⟩
 refine Ze (zu hp aq (fun ad hp=>?_) (fun ad hp=>?_))
 ·refine Zg (Zb _ g (Zb v_l rfl (Zb (.n 0) rfl (Zb (.n 2) rfl (Ze (zK (ZI (ZN (ZY rfl (ZY rfl (ZY rfl Z6))) ?_))))))))
  cases hp
  exact ⟨v_l,rfl,(hO.pk [0])⟩
 ·refine Zak (Zg (Zb _ g (Zb _ C (Zb _ s (ckk hp fun e hp=>Zc (ZP (hO.sl 0 rfl) rfl rfl e) (Zc (ZaR (hO.sl 0 rfl) (Zf e) rfl rfl) (ckk hp fun p hp=>Zc (Zbd (hO.sl 0 rfl) (Zf e) rfl rfl p rfl) (Zc (zw (hO.sl 0 rfl) rfl (Zf e) (zL p)) (Zb (.n (((gi l v.toNat).Next).get d)) rfl ?_)))))))))
  refine Ze (Z9 (Zg (Zb (.n (((gi l v.toNat).Next).get d)) rfl (Zc (Zb7 rfl rfl) (Ze (zu hp rfl (fun ae hp=>?_) (fun ae hp=>?_)))))))
  ·refine Zg (Zb _ g (Zb v_l rfl (Zb (.n 0) rfl (Zb (.n 9) rfl (Ze (zK (ZI (ZN (ZY rfl (ZY rfl (ZY rfl Z6))) ?_))))))))
   cases hp
   exact ⟨v_l,rfl,(hO.pk [0])⟩
  ·refine Zak (Z9 (Zg (Zb _ g (Zc (Zap (hO.sl 0 rfl) rfl) (Zc (Zda rfl rfl) (Ze (zu hp rfl (fun af hp=>?_) (fun af hp=>?_))))))))
   ·refine Zg (Zb _ g (Zb v_l rfl (Zb (.n 0) rfl (Zb (.n 6) rfl (Ze (zK (ZI (ZN (ZY rfl (ZY rfl (ZY rfl Z6))) ?_))))))))
    cases hp
    exact ⟨v_l,rfl,(hO.pk [0])⟩
   ·refine Zak (Zg (Zb _ g (Zb _ C (Zb _ s (Zc (ZP (hO.sl 0 rfl) rfl rfl e) (Zc (ZaR (hO.sl 0 rfl) (Zf e) rfl rfl) (Zc (Zbd (hO.sl 0 rfl) (Zf e) rfl rfl p rfl) (Zc (zw (hO.sl 0 rfl) rfl (Zf e) (Zc2 p)) (Zb (.n (((gi l v.toNat).Owner).get d)) rfl (Ze ?_))))))))))
    refine Zg (Zb _ g (Zc (Zap (hO.sl 0 rfl) rfl) (Zb (.n (l.length:Int)) rfl (Ze (Zg ?_)))))
    obtain ⟨x,⟨_,J,ai,ab,rfl,au⟩,hp⟩:=bdk hp fun _=>ZO.ok (h:=h)  
    refine zU rfl rfl ai ?_
    have D:=hO.call au rfl
    refine Zb ab rfl (Ze (Z9 (Zgp ?_)))
    have S:=D.bump 8
    have M:=Fresh.start J 8
    have Y:∀ {i:Nat},h.n≤J.n+i:=Nat.le_trans D.n (Nat.le_add_right _ _)
    refine Zbl _ g ?_
    obtain ⟨x1,⟨_,_,aj,_,rfl,I⟩,hp⟩:=bdk hp fun _=>Zae.ok (h:=(J.bump 8))  (S.sl 0 rfl)
    refine ZiM rfl rfl aj ?_
    have N:=M.call I
    have F:=S.call I rfl
    refine Zbl ab rfl (ckk hp fun L hp=>z8 (ZP (F.sl 1 rfl) rfl rfl L) (z8 (Zfm (F.sl 1 rfl) rfl (Zf L)) (ZeT (F.bsl (E:=Zd) (l:=[gi x (0:Int).toNat]) ⟨N.m 5 (by decide) (by decide),Y⟩ (by rw [(zf (v:=.ag (Zd.c (gi x (0:Int).toNat))) rfl Zbb)];rfl) rfl) ?_)))
    rintro _ _ _ ⟨_,am,T⟩
    have an:=N.kept am (by decide)
    refine ckk hp fun ah hp=>ZeT (T.app (bytes:=64) 2 ⟨an.m 6 (by decide) (by decide),Y⟩ rfl (T.sl 3 rfl) rfl rfl (fun _=>rfl) ah (by decide)) ?_
    rintro K X _ ⟨_,U⟩
    refine Zbl K rfl (ZcW ?_)
    refine And.intro ?_ ?_
    ·intro q hq
     simp only [List.mem_cons,List.not_mem_nil,or_false] at hq
     rcases hq with rfl|rfl
     ·refine ZoQ rfl ?_
      ·exact (fun r hm hc=>hc (I.base r (Nat.lt_of_lt_of_le (D.ltAt 1 rfl _ (Zc7 (tch (ZcV hm) rfl))) (Nat.le_trans (Nat.le_add_right _ _) M.n))))
     ·refine ZoQ rfl ?_
      ·exact (fun r hm hc=>nomatch hm)
    refine Zt (Zg (Zb K rfl (Zb _ C (Zb _ s (Zb (.n (l.length:Int)) rfl (Zb (.n (((gi l v.toNat).Owner).get d)) rfl ?_))))))
    obtain ⟨x2,⟨_,ax,ak,ac,rfl,av⟩,hp⟩:=bdk hp fun _=>Zae.ok (h:=X)  (U.sl 2 rfl:Sl Zd X K (x1++[gi x (0:Int).toNat]))
    refine zU rfl rfl ak ?_
    have W:=U.call av rfl
    refine Zb ac rfl (Ze (Zg (Zb ac rfl (Zb (.n (l.length:Int)) rfl (Zb _ s (Zb (.n (((gi l v.toNat).Next).get d)) rfl (Zb (.n (((gi l v.toNat).Owner).get d)) rfl ?_)))))))
    obtain ⟨x3,⟨_,_,al,t,rfl,aw⟩,hp⟩:=bdk hp fun _=>Zae.ok (h:=ax)  (W.sl 4 rfl)
    refine zU rfl rfl al ?_
    have ar:=W.call aw rfl
    refine Zb t rfl (Ze (Zg (Zb t rfl (Zb (.n (l.length:Int)) rfl (Zb t rfl (Zb (.n (l.length:Int)) rfl (Zb (.n 0) rfl (Ze (zK (ZN (ZY rfl (ZY rfl (ZY rfl Z6))) ?_))))))))))
    cases hp
    exact ⟨t,rfl,(ar.pk [5])⟩

theorem z7.ok {h:Hp}{l:List Za}{v_l:V}(H:Own (Bm h [eSl Zd v_l l]) h h [eSl Zd v_l l]) {r:(List Za)×Int}(hp:z7 l=some r) :
  ∃ u k',Is G 260 [v_l] h u k'∧∃ U,V.tu [U,.n r.2]=u∧Own (Bm h [eSl Zd v_l l]) h k' [eSl Zd U r.1]:=by
 refine WC.is (ZaD Zdl ?_)
 unfold z7 at hp
 let B:Nat→Prop:=(Bm h [eSl Zd v_l l])
 have hO:Own B h h [eSl Zd v_l l]:=H
 refine Zg (Zb (.sn) rfl (Zb (.n 0) rfl (Ze (Z9 (Zg (Zb v_l rfl (Zc (Zap (hO.sl 0 rfl) rfl) (Zc (Zb7 rfl rfl) (Ze (Zii hp (fun|.inl _,e,fr,k=>e=.normal∧fr 0=v_l∧Own B h k [eSl Zd v_l l]|.inr _,e,fr,k=>e=.ret∧fr 2=v_l∧fr 3=.n 0∧Own B h k [eSl Zd v_l l]) (fun _ hp=>?_) ?_))))))))))
 ·refine zu hp rfl (fun X hp=>?_) (fun X hp=>?_)
  ·refine Zg (Zb v_l rfl ?_)
   obtain ⟨⟨x,x1⟩,⟨_,_,af,rfl,au⟩,hp⟩:=bdk hp fun _=>zJ.ok (h:=h)  (hO.sl 0 rfl)
   refine zU rfl rfl af ?_
   have P:=hO.call au rfl
   refine Zb (.tu [.n x,.n x1]) rfl (Zc (zC rfl rfl) (Zc (zC rfl rfl) (Zb (.n x) rfl (Zb (.n x1) rfl (Ze (Zg (Zb (.n x1) rfl (Zc (Zb7 rfl rfl) (Ze (zu hp rfl (fun Y hp=>?_) (fun Y hp=>?_)))))))))))
   ·refine Zg (Zb v_l rfl (Zb v_l rfl (Zb (.n 0) rfl (Ze (zK ?_)))))
    cases hp
    exact ⟨rfl,rfl,rfl,(P.pk [0])⟩
   ·refine ZcB ?_
    cases hp
    exact ⟨rfl,rfl,(P.pk [0])⟩
  ·refine ZcB ?_
   cases hp
   exact ⟨rfl,rfl,(hO.pk [0])⟩
 rintro (_|_) hp _ _ aC N
 ·obtain ⟨rfl,aG,A⟩:=N
  refine Zt (Zg (Zb _ aG ?_))
  obtain ⟨⟨x2,x3⟩,⟨_,_,ag,J,rfl,av⟩,hp⟩:=bdk hp fun _=>zP.ok (h:=aC)  (A.sl 0 rfl)
  refine zU rfl rfl ag ?_
  have Q:=A.call av rfl
  refine Zb (.tu [J,.n x3]) rfl (Zc (zC rfl rfl) (Zc (zC rfl rfl) (Zb J rfl (Zb (.n x3) rfl (Ze (Z9 (Zg (Zb (.n x3) rfl (Zc (Zca rfl rfl) (Ze (zu hp rfl (fun aa hp=>?_) (fun aa hp=>?_))))))))))))
  ·refine Zg (Zb (.n x3) rfl (Zb (.sn) rfl (Zb (.n x3) rfl (Ze (zK (ZI ?_))))))
   have ar:=Q.nil Zd
   refine ZN (ZY rfl (ZY rfl Z6)) ?_
   cases hp
   exact ⟨V.sn,rfl,(ar.pk [2])⟩
  ·refine Zak (Z9 (Zg (Zb (.n 0) rfl (Ze (Zai (ZbM hp (fun|(l1,step),fr,k=>∃ t,fr 0=t∧fr 7=.n step∧Own B h k [eSl Zd t l1,eSl Zd v_l l]) (fun|.inl _,e,fr,k=>e=(.exit 0)∧Own B h k [eSl Zd v_l l]|.inr (x4,x5),e,fr,k=>e=.ret∧∃ D,fr 2=D∧fr 3=.n x5∧Own B h k [eSl Zd D x4,eSl Zd v_l l]) ⟨J,rfl,rfl,(Q.pk [1,0])⟩ ?_ ?_))))))
   ·rintro ⟨l1,step⟩ _ aD ⟨t,s,T,F⟩ _ hp
    dsimp only [z7.s0] at hp
    refine Z9 (Zg (Zb _ T (Zc (zA rfl rfl) (Ze (zu hp rfl (fun ab hp=>?_) (fun ab hp=>?_))))))
    ·refine Zak (Z9 (Zai (Zg (Zb _ s ?_))))
     obtain ⟨⟨x6,x7⟩,⟨_,aE,ah,rfl,aw⟩,hp⟩:=bdk hp fun _=>z5.ok (h:=aD)  (F.sl 0 rfl)
     refine zU rfl rfl ah ?_
     have I:=F.call aw rfl
     refine Zb (.tu [.n x6,.n x7]) rfl (Zc (zC rfl rfl) (Zc (zC rfl rfl) (Zb (.n x6) rfl (Zb (.n x7) rfl (Ze (Z9 (Zg (Zb (.n x6) rfl (Zc (zA rfl rfl) (Ze (zu hp rfl (fun ac hp=>?_) (fun ac hp=>?_))))))))))))
     ·refine Zg (Zb _ s (Zb t rfl (Zb (.n 0) rfl (Ze (zK (ZI (ZaZ (ZI ?_))))))))
      cases hp
      exact ⟨nofun,rfl,t,rfl,rfl,(I.pk [0,1])⟩
     ·refine Zak (Zg (Zb _ s ?_))
      obtain ⟨x8,⟨_,S,ai,_,a,rfl,ax⟩,hp⟩:=bdk hp fun _=>ZG.ok (h:=aE)  (I.sl 0 rfl)
      refine zU rfl rfl ai ?_
      have j:=I.call ax rfl
      refine Zb (.n x6) rfl (ckk hp fun b hp=>Zc (ZP (j.sl 2 rfl) rfl rfl (by rw [(j.allLen 3 rfl:(a).length=(x8).length)];exact b)) (Zc (zw (j.sl 2 rfl) rfl (by rw [(j.allLen 3 rfl:(a).length=(x8).length)];exact Zf b) rfl) (Zb ((gi a x6.toNat)) rfl (Ze (Zg (Zb _ s (Zb ((gi a x6.toNat)) rfl ?_)))))))
      obtain ⟨x9,⟨_,aF,aj,W,rfl,ay⟩,hp⟩:=bdk hp fun _=>zZ.ok (h:=S)  (j.sl 0 rfl) (j.inn 3 rfl (Zf b):Sl Zh S (gi a x6.toNat) (gi x8 x6.toNat))
      refine zU rfl rfl aj ?_
      have R:=j.call ay rfl
      refine Zb W rfl (Ze (Zg (Zb W rfl (Zb (.n x7) rfl ?_))))
      obtain ⟨x10,⟨_,c,ak,rfl,az⟩,hp⟩:=bdk hp fun _=>zV.ok (h:=aF)  (R.sl 4 rfl)
      refine zU rfl rfl ak ?_
      have an:=R.call az rfl
      refine Zb (.n x10) rfl (Ze (Z9 (Zhl ?_)))
      have f:=an.bump 16
      refine ZaK _ s (ZaK ((gi a x6.toNat)) rfl (ZaK (.n x7) rfl (ckk hp fun g hp=>za rfl (ZP (f.inn 3 rfl (Zf b):Sl Zh (c.bump 16) (gi a x6.toNat) (gi x8 x6.toNat)) rfl rfl g) (za rfl (ZaR (f.inn 3 rfl (Zf b):Sl Zh (c.bump 16) (gi a x6.toNat) (gi x8 x6.toNat)) (Zf g) rfl rfl) (za rfl (zw (f.inn 3 rfl (Zf b):Sl Zh (c.bump 16) (gi a x6.toNat) (gi x8 x6.toNat)) rfl (Zf g) rfl) (ZaK ((gi a x6.toNat)) rfl (ZaK (.n x7) rfl (za rfl (ZP (f.inn 3 rfl (Zf b):Sl Zh (c.bump 16) (gi a x6.toNat) (gi x8 x6.toNat)) rfl rfl g) (za rfl (ZaR (f.inn 3 rfl (Zf b):Sl Zh (c.bump 16) (gi a x6.toNat) (gi x8 x6.toNat)) (Zf g) rfl rfl) (za rfl (zw (f.inn 3 rfl (Zf b):Sl Zh (c.bump 16) (gi a x6.toNat) (gi x8 x6.toNat)) rfl (Zf g) rfl) (ckk hp fun y hp=>za rfl (ZP (f.sl 0 rfl) rfl rfl y) ?_)))))))))))
      refine za rfl (ZaR (f.sl 0 rfl) (Zf y) rfl rfl) (ckk hp fun M hp=>za rfl (Zbd (f.sl 0 rfl) (Zf y) rfl rfl M rfl) (za rfl (zw (f.sl 0 rfl) rfl (Zf y) (zL M)) (ZaK (.n (((gi l1 ((gi (gi x8 x6.toNat) x7.toNat).Cell:Int).toNat).Next).get ((gi (gi x8 x6.toNat) x7.toNat).Dir))) rfl (Zba (Zt (Zg (Zb (.n 0) rfl (Ze (Z9 (Zgp ?_))))))))))
      have i:=f.bump 19
      refine Zbl _ s (Zbl ((gi a x6.toNat)) rfl (Zbl (.n x10) rfl (ckk hp fun m hp=>z8 (ZP (i.inn 3 rfl (Zf b):Sl Zh ((c.bump 16).bump 19) (gi a x6.toNat) (gi x8 x6.toNat)) rfl rfl m) (z8 (ZaR (i.inn 3 rfl (Zf b):Sl Zh ((c.bump 16).bump 19) (gi a x6.toNat) (gi x8 x6.toNat)) (Zf m) rfl rfl) (z8 (zw (i.inn 3 rfl (Zf b):Sl Zh ((c.bump 16).bump 19) (gi a x6.toNat) (gi x8 x6.toNat)) rfl (Zf m) rfl) (Zbl ((gi a x6.toNat)) rfl (Zbl (.n x10) rfl (z8 (ZP (i.inn 3 rfl (Zf b):Sl Zh ((c.bump 16).bump 19) (gi a x6.toNat) (gi x8 x6.toNat)) rfl rfl m) (z8 (ZaR (i.inn 3 rfl (Zf b):Sl Zh ((c.bump 16).bump 19) (gi a x6.toNat) (gi x8 x6.toNat)) (Zf m) rfl rfl) (z8 (zw (i.inn 3 rfl (Zf b):Sl Zh ((c.bump 16).bump 19) (gi a x6.toNat) (gi x8 x6.toNat)) rfl (Zf m) rfl) ?_))))))))))
      obtain ⟨⟨x11,x12,x13⟩,⟨_,C,al,K,rfl,aA⟩,hp⟩:=bdk hp fun _=>ZbP.ok (h:=((c.bump 16).bump 19)) (l:=l1) (v:=((gi (gi x8 x6.toNat) x10.toNat).Cell)) (d:=((gi (gi x8 x6.toNat) x10.toNat).Dir)) (i.toM [0] rfl (by decide)) 
      refine ZiM rfl rfl al ?_
      have p:=(i.callM [0] [1,2,3,4] rfl rfl (by decide) aA rfl).pick [900,0,1,2,3,4] rfl (by decide)
      refine Zbl (.tu [K,.n x12,.n x13]) rfl (z8 (zC rfl rfl) (z8 (zC rfl rfl) (z8 (zC rfl rfl) (Zbl K rfl (Zbl (.n x12) rfl (Zbl (.n x13) rfl (ZcW ?_)))))))
      refine And.intro ?_ ?_
      ·intro q hq
       simp only [List.mem_cons,List.not_mem_nil,or_false] at hq
       rcases hq with rfl
       ·refine ZaX ?_ ?_
        ·exact (fun h=>nomatch h)
        ·exact (fun h=>nomatch h)
      refine Zt (Z9 (Zg (Zb (.n x13) rfl (Zc (Zca rfl rfl) (Ze (zu hp rfl (fun ad hp=>?_) (fun ad hp=>?_)))))))
      ·refine Zg (Zb (.n x13) rfl (Zb (.sn) rfl (Zb (.n x13) rfl (Ze (zK (ZI (ZaZ (ZI ?_))))))))
       have ao:=p.nil Zd
       cases hp
       exact ⟨nofun,rfl,V.sn,rfl,rfl,(ao.pk [6,1])⟩
      ·refine Zak (Zaf (Zb K rfl (Zb (.n (((gi l1 ((gi (gi x8 x6.toNat) x7.toNat).Cell:Int).toNat).Next).get ((gi (gi x8 x6.toNat) x7.toNat).Dir))) rfl (Zb ((gi a x6.toNat)) rfl (Zb (.n x7) rfl (Zc (ZP (p.inn 3 rfl (Zf b):Sl Zh C (gi a x6.toNat) (gi x8 x6.toNat)) rfl rfl g) (Zc (ZaR (p.inn 3 rfl (Zf b):Sl Zh C (gi a x6.toNat) (gi x8 x6.toNat)) (Zf g) rfl rfl) (Zc (zw (p.inn 3 rfl (Zf b):Sl Zh C (gi a x6.toNat) (gi x8 x6.toNat)) rfl (Zf g) rfl) (Zb (.n x12) rfl ?_)))))))))
       obtain ⟨⟨x14,x15⟩,⟨_,_,am,L,rfl,aB⟩,hp⟩:=bdk hp fun _=>ZQ.ok (h:=C) (l:=x11) (v:=(((gi l1 ((gi (gi x8 x6.toNat) x7.toNat).Cell:Int).toNat).Next).get ((gi (gi x8 x6.toNat) x7.toNat).Dir))) (d:=((gi (gi x8 x6.toNat) x7.toNat).Dir)) (w:=x12) (o:=(-2)) (p.toM [5] rfl (by decide)) 
       refine zU rfl rfl am ?_
       have ap:=(p.callM [5] [1,2,3,4] rfl rfl (by decide) aB rfl).pick [900,0,1,2,3,901,4] rfl (by decide)
       refine Zb (.tu [L,.n x15]) rfl (Zc (zC rfl rfl) (Zc (zC rfl rfl) (Zb L rfl (Zj (Zam (Zt (Zaf (Zb _ T (ckk hp fun ae hp=>Zc (ZV rfl rfl ae) (Zb (.n (step+1)) rfl (Zj ?_)))))))))))
       cases hp
       exact ⟨rfl,L,rfl,rfl,(ap.pk [6,1])⟩
    ·refine Zb8 (zW ?_)
     cases hp
     exact ⟨nofun,rfl,(F.pk [1])⟩
   rintro (_|⟨x4,x5⟩) hp _ _ _ O
   ·obtain ⟨rfl,E⟩:=O
    refine Za9 (Zt (Zg (Zb (.sn) rfl (Zb (.n 6) rfl (Ze (zK ?_))))))
    have aq:=E.nil Zd
    refine ZN (ZY rfl (ZY rfl Z6)) ?_
    cases hp
    exact ⟨V.sn,rfl,(aq.pk [1])⟩
   ·obtain ⟨rfl,D,aJ,aK,E⟩:=O
    refine ZaZ (ZI (ZN (ZY aJ (ZY aK Z6)) ?_))
    cases hp
    exact ⟨D,rfl,(E.pk [0])⟩
 ·obtain ⟨rfl,aH,aI,A⟩:=N
  refine ZI (ZN (ZY aH (ZY aI Z6)) ?_)
  cases hp
  exact ⟨v_l,rfl,(A.pk [0])⟩

theorem Zgc.ok {h:Hp}{B0:Nat→Prop}{h0:Hp}{l:List Za}{v_l:V}(HO:Own B0 h0 h []) (S_l:Rd B0 h0 Zd v_l l) {r:(List Za)×Int}(hp:z7 l=some r) :
  ∃ u k',Is G 260 [v_l] h u k'∧∃ I,∃ (M:Bool),V.tu [I,.n r.2]=u∧(M=false→Rd B0 h0 Zd I r.1)∧Own (fun r=>r<h.n) h k' [Zod M Zd I r.1]:=by
 refine WC.is (ZaD Zdl ?_)
 unfold z7 at hp
 let B:Nat→Prop:=(fun r=>r<h.n)
 have hO:Own B h h []:=Own.start0 h
 refine Zg (Zb (.sn) rfl (Zb (.n 0) rfl (Ze (Z9 (Zg (Zb v_l rfl (Zc (Zap (hO.rd0 (Rd.via HO S_l):Sl Zd h v_l l) rfl) (Zc (Zb7 rfl rfl) (Ze (Zii hp (fun|.inl _,e,fr,k=>e=.normal∧fr 0=v_l∧Own B h k []|.inr _,e,fr,k=>e=.ret∧fr 2=v_l∧fr 3=.n 0∧Own B h k []) (fun _ hp=>?_) ?_))))))))))
 ·refine zu hp rfl (fun Y hp=>?_) (fun Y hp=>?_)
  ·refine Zg (Zb v_l rfl ?_)
   obtain ⟨⟨x,x1⟩,⟨_,_,ag,rfl,ar⟩,hp⟩:=bdk hp fun _=>zJ.ok (h:=h)  (hO.rd0 (Rd.via HO S_l):Sl Zd h v_l l)
   refine zU rfl rfl ag ?_
   have Q:=hO.call ar rfl
   refine Zb (.tu [.n x,.n x1]) rfl (Zc (zC rfl rfl) (Zc (zC rfl rfl) (Zb (.n x) rfl (Zb (.n x1) rfl (Ze (Zg (Zb (.n x1) rfl (Zc (Zb7 rfl rfl) (Ze (zu hp rfl (fun aa hp=>?_) (fun aa hp=>?_)))))))))))
   ·refine Zg (Zb v_l rfl (Zb v_l rfl (Zb (.n 0) rfl (Ze (zK ?_)))))
    cases hp
    exact ⟨rfl,rfl,rfl,(Q.pk [])⟩
   ·refine ZcB ?_
    cases hp
    exact ⟨rfl,rfl,(Q.pk [])⟩
  ·refine ZcB ?_
   cases hp
   exact ⟨rfl,rfl,(hO.pk [])⟩
 rintro (_|_) hp _ _ T O
 ·obtain ⟨rfl,aE,A⟩:=O
  refine Zt (Zg (Zb _ aE ?_))
  obtain ⟨⟨x2,x3⟩,⟨_,_,ah,J,rfl,au⟩,hp⟩:=bdk hp fun _=>zP.ok (h:=T)  (A.rd0 (Rd.via HO S_l):Sl Zd T v_l l)
  refine zU rfl rfl ah ?_
  have R:=A.call au rfl
  refine Zb (.tu [J,.n x3]) rfl (Zc (zC rfl rfl) (Zc (zC rfl rfl) (Zb J rfl (Zb (.n x3) rfl (Ze (Z9 (Zg (Zb (.n x3) rfl (Zc (Zca rfl rfl) (Ze (zu hp rfl (fun ab hp=>?_) (fun ab hp=>?_))))))))))))
  ·refine Zg (Zb (.n x3) rfl (Zb (.sn) rfl (Zb (.n x3) rfl (Ze (zK (ZI (ZN (ZY rfl (ZY rfl Z6)) ?_)))))))
   cases hp
   exact ⟨V.sn,false,rfl,(fun _=>(fun _ _=>Sl.nil)),(R.pk [900])⟩
  ·refine Zak (Z9 (Zg (Zb (.n 0) rfl (Ze (Zai (ZbM hp (fun|(l1,step),fr,k=>∃ t,fr 0=t∧fr 7=.n step∧Own B h k [eSl Zd t l1]) (fun|.inl _,e,fr,k=>e=(.exit 0)∧Own B h k []|.inr (x4,x5),e,fr,k=>e=.ret∧∃ D,fr 2=D∧fr 3=.n x5∧Own B h k [eSl Zd D x4]) ⟨J,rfl,rfl,(R.pk [0])⟩ ?_ ?_))))))
   ·rintro ⟨l1,step⟩ _ aB ⟨t,s,W,F⟩ _ hp
    dsimp only [z7.s0] at hp
    refine Z9 (Zg (Zb _ W (Zc (zA rfl rfl) (Ze (zu hp rfl (fun ac hp=>?_) (fun ac hp=>?_))))))
    ·refine Zak (Z9 (Zai (Zg (Zb _ s ?_))))
     obtain ⟨⟨x6,x7⟩,⟨_,aC,ai,rfl,av⟩,hp⟩:=bdk hp fun _=>z5.ok (h:=aB)  (F.sl 0 rfl)
     refine zU rfl rfl ai ?_
     have H:=F.call av rfl
     refine Zb (.tu [.n x6,.n x7]) rfl (Zc (zC rfl rfl) (Zc (zC rfl rfl) (Zb (.n x6) rfl (Zb (.n x7) rfl (Ze (Z9 (Zg (Zb (.n x6) rfl (Zc (zA rfl rfl) (Ze (zu hp rfl (fun ad hp=>?_) (fun ad hp=>?_))))))))))))
     ·refine Zg (Zb _ s (Zb t rfl (Zb (.n 0) rfl (Ze (zK (ZI (ZaZ (ZI ?_))))))))
      cases hp
      exact ⟨nofun,rfl,t,rfl,rfl,(H.pk [0])⟩
     ·refine Zak (Zg (Zb _ s ?_))
      obtain ⟨x8,⟨_,U,aj,_,a,rfl,aw⟩,hp⟩:=bdk hp fun _=>ZG.ok (h:=aC)  (H.sl 0 rfl)
      refine zU rfl rfl aj ?_
      have j:=H.call aw rfl
      refine Zb (.n x6) rfl (ckk hp fun b hp=>Zc (ZP (j.sl 1 rfl) rfl rfl (by rw [(j.allLen 2 rfl:(a).length=(x8).length)];exact b)) (Zc (zw (j.sl 1 rfl) rfl (by rw [(j.allLen 2 rfl:(a).length=(x8).length)];exact Zf b) rfl) (Zb ((gi a x6.toNat)) rfl (Ze (Zg (Zb _ s (Zb ((gi a x6.toNat)) rfl ?_)))))))
      obtain ⟨x9,⟨_,aD,ak,X,rfl,ax⟩,hp⟩:=bdk hp fun _=>zZ.ok (h:=U)  (j.sl 0 rfl) (j.inn 2 rfl (Zf b):Sl Zh U (gi a x6.toNat) (gi x8 x6.toNat))
      refine zU rfl rfl ak ?_
      have S:=j.call ax rfl
      refine Zb X rfl (Ze (Zg (Zb X rfl (Zb (.n x7) rfl ?_))))
      obtain ⟨x10,⟨_,c,al,rfl,ay⟩,hp⟩:=bdk hp fun _=>zV.ok (h:=aD)  (S.sl 3 rfl)
      refine zU rfl rfl al ?_
      have aq:=S.call ay rfl
      refine Zb (.n x10) rfl (Ze (Z9 (Zhl ?_)))
      have f:=aq.bump 16
      refine ZaK _ s (ZaK ((gi a x6.toNat)) rfl (ZaK (.n x7) rfl (ckk hp fun g hp=>za rfl (ZP (f.inn 2 rfl (Zf b):Sl Zh (c.bump 16) (gi a x6.toNat) (gi x8 x6.toNat)) rfl rfl g) (za rfl (ZaR (f.inn 2 rfl (Zf b):Sl Zh (c.bump 16) (gi a x6.toNat) (gi x8 x6.toNat)) (Zf g) rfl rfl) (za rfl (zw (f.inn 2 rfl (Zf b):Sl Zh (c.bump 16) (gi a x6.toNat) (gi x8 x6.toNat)) rfl (Zf g) rfl) (ZaK ((gi a x6.toNat)) rfl (ZaK (.n x7) rfl (za rfl (ZP (f.inn 2 rfl (Zf b):Sl Zh (c.bump 16) (gi a x6.toNat) (gi x8 x6.toNat)) rfl rfl g) (za rfl (ZaR (f.inn 2 rfl (Zf b):Sl Zh (c.bump 16) (gi a x6.toNat) (gi x8 x6.toNat)) (Zf g) rfl rfl) (za rfl (zw (f.inn 2 rfl (Zf b):Sl Zh (c.bump 16) (gi a x6.toNat) (gi x8 x6.toNat)) rfl (Zf g) rfl) (ckk hp fun y hp=>za rfl (ZP (f.sl 0 rfl) rfl rfl y) ?_)))))))))))
      refine za rfl (ZaR (f.sl 0 rfl) (Zf y) rfl rfl) (ckk hp fun N hp=>za rfl (Zbd (f.sl 0 rfl) (Zf y) rfl rfl N rfl) (za rfl (zw (f.sl 0 rfl) rfl (Zf y) (zL N)) (ZaK (.n (((gi l1 ((gi (gi x8 x6.toNat) x7.toNat).Cell:Int).toNat).Next).get ((gi (gi x8 x6.toNat) x7.toNat).Dir))) rfl (Zba (Zt (Zg (Zb (.n 0) rfl (Ze (Z9 (Zgp ?_))))))))))
      have i:=f.bump 19
      refine Zbl _ s (Zbl ((gi a x6.toNat)) rfl (Zbl (.n x10) rfl (ckk hp fun m hp=>z8 (ZP (i.inn 2 rfl (Zf b):Sl Zh ((c.bump 16).bump 19) (gi a x6.toNat) (gi x8 x6.toNat)) rfl rfl m) (z8 (ZaR (i.inn 2 rfl (Zf b):Sl Zh ((c.bump 16).bump 19) (gi a x6.toNat) (gi x8 x6.toNat)) (Zf m) rfl rfl) (z8 (zw (i.inn 2 rfl (Zf b):Sl Zh ((c.bump 16).bump 19) (gi a x6.toNat) (gi x8 x6.toNat)) rfl (Zf m) rfl) (Zbl ((gi a x6.toNat)) rfl (Zbl (.n x10) rfl (z8 (ZP (i.inn 2 rfl (Zf b):Sl Zh ((c.bump 16).bump 19) (gi a x6.toNat) (gi x8 x6.toNat)) rfl rfl m) (z8 (ZaR (i.inn 2 rfl (Zf b):Sl Zh ((c.bump 16).bump 19) (gi a x6.toNat) (gi x8 x6.toNat)) (Zf m) rfl rfl) (z8 (zw (i.inn 2 rfl (Zf b):Sl Zh ((c.bump 16).bump 19) (gi a x6.toNat) (gi x8 x6.toNat)) rfl (Zf m) rfl) ?_))))))))))
      obtain ⟨⟨x11,x12,x13⟩,⟨_,C,am,K,rfl,az⟩,hp⟩:=bdk hp fun _=>ZbP.ok (h:=((c.bump 16).bump 19)) (l:=l1) (v:=((gi (gi x8 x6.toNat) x10.toNat).Cell)) (d:=((gi (gi x8 x6.toNat) x10.toNat).Dir)) (i.toM [0] rfl (by decide)) 
      refine ZiM rfl rfl am ?_
      have p:=(i.callM [0] [1,2,3] rfl rfl (by decide) az rfl).pick [900,0,1,2,3] rfl (by decide)
      refine Zbl (.tu [K,.n x12,.n x13]) rfl (z8 (zC rfl rfl) (z8 (zC rfl rfl) (z8 (zC rfl rfl) (Zbl K rfl (Zbl (.n x12) rfl (Zbl (.n x13) rfl (ZcW ?_)))))))
      refine And.intro ?_ ?_
      ·intro q hq
       simp only [List.mem_cons,List.not_mem_nil,or_false] at hq
       rcases hq with rfl
       ·refine ZaX ?_ ?_
        ·exact (fun h=>nomatch h)
        ·exact (fun h=>nomatch h)
      refine Zt (Z9 (Zg (Zb (.n x13) rfl (Zc (Zca rfl rfl) (Ze (zu hp rfl (fun ae hp=>?_) (fun ae hp=>?_)))))))
      ·refine Zg (Zb (.n x13) rfl (Zb (.sn) rfl (Zb (.n x13) rfl (Ze (zK (ZI (ZaZ (ZI ?_))))))))
       have ao:=p.nil Zd
       cases hp
       exact ⟨nofun,rfl,V.sn,rfl,rfl,(ao.pk [5])⟩
      ·refine Zak (Zaf (Zb K rfl (Zb (.n (((gi l1 ((gi (gi x8 x6.toNat) x7.toNat).Cell:Int).toNat).Next).get ((gi (gi x8 x6.toNat) x7.toNat).Dir))) rfl (Zb ((gi a x6.toNat)) rfl (Zb (.n x7) rfl (Zc (ZP (p.inn 2 rfl (Zf b):Sl Zh C (gi a x6.toNat) (gi x8 x6.toNat)) rfl rfl g) (Zc (ZaR (p.inn 2 rfl (Zf b):Sl Zh C (gi a x6.toNat) (gi x8 x6.toNat)) (Zf g) rfl rfl) (Zc (zw (p.inn 2 rfl (Zf b):Sl Zh C (gi a x6.toNat) (gi x8 x6.toNat)) rfl (Zf g) rfl) (Zb (.n x12) rfl ?_)))))))))
       obtain ⟨⟨x14,x15⟩,⟨_,_,an,L,rfl,aA⟩,hp⟩:=bdk hp fun _=>ZQ.ok (h:=C) (l:=x11) (v:=(((gi l1 ((gi (gi x8 x6.toNat) x7.toNat).Cell:Int).toNat).Next).get ((gi (gi x8 x6.toNat) x7.toNat).Dir))) (d:=((gi (gi x8 x6.toNat) x7.toNat).Dir)) (w:=x12) (o:=(-2)) (p.toM [4] rfl (by decide)) 
       refine zU rfl rfl an ?_
       have ap:=(p.callM [4] [1,2,3] rfl rfl (by decide) aA rfl).pick [900,0,1,2,901,3] rfl (by decide)
       refine Zb (.tu [L,.n x15]) rfl (Zc (zC rfl rfl) (Zc (zC rfl rfl) (Zb L rfl (Zj (Zam (Zt (Zaf (Zb _ W (ckk hp fun af hp=>Zc (ZV rfl rfl af) (Zb (.n (step+1)) rfl (Zj ?_)))))))))))
       cases hp
       exact ⟨rfl,L,rfl,rfl,(ap.pk [5])⟩
    ·refine Zb8 (zW ?_)
     cases hp
     exact ⟨nofun,rfl,(F.pk [])⟩
   rintro (_|⟨x4,x5⟩) hp _ _ _ P
   ·obtain ⟨rfl,E⟩:=P
    refine Za9 (Zt (Zg (Zb (.sn) rfl (Zb (.n 6) rfl (Ze (zK (ZN (ZY rfl (ZY rfl Z6)) ?_)))))))
    cases hp
    exact ⟨V.sn,false,rfl,(fun _=>(fun _ _=>Sl.nil)),(E.pk [900])⟩
   ·obtain ⟨rfl,D,aH,aI,E⟩:=P
    refine ZaZ (ZI (ZN (ZY aH (ZY aI Z6)) ?_))
    cases hp
    exact ⟨D,true,rfl,(fun h=>nomatch h),(E.pk [0])⟩
 ·obtain ⟨rfl,aF,aG,A⟩:=O
  refine ZI (ZN (ZY aF (ZY aG Z6)) ?_)
  cases hp
  exact ⟨v_l,false,rfl,(fun _=>(S_l)),(A.pk [900])⟩

theorem ZaC.ok {h:Hp}{a:List Za}{b:List Za}{v_a:V}{v_b:V}(s_a:Sl Zd h v_a a) (s_b:Sl Zd h v_b b) {r:Bool}(hp:ZaC a b=some r) :
  ∃ u k',Is G 56 [v_a,v_b] h u k'∧V.b r=u∧Own (fun r=>r<h.n) h k' []:=by
 refine WC.is (ZaD ZeI ?_)
 unfold ZaC at hp
 let B:Nat→Prop:=(fun r=>r<h.n)
 have hO:Own B h h []:=Own.start0 h
 refine Zg (Zb (.b false) rfl (Ze (Z9 (Zg (Zb v_a rfl (Zc (Zap (hO.rd0 s_a.rd) rfl) (Zb v_b rfl (Zc (Zap (hO.rd0 s_b.rd) rfl) (Zc (Zca rfl rfl) (Zj ?_))))))))))
 refine Zt (zu hp rfl (fun s hp=>?_) (fun s hp=>?_))
 ·refine Zg (Zb (.b false) rfl (Ze (zK (ZI (ZN (ZY rfl Z6) ?_)))))
  cases hp
  exact ⟨rfl,(hO.pk [])⟩
 ·refine Zak (Z9 (Zg (Zb (.n 0) rfl (Ze (Zai (ZbM hp (fun i fr k=>fr 0=v_a∧fr 1=v_b∧fr 5=.n i∧Own B h k []) (fun|.inl _,e,fr,k=>e=(.exit 0)∧Own B h k []|.inr _,e,fr,k=>e=.ret∧fr 4=.b false∧Own B h k []) ⟨rfl,rfl,rfl,(hO.pk [])⟩ ?_ ?_))))))
  ·rintro i _ _ ⟨l,q,f,j⟩ _ hp
   dsimp only [ZaC.s0] at hp
   refine Z9 (Zg (Zb _ f (Zb _ l (Zc (Zap (j.rd0 s_a.rd) rfl) (Zc (zA rfl rfl) (Ze (zu hp rfl (fun t hp=>?_) (fun t hp=>?_))))))))
   ·refine Zak (Z9 (Zai (Z9 (Zhl ?_))))
    have d:=j.bump 9
    refine ZaK _ l (ZaK _ f (ckk hp fun m hp=>za rfl (ZP (d.rd0 s_a.rd) rfl rfl m) (za rfl (Zfm (d.rd0 s_a.rd) rfl (Zf m)) (ZaK _ q (ZaK _ f (ckk hp fun o hp=>za rfl (ZP (d.rd0 s_b.rd) rfl rfl o) (za rfl (Zfm (d.rd0 s_b.rd) rfl (Zf o)) (za rfl (ZqB (as:=Zd.c (gi a i.toNat)) (bs:=Zd.c (gi b i.toNat)) rfl rfl (Mu.Zd.same _ _)) (Zba (Zt (zu hp rfl (fun v hp=>?_) (fun v hp=>?_))))))))))))
    ·refine Zg (Zb (.b false) rfl (Ze (zK (ZaZ (ZI ?_)))))
     cases hp
     exact ⟨nofun,rfl,rfl,(d.pk [])⟩
    ·refine ZcB (Zam (Zt (Zaf (Zb _ f (ckk hp fun w hp=>Zc (ZV rfl rfl w) (Zb (.n (i+1)) rfl (Zj ?_)))))))
     cases hp
     exact ⟨rfl,l,q,rfl,(d.pk [])⟩
   ·refine Zb8 (zW ?_)
    cases hp
    exact ⟨nofun,rfl,(j.pk [])⟩
  rintro (_|_) hp _ _ _ p
  ·obtain ⟨rfl,g⟩:=p
   refine Za9 (Zt (Zg (Zb (.b true) rfl (Ze (zK (ZN (ZY rfl Z6) ?_))))))
   cases hp
   exact ⟨rfl,(g.pk [])⟩
  ·obtain ⟨rfl,x,g⟩:=p
   refine ZaZ (ZI (ZN (ZY x Z6) ?_))
   cases hp
   exact ⟨rfl,(g.pk [])⟩

theorem Zbx.ok {h:Hp}{l:List Za}{v_l:V}(s_l:Sl Zd h v_l l) {r:Bool}(hp:Zbx l=some r) :
  ∃ u k',Is G 265 [v_l] h u k'∧V.b r=u∧Own (fun r=>r<h.n) h k' []:=by
 refine WC.is (ZaD ZeA ?_)
 unfold Zbx at hp
 let B:Nat→Prop:=(fun r=>r<h.n)
 have hO:Own B h h []:=Own.start0 h
 refine Zg (Zb (.b false) rfl (Ze (Zg (Zb v_l rfl ?_))))
 obtain ⟨⟨x,x1⟩,⟨_,aP,aa,o,rfl,aD⟩,hp⟩:=bdk hp fun _=>ZbX.ok (h:=h)  (hO.rd0 s_l.rd)
 refine zU rfl rfl aa ?_
 have S:=hO.call aD rfl
 refine Zb (.tu [o,.n x1]) rfl (Zc (zC rfl rfl) (Zc (zC rfl rfl) (Zb o rfl (Zb (.n x1) rfl (Ze (Zg (Zb v_l rfl ?_)))))))
 obtain ⟨⟨x2,x3⟩,⟨_,aQ,ab,p,rfl,aE⟩,hp⟩:=bdk hp fun _=>zP.ok (h:=aP)  (S.rd0 s_l.rd)
 refine zU rfl rfl ab ?_
 have T:=S.call aE rfl
 refine Zb (.tu [p,.n x3]) rfl (Zc (zC rfl rfl) (Zc (zC rfl rfl) (Zb p rfl (Zb (.n x3) rfl (Ze (Zg (Zb v_l rfl ?_)))))))
 obtain ⟨⟨x4,x5⟩,⟨_,aR,ac,m,rfl,aF⟩,hp⟩:=bdk hp fun _=>ZaF.ok (h:=aQ)  (T.rd0 s_l.rd)
 refine zU rfl rfl ac ?_
 have U:=T.call aF rfl
 refine Zb (.tu [m,.n x5]) rfl (Zc (zC rfl rfl) (Zc (zC rfl rfl) (Zb m rfl (Zb (.n x5) rfl (Ze (Zg (Zb v_l rfl ?_)))))))
 obtain ⟨⟨x6,x7⟩,⟨_,aS,ad,j,D,rfl,aM,aG⟩,hp⟩:=bdk hp fun _=>Zgc.ok (h:=aR)  (U.pick [] rfl (by decide)) s_l.rd
 refine zU rfl rfl ad ?_
 have W:=U.call aG rfl
 refine Zb (.tu [j,.n x7]) rfl (Zc (zC rfl rfl) (Zc (zC rfl rfl) (Zb j rfl (Zb (.n x7) rfl (Ze (Zg (Zb v_l rfl ?_)))))))
 obtain ⟨⟨x8,x9⟩,⟨_,aT,ae,rfl,aH⟩,hp⟩:=bdk hp fun _=>ZbK.ok (h:=aS)  (W.rd0 s_l.rd)
 refine zU rfl rfl ae ?_
 have X:=W.call aH rfl
 refine Zb (.tu [.b x8,.n x9]) rfl (Zc (zC rfl rfl) (Zc (zC rfl rfl) (Zb (.b x8) rfl (Zb (.n x9) rfl (Ze (Zg (Zb v_l rfl ?_)))))))
 obtain ⟨⟨x10,x11⟩,⟨_,aU,af,rfl,aI⟩,hp⟩:=bdk hp fun _=>zJ.ok (h:=aT)  (X.rd0 s_l.rd)
 refine zU rfl rfl af ?_
 have Y:=X.call aI rfl
 refine Zb (.tu [.n x10,.n x11]) rfl (Zc (zC rfl rfl) (Zc (zC rfl rfl) (Zb (.n x10) rfl (Zb (.n x11) rfl (Ze (Zg (Zb v_l rfl ?_)))))))
 obtain ⟨⟨x12,x13⟩,⟨_,aV,ag,rfl,aJ⟩,hp⟩:=bdk hp fun _=>z5.ok (h:=aU)  (Y.rd0 s_l.rd)
 refine zU rfl rfl ag ?_
 have q:=Y.call aJ rfl
 refine Zb (.tu [.n x12,.n x13]) rfl (Zc (zC rfl rfl) (Zc (zC rfl rfl) (Zb (.n x12) rfl (Zb (.n x13) rfl (Ze (Zg (Zb (.n x1) rfl (Zb (.n x3) rfl (Zc (Zb7 rfl rfl) (Zb (.b (decide (x1=x3))) rfl ?_))))))))))
 obtain ⟨t,aN,hp⟩:=ZaP hp
 refine zN 4 (fun f k=>Own B h k [eSl Zd o x,eSl Zd p x2,eSl Zd m x4,Zod D Zd j x6]∧f 59=.b t∧f 10=.n x7∧f 11=.b x8∧f 12=.n x9∧f 14=.n x11∧f 15=.n x12∧f 7=m∧f 8=.n x5∧f 9=j) ?_ ?_
 ·clear hp;rcases Zbi aN with ⟨c,hp⟩|⟨c,hp⟩
  ·refine Zq rfl c (Zb o rfl (Zq rfl c (Zb p rfl (Zq rfl c ?_))))
   obtain ⟨x14,⟨_,_,ah,rfl,aK⟩,hp⟩:=bdk hp fun _=>ZaC.ok (h:=aV)  (q.sl 0 rfl) (q.sl 1 rfl)
   refine zU rfl rfl ah ?_
   have aC:=q.call aK rfl
   refine Zc (ZaT (v:=.b t) rfl c (Eq.trans (b:=V.b x14) rfl (congrArg V.b (Option.some.inj hp)))) (Zj ?_)
   exact ⟨aC.pk [0,1,2,3],rfl,rfl,rfl,rfl,rfl,rfl,rfl,rfl,rfl⟩
  ·refine Zl rfl c (Zl rfl c (Zl rfl c (Zc (ZaI (v:=.b t) rfl c (Eq.trans (b:=V.b false) rfl (congrArg V.b (Option.some.inj hp)))) (Zj ?_))))
   exact ⟨q.pk [0,1,2,3],rfl,rfl,rfl,rfl,rfl,rfl,rfl,rfl,rfl⟩
 rintro _ C ⟨s,ak,aj,E,F,H,I,J,al,K⟩
 refine Zb _ ak (zN 4 (fun f k=>C=k∧f 64=.b (t&&(decide (x5=x7)))∧f 11=.b x8∧f 12=.n x9∧f 14=.n x11∧f 15=.n x12∧f 7=m∧f 9=j) ?_ ?_)
 ·rcases bc t with d|d
  ·refine Zq rfl d (Zb _ al (Zq rfl d (Zb _ aj (Zq rfl d (Zc (Zb7 rfl rfl) (Zc (ZcU rfl d rfl) (Zj ?_)))))))
   exact ⟨rfl,rfl,E,F,H,I,J,K⟩
  ·refine Zl rfl d (Zl rfl d (Zl rfl d (Zc (ZcT (w:=t&&(decide (x5=x7))) rfl d rfl) (Zj ?_))))
   exact ⟨rfl,rfl,E,F,H,I,J,K⟩
 rintro _ _ ⟨rfl,am,L,M,N,O,an,ao⟩
 refine Zb _ am ?_
 obtain ⟨t1,aO,hp⟩:=ZaP hp
 refine zN 4 (fun f k=>Own B h k [eSl Zd o x,eSl Zd p x2,eSl Zd m x4,Zod D Zd j x6]∧f 69=.b t1∧f 11=.b x8∧f 12=.n x9∧f 14=.n x11∧f 15=.n x12) ?_ ?_
 ·clear hp;rcases Zbi aO with ⟨e,hp⟩|⟨e,hp⟩
  ·refine Zq rfl e (Zb _ an (Zq rfl e (Zb _ ao (Zq rfl e ?_))))
   obtain ⟨x15,⟨_,_,ai,rfl,aL⟩,hp⟩:=bdk hp fun _=>ZaC.ok (h:=C)  (s.sl 2 rfl) (s.may 3 rfl aM:Sl Zd C j x6)
   refine zU rfl rfl ai ?_
   have aA:=s.call aL rfl
   refine Zc (ZaT (v:=.b t1) rfl e (Eq.trans (b:=V.b x15) rfl (congrArg V.b (Option.some.inj hp)))) (Zj ?_)
   exact ⟨aA.pk [0,1,2,3],rfl,L,M,N,O⟩
  ·refine Zl rfl e (Zl rfl e (Zl rfl e (Zc (ZaI (v:=.b t1) rfl e (Eq.trans (b:=V.b false) rfl (congrArg V.b (Option.some.inj hp)))) (Zj ?_))))
   exact ⟨s.pk [0,1,2,3],rfl,L,M,N,O⟩
 rintro _ A ⟨aB,aq,P,ap,y,Q⟩
 refine Zb _ aq (zN 4 (fun f k=>A=k∧f 74=.b (t1&&(decide (x9=x11)))∧f 11=.b x8∧f 14=.n x11∧f 15=.n x12) ?_ ?_)
 ·rcases bc t1 with g|g
  ·refine Zq rfl g (Zb _ ap (Zq rfl g (Zb _ y (Zq rfl g (Zc (Zb7 rfl rfl) (Zc (ZcU rfl g rfl) (Zj ?_)))))))
   exact ⟨rfl,rfl,P,y,Q⟩
  ·refine Zl rfl g (Zl rfl g (Zl rfl g (Zc (ZcT (w:=t1&&(decide (x9=x11))) rfl g rfl) (Zj ?_))))
   exact ⟨rfl,rfl,P,y,Q⟩
 rintro _ _ ⟨rfl,aw,ar,au,av⟩
 refine Zb _ aw (zN 9 (fun f k=>A=k∧f 84=.b ((t1&&(decide (x9=x11)))&&(decide (x8=((decide (x11=0))&&(decide (x12<0))))))) ?_ ?_)
 ·rcases bc (t1&&(decide (x9=x11))) with a|a
  ·refine Zq rfl a (Zb _ ar (Zq rfl a (Zb _ au (Zq rfl a (Zc (Zb7 rfl rfl) (Zq rfl a (Zb (.b (decide (x11=0))) rfl (zN 3 (fun f k=>A=k∧f 82=.b ((decide (x11=0))&&(decide (x12<0)))∧f 75=.b (t1&&(decide (x9=x11)))∧f 76=.b x8) ?_ ?_))))))))
   ·rcases bc (decide (x11=0)) with i|i
    ·refine Zq rfl i (Zb _ av (Zq rfl i (Zc (zA rfl rfl) (Zq rfl a (Zc (ZcU rfl i rfl) (Zj ?_))))))
     exact ⟨rfl,rfl,rfl,rfl⟩
    ·refine Zl rfl i (Zl rfl i (Zq rfl a (Zc (ZcT (w:=(decide (x11=0))&&(decide (x12<0))) rfl i rfl) (Zj ?_))))
     exact ⟨rfl,rfl,rfl,rfl⟩
   rintro _ _ ⟨rfl,ay,R,ax⟩
   refine Zq R a (Zc (Zq6 ax ay) (Zc (ZcU R a rfl) (Zj ?_)))
   exact ⟨rfl,rfl⟩
  ·refine Zl rfl a (Zl rfl a (Zl rfl a (Zl rfl a (Zl8 rfl (Zl8 rfl (Zl rfl a (Zl rfl a (Zc (ZcT (w:=(t1&&(decide (x9=x11)))&&(decide (x8=((decide (x11=0))&&(decide (x12<0)))))) rfl a rfl) (Zj ?_)))))))))
   exact ⟨rfl,rfl⟩
 rintro _ _ ⟨rfl,az⟩
 refine Zb _ az (Ze (zK (ZN (ZY rfl Z6) ?_)))
 cases hp
 exact ⟨rfl,(aB.pk [])⟩

theorem ZaO.ok {h:Hp}{s:ByteArray}   {r:Bool}(hp:ZaO s=some r) :
  ∃ u k',Is G 217 [.s s] h u k'∧V.b r=u∧Own (fun r=>r<h.n) h k' []:=by
 refine WC.is (ZaD Zem ?_)
 unfold ZaO at hp
 let B:Nat→Prop:=(fun r=>r<h.n)
 have hO:Own B h h []:=Own.start0 h
 refine Zg (Zb (.b false) rfl (Ze (Z9 (Zg (Zb (.n 0) rfl (Ze (Zai (ZbM hp (fun i fr k=>fr 0=.s s∧fr 3=.n i∧Own B h k []) (fun|.inl _,e,fr,k=>e=(.exit 0)∧Own B h k []|.inr _,e,fr,k=>e=.ret∧fr 2=.b false∧Own B h k []) ⟨rfl,rfl,(hO.pk [])⟩ ?_ ?_))))))))
 ·rintro i _ A ⟨d,g,l⟩ _ hp
  dsimp only [ZaO.s0] at hp
  refine Z9 (Zg (Zb _ g (Zb _ d (Zc (Zik rfl) (Zc (zA rfl rfl) (Ze (zu hp rfl (fun p hp=>?_) (fun p hp=>?_))))))))
  ·refine Zak (Z9 (Zai (Zg (Zb _ d (Zb _ g (ckk hp fun m hp=>Zc (ZlA (a:=s) (z:=i) rfl rfl m) (Zc (Zca rfl rfl) (Zb (.b (!(decide (sAt s i.toNat=76)))) rfl (zN 5 (fun f k=>A=k∧f 19=.b ((!(decide (sAt s i.toNat=76)))&&(!(decide (sAt s i.toNat=82))))∧f 0=.s s∧f 3=.n i) ?_ ?_)))))))))
   ·rcases bc (!(decide (sAt s i.toNat=76))) with c|c
    ·refine Zq rfl c (Zb _ d (Zq rfl c (Zb _ g (Zq rfl c (Zc (ZlA (a:=s) (z:=i) rfl rfl m) (Zq rfl c (Zc (Zca rfl rfl) (Zc (ZcU rfl c rfl) (Zj ?_)))))))))
     exact ⟨rfl,rfl,d,g⟩
    ·refine Zl rfl c (Zl rfl c (Zl rfl c (Zl rfl c (Zc (ZcT (w:=(!(decide (sAt s i.toNat=76)))&&(!(decide (sAt s i.toNat=82)))) rfl c rfl) (Zj ?_)))))
     exact ⟨rfl,rfl,d,g⟩
   rintro _ _ ⟨rfl,x,v,y⟩
   refine Ze (zu hp x (fun q hp=>?_) (fun q hp=>?_))
   ·refine Zg (Zb (.b false) rfl (Ze (zK (ZaZ (ZI ?_)))))
    cases hp
    exact ⟨nofun,rfl,rfl,(l.pk [])⟩
   ·refine ZcB (Zam (Zt (Zaf (Zb _ y (ckk hp fun t hp=>Zc (ZV rfl rfl t) (Zb (.n (i+1)) rfl (Zj ?_)))))))
    cases hp
    exact ⟨rfl,v,rfl,(l.pk [])⟩
  ·refine Zb8 (zW ?_)
   cases hp
   exact ⟨nofun,rfl,(l.pk [])⟩
 rintro (_|_) hp _ _ _ o
 ·obtain ⟨rfl,j⟩:=o
  refine Za9 (Zt (Zg (Zb (.b true) rfl (Ze (zK (ZN (ZY rfl Z6) ?_))))))
  cases hp
  exact ⟨rfl,(j.pk [])⟩
 ·obtain ⟨rfl,C,j⟩:=o
  refine ZaZ (ZI (ZN (ZY C Z6) ?_))
  cases hp
  exact ⟨rfl,(j.pk [])⟩

theorem Zag.ok {h:Hp}{s:zX}{v_s_Boxes:V}{v_s_Edges:V}(s_s_Boxes:Sl e_bool h v_s_Boxes s.Boxes) (s_s_Edges:Sl zt h v_s_Edges s.Edges) {r:Int}(hp:Zag s=some r) :
  ∃ u k',Is G 197 [.ag [v_s_Boxes,v_s_Edges]] h u k'∧V.n r=u∧Own (fun r=>r<h.n) h k' []:=by
 refine WC.is (ZaD Zel ?_)
 unfold Zag at hp
 let B:Nat→Prop:=(fun r=>r<h.n)
 have hO:Own B h h []:=Own.start0 h
 refine Zg (zQ (hO.boxd (cs:=[v_s_Boxes,v_s_Edges]) hO.fr rfl rfl) ?_)
 rintro _ _ ⟨a,rfl,_,_,aG⟩
 refine Zb (.n 0) rfl (Ze (Zg (Zb (.n 0) rfl (Ze (Z9 (Zg (Zb (.n 0) rfl (Ze ?_))))))))
 refine Zai (ZbM hp (fun|(n,i),fr,k=>fr 1=.p a 0∧fr 3=.n n∧fr 4=.n i∧Own B h k [zO a [v_s_Boxes,v_s_Edges]]) (fun n1 e fr k=>e=(.exit 0)∧fr 1=.p a 0∧fr 3=.n n1∧Own B h k [zO a [v_s_Boxes,v_s_Edges]]) ⟨rfl,rfl,rfl,(aG.pk [0])⟩ ?_ ?_)
 ·rintro ⟨n,i⟩ _ _ ⟨J,ai,R,v⟩ _ hp
  dsimp only [Zag.s0] at hp
  refine Z9 (Zg (Zb _ R (Zc (Zal (r:=a) (o:=0) J rfl) (Zc (zy (v.box 0 rfl) rfl rfl) (Zc (Zap (v.rd0 s_s_Edges.rd) rfl) (Zc (zA rfl rfl) (Ze (zu hp rfl (fun aj hp=>?_) (fun aj hp=>?_)))))))))
  ·refine Zak (Z9 (Zai (Zaf (Zb _ ai (Zc (Zal (r:=a) (o:=0) J rfl) (Zc (zy (v.box 0 rfl) rfl rfl) (Zb _ R (ckk hp fun L hp=>Zc (ZP (v.rd0 s_s_Edges.rd) rfl rfl L) (Zc (ZaR (v.rd0 s_s_Edges.rd) (Zf L) rfl rfl) (Zc (zw (v.rd0 s_s_Edges.rd) rfl (Zf L) rfl) (Zc (Zik rfl) ?_)))))))))))
   refine ckk hp fun ao hp=>Zc (ZV rfl rfl ao) (Zb (.n (n+(((gi s.Edges i.toNat).Bends).size:Int))) rfl (Zj (Zam (Zt (Zaf (Zb _ R (ckk hp fun ap hp=>Zc (ZV rfl rfl ap) (Zb (.n (i+1)) rfl (Zj ?_)))))))))
   cases hp
   exact ⟨rfl,J,rfl,rfl,(v.pk [0])⟩
  ·refine Zb8 (zW ?_)
   cases hp
   exact ⟨nofun,rfl,J,ai,(v.pk [0])⟩
 rintro n1 hp _ _ ae ⟨rfl,I,ah,D⟩
 refine Za9 (Zt (Z9 (Zg (Zc (Zal (r:=a) (o:=0) I rfl) (Zc (zy (D.box 0 rfl) rfl rfl) (Zc (Zap (D.rd0 s_s_Boxes.rd) rfl) (Zc (Zd1 rfl rfl) (Zb (.b (decide (4096<(s.Boxes.length:Int)))) rfl (zN 5 (fun f k=>ae=k∧f 33=.b ((decide (4096<(s.Boxes.length:Int)))||(decide (4096<(s.Edges.length:Int))))∧f 1=.p a 0∧f 3=.n n1) ?_ ?_)))))))))
 ·rcases bc (decide (4096<(s.Boxes.length:Int))) with j|j
  ·refine Zl rfl j (Zl rfl j (Zl rfl j (Zl rfl j (Zc (Zct (w:=(decide (4096<(s.Boxes.length:Int)))||(decide (4096<(s.Edges.length:Int)))) rfl j rfl) (Zj ?_)))))
   exact ⟨rfl,rfl,I,ah⟩
  ·refine Zq rfl j (Zc (Zal (r:=a) (o:=0) I rfl) (Zq rfl j (Zc (zy (D.box 0 rfl) rfl rfl) (Zq rfl j (Zc (Zap (D.rd0 s_s_Edges.rd) rfl) (Zq rfl j (Zc (Zd1 rfl rfl) (Zc (Zcu rfl j rfl) (Zj ?_)))))))))
   exact ⟨rfl,rfl,I,ah⟩
 rintro _ _ ⟨rfl,av,T,au⟩
 refine Zb _ av (zN 3 (fun f k=>ae=k∧f 37=.b (((decide (4096<(s.Boxes.length:Int)))||(decide (4096<(s.Edges.length:Int))))||(decide (4096<n1)))∧f 1=.p a 0) ?_ ?_)
 ·rcases bc ((decide (4096<(s.Boxes.length:Int)))||(decide (4096<(s.Edges.length:Int)))) with C|C
  ·refine Zl rfl C (Zl rfl C (Zc (Zct (w:=((decide (4096<(s.Boxes.length:Int)))||(decide (4096<(s.Edges.length:Int))))||(decide (4096<n1))) rfl C rfl) (Zj ?_)))
   exact ⟨rfl,rfl,T⟩
  ·refine Zq rfl C (Zb _ au (Zq rfl C (Zc (Zd1 rfl rfl) (Zc (Zcu rfl C rfl) (Zj ?_)))))
   exact ⟨rfl,rfl,T⟩
 rintro _ _ ⟨rfl,ax,aw⟩
 refine Ze (zu hp ax (fun al hp=>?_) (fun al hp=>?_))
 ·refine Zg (Zb (.n 6) rfl (Ze (zK (ZI (ZN (ZY rfl Z6) ?_)))))
  cases hp
  exact ⟨rfl,(D.pk [])⟩
 ·refine Zak (Z9 (Zg (Zb (.n 0) rfl (Ze (Zai (ZbM hp (fun i1 fr k=>fr 1=.p a 0∧fr 5=.n i1∧Own B h k [zO a [v_s_Boxes,v_s_Edges]]) (fun|.inl _,e,fr,k=>e=(.exit 2)∧Own B h k []|.inr x,e,fr,k=>e=.ret∧fr 2=.n x∧Own B h k []) ⟨aw,rfl,(D.pk [0])⟩ ?_ ?_))))))
  ·rintro i1 _ _ ⟨E,K,y⟩ _ hp
   dsimp only [Zag.s1] at hp
   refine Z9 (Zg (Zb _ K (Zc (Zal (r:=a) (o:=0) E rfl) (Zc (zy (y.box 0 rfl) rfl rfl) (Zc (Zap (y.rd0 s_s_Edges.rd) rfl) (Zc (zA rfl rfl) (Ze (zu hp rfl (fun am hp=>?_) (fun am hp=>?_)))))))))
   ·refine Zak (Z9 (Zai (Zg (Zc (Zal (r:=a) (o:=0) E rfl) (Zc (zy (y.box 0 rfl) rfl rfl) (Zb _ K (ckk hp fun S hp=>Zc (ZP (y.rd0 s_s_Edges.rd) rfl rfl S) (Zc (Zfm (y.rd0 s_s_Edges.rd) rfl (Zf S)) (zQ (y.alloc (cs:=zt.c (⟨0,0,0,(⟨#[]⟩:ByteArray)⟩:ZaQ)) y.fr) ?_)))))))))
    rintro _ _ ⟨m,rfl,_,_,aH⟩
    refine zQ (aH.stb (cs':=zt.c (gi s.Edges i1.toNat)) 1 rfl rfl rfl rfl ⟨rfl,Nat.le_of_ble_eq_true rfl,rfl⟩ rfl) ?_
    rintro _ H ⟨rfl,_,_,l⟩
    refine Ze (Z9 (Zg (Zc (Zal (r:=m) (o:=0) rfl rfl) (Zc (zy (l.box 1 rfl) rfl rfl) (Zc (zA rfl rfl) (Zb (.b (decide (((gi s.Edges i1.toNat).From)<0))) rfl (zN 7 (fun f k=>H=k∧f 60=.b ((decide (((gi s.Edges i1.toNat).From)<0))||(decide ((s.Boxes.length:Int)≤((gi s.Edges i1.toNat).From))))∧f 1=.p a 0∧f 5=.n i1∧f 6=.p m 0) ?_ ?_)))))))
    ·rcases bc (decide (((gi s.Edges i1.toNat).From)<0)) with d|d
     ·refine Zl rfl d (Zl rfl d (Zl rfl d (Zl rfl d (Zl rfl d (Zl rfl d (Zc (Zct (w:=(decide (((gi s.Edges i1.toNat).From)<0))||(decide ((s.Boxes.length:Int)≤((gi s.Edges i1.toNat).From)))) rfl d rfl) (Zj ?_)))))))
      exact ⟨rfl,rfl,E,K,rfl⟩
     ·refine Zq rfl d (Zc (Zal (r:=m) (o:=0) rfl rfl) (Zq rfl d (Zc (zy (l.box 1 rfl) rfl rfl) (Zq rfl d (Zc (Zal (r:=a) (o:=0) E rfl) (Zq rfl d (Zc (zy (l.box 0 rfl) rfl rfl) (Zq rfl d (Zc (Zap (l.rd0 s_s_Boxes.rd) rfl) (Zq rfl d (Zc (Zda rfl rfl) (Zc (Zcu rfl d rfl) (Zj ?_)))))))))))))
      exact ⟨rfl,rfl,E,K,rfl⟩
    rintro _ _ ⟨rfl,ay,U,W,M⟩
    refine Zb _ ay (zN 4 (fun f k=>H=k∧f 65=.b (((decide (((gi s.Edges i1.toNat).From)<0))||(decide ((s.Boxes.length:Int)≤((gi s.Edges i1.toNat).From))))||(decide (((gi s.Edges i1.toNat).To)<0)))∧f 1=.p a 0∧f 5=.n i1∧f 6=.p m 0) ?_ ?_)
    ·rcases bc ((decide (((gi s.Edges i1.toNat).From)<0))||(decide ((s.Boxes.length:Int)≤((gi s.Edges i1.toNat).From)))) with t|t
     ·refine Zl rfl t (Zl rfl t (Zl rfl t (Zc (Zct (w:=((decide (((gi s.Edges i1.toNat).From)<0))||(decide ((s.Boxes.length:Int)≤((gi s.Edges i1.toNat).From))))||(decide (((gi s.Edges i1.toNat).To)<0))) rfl t rfl) (Zj ?_))))
      exact ⟨rfl,rfl,U,W,M⟩
     ·refine Zq rfl t (Zc (Zal (r:=m) (o:=0) M rfl) (Zq rfl t (Zc (zy (l.box 1 rfl) rfl rfl) (Zq rfl t (Zc (zA rfl rfl) (Zc (Zcu rfl t rfl) (Zj ?_)))))))
      exact ⟨rfl,rfl,U,W,M⟩
    rintro _ _ ⟨rfl,az,N,X,O⟩
    refine Zb _ az (zN 7 (fun f k=>H=k∧f 73=.b ((((decide (((gi s.Edges i1.toNat).From)<0))||(decide ((s.Boxes.length:Int)≤((gi s.Edges i1.toNat).From))))||(decide (((gi s.Edges i1.toNat).To)<0)))||(decide ((s.Boxes.length:Int)≤((gi s.Edges i1.toNat).To))))∧f 1=.p a 0∧f 5=.n i1∧f 6=.p m 0) ?_ ?_)
    ·rcases bc (((decide (((gi s.Edges i1.toNat).From)<0))||(decide ((s.Boxes.length:Int)≤((gi s.Edges i1.toNat).From))))||(decide (((gi s.Edges i1.toNat).To)<0))) with g|g
     ·refine Zl rfl g (Zl rfl g (Zl rfl g (Zl rfl g (Zl rfl g (Zl rfl g (Zc (Zct (w:=(((decide (((gi s.Edges i1.toNat).From)<0))||(decide ((s.Boxes.length:Int)≤((gi s.Edges i1.toNat).From))))||(decide (((gi s.Edges i1.toNat).To)<0)))||(decide ((s.Boxes.length:Int)≤((gi s.Edges i1.toNat).To)))) rfl g rfl) (Zj ?_)))))))
      exact ⟨rfl,rfl,N,X,O⟩
     ·refine Zq rfl g (Zc (Zal (r:=m) (o:=0) O rfl) (Zq rfl g (Zc (zy (l.box 1 rfl) rfl rfl) (Zq rfl g (Zc (Zal (r:=a) (o:=0) N rfl) (Zq rfl g (Zc (zy (l.box 0 rfl) rfl rfl) (Zq rfl g (Zc (Zap (l.rd0 s_s_Boxes.rd) rfl) (Zq rfl g (Zc (Zda rfl rfl) (Zc (Zcu rfl g rfl) (Zj ?_)))))))))))))
      exact ⟨rfl,rfl,N,X,O⟩
    rintro _ _ ⟨rfl,aA,Y,aa,P⟩
    refine Ze (zu hp aA (fun an hp=>?_) (fun an hp=>?_))
    ·refine Zg (Zb (.n 3) rfl (Ze (zK (ZI (ZaZ (ZI ?_))))))
     cases hp
     exact ⟨nofun,rfl,rfl,(l.pk [])⟩
    ·refine Zak (Zg (Zc (Zal (r:=m) (o:=0) P rfl) (Zc (zy (l.box 1 rfl) rfl rfl) ?_)))
     obtain ⟨x1,⟨_,af,ar,rfl,aI⟩,hp⟩:=bdk hp fun _=>ZaO.ok (h:=H)  
     refine zU rfl rfl ar ?_
     have F:=l.call aI rfl
     refine Zb (.b x1) rfl (Ze (Zg (Zc (Zal (r:=m) (o:=0) P rfl) (Zc (zy (F.box 1 rfl) rfl rfl) (Zc (zA rfl rfl) (Zb (.b (decide (((gi s.Edges i1.toNat).Dir)<0))) rfl (zN 4 (fun f k=>af=k∧f 84=.b ((decide (((gi s.Edges i1.toNat).Dir)<0))||(decide (3<((gi s.Edges i1.toNat).Dir))))∧f 1=.p a 0∧f 5=.n i1∧f 7=.b x1) ?_ ?_)))))))
     ·rcases bc (decide (((gi s.Edges i1.toNat).Dir)<0)) with q|q
      ·refine Zl rfl q (Zl rfl q (Zl rfl q (Zc (Zct (w:=(decide (((gi s.Edges i1.toNat).Dir)<0))||(decide (3<((gi s.Edges i1.toNat).Dir)))) rfl q rfl) (Zj ?_))))
       exact ⟨rfl,rfl,Y,aa,rfl⟩
      ·refine Zq rfl q (Zc (Zal (r:=m) (o:=0) P rfl) (Zq rfl q (Zc (zy (F.box 1 rfl) rfl rfl) (Zq rfl q (Zc (Zd1 rfl rfl) (Zc (Zcu rfl q rfl) (Zj ?_)))))))
       exact ⟨rfl,rfl,Y,aa,rfl⟩
     rintro _ _ ⟨rfl,aC,ab,ac,aB⟩
     refine Zb _ aC (zN 3 (fun f k=>af=k∧f 88=.b (((decide (((gi s.Edges i1.toNat).Dir)<0))||(decide (3<((gi s.Edges i1.toNat).Dir))))||(!x1))∧f 1=.p a 0∧f 5=.n i1) ?_ ?_)
     ·rcases bc ((decide (((gi s.Edges i1.toNat).Dir)<0))||(decide (3<((gi s.Edges i1.toNat).Dir)))) with A|A
      ·refine Zl rfl A (Zl rfl A (Zc (Zct (w:=((decide (((gi s.Edges i1.toNat).Dir)<0))||(decide (3<((gi s.Edges i1.toNat).Dir))))||(!x1)) rfl A rfl) (Zj ?_)))
       exact ⟨rfl,rfl,ab,ac⟩
      ·refine Zq rfl A (Zb _ aB (Zq rfl A (Zc (ZcJ rfl) (Zc (Zcu rfl A rfl) (Zj ?_)))))
       exact ⟨rfl,rfl,ab,ac⟩
     rintro _ _ ⟨rfl,aF,aD,aE⟩
     refine Ze (zu hp aF (fun ak hp=>?_) (fun ak hp=>?_))
     ·refine Zg (Zb (.n 2) rfl (Ze (zK (ZaZ (ZI ?_)))))
      cases hp
      exact ⟨nofun,rfl,rfl,(F.pk [])⟩
     ·refine ZcB (Zam (Zt (Zaf (Zb _ aE (ckk hp fun aq hp=>Zc (ZV rfl rfl aq) (Zb (.n (i1+1)) rfl (Zj ?_)))))))
      cases hp
      exact ⟨rfl,aD,rfl,(F.pk [0])⟩
   ·refine Zb8 (zW ?_)
    cases hp
    exact ⟨nofun,rfl,(y.pk [])⟩
  rintro (_|x) hp _ _ _ ad
  ·obtain ⟨rfl,Q⟩:=ad
   refine Za9 (Zt (Zg (Zb (.n 0) rfl (Ze (zK (ZN (ZY rfl Z6) ?_))))))
   cases hp
   exact ⟨rfl,(Q.pk [])⟩
  ·obtain ⟨rfl,aJ,Q⟩:=ad
   refine ZaZ (ZI (ZN (ZY aJ Z6) ?_))
   cases hp
   exact ⟨rfl,(Q.pk [])⟩

theorem Zbh.ok {h:Hp}{e_:ZaQ}   {r:Int}(hp:Zbh e_=some r) :
  ∃ u k',Is G 230 [.ag (zt.c e_)] h u k'∧V.n r=u∧Own (fun r=>r<h.n) h k' []:=by
 refine WC.is (ZaD ZeF ?_)
 unfold Zbh at hp
 let B:Nat→Prop:=(fun r=>r<h.n)
 have hO:Own B h h []:=Own.start0 h
 refine Zg (zQ (hO.boxd (cs:=zt.c e_) hO.fr rfl rfl) ?_)
 rintro _ _ ⟨f,rfl,_,_,m⟩
 refine Zb (.n 0) rfl (Ze (Zg (Zc (Zal (r:=f) (o:=0) rfl rfl) (Zc (zy (m.box 0 rfl) rfl rfl) (Zb (.n e_.Dir) rfl (Ze (Z9 (Zg (Zb (.n 0) rfl ?_)))))))))
 refine Ze (Zai (ZbM hp (fun|(d,i),fr,k=>fr 1=.p f 0∧fr 3=.n d∧fr 4=.n i∧Own B h k [zO f (zt.c e_)]) (fun d1 e fr k=>e=(.exit 0)∧fr 3=.n d1∧Own B h k []) ⟨rfl,rfl,rfl,(m.pk [0])⟩ ?_ ?_))
 ·rintro ⟨d,i⟩ _ _ ⟨g,l,j,b⟩ _ hp
  dsimp only [Zbh.s0] at hp
  refine Z9 (Zg (Zb _ j (Zc (Zal (r:=f) (o:=0) g rfl) (Zc (zy (b.box 0 rfl) rfl rfl) (Zc (Zik rfl) (Zc (zA rfl rfl) (Ze (zu hp rfl (fun q hp=>?_) (fun q hp=>?_)))))))))
  ·refine Zak (Z9 (Zai (Zg (Zc (Zal (r:=f) (o:=0) g rfl) (Zc (zy (b.box 0 rfl) rfl rfl) (Zb _ j (ckk hp fun t hp=>Zc (ZlA (a:=e_.Bends) (z:=i) rfl rfl t) (Zc (Zb7 rfl rfl) (Ze (zu hp rfl (fun s hp=>?_) (fun s hp=>?_)))))))))))
   ·refine Zaf (Zb _ l (ckk hp fun v hp=>Zc (ZV rfl rfl v) (Zc (ZcO rfl rfl (by decide)) (Zb (.n ((d+1).tmod 4)) rfl (Zj (Zam (Zt (Zaf (Zb _ j (ckk hp fun w hp=>Zc (ZV rfl rfl w) (Zb (.n (i+1)) rfl ?_)))))))))))
    refine Zj ?_
    cases hp
    exact ⟨rfl,g,rfl,rfl,(b.pk [0])⟩
   ·refine Zaf (Zb _ l (ckk hp fun x hp=>Zc (ZV rfl rfl x) (Zc (ZcO rfl rfl (by decide)) (Zb (.n ((d+3).tmod 4)) rfl (Zj (Zam (Zt (Zaf (Zb _ j (ckk hp fun y hp=>Zc (ZV rfl rfl y) (Zb (.n (i+1)) rfl ?_)))))))))))
    refine Zj ?_
    cases hp
    exact ⟨rfl,g,rfl,rfl,(b.pk [0])⟩
  ·refine Zb8 (zW ?_)
   cases hp
   exact ⟨nofun,rfl,l,(b.pk [])⟩
 rintro d1 hp _ _ _ ⟨rfl,C,A⟩
 refine Za9 (Zt (Zg (Zb _ C (Zb (.n d1) rfl (Ze (zK (ZN (ZY rfl Z6) ?_)))))))
 cases hp
 exact ⟨rfl,(A.pk [])⟩

theorem Zcr.ok {h:Hp}{e_:ZaQ}   {r:Int}(hp:Zcr e_=some r) :
  ∃ u k',Is G 218 [.ag (zt.c e_)] h u k'∧V.n r=u∧Own (fun r=>r<h.n) h k' []:=by
 refine WC.is (ZaD ZeK ?_)
 unfold Zcr at hp
 let B:Nat→Prop:=(fun r=>r<h.n)
 have hO:Own B h h []:=Own.start0 h
 refine Zg (zQ (hO.boxd (cs:=zt.c e_) hO.fr rfl rfl) ?_)
 rintro _ g ⟨_,rfl,_,_,a⟩
 refine Zb (.n 0) rfl (Ze (Zg (Zc (ZbI (a.box 0 rfl) rfl rfl) ?_)))
 obtain ⟨x,⟨_,_,d,rfl,f⟩,hp⟩:=bdk hp fun _=>Zbh.ok (h:=g)  
 refine zU rfl rfl d ?_
 have e:=a.call f rfl
 refine Zb (.n x) rfl (Ze (Zg (Zb (.n x) rfl (ckk hp fun b hp=>Zc (ZV rfl rfl b) (Zc (ZcO rfl rfl (by decide)) (Zb (.n ((x+2).tmod 4)) rfl (Ze (zK (ZN (ZY rfl Z6) ?_)))))))))
 cases hp
 exact ⟨rfl,(e.pk [])⟩

theorem Za3.ok {h:Hp}{s:zX}{v:Int}{d:Int}{v_s_Boxes:V}{v_s_Edges:V}(s_s_Boxes:Sl e_bool h v_s_Boxes s.Boxes) (s_s_Edges:Sl zt h v_s_Edges s.Edges) {r:(List Int)}(hp:Za3 s v d=some r) :
  ∃ u k',Is G 199 [.ag [v_s_Boxes,v_s_Edges],.n v,.n d] h u k'∧∃ aj,aj=u∧Own (fun r=>r<h.n) h k' [eSl Zad aj r]:=by
 refine WC.is (ZaD Zfk ?_)
 unfold Za3 at hp
 let B:Nat→Prop:=(fun r=>r<h.n)
 have hO:Own B h h []:=Own.start0 h
 refine Zg (zQ (hO.boxd (cs:=[v_s_Boxes,v_s_Edges]) hO.fr rfl rfl) ?_)
 rintro _ _ ⟨m,rfl,_,_,aB⟩
 refine Zb (.sn) rfl (Ze (Zg (Zb (.sn) rfl (Ze (Z9 (Zg (Zb (.n 0) rfl (Ze ?_))))))))
 refine Zai ?_
 have aE:=aB.nil Zad
 refine ZbM hp (fun|(l,i),fr,k=>∃ t,fr 1=.n v∧fr 2=.n d∧fr 3=.p m 0∧fr 7=t∧fr 8=.n i∧Own B h k [zO m [v_s_Boxes,v_s_Edges],eSl Zad t l]) (fun l1 e fr k=>e=(.exit 0)∧∃ A,fr 7=A∧Own B h k [eSl Zad A l1]) ⟨V.sn,rfl,rfl,rfl,rfl,rfl,(aE.pk [0,1])⟩ ?_ ?_
 ·rintro ⟨l,i⟩ _ _ ⟨t,M,N,F,O,H,j⟩ _ hp
  dsimp only [Za3.s0] at hp
  refine Z9 (Zg (Zb _ H (Zc (Zal (r:=m) (o:=0) F rfl) (Zc (zy (j.box 0 rfl) rfl rfl) (Zc (Zap (j.rd0 s_s_Edges.rd) rfl) (Zc (zA rfl rfl) (Ze (zu hp rfl (fun am hp=>?_) (fun am hp=>?_)))))))))
  ·refine Zak (Z9 (Zai (Zg (Zc (Zal (r:=m) (o:=0) F rfl) (Zc (zy (j.box 0 rfl) rfl rfl) (Zb _ H (ckk hp fun R hp=>Zc (ZP (j.rd0 s_s_Edges.rd) rfl rfl R) (Zc (Zfm (j.rd0 s_s_Edges.rd) rfl (Zf R)) (zQ (j.alloc (cs:=zt.c (⟨0,0,0,(⟨#[]⟩:ByteArray)⟩:ZaQ)) j.fr) ?_)))))))))
   rintro _ _ ⟨q,rfl,_,_,aF⟩
   refine zQ (aF.stb (cs':=zt.c (gi s.Edges i.toNat)) 2 rfl rfl rfl rfl ⟨rfl,Nat.le_of_ble_eq_true rfl,rfl⟩ rfl) ?_
   rintro _ aI ⟨rfl,_,_,y⟩
   refine Ze (Z9 (Zg (Zc (Zal (r:=q) (o:=0) rfl rfl) (Zc (zy (y.box 2 rfl) rfl rfl) (Zb _ M (Zc (Zb7 rfl rfl) (Zb (.b (decide ((gi s.Edges i.toNat).From=v))) rfl (zN 5 (fun f k=>aI=k∧f 32=.b ((decide ((gi s.Edges i.toNat).From=v))&&(decide ((gi s.Edges i.toNat).Dir=d)))∧f 1=.n v∧f 2=.n d∧f 3=.p m 0∧f 7=t∧f 8=.n i∧f 9=.p q 0) ?_ ?_))))))))
   ·rcases bc (decide ((gi s.Edges i.toNat).From=v)) with a|a
    ·refine Zq rfl a (Zc (Zal (r:=q) (o:=0) rfl rfl) (Zq rfl a (Zc (zy (y.box 2 rfl) rfl rfl) (Zq rfl a (Zb _ N (Zq rfl a (Zc (Zb7 rfl rfl) (Zc (ZcU rfl a rfl) (Zj ?_)))))))))
     exact ⟨rfl,rfl,M,N,F,O,H,rfl⟩
    ·refine Zl rfl a (Zl rfl a (Zl rfl a (Zl rfl a (Zc (ZcT (w:=(decide ((gi s.Edges i.toNat).From=v))&&(decide ((gi s.Edges i.toNat).Dir=d))) rfl a rfl) (Zj ?_)))))
     exact ⟨rfl,rfl,M,N,F,O,H,rfl⟩
   rintro _ _ ⟨rfl,az,S,T,U,W,I,X⟩
   refine Ze (Zii hp (fun l2 e fr k=>e=.normal∧∃ C,fr 1=.n v∧fr 2=.n d∧fr 3=.p m 0∧fr 7=C∧fr 8=.n i∧fr 9=.p q 0∧Own B h k [zO m [v_s_Boxes,v_s_Edges],eSl Zad C l2,zO q (zt.c (gi s.Edges i.toNat))]) (fun _ hp=>?_) ?_)
   ·refine zu hp az (fun an hp=>?_) (fun an hp=>?_)
    ·refine Zaf (Zb _ W (Zb _ I (ckk hp fun ap hp=>Zc (Zij rfl rfl ap) (zQ (y.bsl (E:=Zad) (l:=[2*i]) y.fr (by rw [(zf (v:=.n (2*i)) rfl Zbb)];rfl) rfl) ?_))))
     rintro _ _ ⟨_,_,L⟩
     refine ckk hp fun aq hp=>zQ (L.app (bytes:=8) 1 L.fr rfl (L.sl 3 rfl) rfl rfl (fun _=>rfl) aq (by decide)) ?_
     rintro ak _ ⟨_,aG⟩
     refine Zb ak rfl (Zj ?_)
     cases hp
     exact ⟨rfl,ak,S,T,U,rfl,I,X,(aG.pk [0,1,2])⟩
    ·refine ZcB ?_
     cases hp
     exact ⟨rfl,t,S,T,U,W,I,X,(y.pk [0,1,2])⟩
   rintro l2 hp _ _ aJ ⟨rfl,C,P,Q,ae,af,ah,ai,ad⟩
   refine Zt (Zg (Zc (ZbI (ad.box 2 rfl) ai rfl) ?_))
   obtain ⟨x,⟨_,aK,ay,rfl,aH⟩,hp⟩:=bdk hp fun _=>Zcr.ok (h:=aJ)  
   refine zU rfl rfl ay ?_
   have D:=ad.call aH rfl
   refine Zb (.n x) rfl (Ze (Zg (Zc (Zal (r:=q) (o:=0) ai rfl) (Zc (zy (D.box 2 rfl) rfl rfl) (Zb _ P (Zc (Zb7 rfl rfl) (Zb (.b (decide ((gi s.Edges i.toNat).To=v))) rfl (zN 4 (fun f k=>aK=k∧f 48=.b ((decide ((gi s.Edges i.toNat).To=v))&&(decide (x=d)))∧f 1=.n v∧f 2=.n d∧f 3=.p m 0∧f 7=C∧f 8=.n i) ?_ ?_))))))))
   ·rcases bc (decide ((gi s.Edges i.toNat).To=v)) with g|g
    ·refine Zq rfl g (Zb (.n x) rfl (Zq rfl g (Zb _ Q (Zq rfl g (Zc (Zb7 rfl rfl) (Zc (ZcU rfl g rfl) (Zj ?_)))))))
     exact ⟨rfl,rfl,P,Q,ae,af,ah⟩
    ·refine Zl rfl g (Zl rfl g (Zl rfl g (Zc (ZcT (w:=(decide ((gi s.Edges i.toNat).To=v))&&(decide (x=d))) rfl g rfl) (Zj ?_))))
     exact ⟨rfl,rfl,P,Q,ae,af,ah⟩
   rintro _ _ ⟨rfl,aA,Y,aa,ab,ac,J⟩
   refine Ze (zu hp aA (fun ao hp=>?_) (fun ao hp=>?_))
   ·refine Zaf (Zb _ ac (Zb _ J (ckk hp fun ar hp=>Zc (Zij rfl rfl ar) (ckk hp fun au hp=>Zc (ZV rfl rfl au) (zQ (D.bsl (E:=Zad) (l:=[(2*i)+1]) D.fr (by rw [(zf (v:=.n ((2*i)+1)) rfl Zbb)];rfl) rfl) ?_)))))
    rintro _ _ ⟨_,_,K⟩
    refine ckk hp fun av hp=>zQ (K.app (bytes:=8) 1 K.fr rfl (K.sl 3 rfl) rfl rfl (fun _=>rfl) av (by decide)) ?_
    rintro al _ ⟨_,aC⟩
    refine Zb al rfl (Zj (Zam (Zt (Zaf (Zb _ J (ckk hp fun aw hp=>Zc (ZV rfl rfl aw) (Zb (.n (i+1)) rfl (Zj ?_))))))))
    cases hp
    exact ⟨rfl,al,Y,aa,ab,rfl,rfl,(aC.pk [0,1])⟩
   ·refine ZcB (Zam (Zt (Zaf (Zb _ J (ckk hp fun ax hp=>Zc (ZV rfl rfl ax) (Zb (.n (i+1)) rfl (Zj ?_)))))))
    cases hp
    exact ⟨rfl,C,Y,aa,ab,ac,rfl,(D.pk [0,1])⟩
  ·refine Zb8 (zW ?_)
   cases hp
   exact ⟨nofun,rfl,t,O,(j.pk [1])⟩
 rintro l1 hp _ _ _ ⟨rfl,A,aL,aD⟩
 refine Za9 (Zt (Zg (Zb _ aL (Zb A rfl (Ze (zK (ZN (ZY rfl Z6) ?_)))))))
 cases hp
 exact ⟨A,rfl,(aD.pk [0])⟩

theorem z9.ok {h:Hp}{s:zX}{v_s_Boxes:V}{v_s_Edges:V}(s_s_Boxes:Sl e_bool h v_s_Boxes s.Boxes) (s_s_Edges:Sl zt h v_s_Edges s.Edges) {r:Int}(hp:z9 s=some r) :
  ∃ u k',Is G 198 [.ag [v_s_Boxes,v_s_Edges]] h u k'∧V.n r=u∧Own (fun r=>r<h.n) h k' []:=by
 refine WC.is (ZaD Zep ?_)
 unfold z9 at hp
 let B:Nat→Prop:=(fun r=>r<h.n)
 have hO:Own B h h []:=Own.start0 h
 refine Zg (zQ (hO.boxd (cs:=[v_s_Boxes,v_s_Edges]) hO.fr rfl rfl) ?_)
 rintro _ _ ⟨a,rfl,_,_,an⟩
 refine Zb (.n 0) rfl (Ze (Zg (Zb (.n 0) rfl (Ze (Z9 (Zg (Zb (.n 0) rfl (Ze ?_))))))))
 refine Zai (ZbM hp (fun|(n,v),fr,k=>fr 1=.p a 0∧fr 3=.n n∧fr 4=.n v∧Own B h k [zO a [v_s_Boxes,v_s_Edges]]) (fun n1 e fr k=>e=(.exit 0)∧fr 1=.p a 0∧fr 3=.n n1∧Own B h k [zO a [v_s_Boxes,v_s_Edges]]) ⟨rfl,rfl,rfl,(an.pk [0])⟩ ?_ ?_)
 ·rintro ⟨n,v⟩ _ _ ⟨A,Q,R,m⟩ _ hp
  dsimp only [z9.s0] at hp
  refine Z9 (Zg (Zb _ R (Zc (Zal (r:=a) (o:=0) A rfl) (Zc (zy (m.box 0 rfl) rfl rfl) (Zc (Zap (m.rd0 s_s_Boxes.rd) rfl) (Zc (zA rfl rfl) (Ze (zu hp rfl (fun X hp=>?_) (fun X hp=>?_)))))))))
  ·refine Zak (Z9 (Zai (Zg (Zb _ Q (ckk hp fun ac hp=>Zc (ZV rfl rfl ac) (Zb (.n (n+1)) rfl (Ze (Z9 (Z9 ?_)))))))))
   refine Zaf (Zb (.n 0) rfl (Ze (Zai (ZbM hp (fun|(n2,d),fr,k=>fr 1=.p a 0∧fr 3=.n n2∧fr 4=.n v∧fr 5=.n d∧Own B h k [zO a [v_s_Boxes,v_s_Edges]]) (fun n3 e fr k=>e=(.exit 2)∧fr 1=.p a 0∧fr 3=.n n3∧fr 4=.n v∧Own B h k [zO a [v_s_Boxes,v_s_Edges]]) ⟨A,rfl,R,rfl,(m.pk [0])⟩ ?_ ?_))))
   ·rintro ⟨n2,d⟩ _ P ⟨E,T,F,H,g⟩ _ hp
    dsimp only [z9.s1] at hp
    refine Z9 (Zg (Zb _ H (Zc (zA rfl rfl) (Zb (.b (decide (d<4))) rfl ?_))))
    obtain ⟨t,ar,hp⟩:=ZaP hp
    refine zN 6 (fun f k=>P=k∧f 25=.b t∧f 1=.p a 0∧f 3=.n n2∧f 4=.n v∧f 5=.n d) ?_ ?_
    ·clear hp;rcases Zbi ar with ⟨c,hp⟩|⟨c,hp⟩
     ·refine Zq rfl c (Zc (Zal (r:=a) (o:=0) E rfl) (Zq rfl c (Zc (zy (g.box 0 rfl) rfl rfl) (Zq rfl c (Zb _ F (Zq rfl c (ckk hp fun K hp=>Zc (ZP (g.rd0 s_s_Boxes.rd) rfl rfl K) (Zq rfl c (Zc (zw (g.rd0 s_s_Boxes.rd) rfl (Zf K) rfl) (Zc (ZaT (v:=.b t) rfl c (Eq.trans (b:=V.b (gi s.Boxes v.toNat)) rfl (congrArg V.b (Option.some.inj hp)))) (Zj ?_)))))))))))
      exact ⟨rfl,rfl,E,T,F,H⟩
     ·refine Zl rfl c (Zl rfl c (Zl rfl c (Zl rfl c (Zl rfl c (Zc (ZaI (v:=.b t) rfl c (Eq.trans (b:=V.b false) rfl (congrArg V.b (Option.some.inj hp)))) (Zj ?_))))))
      exact ⟨rfl,rfl,E,T,F,H⟩
    rintro _ _ ⟨rfl,am,w,M,y,N⟩
    refine Ze (zu hp am (fun Y hp=>?_) (fun Y hp=>?_))
    ·refine Zak (Z9 (Zai (Zg (Zc (ZbI (g.box 0 rfl) w rfl) (Zb _ y (Zb _ N ?_))))))
     obtain ⟨x,⟨_,_,al,W,rfl,aq⟩,hp⟩:=bdk hp fun _=>Za3.ok (h:=P)  (g.rd0 s_s_Boxes.rd) (g.rd0 s_s_Edges.rd)
     refine zU rfl rfl al ?_
     have O:=g.call aq rfl
     refine Zb W rfl (Ze (Zaf (Zb _ M (Zb W rfl (Zc (Zap (O.sl 1 rfl) rfl) (ckk hp fun af hp=>Zc (ZV rfl rfl af) (Zb (.n (n2+(x.length:Int))) rfl (Zj (Zam (Zt (Zaf ?_)))))))))))
     refine Zb _ N (ckk hp fun ah hp=>Zc (ZV rfl rfl ah) (Zb (.n (d+1)) rfl (Zj ?_)))
     cases hp
     exact ⟨rfl,w,rfl,y,rfl,(O.pk [0])⟩
    ·refine Zb8 (zW ?_)
     cases hp
     exact ⟨nofun,rfl,w,M,y,(g.pk [0])⟩
   rintro n3 hp _ _ _ ⟨rfl,C,S,D,l⟩
   refine Za9 (Zt (Zg (Zc (Zal (r:=a) (o:=0) C rfl) (Zc (zy (l.box 0 rfl) rfl rfl) (Zb _ D (ckk hp fun L hp=>Zc (ZP (l.rd0 s_s_Boxes.rd) rfl rfl L) (Zc (zw (l.rd0 s_s_Boxes.rd) rfl (Zf L) rfl) (Ze (zu hp rfl (fun aa hp=>?_) (fun aa hp=>?_))))))))))
   ·refine Zaf (Zb _ S (ckk hp fun ai hp=>Zc (ZV rfl rfl ai) (Zb (.n (n3+3)) rfl (Zj (Zam (Zt (Zaf (Zb _ D (ckk hp fun aj hp=>Zc (ZV rfl rfl aj) (Zb (.n (v+1)) rfl (Zj ?_)))))))))))
    cases hp
    exact ⟨rfl,C,rfl,rfl,(l.pk [0])⟩
   ·refine ZcB (Zam (Zt (Zaf (Zb _ D (ckk hp fun ak hp=>Zc (ZV rfl rfl ak) (Zb (.n (v+1)) rfl (Zj ?_)))))))
    cases hp
    exact ⟨rfl,C,S,rfl,(l.pk [0])⟩
  ·refine Zb8 (zW ?_)
   cases hp
   exact ⟨nofun,rfl,A,Q,(m.pk [0])⟩
 rintro n1 hp _ _ _ ⟨rfl,au,av,ao⟩
 refine Za9 (Zt (Z9 (Zg (Zb (.n 0) rfl (Ze (Zai (ZbM hp (fun|(n4,i),fr,k=>fr 1=.p a 0∧fr 3=.n n4∧fr 7=.n i∧Own B h k [zO a [v_s_Boxes,v_s_Edges]]) (fun n5 e fr k=>e=(.exit 4)∧fr 3=.n n5∧Own B h k []) ⟨au,av,rfl,(ao.pk [0])⟩ ?_ ?_)))))))
 ·rintro ⟨n4,i⟩ _ _ ⟨I,U,J,j⟩ _ hp
  dsimp only [z9.s2] at hp
  refine Z9 (Zg (Zb _ J (Zc (Zal (r:=a) (o:=0) I rfl) (Zc (zy (j.box 0 rfl) rfl rfl) (Zc (Zap (j.rd0 s_s_Edges.rd) rfl) (Zc (zA rfl rfl) (Ze (zu hp rfl (fun ab hp=>?_) (fun ab hp=>?_)))))))))
  ·refine Zak (Z9 (Zai (Zaf (Zb _ U (Zc (Zal (r:=a) (o:=0) I rfl) (Zc (zy (j.box 0 rfl) rfl rfl) (Zb _ J (ckk hp fun q hp=>Zc (ZP (j.rd0 s_s_Edges.rd) rfl rfl q) (Zc (ZaR (j.rd0 s_s_Edges.rd) (Zf q) rfl rfl) (Zc (zw (j.rd0 s_s_Edges.rd) rfl (Zf q) rfl) (Zc (Zik rfl) ?_)))))))))))
   refine ckk hp fun ad hp=>Zc (ZV rfl rfl ad) (Zb (.n (n4+(((gi s.Edges i.toNat).Bends).size:Int))) rfl (Zj (Zam (Zt (Zaf (Zb _ J (ckk hp fun ae hp=>Zc (ZV rfl rfl ae) (Zb (.n (i+1)) rfl (Zj ?_)))))))))
   cases hp
   exact ⟨rfl,I,rfl,rfl,(j.pk [0])⟩
  ·refine Zb8 (zW ?_)
   cases hp
   exact ⟨nofun,rfl,U,(j.pk [])⟩
 rintro n5 hp _ _ _ ⟨rfl,aw,ap⟩
 refine Za9 (Zt (Zg (Zb _ aw (Zb (.n n5) rfl (Ze (zK (ZN (ZY rfl Z6) ?_)))))))
 cases hp
 exact ⟨rfl,(ap.pk [])⟩

theorem zr.ok {h:Hp}{s:zX}{v_s_Boxes:V}{v_s_Edges:V}(s_s_Boxes:Sl e_bool h v_s_Boxes s.Boxes) (s_s_Edges:Sl zt h v_s_Edges s.Edges) {r:Int}(hp:zr s=some r) :
  ∃ u k',Is G 174 [.ag [v_s_Boxes,v_s_Edges]] h u k'∧V.n r=u∧Own (fun r=>r<h.n) h k' []:=by
 refine WC.is (ZaD Zeq ?_)
 unfold zr at hp
 let B:Nat→Prop:=(fun r=>r<h.n)
 have hO:Own B h h []:=Own.start0 h
 refine Zg (zQ (hO.boxd (cs:=[v_s_Boxes,v_s_Edges]) hO.fr rfl rfl) ?_)
 rintro _ aK ⟨a,rfl,_,_,D⟩
 refine Zb (.n 0) rfl (Ze (Zg (Zc (ZbI (D.box 0 rfl) rfl rfl) ?_)))
 obtain ⟨x,⟨_,aL,av,rfl,aF⟩,hp⟩:=bdk hp fun _=>Zag.ok (h:=aK)  (D.rd0 s_s_Boxes.rd) (D.rd0 s_s_Edges.rd)
 refine zU rfl rfl av ?_
 have A:=D.call aF rfl
 refine Zb (.n x) rfl (Ze (Z9 (Zg (Zb (.n x) rfl (Zc (Zca rfl rfl) (Ze (zu hp rfl (fun aj hp=>?_) (fun aj hp=>?_))))))))
 ·refine Zg (Zb (.n x) rfl (Zb (.n x) rfl (Ze (zK (ZI (ZN (ZY rfl Z6) ?_))))))
  cases hp
  exact ⟨rfl,(A.pk [])⟩
 ·refine Zak (Zg (Zc (ZbI (A.box 0 rfl) rfl rfl) ?_))
  obtain ⟨x1,⟨_,_,aw,rfl,aG⟩,hp⟩:=bdk hp fun _=>z9.ok (h:=aL)  (A.rd0 s_s_Boxes.rd) (A.rd0 s_s_Edges.rd)
  refine zU rfl rfl aw ?_
  have ad:=A.call aG rfl
  refine Zb (.n x1) rfl (Ze (Z9 (Zg (Zb (.n x1) rfl (Zc (Zd1 rfl rfl) (Ze (zu hp rfl (fun al hp=>?_) (fun al hp=>?_))))))))
  ·refine Zg (Zb (.n 6) rfl (Ze (zK (ZI (ZN (ZY rfl Z6) ?_)))))
   cases hp
   exact ⟨rfl,(ad.pk [])⟩
  ·refine Zak (Z9 (Zg (Zb (.n 0) rfl (Ze (Zai (ZbM hp (fun v fr k=>fr 1=.p a 0∧fr 5=.n v∧Own B h k [zO a [v_s_Boxes,v_s_Edges]]) (fun|.inl _,e,fr,k=>e=(.exit 0)∧fr 1=.p a 0∧Own B h k [zO a [v_s_Boxes,v_s_Edges]]|.inr _,e,fr,k=>e=.ret∧fr 2=.n 8∧Own B h k []) ⟨rfl,rfl,(ad.pk [0])⟩ ?_ ?_))))))
   ·rintro v _ _ ⟨P,ah,E⟩ _ hp
    dsimp only [zr.s0] at hp
    refine Z9 (Zg (Zb _ ah (Zc (Zal (r:=a) (o:=0) P rfl) (Zc (zy (E.box 0 rfl) rfl rfl) (Zc (Zap (E.rd0 s_s_Boxes.rd) rfl) (Zc (zA rfl rfl) (Ze (zu hp rfl (fun am hp=>?_) (fun am hp=>?_)))))))))
    ·refine Zak (Z9 (Zai (Zg (Zb (.n 0) rfl (Ze (Zai (ZbM hp (fun d fr k=>fr 1=.p a 0∧fr 5=.n v∧fr 6=.n d∧Own B h k [zO a [v_s_Boxes,v_s_Edges]]) (fun|.inl _,e,fr,k=>e=(.exit 2)∧fr 1=.p a 0∧fr 5=.n v∧Own B h k [zO a [v_s_Boxes,v_s_Edges]]|.inr _,e,fr,k=>e=.ret∧fr 2=.n 8∧Own B h k []) ⟨P,ah,rfl,(E.pk [0])⟩ ?_ ?_)))))))
     ·rintro d _ af ⟨Q,R,S,y⟩ _ hp
      dsimp only [zr.s1] at hp
      refine Z9 (Zg (Zb _ S (Zc (zA rfl rfl) (Zb (.b (decide (d<4))) rfl ?_))))
      obtain ⟨t,aI,hp⟩:=ZaP hp
      refine zN 7 (fun f k=>af=k∧f 35=.b t∧f 1=.p a 0∧f 5=.n v∧f 6=.n d) ?_ ?_
      ·clear hp;rcases Zbi aI with ⟨j,hp⟩|⟨j,hp⟩
       ·refine Zq rfl j (Zc (Zal (r:=a) (o:=0) Q rfl) (Zq rfl j (Zc (zy (y.box 0 rfl) rfl rfl) (Zq rfl j (Zb _ R (Zq rfl j (ckk hp fun T hp=>Zc (ZP (y.rd0 s_s_Boxes.rd) rfl rfl T) (Zq rfl j (Zc (zw (y.rd0 s_s_Boxes.rd) rfl (Zf T) rfl) (Zq rfl j (Zc (ZcJ rfl) (Zc (ZaT (v:=.b t) rfl j (Eq.trans (b:=V.b (!(gi s.Boxes v.toNat))) rfl (congrArg V.b (Option.some.inj hp)))) ?_))))))))))))
        refine Zj ?_
        exact ⟨rfl,rfl,Q,R,S⟩
       ·refine Zl rfl j (Zl rfl j (Zl rfl j (Zl rfl j (Zl rfl j (Zl rfl j (Zc (ZaI (v:=.b t) rfl j (Eq.trans (b:=V.b false) rfl (congrArg V.b (Option.some.inj hp)))) (Zj ?_)))))))
        exact ⟨rfl,rfl,Q,R,S⟩
      rintro _ _ ⟨rfl,ay,I,J,X⟩
      refine Ze (zu hp ay (fun an hp=>?_) (fun an hp=>?_))
      ·refine Zak (Z9 (Zai (Zg (Zc (ZbI (y.box 0 rfl) I rfl) (Zb _ J (Zb _ X ?_))))))
       obtain ⟨x2,⟨_,_,ax,ai,rfl,aH⟩,hp⟩:=bdk hp fun _=>Za3.ok (h:=af)  (y.rd0 s_s_Boxes.rd) (y.rd0 s_s_Edges.rd)
       refine zU rfl rfl ax ?_
       have N:=y.call aH rfl
       refine Zb ai rfl (Ze (Zg (Zb ai rfl (Zc (Zap (N.sl 1 rfl) rfl) (Zc (Zd1 rfl rfl) (Ze (zu hp rfl (fun ao hp=>?_) (fun ao hp=>?_))))))))
       ·refine Zg (Zb (.n 8) rfl (Ze (zK (ZaZ (ZI ?_)))))
        cases hp
        exact ⟨nofun,rfl,rfl,(N.pk [])⟩
       ·refine ZcB (Zam (Zt (Zaf (Zb _ X (ckk hp fun aq hp=>Zc (ZV rfl rfl aq) (Zb (.n (d+1)) rfl (Zj ?_)))))))
        cases hp
        exact ⟨rfl,I,J,rfl,(N.pk [0])⟩
      ·refine Zb8 (zW ?_)
       cases hp
       exact ⟨nofun,rfl,I,J,(y.pk [0])⟩
     rintro (_|_) hp _ _ _ ab
     ·obtain ⟨rfl,aO,aQ,M⟩:=ab
      refine Za9 (Zam (Zt (Zaf (Zb _ aQ (ckk hp fun ar hp=>Zc (ZV rfl rfl ar) (Zb (.n (v+1)) rfl (Zj ?_)))))))
      cases hp
      exact ⟨rfl,aO,rfl,(M.pk [0])⟩
     ·obtain ⟨rfl,aP,M⟩:=ab
      refine ZaZ (ZaZ (ZI ?_))
      cases hp
      exact ⟨nofun,rfl,aP,(M.pk [])⟩
    ·refine Zb8 (zW ?_)
     cases hp
     exact ⟨nofun,rfl,P,(E.pk [0])⟩
   rintro (_|_) hp _ _ _ aa
   ·obtain ⟨rfl,aM,L⟩:=aa
    refine Za9 (Zt (Z9 (Zg (Zb (.n 0) rfl (Ze (Zai (ZbM hp (fun i fr k=>fr 1=.p a 0∧fr 8=.n i∧Own B h k [zO a [v_s_Boxes,v_s_Edges]]) (fun|.inl _,e,fr,k=>e=(.exit 4)∧Own B h k []|.inr _,e,fr,k=>e=.ret∧fr 2=.n 10∧Own B h k []) ⟨aM,rfl,(L.pk [0])⟩ ?_ ?_)))))))
    ·rintro i _ _ ⟨F,H,q⟩ _ hp
     dsimp only [zr.s2] at hp
     refine Z9 (Zg (Zb _ H (Zc (Zal (r:=a) (o:=0) F rfl) (Zc (zy (q.box 0 rfl) rfl rfl) (Zc (Zap (q.rd0 s_s_Edges.rd) rfl) (Zc (zA rfl rfl) (Ze (zu hp rfl (fun ap hp=>?_) (fun ap hp=>?_)))))))))
     ·refine Zak (Z9 (Zai (Zg (Zc (Zal (r:=a) (o:=0) F rfl) (Zc (zy (q.box 0 rfl) rfl rfl) (Zb _ H (ckk hp fun U hp=>Zc (ZP (q.rd0 s_s_Edges.rd) rfl rfl U) (Zc (Zfm (q.rd0 s_s_Edges.rd) rfl (Zf U)) (zQ (q.alloc (cs:=zt.c (⟨0,0,0,(⟨#[]⟩:ByteArray)⟩:ZaQ)) q.fr) ?_)))))))))
      rintro _ _ ⟨C,rfl,_,_,aE⟩
      refine zQ (aE.stb (cs':=zt.c (gi s.Edges i.toNat)) 1 rfl rfl rfl rfl ⟨rfl,Nat.le_of_ble_eq_true rfl,rfl⟩ rfl) ?_
      rintro _ ae ⟨rfl,_,_,m⟩
      refine Ze (Zg (Zc (Zal (r:=C) (o:=0) rfl rfl) (Zc (zy (m.box 1 rfl) rfl rfl) (Zc (Zal (r:=C) (o:=0) rfl rfl) (Zc (zy (m.box 1 rfl) rfl rfl) (Zc (Zb7 rfl rfl) (Zb (.b (decide ((gi s.Edges i.toNat).From=(gi s.Edges i.toNat).To))) rfl (zN 4 (fun f k=>ae=k∧f 66=.b ((decide ((gi s.Edges i.toNat).From=(gi s.Edges i.toNat).To))&&(((gi s.Edges i.toNat).Bends).toList == (⟨#[]⟩:ByteArray).toList))∧f 1=.p a 0∧f 8=.n i∧f 9=.p C 0) ?_ ?_))))))))
      ·rcases bc (decide ((gi s.Edges i.toNat).From=(gi s.Edges i.toNat).To)) with l|l
       ·refine Zq rfl l (Zc (Zal (r:=C) (o:=0) rfl rfl) (Zq rfl l (Zc (zy (m.box 1 rfl) rfl rfl) (Zq rfl l (Zc (Zq8 rfl rfl) (Zc (ZcU rfl l rfl) (Zj ?_)))))))
        exact ⟨rfl,rfl,F,H,rfl⟩
       ·refine Zl rfl l (Zl rfl l (Zl rfl l (Zc (ZcT (w:=(decide ((gi s.Edges i.toNat).From=(gi s.Edges i.toNat).To))&&(((gi s.Edges i.toNat).Bends).toList == (⟨#[]⟩:ByteArray).toList)) rfl l rfl) (Zj ?_))))
        exact ⟨rfl,rfl,F,H,rfl⟩
      rintro _ _ ⟨rfl,az,K,Y,aA⟩
      refine Zb _ az ?_
      obtain ⟨t1,aJ,hp⟩:=ZaP hp
      refine zN 8 (fun f k=>ae=k∧f 75=.b t1∧f 1=.p a 0∧f 8=.n i) ?_ ?_
      ·clear hp;rcases Zbi aJ with ⟨g,hp⟩|⟨g,hp⟩
       ·refine Zq rfl g (Zc (Zal (r:=a) (o:=0) K rfl) (Zq rfl g (Zc (zy (m.box 0 rfl) rfl rfl) (Zq rfl g (Zc (Zal (r:=C) (o:=0) aA rfl) (Zq rfl g (Zc (zy (m.box 1 rfl) rfl rfl) (Zq rfl g (ckk hp fun W hp=>Zc (ZP (m.rd0 s_s_Boxes.rd) rfl rfl W) (Zq rfl g (Zc (zw (m.rd0 s_s_Boxes.rd) rfl (Zf W) rfl) (Zq rfl g ?_))))))))))))
        refine Zc (ZcJ rfl) (Zc (ZaT (v:=.b t1) rfl g (Eq.trans (b:=V.b (!(gi s.Boxes ((gi s.Edges i.toNat).From:Int).toNat))) rfl (congrArg V.b (Option.some.inj hp)))) (Zj ?_))
        exact ⟨rfl,rfl,K,Y⟩
       ·refine Zl rfl g (Zl rfl g (Zl rfl g (Zl rfl g (Zl rfl g (Zl rfl g (Zl rfl g (Zc (ZaI (v:=.b t1) rfl g (Eq.trans (b:=V.b false) rfl (congrArg V.b (Option.some.inj hp)))) (Zj ?_))))))))
        exact ⟨rfl,rfl,K,Y⟩
      rintro _ _ ⟨rfl,aC,aB,aD⟩
      refine Ze (zu hp aC (fun ak hp=>?_) (fun ak hp=>?_))
      ·refine Zg (Zb (.n 10) rfl (Ze (zK (ZaZ (ZI ?_)))))
       cases hp
       exact ⟨nofun,rfl,rfl,(m.pk [])⟩
      ·refine ZcB (Zam (Zt (Zaf (Zb _ aD (ckk hp fun au hp=>Zc (ZV rfl rfl au) (Zb (.n (i+1)) rfl (Zj ?_)))))))
       cases hp
       exact ⟨rfl,aB,rfl,(m.pk [0])⟩
     ·refine Zb8 (zW ?_)
      cases hp
      exact ⟨nofun,rfl,(q.pk [])⟩
    rintro (_|_) hp _ _ _ ac
    ·obtain ⟨rfl,O⟩:=ac
     refine Za9 (Zt (Zg (Zb (.n 0) rfl (Ze (zK (ZN (ZY rfl Z6) ?_))))))
     cases hp
     exact ⟨rfl,(O.pk [])⟩
    ·obtain ⟨rfl,aR,O⟩:=ac
     refine ZaZ (ZI (ZN (ZY aR Z6) ?_))
     cases hp
     exact ⟨rfl,(O.pk [])⟩
   ·obtain ⟨rfl,aN,L⟩:=aa
    refine ZaZ (ZI (ZN (ZY aN Z6) ?_))
    cases hp
    exact ⟨rfl,(L.pk [])⟩

end Mu
