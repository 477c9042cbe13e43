/- The code comes to what was worked out. -/
import Derived.Test.YtfdidkebomeiaaaMuDf
import Derived.Test.YtfdidkebomeiaaaMuPa
import Derived.Test.YtfdidkebomeiaaaMuC1
set_option linter.unusedVariables false
set_option linter.unnecessarySimpa false
set_option linter.unusedSimpArgs false
set_option maxHeartbeats 2000000
set_option maxRecDepth 10000
namespace Mu
open Go (IntKind BinOp UnOp)
theorem Zad.ok {h:Hp}{cells:List Za}{v_cells:V}(s_cells:Sl Zc h v_cells cells) {r:Int×Int×Int×Bool}(hp:Zad cells=some r) :
  ∃ u k',Is G 228 [v_cells] h u k'∧V.tu [.n r.1,.n r.2.1,.n r.2.2.1,.b r.2.2.2]=u∧Own (fun r=>r<h.n) h k' []:=by
 refine WC.is (Za1 ZdB ?_);unfold Zad at hp;let B:Nat→Prop:=(fun r=>r<h.n);have hO:Own B h h []:=Own.start0 h;refine Zn (Zb (.n 0) rfl (Zb (.n 0) rfl (Zb (.n 0) rfl (Zb (.b false) rfl (Zf (Zn (Zb v_cells rfl ?_)))))));obtain ⟨⟨x,x1⟩,⟨_,_,ai,D,d,rfl,av⟩,hp⟩:=bdk hp fun _=>ze.ok (h:=h)  (hO.rd0 s_cells.rd);refine Zaq rfl rfl ai ?_;have F:=hO.call av rfl;refine Zb (.tu [D,.n x1]) rfl (Ze (Za6 rfl rfl) (Ze (Za6 rfl rfl) (Zb D rfl (Zb (.n x1) rfl (Zf (ZQ (Zn (Zb D rfl (Ze (Zik (n:=(x).length) (F.sl 0 rfl) (F.allLen 1 rfl:(d).length=(x).length) rfl) (Zb (.n 0) rfl (Zo ?_)))))))))));refine Z7 (Zat (ZbG hp (fun x2 fr k=>fr 0=v_cells∧fr 20=D∧fr 21=.n (x.length:Int)∧fr 22=.n x2∧Own B h k [eSl eV D d,ZcR Zh d x]) (fun|.inl _,e,fr,k=>e=(.exit 0)∧Own B h k []|.inr (x3,x4,x5),e,fr,k=>e=.ret∧fr 2=.n x3∧fr 3=.n x4∧fr 4=.n x5∧fr 5=.b true∧Own B h k []) ⟨rfl,rfl,rfl,rfl,(F.pk [0,1])⟩ ?_ ?_))
 ·rintro x2 _ U ⟨E,Y,aa,I,p⟩ _ hp;dsimp only [Zad.s0] at hp;refine Zn (Ze (zA I aa) (Zf (ZQ (zE hp rfl (fun ad hp=>?_) (fun ad hp=>?_)))))
  ·refine Za2 (ZQ (Zat (Zn (ckk hp fun f hp=>Ze (zl (p.sl 0 rfl) Y I (by rw [(p.allLen 1 rfl:(d).length=(x).length)];exact f)) (Ze (zU (p.sl 0 rfl) rfl (by rw [(p.allLen 1 rfl:(d).length=(x).length)];exact Zg f) rfl) (Zb ((gi d x2.toNat)) rfl (Zf (Zn ?_))))))));refine Zb _ E (Zb ((gi d x2.toNat)) rfl ?_);obtain ⟨x6,⟨_,ay,aj,_,rfl,aw⟩,hp⟩:=bdk hp fun _=>Zak.ok (h:=U)  (p.rd0 s_cells.rd) (p.inn 1 rfl (Zg f):Sl Zh U (gi d x2.toNat) (gi x x2.toNat));refine Zaq rfl rfl aj ?_;have Q:=p.call aw rfl;obtain ⟨⟨x7,x8,x9⟩,⟨_,_,ak,rfl,ax⟩,hp⟩:=bdk hp fun _=>zy.ok (h:=ay)  (Q.sl 2 rfl);refine Zaq rfl rfl ak ?_;have R:=Q.call ax rfl;refine Zb (.tu [.ag (Zj.c x7),.ag (Zj.c x8),.b x9]) rfl (Ze (Za6 rfl rfl) (Ze (Za6 rfl rfl) (Ze (Za6 rfl rfl) (zK (R.alloc (cs:=Zj.c (⟨0,0⟩:Zl)) R.fr) ?_))));rintro _ _ ⟨ab,rfl,_,_,S⟩;refine zK (S.alloc (cs:=Zj.c (⟨0,0⟩:Zl)) S.fr) ?_;rintro _ _ ⟨aD,rfl,_,_,ar⟩;refine zK (ar.stb (cs':=Zj.c x7) 3 rfl rfl rfl rfl ⟨rfl,Nat.le_of_ble_eq_true rfl,rfl⟩ rfl) ?_;rintro _ _ ⟨rfl,_,_,au⟩;refine zK (au.stb (cs':=Zj.c x8) 4 rfl rfl rfl rfl ⟨rfl,Nat.le_of_ble_eq_true rfl,rfl⟩ rfl) ?_;rintro _ y ⟨rfl,_,_,a⟩;refine Zb (.b x9) rfl (Zf (ZQ (Zn (Zb (.b x9) rfl (Ze (Zc3 rfl) (Zf (zE hp rfl (fun ae hp=>?_) (fun ae hp=>?_))))))))
   ·refine Zbx (Zaf (ZaI (Z7 (Zah (ckk hp fun af hp=>Ze (zM I rfl af) (Zb (.n (x2+1)) rfl (Zo ?_)))))));cases hp;exact ⟨rfl,E,Y,aa,rfl,(a.pk [0,1])⟩
   ·refine Za2 (ZQ (Zg5 ?_));have s:=a.bump 14;have O:=Fresh.start y 14;have X:∀ {i:Nat},h.n≤y.n+i:=Nat.le_trans a.n (Nat.le_add_right _ _);refine ZaV ((gi d x2.toNat)) rfl (zm (ZaH (r:=ab) (o:=0) rfl rfl) (zm (zY (s.box 3 rfl) rfl rfl) (ckk hp fun K hp=>zm (zl (s.inn 1 rfl (Zg f):Sl Zh (y.bump 14) (gi d x2.toNat) (gi x x2.toNat)) rfl rfl K) (zm (Zeg (s.inn 1 rfl (Zg f):Sl Zh (y.bump 14) (gi d x2.toNat) (gi x x2.toNat)) rfl (Zg K)) (ZaV ((gi d x2.toNat)) rfl (zm (ZaH (r:=aD) (o:=0) rfl rfl) (zm (zY (s.box 4 rfl) rfl rfl) (ckk hp fun L hp=>zm (zl (s.inn 1 rfl (Zg f):Sl Zh (y.bump 14) (gi d x2.toNat) (gi x x2.toNat)) rfl rfl L) (zm (Zeg (s.inn 1 rfl (Zg f):Sl Zh (y.bump 14) (gi d x2.toNat) (gi x x2.toNat)) rfl (Zg L)) (ZeW (s.alloc (cs:=Zh.c (⟨0,0⟩:Zr)) ⟨O.m 10 (by decide) (by decide),X⟩) ?_))))))))));rintro _ _ _ ⟨J,rfl,W,am,ao⟩;have an:=O.kept am (by decide);refine ZeW (ao.alloc (cs:=Zh.c (⟨0,0⟩:Zr)) ⟨an.m 11 (by decide) (by decide),X⟩) ?_;rintro _ _ _ ⟨ac,rfl,_,_,ap⟩;refine ZeW (ap.stb (cs':=Zh.c (gi (gi x x2.toNat) (x7.At:Int).toNat)) 5 rfl rfl rfl rfl ⟨rfl,Nat.le_of_ble_eq_true rfl,rfl⟩ rfl) ?_;rintro _ _ _ ⟨rfl,_,_,aq⟩;refine ZeW (aq.stb (cs':=Zh.c (gi (gi x x2.toNat) (x8.At:Int).toNat)) 6 rfl rfl rfl rfl ⟨rfl,Nat.le_of_ble_eq_true rfl,rfl⟩ rfl) ?_;rintro _ T _ ⟨rfl,_,_,g⟩;refine Zcq ?_;refine And.intro ?_ ?_
    ·intro q hq;simp only [List.mem_cons,List.not_mem_nil,or_false] at hq;rcases hq with rfl|rfl|rfl|rfl|rfl|rfl|rfl|rfl|rfl|rfl|rfl|rfl|rfl|rfl|rfl
     ·refine Zao ?_ ?_
      ·exact nofun
      ·exact nofun
     ·refine Zao ?_ ?_
      ·exact nofun
      ·exact nofun
     ·refine Zao ?_ ?_
      ·exact nofun
      ·exact nofun
     ·refine Zao ?_ ?_
      ·exact nofun
      ·exact nofun
     ·refine Zao ?_ ?_
      ·exact nofun
      ·exact (fun _ hm=>Nat.lt_irrefl _ (Nat.lt_of_lt_of_le (a.ltAt 3 rfl _ (tch (Zb1 hm) rfl)) (Nat.le_add_right _ _)))
     ·refine Zao ?_ ?_
      ·exact nofun
      ·exact (fun _ hm=>Nat.lt_irrefl _ (Nat.lt_of_lt_of_le (a.ltAt 1 rfl _ (ZeB (j:=x2.toNat) (by have q:(d).length=(x).length:=a.allLen 1 rfl;have:=f;omega) (Zcc (tch (Zb1 hm) rfl)))) (Nat.le_add_right _ _)))
     ·refine Zao ?_ ?_
      ·exact nofun
      ·exact (fun _ hm=>Nat.lt_irrefl _ (Nat.lt_of_lt_of_le (a.ltAt 4 rfl _ (tch (Zb1 hm) rfl)) (Nat.le_add_right _ _)))
     ·refine Zao ?_ ?_
      ·exact nofun
      ·exact (fun _ hm=>Nat.lt_irrefl _ (Nat.lt_of_lt_of_le (a.ltAt 1 rfl _ (ZeB (j:=x2.toNat) (by have q:(d).length=(x).length:=a.allLen 1 rfl;have:=f;omega) (Zcc (tch (Zb1 hm) rfl)))) (Nat.le_add_right _ _)))
     ·refine Zao ?_ ?_
      ·exact nofun
      ·exact (fun _ hm=>Nat.lt_irrefl _ (Nat.lt_of_lt_of_le (a.ltAt 3 rfl _ (tch (Zb1 hm) rfl)) (Nat.le_add_right _ _)))
     ·refine Zao ?_ ?_
      ·exact nofun
      ·exact (fun _ hm=>Nat.lt_irrefl _ (Nat.lt_of_lt_of_le (a.ltAt 1 rfl _ (ZeB (j:=x2.toNat) (by have q:(d).length=(x).length:=a.allLen 1 rfl;have:=f;omega) (Zcc (tch (Zb1 hm) rfl)))) (Nat.le_add_right _ _)))
     ·refine Zao ?_ ?_
      ·exact nofun
      ·exact (fun _ hm=>Nat.lt_irrefl _ (Nat.lt_of_lt_of_le (a.ltAt 4 rfl _ (tch (Zb1 hm) rfl)) (Nat.le_add_right _ _)))
     ·refine Zao ?_ ?_
      ·exact nofun
      ·exact (fun _ hm=>Nat.lt_irrefl _ (Nat.lt_of_lt_of_le (a.ltAt 1 rfl _ (ZeB (j:=x2.toNat) (by have q:(d).length=(x).length:=a.allLen 1 rfl;have:=f;omega) (Zcc (tch (Zb1 hm) rfl)))) (Nat.le_add_right _ _)))
     ·refine Zao ?_ ?_
      ·exact (fun _=>List.not_mem_nil)
      ·exact (fun _=>List.not_mem_nil)
     ·refine ZjM ?_ ?_ ?_
      ·exact (fun r h1 h2=>by have h3:=(a.ltAt 4 rfl _ (tch (Zb1 h1) rfl));have h4:=(ZiW W (tch (ZkI h2) rfl));omega)
      ·exact nofun
      ·exact (fun _ hm=>Nat.lt_irrefl _ (Nat.lt_of_lt_of_le (a.ltAt 4 rfl _ (tch (Zb1 hm) rfl)) (Nat.le_add_right _ _)))
     ·refine ZjM ?_ ?_ ?_
      ·exact (fun r h1 h2=>by have h3:=(a.ltAt 1 rfl _ (ZeB (j:=x2.toNat) (by have q:(d).length=(x).length:=a.allLen 1 rfl;have:=f;omega) (Zcc (tch (Zb1 h1) rfl))));have h4:=(ZiW W (tch (ZkI h2) rfl));omega)
      ·exact nofun
      ·exact (fun _ hm=>Nat.lt_irrefl _ (Nat.lt_of_lt_of_le (a.ltAt 1 rfl _ (ZeB (j:=x2.toNat) (by have q:(d).length=(x).length:=a.allLen 1 rfl;have:=f;omega) (Zcc (tch (Zb1 hm) rfl)))) (Nat.le_add_right _ _)))
    refine Z7 (ZQ (Zg5 ?_));have l:=g.bump 28;have w:=Fresh.start T 28;refine ZaV _ E (zm (ZaH (r:=J) (o:=0) rfl rfl) (zm (zY (l.box 5 rfl) rfl rfl) (zm (ZaH (r:=J) (o:=0) rfl rfl) (zm (zY (l.box 5 rfl) rfl rfl) (ckk hp fun A hp=>zm (zl (l.rd0 s_cells.rd) rfl rfl A) (zm (Za7 (l.rd0 s_cells.rd) (Zg A) rfl rfl) (ckk hp fun M hp=>zm (Zbh (l.rd0 s_cells.rd) (Zg A) rfl rfl M rfl) (zm (zU (l.rd0 s_cells.rd) rfl (Zg A) (zw M)) (zm (ZaH (r:=J) (o:=0) rfl rfl) (zm (zY (l.box 5 rfl) rfl rfl) (zm (ZaH (r:=ab) (o:=0) rfl rfl) ?_)))))))))));refine zm (zY (l.box 3 rfl) rfl rfl) (ckk hp fun ah hp=>zm (ZjB rfl ah) ?_);obtain ⟨x10,⟨_,_,al,rfl,v⟩,hp⟩:=bdk hp fun _=>zf.ok (h:=(T.bump 28))  ;refine Zj6 rfl rfl al ?_;have t:=l.call v rfl;refine ZaV _ E (zm (ZaH (r:=ac) (o:=0) rfl rfl) (zm (zY (t.box 6 rfl) rfl rfl) (zm (ZaH (r:=ac) (o:=0) rfl rfl) (zm (zY (t.box 6 rfl) rfl rfl) (ckk hp fun C hp=>zm (zl (t.rd0 s_cells.rd) rfl rfl C) (zm (Za7 (t.rd0 s_cells.rd) (Zg C) rfl rfl) (ckk hp fun N hp=>zm (Zbh (t.rd0 s_cells.rd) (Zg C) rfl rfl N rfl) (zm (zU (t.rd0 s_cells.rd) rfl (Zg C) (zw N)) (ZaV (.n (((gi cells ((gi (gi x x2.toNat) (x7.At:Int).toNat).Cell:Int).toNat).Next).get ((gi (gi x x2.toNat) (x7.At:Int).toNat).Dir))) rfl (ZaV (.n x10) rfl (ZaV (.n (((gi cells ((gi (gi x x2.toNat) (x8.At:Int).toNat).Cell:Int).toNat).Next).get ((gi (gi x x2.toNat) (x8.At:Int).toNat).Dir))) rfl ?_)))))))))));refine ZaV (.b true) rfl (Zcq ?_);refine And.intro ?_ ?_
    ·intro q hq;simp only [List.mem_cons,List.not_mem_nil,or_false] at hq;rcases hq with rfl|rfl|rfl|rfl|rfl|rfl|rfl|rfl|rfl|rfl|rfl|rfl|rfl|rfl|rfl|rfl|rfl|rfl|rfl|rfl|rfl|rfl|rfl|rfl|rfl|rfl|rfl|rfl|rfl|rfl
     ·refine Zao ?_ ?_
      ·exact nofun
      ·exact nofun
     ·refine Zao ?_ ?_
      ·exact nofun
      ·exact nofun
     ·refine Zao ?_ ?_
      ·exact nofun
      ·exact nofun
     ·refine Zao ?_ ?_
      ·exact nofun
      ·exact nofun
     ·refine Zao ?_ ?_
      ·exact nofun
      ·exact nofun
     ·refine Zao ?_ ?_
      ·exact nofun
      ·exact nofun
     ·refine Zao ?_ ?_
      ·exact nofun
      ·exact nofun
     ·refine Zao ?_ ?_
      ·exact nofun
      ·exact nofun
     ·refine ZhJ rfl rfl ?_
      ·exact (fun r hm hc=>hc (v.base r (Nat.lt_of_lt_of_le (g.ltAt 5 rfl _ (tch (Zb1 hm) rfl)) (Nat.le_trans (Nat.le_add_right _ _) w.n))))
     ·refine ZhJ rfl rfl ?_
      ·exact (fun r hm hc=>hc (v.base r (Nat.lt_of_lt_of_le (g.ltAt 5 rfl _ (tch (Zb1 hm) rfl)) (Nat.le_trans (Nat.le_add_right _ _) w.n))))
     ·refine ZhJ rfl rfl ?_
      ·exact (fun r hm hc=>hc (v.base r (Nat.lt_of_lt_of_le (Nat.lt_of_lt_of_le (g.lo _ (Rd.B s_cells.rd g.lo (Zg A) _ (Zcc (tch (Zb1 hm) rfl)))) g.n) (Nat.le_trans (Nat.le_add_right _ _) w.n))))
     ·refine Zao ?_ ?_
      ·exact nofun
      ·exact nofun
     ·refine Zao ?_ ?_
      ·exact nofun
      ·exact nofun
     ·refine Zao ?_ ?_
      ·exact nofun
      ·exact nofun
     ·refine Zao ?_ ?_
      ·exact nofun
      ·exact nofun
     ·refine Zao ?_ ?_
      ·exact nofun
      ·exact nofun
     ·refine ZjL rfl ?_
      ·exact (fun r hm hc=>hc (v.base r (Nat.lt_of_lt_of_le (g.ltAt 6 rfl _ (tch (Zb1 hm) rfl)) (Nat.le_trans (Nat.le_add_right _ _) w.n))))
     ·refine Zao ?_ ?_
      ·exact nofun
      ·exact nofun
     ·refine Zao ?_ ?_
      ·exact nofun
      ·exact nofun
     ·refine Zao ?_ ?_
      ·exact nofun
      ·exact nofun
     ·refine Zao ?_ ?_
      ·exact nofun
      ·exact nofun
     ·refine Zao ?_ ?_
      ·exact nofun
      ·exact nofun
     ·refine ZjL rfl ?_
      ·exact (fun r hm hc=>hc (v.base r (Nat.lt_of_lt_of_le (g.ltAt 6 rfl _ (tch (Zb1 hm) rfl)) (Nat.le_trans (Nat.le_add_right _ _) w.n))))
     ·refine Zao ?_ ?_
      ·exact nofun
      ·exact nofun
     ·refine Zao ?_ ?_
      ·exact nofun
      ·exact nofun
     ·refine Zao ?_ ?_
      ·exact nofun
      ·exact nofun
     ·refine Zao ?_ ?_
      ·exact nofun
      ·exact nofun
     ·refine Zao ?_ ?_
      ·exact nofun
      ·exact nofun
     ·refine Zao ?_ ?_
      ·exact nofun
      ·exact nofun
     ·refine ZjL rfl ?_
      ·exact (fun r hm hc=>hc (v.base r (Nat.lt_of_lt_of_le (Nat.lt_of_lt_of_le (g.lo _ (Rd.B s_cells.rd g.lo (Zg C) _ (Zcc (tch (Zb1 hm) rfl)))) g.n) (Nat.le_trans (Nat.le_add_right _ _) w.n))))
    refine Z7 (zV (Zbk (z5 ?_)));cases hp;exact ⟨nofun,rfl,rfl,rfl,rfl,rfl,(t.pk [])⟩
  ·refine Zbx (Zaf ?_);cases hp;exact ⟨nofun,rfl,(p.pk [])⟩
 rintro (_|⟨x3,x4,x5⟩) hp _ _ _ P
 ·obtain ⟨rfl,H⟩:=P;refine ZaI (Z7 (Zn (Zb (.n 0) rfl (Zb (.n 0) rfl (Zb (.n 0) rfl (Zb (.b false) rfl (Zf (zV (zi (zz rfl (zz rfl (zz rfl (zz rfl ZN)))) ?_)))))))));cases hp;exact ⟨rfl,(H.pk [])⟩
 ·obtain ⟨rfl,az,aA,aB,aC,H⟩:=P;refine Zbk (z5 (zi (zz az (zz aA (zz aB (zz aC ZN)))) ?_));cases hp;exact ⟨rfl,(H.pk [])⟩

theorem ZaL.ok {h:Hp}{d:Int}   {r:Bool}(hp:ZaL d=some r) :
  ∃ u k',Is G 229 [.n d] h u k'∧V.b r=u∧Own (fun r=>r<h.n) h k' []:=by
 refine WC.is (Za1 Zco ?_);unfold ZaL at hp;let B:Nat→Prop:=(fun r=>r<h.n);have hO:Own B h h []:=Own.start0 h;refine Zn (Zb (.b false) rfl (Zf (Zn (Zb (.n d) rfl (Ze (Zbp rfl rfl) (Zb (.b (decide (d=0))) rfl (zR 3 (fun f k=>h=k∧f 8=.b ((decide (d=0))||(decide (d=2)))) ?_ ?_)))))))
 ·rcases bc (decide (d=0)) with a|a
  ·refine Zt rfl a (Zt rfl a (Ze (ZbY (w:=(decide (d=0))||(decide (d=2))) rfl a rfl) (Zo ?_)));exact ⟨rfl,rfl⟩
  ·refine ZC rfl a (Zb (.n d) rfl (ZC rfl a (Ze (Zbp rfl rfl) (Ze (ZbZ rfl a rfl) (Zo ?_)))));exact ⟨rfl,rfl⟩
 rintro _ _ ⟨rfl,c⟩;refine Zb _ c (Zf (zV (zi (zz rfl ZN) ?_)));cases hp;exact ⟨rfl,(hO.pk [])⟩

theorem Zbq.ok {h:Hp}{g:z9}{r_g:Nat}{v_g_cells:V}{w_g:Bool}(b_g:h.m r_g=some (.cells w_g [v_g_cells])) (s_g_cells:Sl Zc h v_g_cells g.cells) {r:Int}(hp:Zbq g=some r) :
  ∃ u k',Is G 55 [.p r_g 0] h u k'∧V.n r=u∧Own (fun r=>r<h.n) h k' []:=by
 refine WC.is (Za1 Zdq ?_);unfold Zbq at hp;let B:Nat→Prop:=(fun r=>r<h.n);have hO:Own B h h []:=Own.start0 h;refine Zn (Zb (.n 0) rfl (Zf (ZQ (Zn (Zb (.p r_g 0) rfl (Ze (ZjA rfl rfl) (Zf (Zji rfl rfl (Zc0 ?_)))))))));refine Z7 (Zn (Zb (.p r_g 0) rfl (Ze (Zew rfl) (Ze (ZaH (r:=r_g) (o:=0) rfl rfl) (Ze (zY (hO.rdB0 (RdB.of b_g)).choose_spec rfl rfl) (Ze (Za4 (hO.rd0 s_g_cells.rd) rfl) (Zb (.n (g.cells.length:Int)) rfl (Zf (zV (zi (zz rfl ZN) ?_))))))))));cases hp;exact ⟨rfl,(hO.pk [])⟩

theorem ZaT.ok {h:Hp}{g:z9}{v:Int}{d:Int}{r_g:Nat}{v_g_cells:V}{w_g:Bool}(b_g:h.m r_g=some (.cells w_g [v_g_cells])) (s_g_cells:Sl Zc h v_g_cells g.cells) {r:Bool}(hp:ZaT g v d=some r) :
  ∃ u k',Is G 75 [.p r_g 0,.n v,.n d] h u k'∧V.b r=u∧Own (fun r=>r<h.n) h k' []:=by
 refine WC.is (Za1 Zd8 ?_);unfold ZaT at hp;let B:Nat→Prop:=(fun r=>r<h.n);have hO:Own B h h []:=Own.start0 h;refine Zn (Zb (.b false) rfl (Zf (Zn (Zb (.n v) rfl (Ze (Zdu rfl rfl) (Zb (.b (decide (0≤v))) rfl ?_))))));obtain ⟨t,D,hp⟩:=zT hp;refine zR 5 (fun f k=>Own B h k []∧f 14=.b t∧f 2=.n d) ?_ ?_
 ·clear hp;rcases Zaj D with ⟨a,hp⟩|⟨a,hp⟩
  ·refine ZC rfl a (Zb (.n v) rfl (ZC rfl a (Zb (.p r_g 0) rfl (ZC rfl a ?_))));obtain ⟨x,⟨_,_,i,rfl,A⟩,hp⟩:=bdk hp fun _=>Zbq.ok (h:=h)  (hO.rdB0 (RdB.of b_g)).choose_spec (hO.rd0 s_g_cells.rd);refine Zaq rfl rfl i ?_;have s:=hO.call A rfl;refine ZC rfl a (Ze (zA rfl rfl) (Ze (zN (v:=.b t) rfl a (Eq.trans (b:=V.b (decide (v<x))) rfl (congrArg V.b (Option.some.inj hp)))) (Zo ?_)));exact ⟨s.pk [],rfl,rfl⟩
  ·refine Zt rfl a (Zt rfl a (Zt rfl a (Zt rfl a (Ze (zB (v:=.b t) rfl a (Eq.trans (b:=V.b false) rfl (congrArg V.b (Option.some.inj hp)))) (Zo ?_)))));exact ⟨hO.pk [],rfl,rfl⟩
 rintro _ F ⟨e,l,o⟩;refine Zb _ l ?_;obtain ⟨t1,E,hp⟩:=zT hp;refine zR 3 (fun f k=>Own B h k []∧f 18=.b t1) ?_ ?_
 ·clear hp;rcases Zaj E with ⟨c,hp⟩|⟨c,hp⟩
  ·refine ZC rfl c (Zb _ o (ZC rfl c ?_));obtain ⟨x1,⟨_,_,j,rfl,C⟩,hp⟩:=bdk hp fun _=>zG.ok (h:=F)  ;refine Zaq rfl rfl j ?_;have w:=e.call C rfl;refine Ze (zN (v:=.b t1) rfl c (Eq.trans (b:=V.b x1) rfl (congrArg V.b (Option.some.inj hp)))) (Zo ?_);exact ⟨w.pk [],rfl⟩
  ·refine Zt rfl c (Zt rfl c (Ze (zB (v:=.b t1) rfl c (Eq.trans (b:=V.b false) rfl (congrArg V.b (Option.some.inj hp)))) (Zo ?_)));exact ⟨e.pk [],rfl⟩
 rintro _ _ ⟨y,q⟩;refine Zb _ q (Zf (zV (zi (zz rfl ZN) ?_)));cases hp;exact ⟨rfl,(y.pk [])⟩

theorem Zbf.ok {h:Hp}{g:z9}{v:Int}{d:Int}{w:Int}{owner:Int}{r_g:Nat}{v_g_cells:V}(H:Own (Bm h [Za9 r_g [v_g_cells],eSl Zc v_g_cells g.cells]) h h [Za9 r_g [v_g_cells],eSl Zc v_g_cells g.cells]) {r:z9}(hp:Zbf g v d w owner=some r) :
  ∃ u k',Is G 76 [.p r_g 0,.n v,.n d,.n w,.n owner] h u k'∧∃ C,V.tu []=u∧Own (Bm h [Za9 r_g [v_g_cells],eSl Zc v_g_cells g.cells]) h k' [Za9 r_g [C],eSl Zc C r.cells]:=by
 refine WC.is (Za1 Zdr ?_);unfold Zbf at hp;let B:Nat→Prop:=(Bm h [Za9 r_g [v_g_cells],eSl Zc v_g_cells g.cells]);have hO:Own B h h [Za9 r_g [v_g_cells],eSl Zc v_g_cells g.cells]:=H;refine Zn (Zb (.n d) rfl ?_);obtain ⟨x,⟨_,_,D,rfl,J⟩,hp⟩:=bdk hp fun _=>zf.ok (h:=h)  ;refine Zaq rfl rfl D ?_;have E:=hO.call J rfl;refine Zb (.n x) rfl (Zf (ZQ (Zg5 ?_)));have c:=E.bump 22;refine ZaV (.p r_g 0) rfl (zm (Zew rfl) (zm (ZaH (r:=r_g) (o:=0) rfl rfl) (zm (zY (c.box 0 rfl) rfl rfl) (ZaV (.n v) rfl (ZaV (.n d) rfl (ZaV (.p r_g 0) rfl (zm (Zew rfl) (zm (ZaH (r:=r_g) (o:=0) rfl rfl) (zm (zY (c.box 0 rfl) rfl rfl) (ZaV (.n v) rfl (ZaV (.n d) rfl (ZaV (.n w) rfl (ZaV (.n owner) rfl ?_)))))))))))));refine ckk hp fun f hp=>zm (zl (c.sl 1 rfl) rfl rfl f) (zm (Za7 (c.sl 1 rfl) (Zg f) rfl rfl) (ckk hp fun a hp=>zm (Zbh (c.sl 1 rfl) (Zg f) rfl rfl a rfl) (ZeW (c.ste (y:=({ gi g.cells v.toNat with Next:=((gi g.cells v.toNat).Next).set d w })) 1 rfl rfl (Zg f) rfl rfl ⟨rfl,(by have:=a;exact (show 0+d.toNat*1+1≤8 by omega)),rfl⟩ (ZaZ a)) ?_)));rintro _ s _ ⟨rfl,_,_,l⟩;refine ckk hp fun i hp=>zm (zl (l.sl 1 rfl:Sl Zc s v_g_cells (g.cells.set v.toNat ({ gi g.cells v.toNat with Next:=((gi g.cells v.toNat).Next).set d w }))) rfl rfl i) (zm (Za7 (l.sl 1 rfl:Sl Zc s v_g_cells (g.cells.set v.toNat ({ gi g.cells v.toNat with Next:=((gi g.cells v.toNat).Next).set d w }))) (Zg i) rfl rfl) (zm (Zbh (l.sl 1 rfl:Sl Zc s v_g_cells (g.cells.set v.toNat ({ gi g.cells v.toNat with Next:=((gi g.cells v.toNat).Next).set d w }))) (Zg i) rfl rfl a rfl) (ZeW (l.ste (y:=({ gi (g.cells.set v.toNat ({ gi g.cells v.toNat with Next:=((gi g.cells v.toNat).Next).set d w })) v.toNat with Owner:=((gi (g.cells.set v.toNat ({ gi g.cells v.toNat with Next:=((gi g.cells v.toNat).Next).set d w })) v.toNat).Owner).set d owner })) 1 rfl rfl (Zg i) rfl rfl ⟨rfl,(by have:=a;exact (show 4+d.toNat*1+1≤8 by omega)),rfl⟩ (Zbg a)) ?_)));rintro _ t _ ⟨rfl,_,_,F⟩;refine Zcq ?_;refine And.intro ?_ ?_
 ·intro q hq;simp only [List.mem_cons,List.not_mem_nil,or_false] at hq;rcases hq with rfl
  ·refine Zao ?_ ?_
   ·exact nofun
   ·exact nofun
 refine Z7 (Zg5 ?_);have e:=F.bump 22;refine ZaV (.p r_g 0) rfl (zm (Zew rfl) (zm (ZaH (r:=r_g) (o:=0) rfl rfl) (zm (zY (e.box 0 rfl) rfl rfl) (ZaV (.n w) rfl (ZaV (.n x) rfl (ZaV (.p r_g 0) rfl (zm (Zew rfl) (zm (ZaH (r:=r_g) (o:=0) rfl rfl) (zm (zY (e.box 0 rfl) rfl rfl) (ZaV (.n w) rfl (ZaV (.n x) rfl (ZaV (.n v) rfl (ZaV (.n owner) rfl ?_)))))))))))));refine ckk hp fun j hp=>zm (zl (e.sl 1 rfl:Sl Zc (t.bump 22) v_g_cells ((g.cells.set v.toNat ({ gi g.cells v.toNat with Next:=((gi g.cells v.toNat).Next).set d w })).set v.toNat ({ gi (g.cells.set v.toNat ({ gi g.cells v.toNat with Next:=((gi g.cells v.toNat).Next).set d w })) v.toNat with Owner:=((gi (g.cells.set v.toNat ({ gi g.cells v.toNat with Next:=((gi g.cells v.toNat).Next).set d w })) v.toNat).Owner).set d owner }))) rfl rfl j) (zm (Za7 (e.sl 1 rfl:Sl Zc (t.bump 22) v_g_cells ((g.cells.set v.toNat ({ gi g.cells v.toNat with Next:=((gi g.cells v.toNat).Next).set d w })).set v.toNat ({ gi (g.cells.set v.toNat ({ gi g.cells v.toNat with Next:=((gi g.cells v.toNat).Next).set d w })) v.toNat with Owner:=((gi (g.cells.set v.toNat ({ gi g.cells v.toNat with Next:=((gi g.cells v.toNat).Next).set d w })) v.toNat).Owner).set d owner }))) (Zg j) rfl rfl) (ckk hp fun b hp=>zm (Zbh (e.sl 1 rfl:Sl Zc (t.bump 22) v_g_cells ((g.cells.set v.toNat ({ gi g.cells v.toNat with Next:=((gi g.cells v.toNat).Next).set d w })).set v.toNat ({ gi (g.cells.set v.toNat ({ gi g.cells v.toNat with Next:=((gi g.cells v.toNat).Next).set d w })) v.toNat with Owner:=((gi (g.cells.set v.toNat ({ gi g.cells v.toNat with Next:=((gi g.cells v.toNat).Next).set d w })) v.toNat).Owner).set d owner }))) (Zg j) rfl rfl b rfl) (ZeW (e.ste (y:=({ gi ((g.cells.set v.toNat ({ gi g.cells v.toNat with Next:=((gi g.cells v.toNat).Next).set d w })).set v.toNat ({ gi (g.cells.set v.toNat ({ gi g.cells v.toNat with Next:=((gi g.cells v.toNat).Next).set d w })) v.toNat with Owner:=((gi (g.cells.set v.toNat ({ gi g.cells v.toNat with Next:=((gi g.cells v.toNat).Next).set d w })) v.toNat).Owner).set d owner })) w.toNat with Next:=((gi ((g.cells.set v.toNat ({ gi g.cells v.toNat with Next:=((gi g.cells v.toNat).Next).set d w })).set v.toNat ({ gi (g.cells.set v.toNat ({ gi g.cells v.toNat with Next:=((gi g.cells v.toNat).Next).set d w })) v.toNat with Owner:=((gi (g.cells.set v.toNat ({ gi g.cells v.toNat with Next:=((gi g.cells v.toNat).Next).set d w })) v.toNat).Owner).set d owner })) w.toNat).Next).set x v })) 1 rfl rfl (Zg j) rfl rfl ⟨rfl,(by have:=b;exact (show 0+x.toNat*1+1≤8 by omega)),rfl⟩ (ZaZ b)) ?_)));rintro _ A _ ⟨rfl,_,_,m⟩;refine ckk hp fun k hp=>zm (zl (m.sl 1 rfl:Sl Zc A v_g_cells (((g.cells.set v.toNat ({ gi g.cells v.toNat with Next:=((gi g.cells v.toNat).Next).set d w })).set v.toNat ({ gi (g.cells.set v.toNat ({ gi g.cells v.toNat with Next:=((gi g.cells v.toNat).Next).set d w })) v.toNat with Owner:=((gi (g.cells.set v.toNat ({ gi g.cells v.toNat with Next:=((gi g.cells v.toNat).Next).set d w })) v.toNat).Owner).set d owner })).set w.toNat ({ gi ((g.cells.set v.toNat ({ gi g.cells v.toNat with Next:=((gi g.cells v.toNat).Next).set d w })).set v.toNat ({ gi (g.cells.set v.toNat ({ gi g.cells v.toNat with Next:=((gi g.cells v.toNat).Next).set d w })) v.toNat with Owner:=((gi (g.cells.set v.toNat ({ gi g.cells v.toNat with Next:=((gi g.cells v.toNat).Next).set d w })) v.toNat).Owner).set d owner })) w.toNat with Next:=((gi ((g.cells.set v.toNat ({ gi g.cells v.toNat with Next:=((gi g.cells v.toNat).Next).set d w })).set v.toNat ({ gi (g.cells.set v.toNat ({ gi g.cells v.toNat with Next:=((gi g.cells v.toNat).Next).set d w })) v.toNat with Owner:=((gi (g.cells.set v.toNat ({ gi g.cells v.toNat with Next:=((gi g.cells v.toNat).Next).set d w })) v.toNat).Owner).set d owner })) w.toNat).Next).set x v }))) rfl rfl k) (zm (Za7 (m.sl 1 rfl:Sl Zc A v_g_cells (((g.cells.set v.toNat ({ gi g.cells v.toNat with Next:=((gi g.cells v.toNat).Next).set d w })).set v.toNat ({ gi (g.cells.set v.toNat ({ gi g.cells v.toNat with Next:=((gi g.cells v.toNat).Next).set d w })) v.toNat with Owner:=((gi (g.cells.set v.toNat ({ gi g.cells v.toNat with Next:=((gi g.cells v.toNat).Next).set d w })) v.toNat).Owner).set d owner })).set w.toNat ({ gi ((g.cells.set v.toNat ({ gi g.cells v.toNat with Next:=((gi g.cells v.toNat).Next).set d w })).set v.toNat ({ gi (g.cells.set v.toNat ({ gi g.cells v.toNat with Next:=((gi g.cells v.toNat).Next).set d w })) v.toNat with Owner:=((gi (g.cells.set v.toNat ({ gi g.cells v.toNat with Next:=((gi g.cells v.toNat).Next).set d w })) v.toNat).Owner).set d owner })) w.toNat with Next:=((gi ((g.cells.set v.toNat ({ gi g.cells v.toNat with Next:=((gi g.cells v.toNat).Next).set d w })).set v.toNat ({ gi (g.cells.set v.toNat ({ gi g.cells v.toNat with Next:=((gi g.cells v.toNat).Next).set d w })) v.toNat with Owner:=((gi (g.cells.set v.toNat ({ gi g.cells v.toNat with Next:=((gi g.cells v.toNat).Next).set d w })) v.toNat).Owner).set d owner })) w.toNat).Next).set x v }))) (Zg k) rfl rfl) (zm (Zbh (m.sl 1 rfl:Sl Zc A v_g_cells (((g.cells.set v.toNat ({ gi g.cells v.toNat with Next:=((gi g.cells v.toNat).Next).set d w })).set v.toNat ({ gi (g.cells.set v.toNat ({ gi g.cells v.toNat with Next:=((gi g.cells v.toNat).Next).set d w })) v.toNat with Owner:=((gi (g.cells.set v.toNat ({ gi g.cells v.toNat with Next:=((gi g.cells v.toNat).Next).set d w })) v.toNat).Owner).set d owner })).set w.toNat ({ gi ((g.cells.set v.toNat ({ gi g.cells v.toNat with Next:=((gi g.cells v.toNat).Next).set d w })).set v.toNat ({ gi (g.cells.set v.toNat ({ gi g.cells v.toNat with Next:=((gi g.cells v.toNat).Next).set d w })) v.toNat with Owner:=((gi (g.cells.set v.toNat ({ gi g.cells v.toNat with Next:=((gi g.cells v.toNat).Next).set d w })) v.toNat).Owner).set d owner })) w.toNat with Next:=((gi ((g.cells.set v.toNat ({ gi g.cells v.toNat with Next:=((gi g.cells v.toNat).Next).set d w })).set v.toNat ({ gi (g.cells.set v.toNat ({ gi g.cells v.toNat with Next:=((gi g.cells v.toNat).Next).set d w })) v.toNat with Owner:=((gi (g.cells.set v.toNat ({ gi g.cells v.toNat with Next:=((gi g.cells v.toNat).Next).set d w })) v.toNat).Owner).set d owner })) w.toNat).Next).set x v }))) (Zg k) rfl rfl b rfl) (ZeW (m.ste (y:=({ gi (((g.cells.set v.toNat ({ gi g.cells v.toNat with Next:=((gi g.cells v.toNat).Next).set d w })).set v.toNat ({ gi (g.cells.set v.toNat ({ gi g.cells v.toNat with Next:=((gi g.cells v.toNat).Next).set d w })) v.toNat with Owner:=((gi (g.cells.set v.toNat ({ gi g.cells v.toNat with Next:=((gi g.cells v.toNat).Next).set d w })) v.toNat).Owner).set d owner })).set w.toNat ({ gi ((g.cells.set v.toNat ({ gi g.cells v.toNat with Next:=((gi g.cells v.toNat).Next).set d w })).set v.toNat ({ gi (g.cells.set v.toNat ({ gi g.cells v.toNat with Next:=((gi g.cells v.toNat).Next).set d w })) v.toNat with Owner:=((gi (g.cells.set v.toNat ({ gi g.cells v.toNat with Next:=((gi g.cells v.toNat).Next).set d w })) v.toNat).Owner).set d owner })) w.toNat with Next:=((gi ((g.cells.set v.toNat ({ gi g.cells v.toNat with Next:=((gi g.cells v.toNat).Next).set d w })).set v.toNat ({ gi (g.cells.set v.toNat ({ gi g.cells v.toNat with Next:=((gi g.cells v.toNat).Next).set d w })) v.toNat with Owner:=((gi (g.cells.set v.toNat ({ gi g.cells v.toNat with Next:=((gi g.cells v.toNat).Next).set d w })) v.toNat).Owner).set d owner })) w.toNat).Next).set x v })) w.toNat with Owner:=((gi (((g.cells.set v.toNat ({ gi g.cells v.toNat with Next:=((gi g.cells v.toNat).Next).set d w })).set v.toNat ({ gi (g.cells.set v.toNat ({ gi g.cells v.toNat with Next:=((gi g.cells v.toNat).Next).set d w })) v.toNat with Owner:=((gi (g.cells.set v.toNat ({ gi g.cells v.toNat with Next:=((gi g.cells v.toNat).Next).set d w })) v.toNat).Owner).set d owner })).set w.toNat ({ gi ((g.cells.set v.toNat ({ gi g.cells v.toNat with Next:=((gi g.cells v.toNat).Next).set d w })).set v.toNat ({ gi (g.cells.set v.toNat ({ gi g.cells v.toNat with Next:=((gi g.cells v.toNat).Next).set d w })) v.toNat with Owner:=((gi (g.cells.set v.toNat ({ gi g.cells v.toNat with Next:=((gi g.cells v.toNat).Next).set d w })) v.toNat).Owner).set d owner })) w.toNat with Next:=((gi ((g.cells.set v.toNat ({ gi g.cells v.toNat with Next:=((gi g.cells v.toNat).Next).set d w })).set v.toNat ({ gi (g.cells.set v.toNat ({ gi g.cells v.toNat with Next:=((gi g.cells v.toNat).Next).set d w })) v.toNat with Owner:=((gi (g.cells.set v.toNat ({ gi g.cells v.toNat with Next:=((gi g.cells v.toNat).Next).set d w })) v.toNat).Owner).set d owner })) w.toNat).Next).set x v })) w.toNat).Owner).set x owner })) 1 rfl rfl (Zg k) rfl rfl ⟨rfl,(by have:=b;exact (show 4+x.toNat*1+1≤8 by omega)),rfl⟩ (Zbg b)) ?_)));rintro _ _ _ ⟨rfl,_,_,I⟩;refine Zcq ?_;refine And.intro ?_ ?_
 ·intro q hq;simp only [List.mem_cons,List.not_mem_nil,or_false] at hq;rcases hq with rfl
  ·refine Zao ?_ ?_
   ·exact nofun
   ·exact nofun
 refine Znj ZN ?_;cases hp;exact ⟨v_g_cells,rfl,(I.pk [0,1])⟩

theorem ZaY.ok {h:Hp}{g:z9}{v:Int}{d:Int}{w:Int}{owner:Int}{r_g:Nat}{v_g_cells:V}(H:Own (Bm h [Za9 r_g [v_g_cells],eSl Zc v_g_cells g.cells]) h h [Za9 r_g [v_g_cells],eSl Zc v_g_cells g.cells]) {r:Int×z9}(hp:ZaY g v d w owner=some r) :
  ∃ u k',Is G 52 [.p r_g 0,.n v,.n d,.n w,.n owner] h u k'∧∃ ac,V.n r.1=u∧Own (Bm h [Za9 r_g [v_g_cells],eSl Zc v_g_cells g.cells]) h k' [Za9 r_g [ac],eSl Zc ac r.2.cells]:=by
 refine WC.is (Za1 ZcZ ?_);unfold ZaY at hp;let B:Nat→Prop:=(Bm h [Za9 r_g [v_g_cells],eSl Zc v_g_cells g.cells]);have hO:Own B h h [Za9 r_g [v_g_cells],eSl Zc v_g_cells g.cells]:=H;refine Zn (Zb (.n 0) rfl (Zf (ZQ (Zat (Zn (Zb (.p r_g 0) rfl (Ze (ZjA rfl rfl) (Zb (.b false) rfl (Zf ?_)))))))));refine Zji rfl rfl (Zn (Zb (.p r_g 0) rfl (Zb (.n v) rfl (Zb (.n d) rfl ?_))));obtain ⟨x,⟨_,av,af,rfl,ap⟩,hp⟩:=bdk hp fun _=>ZaT.ok (h:=h)  (hO.box 0 rfl) (hO.sl 1 rfl);refine Zaq rfl rfl af ?_;have E:=hO.call ap rfl;refine Ze (Zc3 rfl) (Zb (.b (!x)) rfl ?_);obtain ⟨t,au,hp⟩:=zT hp;refine zR 6 (fun f k=>Own B h k [Za9 r_g [v_g_cells],eSl Zc v_g_cells g.cells]∧f 26=.b t∧f 0=.p r_g 0∧f 1=.n v∧f 2=.n d∧f 3=.n w∧f 4=.n owner) ?_ ?_
 ·clear hp;rcases Zaj au with ⟨c,hp⟩|⟨c,hp⟩
  ·refine Zt rfl c (Zt rfl c (Zt rfl c (Zt rfl c (Zt rfl c (Ze (zN (v:=.b t) rfl c (Eq.trans (b:=V.b true) rfl (congrArg V.b (Option.some.inj hp)))) (Zo ?_))))));exact ⟨E.pk [0,1],rfl,rfl,rfl,rfl,rfl,rfl⟩
  ·refine ZC rfl c (Zb (.p r_g 0) rfl (ZC rfl c (Zb (.n w) rfl (ZC rfl c (Zb (.n d) rfl (ZC rfl c ?_))))));obtain ⟨x1,⟨_,_,ag,rfl,aq⟩,hp⟩:=bdk hp fun _=>ZaT.ok (h:=av)  (E.box 0 rfl) (E.sl 1 rfl);refine Zaq rfl rfl ag ?_;have an:=E.call aq rfl;refine ZC rfl c (Ze (Zc3 rfl) (Ze (zB (v:=.b t) rfl c (Eq.trans (b:=V.b (!x1)) rfl (congrArg V.b (Option.some.inj hp)))) (Zo ?_)));exact ⟨an.pk [0,1],rfl,rfl,rfl,rfl,rfl,rfl⟩
 rintro _ F ⟨N,ak,R,I,S,J,T⟩;refine Zb _ ak (zR 4 (fun f k=>F=k∧f 31=.b (t||(decide (v=w)))∧f 0=.p r_g 0∧f 1=.n v∧f 2=.n d∧f 3=.n w∧f 4=.n owner) ?_ ?_)
 ·rcases bc t with i|i
  ·refine Zt rfl i (Zt rfl i (Zt rfl i (Ze (ZbY (w:=t||(decide (v=w))) rfl i rfl) (Zo ?_))));exact ⟨rfl,rfl,R,I,S,J,T⟩
  ·refine ZC rfl i (Zb _ I (ZC rfl i (Zb _ J (ZC rfl i (Ze (Zbp rfl rfl) (Ze (ZbZ rfl i rfl) (Zo ?_)))))));exact ⟨rfl,rfl,R,I,S,J,T⟩
 rintro _ _ ⟨rfl,al,U,W,X,Y,K⟩;refine Zb _ al (zR 3 (fun f k=>F=k∧f 35=.b ((t||(decide (v=w)))||(decide (owner<(-2))))∧f 0=.p r_g 0∧f 1=.n v∧f 2=.n d∧f 3=.n w∧f 4=.n owner) ?_ ?_)
 ·rcases bc (t||(decide (v=w))) with l|l
  ·refine Zt rfl l (Zt rfl l (Ze (ZbY (w:=(t||(decide (v=w)))||(decide (owner<(-2)))) rfl l rfl) (Zo ?_)));exact ⟨rfl,rfl,U,W,X,Y,K⟩
  ·refine ZC rfl l (Zb _ K (ZC rfl l (Ze (zA rfl rfl) (Ze (ZbZ rfl l rfl) (Zo ?_)))));exact ⟨rfl,rfl,U,W,X,Y,K⟩
 rintro _ _ ⟨rfl,am,C,L,D,M,aa⟩;refine Zb _ am (Zf (zE hp rfl (fun ad hp=>?_) (fun ad hp=>?_)))
 ·refine Zn (Zb (.n 2) rfl (Zf (zV (Zbk (z5 (zi (zz rfl ZN) ?_))))));cases hp;exact ⟨v_g_cells,rfl,(N.pk [0,1])⟩
 ·refine ZQ (ZhG hp (fun x2 e fr k=>e=.normal∧fr 0=.p r_g 0∧fr 1=.n v∧fr 2=.n d∧fr 3=.n w∧fr 4=.n owner∧fr 36=.b x2∧Own B h k [Za9 r_g [v_g_cells],eSl Zc v_g_cells g.cells]) (fun _ hp=>?_) ?_)
  ·refine Zg5 ?_;have j:=N.bump 26;have aj:=Fresh.start F 26;refine ZaV _ C (zm (Zew rfl) (zm (ZaH (r:=r_g) (o:=0) rfl rfl) (zm (zY (j.box 0 rfl) rfl rfl) (ZaV _ L (ZaV _ D (ckk hp fun y hp=>zm (zl (j.sl 1 rfl) rfl rfl y) (zm (Za7 (j.sl 1 rfl) (Zg y) rfl rfl) (ckk hp fun P hp=>zm (Zbh (j.sl 1 rfl) (Zg y) rfl rfl P rfl) (zm (zU (j.sl 1 rfl) rfl (Zg y) (zw P)) (zm (Zci rfl rfl) (ZaV (.b (!(decide (((gi g.cells v.toNat).Next).get d=(-1))))) rfl ?_)))))))))));refine ifk hp (fun a hp=>?_) (fun a hp=>?_)
   ·refine z3 rfl a (z3 rfl a (z3 rfl a (z3 rfl a (z3 rfl a (z3 rfl a (z3 rfl a (z3 rfl a (z3 rfl a (z3 rfl a (z3 rfl a (z3 rfl a (zm (zN (v:=.b true) rfl a rfl) (ZaV (.b true) rfl ?_)))))))))))));refine Zcq ?_;refine And.intro ?_ ?_
    ·intro q hq;simp only [List.mem_cons,List.not_mem_nil,or_false] at hq;rcases hq with rfl
     ·exact ZiO
    cases hp;exact ⟨rfl,C,L,D,M,aa,rfl,(j.pk [0,1])⟩
   ·refine Zbo rfl a (ZaV _ C (Zbo rfl a (zm (Zew rfl) (Zbo rfl a (zm (ZaH (r:=r_g) (o:=0) rfl rfl) (Zbo rfl a (zm (zY (j.box 0 rfl) rfl rfl) (Zbo rfl a (ZaV _ M (Zbo rfl a (ZaV _ D (Zbo rfl a ?_))))))))))));obtain ⟨x3,⟨_,_,ah,rfl,ab⟩,hp⟩:=bdk hp fun _=>zf.ok (h:=(F.bump 26))  ;refine Zj6 rfl rfl ah ?_;have s:=j.call ab rfl;refine Zbo rfl a (ckk hp fun A hp=>zm (zl (s.sl 1 rfl) rfl rfl A) (Zbo rfl a (zm (Za7 (s.sl 1 rfl) (Zg A) rfl rfl) (Zbo rfl a (ckk hp fun Q hp=>zm (Zbh (s.sl 1 rfl) (Zg A) rfl rfl Q rfl) (Zbo rfl a (zm (zU (s.sl 1 rfl) rfl (Zg A) (zw Q)) (Zbo rfl a (zm (Zci rfl rfl) (zm (zB (v:=.b (!(decide (((gi g.cells w.toNat).Next).get x3=(-1))))) rfl a rfl) (ZaV (.b (!(decide (((gi g.cells w.toNat).Next).get x3=(-1))))) rfl ?_)))))))))));refine Zcq ?_;refine And.intro ?_ ?_
    ·intro q hq;simp only [List.mem_cons,List.not_mem_nil,or_false] at hq;rcases hq with rfl
     ·refine ZhJ rfl rfl ?_
      ·exact (fun r hm hc=>hc (ab.base r (Nat.lt_of_lt_of_le (N.ltAt 0 rfl _ (tch (Zb1 hm) rfl)) (Nat.le_trans (Nat.le_add_right _ _) aj.n))))
    cases hp;exact ⟨rfl,C,L,D,M,aa,rfl,(s.pk [0,1])⟩
  rintro x2 hp _ _ aw ⟨rfl,ax,ay,az,aA,aC,aB,O⟩;refine Z7 (zE hp aB (fun ae hp=>?_) (fun ae hp=>?_))
  ·refine Zn (Zb (.n 9) rfl (Zf (zV (Zbk (z5 (zi (zz rfl ZN) ?_))))));cases hp;exact ⟨v_g_cells,rfl,(O.pk [0,1])⟩
  ·refine Zc0 (Zaz (Z7 (Zn (Zb _ ax (Zb _ ay (Zb _ az (Zb _ aA (Zb _ aC ?_))))))));obtain ⟨m,⟨_,_,ai,aD,rfl,ar⟩,hp⟩:=bdk hp fun _=>Zbf.ok (h:=aw) (g:=g) (v:=v) (d:=d) (w:=w) (owner:=owner) (O.toM [0,1] rfl (by decide)) ;refine Zaq rfl rfl ai ?_;have ao:=(O.callM [0,1] [] rfl rfl (by decide) ar rfl).pick [0,1] rfl (by decide);refine Zf (Zn (Zb (.n 0) rfl (Zf (zV (zi (zz rfl ZN) ?_)))));cases hp;exact ⟨aD,rfl,(ao.pk [0,1])⟩

theorem zb.ok {h:Hp}{cells:List Za}{picks:List Bool}{v_cells:V}{v_picks:V}(s_cells:Sl Zc h v_cells cells) (s_picks:Sl e_bool h v_picks picks) {r:(List Za)×Int×Int}(hp:zb cells picks=some r) :
  ∃ u k',Is G 212 [v_cells,v_picks] h u k'∧∃ S,V.tu [S,.n r.2.1,.n r.2.2]=u∧Own (fun r=>r<h.n) h k' [eSl Zc S r.1]:=by
 refine WC.is (Za1 ZdA ?_);unfold zb at hp;let B:Nat→Prop:=(fun r=>r<h.n);have hO:Own B h h []:=Own.start0 h;refine Zn (Zb (.sn) rfl (Zb (.n 0) rfl (Zb (.n 0) rfl (Zf (ZQ (Zn (Zb v_cells rfl ?_)))))));obtain ⟨x,⟨_,aC,ab,rfl,ar⟩,hp⟩:=bdk hp fun _=>Zbv.ok (h:=h)  (hO.rd0 s_cells.rd);refine Zaq rfl rfl ab ?_;have C:=hO.call ar rfl;refine Zb (.n x) rfl (Zf (Zn (Zb (.n x) rfl (Ze (Zci rfl rfl) (Zf (zE hp rfl (fun U hp=>?_) (fun U hp=>?_)))))))
 ·refine Zn (Zb (.n x) rfl (Zb (.sn) rfl (Zb (.n 0) rfl (Zb (.n x) rfl (Zf (zV (z5 ?_)))))));have am:=C.nil Zc;refine zi (zz rfl (zz rfl (zz rfl ZN))) ?_;cases hp;exact ⟨V.sn,rfl,(am.pk [0])⟩
 ·refine Za2 (Zn (Zb v_cells rfl ?_));obtain ⟨⟨x1,x2⟩,⟨_,aD,ac,c,F,rfl,au⟩,hp⟩:=bdk hp fun _=>Zc6.ok (h:=aC)  (C.rd0 s_cells.rd);refine Zaq rfl rfl ac ?_;have an:=C.call au rfl;refine Zb (.tu [(if (x1).isSome=true then V.p c 0 else V.pn),.n x2]) rfl (Ze (Za6 rfl rfl) (Ze (Za6 rfl rfl) (Zb ((if (x1).isSome=true then V.p c 0 else V.pn)) rfl (Zb (.n x2) rfl (Zf (Zn (Zb (.n 0) rfl (Zf (Zat ?_)))))))));obtain ⟨g,o,hp⟩:=zT hp;replace o:x1=some g:=o;have ao:Own B h aD [Za9 c [F],eSl Zc F g.cells]:=by have hq:=an;rw [o] at hq;exact hq
  refine ZbG hp (fun|(g1,n),fr,k=>∃ l,fr 1=v_picks∧fr 8=.p c 0∧fr 10=.n n∧Own B h k [Za9 c [l],eSl Zc l g1]) (fun|(x3,x4,x5),e,fr,k=>e=.ret∧∃ y,fr 4=y∧fr 5=.n x4∧fr 6=.n x5∧Own B h k [eSl Zc y x3]) ⟨F,rfl,(unw o),rfl,(ao.pk [0,1])⟩ ?_ ?_
  ·rintro ⟨g1,n⟩ _ aE ⟨l,q,s,j,D⟩ _ hp;dsimp only [zb.s0] at hp;refine ZQ (Zat (Zn (Zb _ s ?_)));obtain ⟨x6,⟨_,aF,ad,_,rfl,av⟩,hp⟩:=bdk hp fun _=>Zaw.ok (h:=aE)  (D.box 0 rfl) (D.sl 1 rfl);refine Zaq rfl rfl ad ?_;have Q:=D.call av rfl;obtain ⟨⟨x7,x8,x9,x10⟩,⟨_,E,ae,rfl,aw⟩,hp⟩:=bdk hp fun _=>Zad.ok (h:=aF)  (Q.sl 2 rfl);refine Zaq rfl rfl ae ?_;have i:=Q.call aw rfl;refine Zb (.tu [.n x7,.n x8,.n x9,.b x10]) rfl (Ze (Za6 rfl rfl) (Ze (Za6 rfl rfl) (Ze (Za6 rfl rfl) (Ze (Za6 rfl rfl) (Zb (.n x7) rfl (Zb (.n x8) rfl (Zb (.n x9) rfl (Zb (.b x10) rfl (Zf (ZQ (Zn ?_)))))))))));refine Zb (.b x10) rfl (Ze (Zc3 rfl) (Zf (zE hp rfl (fun W hp=>?_) (fun W hp=>?_))))
   ·refine Zn (Zb _ s ?_);obtain ⟨x11,⟨_,_,af,T,rfl,ax⟩,hp⟩:=bdk hp fun _=>Zaw.ok (h:=E)  (i.box 0 rfl) (i.sl 1 rfl);refine Zaq rfl rfl af ?_;have aq:=i.call ax rfl;refine Zb _ j (Zb T rfl (Zb (.n n) rfl (Zb (.n 0) rfl (Zf (zV (z5 (Zbk (z5 ?_))))))));cases hp;exact ⟨nofun,rfl,T,rfl,rfl,rfl,(aq.pk [3])⟩
   ·refine Za2 (Zn (Zb _ j (Zb _ q (Ze (Za4 (i.rd0 s_picks.rd) rfl) (Ze (zA rfl rfl) (Zb (.b (decide (n<(picks.length:Int)))) rfl ?_))))));obtain ⟨t,aB,hp⟩:=zT hp;refine zR 5 (fun f k=>E=k∧f 51=.b t∧f 1=v_picks∧f 10=.n n∧f 11=.n x7∧f 12=.n x8∧f 13=.n x9∧f 8=.p c 0) ?_ ?_
    ·clear hp;rcases Zaj aB with ⟨a,hp⟩|⟨a,hp⟩
     ·refine ZC rfl a (Zb _ q (ZC rfl a (Zb _ j (ZC rfl a (ckk hp fun H hp=>Ze (zl (i.rd0 s_picks.rd) rfl rfl H) (ZC rfl a (Ze (zU (i.rd0 s_picks.rd) rfl (Zg H) rfl) (Ze (zN (v:=.b t) rfl a (Eq.trans (b:=V.b (gi picks n.toNat)) rfl (congrArg V.b (Option.some.inj hp)))) (Zo ?_)))))))));exact ⟨rfl,rfl,q,j,rfl,rfl,rfl,s⟩
     ·refine Zt rfl a (Zt rfl a (Zt rfl a (Zt rfl a (Ze (zB (v:=.b t) rfl a (Eq.trans (b:=V.b false) rfl (congrArg V.b (Option.some.inj hp)))) (Zo ?_)))));exact ⟨rfl,rfl,q,j,rfl,rfl,rfl,s⟩
    rintro _ _ ⟨rfl,aj,I,J,K,A,L,M⟩;refine Zb _ aj (Zf (ZQ (Zn (Zb _ A ?_))));obtain ⟨x12,⟨_,aG,ag,rfl,ay⟩,hp⟩:=bdk hp fun _=>ZaL.ok (h:=E)  ;refine Zaq rfl rfl ag ?_;have N:=i.call ay rfl;refine Zb (.b t) rfl (Ze (Znx rfl rfl) (Zf (ZhG hp (fun d e fr k=>e=.normal∧fr 1=v_picks∧fr 8=.p c 0∧fr 10=.n n∧fr 11=.n x7∧fr 12=.n d∧fr 13=.n x9∧Own B h k [Za9 c [l],eSl Zc l g1]) (fun _ hp=>?_) ?_)))
    ·refine zE hp rfl (fun X hp=>?_) (fun X hp=>?_)
     ·refine Zah (Zb _ A ?_);obtain ⟨x13,⟨_,_,ah,rfl,az⟩,hp⟩:=bdk hp fun _=>zf.ok (h:=aG)  ;refine Zaq rfl rfl ah ?_;have ak:=N.call az rfl;refine Zb (.n x13) rfl (Zo ?_);cases hp;exact ⟨rfl,I,M,J,K,rfl,L,(ak.pk [0,1])⟩
     ·refine Zc0 ?_;cases hp;exact ⟨rfl,I,M,J,K,A,L,(N.pk [0,1])⟩
    rintro d hp _ _ aH ⟨rfl,aL,R,aM,aN,aO,aP,O⟩;refine Z7 (Zn (Zb _ R (Zb _ aN (Zb _ aO (Zb _ aP ?_)))));obtain ⟨⟨x14,m⟩,⟨_,_,ai,aQ,rfl,aA⟩,hp⟩:=bdk hp fun _=>ZaY.ok (h:=aH) (g:=(⟨g1⟩:z9)) (v:=x7) (d:=d) (w:=x9) (owner:=(-2)) (O.toM [0,1] rfl (by decide)) ;refine Zaq rfl rfl ai ?_;have P:=(O.callM [0,1] [] rfl rfl (by decide) aA rfl).pick [0,1] rfl (by decide);refine Zb (.n x14) rfl (Zf (Zn (Zb (.n x14) rfl (Ze (Zci rfl rfl) (Zf (zE hp rfl (fun Y hp=>?_) (fun Y hp=>?_)))))))
    ·refine Zn (Zb (.n x14) rfl (Zb (.sn) rfl (Zb (.n 0) rfl (Zb (.n x14) rfl (Zf (zV (Zbk (z5 ?_))))))));have al:=P.nil Zc;cases hp;exact ⟨nofun,rfl,V.sn,rfl,rfl,rfl,(al.pk [2])⟩
    ·refine Zc0 (Zaz (Z7 (Zah (Zb _ aM (ckk hp fun aa hp=>Ze (zM rfl rfl aa) (Zb (.n (n+1)) rfl (Zo ?_)))))));cases hp;exact ⟨rfl,aQ,aL,R,rfl,(P.pk [0,1])⟩
  rintro ⟨x3,x4,x5⟩ hp _ _ _ ⟨rfl,y,aI,aJ,aK,ap⟩;refine Zbk (zi (zz aI (zz aJ (zz aK ZN))) ?_);cases hp;exact ⟨y,rfl,(ap.pk [0])⟩

theorem ZaG.ok {h:Hp}{l:List Za}{v:Int}{d:Int}{w:Int}{o:Int}{v_l:V}(H:Own (Bm h [eSl Zc v_l l]) h h [eSl Zc v_l l]) {r:(List Za)×Int}(hp:ZaG l v d w o=some r) :
  ∃ u k',Is G 53 [v_l,.n v,.n d,.n w,.n o] h u k'∧∃ ar,V.tu [ar,.n r.2]=u∧Own (Bm h [eSl Zc v_l l]) h k' [eSl Zc ar r.1]:=by
 refine WC.is (Za1 ZcB ?_);unfold ZaG at hp;let B:Nat→Prop:=(Bm h [eSl Zc v_l l]);have hO:Own B h h [eSl Zc v_l l]:=H;refine Zn (Zb (.sn) rfl (Zb (.n 0) rfl (Zf (ZQ (Zn (Zb (.n v) rfl (Ze (zA rfl rfl) (Zb (.b (decide (v<0))) rfl (zR 5 (fun f k=>h=k∧f 20=.b ((decide (v<0))||(decide ((l.length:Int)≤v)))∧f 0=v_l∧f 1=.n v∧f 2=.n d∧f 3=.n w∧f 4=.n o) ?_ ?_)))))))))
 ·rcases bc (decide (v<0)) with c|c
  ·refine Zt rfl c (Zt rfl c (Zt rfl c (Zt rfl c (Ze (ZbY (w:=(decide (v<0))||(decide ((l.length:Int)≤v))) rfl c rfl) (Zo ?_)))));exact ⟨rfl,rfl,rfl,rfl,rfl,rfl,rfl⟩
  ·refine ZC rfl c (Zb (.n v) rfl (ZC rfl c (Zb v_l rfl (ZC rfl c (Ze (Za4 (hO.sl 0 rfl) rfl) (ZC rfl c (Ze (Zdu rfl rfl) (Ze (ZbZ rfl c rfl) (Zo ?_)))))))));exact ⟨rfl,rfl,rfl,rfl,rfl,rfl,rfl⟩
 rintro _ _ ⟨rfl,ay,R,S,T,D,U⟩;refine Zb _ ay (zR 3 (fun f k=>h=k∧f 24=.b (((decide (v<0))||(decide ((l.length:Int)≤v)))||(decide (w<0)))∧f 0=v_l∧f 1=.n v∧f 2=.n d∧f 3=.n w∧f 4=.n o) ?_ ?_)
 ·rcases bc ((decide (v<0))||(decide ((l.length:Int)≤v))) with i|i
  ·refine Zt rfl i (Zt rfl i (Ze (ZbY (w:=((decide (v<0))||(decide ((l.length:Int)≤v)))||(decide (w<0))) rfl i rfl) (Zo ?_)));exact ⟨rfl,rfl,R,S,T,D,U⟩
  ·refine ZC rfl i (Zb _ D (ZC rfl i (Ze (zA rfl rfl) (Ze (ZbZ rfl i rfl) (Zo ?_)))));exact ⟨rfl,rfl,R,S,T,D,U⟩
 rintro _ _ ⟨rfl,az,E,W,X,F,Y⟩;refine Zb _ az (zR 5 (fun f k=>h=k∧f 30=.b ((((decide (v<0))||(decide ((l.length:Int)≤v)))||(decide (w<0)))||(decide ((l.length:Int)≤w)))∧f 0=v_l∧f 1=.n v∧f 2=.n d∧f 3=.n w∧f 4=.n o) ?_ ?_)
 ·rcases bc (((decide (v<0))||(decide ((l.length:Int)≤v)))||(decide (w<0))) with e|e
  ·refine Zt rfl e (Zt rfl e (Zt rfl e (Zt rfl e (Ze (ZbY (w:=(((decide (v<0))||(decide ((l.length:Int)≤v)))||(decide (w<0)))||(decide ((l.length:Int)≤w))) rfl e rfl) (Zo ?_)))));exact ⟨rfl,rfl,E,W,X,F,Y⟩
  ·refine ZC rfl e (Zb _ F (ZC rfl e (Zb _ E (ZC rfl e (Ze (Za4 (hO.sl 0 rfl) rfl) (ZC rfl e (Ze (Zdu rfl rfl) (Ze (ZbZ rfl e rfl) (Zo ?_)))))))));exact ⟨rfl,rfl,E,W,X,F,Y⟩
 rintro _ _ ⟨rfl,aA,aa,I,ab,J,ac⟩;refine Zb _ aA (zR 4 (fun f k=>h=k∧f 35=.b (((((decide (v<0))||(decide ((l.length:Int)≤v)))||(decide (w<0)))||(decide ((l.length:Int)≤w)))||(decide (v=w)))∧f 0=v_l∧f 1=.n v∧f 2=.n d∧f 3=.n w∧f 4=.n o) ?_ ?_)
 ·rcases bc ((((decide (v<0))||(decide ((l.length:Int)≤v)))||(decide (w<0)))||(decide ((l.length:Int)≤w))) with g|g
  ·refine Zt rfl g (Zt rfl g (Zt rfl g (Ze (ZbY (w:=((((decide (v<0))||(decide ((l.length:Int)≤v)))||(decide (w<0)))||(decide ((l.length:Int)≤w)))||(decide (v=w))) rfl g rfl) (Zo ?_))));exact ⟨rfl,rfl,aa,I,ab,J,ac⟩
  ·refine ZC rfl g (Zb _ I (ZC rfl g (Zb _ J (ZC rfl g (Ze (Zbp rfl rfl) (Ze (ZbZ rfl g rfl) (Zo ?_)))))));exact ⟨rfl,rfl,aa,I,ab,J,ac⟩
 rintro _ _ ⟨rfl,aB,ad,ae,K,af,ag⟩;refine Zb _ aB (zR 3 (fun f k=>h=k∧f 39=.b ((((((decide (v<0))||(decide ((l.length:Int)≤v)))||(decide (w<0)))||(decide ((l.length:Int)≤w)))||(decide (v=w)))||(decide (d<0)))∧f 0=v_l∧f 1=.n v∧f 2=.n d∧f 3=.n w∧f 4=.n o) ?_ ?_)
 ·rcases bc (((((decide (v<0))||(decide ((l.length:Int)≤v)))||(decide (w<0)))||(decide ((l.length:Int)≤w)))||(decide (v=w))) with j|j
  ·refine Zt rfl j (Zt rfl j (Ze (ZbY (w:=(((((decide (v<0))||(decide ((l.length:Int)≤v)))||(decide (w<0)))||(decide ((l.length:Int)≤w)))||(decide (v=w)))||(decide (d<0))) rfl j rfl) (Zo ?_)));exact ⟨rfl,rfl,ad,ae,K,af,ag⟩
  ·refine ZC rfl j (Zb _ K (ZC rfl j (Ze (zA rfl rfl) (Ze (ZbZ rfl j rfl) (Zo ?_)))));exact ⟨rfl,rfl,ad,ae,K,af,ag⟩
 rintro _ _ ⟨rfl,aC,ah,ai,L,aj,ak⟩;refine Zb _ aC (zR 3 (fun f k=>h=k∧f 43=.b (((((((decide (v<0))||(decide ((l.length:Int)≤v)))||(decide (w<0)))||(decide ((l.length:Int)≤w)))||(decide (v=w)))||(decide (d<0)))||(decide (3<d)))∧f 0=v_l∧f 1=.n v∧f 2=.n d∧f 3=.n w∧f 4=.n o) ?_ ?_)
 ·rcases bc ((((((decide (v<0))||(decide ((l.length:Int)≤v)))||(decide (w<0)))||(decide ((l.length:Int)≤w)))||(decide (v=w)))||(decide (d<0))) with m|m
  ·refine Zt rfl m (Zt rfl m (Ze (ZbY (w:=((((((decide (v<0))||(decide ((l.length:Int)≤v)))||(decide (w<0)))||(decide ((l.length:Int)≤w)))||(decide (v=w)))||(decide (d<0)))||(decide (3<d))) rfl m rfl) (Zo ?_)));exact ⟨rfl,rfl,ah,ai,L,aj,ak⟩
  ·refine ZC rfl m (Zb _ L (ZC rfl m (Ze (Zeu rfl rfl) (Ze (ZbZ rfl m rfl) (Zo ?_)))));exact ⟨rfl,rfl,ah,ai,L,aj,ak⟩
 rintro _ _ ⟨rfl,aD,al,am,an,ao,M⟩;refine Zb _ aD (zR 3 (fun f k=>h=k∧f 47=.b ((((((((decide (v<0))||(decide ((l.length:Int)≤v)))||(decide (w<0)))||(decide ((l.length:Int)≤w)))||(decide (v=w)))||(decide (d<0)))||(decide (3<d)))||(decide (o<(-2))))∧f 0=v_l∧f 1=.n v∧f 2=.n d∧f 3=.n w∧f 4=.n o) ?_ ?_)
 ·rcases bc (((((((decide (v<0))||(decide ((l.length:Int)≤v)))||(decide (w<0)))||(decide ((l.length:Int)≤w)))||(decide (v=w)))||(decide (d<0)))||(decide (3<d))) with p|p
  ·refine Zt rfl p (Zt rfl p (Ze (ZbY (w:=(((((((decide (v<0))||(decide ((l.length:Int)≤v)))||(decide (w<0)))||(decide ((l.length:Int)≤w)))||(decide (v=w)))||(decide (d<0)))||(decide (3<d)))||(decide (o<(-2)))) rfl p rfl) (Zo ?_)));exact ⟨rfl,rfl,al,am,an,ao,M⟩
  ·refine ZC rfl p (Zb _ M (ZC rfl p (Ze (zA rfl rfl) (Ze (ZbZ rfl p rfl) (Zo ?_)))));exact ⟨rfl,rfl,al,am,an,ao,M⟩
 rintro _ _ ⟨rfl,aE,q,N,A,O,ap⟩;refine Zf (zE hp aE (fun av hp=>?_) (fun av hp=>?_))
 ·refine Zn (Zb _ q (Zb v_l rfl (Zb (.n 2) rfl (Zf (zV (z5 (zi (zz rfl (zz rfl ZN)) ?_)))))));cases hp;exact ⟨v_l,rfl,(hO.pk [0])⟩
 ·refine Za2 (ZQ (Zn (Zb _ q (Zb _ N (Zb _ A (ckk hp fun s hp=>Ze (zl (hO.sl 0 rfl) rfl rfl s) (Ze (Za7 (hO.sl 0 rfl) (Zg s) rfl rfl) (ckk hp fun P hp=>Ze (Zbh (hO.sl 0 rfl) (Zg s) rfl rfl P rfl) (Ze (zU (hO.sl 0 rfl) rfl (Zg s) (zw P)) ?_)))))))));refine Ze (Zci rfl rfl) (Zb (.b (!(decide (((gi l v.toNat).Next).get d=(-1))))) rfl ?_);obtain ⟨t,aM,hp⟩:=zT hp;refine zR 11 (fun f k=>h=k∧f 68=.b t∧f 0=v_l∧f 1=.n v∧f 2=.n d∧f 3=.n w∧f 4=.n o) ?_ ?_
  ·clear hp;rcases Zaj aM with ⟨a,hp⟩|⟨a,hp⟩
   ·refine Zt rfl a (Zt rfl a (Zt rfl a (Zt rfl a (Zt rfl a (Zt rfl a (Zt rfl a (Zt rfl a (Zt rfl a (Zt rfl a (Ze (zN (v:=.b t) rfl a (Eq.trans (b:=V.b true) rfl (congrArg V.b (Option.some.inj hp)))) (Zo ?_)))))))))));exact ⟨rfl,rfl,q,N,A,O,ap⟩
   ·refine ZC rfl a (Zb _ q (ZC rfl a (Zb _ O (ZC rfl a (Zb _ A (ZC rfl a (ckk hp fun aw hp=>Ze (zM rfl rfl aw) (ZC rfl a (Ze (ZeX rfl rfl (by decide)) (ZC rfl a (ckk hp fun y hp=>Ze (zl (hO.sl 0 rfl) rfl rfl y) ?_)))))))))));refine ZC rfl a (Ze (Za7 (hO.sl 0 rfl) (Zg y) rfl rfl) (ZC rfl a (ckk hp fun Q hp=>Ze (Zbh (hO.sl 0 rfl) (Zg y) rfl rfl Q rfl) (ZC rfl a (Ze (zU (hO.sl 0 rfl) rfl (Zg y) (zw Q)) (ZC rfl a (Ze (Zci rfl rfl) (Ze (zB (v:=.b t) rfl a (Eq.trans (b:=V.b (!(decide (((gi l w.toNat).Next).get ((d+2).tmod 4)=(-1))))) rfl (congrArg V.b (Option.some.inj hp)))) (Zo ?_)))))))));exact ⟨rfl,rfl,q,N,A,O,ap⟩
  rintro _ _ ⟨rfl,aJ,aq,aF,aG,aH,aI⟩;refine Zf (zE hp aJ (fun au hp=>?_) (fun au hp=>?_))
  ·refine Zn (Zb _ aq (Zb v_l rfl (Zb (.n 9) rfl (Zf (zV (z5 (zi (zz rfl (zz rfl ZN)) ?_)))))));cases hp;exact ⟨v_l,rfl,(hO.pk [0])⟩
  ·refine Za2 (Zn (Zb _ aq (Zb _ aF (Zb _ aG (Zb _ aH (Zb _ aI ?_))))));obtain ⟨x,⟨_,_,ax,C,rfl,aL⟩,hp⟩:=bdk hp fun _=>zq.ok (h:=h)  (hO.sl 0 rfl);refine Zaq rfl rfl ax ?_;have aK:=hO.call aL rfl;refine Zb C rfl (Zf (Zn (Zb C rfl (Zb C rfl (Zb (.n 0) rfl (Zf (zV (zi (zz rfl (zz rfl ZN)) ?_))))))));cases hp;exact ⟨C,rfl,(aK.pk [1])⟩

theorem zW.ok {h:Hp}    {r:(List Za)}(hp:zW =some r) :
  ∃ u k',Is G 213 [] h u k'∧∃ y,y=u∧Own (fun r=>r<h.n) h k' [eSl Zc y r]:=by
 refine WC.is (Za1 ZcA ?_);unfold zW at hp;let B:Nat→Prop:=(fun r=>r<h.n);have hO:Own B h h []:=Own.start0 h;refine Zn (Zb (.sn) rfl (Zf (Zn ?_)));obtain ⟨x,⟨_,_,F,A,rfl,K⟩,hp⟩:=bdk hp fun _=>ZM.ok (h:=h)  ;refine Zaq rfl rfl F ?_;have m:=hO.call K rfl;refine Zb A rfl (Zf (ZQ (Zn (zK (m.bsl (E:=ZaA) (l:=([0,1,0,1,2,1,2,3,2,3,0,3]:List Int)) m.fr (by rw [(z6 (v:=.n 0) rfl (z6 (v:=.n 1) rfl (z6 (v:=.n 0) rfl (z6 (v:=.n 1) rfl (z6 (v:=.n 2) rfl (z6 (v:=.n 1) rfl (z6 (v:=.n 2) rfl (z6 (v:=.n 3) rfl (z6 (v:=.n 2) rfl (z6 (v:=.n 3) rfl (z6 (v:=.n 0) rfl (z6 (v:=.n 3) rfl Zbc))))))))))))];rfl) rfl) ?_))));rintro C _ ⟨_,_,p⟩;refine Ze (Za4 (p.sl 1 rfl) rfl) (Zb (.n 0) rfl (Zf (Zat (ZbG hp (fun|(l,x1),fr,k=>∃ f,fr 1=f∧fr 5=C∧fr 6=.n (([0,1,0,1,2,1,2,3,2,3,0,3]:List Int).length:Int)∧fr 7=.n x1∧Own B h k [eSl Zc f l,eSl ZaA C ([0,1,0,1,2,1,2,3,2,3,0,3]:List Int)]) (fun l1 e fr k=>e=(.exit 0)∧∃ b,fr 1=b∧Own B h k [eSl Zc b l1]) ⟨A,rfl,rfl,rfl,rfl,(p.pk [0,1])⟩ ?_ ?_))))
 ·rintro ⟨l,x1⟩ _ M ⟨f,q,s,t,c,a⟩ _ hp;dsimp only [zW.s0] at hp;refine Zn (Ze (zA c t) (Zf (ZQ (zE hp rfl (fun D hp=>?_) (fun D hp=>?_)))))
  ·refine Za2 (ZQ (Zat (Zn (Zb _ c (ckk hp fun i hp=>Ze (zl (a.sl 1 rfl) s c i) (Ze (zU (a.sl 1 rfl) rfl (Zg i) rfl) (Zb (.n x1) rfl (Zb (.n (gi ([0,1,0,1,2,1,2,3,2,3,0,3]:List Int) x1.toNat)) rfl (Zf ?_)))))))));refine Zah (Zb _ q (Zb (.n x1) rfl (Zb (.n (gi ([0,1,0,1,2,1,2,3,2,3,0,3]:List Int) x1.toNat)) rfl (Zb (.n x1) rfl (ckk hp fun j hp=>Ze (zM rfl rfl j) (Ze (ZeX rfl rfl (by decide)) ?_))))));obtain ⟨⟨x2,x3⟩,⟨_,_,H,g,rfl,L⟩,hp⟩:=bdk hp fun _=>ZaG.ok (h:=M) (l:=l) (v:=x1) (d:=(gi ([0,1,0,1,2,1,2,3,2,3,0,3]:List Int) x1.toNat)) (w:=((x1+1).tmod 12)) (o:=0) (a.toM [0] rfl (by decide)) ;refine Zaq rfl rfl H ?_;have J:=(a.callM [0] [1] rfl rfl (by decide) L rfl).pick [900,0,1] rfl (by decide);refine Zb (.tu [g,.n x3]) rfl (Ze (Za6 rfl rfl) (Ze (Za6 rfl rfl) (Zb g rfl (Zo (Zaz (Z7 (Zah (Ze (zM c rfl j) (Zb (.n (x1+1)) rfl (Zo ?_))))))))));cases hp;exact ⟨rfl,g,rfl,s,t,rfl,(J.pk [2,1])⟩
  ·refine Zbx (Zaf ?_);cases hp;exact ⟨nofun,rfl,f,q,(a.pk [0])⟩
 rintro l1 hp _ _ _ ⟨rfl,b,N,I⟩;refine ZaI (Z7 (Zn (Zb _ N (Zb b rfl (Zf (zV (zi (zz rfl ZN) ?_)))))));cases hp;exact ⟨b,rfl,(I.pk [0])⟩

theorem Za3.ok {h:Hp}{cells:List Za}{v_cells:V}(s_cells:Sl Zc h v_cells cells) {r:(List Za)×Int}(hp:Za3 cells=some r) :
  ∃ u k',Is G 214 [v_cells] h u k'∧∃ W,V.tu [W,.n r.2]=u∧Own (fun r=>r<h.n) h k' [eSl Zc W r.1]:=by
 refine WC.is (Za1 Zd9 ?_);unfold Za3 at hp;let B:Nat→Prop:=(fun r=>r<h.n);have hO:Own B h h []:=Own.start0 h;refine Zn (Zb (.sn) rfl (Zb (.n 0) rfl (Zf (ZQ (Zn (Zb v_cells rfl ?_))))));obtain ⟨x,⟨_,_,ai,rfl,au⟩,hp⟩:=bdk hp fun _=>ZT.ok (h:=h)  (hO.rd0 s_cells.rd);refine Zaq rfl rfl ai ?_;have A:=hO.call au rfl;refine Zb (.n x) rfl (Zf (Zn (Zb (.n x) rfl (Ze (Zci rfl rfl) (Zf (zE hp rfl (fun Y hp=>?_) (fun Y hp=>?_)))))))
 ·refine Zn (Zb (.n x) rfl (Zb (.sn) rfl (Zb (.n x) rfl (Zf (zV (z5 ?_))))));have an:=A.nil Zc;refine zi (zz rfl (zz rfl ZN)) ?_;cases hp;exact ⟨V.sn,rfl,(an.pk [0])⟩
 ·refine Za2 (Zn (Zb (.sn) rfl (Zf (ZQ (Zn (Zb v_cells rfl (Ze (Za4 (A.rd0 s_cells.rd) rfl) (Zb (.n 0) rfl (Zo ?_)))))))));refine Z7 (Zat ?_);have ap:=A.nil Zc;refine ZbG hp (fun|(l,x1),fr,k=>∃ i,fr 5=i∧fr 14=v_cells∧fr 15=.n (cells.length:Int)∧fr 16=.n x1∧Own B h k [eSl Zc i l]) (fun l1 e fr k=>e=(.exit 0)∧∃ s,fr 5=s∧Own B h k [eSl Zc s l1]) ⟨V.sn,rfl,rfl,rfl,rfl,(ap.pk [0])⟩ ?_ ?_
  ·rintro ⟨l,x1⟩ _ _ ⟨i,U,S,T,F,j⟩ _ hp;dsimp only [Za3.s0] at hp;refine Zn (Ze (zA F T) (Zf (ZQ (zE hp rfl (fun aa hp=>?_) (fun aa hp=>?_)))))
   ·refine Za2 (ZQ (Zat (Zn (ckk hp fun L hp=>Ze (zl (j.rd0 s_cells.rd) S F L) (Ze (Zeg (j.rd0 s_cells.rd) rfl (Zg L)) (zK (j.alloc (cs:=Zc.c (⟨⟨0,0,0,0⟩,⟨0,0,0,0⟩⟩:Za)) j.fr) ?_))))));rintro _ _ ⟨g,rfl,_,_,aq⟩;refine zK (aq.stb (cs':=Zc.c (gi cells x1.toNat)) 1 rfl rfl rfl rfl ⟨rfl,Nat.le_of_ble_eq_true rfl,rfl⟩ rfl) ?_;rintro _ _ ⟨rfl,_,_,ar⟩;refine Zf (ZQ (Zn (Zb (.n 0) rfl (Zf (Zat (ZbG hp (fun|(c,x2),fr,k=>fr 5=i∧fr 7=.p g 0∧fr 14=v_cells∧fr 15=.n (cells.length:Int)∧fr 16=.n x1∧fr 20=.n x2∧Own B h k [eSl Zc i l,Za9 g (Zc.c c)]) (fun c1 e fr k=>e=(.exit 2)∧fr 5=i∧fr 7=.p g 0∧fr 14=v_cells∧fr 15=.n (cells.length:Int)∧fr 16=.n x1∧Own B h k [eSl Zc i l,Za9 g (Zc.c c1)]) ⟨U,rfl,S,T,F,rfl,(ar.pk [0,1])⟩ ?_ ?_))))))
    ·rintro ⟨c,x2⟩ _ av ⟨K,q,H,I,J,y,m⟩ _ hp;dsimp only [Za3.s1] at hp;refine Zn (Ze (zA y rfl) (Zf (ZQ (zE hp rfl (fun ab hp=>?_) (fun ab hp=>?_)))))
     ·refine Za2 (ZQ (Zat (Zn (Zb _ y (Zb (.n x2) rfl (Zf (Zn (Zb (.n x2) rfl (Ze (ZaH (r:=g) (o:=0) q rfl) ?_)))))))));refine ckk hp fun d hp=>Ze (Zev (o:=0) (o':=(0+x2.toNat*1)) rfl rfl d rfl) (Ze (zY (m.box 1 rfl) rfl (zw d)) (Ze (Zdu rfl rfl) (Zb (.b (decide (0≤(c.Next.get x2)))) rfl (zR 6 (fun f k=>av=k∧f 34=.b ((decide (0≤(c.Next.get x2)))&&(decide (c.Owner.get x2=(-2))))∧f 14=v_cells∧f 15=.n (cells.length:Int)∧f 16=.n x1∧f 20=.n x2∧f 5=i∧f 7=.p g 0∧f 8=.n x2) ?_ ?_))))
      ·rcases bc (decide (0≤(c.Next.get x2))) with a|a
       ·refine ZC rfl a (Zb (.n x2) rfl (ZC rfl a (Ze (ZaH (r:=g) (o:=0) q rfl) (ZC rfl a (Ze (Zev (o:=4) (o':=(4+x2.toNat*1)) rfl rfl d rfl) (ZC rfl a (Ze (zY (m.box 1 rfl) rfl (ZbW d)) (ZC rfl a (Ze (Zbp rfl rfl) (Ze (Zef rfl a rfl) (Zo ?_)))))))))));exact ⟨rfl,rfl,H,I,J,y,K,q,rfl⟩
       ·refine Zt rfl a (Zt rfl a (Zt rfl a (Zt rfl a (Zt rfl a (Ze (Zee (w:=(decide (0≤(c.Next.get x2)))&&(decide (c.Owner.get x2=(-2)))) rfl a rfl) (Zo ?_))))));exact ⟨rfl,rfl,H,I,J,y,K,q,rfl⟩
      rintro _ _ ⟨rfl,aj,M,N,O,P,Q,t,R⟩;refine Zf (zE hp aj (fun ac hp=>?_) (fun ac hp=>?_))
      ·refine Zah (Zb _ R (Zb _ R (Ze (ZaH (r:=g) (o:=0) t rfl) (Ze (Zev (o:=0) (o':=(0+x2.toNat*1)) rfl rfl d rfl) (zK (m.stb (cs':=Zc.c ({ c with Next:=c.Next.set x2 (-1) })) 1 rfl rfl rfl rfl ⟨rfl,(by have:=d;exact (show 0+x2.toNat*1+1≤8 by omega)),rfl⟩ (ZaZ d)) ?_)))));rintro _ _ ⟨rfl,_,_,ak⟩;refine Ze (ZaH (r:=g) (o:=0) t rfl) (Ze (Zev (o:=4) (o':=(4+x2.toNat*1)) rfl rfl d rfl) (zK (ak.stb (cs':=Zc.c ({ { c with Next:=c.Next.set x2 (-1) } with Owner:=(({ c with Next:=c.Next.set x2 (-1) }).Owner).set x2 0 })) 1 rfl rfl rfl rfl ⟨rfl,(by have:=d;exact (show 4+x2.toNat*1+1≤8 by omega)),rfl⟩ (Zbg d)) ?_));rintro _ _ ⟨rfl,_,_,al⟩;refine Zo (Zaz (Z7 (Zah (ckk hp fun ad hp=>Ze (zM P rfl ad) (Zb (.n (x2+1)) rfl (Zo ?_))))));cases hp;exact ⟨rfl,Q,t,M,N,O,rfl,(al.pk [0,1])⟩
      ·refine Zc0 (Zaz (Z7 (Zah (ckk hp fun ae hp=>Ze (zM P rfl ae) (Zb (.n (x2+1)) rfl (Zo ?_))))));cases hp;exact ⟨rfl,Q,t,M,N,O,rfl,(m.pk [0,1])⟩
     ·refine Zbx (Zaf ?_);cases hp;exact ⟨nofun,rfl,K,q,H,I,J,(m.pk [0,1])⟩
    rintro c1 hp _ _ _ ⟨rfl,aA,aB,ax,ay,az,D⟩;refine ZaI (Z7 (Zah (Zb _ aA (Ze (Zbj (D.box 1 rfl) aB rfl) (zK (D.bsl (E:=Zc) (l:=[c1]) D.fr (by rw [(z6 (v:=.ag (Zc.c c1)) rfl Zbc)];rfl) rfl) ?_)))));rintro _ _ ⟨_,_,C⟩;refine ckk hp fun af hp=>zK (C.app (bytes:=64) 0 C.fr rfl (C.sl 2 rfl) rfl rfl (fun _=>rfl) af (by decide)) ?_;rintro X _ ⟨_,am⟩;refine Zb X rfl (Zo (Zaz (Z7 (Zah (ckk hp fun ah hp=>Ze (zM az rfl ah) (Zb (.n (x1+1)) rfl (Zo ?_)))))));cases hp;exact ⟨rfl,X,rfl,ax,ay,rfl,(am.pk [0])⟩
   ·refine Zbx (Zaf ?_);cases hp;exact ⟨nofun,rfl,i,U,(j.pk [0])⟩
  rintro l1 hp _ _ _ ⟨rfl,s,aw,ao⟩;refine ZaI (Z7 (Zn (Zb _ aw (Zb s rfl (Zb (.n 0) rfl (Zf (zV (zi (zz rfl (zz rfl ZN)) ?_))))))));cases hp;exact ⟨s,rfl,(ao.pk [0])⟩

theorem ZY.ok {h:Hp}{a:List Za}{b:List Za}{v_a:V}{v_b:V}(s_a:Sl Zc h v_a a) (s_b:Sl Zc h v_b b) {r:Bool}(hp:ZY a b=some r) :
  ∃ u k',Is G 56 [v_a,v_b] h u k'∧V.b r=u∧Own (fun r=>r<h.n) h k' []:=by
 refine WC.is (Za1 ZcD ?_);unfold ZY at hp;let B:Nat→Prop:=(fun r=>r<h.n);have hO:Own B h h []:=Own.start0 h;refine Zn (Zb (.b false) rfl (Zf (ZQ (Zn (Zb v_a rfl (Ze (Za4 (hO.rd0 s_a.rd) rfl) (Zb v_b rfl (Ze (Za4 (hO.rd0 s_b.rd) rfl) (Ze (Zci rfl rfl) (Zo ?_))))))))));refine Z7 (zE hp rfl (fun s hp=>?_) (fun s hp=>?_))
 ·refine Zn (Zb (.b false) rfl (Zf (zV (z5 (zi (zz rfl ZN) ?_)))));cases hp;exact ⟨rfl,(hO.pk [])⟩
 ·refine Za2 (ZQ (Zn (Zb (.n 0) rfl (Zf (Zat (ZbG hp (fun i fr k=>fr 0=v_a∧fr 1=v_b∧fr 5=.n i∧Own B h k []) (fun|.inl _,e,fr,k=>e=(.exit 0)∧Own B h k []|.inr _,e,fr,k=>e=.ret∧fr 4=.b false∧Own B h k []) ⟨rfl,rfl,rfl,(hO.pk [])⟩ ?_ ?_))))))
  ·rintro i _ _ ⟨l,q,f,j⟩ _ hp;dsimp only [ZY.s0] at hp;refine ZQ (Zn (Zb _ f (Zb _ l (Ze (Za4 (j.rd0 s_a.rd) rfl) (Ze (zA rfl rfl) (Zf (zE hp rfl (fun t hp=>?_) (fun t hp=>?_))))))))
   ·refine Za2 (ZQ (Zat (ZQ (ZgZ ?_))));have d:=j.bump 9;refine zL _ l (zL _ f (ckk hp fun m hp=>ZH rfl (zl (d.rd0 s_a.rd) rfl rfl m) (ZH rfl (Zeg (d.rd0 s_a.rd) rfl (Zg m)) (zL _ q (zL _ f (ckk hp fun o hp=>ZH rfl (zl (d.rd0 s_b.rd) rfl rfl o) (ZH rfl (Zeg (d.rd0 s_b.rd) rfl (Zg o)) (ZH rfl (Zn1 (as:=Zc.c (gi a i.toNat)) (bs:=Zc.c (gi b i.toNat)) rfl rfl (Mu.Zc.same _ _)) (zF (Z7 (zE hp rfl (fun v hp=>?_) (fun v hp=>?_))))))))))))
    ·refine Zn (Zb (.b false) rfl (Zf (zV (Zbk (z5 ?_)))));cases hp;exact ⟨nofun,rfl,rfl,(d.pk [])⟩
    ·refine Zc0 (Zaz (Z7 (Zah (Zb _ f (ckk hp fun w hp=>Ze (zM rfl rfl w) (Zb (.n (i+1)) rfl (Zo ?_)))))));cases hp;exact ⟨rfl,l,q,rfl,(d.pk [])⟩
   ·refine Zbx (Zaf ?_);cases hp;exact ⟨nofun,rfl,(j.pk [])⟩
  rintro (_|_) hp _ _ _ p
  ·obtain ⟨rfl,g⟩:=p;refine ZaI (Z7 (Zn (Zb (.b true) rfl (Zf (zV (zi (zz rfl ZN) ?_))))));cases hp;exact ⟨rfl,(g.pk [])⟩
  ·obtain ⟨rfl,x,g⟩:=p;refine Zbk (z5 (zi (zz x ZN) ?_));cases hp;exact ⟨rfl,(g.pk [])⟩

theorem Zap.ok {h:Hp}    {r:Bool}(hp:Zap =some r) :
  ∃ u k',Is G 190 [] h u k'∧V.b r=u∧Own (fun r=>r<h.n) h k' []:=by
 refine WC.is (Za1 Zc1 ?_);unfold Zap at hp;let B:Nat→Prop:=(fun r=>r<h.n);have hO:Own B h h []:=Own.start0 h;refine Zn (Zb (.b false) rfl (Zf (Zn ?_)));obtain ⟨x,⟨_,I,K,ar,rfl,af⟩,hp⟩:=bdk hp fun _=>zW.ok (h:=h)  ;refine Zaq rfl Zhs K ?_;have D:=hO.call af rfl;obtain ⟨⟨x1,x2,x3⟩,⟨_,an,L,l,rfl,ag⟩,hp⟩:=bdk hp fun _=>zb.ok (h:=I)  (D.sl 0 rfl) (Sl.nil:Sl e_bool I .sn ([]:List Bool));refine Zaq rfl rfl L ?_;have E:=D.call ag rfl;refine Zb (.tu [l,.n x2,.n x3]) rfl (Ze (Za6 rfl rfl) (Ze (Za6 rfl rfl) (Ze (Za6 rfl rfl) (Zb l rfl (Zb (.n x2) rfl (Zb (.n x3) rfl (Zf (Zn (Zb l rfl ?_)))))))));obtain ⟨⟨x4,x5⟩,⟨_,ao,M,i,rfl,ah⟩,hp⟩:=bdk hp fun _=>Za3.ok (h:=an)  (E.sl 1 rfl);refine Zaq rfl rfl M ?_;have ac:=E.call ah rfl;refine Zb (.tu [i,.n x5]) rfl (Ze (Za6 rfl rfl) (Ze (Za6 rfl rfl) (Zb i rfl (Zb (.n x5) rfl (Zf (Zn ?_))))));obtain ⟨x6,⟨_,J,N,au,rfl,ai⟩,hp⟩:=bdk hp fun _=>ZM.ok (h:=ao)  ;refine Zaq rfl rfl N ?_;have F:=ac.call ai rfl;obtain ⟨⟨x7,x8,x9⟩,⟨_,j,O,o,rfl,aj⟩,hp⟩:=bdk hp fun _=>zb.ok (h:=J)  (F.sl 3 rfl) (Sl.nil:Sl e_bool J .sn ([]:List Bool));refine Zaq rfl rfl O ?_;have H:=F.call aj rfl;refine Zb (.tu [o,.n x8,.n x9]) rfl (Ze (Za6 rfl rfl) (Ze (Za6 rfl rfl) (Ze (Za6 rfl rfl) (Zb o rfl (Zb (.n x8) rfl (Zb (.n x9) rfl (Zf (Zn (Zb (.n x3) rfl (Ze (Zbp rfl rfl) (Zb (.b (decide (x3=0))) rfl (zR 3 (fun f k=>j=k∧f 31=.b ((decide (x3=0))&&(decide (0<x2)))∧f 2=.n x2∧f 4=i∧f 5=.n x5∧f 8=.n x9) ?_ ?_))))))))))))
 ·rcases bc (decide (x3=0)) with c|c
  ·refine ZC rfl c (Zb (.n x2) rfl (ZC rfl c (Ze (Zeu rfl rfl) (Ze (Zef rfl c rfl) (Zo ?_)))));exact ⟨rfl,rfl,rfl,rfl,rfl,rfl⟩
  ·refine Zt rfl c (Zt rfl c (Ze (Zee (w:=(decide (x3=0))&&(decide (0<x2))) rfl c rfl) (Zo ?_)));exact ⟨rfl,rfl,rfl,rfl,rfl,rfl⟩
 rintro _ _ ⟨rfl,S,R,p,q,s⟩;refine Zb _ S (zR 3 (fun f k=>j=k∧f 35=.b (((decide (x3=0))&&(decide (0<x2)))&&(decide (x2<3)))∧f 4=i∧f 5=.n x5∧f 8=.n x9) ?_ ?_)
 ·rcases bc ((decide (x3=0))&&(decide (0<x2))) with d|d
  ·refine ZC rfl d (Zb _ R (ZC rfl d (Ze (zA rfl rfl) (Ze (Zef rfl d rfl) (Zo ?_)))));exact ⟨rfl,rfl,p,q,s⟩
  ·refine Zt rfl d (Zt rfl d (Ze (Zee (w:=((decide (x3=0))&&(decide (0<x2)))&&(decide (x2<3))) rfl d rfl) (Zo ?_)));exact ⟨rfl,rfl,p,q,s⟩
 rintro _ _ ⟨rfl,T,y,U,A⟩;refine Zb _ T (zR 3 (fun f k=>j=k∧f 39=.b ((((decide (x3=0))&&(decide (0<x2)))&&(decide (x2<3)))&&(decide (x5=0)))∧f 4=i∧f 8=.n x9) ?_ ?_)
 ·rcases bc (((decide (x3=0))&&(decide (0<x2)))&&(decide (x2<3))) with e|e
  ·refine ZC rfl e (Zb _ U (ZC rfl e (Ze (Zbp rfl rfl) (Ze (Zef rfl e rfl) (Zo ?_)))));exact ⟨rfl,rfl,y,A⟩
  ·refine Zt rfl e (Zt rfl e (Ze (Zee (w:=(((decide (x3=0))&&(decide (0<x2)))&&(decide (x2<3)))&&(decide (x5=0))) rfl e rfl) (Zo ?_)));exact ⟨rfl,rfl,y,A⟩
 rintro _ _ ⟨rfl,W,X,C⟩;refine Zb _ W ?_;obtain ⟨t,am,hp⟩:=zT hp;refine zR 4 (fun f k=>Own B h k [eSl Zc ar x,eSl Zc l x1,eSl Zc i x4,eSl Zc au x6,eSl Zc o x7]∧f 44=.b t∧f 8=.n x9) ?_ ?_
 ·clear hp;rcases Zaj am with ⟨a,hp⟩|⟨a,hp⟩
  ·refine ZC rfl a (Zb _ X (ZC rfl a ?_));obtain ⟨x10,⟨_,ap,P,_,rfl,ak⟩,hp⟩:=bdk hp fun _=>zW.ok (h:=j)  ;refine Zaq rfl Zhs P ?_;have m:=H.call ak rfl;refine ZC rfl a ?_;obtain ⟨x11,⟨_,_,Q,rfl,al⟩,hp⟩:=bdk hp fun _=>ZY.ok (h:=ap)  (m.sl 2 rfl) (m.sl 5 rfl);refine Zaq rfl rfl Q ?_;have ad:=m.call al rfl;refine Ze (zN (v:=.b t) rfl a (Eq.trans (b:=V.b x11) rfl (congrArg V.b (Option.some.inj hp)))) (Zo ?_);exact ⟨ad.pk [0,1,2,3,4],rfl,C⟩
  ·refine Zt rfl a (Zt rfl a (Zt rfl a (Ze (zB (v:=.b t) rfl a (Eq.trans (b:=V.b false) rfl (congrArg V.b (Option.some.inj hp)))) (Zo ?_))));exact ⟨H.pk [0,1,2,3,4],rfl,C⟩
 rintro _ aq ⟨ae,Y,aa⟩;refine Zb _ Y (zR 3 (fun f k=>aq=k∧f 48=.b (t&&(decide (x9=13)))) ?_ ?_)
 ·rcases bc t with g|g
  ·refine ZC rfl g (Zb _ aa (ZC rfl g (Ze (Zbp rfl rfl) (Ze (Zef rfl g rfl) (Zo ?_)))));exact ⟨rfl,rfl⟩
  ·refine Zt rfl g (Zt rfl g (Ze (Zee (w:=t&&(decide (x9=13))) rfl g rfl) (Zo ?_)));exact ⟨rfl,rfl⟩
 rintro _ _ ⟨rfl,ab⟩;refine Zb _ ab (Zf (zV (zi (zz rfl ZN) ?_)));cases hp;exact ⟨rfl,(ae.pk [])⟩

theorem Zac.ok {h:Hp}{z:ZU}{picks:List Bool}{more:List Bool}{v_z_At:V}{v_z_Bits:V}{v_z_Own:V}{v_picks:V}{v_more:V}(s_z_At:Sl Zhg h v_z_At z.At) (s_z_Bits:Sl Zhg h v_z_Bits z.Bits) (s_z_Own:Sl Zjl h v_z_Own z.Own) (s_picks:Sl e_bool h v_picks picks) (s_more:Sl e_bool h v_more more) {r:Bool}(hp:Zac z picks more=some r) :
  ∃ u k',Is G 250 [.ag [v_z_At,v_z_Bits,v_z_Own],v_picks,v_more] h u k'∧V.b r=u∧Own (fun r=>r<h.n) h k' []:=by
 refine WC.is (Za1 Zb7 ?_);unfold Zac at hp;let B:Nat→Prop:=(fun r=>r<h.n);have hO:Own B h h []:=Own.start0 h;refine Zn (zK (hO.boxd (cs:=[v_z_At,v_z_Bits,v_z_Own]) hO.fr rfl rfl) ?_);rintro _ aS ⟨aa,rfl,_,_,m⟩;refine Zb (.b false) rfl (Zf (Zn (Ze (Zbj (m.box 0 rfl) rfl rfl) ?_)));obtain ⟨⟨x,x1⟩,⟨_,aT,ai,e,A,rfl,aH⟩,hp⟩:=bdk hp fun _=>Zz.ok (h:=aS)  (m.rd0 s_z_At.rd) (m.rd0 s_z_Bits.rd) (m.rd0 s_z_Own.rd);refine Zaq rfl rfl ai ?_;have I:=m.call aH rfl;refine Zb (.tu [e,A]) rfl (Ze (Za6 rfl rfl) (Ze (Za6 rfl rfl) (Zb e rfl (Zb A rfl (Zf (Zn (Zb e rfl (Zb v_picks rfl ?_))))))));obtain ⟨⟨x2,x3,x4⟩,⟨_,aU,aj,g,rfl,aI⟩,hp⟩:=bdk hp fun _=>zb.ok (h:=aT)  (I.sl 1 rfl) (I.rd0 s_picks.rd);refine Zaq rfl rfl aj ?_;have aE:=I.call aI rfl;refine Zb (.tu [g,.n x3,.n x4]) rfl (Ze (Za6 rfl rfl) (Ze (Za6 rfl rfl) (Ze (Za6 rfl rfl) (Zb g rfl (Zb (.n x3) rfl (Zb (.n x4) rfl (Zf (ZQ (Zn ?_)))))))));obtain ⟨x5,⟨_,K,ak,rfl,aJ⟩,hp⟩:=bdk hp fun _=>Zap.ok (h:=aU)  ;refine Zaq rfl Zhs ak ?_;have s:=aE.call aJ rfl;refine Ze (Zc3 rfl) (Zb (.b (!x5)) rfl (zR 3 (fun f k=>K=k∧f 35=.b ((!x5)||(!(decide (x4=0))))∧f 1=v_picks∧f 10=.n x3∧f 2=v_more∧f 7=e∧f 9=g) ?_ ?_))
 ·rcases bc (!x5) with i|i
  ·refine Zt rfl i (Zt rfl i (Ze (ZbY (w:=(!x5)||(!(decide (x4=0)))) rfl i rfl) (Zo ?_)));exact ⟨rfl,rfl,rfl,rfl,rfl,rfl,rfl⟩
  ·refine ZC rfl i (Zb (.n x4) rfl (ZC rfl i (Ze (Zci rfl rfl) (Ze (ZbZ rfl i rfl) (Zo ?_)))));exact ⟨rfl,rfl,rfl,rfl,rfl,rfl,rfl⟩
 rintro _ _ ⟨rfl,aq,M,N,D,O,F⟩;refine Zf (zE hp aq (fun ac hp=>?_) (fun ac hp=>?_))
 ·refine Zn ?_;obtain ⟨x6,⟨_,_,al,rfl,aK⟩,hp⟩:=bdk hp fun _=>Zap.ok (h:=K)  ;refine Zaq rfl Zhs al ?_;have aF:=s.call aK rfl;refine Zb (.b x6) rfl (Zf (zV (z5 (zi (zz rfl ZN) ?_))));cases hp;exact ⟨rfl,(aF.pk [])⟩
 ·refine Za2 (Zn (Zb _ F (Zb _ D ?_)));obtain ⟨⟨x7,x8,x9⟩,⟨_,X,am,o,rfl,aL⟩,hp⟩:=bdk hp fun _=>zb.ok (h:=K)  (s.sl 3 rfl) (s.rd0 s_more.rd);refine Zaq rfl rfl am ?_;have y:=s.call aL rfl;refine Zb (.tu [o,.n x8,.n x9]) rfl (Ze (Za6 rfl rfl) (Ze (Za6 rfl rfl) (Ze (Za6 rfl rfl) (Zb o rfl (Zb (.n x8) rfl (Zb (.n x9) rfl (Zf (ZQ (Zn (Zb (.n x9) rfl (Ze (Zci rfl rfl) ?_)))))))))));refine Zb (.b (!(decide (x9=0)))) rfl (zR 3 (fun f k=>X=k∧f 49=.b ((!(decide (x9=0)))||(!(decide (x8=0))))∧f 1=v_picks∧f 10=.n x3∧f 12=o∧f 2=v_more∧f 7=e∧f 9=g) ?_ ?_)
  ·rcases bc (!(decide (x9=0))) with j|j
   ·refine Zt rfl j (Zt rfl j (Ze (ZbY (w:=(!(decide (x9=0)))||(!(decide (x8=0)))) rfl j rfl) (Zo ?_)));exact ⟨rfl,rfl,M,N,rfl,D,O,F⟩
   ·refine ZC rfl j (Zb (.n x8) rfl (ZC rfl j (Ze (Zci rfl rfl) (Ze (ZbZ rfl j rfl) (Zo ?_)))));exact ⟨rfl,rfl,M,N,rfl,D,O,F⟩
  rintro _ _ ⟨rfl,au,P,Q,ar,R,S,H⟩;refine Zb _ au ?_;obtain ⟨t,aQ,hp⟩:=zT hp;refine zR 5 (fun f k=>Own B h k [Za9 aa [v_z_At,v_z_Bits,v_z_Own],eSl Zc e x,eSl Zs A x1,eSl Zc g x2,eSl Zc o x7]∧f 55=.b t∧f 1=v_picks∧f 10=.n x3∧f 2=v_more∧f 7=e∧f 9=g) ?_ ?_
  ·clear hp;rcases Zaj aQ with ⟨a,hp⟩|⟨a,hp⟩
   ·refine Zt rfl a (Zt rfl a (Zt rfl a (Zt rfl a (Ze (zN (v:=.b t) rfl a (Eq.trans (b:=V.b true) rfl (congrArg V.b (Option.some.inj hp)))) (Zo ?_)))));exact ⟨y.pk [0,1,2,3,4],rfl,P,Q,R,S,H⟩
   ·refine ZC rfl a (Zb _ ar (ZC rfl a (Zb _ H (ZC rfl a ?_))));obtain ⟨x10,⟨_,_,an,rfl,aM⟩,hp⟩:=bdk hp fun _=>ZY.ok (h:=X)  (y.sl 4 rfl) (y.sl 3 rfl);refine Zaq rfl rfl an ?_;have aG:=y.call aM rfl;refine ZC rfl a (Ze (Zc3 rfl) (Ze (zB (v:=.b t) rfl a (Eq.trans (b:=V.b (!x10)) rfl (congrArg V.b (Option.some.inj hp)))) (Zo ?_)));exact ⟨aG.pk [0,1,2,3,4],rfl,P,Q,R,S,H⟩
  rintro _ _ ⟨l,aw,T,p,av,ax,U⟩;refine Zf (zE hp aw (fun ad hp=>?_) (fun ad hp=>?_))
  ·refine Zn (Zb (.b false) rfl (Zf (zV (z5 (zi (zz rfl ZN) ?_)))));cases hp;exact ⟨rfl,(l.pk [])⟩
  ·refine Za2 (ZQ (Zn (Zb _ p (Zb _ T (Ze (Za4 (l.rd0 s_picks.rd) rfl) (Ze (Zeu rfl rfl) (Zf (zE hp rfl (fun ae hp=>?_) (fun ae hp=>?_)))))))))
   ·refine Zn (Zb (.b true) rfl (Zf (zV (z5 (zi (zz rfl ZN) ?_)))));cases hp;exact ⟨rfl,(l.pk [])⟩
   ·refine Za2 (Zn (Zb _ ax (Zb _ T (Zb _ p (Zb _ p (ckk hp fun L hp=>Ze (Zml (E:=e_bool) (z:=x3) (l.rd0 s_picks.rd) rfl rfl rfl L) (Zb _ av (ckk hp fun ah hp=>zK (l.appT (E:=e_bool) (bytes:=1) l.fr (Rd.cutT s_picks.rd L) (l.rd0 s_more.rd) rfl rfl ah) ?_))))))));rintro ab Y ⟨af,_,aP,J⟩;obtain ⟨⟨x11,x12,x13⟩,⟨_,W,ao,C,rfl,aN⟩,hp⟩:=bdk hp fun _=>zb.ok (h:=Y)  (J.sl 1 rfl) (J.may 5 rfl aP:Sl e_bool Y ab ((picks.take x3.toNat)++more));refine Zaq rfl rfl ao ?_;have q:=J.call aN rfl;refine Zb (.tu [C,.n x12,.n x13]) rfl (Ze (Za6 rfl rfl) (Ze (Za6 rfl rfl) (Ze (Za6 rfl rfl) (Zb C rfl (Zb (.n x12) rfl (Zb (.n x13) rfl (Zf (Zn (Zb (.n x13) rfl (Ze (Zbp rfl rfl) (Zb (.b (decide (x13=0))) rfl (zR 4 (fun f k=>W=k∧f 78=.b ((decide (x13=0))&&(decide (x12=x3)))∧f 15=C∧f 9=g) ?_ ?_))))))))))))
    ·rcases bc (decide (x13=0)) with c|c
     ·refine ZC rfl c (Zb (.n x12) rfl (ZC rfl c (Zb _ p (ZC rfl c (Ze (Zbp rfl rfl) (Ze (Zef rfl c rfl) (Zo ?_)))))));exact ⟨rfl,rfl,rfl,U⟩
     ·refine Zt rfl c (Zt rfl c (Zt rfl c (Ze (Zee (w:=(decide (x13=0))&&(decide (x12=x3))) rfl c rfl) (Zo ?_))));exact ⟨rfl,rfl,rfl,U⟩
    rintro _ _ ⟨rfl,az,ay,aA⟩;refine Zb _ az ?_;obtain ⟨t1,aR,hp⟩:=zT hp;refine zR 4 (fun f k=>Own B h k [Za9 aa [v_z_At,v_z_Bits,v_z_Own],eSl Zc e x,eSl Zs A x1,eSl Zc g x2,eSl Zc o x7,Zjk af e_bool ab ((picks.take x3.toNat)++more),eSl Zc C x11]∧f 83=.b t1) ?_ ?_
    ·clear hp;rcases Zaj aR with ⟨d,hp⟩|⟨d,hp⟩
     ·refine ZC rfl d (Zb _ ay (ZC rfl d (Zb _ aA (ZC rfl d ?_))));obtain ⟨x14,⟨_,_,ap,rfl,aO⟩,hp⟩:=bdk hp fun _=>ZY.ok (h:=W)  (q.sl 6 rfl) (q.sl 3 rfl);refine Zaq rfl rfl ap ?_;have aC:=q.call aO rfl;refine Ze (zN (v:=.b t1) rfl d (Eq.trans (b:=V.b x14) rfl (congrArg V.b (Option.some.inj hp)))) (Zo ?_);exact ⟨aC.pk [0,1,2,3,4,5,6],rfl⟩
     ·refine Zt rfl d (Zt rfl d (Zt rfl d (Ze (zB (v:=.b t1) rfl d (Eq.trans (b:=V.b false) rfl (congrArg V.b (Option.some.inj hp)))) (Zo ?_))));exact ⟨q.pk [0,1,2,3,4,5,6],rfl⟩
    rintro _ _ ⟨aD,aB⟩;refine Zb _ aB (Zf (zV (zi (zz rfl ZN) ?_)));cases hp;exact ⟨rfl,(aD.pk [])⟩

end Mu
