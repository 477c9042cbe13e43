/- The code comes to what was worked out. -/
import Derived.Test.YtfdidkebomeiaaaMuDf
import Derived.Test.YtfdidkebomeiaaaMuPa
import Derived.Test.YtfdidkebomeiaaaMuC1
set_option linter.unusedVariables false
set_option linter.unnecessarySimpa false
set_option linter.unusedSimpArgs false
set_option maxHeartbeats 2000000
set_option maxRecDepth 10000
namespace Mu
open Go (IntKind BinOp UnOp)
theorem Zb1.ok {h:Hp}{cells:List Za}{v_cells:V}(s_cells:Sl Zf h v_cells cells) {r:Int×Int×Int×Bool}(hp:Zb1 cells=some r) :
  ∃ u k',Is G 228 [v_cells] h u k'∧V.tu [.n r.1,.n r.2.1,.n r.2.2.1,.b r.2.2.2]=u∧Own (fun r=>r<h.n) h k' []:=by
 refine WC.is (ZaT ZfC ?_);unfold Zb1 at hp;let B:Nat→Prop:=(fun r=>r<h.n);have hO:Own B h h []:=Own.start0 h;refine Zh (Zb (.n 0) rfl (Zb (.n 0) rfl (Zb (.n 0) rfl (Zb (.b false) rfl (Ze (Zh (Zb v_cells rfl ?_)))))));obtain ⟨⟨x,x1⟩,⟨_,_,ai,D,d,rfl,av⟩,hp⟩:=bdk hp fun _=>Za2.ok (h:=h)  (hO.rd0 s_cells.rd);refine Za7 rfl rfl ai ?_;have F:=hO.call av rfl;refine Zb (.tu [D,.n x1]) rfl (Zd (Za3 rfl rfl) (Zd (Za3 rfl rfl) (Zb D rfl (Zb (.n x1) rfl (Ze (Z9 (Zh (Zb D rfl (Zd (Zf1 (n:=(x).length) (F.sl 0 rfl) (F.allLen 1 rfl:(d).length=(x).length) rfl) (Zb (.n 0) rfl (Zk ?_)))))))))));refine Zr (Zai (ZbI hp (fun x2 fr k=>fr 0=v_cells∧fr 20=D∧fr 21=.n (x.length:Int)∧fr 22=.n x2∧Own B h k [eSl eV D d,Zc6 Zy d x]) (fun|.inl _,e,fr,k=>e=(.exit 0)∧Own B h k []|.inr (x3,x4,x5),e,fr,k=>e=.ret∧fr 2=.n x3∧fr 3=.n x4∧fr 4=.n x5∧fr 5=.b true∧Own B h k []) ⟨rfl,rfl,rfl,rfl,(F.pk [0,1])⟩ ?_ ?_))
 ·rintro x2 _ U ⟨E,Y,aa,I,p⟩ _ hp;dsimp only [Zb1.s0] at hp;refine Zh (Zd (zG I aa) (Ze (Z9 (z8 hp rfl (fun ad hp=>?_) (fun ad hp=>?_)))))
  ·refine Zaj (Z9 (Zai (Zh (ckk hp fun f hp=>Zd (ZM (p.sl 0 rfl) Y I (by rw [(p.allLen 1 rfl:(d).length=(x).length)];exact f)) (Zd (zk (p.sl 0 rfl) rfl (by rw [(p.allLen 1 rfl:(d).length=(x).length)];exact Zc f) rfl) (Zb ((gi d x2.toNat)) rfl (Ze (Zh ?_))))))));refine Zb _ E (Zb ((gi d x2.toNat)) rfl ?_);obtain ⟨x6,⟨_,ay,aj,_,rfl,aw⟩,hp⟩:=bdk hp fun _=>Zb7.ok (h:=U)  (p.rd0 s_cells.rd) (p.inn 1 rfl (Zc f):Sl Zy U (gi d x2.toNat) (gi x x2.toNat));refine Za7 rfl rfl aj ?_;have Q:=p.call aw rfl;obtain ⟨⟨x7,x8,x9⟩,⟨_,_,ak,rfl,ax⟩,hp⟩:=bdk hp fun _=>Zbb.ok (h:=ay)  (Q.sl 2 rfl);refine Za7 rfl rfl ak ?_;have R:=Q.call ax rfl;refine Zb (.tu [.ag (Z1.c x7),.ag (Z1.c x8),.b x9]) rfl (Zd (Za3 rfl rfl) (Zd (Za3 rfl rfl) (Zd (Za3 rfl rfl) (Zac (R.alloc (cs:=Z1.c (⟨0,0⟩:Z6)) R.fr) ?_))));rintro _ _ ⟨ab,rfl,_,_,S⟩;refine Zac (S.alloc (cs:=Z1.c (⟨0,0⟩:Z6)) S.fr) ?_;rintro _ _ ⟨aD,rfl,_,_,ar⟩;refine Zac (ar.stb (cs':=Z1.c x7) 3 rfl rfl rfl rfl ⟨rfl,Nat.le_of_ble_eq_true rfl,rfl⟩ rfl) ?_;rintro _ _ ⟨rfl,_,_,au⟩;refine Zac (au.stb (cs':=Z1.c x8) 4 rfl rfl rfl rfl ⟨rfl,Nat.le_of_ble_eq_true rfl,rfl⟩ rfl) ?_;rintro _ y ⟨rfl,_,_,a⟩;refine Zb (.b x9) rfl (Ze (Z9 (Zh (Zb (.b x9) rfl (Zd (ZcX rfl) (Ze (z8 hp rfl (fun ae hp=>?_) (fun ae hp=>?_))))))))
   ·refine Zby (zY (ZaF (Zr (Zaf (ckk hp fun af hp=>Zd (zu I rfl af) (Zb (.n (x2+1)) rfl (Zk ?_)))))));cases hp;exact ⟨rfl,E,Y,aa,rfl,(a.pk [0,1])⟩
   ·refine Zaj (Z9 (Zft ?_));have s:=a.bump 14;have O:=Fresh.start y 14;have X:∀ {i:Nat},h.n≤y.n+i:=Nat.le_trans a.n (Nat.le_add_right _ _);refine ZaJ ((gi d x2.toNat)) rfl (zt (Zbi (r:=ab) (o:=0) rfl rfl) (zt (Zay (s.box 3 rfl) rfl rfl) (ckk hp fun K hp=>zt (ZM (s.inn 1 rfl (Zc f):Sl Zy (y.bump 14) (gi d x2.toNat) (gi x x2.toNat)) rfl rfl K) (zt (Zez (s.inn 1 rfl (Zc f):Sl Zy (y.bump 14) (gi d x2.toNat) (gi x x2.toNat)) rfl (Zc K)) (ZaJ ((gi d x2.toNat)) rfl (zt (Zbi (r:=aD) (o:=0) rfl rfl) (zt (Zay (s.box 4 rfl) rfl rfl) (ckk hp fun L hp=>zt (ZM (s.inn 1 rfl (Zc f):Sl Zy (y.bump 14) (gi d x2.toNat) (gi x x2.toNat)) rfl rfl L) (zt (Zez (s.inn 1 rfl (Zc f):Sl Zy (y.bump 14) (gi d x2.toNat) (gi x x2.toNat)) rfl (Zc L)) (ZdN (s.alloc (cs:=Zy.c (⟨0,0⟩:ZC)) ⟨O.m 10 (by decide) (by decide),X⟩) ?_))))))))));rintro _ _ _ ⟨J,rfl,W,am,ao⟩;have an:=O.kept am (by decide);refine ZdN (ao.alloc (cs:=Zy.c (⟨0,0⟩:ZC)) ⟨an.m 11 (by decide) (by decide),X⟩) ?_;rintro _ _ _ ⟨ac,rfl,_,_,ap⟩;refine ZdN (ap.stb (cs':=Zy.c (gi (gi x x2.toNat) (x7.At:Int).toNat)) 5 rfl rfl rfl rfl ⟨rfl,Nat.le_of_ble_eq_true rfl,rfl⟩ rfl) ?_;rintro _ _ _ ⟨rfl,_,_,aq⟩;refine ZdN (aq.stb (cs':=Zy.c (gi (gi x x2.toNat) (x8.At:Int).toNat)) 6 rfl rfl rfl rfl ⟨rfl,Nat.le_of_ble_eq_true rfl,rfl⟩ rfl) ?_;rintro _ T _ ⟨rfl,_,_,g⟩;refine Zc7 ?_;refine And.intro ?_ ?_
    ·intro q hq;simp only [List.mem_cons,List.not_mem_nil,or_false] at hq;rcases hq with rfl|rfl|rfl|rfl|rfl|rfl|rfl|rfl|rfl|rfl|rfl|rfl|rfl|rfl|rfl
     ·refine Zam ?_ ?_
      ·exact nofun
      ·exact nofun
     ·refine Zam ?_ ?_
      ·exact nofun
      ·exact nofun
     ·refine Zam ?_ ?_
      ·exact nofun
      ·exact nofun
     ·refine Zam ?_ ?_
      ·exact nofun
      ·exact nofun
     ·refine Zam ?_ ?_
      ·exact nofun
      ·exact (fun _ hm=>Nat.lt_irrefl _ (Nat.lt_of_lt_of_le (a.ltAt 3 rfl _ (tch (ZbP hm) rfl)) (Nat.le_add_right _ _)))
     ·refine Zam ?_ ?_
      ·exact nofun
      ·exact (fun _ hm=>Nat.lt_irrefl _ (Nat.lt_of_lt_of_le (a.ltAt 1 rfl _ (ZgH (j:=x2.toNat) (by have q:(d).length=(x).length:=a.allLen 1 rfl;have:=f;omega) (ZbX (tch (ZbP hm) rfl)))) (Nat.le_add_right _ _)))
     ·refine Zam ?_ ?_
      ·exact nofun
      ·exact (fun _ hm=>Nat.lt_irrefl _ (Nat.lt_of_lt_of_le (a.ltAt 4 rfl _ (tch (ZbP hm) rfl)) (Nat.le_add_right _ _)))
     ·refine Zam ?_ ?_
      ·exact nofun
      ·exact (fun _ hm=>Nat.lt_irrefl _ (Nat.lt_of_lt_of_le (a.ltAt 1 rfl _ (ZgH (j:=x2.toNat) (by have q:(d).length=(x).length:=a.allLen 1 rfl;have:=f;omega) (ZbX (tch (ZbP hm) rfl)))) (Nat.le_add_right _ _)))
     ·refine Zam ?_ ?_
      ·exact nofun
      ·exact (fun _ hm=>Nat.lt_irrefl _ (Nat.lt_of_lt_of_le (a.ltAt 3 rfl _ (tch (ZbP hm) rfl)) (Nat.le_add_right _ _)))
     ·refine Zam ?_ ?_
      ·exact nofun
      ·exact (fun _ hm=>Nat.lt_irrefl _ (Nat.lt_of_lt_of_le (a.ltAt 1 rfl _ (ZgH (j:=x2.toNat) (by have q:(d).length=(x).length:=a.allLen 1 rfl;have:=f;omega) (ZbX (tch (ZbP hm) rfl)))) (Nat.le_add_right _ _)))
     ·refine Zam ?_ ?_
      ·exact nofun
      ·exact (fun _ hm=>Nat.lt_irrefl _ (Nat.lt_of_lt_of_le (a.ltAt 4 rfl _ (tch (ZbP hm) rfl)) (Nat.le_add_right _ _)))
     ·refine Zam ?_ ?_
      ·exact nofun
      ·exact (fun _ hm=>Nat.lt_irrefl _ (Nat.lt_of_lt_of_le (a.ltAt 1 rfl _ (ZgH (j:=x2.toNat) (by have q:(d).length=(x).length:=a.allLen 1 rfl;have:=f;omega) (ZbX (tch (ZbP hm) rfl)))) (Nat.le_add_right _ _)))
     ·refine Zam ?_ ?_
      ·exact (fun _=>List.not_mem_nil)
      ·exact (fun _=>List.not_mem_nil)
     ·refine Zk2 ?_ ?_ ?_
      ·exact (fun r h1 h2=>by have h3:=(a.ltAt 4 rfl _ (tch (ZbP h1) rfl));have h4:=(ZlX W (tch (Zlb h2) rfl));omega)
      ·exact nofun
      ·exact (fun _ hm=>Nat.lt_irrefl _ (Nat.lt_of_lt_of_le (a.ltAt 4 rfl _ (tch (ZbP hm) rfl)) (Nat.le_add_right _ _)))
     ·refine Zk2 ?_ ?_ ?_
      ·exact (fun r h1 h2=>by have h3:=(a.ltAt 1 rfl _ (ZgH (j:=x2.toNat) (by have q:(d).length=(x).length:=a.allLen 1 rfl;have:=f;omega) (ZbX (tch (ZbP h1) rfl))));have h4:=(ZlX W (tch (Zlb h2) rfl));omega)
      ·exact nofun
      ·exact (fun _ hm=>Nat.lt_irrefl _ (Nat.lt_of_lt_of_le (a.ltAt 1 rfl _ (ZgH (j:=x2.toNat) (by have q:(d).length=(x).length:=a.allLen 1 rfl;have:=f;omega) (ZbX (tch (ZbP hm) rfl)))) (Nat.le_add_right _ _)))
    refine Zr (Z9 (Zft ?_));have l:=g.bump 28;have w:=Fresh.start T 28;refine ZaJ _ E (zt (Zbi (r:=J) (o:=0) rfl rfl) (zt (Zay (l.box 5 rfl) rfl rfl) (zt (Zbi (r:=J) (o:=0) rfl rfl) (zt (Zay (l.box 5 rfl) rfl rfl) (ckk hp fun A hp=>zt (ZM (l.rd0 s_cells.rd) rfl rfl A) (zt (Zax (l.rd0 s_cells.rd) (Zc A) rfl rfl) (ckk hp fun M hp=>zt (Zbl (l.rd0 s_cells.rd) (Zc A) rfl rfl M rfl) (zt (zk (l.rd0 s_cells.rd) rfl (Zc A) (zx M)) (zt (Zbi (r:=J) (o:=0) rfl rfl) (zt (Zay (l.box 5 rfl) rfl rfl) (zt (Zbi (r:=ab) (o:=0) rfl rfl) ?_)))))))))));refine zt (Zay (l.box 3 rfl) rfl rfl) (ckk hp fun ah hp=>zt (ZmI rfl ah) ?_);obtain ⟨x10,⟨_,_,al,rfl,v⟩,hp⟩:=bdk hp fun _=>Za4.ok (h:=(T.bump 28))  ;refine ZgM rfl rfl al ?_;have t:=l.call v rfl;refine ZaJ _ E (zt (Zbi (r:=ac) (o:=0) rfl rfl) (zt (Zay (t.box 6 rfl) rfl rfl) (zt (Zbi (r:=ac) (o:=0) rfl rfl) (zt (Zay (t.box 6 rfl) rfl rfl) (ckk hp fun C hp=>zt (ZM (t.rd0 s_cells.rd) rfl rfl C) (zt (Zax (t.rd0 s_cells.rd) (Zc C) rfl rfl) (ckk hp fun N hp=>zt (Zbl (t.rd0 s_cells.rd) (Zc C) rfl rfl N rfl) (zt (zk (t.rd0 s_cells.rd) rfl (Zc C) (zx N)) (ZaJ (.n (((gi cells ((gi (gi x x2.toNat) (x7.At:Int).toNat).Cell:Int).toNat).Next).get ((gi (gi x x2.toNat) (x7.At:Int).toNat).Dir))) rfl (ZaJ (.n x10) rfl (ZaJ (.n (((gi cells ((gi (gi x x2.toNat) (x8.At:Int).toNat).Cell:Int).toNat).Next).get ((gi (gi x x2.toNat) (x8.At:Int).toNat).Dir))) rfl ?_)))))))))));refine ZaJ (.b true) rfl (Zc7 ?_);refine And.intro ?_ ?_
    ·intro q hq;simp only [List.mem_cons,List.not_mem_nil,or_false] at hq;rcases hq with rfl|rfl|rfl|rfl|rfl|rfl|rfl|rfl|rfl|rfl|rfl|rfl|rfl|rfl|rfl|rfl|rfl|rfl|rfl|rfl|rfl|rfl|rfl|rfl|rfl|rfl|rfl|rfl|rfl|rfl
     ·refine Zam ?_ ?_
      ·exact nofun
      ·exact nofun
     ·refine Zam ?_ ?_
      ·exact nofun
      ·exact nofun
     ·refine Zam ?_ ?_
      ·exact nofun
      ·exact nofun
     ·refine Zam ?_ ?_
      ·exact nofun
      ·exact nofun
     ·refine Zam ?_ ?_
      ·exact nofun
      ·exact nofun
     ·refine Zam ?_ ?_
      ·exact nofun
      ·exact nofun
     ·refine Zam ?_ ?_
      ·exact nofun
      ·exact nofun
     ·refine Zam ?_ ?_
      ·exact nofun
      ·exact nofun
     ·refine Zit rfl rfl ?_
      ·exact (fun r hm hc=>hc (v.base r (Nat.lt_of_lt_of_le (g.ltAt 5 rfl _ (tch (ZbP hm) rfl)) (Nat.le_trans (Nat.le_add_right _ _) w.n))))
     ·refine Zit rfl rfl ?_
      ·exact (fun r hm hc=>hc (v.base r (Nat.lt_of_lt_of_le (g.ltAt 5 rfl _ (tch (ZbP hm) rfl)) (Nat.le_trans (Nat.le_add_right _ _) w.n))))
     ·refine Zit rfl rfl ?_
      ·exact (fun r hm hc=>hc (v.base r (Nat.lt_of_lt_of_le (Nat.lt_of_lt_of_le (g.lo _ (Rd.B s_cells.rd g.lo (Zc A) _ (ZbX (tch (ZbP hm) rfl)))) g.n) (Nat.le_trans (Nat.le_add_right _ _) w.n))))
     ·refine Zam ?_ ?_
      ·exact nofun
      ·exact nofun
     ·refine Zam ?_ ?_
      ·exact nofun
      ·exact nofun
     ·refine Zam ?_ ?_
      ·exact nofun
      ·exact nofun
     ·refine Zam ?_ ?_
      ·exact nofun
      ·exact nofun
     ·refine Zam ?_ ?_
      ·exact nofun
      ·exact nofun
     ·refine ZfE rfl ?_
      ·exact (fun r hm hc=>hc (v.base r (Nat.lt_of_lt_of_le (g.ltAt 6 rfl _ (tch (ZbP hm) rfl)) (Nat.le_trans (Nat.le_add_right _ _) w.n))))
     ·refine Zam ?_ ?_
      ·exact nofun
      ·exact nofun
     ·refine Zam ?_ ?_
      ·exact nofun
      ·exact nofun
     ·refine Zam ?_ ?_
      ·exact nofun
      ·exact nofun
     ·refine Zam ?_ ?_
      ·exact nofun
      ·exact nofun
     ·refine Zam ?_ ?_
      ·exact nofun
      ·exact nofun
     ·refine ZfE rfl ?_
      ·exact (fun r hm hc=>hc (v.base r (Nat.lt_of_lt_of_le (g.ltAt 6 rfl _ (tch (ZbP hm) rfl)) (Nat.le_trans (Nat.le_add_right _ _) w.n))))
     ·refine Zam ?_ ?_
      ·exact nofun
      ·exact nofun
     ·refine Zam ?_ ?_
      ·exact nofun
      ·exact nofun
     ·refine Zam ?_ ?_
      ·exact nofun
      ·exact nofun
     ·refine Zam ?_ ?_
      ·exact nofun
      ·exact nofun
     ·refine Zam ?_ ?_
      ·exact nofun
      ·exact nofun
     ·refine Zam ?_ ?_
      ·exact nofun
      ·exact nofun
     ·refine ZfE rfl ?_
      ·exact (fun r hm hc=>hc (v.base r (Nat.lt_of_lt_of_le (Nat.lt_of_lt_of_le (g.lo _ (Rd.B s_cells.rd g.lo (Zc C) _ (ZbX (tch (ZbP hm) rfl)))) g.n) (Nat.le_trans (Nat.le_add_right _ _) w.n))))
    refine Zr (zZ (Zbd (ZX ?_)));cases hp;exact ⟨nofun,rfl,rfl,rfl,rfl,rfl,(t.pk [])⟩
  ·refine Zby (zY ?_);cases hp;exact ⟨nofun,rfl,(p.pk [])⟩
 rintro (_|⟨x3,x4,x5⟩) hp _ _ _ P
 ·obtain ⟨rfl,H⟩:=P;refine ZaF (Zr (Zh (Zb (.n 0) rfl (Zb (.n 0) rfl (Zb (.n 0) rfl (Zb (.b false) rfl (Ze (zZ (zj (zz rfl (zz rfl (zz rfl (zz rfl ZD)))) ?_)))))))));cases hp;exact ⟨rfl,(H.pk [])⟩
 ·obtain ⟨rfl,az,aA,aB,aC,H⟩:=P;refine Zbd (ZX (zj (zz az (zz aA (zz aB (zz aC ZD)))) ?_));cases hp;exact ⟨rfl,(H.pk [])⟩

theorem Zck.ok {h:Hp}{d:Int}   {r:Bool}(hp:Zck d=some r) :
  ∃ u k',Is G 229 [.n d] h u k'∧V.b r=u∧Own (fun r=>r<h.n) h k' []:=by
 refine WC.is (ZaT Zec ?_);unfold Zck at hp;let B:Nat→Prop:=(fun r=>r<h.n);have hO:Own B h h []:=Own.start0 h;refine Zh (Zb (.b false) rfl (Ze (Zh (Zb (.n d) rfl (Zd (ZbL rfl rfl) (Zb (.b (decide (d=0))) rfl (Zaq 3 (fun f k=>h=k∧f 8=.b ((decide (d=0))||(decide (d=2)))) ?_ ?_)))))))
 ·rcases bc (decide (d=0)) with a|a
  ·refine Zp rfl a (Zp rfl a (Zd (Zcn (w:=(decide (d=0))||(decide (d=2))) rfl a rfl) (Zk ?_)));exact ⟨rfl,rfl⟩
  ·refine Z5 rfl a (Zb (.n d) rfl (Z5 rfl a (Zd (ZbL rfl rfl) (Zd (Zco rfl a rfl) (Zk ?_)))));exact ⟨rfl,rfl⟩
 rintro _ _ ⟨rfl,c⟩;refine Zb _ c (Ze (zZ (zj (zz rfl ZD) ?_)));cases hp;exact ⟨rfl,(hO.pk [])⟩

theorem ZcT.ok {h:Hp}{g:Zbg}{r_g:Nat}{v_g_cells:V}{w_g:Bool}(b_g:h.m r_g=some (.cells w_g [v_g_cells])) (s_g_cells:Sl Zf h v_g_cells g.cells) {r:Int}(hp:ZcT g=some r) :
  ∃ u k',Is G 55 [.p r_g 0] h u k'∧V.n r=u∧Own (fun r=>r<h.n) h k' []:=by
 refine WC.is (ZaT Zfv ?_);unfold ZcT at hp;let B:Nat→Prop:=(fun r=>r<h.n);have hO:Own B h h []:=Own.start0 h;refine Zh (Zb (.n 0) rfl (Ze (Z9 (Zh (Zb (.p r_g 0) rfl (Zd (ZmG rfl rfl) (Ze (Zmm rfl rfl (Zc8 ?_)))))))));refine Zr (Zh (Zb (.p r_g 0) rfl (Zd (Zgv rfl) (Zd (Zbi (r:=r_g) (o:=0) rfl rfl) (Zd (Zay (hO.rdB0 (RdB.of b_g)).choose_spec rfl rfl) (Zd (Zaz (hO.rd0 s_g_cells.rd) rfl) (Zb (.n (g.cells.length:Int)) rfl (Ze (zZ (zj (zz rfl ZD) ?_))))))))));cases hp;exact ⟨rfl,(hO.pk [])⟩

theorem Zcw.ok {h:Hp}{g:Zbg}{v:Int}{d:Int}{r_g:Nat}{v_g_cells:V}{w_g:Bool}(b_g:h.m r_g=some (.cells w_g [v_g_cells])) (s_g_cells:Sl Zf h v_g_cells g.cells) {r:Bool}(hp:Zcw g v d=some r) :
  ∃ u k',Is G 75 [.p r_g 0,.n v,.n d] h u k'∧V.b r=u∧Own (fun r=>r<h.n) h k' []:=by
 refine WC.is (ZaT Zf9 ?_);unfold Zcw at hp;let B:Nat→Prop:=(fun r=>r<h.n);have hO:Own B h h []:=Own.start0 h;refine Zh (Zb (.b false) rfl (Ze (Zh (Zb (.n v) rfl (Zd (ZcW rfl rfl) (Zb (.b (decide (0≤v))) rfl ?_))))));obtain ⟨t,D,hp⟩:=Zbj hp;refine Zaq 5 (fun f k=>Own B h k []∧f 14=.b t∧f 2=.n d) ?_ ?_
 ·clear hp;rcases Zbt D with ⟨a,hp⟩|⟨a,hp⟩
  ·refine Z5 rfl a (Zb (.n v) rfl (Z5 rfl a (Zb (.p r_g 0) rfl (Z5 rfl a ?_))));obtain ⟨x,⟨_,_,i,rfl,A⟩,hp⟩:=bdk hp fun _=>ZcT.ok (h:=h)  (hO.rdB0 (RdB.of b_g)).choose_spec (hO.rd0 s_g_cells.rd);refine Za7 rfl rfl i ?_;have s:=hO.call A rfl;refine Z5 rfl a (Zd (zG rfl rfl) (Zd (Zbh (v:=.b t) rfl a (Eq.trans (b:=V.b (decide (v<x))) rfl (congrArg V.b (Option.some.inj hp)))) (Zk ?_)));exact ⟨s.pk [],rfl,rfl⟩
  ·refine Zp rfl a (Zp rfl a (Zp rfl a (Zp rfl a (Zd (Zba (v:=.b t) rfl a (Eq.trans (b:=V.b false) rfl (congrArg V.b (Option.some.inj hp)))) (Zk ?_)))));exact ⟨hO.pk [],rfl,rfl⟩
 rintro _ F ⟨e,l,o⟩;refine Zb _ l ?_;obtain ⟨t1,E,hp⟩:=Zbj hp;refine Zaq 3 (fun f k=>Own B h k []∧f 18=.b t1) ?_ ?_
 ·clear hp;rcases Zbt E with ⟨c,hp⟩|⟨c,hp⟩
  ·refine Z5 rfl c (Zb _ o (Z5 rfl c ?_));obtain ⟨x1,⟨_,_,j,rfl,C⟩,hp⟩:=bdk hp fun _=>Zbn.ok (h:=F)  ;refine Za7 rfl rfl j ?_;have w:=e.call C rfl;refine Zd (Zbh (v:=.b t1) rfl c (Eq.trans (b:=V.b x1) rfl (congrArg V.b (Option.some.inj hp)))) (Zk ?_);exact ⟨w.pk [],rfl⟩
  ·refine Zp rfl c (Zp rfl c (Zd (Zba (v:=.b t1) rfl c (Eq.trans (b:=V.b false) rfl (congrArg V.b (Option.some.inj hp)))) (Zk ?_)));exact ⟨e.pk [],rfl⟩
 rintro _ _ ⟨y,q⟩;refine Zb _ q (Ze (zZ (zj (zz rfl ZD) ?_)));cases hp;exact ⟨rfl,(y.pk [])⟩

theorem ZcC.ok {h:Hp}{g:Zbg}{v:Int}{d:Int}{w:Int}{owner:Int}{r_g:Nat}{v_g_cells:V}(H:Own (Bm h [Zb4 r_g [v_g_cells],eSl Zf v_g_cells g.cells]) h h [Zb4 r_g [v_g_cells],eSl Zf v_g_cells g.cells]) {r:Zbg}(hp:ZcC g v d w owner=some r) :
  ∃ u k',Is G 76 [.p r_g 0,.n v,.n d,.n w,.n owner] h u k'∧∃ C,V.tu []=u∧Own (Bm h [Zb4 r_g [v_g_cells],eSl Zf v_g_cells g.cells]) h k' [Zb4 r_g [C],eSl Zf C r.cells]:=by
 refine WC.is (ZaT Zfw ?_);unfold ZcC at hp;let B:Nat→Prop:=(Bm h [Zb4 r_g [v_g_cells],eSl Zf v_g_cells g.cells]);have hO:Own B h h [Zb4 r_g [v_g_cells],eSl Zf v_g_cells g.cells]:=H;refine Zh (Zb (.n d) rfl ?_);obtain ⟨x,⟨_,_,D,rfl,J⟩,hp⟩:=bdk hp fun _=>Za4.ok (h:=h)  ;refine Za7 rfl rfl D ?_;have E:=hO.call J rfl;refine Zb (.n x) rfl (Ze (Z9 (Zft ?_)));have c:=E.bump 22;refine ZaJ (.p r_g 0) rfl (zt (Zgv rfl) (zt (Zbi (r:=r_g) (o:=0) rfl rfl) (zt (Zay (c.box 0 rfl) rfl rfl) (ZaJ (.n v) rfl (ZaJ (.n d) rfl (ZaJ (.p r_g 0) rfl (zt (Zgv rfl) (zt (Zbi (r:=r_g) (o:=0) rfl rfl) (zt (Zay (c.box 0 rfl) rfl rfl) (ZaJ (.n v) rfl (ZaJ (.n d) rfl (ZaJ (.n w) rfl (ZaJ (.n owner) rfl ?_)))))))))))));refine ckk hp fun f hp=>zt (ZM (c.sl 1 rfl) rfl rfl f) (zt (Zax (c.sl 1 rfl) (Zc f) rfl rfl) (ckk hp fun a hp=>zt (Zbl (c.sl 1 rfl) (Zc f) rfl rfl a rfl) (ZdN (c.ste (y:=({ gi g.cells v.toNat with Next:=((gi g.cells v.toNat).Next).set d w })) 1 rfl rfl (Zc f) rfl rfl ⟨rfl,(by have:=a;exact (show 0+d.toNat*1+1≤8 by omega)),rfl⟩ (Zc3 a)) ?_)));rintro _ s _ ⟨rfl,_,_,l⟩;refine ckk hp fun i hp=>zt (ZM (l.sl 1 rfl:Sl Zf s v_g_cells (g.cells.set v.toNat ({ gi g.cells v.toNat with Next:=((gi g.cells v.toNat).Next).set d w }))) rfl rfl i) (zt (Zax (l.sl 1 rfl:Sl Zf s v_g_cells (g.cells.set v.toNat ({ gi g.cells v.toNat with Next:=((gi g.cells v.toNat).Next).set d w }))) (Zc i) rfl rfl) (zt (Zbl (l.sl 1 rfl:Sl Zf s v_g_cells (g.cells.set v.toNat ({ gi g.cells v.toNat with Next:=((gi g.cells v.toNat).Next).set d w }))) (Zc i) rfl rfl a rfl) (ZdN (l.ste (y:=({ gi (g.cells.set v.toNat ({ gi g.cells v.toNat with Next:=((gi g.cells v.toNat).Next).set d w })) v.toNat with Owner:=((gi (g.cells.set v.toNat ({ gi g.cells v.toNat with Next:=((gi g.cells v.toNat).Next).set d w })) v.toNat).Owner).set d owner })) 1 rfl rfl (Zc i) rfl rfl ⟨rfl,(by have:=a;exact (show 4+d.toNat*1+1≤8 by omega)),rfl⟩ (ZcE a)) ?_)));rintro _ t _ ⟨rfl,_,_,F⟩;refine Zc7 ?_;refine And.intro ?_ ?_
 ·intro q hq;simp only [List.mem_cons,List.not_mem_nil,or_false] at hq;rcases hq with rfl
  ·refine Zam ?_ ?_
   ·exact nofun
   ·exact nofun
 refine Zr (Zft ?_);have e:=F.bump 22;refine ZaJ (.p r_g 0) rfl (zt (Zgv rfl) (zt (Zbi (r:=r_g) (o:=0) rfl rfl) (zt (Zay (e.box 0 rfl) rfl rfl) (ZaJ (.n w) rfl (ZaJ (.n x) rfl (ZaJ (.p r_g 0) rfl (zt (Zgv rfl) (zt (Zbi (r:=r_g) (o:=0) rfl rfl) (zt (Zay (e.box 0 rfl) rfl rfl) (ZaJ (.n w) rfl (ZaJ (.n x) rfl (ZaJ (.n v) rfl (ZaJ (.n owner) rfl ?_)))))))))))));refine ckk hp fun j hp=>zt (ZM (e.sl 1 rfl:Sl Zf (t.bump 22) v_g_cells ((g.cells.set v.toNat ({ gi g.cells v.toNat with Next:=((gi g.cells v.toNat).Next).set d w })).set v.toNat ({ gi (g.cells.set v.toNat ({ gi g.cells v.toNat with Next:=((gi g.cells v.toNat).Next).set d w })) v.toNat with Owner:=((gi (g.cells.set v.toNat ({ gi g.cells v.toNat with Next:=((gi g.cells v.toNat).Next).set d w })) v.toNat).Owner).set d owner }))) rfl rfl j) (zt (Zax (e.sl 1 rfl:Sl Zf (t.bump 22) v_g_cells ((g.cells.set v.toNat ({ gi g.cells v.toNat with Next:=((gi g.cells v.toNat).Next).set d w })).set v.toNat ({ gi (g.cells.set v.toNat ({ gi g.cells v.toNat with Next:=((gi g.cells v.toNat).Next).set d w })) v.toNat with Owner:=((gi (g.cells.set v.toNat ({ gi g.cells v.toNat with Next:=((gi g.cells v.toNat).Next).set d w })) v.toNat).Owner).set d owner }))) (Zc j) rfl rfl) (ckk hp fun b hp=>zt (Zbl (e.sl 1 rfl:Sl Zf (t.bump 22) v_g_cells ((g.cells.set v.toNat ({ gi g.cells v.toNat with Next:=((gi g.cells v.toNat).Next).set d w })).set v.toNat ({ gi (g.cells.set v.toNat ({ gi g.cells v.toNat with Next:=((gi g.cells v.toNat).Next).set d w })) v.toNat with Owner:=((gi (g.cells.set v.toNat ({ gi g.cells v.toNat with Next:=((gi g.cells v.toNat).Next).set d w })) v.toNat).Owner).set d owner }))) (Zc j) rfl rfl b rfl) (ZdN (e.ste (y:=({ gi ((g.cells.set v.toNat ({ gi g.cells v.toNat with Next:=((gi g.cells v.toNat).Next).set d w })).set v.toNat ({ gi (g.cells.set v.toNat ({ gi g.cells v.toNat with Next:=((gi g.cells v.toNat).Next).set d w })) v.toNat with Owner:=((gi (g.cells.set v.toNat ({ gi g.cells v.toNat with Next:=((gi g.cells v.toNat).Next).set d w })) v.toNat).Owner).set d owner })) w.toNat with Next:=((gi ((g.cells.set v.toNat ({ gi g.cells v.toNat with Next:=((gi g.cells v.toNat).Next).set d w })).set v.toNat ({ gi (g.cells.set v.toNat ({ gi g.cells v.toNat with Next:=((gi g.cells v.toNat).Next).set d w })) v.toNat with Owner:=((gi (g.cells.set v.toNat ({ gi g.cells v.toNat with Next:=((gi g.cells v.toNat).Next).set d w })) v.toNat).Owner).set d owner })) w.toNat).Next).set x v })) 1 rfl rfl (Zc j) rfl rfl ⟨rfl,(by have:=b;exact (show 0+x.toNat*1+1≤8 by omega)),rfl⟩ (Zc3 b)) ?_)));rintro _ A _ ⟨rfl,_,_,m⟩;refine ckk hp fun k hp=>zt (ZM (m.sl 1 rfl:Sl Zf A v_g_cells (((g.cells.set v.toNat ({ gi g.cells v.toNat with Next:=((gi g.cells v.toNat).Next).set d w })).set v.toNat ({ gi (g.cells.set v.toNat ({ gi g.cells v.toNat with Next:=((gi g.cells v.toNat).Next).set d w })) v.toNat with Owner:=((gi (g.cells.set v.toNat ({ gi g.cells v.toNat with Next:=((gi g.cells v.toNat).Next).set d w })) v.toNat).Owner).set d owner })).set w.toNat ({ gi ((g.cells.set v.toNat ({ gi g.cells v.toNat with Next:=((gi g.cells v.toNat).Next).set d w })).set v.toNat ({ gi (g.cells.set v.toNat ({ gi g.cells v.toNat with Next:=((gi g.cells v.toNat).Next).set d w })) v.toNat with Owner:=((gi (g.cells.set v.toNat ({ gi g.cells v.toNat with Next:=((gi g.cells v.toNat).Next).set d w })) v.toNat).Owner).set d owner })) w.toNat with Next:=((gi ((g.cells.set v.toNat ({ gi g.cells v.toNat with Next:=((gi g.cells v.toNat).Next).set d w })).set v.toNat ({ gi (g.cells.set v.toNat ({ gi g.cells v.toNat with Next:=((gi g.cells v.toNat).Next).set d w })) v.toNat with Owner:=((gi (g.cells.set v.toNat ({ gi g.cells v.toNat with Next:=((gi g.cells v.toNat).Next).set d w })) v.toNat).Owner).set d owner })) w.toNat).Next).set x v }))) rfl rfl k) (zt (Zax (m.sl 1 rfl:Sl Zf A v_g_cells (((g.cells.set v.toNat ({ gi g.cells v.toNat with Next:=((gi g.cells v.toNat).Next).set d w })).set v.toNat ({ gi (g.cells.set v.toNat ({ gi g.cells v.toNat with Next:=((gi g.cells v.toNat).Next).set d w })) v.toNat with Owner:=((gi (g.cells.set v.toNat ({ gi g.cells v.toNat with Next:=((gi g.cells v.toNat).Next).set d w })) v.toNat).Owner).set d owner })).set w.toNat ({ gi ((g.cells.set v.toNat ({ gi g.cells v.toNat with Next:=((gi g.cells v.toNat).Next).set d w })).set v.toNat ({ gi (g.cells.set v.toNat ({ gi g.cells v.toNat with Next:=((gi g.cells v.toNat).Next).set d w })) v.toNat with Owner:=((gi (g.cells.set v.toNat ({ gi g.cells v.toNat with Next:=((gi g.cells v.toNat).Next).set d w })) v.toNat).Owner).set d owner })) w.toNat with Next:=((gi ((g.cells.set v.toNat ({ gi g.cells v.toNat with Next:=((gi g.cells v.toNat).Next).set d w })).set v.toNat ({ gi (g.cells.set v.toNat ({ gi g.cells v.toNat with Next:=((gi g.cells v.toNat).Next).set d w })) v.toNat with Owner:=((gi (g.cells.set v.toNat ({ gi g.cells v.toNat with Next:=((gi g.cells v.toNat).Next).set d w })) v.toNat).Owner).set d owner })) w.toNat).Next).set x v }))) (Zc k) rfl rfl) (zt (Zbl (m.sl 1 rfl:Sl Zf A v_g_cells (((g.cells.set v.toNat ({ gi g.cells v.toNat with Next:=((gi g.cells v.toNat).Next).set d w })).set v.toNat ({ gi (g.cells.set v.toNat ({ gi g.cells v.toNat with Next:=((gi g.cells v.toNat).Next).set d w })) v.toNat with Owner:=((gi (g.cells.set v.toNat ({ gi g.cells v.toNat with Next:=((gi g.cells v.toNat).Next).set d w })) v.toNat).Owner).set d owner })).set w.toNat ({ gi ((g.cells.set v.toNat ({ gi g.cells v.toNat with Next:=((gi g.cells v.toNat).Next).set d w })).set v.toNat ({ gi (g.cells.set v.toNat ({ gi g.cells v.toNat with Next:=((gi g.cells v.toNat).Next).set d w })) v.toNat with Owner:=((gi (g.cells.set v.toNat ({ gi g.cells v.toNat with Next:=((gi g.cells v.toNat).Next).set d w })) v.toNat).Owner).set d owner })) w.toNat with Next:=((gi ((g.cells.set v.toNat ({ gi g.cells v.toNat with Next:=((gi g.cells v.toNat).Next).set d w })).set v.toNat ({ gi (g.cells.set v.toNat ({ gi g.cells v.toNat with Next:=((gi g.cells v.toNat).Next).set d w })) v.toNat with Owner:=((gi (g.cells.set v.toNat ({ gi g.cells v.toNat with Next:=((gi g.cells v.toNat).Next).set d w })) v.toNat).Owner).set d owner })) w.toNat).Next).set x v }))) (Zc k) rfl rfl b rfl) (ZdN (m.ste (y:=({ gi (((g.cells.set v.toNat ({ gi g.cells v.toNat with Next:=((gi g.cells v.toNat).Next).set d w })).set v.toNat ({ gi (g.cells.set v.toNat ({ gi g.cells v.toNat with Next:=((gi g.cells v.toNat).Next).set d w })) v.toNat with Owner:=((gi (g.cells.set v.toNat ({ gi g.cells v.toNat with Next:=((gi g.cells v.toNat).Next).set d w })) v.toNat).Owner).set d owner })).set w.toNat ({ gi ((g.cells.set v.toNat ({ gi g.cells v.toNat with Next:=((gi g.cells v.toNat).Next).set d w })).set v.toNat ({ gi (g.cells.set v.toNat ({ gi g.cells v.toNat with Next:=((gi g.cells v.toNat).Next).set d w })) v.toNat with Owner:=((gi (g.cells.set v.toNat ({ gi g.cells v.toNat with Next:=((gi g.cells v.toNat).Next).set d w })) v.toNat).Owner).set d owner })) w.toNat with Next:=((gi ((g.cells.set v.toNat ({ gi g.cells v.toNat with Next:=((gi g.cells v.toNat).Next).set d w })).set v.toNat ({ gi (g.cells.set v.toNat ({ gi g.cells v.toNat with Next:=((gi g.cells v.toNat).Next).set d w })) v.toNat with Owner:=((gi (g.cells.set v.toNat ({ gi g.cells v.toNat with Next:=((gi g.cells v.toNat).Next).set d w })) v.toNat).Owner).set d owner })) w.toNat).Next).set x v })) w.toNat with Owner:=((gi (((g.cells.set v.toNat ({ gi g.cells v.toNat with Next:=((gi g.cells v.toNat).Next).set d w })).set v.toNat ({ gi (g.cells.set v.toNat ({ gi g.cells v.toNat with Next:=((gi g.cells v.toNat).Next).set d w })) v.toNat with Owner:=((gi (g.cells.set v.toNat ({ gi g.cells v.toNat with Next:=((gi g.cells v.toNat).Next).set d w })) v.toNat).Owner).set d owner })).set w.toNat ({ gi ((g.cells.set v.toNat ({ gi g.cells v.toNat with Next:=((gi g.cells v.toNat).Next).set d w })).set v.toNat ({ gi (g.cells.set v.toNat ({ gi g.cells v.toNat with Next:=((gi g.cells v.toNat).Next).set d w })) v.toNat with Owner:=((gi (g.cells.set v.toNat ({ gi g.cells v.toNat with Next:=((gi g.cells v.toNat).Next).set d w })) v.toNat).Owner).set d owner })) w.toNat with Next:=((gi ((g.cells.set v.toNat ({ gi g.cells v.toNat with Next:=((gi g.cells v.toNat).Next).set d w })).set v.toNat ({ gi (g.cells.set v.toNat ({ gi g.cells v.toNat with Next:=((gi g.cells v.toNat).Next).set d w })) v.toNat with Owner:=((gi (g.cells.set v.toNat ({ gi g.cells v.toNat with Next:=((gi g.cells v.toNat).Next).set d w })) v.toNat).Owner).set d owner })) w.toNat).Next).set x v })) w.toNat).Owner).set x owner })) 1 rfl rfl (Zc k) rfl rfl ⟨rfl,(by have:=b;exact (show 4+x.toNat*1+1≤8 by omega)),rfl⟩ (ZcE b)) ?_)));rintro _ _ _ ⟨rfl,_,_,I⟩;refine Zc7 ?_;refine And.intro ?_ ?_
 ·intro q hq;simp only [List.mem_cons,List.not_mem_nil,or_false] at hq;rcases hq with rfl
  ·refine Zam ?_ ?_
   ·exact nofun
   ·exact nofun
 refine ZqX ZD ?_;cases hp;exact ⟨v_g_cells,rfl,(I.pk [0,1])⟩

theorem Zc2.ok {h:Hp}{g:Zbg}{v:Int}{d:Int}{w:Int}{owner:Int}{r_g:Nat}{v_g_cells:V}(H:Own (Bm h [Zb4 r_g [v_g_cells],eSl Zf v_g_cells g.cells]) h h [Zb4 r_g [v_g_cells],eSl Zf v_g_cells g.cells]) {r:Int×Zbg}(hp:Zc2 g v d w owner=some r) :
  ∃ u k',Is G 52 [.p r_g 0,.n v,.n d,.n w,.n owner] h u k'∧∃ ac,V.n r.1=u∧Own (Bm h [Zb4 r_g [v_g_cells],eSl Zf v_g_cells g.cells]) h k' [Zb4 r_g [ac],eSl Zf ac r.2.cells]:=by
 refine WC.is (ZaT Zfe ?_);unfold Zc2 at hp;let B:Nat→Prop:=(Bm h [Zb4 r_g [v_g_cells],eSl Zf v_g_cells g.cells]);have hO:Own B h h [Zb4 r_g [v_g_cells],eSl Zf v_g_cells g.cells]:=H;refine Zh (Zb (.n 0) rfl (Ze (Z9 (Zai (Zh (Zb (.p r_g 0) rfl (Zd (ZmG rfl rfl) (Zb (.b false) rfl (Ze ?_)))))))));refine Zmm rfl rfl (Zh (Zb (.p r_g 0) rfl (Zb (.n v) rfl (Zb (.n d) rfl ?_))));obtain ⟨x,⟨_,av,af,rfl,ap⟩,hp⟩:=bdk hp fun _=>Zcw.ok (h:=h)  (hO.box 0 rfl) (hO.sl 1 rfl);refine Za7 rfl rfl af ?_;have E:=hO.call ap rfl;refine Zd (ZcX rfl) (Zb (.b (!x)) rfl ?_);obtain ⟨t,au,hp⟩:=Zbj hp;refine Zaq 6 (fun f k=>Own B h k [Zb4 r_g [v_g_cells],eSl Zf v_g_cells g.cells]∧f 26=.b t∧f 0=.p r_g 0∧f 1=.n v∧f 2=.n d∧f 3=.n w∧f 4=.n owner) ?_ ?_
 ·clear hp;rcases Zbt au with ⟨c,hp⟩|⟨c,hp⟩
  ·refine Zp rfl c (Zp rfl c (Zp rfl c (Zp rfl c (Zp rfl c (Zd (Zbh (v:=.b t) rfl c (Eq.trans (b:=V.b true) rfl (congrArg V.b (Option.some.inj hp)))) (Zk ?_))))));exact ⟨E.pk [0,1],rfl,rfl,rfl,rfl,rfl,rfl⟩
  ·refine Z5 rfl c (Zb (.p r_g 0) rfl (Z5 rfl c (Zb (.n w) rfl (Z5 rfl c (Zb (.n d) rfl (Z5 rfl c ?_))))));obtain ⟨x1,⟨_,_,ag,rfl,aq⟩,hp⟩:=bdk hp fun _=>Zcw.ok (h:=av)  (E.box 0 rfl) (E.sl 1 rfl);refine Za7 rfl rfl ag ?_;have an:=E.call aq rfl;refine Z5 rfl c (Zd (ZcX rfl) (Zd (Zba (v:=.b t) rfl c (Eq.trans (b:=V.b (!x1)) rfl (congrArg V.b (Option.some.inj hp)))) (Zk ?_)));exact ⟨an.pk [0,1],rfl,rfl,rfl,rfl,rfl,rfl⟩
 rintro _ F ⟨N,ak,R,I,S,J,T⟩;refine Zb _ ak (Zaq 4 (fun f k=>F=k∧f 31=.b (t||(decide (v=w)))∧f 0=.p r_g 0∧f 1=.n v∧f 2=.n d∧f 3=.n w∧f 4=.n owner) ?_ ?_)
 ·rcases bc t with i|i
  ·refine Zp rfl i (Zp rfl i (Zp rfl i (Zd (Zcn (w:=t||(decide (v=w))) rfl i rfl) (Zk ?_))));exact ⟨rfl,rfl,R,I,S,J,T⟩
  ·refine Z5 rfl i (Zb _ I (Z5 rfl i (Zb _ J (Z5 rfl i (Zd (ZbL rfl rfl) (Zd (Zco rfl i rfl) (Zk ?_)))))));exact ⟨rfl,rfl,R,I,S,J,T⟩
 rintro _ _ ⟨rfl,al,U,W,X,Y,K⟩;refine Zb _ al (Zaq 3 (fun f k=>F=k∧f 35=.b ((t||(decide (v=w)))||(decide (owner<(-2))))∧f 0=.p r_g 0∧f 1=.n v∧f 2=.n d∧f 3=.n w∧f 4=.n owner) ?_ ?_)
 ·rcases bc (t||(decide (v=w))) with l|l
  ·refine Zp rfl l (Zp rfl l (Zd (Zcn (w:=(t||(decide (v=w)))||(decide (owner<(-2)))) rfl l rfl) (Zk ?_)));exact ⟨rfl,rfl,U,W,X,Y,K⟩
  ·refine Z5 rfl l (Zb _ K (Z5 rfl l (Zd (zG rfl rfl) (Zd (Zco rfl l rfl) (Zk ?_)))));exact ⟨rfl,rfl,U,W,X,Y,K⟩
 rintro _ _ ⟨rfl,am,C,L,D,M,aa⟩;refine Zb _ am (Ze (z8 hp rfl (fun ad hp=>?_) (fun ad hp=>?_)))
 ·refine Zh (Zb (.n 2) rfl (Ze (zZ (Zbd (ZX (zj (zz rfl ZD) ?_))))));cases hp;exact ⟨v_g_cells,rfl,(N.pk [0,1])⟩
 ·refine Z9 (ZhY hp (fun x2 e fr k=>e=.normal∧fr 0=.p r_g 0∧fr 1=.n v∧fr 2=.n d∧fr 3=.n w∧fr 4=.n owner∧fr 36=.b x2∧Own B h k [Zb4 r_g [v_g_cells],eSl Zf v_g_cells g.cells]) (fun _ hp=>?_) ?_)
  ·refine Zft ?_;have j:=N.bump 26;have aj:=Fresh.start F 26;refine ZaJ _ C (zt (Zgv rfl) (zt (Zbi (r:=r_g) (o:=0) rfl rfl) (zt (Zay (j.box 0 rfl) rfl rfl) (ZaJ _ L (ZaJ _ D (ckk hp fun y hp=>zt (ZM (j.sl 1 rfl) rfl rfl y) (zt (Zax (j.sl 1 rfl) (Zc y) rfl rfl) (ckk hp fun P hp=>zt (Zbl (j.sl 1 rfl) (Zc y) rfl rfl P rfl) (zt (zk (j.sl 1 rfl) rfl (Zc y) (zx P)) (zt (Zcz rfl rfl) (ZaJ (.b (!(decide (((gi g.cells v.toNat).Next).get d=(-1))))) rfl ?_)))))))))));refine ifk hp (fun a hp=>?_) (fun a hp=>?_)
   ·refine Zbc rfl a (Zbc rfl a (Zbc rfl a (Zbc rfl a (Zbc rfl a (Zbc rfl a (Zbc rfl a (Zbc rfl a (Zbc rfl a (Zbc rfl a (Zbc rfl a (Zbc rfl a (zt (Zbh (v:=.b true) rfl a rfl) (ZaJ (.b true) rfl ?_)))))))))))));refine Zc7 ?_;refine And.intro ?_ ?_
    ·intro q hq;simp only [List.mem_cons,List.not_mem_nil,or_false] at hq;rcases hq with rfl
     ·exact ZlO
    cases hp;exact ⟨rfl,C,L,D,M,aa,rfl,(j.pk [0,1])⟩
   ·refine ZcR rfl a (ZaJ _ C (ZcR rfl a (zt (Zgv rfl) (ZcR rfl a (zt (Zbi (r:=r_g) (o:=0) rfl rfl) (ZcR rfl a (zt (Zay (j.box 0 rfl) rfl rfl) (ZcR rfl a (ZaJ _ M (ZcR rfl a (ZaJ _ D (ZcR rfl a ?_))))))))))));obtain ⟨x3,⟨_,_,ah,rfl,ab⟩,hp⟩:=bdk hp fun _=>Za4.ok (h:=(F.bump 26))  ;refine ZgM rfl rfl ah ?_;have s:=j.call ab rfl;refine ZcR rfl a (ckk hp fun A hp=>zt (ZM (s.sl 1 rfl) rfl rfl A) (ZcR rfl a (zt (Zax (s.sl 1 rfl) (Zc A) rfl rfl) (ZcR rfl a (ckk hp fun Q hp=>zt (Zbl (s.sl 1 rfl) (Zc A) rfl rfl Q rfl) (ZcR rfl a (zt (zk (s.sl 1 rfl) rfl (Zc A) (zx Q)) (ZcR rfl a (zt (Zcz rfl rfl) (zt (Zba (v:=.b (!(decide (((gi g.cells w.toNat).Next).get x3=(-1))))) rfl a rfl) (ZaJ (.b (!(decide (((gi g.cells w.toNat).Next).get x3=(-1))))) rfl ?_)))))))))));refine Zc7 ?_;refine And.intro ?_ ?_
    ·intro q hq;simp only [List.mem_cons,List.not_mem_nil,or_false] at hq;rcases hq with rfl
     ·refine Zit rfl rfl ?_
      ·exact (fun r hm hc=>hc (ab.base r (Nat.lt_of_lt_of_le (N.ltAt 0 rfl _ (tch (ZbP hm) rfl)) (Nat.le_trans (Nat.le_add_right _ _) aj.n))))
    cases hp;exact ⟨rfl,C,L,D,M,aa,rfl,(s.pk [0,1])⟩
  rintro x2 hp _ _ aw ⟨rfl,ax,ay,az,aA,aC,aB,O⟩;refine Zr (z8 hp aB (fun ae hp=>?_) (fun ae hp=>?_))
  ·refine Zh (Zb (.n 9) rfl (Ze (zZ (Zbd (ZX (zj (zz rfl ZD) ?_))))));cases hp;exact ⟨v_g_cells,rfl,(O.pk [0,1])⟩
  ·refine Zc8 (Zap (Zr (Zh (Zb _ ax (Zb _ ay (Zb _ az (Zb _ aA (Zb _ aC ?_))))))));obtain ⟨m,⟨_,_,ai,aD,rfl,ar⟩,hp⟩:=bdk hp fun _=>ZcC.ok (h:=aw) (g:=g) (v:=v) (d:=d) (w:=w) (owner:=owner) (O.toM [0,1] rfl (by decide)) ;refine Za7 rfl rfl ai ?_;have ao:=(O.callM [0,1] [] rfl rfl (by decide) ar rfl).pick [0,1] rfl (by decide);refine Ze (Zh (Zb (.n 0) rfl (Ze (zZ (zj (zz rfl ZD) ?_)))));cases hp;exact ⟨aD,rfl,(ao.pk [0,1])⟩

theorem ZaO.ok {h:Hp}{cells:List Za}{picks:List Bool}{v_cells:V}{v_picks:V}(s_cells:Sl Zf h v_cells cells) (s_picks:Sl e_bool h v_picks picks) {r:(List Za)×Int×Int}(hp:ZaO cells picks=some r) :
  ∃ u k',Is G 212 [v_cells,v_picks] h u k'∧∃ S,V.tu [S,.n r.2.1,.n r.2.2]=u∧Own (fun r=>r<h.n) h k' [eSl Zf S r.1]:=by
 refine WC.is (ZaT ZfB ?_);unfold ZaO at hp;let B:Nat→Prop:=(fun r=>r<h.n);have hO:Own B h h []:=Own.start0 h;refine Zh (Zb (.sn) rfl (Zb (.n 0) rfl (Zb (.n 0) rfl (Ze (Z9 (Zh (Zb v_cells rfl ?_)))))));obtain ⟨x,⟨_,aC,ab,rfl,ar⟩,hp⟩:=bdk hp fun _=>Zdb.ok (h:=h)  (hO.rd0 s_cells.rd);refine Za7 rfl rfl ab ?_;have C:=hO.call ar rfl;refine Zb (.n x) rfl (Ze (Zh (Zb (.n x) rfl (Zd (Zcz rfl rfl) (Ze (z8 hp rfl (fun U hp=>?_) (fun U hp=>?_)))))))
 ·refine Zh (Zb (.n x) rfl (Zb (.sn) rfl (Zb (.n 0) rfl (Zb (.n x) rfl (Ze (zZ (ZX ?_)))))));have am:=C.nil Zf;refine zj (zz rfl (zz rfl (zz rfl ZD))) ?_;cases hp;exact ⟨V.sn,rfl,(am.pk [0])⟩
 ·refine Zaj (Zh (Zb v_cells rfl ?_));obtain ⟨⟨x1,x2⟩,⟨_,aD,ac,c,F,rfl,au⟩,hp⟩:=bdk hp fun _=>Ze7.ok (h:=aC)  (C.rd0 s_cells.rd);refine Za7 rfl rfl ac ?_;have an:=C.call au rfl;refine Zb (.tu [(if (x1).isSome=true then V.p c 0 else V.pn),.n x2]) rfl (Zd (Za3 rfl rfl) (Zd (Za3 rfl rfl) (Zb ((if (x1).isSome=true then V.p c 0 else V.pn)) rfl (Zb (.n x2) rfl (Ze (Zh (Zb (.n 0) rfl (Ze (Zai ?_)))))))));obtain ⟨g,o,hp⟩:=Zbj hp;replace o:x1=some g:=o;have ao:Own B h aD [Zb4 c [F],eSl Zf F g.cells]:=by have hq:=an;rw [o] at hq;exact hq
  refine ZbI hp (fun|(g1,n),fr,k=>∃ l,fr 1=v_picks∧fr 8=.p c 0∧fr 10=.n n∧Own B h k [Zb4 c [l],eSl Zf l g1]) (fun|(x3,x4,x5),e,fr,k=>e=.ret∧∃ y,fr 4=y∧fr 5=.n x4∧fr 6=.n x5∧Own B h k [eSl Zf y x3]) ⟨F,rfl,(unw o),rfl,(ao.pk [0,1])⟩ ?_ ?_
  ·rintro ⟨g1,n⟩ _ aE ⟨l,q,s,j,D⟩ _ hp;dsimp only [ZaO.s0] at hp;refine Z9 (Zai (Zh (Zb _ s ?_)));obtain ⟨x6,⟨_,aF,ad,_,rfl,av⟩,hp⟩:=bdk hp fun _=>ZbJ.ok (h:=aE)  (D.box 0 rfl) (D.sl 1 rfl);refine Za7 rfl rfl ad ?_;have Q:=D.call av rfl;obtain ⟨⟨x7,x8,x9,x10⟩,⟨_,E,ae,rfl,aw⟩,hp⟩:=bdk hp fun _=>Zb1.ok (h:=aF)  (Q.sl 2 rfl);refine Za7 rfl rfl ae ?_;have i:=Q.call aw rfl;refine Zb (.tu [.n x7,.n x8,.n x9,.b x10]) rfl (Zd (Za3 rfl rfl) (Zd (Za3 rfl rfl) (Zd (Za3 rfl rfl) (Zd (Za3 rfl rfl) (Zb (.n x7) rfl (Zb (.n x8) rfl (Zb (.n x9) rfl (Zb (.b x10) rfl (Ze (Z9 (Zh ?_)))))))))));refine Zb (.b x10) rfl (Zd (ZcX rfl) (Ze (z8 hp rfl (fun W hp=>?_) (fun W hp=>?_))))
   ·refine Zh (Zb _ s ?_);obtain ⟨x11,⟨_,_,af,T,rfl,ax⟩,hp⟩:=bdk hp fun _=>ZbJ.ok (h:=E)  (i.box 0 rfl) (i.sl 1 rfl);refine Za7 rfl rfl af ?_;have aq:=i.call ax rfl;refine Zb _ j (Zb T rfl (Zb (.n n) rfl (Zb (.n 0) rfl (Ze (zZ (ZX (Zbd (ZX ?_))))))));cases hp;exact ⟨nofun,rfl,T,rfl,rfl,rfl,(aq.pk [3])⟩
   ·refine Zaj (Zh (Zb _ j (Zb _ q (Zd (Zaz (i.rd0 s_picks.rd) rfl) (Zd (zG rfl rfl) (Zb (.b (decide (n<(picks.length:Int)))) rfl ?_))))));obtain ⟨t,aB,hp⟩:=Zbj hp;refine Zaq 5 (fun f k=>E=k∧f 51=.b t∧f 1=v_picks∧f 10=.n n∧f 11=.n x7∧f 12=.n x8∧f 13=.n x9∧f 8=.p c 0) ?_ ?_
    ·clear hp;rcases Zbt aB with ⟨a,hp⟩|⟨a,hp⟩
     ·refine Z5 rfl a (Zb _ q (Z5 rfl a (Zb _ j (Z5 rfl a (ckk hp fun H hp=>Zd (ZM (i.rd0 s_picks.rd) rfl rfl H) (Z5 rfl a (Zd (zk (i.rd0 s_picks.rd) rfl (Zc H) rfl) (Zd (Zbh (v:=.b t) rfl a (Eq.trans (b:=V.b (gi picks n.toNat)) rfl (congrArg V.b (Option.some.inj hp)))) (Zk ?_)))))))));exact ⟨rfl,rfl,q,j,rfl,rfl,rfl,s⟩
     ·refine Zp rfl a (Zp rfl a (Zp rfl a (Zp rfl a (Zd (Zba (v:=.b t) rfl a (Eq.trans (b:=V.b false) rfl (congrArg V.b (Option.some.inj hp)))) (Zk ?_)))));exact ⟨rfl,rfl,q,j,rfl,rfl,rfl,s⟩
    rintro _ _ ⟨rfl,aj,I,J,K,A,L,M⟩;refine Zb _ aj (Ze (Z9 (Zh (Zb _ A ?_))));obtain ⟨x12,⟨_,aG,ag,rfl,ay⟩,hp⟩:=bdk hp fun _=>Zck.ok (h:=E)  ;refine Za7 rfl rfl ag ?_;have N:=i.call ay rfl;refine Zb (.b t) rfl (Zd (Zrl rfl rfl) (Ze (ZhY hp (fun d e fr k=>e=.normal∧fr 1=v_picks∧fr 8=.p c 0∧fr 10=.n n∧fr 11=.n x7∧fr 12=.n d∧fr 13=.n x9∧Own B h k [Zb4 c [l],eSl Zf l g1]) (fun _ hp=>?_) ?_)))
    ·refine z8 hp rfl (fun X hp=>?_) (fun X hp=>?_)
     ·refine Zaf (Zb _ A ?_);obtain ⟨x13,⟨_,_,ah,rfl,az⟩,hp⟩:=bdk hp fun _=>Za4.ok (h:=aG)  ;refine Za7 rfl rfl ah ?_;have ak:=N.call az rfl;refine Zb (.n x13) rfl (Zk ?_);cases hp;exact ⟨rfl,I,M,J,K,rfl,L,(ak.pk [0,1])⟩
     ·refine Zc8 ?_;cases hp;exact ⟨rfl,I,M,J,K,A,L,(N.pk [0,1])⟩
    rintro d hp _ _ aH ⟨rfl,aL,R,aM,aN,aO,aP,O⟩;refine Zr (Zh (Zb _ R (Zb _ aN (Zb _ aO (Zb _ aP ?_)))));obtain ⟨⟨x14,m⟩,⟨_,_,ai,aQ,rfl,aA⟩,hp⟩:=bdk hp fun _=>Zc2.ok (h:=aH) (g:=(⟨g1⟩:Zbg)) (v:=x7) (d:=d) (w:=x9) (owner:=(-2)) (O.toM [0,1] rfl (by decide)) ;refine Za7 rfl rfl ai ?_;have P:=(O.callM [0,1] [] rfl rfl (by decide) aA rfl).pick [0,1] rfl (by decide);refine Zb (.n x14) rfl (Ze (Zh (Zb (.n x14) rfl (Zd (Zcz rfl rfl) (Ze (z8 hp rfl (fun Y hp=>?_) (fun Y hp=>?_)))))))
    ·refine Zh (Zb (.n x14) rfl (Zb (.sn) rfl (Zb (.n 0) rfl (Zb (.n x14) rfl (Ze (zZ (Zbd (ZX ?_))))))));have al:=P.nil Zf;cases hp;exact ⟨nofun,rfl,V.sn,rfl,rfl,rfl,(al.pk [2])⟩
    ·refine Zc8 (Zap (Zr (Zaf (Zb _ aM (ckk hp fun aa hp=>Zd (zu rfl rfl aa) (Zb (.n (n+1)) rfl (Zk ?_)))))));cases hp;exact ⟨rfl,aQ,aL,R,rfl,(P.pk [0,1])⟩
  rintro ⟨x3,x4,x5⟩ hp _ _ _ ⟨rfl,y,aI,aJ,aK,ap⟩;refine Zbd (zj (zz aI (zz aJ (zz aK ZD))) ?_);cases hp;exact ⟨y,rfl,(ap.pk [0])⟩

theorem zO.ok {h:Hp}{l:List Za}{v:Int}{d:Int}{w:Int}{o:Int}{v_l:V}(H:Own (Bm h [eSl Zf v_l l]) h h [eSl Zf v_l l]) {r:(List Za)×Int}(hp:zO l v d w o=some r) :
  ∃ u k',Is G 53 [v_l,.n v,.n d,.n w,.n o] h u k'∧∃ ar,V.tu [ar,.n r.2]=u∧Own (Bm h [eSl Zf v_l l]) h k' [eSl Zf ar r.1]:=by
 refine WC.is (ZaT ZeF ?_);unfold zO at hp;let B:Nat→Prop:=(Bm h [eSl Zf v_l l]);have hO:Own B h h [eSl Zf v_l l]:=H;refine Zh (Zb (.sn) rfl (Zb (.n 0) rfl (Ze (Z9 (Zh (Zb (.n v) rfl (Zd (zG rfl rfl) (Zb (.b (decide (v<0))) rfl (Zaq 5 (fun f k=>h=k∧f 20=.b ((decide (v<0))||(decide ((l.length:Int)≤v)))∧f 0=v_l∧f 1=.n v∧f 2=.n d∧f 3=.n w∧f 4=.n o) ?_ ?_)))))))))
 ·rcases bc (decide (v<0)) with c|c
  ·refine Zp rfl c (Zp rfl c (Zp rfl c (Zp rfl c (Zd (Zcn (w:=(decide (v<0))||(decide ((l.length:Int)≤v))) rfl c rfl) (Zk ?_)))));exact ⟨rfl,rfl,rfl,rfl,rfl,rfl,rfl⟩
  ·refine Z5 rfl c (Zb (.n v) rfl (Z5 rfl c (Zb v_l rfl (Z5 rfl c (Zd (Zaz (hO.sl 0 rfl) rfl) (Z5 rfl c (Zd (ZcW rfl rfl) (Zd (Zco rfl c rfl) (Zk ?_)))))))));exact ⟨rfl,rfl,rfl,rfl,rfl,rfl,rfl⟩
 rintro _ _ ⟨rfl,ay,R,S,T,D,U⟩;refine Zb _ ay (Zaq 3 (fun f k=>h=k∧f 24=.b (((decide (v<0))||(decide ((l.length:Int)≤v)))||(decide (w<0)))∧f 0=v_l∧f 1=.n v∧f 2=.n d∧f 3=.n w∧f 4=.n o) ?_ ?_)
 ·rcases bc ((decide (v<0))||(decide ((l.length:Int)≤v))) with i|i
  ·refine Zp rfl i (Zp rfl i (Zd (Zcn (w:=((decide (v<0))||(decide ((l.length:Int)≤v)))||(decide (w<0))) rfl i rfl) (Zk ?_)));exact ⟨rfl,rfl,R,S,T,D,U⟩
  ·refine Z5 rfl i (Zb _ D (Z5 rfl i (Zd (zG rfl rfl) (Zd (Zco rfl i rfl) (Zk ?_)))));exact ⟨rfl,rfl,R,S,T,D,U⟩
 rintro _ _ ⟨rfl,az,E,W,X,F,Y⟩;refine Zb _ az (Zaq 5 (fun f k=>h=k∧f 30=.b ((((decide (v<0))||(decide ((l.length:Int)≤v)))||(decide (w<0)))||(decide ((l.length:Int)≤w)))∧f 0=v_l∧f 1=.n v∧f 2=.n d∧f 3=.n w∧f 4=.n o) ?_ ?_)
 ·rcases bc (((decide (v<0))||(decide ((l.length:Int)≤v)))||(decide (w<0))) with e|e
  ·refine Zp rfl e (Zp rfl e (Zp rfl e (Zp rfl e (Zd (Zcn (w:=(((decide (v<0))||(decide ((l.length:Int)≤v)))||(decide (w<0)))||(decide ((l.length:Int)≤w))) rfl e rfl) (Zk ?_)))));exact ⟨rfl,rfl,E,W,X,F,Y⟩
  ·refine Z5 rfl e (Zb _ F (Z5 rfl e (Zb _ E (Z5 rfl e (Zd (Zaz (hO.sl 0 rfl) rfl) (Z5 rfl e (Zd (ZcW rfl rfl) (Zd (Zco rfl e rfl) (Zk ?_)))))))));exact ⟨rfl,rfl,E,W,X,F,Y⟩
 rintro _ _ ⟨rfl,aA,aa,I,ab,J,ac⟩;refine Zb _ aA (Zaq 4 (fun f k=>h=k∧f 35=.b (((((decide (v<0))||(decide ((l.length:Int)≤v)))||(decide (w<0)))||(decide ((l.length:Int)≤w)))||(decide (v=w)))∧f 0=v_l∧f 1=.n v∧f 2=.n d∧f 3=.n w∧f 4=.n o) ?_ ?_)
 ·rcases bc ((((decide (v<0))||(decide ((l.length:Int)≤v)))||(decide (w<0)))||(decide ((l.length:Int)≤w))) with g|g
  ·refine Zp rfl g (Zp rfl g (Zp rfl g (Zd (Zcn (w:=((((decide (v<0))||(decide ((l.length:Int)≤v)))||(decide (w<0)))||(decide ((l.length:Int)≤w)))||(decide (v=w))) rfl g rfl) (Zk ?_))));exact ⟨rfl,rfl,aa,I,ab,J,ac⟩
  ·refine Z5 rfl g (Zb _ I (Z5 rfl g (Zb _ J (Z5 rfl g (Zd (ZbL rfl rfl) (Zd (Zco rfl g rfl) (Zk ?_)))))));exact ⟨rfl,rfl,aa,I,ab,J,ac⟩
 rintro _ _ ⟨rfl,aB,ad,ae,K,af,ag⟩;refine Zb _ aB (Zaq 3 (fun f k=>h=k∧f 39=.b ((((((decide (v<0))||(decide ((l.length:Int)≤v)))||(decide (w<0)))||(decide ((l.length:Int)≤w)))||(decide (v=w)))||(decide (d<0)))∧f 0=v_l∧f 1=.n v∧f 2=.n d∧f 3=.n w∧f 4=.n o) ?_ ?_)
 ·rcases bc (((((decide (v<0))||(decide ((l.length:Int)≤v)))||(decide (w<0)))||(decide ((l.length:Int)≤w)))||(decide (v=w))) with j|j
  ·refine Zp rfl j (Zp rfl j (Zd (Zcn (w:=(((((decide (v<0))||(decide ((l.length:Int)≤v)))||(decide (w<0)))||(decide ((l.length:Int)≤w)))||(decide (v=w)))||(decide (d<0))) rfl j rfl) (Zk ?_)));exact ⟨rfl,rfl,ad,ae,K,af,ag⟩
  ·refine Z5 rfl j (Zb _ K (Z5 rfl j (Zd (zG rfl rfl) (Zd (Zco rfl j rfl) (Zk ?_)))));exact ⟨rfl,rfl,ad,ae,K,af,ag⟩
 rintro _ _ ⟨rfl,aC,ah,ai,L,aj,ak⟩;refine Zb _ aC (Zaq 3 (fun f k=>h=k∧f 43=.b (((((((decide (v<0))||(decide ((l.length:Int)≤v)))||(decide (w<0)))||(decide ((l.length:Int)≤w)))||(decide (v=w)))||(decide (d<0)))||(decide (3<d)))∧f 0=v_l∧f 1=.n v∧f 2=.n d∧f 3=.n w∧f 4=.n o) ?_ ?_)
 ·rcases bc ((((((decide (v<0))||(decide ((l.length:Int)≤v)))||(decide (w<0)))||(decide ((l.length:Int)≤w)))||(decide (v=w)))||(decide (d<0))) with m|m
  ·refine Zp rfl m (Zp rfl m (Zd (Zcn (w:=((((((decide (v<0))||(decide ((l.length:Int)≤v)))||(decide (w<0)))||(decide ((l.length:Int)≤w)))||(decide (v=w)))||(decide (d<0)))||(decide (3<d))) rfl m rfl) (Zk ?_)));exact ⟨rfl,rfl,ah,ai,L,aj,ak⟩
  ·refine Z5 rfl m (Zb _ L (Z5 rfl m (Zd (ZeX rfl rfl) (Zd (Zco rfl m rfl) (Zk ?_)))));exact ⟨rfl,rfl,ah,ai,L,aj,ak⟩
 rintro _ _ ⟨rfl,aD,al,am,an,ao,M⟩;refine Zb _ aD (Zaq 3 (fun f k=>h=k∧f 47=.b ((((((((decide (v<0))||(decide ((l.length:Int)≤v)))||(decide (w<0)))||(decide ((l.length:Int)≤w)))||(decide (v=w)))||(decide (d<0)))||(decide (3<d)))||(decide (o<(-2))))∧f 0=v_l∧f 1=.n v∧f 2=.n d∧f 3=.n w∧f 4=.n o) ?_ ?_)
 ·rcases bc (((((((decide (v<0))||(decide ((l.length:Int)≤v)))||(decide (w<0)))||(decide ((l.length:Int)≤w)))||(decide (v=w)))||(decide (d<0)))||(decide (3<d))) with p|p
  ·refine Zp rfl p (Zp rfl p (Zd (Zcn (w:=(((((((decide (v<0))||(decide ((l.length:Int)≤v)))||(decide (w<0)))||(decide ((l.length:Int)≤w)))||(decide (v=w)))||(decide (d<0)))||(decide (3<d)))||(decide (o<(-2)))) rfl p rfl) (Zk ?_)));exact ⟨rfl,rfl,al,am,an,ao,M⟩
  ·refine Z5 rfl p (Zb _ M (Z5 rfl p (Zd (zG rfl rfl) (Zd (Zco rfl p rfl) (Zk ?_)))));exact ⟨rfl,rfl,al,am,an,ao,M⟩
 rintro _ _ ⟨rfl,aE,q,N,A,O,ap⟩;refine Ze (z8 hp aE (fun av hp=>?_) (fun av hp=>?_))
 ·refine Zh (Zb _ q (Zb v_l rfl (Zb (.n 2) rfl (Ze (zZ (ZX (zj (zz rfl (zz rfl ZD)) ?_)))))));cases hp;exact ⟨v_l,rfl,(hO.pk [0])⟩
 ·refine Zaj (Z9 (Zh (Zb _ q (Zb _ N (Zb _ A (ckk hp fun s hp=>Zd (ZM (hO.sl 0 rfl) rfl rfl s) (Zd (Zax (hO.sl 0 rfl) (Zc s) rfl rfl) (ckk hp fun P hp=>Zd (Zbl (hO.sl 0 rfl) (Zc s) rfl rfl P rfl) (Zd (zk (hO.sl 0 rfl) rfl (Zc s) (zx P)) ?_)))))))));refine Zd (Zcz rfl rfl) (Zb (.b (!(decide (((gi l v.toNat).Next).get d=(-1))))) rfl ?_);obtain ⟨t,aM,hp⟩:=Zbj hp;refine Zaq 11 (fun f k=>h=k∧f 68=.b t∧f 0=v_l∧f 1=.n v∧f 2=.n d∧f 3=.n w∧f 4=.n o) ?_ ?_
  ·clear hp;rcases Zbt aM with ⟨a,hp⟩|⟨a,hp⟩
   ·refine Zp rfl a (Zp rfl a (Zp rfl a (Zp rfl a (Zp rfl a (Zp rfl a (Zp rfl a (Zp rfl a (Zp rfl a (Zp rfl a (Zd (Zbh (v:=.b t) rfl a (Eq.trans (b:=V.b true) rfl (congrArg V.b (Option.some.inj hp)))) (Zk ?_)))))))))));exact ⟨rfl,rfl,q,N,A,O,ap⟩
   ·refine Z5 rfl a (Zb _ q (Z5 rfl a (Zb _ O (Z5 rfl a (Zb _ A (Z5 rfl a (ckk hp fun aw hp=>Zd (zu rfl rfl aw) (Z5 rfl a (Zd (Ze0 rfl rfl (by decide)) (Z5 rfl a (ckk hp fun y hp=>Zd (ZM (hO.sl 0 rfl) rfl rfl y) ?_)))))))))));refine Z5 rfl a (Zd (Zax (hO.sl 0 rfl) (Zc y) rfl rfl) (Z5 rfl a (ckk hp fun Q hp=>Zd (Zbl (hO.sl 0 rfl) (Zc y) rfl rfl Q rfl) (Z5 rfl a (Zd (zk (hO.sl 0 rfl) rfl (Zc y) (zx Q)) (Z5 rfl a (Zd (Zcz rfl rfl) (Zd (Zba (v:=.b t) rfl a (Eq.trans (b:=V.b (!(decide (((gi l w.toNat).Next).get ((d+2).tmod 4)=(-1))))) rfl (congrArg V.b (Option.some.inj hp)))) (Zk ?_)))))))));exact ⟨rfl,rfl,q,N,A,O,ap⟩
  rintro _ _ ⟨rfl,aJ,aq,aF,aG,aH,aI⟩;refine Ze (z8 hp aJ (fun au hp=>?_) (fun au hp=>?_))
  ·refine Zh (Zb _ aq (Zb v_l rfl (Zb (.n 9) rfl (Ze (zZ (ZX (zj (zz rfl (zz rfl ZD)) ?_)))))));cases hp;exact ⟨v_l,rfl,(hO.pk [0])⟩
  ·refine Zaj (Zh (Zb _ aq (Zb _ aF (Zb _ aG (Zb _ aH (Zb _ aI ?_))))));obtain ⟨x,⟨_,_,ax,C,rfl,aL⟩,hp⟩:=bdk hp fun _=>zX.ok (h:=h)  (hO.sl 0 rfl);refine Za7 rfl rfl ax ?_;have aK:=hO.call aL rfl;refine Zb C rfl (Ze (Zh (Zb C rfl (Zb C rfl (Zb (.n 0) rfl (Ze (zZ (zj (zz rfl (zz rfl ZD)) ?_))))))));cases hp;exact ⟨C,rfl,(aK.pk [1])⟩

theorem Zbu.ok {h:Hp}    {r:(List Za)}(hp:Zbu =some r) :
  ∃ u k',Is G 213 [] h u k'∧∃ y,y=u∧Own (fun r=>r<h.n) h k' [eSl Zf y r]:=by
 refine WC.is (ZaT ZeB ?_);unfold Zbu at hp;let B:Nat→Prop:=(fun r=>r<h.n);have hO:Own B h h []:=Own.start0 h;refine Zh (Zb (.sn) rfl (Ze (Zh ?_)));obtain ⟨x,⟨_,_,F,A,rfl,K⟩,hp⟩:=bdk hp fun _=>zw.ok (h:=h)  ;refine Za7 rfl rfl F ?_;have m:=hO.call K rfl;refine Zb A rfl (Ze (Z9 (Zh (Zac (m.bsl (E:=zB) (l:=([0,1,0,1,2,1,2,3,2,3,0,3]:List Int)) m.fr (by rw [(za (v:=.n 0) rfl (za (v:=.n 1) rfl (za (v:=.n 0) rfl (za (v:=.n 1) rfl (za (v:=.n 2) rfl (za (v:=.n 1) rfl (za (v:=.n 2) rfl (za (v:=.n 3) rfl (za (v:=.n 2) rfl (za (v:=.n 3) rfl (za (v:=.n 0) rfl (za (v:=.n 3) rfl ZaX))))))))))))];rfl) rfl) ?_))));rintro C _ ⟨_,_,p⟩;refine Zd (Zaz (p.sl 1 rfl) rfl) (Zb (.n 0) rfl (Ze (Zai (ZbI hp (fun|(l,x1),fr,k=>∃ f,fr 1=f∧fr 5=C∧fr 6=.n (([0,1,0,1,2,1,2,3,2,3,0,3]:List Int).length:Int)∧fr 7=.n x1∧Own B h k [eSl Zf f l,eSl zB C ([0,1,0,1,2,1,2,3,2,3,0,3]:List Int)]) (fun l1 e fr k=>e=(.exit 0)∧∃ b,fr 1=b∧Own B h k [eSl Zf b l1]) ⟨A,rfl,rfl,rfl,rfl,(p.pk [0,1])⟩ ?_ ?_))))
 ·rintro ⟨l,x1⟩ _ M ⟨f,q,s,t,c,a⟩ _ hp;dsimp only [Zbu.s0] at hp;refine Zh (Zd (zG c t) (Ze (Z9 (z8 hp rfl (fun D hp=>?_) (fun D hp=>?_)))))
  ·refine Zaj (Z9 (Zai (Zh (Zb _ c (ckk hp fun i hp=>Zd (ZM (a.sl 1 rfl) s c i) (Zd (zk (a.sl 1 rfl) rfl (Zc i) rfl) (Zb (.n x1) rfl (Zb (.n (gi ([0,1,0,1,2,1,2,3,2,3,0,3]:List Int) x1.toNat)) rfl (Ze ?_)))))))));refine Zaf (Zb _ q (Zb (.n x1) rfl (Zb (.n (gi ([0,1,0,1,2,1,2,3,2,3,0,3]:List Int) x1.toNat)) rfl (Zb (.n x1) rfl (ckk hp fun j hp=>Zd (zu rfl rfl j) (Zd (Ze0 rfl rfl (by decide)) ?_))))));obtain ⟨⟨x2,x3⟩,⟨_,_,H,g,rfl,L⟩,hp⟩:=bdk hp fun _=>zO.ok (h:=M) (l:=l) (v:=x1) (d:=(gi ([0,1,0,1,2,1,2,3,2,3,0,3]:List Int) x1.toNat)) (w:=((x1+1).tmod 12)) (o:=0) (a.toM [0] rfl (by decide)) ;refine Za7 rfl rfl H ?_;have J:=(a.callM [0] [1] rfl rfl (by decide) L rfl).pick [900,0,1] rfl (by decide);refine Zb (.tu [g,.n x3]) rfl (Zd (Za3 rfl rfl) (Zd (Za3 rfl rfl) (Zb g rfl (Zk (Zap (Zr (Zaf (Zd (zu c rfl j) (Zb (.n (x1+1)) rfl (Zk ?_))))))))));cases hp;exact ⟨rfl,g,rfl,s,t,rfl,(J.pk [2,1])⟩
  ·refine Zby (zY ?_);cases hp;exact ⟨nofun,rfl,f,q,(a.pk [0])⟩
 rintro l1 hp _ _ _ ⟨rfl,b,N,I⟩;refine ZaF (Zr (Zh (Zb _ N (Zb b rfl (Ze (zZ (zj (zz rfl ZD) ?_)))))));cases hp;exact ⟨b,rfl,(I.pk [0])⟩

theorem ZbR.ok {h:Hp}{cells:List Za}{v_cells:V}(s_cells:Sl Zf h v_cells cells) {r:(List Za)×Int}(hp:ZbR cells=some r) :
  ∃ u k',Is G 214 [v_cells] h u k'∧∃ W,V.tu [W,.n r.2]=u∧Own (fun r=>r<h.n) h k' [eSl Zf W r.1]:=by
 refine WC.is (ZaT ZfA ?_);unfold ZbR at hp;let B:Nat→Prop:=(fun r=>r<h.n);have hO:Own B h h []:=Own.start0 h;refine Zh (Zb (.sn) rfl (Zb (.n 0) rfl (Ze (Z9 (Zh (Zb v_cells rfl ?_))))));obtain ⟨x,⟨_,_,ai,rfl,au⟩,hp⟩:=bdk hp fun _=>Zag.ok (h:=h)  (hO.rd0 s_cells.rd);refine Za7 rfl rfl ai ?_;have A:=hO.call au rfl;refine Zb (.n x) rfl (Ze (Zh (Zb (.n x) rfl (Zd (Zcz rfl rfl) (Ze (z8 hp rfl (fun Y hp=>?_) (fun Y hp=>?_)))))))
 ·refine Zh (Zb (.n x) rfl (Zb (.sn) rfl (Zb (.n x) rfl (Ze (zZ (ZX ?_))))));have an:=A.nil Zf;refine zj (zz rfl (zz rfl ZD)) ?_;cases hp;exact ⟨V.sn,rfl,(an.pk [0])⟩
 ·refine Zaj (Zh (Zb (.sn) rfl (Ze (Z9 (Zh (Zb v_cells rfl (Zd (Zaz (A.rd0 s_cells.rd) rfl) (Zb (.n 0) rfl (Zk ?_)))))))));refine Zr (Zai ?_);have ap:=A.nil Zf;refine ZbI hp (fun|(l,x1),fr,k=>∃ i,fr 5=i∧fr 14=v_cells∧fr 15=.n (cells.length:Int)∧fr 16=.n x1∧Own B h k [eSl Zf i l]) (fun l1 e fr k=>e=(.exit 0)∧∃ s,fr 5=s∧Own B h k [eSl Zf s l1]) ⟨V.sn,rfl,rfl,rfl,rfl,(ap.pk [0])⟩ ?_ ?_
  ·rintro ⟨l,x1⟩ _ _ ⟨i,U,S,T,F,j⟩ _ hp;dsimp only [ZbR.s0] at hp;refine Zh (Zd (zG F T) (Ze (Z9 (z8 hp rfl (fun aa hp=>?_) (fun aa hp=>?_)))))
   ·refine Zaj (Z9 (Zai (Zh (ckk hp fun L hp=>Zd (ZM (j.rd0 s_cells.rd) S F L) (Zd (Zez (j.rd0 s_cells.rd) rfl (Zc L)) (Zac (j.alloc (cs:=Zf.c (⟨⟨0,0,0,0⟩,⟨0,0,0,0⟩⟩:Za)) j.fr) ?_))))));rintro _ _ ⟨g,rfl,_,_,aq⟩;refine Zac (aq.stb (cs':=Zf.c (gi cells x1.toNat)) 1 rfl rfl rfl rfl ⟨rfl,Nat.le_of_ble_eq_true rfl,rfl⟩ rfl) ?_;rintro _ _ ⟨rfl,_,_,ar⟩;refine Ze (Z9 (Zh (Zb (.n 0) rfl (Ze (Zai (ZbI hp (fun|(c,x2),fr,k=>fr 5=i∧fr 7=.p g 0∧fr 14=v_cells∧fr 15=.n (cells.length:Int)∧fr 16=.n x1∧fr 20=.n x2∧Own B h k [eSl Zf i l,Zb4 g (Zf.c c)]) (fun c1 e fr k=>e=(.exit 2)∧fr 5=i∧fr 7=.p g 0∧fr 14=v_cells∧fr 15=.n (cells.length:Int)∧fr 16=.n x1∧Own B h k [eSl Zf i l,Zb4 g (Zf.c c1)]) ⟨U,rfl,S,T,F,rfl,(ar.pk [0,1])⟩ ?_ ?_))))))
    ·rintro ⟨c,x2⟩ _ av ⟨K,q,H,I,J,y,m⟩ _ hp;dsimp only [ZbR.s1] at hp;refine Zh (Zd (zG y rfl) (Ze (Z9 (z8 hp rfl (fun ab hp=>?_) (fun ab hp=>?_)))))
     ·refine Zaj (Z9 (Zai (Zh (Zb _ y (Zb (.n x2) rfl (Ze (Zh (Zb (.n x2) rfl (Zd (Zbi (r:=g) (o:=0) q rfl) ?_)))))))));refine ckk hp fun d hp=>Zd (Zgu (o:=0) (o':=(0+x2.toNat*1)) rfl rfl d rfl) (Zd (Zay (m.box 1 rfl) rfl (zx d)) (Zd (ZcW rfl rfl) (Zb (.b (decide (0≤(c.Next.get x2)))) rfl (Zaq 6 (fun f k=>av=k∧f 34=.b ((decide (0≤(c.Next.get x2)))&&(decide (c.Owner.get x2=(-2))))∧f 14=v_cells∧f 15=.n (cells.length:Int)∧f 16=.n x1∧f 20=.n x2∧f 5=i∧f 7=.p g 0∧f 8=.n x2) ?_ ?_))))
      ·rcases bc (decide (0≤(c.Next.get x2))) with a|a
       ·refine Z5 rfl a (Zb (.n x2) rfl (Z5 rfl a (Zd (Zbi (r:=g) (o:=0) q rfl) (Z5 rfl a (Zd (Zgu (o:=4) (o':=(4+x2.toNat*1)) rfl rfl d rfl) (Z5 rfl a (Zd (Zay (m.box 1 rfl) rfl (ZbV d)) (Z5 rfl a (Zd (ZbL rfl rfl) (Zd (ZdD rfl a rfl) (Zk ?_)))))))))));exact ⟨rfl,rfl,H,I,J,y,K,q,rfl⟩
       ·refine Zp rfl a (Zp rfl a (Zp rfl a (Zp rfl a (Zp rfl a (Zd (ZdC (w:=(decide (0≤(c.Next.get x2)))&&(decide (c.Owner.get x2=(-2)))) rfl a rfl) (Zk ?_))))));exact ⟨rfl,rfl,H,I,J,y,K,q,rfl⟩
      rintro _ _ ⟨rfl,aj,M,N,O,P,Q,t,R⟩;refine Ze (z8 hp aj (fun ac hp=>?_) (fun ac hp=>?_))
      ·refine Zaf (Zb _ R (Zb _ R (Zd (Zbi (r:=g) (o:=0) t rfl) (Zd (Zgu (o:=0) (o':=(0+x2.toNat*1)) rfl rfl d rfl) (Zac (m.stb (cs':=Zf.c ({ c with Next:=c.Next.set x2 (-1) })) 1 rfl rfl rfl rfl ⟨rfl,(by have:=d;exact (show 0+x2.toNat*1+1≤8 by omega)),rfl⟩ (Zc3 d)) ?_)))));rintro _ _ ⟨rfl,_,_,ak⟩;refine Zd (Zbi (r:=g) (o:=0) t rfl) (Zd (Zgu (o:=4) (o':=(4+x2.toNat*1)) rfl rfl d rfl) (Zac (ak.stb (cs':=Zf.c ({ { c with Next:=c.Next.set x2 (-1) } with Owner:=(({ c with Next:=c.Next.set x2 (-1) }).Owner).set x2 0 })) 1 rfl rfl rfl rfl ⟨rfl,(by have:=d;exact (show 4+x2.toNat*1+1≤8 by omega)),rfl⟩ (ZcE d)) ?_));rintro _ _ ⟨rfl,_,_,al⟩;refine Zk (Zap (Zr (Zaf (ckk hp fun ad hp=>Zd (zu P rfl ad) (Zb (.n (x2+1)) rfl (Zk ?_))))));cases hp;exact ⟨rfl,Q,t,M,N,O,rfl,(al.pk [0,1])⟩
      ·refine Zc8 (Zap (Zr (Zaf (ckk hp fun ae hp=>Zd (zu P rfl ae) (Zb (.n (x2+1)) rfl (Zk ?_))))));cases hp;exact ⟨rfl,Q,t,M,N,O,rfl,(m.pk [0,1])⟩
     ·refine Zby (zY ?_);cases hp;exact ⟨nofun,rfl,K,q,H,I,J,(m.pk [0,1])⟩
    rintro c1 hp _ _ _ ⟨rfl,aA,aB,ax,ay,az,D⟩;refine ZaF (Zr (Zaf (Zb _ aA (Zd (ZbT (D.box 1 rfl) aB rfl) (Zac (D.bsl (E:=Zf) (l:=[c1]) D.fr (by rw [(za (v:=.ag (Zf.c c1)) rfl ZaX)];rfl) rfl) ?_)))));rintro _ _ ⟨_,_,C⟩;refine ckk hp fun af hp=>Zac (C.app (bytes:=64) 0 C.fr rfl (C.sl 2 rfl) rfl rfl (fun _=>rfl) af (by decide)) ?_;rintro X _ ⟨_,am⟩;refine Zb X rfl (Zk (Zap (Zr (Zaf (ckk hp fun ah hp=>Zd (zu az rfl ah) (Zb (.n (x1+1)) rfl (Zk ?_)))))));cases hp;exact ⟨rfl,X,rfl,ax,ay,rfl,(am.pk [0])⟩
   ·refine Zby (zY ?_);cases hp;exact ⟨nofun,rfl,i,U,(j.pk [0])⟩
  rintro l1 hp _ _ _ ⟨rfl,s,aw,ao⟩;refine ZaF (Zr (Zh (Zb _ aw (Zb s rfl (Zb (.n 0) rfl (Ze (zZ (zj (zz rfl (zz rfl ZD)) ?_))))))));cases hp;exact ⟨s,rfl,(ao.pk [0])⟩

theorem ZbQ.ok {h:Hp}{a:List Za}{b:List Za}{v_a:V}{v_b:V}(s_a:Sl Zf h v_a a) (s_b:Sl Zf h v_b b) {r:Bool}(hp:ZbQ a b=some r) :
  ∃ u k',Is G 56 [v_a,v_b] h u k'∧V.b r=u∧Own (fun r=>r<h.n) h k' []:=by
 refine WC.is (ZaT ZeH ?_);unfold ZbQ at hp;let B:Nat→Prop:=(fun r=>r<h.n);have hO:Own B h h []:=Own.start0 h;refine Zh (Zb (.b false) rfl (Ze (Z9 (Zh (Zb v_a rfl (Zd (Zaz (hO.rd0 s_a.rd) rfl) (Zb v_b rfl (Zd (Zaz (hO.rd0 s_b.rd) rfl) (Zd (Zcz rfl rfl) (Zk ?_))))))))));refine Zr (z8 hp rfl (fun s hp=>?_) (fun s hp=>?_))
 ·refine Zh (Zb (.b false) rfl (Ze (zZ (ZX (zj (zz rfl ZD) ?_)))));cases hp;exact ⟨rfl,(hO.pk [])⟩
 ·refine Zaj (Z9 (Zh (Zb (.n 0) rfl (Ze (Zai (ZbI hp (fun i fr k=>fr 0=v_a∧fr 1=v_b∧fr 5=.n i∧Own B h k []) (fun|.inl _,e,fr,k=>e=(.exit 0)∧Own B h k []|.inr _,e,fr,k=>e=.ret∧fr 4=.b false∧Own B h k []) ⟨rfl,rfl,rfl,(hO.pk [])⟩ ?_ ?_))))))
  ·rintro i _ _ ⟨l,q,f,j⟩ _ hp;dsimp only [ZbQ.s0] at hp;refine Z9 (Zh (Zb _ f (Zb _ l (Zd (Zaz (j.rd0 s_a.rd) rfl) (Zd (zG rfl rfl) (Ze (z8 hp rfl (fun t hp=>?_) (fun t hp=>?_))))))))
   ·refine Zaj (Z9 (Zai (Z9 (Zgt ?_))));have d:=j.bump 9;refine Zas _ l (Zas _ f (ckk hp fun m hp=>ZI rfl (ZM (d.rd0 s_a.rd) rfl rfl m) (ZI rfl (Zez (d.rd0 s_a.rd) rfl (Zc m)) (Zas _ q (Zas _ f (ckk hp fun o hp=>ZI rfl (ZM (d.rd0 s_b.rd) rfl rfl o) (ZI rfl (Zez (d.rd0 s_b.rd) rfl (Zc o)) (ZI rfl (Zrp (as:=Zf.c (gi a i.toNat)) (bs:=Zf.c (gi b i.toNat)) rfl rfl (Mu.Zf.same _ _)) (Za8 (Zr (z8 hp rfl (fun v hp=>?_) (fun v hp=>?_))))))))))))
    ·refine Zh (Zb (.b false) rfl (Ze (zZ (Zbd (ZX ?_)))));cases hp;exact ⟨nofun,rfl,rfl,(d.pk [])⟩
    ·refine Zc8 (Zap (Zr (Zaf (Zb _ f (ckk hp fun w hp=>Zd (zu rfl rfl w) (Zb (.n (i+1)) rfl (Zk ?_)))))));cases hp;exact ⟨rfl,l,q,rfl,(d.pk [])⟩
   ·refine Zby (zY ?_);cases hp;exact ⟨nofun,rfl,(j.pk [])⟩
  rintro (_|_) hp _ _ _ p
  ·obtain ⟨rfl,g⟩:=p;refine ZaF (Zr (Zh (Zb (.b true) rfl (Ze (zZ (zj (zz rfl ZD) ?_))))));cases hp;exact ⟨rfl,(g.pk [])⟩
  ·obtain ⟨rfl,x,g⟩:=p;refine Zbd (ZX (zj (zz x ZD) ?_));cases hp;exact ⟨rfl,(g.pk [])⟩

theorem ZbF.ok {h:Hp}    {r:Bool}(hp:ZbF =some r) :
  ∃ u k',Is G 190 [] h u k'∧V.b r=u∧Own (fun r=>r<h.n) h k' []:=by
 refine WC.is (ZaT Zel ?_);unfold ZbF at hp;let B:Nat→Prop:=(fun r=>r<h.n);have hO:Own B h h []:=Own.start0 h;refine Zh (Zb (.b false) rfl (Ze (Zh ?_)));obtain ⟨x,⟨_,I,K,ar,rfl,af⟩,hp⟩:=bdk hp fun _=>Zbu.ok (h:=h)  ;refine Za7 rfl Zke K ?_;have D:=hO.call af rfl;obtain ⟨⟨x1,x2,x3⟩,⟨_,an,L,l,rfl,ag⟩,hp⟩:=bdk hp fun _=>ZaO.ok (h:=I)  (D.sl 0 rfl) (Sl.nil:Sl e_bool I .sn ([]:List Bool));refine Za7 rfl rfl L ?_;have E:=D.call ag rfl;refine Zb (.tu [l,.n x2,.n x3]) rfl (Zd (Za3 rfl rfl) (Zd (Za3 rfl rfl) (Zd (Za3 rfl rfl) (Zb l rfl (Zb (.n x2) rfl (Zb (.n x3) rfl (Ze (Zh (Zb l rfl ?_)))))))));obtain ⟨⟨x4,x5⟩,⟨_,ao,M,i,rfl,ah⟩,hp⟩:=bdk hp fun _=>ZbR.ok (h:=an)  (E.sl 1 rfl);refine Za7 rfl rfl M ?_;have ac:=E.call ah rfl;refine Zb (.tu [i,.n x5]) rfl (Zd (Za3 rfl rfl) (Zd (Za3 rfl rfl) (Zb i rfl (Zb (.n x5) rfl (Ze (Zh ?_))))));obtain ⟨x6,⟨_,J,N,au,rfl,ai⟩,hp⟩:=bdk hp fun _=>zw.ok (h:=ao)  ;refine Za7 rfl rfl N ?_;have F:=ac.call ai rfl;obtain ⟨⟨x7,x8,x9⟩,⟨_,j,O,o,rfl,aj⟩,hp⟩:=bdk hp fun _=>ZaO.ok (h:=J)  (F.sl 3 rfl) (Sl.nil:Sl e_bool J .sn ([]:List Bool));refine Za7 rfl rfl O ?_;have H:=F.call aj rfl;refine Zb (.tu [o,.n x8,.n x9]) rfl (Zd (Za3 rfl rfl) (Zd (Za3 rfl rfl) (Zd (Za3 rfl rfl) (Zb o rfl (Zb (.n x8) rfl (Zb (.n x9) rfl (Ze (Zh (Zb (.n x3) rfl (Zd (ZbL rfl rfl) (Zb (.b (decide (x3=0))) rfl (Zaq 3 (fun f k=>j=k∧f 31=.b ((decide (x3=0))&&(decide (0<x2)))∧f 2=.n x2∧f 4=i∧f 5=.n x5∧f 8=.n x9) ?_ ?_))))))))))))
 ·rcases bc (decide (x3=0)) with c|c
  ·refine Z5 rfl c (Zb (.n x2) rfl (Z5 rfl c (Zd (ZeX rfl rfl) (Zd (ZdD rfl c rfl) (Zk ?_)))));exact ⟨rfl,rfl,rfl,rfl,rfl,rfl⟩
  ·refine Zp rfl c (Zp rfl c (Zd (ZdC (w:=(decide (x3=0))&&(decide (0<x2))) rfl c rfl) (Zk ?_)));exact ⟨rfl,rfl,rfl,rfl,rfl,rfl⟩
 rintro _ _ ⟨rfl,S,R,p,q,s⟩;refine Zb _ S (Zaq 3 (fun f k=>j=k∧f 35=.b (((decide (x3=0))&&(decide (0<x2)))&&(decide (x2<3)))∧f 4=i∧f 5=.n x5∧f 8=.n x9) ?_ ?_)
 ·rcases bc ((decide (x3=0))&&(decide (0<x2))) with d|d
  ·refine Z5 rfl d (Zb _ R (Z5 rfl d (Zd (zG rfl rfl) (Zd (ZdD rfl d rfl) (Zk ?_)))));exact ⟨rfl,rfl,p,q,s⟩
  ·refine Zp rfl d (Zp rfl d (Zd (ZdC (w:=((decide (x3=0))&&(decide (0<x2)))&&(decide (x2<3))) rfl d rfl) (Zk ?_)));exact ⟨rfl,rfl,p,q,s⟩
 rintro _ _ ⟨rfl,T,y,U,A⟩;refine Zb _ T (Zaq 3 (fun f k=>j=k∧f 39=.b ((((decide (x3=0))&&(decide (0<x2)))&&(decide (x2<3)))&&(decide (x5=0)))∧f 4=i∧f 8=.n x9) ?_ ?_)
 ·rcases bc (((decide (x3=0))&&(decide (0<x2)))&&(decide (x2<3))) with e|e
  ·refine Z5 rfl e (Zb _ U (Z5 rfl e (Zd (ZbL rfl rfl) (Zd (ZdD rfl e rfl) (Zk ?_)))));exact ⟨rfl,rfl,y,A⟩
  ·refine Zp rfl e (Zp rfl e (Zd (ZdC (w:=(((decide (x3=0))&&(decide (0<x2)))&&(decide (x2<3)))&&(decide (x5=0))) rfl e rfl) (Zk ?_)));exact ⟨rfl,rfl,y,A⟩
 rintro _ _ ⟨rfl,W,X,C⟩;refine Zb _ W ?_;obtain ⟨t,am,hp⟩:=Zbj hp;refine Zaq 4 (fun f k=>Own B h k [eSl Zf ar x,eSl Zf l x1,eSl Zf i x4,eSl Zf au x6,eSl Zf o x7]∧f 44=.b t∧f 8=.n x9) ?_ ?_
 ·clear hp;rcases Zbt am with ⟨a,hp⟩|⟨a,hp⟩
  ·refine Z5 rfl a (Zb _ X (Z5 rfl a ?_));obtain ⟨x10,⟨_,ap,P,_,rfl,ak⟩,hp⟩:=bdk hp fun _=>Zbu.ok (h:=j)  ;refine Za7 rfl Zke P ?_;have m:=H.call ak rfl;refine Z5 rfl a ?_;obtain ⟨x11,⟨_,_,Q,rfl,al⟩,hp⟩:=bdk hp fun _=>ZbQ.ok (h:=ap)  (m.sl 2 rfl) (m.sl 5 rfl);refine Za7 rfl rfl Q ?_;have ad:=m.call al rfl;refine Zd (Zbh (v:=.b t) rfl a (Eq.trans (b:=V.b x11) rfl (congrArg V.b (Option.some.inj hp)))) (Zk ?_);exact ⟨ad.pk [0,1,2,3,4],rfl,C⟩
  ·refine Zp rfl a (Zp rfl a (Zp rfl a (Zd (Zba (v:=.b t) rfl a (Eq.trans (b:=V.b false) rfl (congrArg V.b (Option.some.inj hp)))) (Zk ?_))));exact ⟨H.pk [0,1,2,3,4],rfl,C⟩
 rintro _ aq ⟨ae,Y,aa⟩;refine Zb _ Y (Zaq 3 (fun f k=>aq=k∧f 48=.b (t&&(decide (x9=13)))) ?_ ?_)
 ·rcases bc t with g|g
  ·refine Z5 rfl g (Zb _ aa (Z5 rfl g (Zd (ZbL rfl rfl) (Zd (ZdD rfl g rfl) (Zk ?_)))));exact ⟨rfl,rfl⟩
  ·refine Zp rfl g (Zp rfl g (Zd (ZdC (w:=t&&(decide (x9=13))) rfl g rfl) (Zk ?_)));exact ⟨rfl,rfl⟩
 rintro _ _ ⟨rfl,ab⟩;refine Zb _ ab (Ze (zZ (zj (zz rfl ZD) ?_)));cases hp;exact ⟨rfl,(ae.pk [])⟩

theorem zI.ok {h:Hp}{l:List Za}{v_l:V}(s_l:Sl Zf h v_l l) {r:Int}(hp:zI l=some r) :
  ∃ u k',Is G 34 [v_l] h u k'∧V.n r=u∧Own (fun r=>r<h.n) h k' []:=by
 refine WC.is (ZaT Zem ?_);unfold zI at hp;let B:Nat→Prop:=(fun r=>r<h.n);have hO:Own B h h []:=Own.start0 h;refine Zh (Zb (.n 0) rfl (Ze (Z9 (Zh (Zb v_l rfl (Zd (Zaz (hO.rd0 s_l.rd) rfl) (Zd (ZeX rfl rfl) (Ze (z8 hp rfl (fun aa hp=>?_) (fun aa hp=>?_))))))))))
 ·refine Zh (Zb (.n 6) rfl (Ze (zZ (ZX (zj (zz rfl ZD) ?_)))));cases hp;exact ⟨rfl,(hO.pk [])⟩
 ·refine Zaj (Z9 (Zh (Zb (.n 0) rfl (Ze (Zai (ZbI hp (fun v fr k=>fr 0=v_l∧fr 3=.n v∧Own B h k []) (fun|.inl _,e,fr,k=>e=(.exit 0)∧Own B h k []|.inr x,e,fr,k=>e=.ret∧fr 2=.n x∧Own B h k []) ⟨rfl,rfl,(hO.pk [])⟩ ?_ ?_))))))
  ·rintro v _ _ ⟨X,Y,K⟩ _ hp;dsimp only [zI.s0] at hp;refine Z9 (Zh (Zb _ Y (Zb _ X (Zd (Zaz (K.rd0 s_l.rd) rfl) (Zd (zG rfl rfl) (Ze (z8 hp rfl (fun ac hp=>?_) (fun ac hp=>?_))))))))
   ·refine Zaj (Z9 (Zai (Zh (Zb (.n 0) rfl (Ze (Zai (ZbI hp (fun d fr k=>fr 0=v_l∧fr 3=.n v∧fr 4=.n d∧Own B h k []) (fun|.inl _,e,fr,k=>e=(.exit 2)∧fr 0=v_l∧fr 3=.n v∧Own B h k []|.inr x1,e,fr,k=>e=.ret∧fr 2=.n x1∧Own B h k []) ⟨X,Y,rfl,(K.pk [])⟩ ?_ ?_)))))))
    ·rintro d _ D ⟨p,q,s,c⟩ _ hp;dsimp only [zI.s1] at hp;refine Z9 (Zh (Zb _ s (Zd (zG rfl rfl) (Ze (z8 hp rfl (fun ad hp=>?_) (fun ad hp=>?_))))))
     ·refine Zaj (Z9 (Zai (Zh (Zb _ p (Zb _ q (Zb _ s (ckk hp fun j hp=>Zd (ZM (c.rd0 s_l.rd) rfl rfl j) (Zd (Zax (c.rd0 s_l.rd) (Zc j) rfl rfl) (ckk hp fun t hp=>Zd (Zbl (c.rd0 s_l.rd) (Zc j) rfl rfl t rfl) ?_)))))))));refine Zd (zk (c.rd0 s_l.rd) rfl (Zc j) (zx t)) (Zb (.n (((gi l v.toNat).Next).get d)) rfl (Ze (Zh (Zb _ p (Zb _ q (Zb _ s (Zd (ZM (c.rd0 s_l.rd) rfl rfl j) (Zd (Zax (c.rd0 s_l.rd) (Zc j) rfl rfl) (Zd (Zbl (c.rd0 s_l.rd) (Zc j) rfl rfl t rfl) (Zd (zk (c.rd0 s_l.rd) rfl (Zc j) (ZbV t)) (Zb (.n (((gi l v.toNat).Owner).get d)) rfl ?_)))))))))));refine Ze (Z9 (Zh (Zb (.n (((gi l v.toNat).Next).get d)) rfl (Zd (ZbL rfl rfl) (Ze (z8 hp rfl (fun ae hp=>?_) (fun ae hp=>?_)))))))
      ·refine Z9 (Zh (Zb (.n (((gi l v.toNat).Owner).get d)) rfl (Zd (Zcz rfl rfl) (Ze (z8 hp rfl (fun af hp=>?_) (fun af hp=>?_))))))
       ·refine Zh (Zb (.n 9) rfl (Ze (zZ (ZX (ZX (Zbd (ZX ?_)))))));cases hp;exact ⟨nofun,rfl,rfl,(c.pk [])⟩
       ·refine Zaj (Zby (zY (ZaF (Zr (Zaf (Zb _ s (ckk hp fun ah hp=>Zd (zu rfl rfl ah) (Zb (.n (d+1)) rfl (Zk ?_)))))))));cases hp;exact ⟨rfl,p,q,rfl,(c.pk [])⟩
      ·refine Zaj (Z9 (Zh (Zb (.n (((gi l v.toNat).Next).get d)) rfl (Zd (zG rfl rfl) (Zb (.b (decide ((((gi l v.toNat).Next).get d)<0))) rfl (Zaq 5 (fun f k=>D=k∧f 45=.b ((decide ((((gi l v.toNat).Next).get d)<0))||(decide ((l.length:Int)≤(((gi l v.toNat).Next).get d))))∧f 0=v_l∧f 3=.n v∧f 4=.n d∧f 5=.n (((gi l v.toNat).Next).get d)∧f 6=.n (((gi l v.toNat).Owner).get d)) ?_ ?_))))))
       ·rcases bc (decide ((((gi l v.toNat).Next).get d)<0)) with g|g
        ·refine Zp rfl g (Zp rfl g (Zp rfl g (Zp rfl g (Zd (Zcn (w:=(decide ((((gi l v.toNat).Next).get d)<0))||(decide ((l.length:Int)≤(((gi l v.toNat).Next).get d)))) rfl g rfl) (Zk ?_)))));exact ⟨rfl,rfl,p,q,s,rfl,rfl⟩
        ·refine Z5 rfl g (Zb (.n (((gi l v.toNat).Next).get d)) rfl (Z5 rfl g (Zb _ p (Z5 rfl g (Zd (Zaz (c.rd0 s_l.rd) rfl) (Z5 rfl g (Zd (ZcW rfl rfl) (Zd (Zco rfl g rfl) (Zk ?_)))))))));exact ⟨rfl,rfl,p,q,s,rfl,rfl⟩
       rintro _ _ ⟨rfl,ak,N,E,O,F,P⟩;refine Zb _ ak (Zaq 4 (fun f k=>D=k∧f 50=.b (((decide ((((gi l v.toNat).Next).get d)<0))||(decide ((l.length:Int)≤(((gi l v.toNat).Next).get d))))||(decide (((gi l v.toNat).Next).get d=v)))∧f 0=v_l∧f 3=.n v∧f 4=.n d∧f 5=.n (((gi l v.toNat).Next).get d)∧f 6=.n (((gi l v.toNat).Owner).get d)) ?_ ?_)
       ·rcases bc ((decide ((((gi l v.toNat).Next).get d)<0))||(decide ((l.length:Int)≤(((gi l v.toNat).Next).get d)))) with i|i
        ·refine Zp rfl i (Zp rfl i (Zp rfl i (Zd (Zcn (w:=((decide ((((gi l v.toNat).Next).get d)<0))||(decide ((l.length:Int)≤(((gi l v.toNat).Next).get d))))||(decide (((gi l v.toNat).Next).get d=v))) rfl i rfl) (Zk ?_))));exact ⟨rfl,rfl,N,E,O,F,P⟩
        ·refine Z5 rfl i (Zb _ F (Z5 rfl i (Zb _ E (Z5 rfl i (Zd (ZbL rfl rfl) (Zd (Zco rfl i rfl) (Zk ?_)))))));exact ⟨rfl,rfl,N,E,O,F,P⟩
       rintro _ _ ⟨rfl,al,A,H,C,Q,I⟩;refine Ze (z8 hp al (fun ag hp=>?_) (fun ag hp=>?_))
       ·refine Zh (Zb (.n 3) rfl (Ze (zZ (ZX (Zbd (ZX ?_))))));cases hp;exact ⟨nofun,rfl,rfl,(c.pk [])⟩
       ·refine Zaj (Zh (Zb _ A (Zb _ Q (Zb _ C (ckk hp fun M hp=>Zd (zu rfl rfl M) (Zd (Ze0 rfl rfl (by decide)) (ckk hp fun m hp=>Zd (ZM (c.rd0 s_l.rd) rfl rfl m) (Zd (Zax (c.rd0 s_l.rd) (Zc m) rfl rfl) (ckk hp fun y hp=>?_)))))))));refine Zd (Zbl (c.rd0 s_l.rd) (Zc m) rfl rfl y rfl) (Zd (zk (c.rd0 s_l.rd) rfl (Zc m) (zx y)) (Zb _ H (Zd (Zcz rfl rfl) (Zb (.b (!(decide (((gi l (((gi l v.toNat).Next).get d:Int).toNat).Next).get ((d+2).tmod 4)=v)))) rfl (Zaq 12 (fun f k=>D=k∧f 74=.b ((!(decide (((gi l (((gi l v.toNat).Next).get d:Int).toNat).Next).get ((d+2).tmod 4)=v)))||(!(decide (((gi l (((gi l v.toNat).Next).get d:Int).toNat).Owner).get ((d+2).tmod 4)=((gi l v.toNat).Owner).get d))))∧f 0=v_l∧f 3=.n v∧f 4=.n d∧f 6=.n (((gi l v.toNat).Owner).get d)) ?_ ?_)))))
        ·rcases bc (!(decide (((gi l (((gi l v.toNat).Next).get d:Int).toNat).Next).get ((d+2).tmod 4)=v))) with a|a
         ·refine Zp rfl a (Zp rfl a (Zp rfl a (Zp rfl a (Zp rfl a (Zp rfl a (Zp rfl a (Zp rfl a (Zp rfl a (Zp rfl a (Zp rfl a (Zd (Zcn (w:=(!(decide (((gi l (((gi l v.toNat).Next).get d:Int).toNat).Next).get ((d+2).tmod 4)=v)))||(!(decide (((gi l (((gi l v.toNat).Next).get d:Int).toNat).Owner).get ((d+2).tmod 4)=((gi l v.toNat).Owner).get d)))) rfl a rfl) (Zk ?_))))))))))));exact ⟨rfl,rfl,A,H,C,I⟩
         ·refine Z5 rfl a (Zb _ A (Z5 rfl a (Zb _ Q (Z5 rfl a (Zb _ C (Z5 rfl a (Zd (zu rfl rfl M) (Z5 rfl a (Zd (Ze0 rfl rfl (by decide)) (Z5 rfl a (Zd (ZM (c.rd0 s_l.rd) rfl rfl m) (Z5 rfl a (Zd (Zax (c.rd0 s_l.rd) (Zc m) rfl rfl) ?_)))))))))))));refine Z5 rfl a (Zd (Zbl (c.rd0 s_l.rd) (Zc m) rfl rfl y rfl) (Z5 rfl a (Zd (zk (c.rd0 s_l.rd) rfl (Zc m) (ZbV y)) (Z5 rfl a (Zb _ I (Z5 rfl a (Zd (Zcz rfl rfl) (Zd (Zco rfl a rfl) (Zk ?_)))))))));exact ⟨rfl,rfl,A,H,C,I⟩
        rintro _ _ ⟨rfl,an,R,S,T,am⟩;refine Zb _ an (Zaq 3 (fun f k=>D=k∧f 78=.b (((!(decide (((gi l (((gi l v.toNat).Next).get d:Int).toNat).Next).get ((d+2).tmod 4)=v)))||(!(decide (((gi l (((gi l v.toNat).Next).get d:Int).toNat).Owner).get ((d+2).tmod 4)=((gi l v.toNat).Owner).get d))))||(decide ((((gi l v.toNat).Owner).get d)<(-2))))∧f 0=v_l∧f 3=.n v∧f 4=.n d) ?_ ?_)
        ·rcases bc ((!(decide (((gi l (((gi l v.toNat).Next).get d:Int).toNat).Next).get ((d+2).tmod 4)=v)))||(!(decide (((gi l (((gi l v.toNat).Next).get d:Int).toNat).Owner).get ((d+2).tmod 4)=((gi l v.toNat).Owner).get d)))) with o|o
         ·refine Zp rfl o (Zp rfl o (Zd (Zcn (w:=((!(decide (((gi l (((gi l v.toNat).Next).get d:Int).toNat).Next).get ((d+2).tmod 4)=v)))||(!(decide (((gi l (((gi l v.toNat).Next).get d:Int).toNat).Owner).get ((d+2).tmod 4)=((gi l v.toNat).Owner).get d))))||(decide ((((gi l v.toNat).Owner).get d)<(-2)))) rfl o rfl) (Zk ?_)));exact ⟨rfl,rfl,R,S,T⟩
         ·refine Z5 rfl o (Zb _ am (Z5 rfl o (Zd (zG rfl rfl) (Zd (Zco rfl o rfl) (Zk ?_)))));exact ⟨rfl,rfl,R,S,T⟩
        rintro _ _ ⟨rfl,ar,ao,ap,aq⟩;refine Ze (z8 hp ar (fun ab hp=>?_) (fun ab hp=>?_))
        ·refine Zh (Zb (.n 9) rfl (Ze (zZ (Zbd (ZX ?_)))));cases hp;exact ⟨nofun,rfl,rfl,(c.pk [])⟩
        ·refine Zc8 (Zap (Zr (Zaf (Zb _ aq (ckk hp fun ai hp=>Zd (zu rfl rfl ai) (Zb (.n (d+1)) rfl (Zk ?_)))))));cases hp;exact ⟨rfl,ao,ap,rfl,(c.pk [])⟩
     ·refine Zby (zY ?_);cases hp;exact ⟨nofun,rfl,p,q,(c.pk [])⟩
    rintro (_|x1) hp _ _ _ W
    ·obtain ⟨rfl,av,ax,L⟩:=W;refine ZaF (Zap (Zr (Zaf (Zb _ ax (ckk hp fun aj hp=>Zd (zu rfl rfl aj) (Zb (.n (v+1)) rfl (Zk ?_)))))));cases hp;exact ⟨rfl,av,rfl,(L.pk [])⟩
    ·obtain ⟨rfl,aw,L⟩:=W;refine Zbd (Zbd (ZX ?_));cases hp;exact ⟨nofun,rfl,aw,(L.pk [])⟩
   ·refine Zby (zY ?_);cases hp;exact ⟨nofun,rfl,(K.pk [])⟩
  rintro (_|x) hp _ _ _ U
  ·obtain ⟨rfl,J⟩:=U;refine ZaF (Zr (Zh (Zb (.n 0) rfl (Ze (zZ (zj (zz rfl ZD) ?_))))));cases hp;exact ⟨rfl,(J.pk [])⟩
  ·obtain ⟨rfl,au,J⟩:=U;refine Zbd (ZX (zj (zz au ZD) ?_));cases hp;exact ⟨rfl,(J.pk [])⟩

theorem zh.ok {h:Hp}{l:List Za}{v:Int}{v_l:V}(s_l:Sl Zf h v_l l) {r:(List Int)}(hp:zh l v=some r) :
  ∃ u k',Is G 36 [v_l,.n v] h u k'∧∃ an,an=u∧Own (fun r=>r<h.n) h k' [eSl zB an r]:=by
 refine WC.is (ZaT ZeW ?_);unfold zh at hp;let B:Nat→Prop:=(fun r=>r<h.n);have hO:Own B h h []:=Own.start0 h;refine Zh (Zb (.sn) rfl (Ze (Zh (Zb v_l rfl (Zd (Zaz (hO.rd0 s_l.rd) rfl) (ckk hp fun av hp=>Zac (hO.mks (E:=zB) (y:=(0:Int)) (bytes:=8) (z:=(l.length:Int)) hO.fr rfl rfl rfl av (by decide)) ?_))))));rintro a _ ⟨_,_,aF⟩;refine Zb a rfl (Ze (Z9 (Zh (Zb (.n 0) rfl (Ze (Zai (ZbI hp (fun|(far,i),fr,k=>fr 0=v_l∧fr 1=.n v∧fr 5=a∧fr 6=.n i∧Own B h k [eSl zB a far]) (fun far1 e fr k=>e=(.exit 0)∧fr 0=v_l∧fr 1=.n v∧fr 5=a∧Own B h k [eSl zB a far1]) ⟨rfl,rfl,rfl,rfl,(aF.pk [0])⟩ ?_ ?_)))))))
 ·rintro ⟨far,i⟩ _ _ ⟨K,ag,L,M,p⟩ _ hp;dsimp only [zh.s0] at hp;refine Z9 (Zh (Zb _ M (Zb _ K (Zd (Zaz (p.rd0 s_l.rd) rfl) (Zd (zG rfl rfl) (Ze (z8 hp rfl (fun ao hp=>?_) (fun ao hp=>?_))))))))
  ·refine Zaj (Z9 (Zai (Zaf (Zb _ L (Zb _ M (ckk hp fun P hp=>Zd (ZM (p.sl 0 rfl) rfl rfl P) (Zac (p.ste (y:=(-1)) 0 rfl rfl (Zc P) rfl rfl ⟨rfl,Nat.le_of_ble_eq_true rfl,rfl⟩ rfl) ?_)))))));rintro _ _ ⟨rfl,_,_,aI⟩;refine Zk (Zap (Zr (Zaf (Zb _ M (ckk hp fun aA hp=>Zd (zu rfl rfl aA) (Zb (.n (i+1)) rfl (Zk ?_)))))));cases hp;exact ⟨rfl,K,ag,L,rfl,(aI.pk [0])⟩
  ·refine Zby (zY ?_);cases hp;exact ⟨nofun,rfl,K,ag,L,(p.pk [0])⟩
 rintro far1 hp _ _ _ ⟨rfl,aN,aO,af,ad⟩;refine ZaF (Zr (Zh (Zb _ af (Zb _ aO (ckk hp fun Q hp=>Zd (ZM (ad.sl 0 rfl) rfl rfl Q) (Zac (ad.ste (y:=0) 0 rfl rfl (Zc Q) rfl rfl ⟨rfl,Nat.le_of_ble_eq_true rfl,rfl⟩ rfl) ?_))))));rintro _ _ ⟨rfl,_,_,aJ⟩;refine Ze (Z9 (Zh (Zb (.n 0) rfl (Ze (Zai (ZbI hp (fun|(far2,round),fr,k=>fr 0=v_l∧fr 5=a∧fr 7=.n round∧Own B h k [eSl zB a far2]) (fun far3 e fr k=>e=(.exit 2)∧fr 5=a∧Own B h k [eSl zB a far3]) ⟨aN,af,rfl,(aJ.pk [0])⟩ ?_ ?_))))))
 ·rintro ⟨far2,round⟩ _ _ ⟨ah,ai,aj,I⟩ _ hp;dsimp only [zh.s1] at hp;refine Z9 (Zh (Zb _ aj (Zb _ ah (Zd (Zaz (I.rd0 s_l.rd) rfl) (Zd (zG rfl rfl) (Ze (z8 hp rfl (fun ap hp=>?_) (fun ap hp=>?_))))))))
  ·refine Zaj (Z9 (Zai (Zh (Zb (.n 0) rfl (Ze (Zai (ZbI hp (fun|(far4,i1),fr,k=>fr 0=v_l∧fr 5=a∧fr 7=.n round∧fr 8=.n i1∧Own B h k [eSl zB a far4]) (fun far5 e fr k=>e=(.exit 4)∧fr 0=v_l∧fr 5=a∧fr 7=.n round∧Own B h k [eSl zB a far5]) ⟨ah,ai,aj,rfl,(I.pk [0])⟩ ?_ ?_)))))))
   ·rintro ⟨far4,i1⟩ _ _ ⟨N,ak,al,am,J⟩ _ hp;dsimp only [zh.s2] at hp;refine Z9 (Zh (Zb _ am (Zb _ N (Zd (Zaz (J.rd0 s_l.rd) rfl) (Zd (zG rfl rfl) (Ze (z8 hp rfl (fun aq hp=>?_) (fun aq hp=>?_))))))))
    ·refine Zaj (Z9 (Zai (Zh (Zb (.n 0) rfl (Ze (Zai (ZbI hp (fun|(far6,d),fr,k=>fr 0=v_l∧fr 5=a∧fr 7=.n round∧fr 8=.n i1∧fr 9=.n d∧Own B h k [eSl zB a far6]) (fun far7 e fr k=>e=(.exit 6)∧fr 0=v_l∧fr 5=a∧fr 7=.n round∧fr 8=.n i1∧Own B h k [eSl zB a far7]) ⟨N,ak,al,am,rfl,(J.pk [0])⟩ ?_ ?_)))))))
     ·rintro ⟨far6,d⟩ _ ae ⟨q,s,x,m,A,g⟩ _ hp;dsimp only [zh.s3] at hp;refine Z9 (Zh (Zb _ A (Zd (zG rfl rfl) (Ze (z8 hp rfl (fun ar hp=>?_) (fun ar hp=>?_))))))
      ·refine Zaj (Z9 (Zai (Zh (Zb _ q (Zb _ m (Zb _ A (ckk hp fun o hp=>Zd (ZM (g.rd0 s_l.rd) rfl rfl o) (Zd (Zax (g.rd0 s_l.rd) (Zc o) rfl rfl) (ckk hp fun R hp=>Zd (Zbl (g.rd0 s_l.rd) (Zc o) rfl rfl R rfl) ?_)))))))));refine Zd (zk (g.rd0 s_l.rd) rfl (Zc o) (zx R)) (Zb (.n (((gi l i1.toNat).Next).get d)) rfl (Ze (Zh (Zb _ s (Zb _ m (ckk hp fun S hp=>Zd (ZM (g.sl 0 rfl) rfl rfl S) (Zd (zk (g.sl 0 rfl) rfl (Zc S) rfl) (Zb _ x (Zd (ZbL rfl rfl) (Zb (.b (decide (gi far6 i1.toNat=round))) rfl (Zaq 3 (fun f k=>ae=k∧f 58=.b ((decide (gi far6 i1.toNat=round))&&(decide (0≤(((gi l i1.toNat).Next).get d))))∧f 0=v_l∧f 10=.n (((gi l i1.toNat).Next).get d)∧f 5=a∧f 7=.n round∧f 8=.n i1∧f 9=.n d) ?_ ?_)))))))))))
       ·rcases bc (decide (gi far6 i1.toNat=round)) with j|j
        ·refine Z5 rfl j (Zb (.n (((gi l i1.toNat).Next).get d)) rfl (Z5 rfl j (Zd (ZcW rfl rfl) (Zd (ZdD rfl j rfl) (Zk ?_)))));exact ⟨rfl,rfl,q,rfl,s,x,m,A⟩
        ·refine Zp rfl j (Zp rfl j (Zd (ZdC (w:=(decide (gi far6 i1.toNat=round))&&(decide (0≤(((gi l i1.toNat).Next).get d)))) rfl j rfl) (Zk ?_)));exact ⟨rfl,rfl,q,rfl,s,x,m,A⟩
       rintro _ _ ⟨rfl,aC,U,C,D,W,X,Y⟩;refine Zb _ aC ?_;obtain ⟨t,aM,hp⟩:=Zbj hp;refine Zaq 7 (fun f k=>ae=k∧f 66=.b t∧f 0=v_l∧f 10=.n (((gi l i1.toNat).Next).get d)∧f 5=a∧f 7=.n round∧f 8=.n i1∧f 9=.n d) ?_ ?_
       ·clear hp;rcases Zbt aM with ⟨c,hp⟩|⟨c,hp⟩
        ·refine Z5 rfl c (Zb _ D (Z5 rfl c (Zb _ C (Z5 rfl c (Zd (ZmH rfl rfl) (Z5 rfl c (ckk hp fun T hp=>Zd (ZM (g.sl 0 rfl) rfl rfl T) (Z5 rfl c (Zd (zk (g.sl 0 rfl) rfl (Zc T) rfl) (Z5 rfl c (Zd (zG rfl rfl) (Zd (Zbh (v:=.b t) rfl c (Eq.trans (b:=V.b (decide ((gi far6 (max (((gi l i1.toNat).Next).get d) 0:Int).toNat)<0))) rfl (congrArg V.b (Option.some.inj hp)))) ?_))))))))))));refine Zk ?_;exact ⟨rfl,rfl,U,C,D,W,X,Y⟩
        ·refine Zp rfl c (Zp rfl c (Zp rfl c (Zp rfl c (Zp rfl c (Zp rfl c (Zd (Zba (v:=.b t) rfl c (Eq.trans (b:=V.b false) rfl (congrArg V.b (Option.some.inj hp)))) (Zk ?_)))))));exact ⟨rfl,rfl,U,C,D,W,X,Y⟩
       rintro _ _ ⟨rfl,aE,aa,aD,F,H,ab,ac⟩;refine Ze (z8 hp aE (fun au hp=>?_) (fun au hp=>?_))
       ·refine Zaf (Zb _ F (Zb _ aD (Zb _ H (ckk hp fun aB hp=>Zd (zu rfl rfl aB) (ckk hp fun O hp=>Zd (ZM (g.sl 0 rfl) rfl rfl O) (Zac (g.ste (y:=(round+1)) 0 rfl rfl (Zc O) rfl rfl ⟨rfl,Nat.le_of_ble_eq_true rfl,rfl⟩ rfl) ?_))))));rintro _ _ ⟨rfl,_,_,aH⟩;refine Zk (Zap (Zr (Zaf (Zb _ ac (ckk hp fun aw hp=>Zd (zu rfl rfl aw) (Zb (.n (d+1)) rfl (Zk ?_)))))));cases hp;exact ⟨rfl,aa,F,H,ab,rfl,(aH.pk [0])⟩
       ·refine Zc8 (Zap (Zr (Zaf (Zb _ ac (ckk hp fun ax hp=>Zd (zu rfl rfl ax) (Zb (.n (d+1)) rfl (Zk ?_)))))));cases hp;exact ⟨rfl,aa,F,H,ab,rfl,(g.pk [0])⟩
      ·refine Zby (zY ?_);cases hp;exact ⟨nofun,rfl,q,s,x,m,(g.pk [0])⟩
     rintro far7 hp _ _ _ ⟨rfl,aT,aU,aV,aW,aG⟩;refine ZaF (Zap (Zr (Zaf (Zb _ aW (ckk hp fun ay hp=>Zd (zu rfl rfl ay) (Zb (.n (i1+1)) rfl (Zk ?_)))))));cases hp;exact ⟨rfl,aT,aU,aV,rfl,(aG.pk [0])⟩
    ·refine Zby (zY ?_);cases hp;exact ⟨nofun,rfl,N,ak,al,(J.pk [0])⟩
   rintro far5 hp _ _ _ ⟨rfl,aQ,aR,aS,aL⟩;refine ZaF (Zap (Zr (Zaf (Zb _ aS (ckk hp fun az hp=>Zd (zu rfl rfl az) (Zb (.n (round+1)) rfl (Zk ?_)))))));cases hp;exact ⟨rfl,aQ,aR,rfl,(aL.pk [0])⟩
  ·refine Zby (zY ?_);cases hp;exact ⟨nofun,rfl,ai,(I.pk [0])⟩
 rintro far3 hp _ _ _ ⟨rfl,aP,aK⟩;refine ZaF (Zr (Zh (Zb _ aP (Zb a rfl (Ze (zZ (zj (zz rfl ZD) ?_)))))));cases hp;exact ⟨a,rfl,(aK.pk [0])⟩

end Mu
