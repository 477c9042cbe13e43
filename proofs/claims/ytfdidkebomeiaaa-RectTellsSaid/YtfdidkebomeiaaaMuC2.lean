/- The code comes to what was worked out. -/
import Derived.Test.YtfdidkebomeiaaaMuDf
import Derived.Test.YtfdidkebomeiaaaMuPa
import Derived.Test.YtfdidkebomeiaaaMuC1
set_option linter.unusedVariables false
set_option linter.unnecessarySimpa false
set_option linter.unusedSimpArgs false
set_option maxHeartbeats 2000000
set_option maxRecDepth 10000
namespace Mu
open Go (IntKind BinOp UnOp)
theorem Zb2.ok {h:Hp}{turns:List Int}{v_turns:V}(s_turns:Sl Zad h v_turns turns) {r:Int×Bool}(hp:Zb2 turns=some r) :
  ∃ u k',Is G 15 [v_turns] h u k'∧V.tu [.n r.1,.b r.2]=u∧Own (fun r=>r<h.n) h k' []:=by
 refine WC.is (ZaD Zgu ?_)
 unfold Zb2 at hp
 let B:Nat→Prop:=(fun r=>r<h.n)
 have hO:Own B h h []:=Own.start0 h
 refine Zg (Zb (.n 0) rfl (Zb (.b false) rfl (Ze (Z9 (Zg (Zb v_turns rfl ?_))))))
 obtain ⟨x,⟨_,_,A,rfl,K⟩,hp⟩:=bdk hp fun _=>ZcF.ok (h:=h)  (hO.rd0 s_turns.rd)
 refine zU rfl rfl A ?_
 have g:=hO.call K rfl
 refine Zc (ZcJ rfl) (Ze (zu hp rfl (fun s hp=>?_) (fun s hp=>?_)))
 ·refine Zg (Zb (.n 0) rfl (Zb (.b false) rfl (Ze (zK (ZI (ZN (ZY rfl (ZY rfl Z6)) ?_))))))
  cases hp
  exact ⟨rfl,(g.pk [])⟩
 ·refine Zak (Z9 (Zg (Zb v_turns rfl (Zc (Zap (g.rd0 s_turns.rd) rfl) (Zb (.n 0) rfl (Ze (Zai (ZbM hp (fun x1 fr k=>fr 0=v_turns∧fr 11=v_turns∧fr 12=.n (turns.length:Int)∧fr 13=.n x1∧Own B h k []) (fun|.inl _,e,fr,k=>e=(.exit 0)∧Own B h k []|.inr x2,e,fr,k=>e=.ret∧fr 2=.n x2∧fr 3=.b true∧Own B h k []) ⟨rfl,rfl,rfl,rfl,(g.pk [])⟩ ?_ ?_))))))))
  ·rintro x1 _ M ⟨j,l,m,d,c⟩ _ hp
   dsimp only [Zb2.s0] at hp
   refine Zg (Zc (zA d m) (Ze (Z9 (zu hp rfl (fun t hp=>?_) (fun t hp=>?_)))))
   ·refine Zak (Z9 (Zai (Zg (Zb _ d (ckk hp fun o hp=>Zc (ZP (c.rd0 s_turns.rd) l d o) (Zc (zw (c.rd0 s_turns.rd) rfl (Zf o) rfl) (Zb (.n x1) rfl (Zb (.n (gi turns x1.toNat)) rfl (Ze ?_)))))))))
    refine Zg (Zb _ j (Zb (.n x1) rfl ?_))
    obtain ⟨⟨x3,x4⟩,⟨_,N,C,rfl,L⟩,hp⟩:=bdk hp fun _=>Zb5.ok (h:=M)  (c.rd0 s_turns.rd)
    refine zU rfl rfl C ?_
    have q:=c.call L rfl
    refine Zb (.tu [.n x3,.b x4]) rfl (Zc (zC rfl rfl) (Zc (zC rfl rfl) (Zb (.n x3) rfl (Zb (.b x4) rfl (Ze (Zg (Zb (.n (gi turns x1.toNat)) rfl (Zc (zA rfl rfl) (Zb (.b (decide ((gi turns x1.toNat)<0))) rfl (zN 3 (fun f k=>N=k∧f 29=.b ((decide ((gi turns x1.toNat)<0))&&(!x4))∧f 0=v_turns∧f 11=v_turns∧f 12=.n (turns.length:Int)∧f 13=.n x1∧f 4=.n x1) ?_ ?_))))))))))
    ·rcases bc (decide ((gi turns x1.toNat)<0)) with a|a
     ·refine Zq rfl a (Zb (.b x4) rfl (Zq rfl a (Zc (ZcJ rfl) (Zc (ZcU rfl a rfl) (Zj ?_)))))
      exact ⟨rfl,rfl,j,l,m,d,rfl⟩
     ·refine Zl rfl a (Zl rfl a (Zc (ZcT (w:=(decide ((gi turns x1.toNat)<0))&&(!x4)) rfl a rfl) (Zj ?_)))
      exact ⟨rfl,rfl,j,l,m,d,rfl⟩
    rintro _ _ ⟨rfl,I,D,E,F,H,J⟩
    refine Ze (zu hp I (fun v hp=>?_) (fun v hp=>?_))
    ·refine Zg (Zb _ J (Zb (.n x1) rfl (Zb (.b true) rfl (Ze (zK (ZaZ (ZI ?_)))))))
     cases hp
     exact ⟨nofun,rfl,rfl,rfl,(q.pk [])⟩
    ·refine ZcB (Zam (Zt (Zaf (ckk hp fun y hp=>Zc (ZV H rfl y) (Zb (.n (x1+1)) rfl (Zj ?_))))))
     cases hp
     exact ⟨rfl,D,E,F,rfl,(q.pk [])⟩
   ·refine Zb8 (zW ?_)
    cases hp
    exact ⟨nofun,rfl,(c.pk [])⟩
  rintro (_|x2) hp _ _ _ p
  ·obtain ⟨rfl,i⟩:=p
   refine Za9 (Zt (Zg (Zb (.n 0) rfl (Zb (.b false) rfl (Ze (zK (ZN (ZY rfl (ZY rfl Z6)) ?_)))))))
   cases hp
   exact ⟨rfl,(i.pk [])⟩
  ·obtain ⟨rfl,O,P,i⟩:=p
   refine ZaZ (ZI (ZN (ZY O (ZY P Z6)) ?_))
   cases hp
   exact ⟨rfl,(i.pk [])⟩

theorem Zc0.ok {h:Hp}{cells:List Za}{v_cells:V}(s_cells:Sl Zd h v_cells cells) {r:Z5×Int}(hp:Zc0 cells=some r) :
  ∃ u k',Is G 278 [v_cells] h u k'∧V.tu [.ag (Zn.c r.1),.n r.2]=u∧Own (fun r=>r<h.n) h k' []:=by
 refine WC.is (ZaD ZfI ?_)
 unfold Zc0 at hp
 let B:Nat→Prop:=(fun r=>r<h.n)
 have hO:Own B h h []:=Own.start0 h
 refine Zg (zQ (hO.alloc (cs:=Zn.c (⟨0,0⟩:Z5)) hO.fr) ?_)
 rintro _ F ⟨_,rfl,_,_,k⟩
 refine Zb (.n 0) rfl (Ze (Zg (Zb v_cells rfl ?_)))
 obtain ⟨⟨x,x1⟩,⟨_,H,t,rfl,A⟩,hp⟩:=bdk hp fun _=>ZcH.ok (h:=F)  (k.rd0 s_cells.rd)
 refine zU rfl rfl t ?_
 have i:=k.call A rfl
 refine Zb (.tu [.n x,.n x1]) rfl (Zc (zC rfl rfl) (Zc (zC rfl rfl) (Zb (.n x) rfl (Zb (.n x1) rfl (Ze (Z9 (Zg (Zb (.n x1) rfl (Zc (Zca rfl rfl) (Ze (zu hp rfl (fun s hp=>?_) (fun s hp=>?_))))))))))))
 ·refine Zg (Zc (Zdy (cs:=Zn.c (⟨(0:Int),(0:Int)⟩:Z5)) (by rw [Zbb];rfl)) (Zb (.n x1) rfl (zQ (i.stb (cs':=Zn.c (⟨(0:Int),(0:Int)⟩:Z5)) 0 rfl rfl rfl rfl ⟨rfl,Nat.le_of_ble_eq_true rfl,rfl⟩ rfl) ?_)))
  rintro _ _ ⟨rfl,_,_,l⟩
  refine Zb (.n x1) rfl (Ze (zK (ZI (ZN (ZiR rfl (l.box 0 rfl) rfl (ZY rfl Z6)) ?_))))
  cases hp
  exact ⟨rfl,(l.pk [])⟩
 ·refine Zak (Zg (Zb v_cells rfl ?_))
  obtain ⟨⟨x2,x3⟩,⟨_,p,v,g,f,rfl,C⟩,hp⟩:=bdk hp fun _=>Zan.ok (h:=H)  (i.rd0 s_cells.rd)
  refine zU rfl rfl v ?_
  have d:=i.call C rfl
  refine Zb (.tu [g,.n x3]) rfl (Zc (zC rfl rfl) (Zc (zC rfl rfl) (Zb g rfl (Zb (.n x3) rfl (Ze (Zg (Zb v_cells rfl (Zb g rfl (Zb (.n x) rfl (ckk hp fun a hp=>Zc (ZP (d.sl 1 rfl) rfl rfl (by rw [(d.allLen 2 rfl:(f).length=(x2).length)];exact a)) ?_))))))))))
  refine Zc (zw (d.sl 1 rfl) rfl (by rw [(d.allLen 2 rfl:(f).length=(x2).length)];exact Zf a) rfl) ?_
  obtain ⟨x4,⟨_,I,w,_,rfl,D⟩,hp⟩:=bdk hp fun _=>Zbm.ok (h:=p)  (d.rd0 s_cells.rd) (d.inn 2 rfl (Zf a):Sl Zn p (gi f x.toNat) (gi x2 x.toNat))
  refine zU rfl rfl w ?_
  have m:=d.call D rfl
  obtain ⟨⟨x5,x6⟩,⟨_,q,y,rfl,E⟩,hp⟩:=bdk hp fun _=>Zb2.ok (h:=I)  (m.sl 3 rfl)
  refine zU rfl rfl y ?_
  have e:=m.call E rfl
  refine Zb (.tu [.n x5,.b x6]) rfl (Zc (zC rfl rfl) (Zc (zC rfl rfl) (Zb (.n x5) rfl (Zb (.b x6) rfl (Ze (Zg (Zb g rfl (Zb (.n x) rfl (Zc (ZP (e.sl 1 rfl) rfl rfl (by rw [(e.allLen 2 rfl:(f).length=(x2).length)];exact a)) (Zc (zw (e.sl 1 rfl) rfl (by rw [(e.allLen 2 rfl:(f).length=(x2).length)];exact Zf a) rfl) (Zb (.n x5) rfl ?_)))))))))))
  refine ckk hp fun j hp=>Zc (ZP (e.inn 2 rfl (Zf a):Sl Zn q (gi f x.toNat) (gi x2 x.toNat)) rfl rfl j) (Zc (Zfm (e.inn 2 rfl (Zf a):Sl Zn q (gi f x.toNat) (gi x2 x.toNat)) rfl (Zf j)) (zQ (e.stb (cs':=Zn.c (gi (gi x2 x.toNat) x5.toNat)) 0 rfl rfl rfl rfl ⟨rfl,Nat.le_of_ble_eq_true rfl,rfl⟩ rfl) ?_))
  rintro _ _ ⟨rfl,_,_,o⟩
  refine Zb (.n 0) rfl (Ze (zK (ZN (ZiR rfl (o.box 0 rfl) rfl (ZY rfl Z6)) ?_)))
  cases hp
  exact ⟨rfl,(o.pk [])⟩

theorem ZaH.ok {h:Hp}{s:List Za}{v_s:V}(s_s:Sl Zd h v_s s) {r:List Za}(hp:ZaH s=some r) :
  ∃ u k',Is G 51 [v_s] h u k'∧∃ v,v=u∧Own (fun r=>r<h.n) h k' [eSl Zd v r]:=by
 refine WC.is (ZaD ZdI ?_)
 obtain ⟨c1,hp⟩:=Zj8 hp
 cases hp
 have hO:Own (fun r=>r<h.n) h h []:=Own.start0 h
 refine Zg (Zb (.sn) rfl (Ze (Z9 (Zg (Zb v_s rfl ?_)))))
 rcases Zqe s_s with ⟨rfl,rfl⟩|hn
 ·refine Zc (v:=.b true) rfl (Ze (Zq2 rfl rfl (Zg (Zb (.sn) rfl (Ze (zK (ZI (ZN (ZY rfl Z6) ?_))))))))
  exact ⟨.sn,rfl,hO.nil Zd⟩
 ·refine Zc (Zq7 (v:=v_s) hn rfl rfl) (Ze (Zkt rfl rfl (Zak (Zg (zQ (hO.bsl (E:=Zd) (l:=[]) hO.fr rfl rfl) ?_)))))
  rintro v1 k1 ⟨r1,f1,hW⟩
  have hO1:Own (fun r=>r<h.n) h k1 [eSl Zd v1 []]:=hW
  refine Zb v_s rfl (zQ (hO1.app (bytes:=64) 0 hO1.fr rfl (hO1.rd0 s_s.rd) rfl rfl (fun _=>rfl) (by simpa using c1) (by decide)) ?_)
  rintro v2 k2 ⟨f2,hW⟩
  have hO2:Own (fun r=>r<h.n) h k2 [eSl Zd v2 ([]++s)]:=hW
  refine Zb v2 rfl (Ze (zK (ZN (ZY rfl Z6) ?_)))
  exact ⟨v2,rfl,hO2⟩

theorem Ze4.ok {h:Hp}{cells:List Za}{v_cells:V}(s_cells:Sl Zd h v_cells cells) {r:(Option zj)×Int}(hp:Ze4 cells=some r) :
  ∃ u k',Is G 119 [v_cells] h u k'∧∃ d f,V.tu [(if (r.1).isSome=true then V.p d 0 else V.pn),.n r.2]=u∧Own (fun r=>r<h.n) h k' [eIf (r.1).isSome (zO d [f]),eIf (r.1).isSome (eSl Zd f ((r.1.getD default).cells))]:=by
 refine WC.is (ZaD ZhH ?_)
 unfold Ze4 at hp
 let B:Nat→Prop:=(fun r=>r<h.n)
 have hO:Own B h h []:=Own.start0 h
 refine Zg (Zb (.pn) rfl (Zb (.n 0) rfl (Ze (Z9 (Zg (Zb v_cells rfl ?_))))))
 obtain ⟨x,⟨_,o,i,rfl,l⟩,hp⟩:=bdk hp fun _=>Zau.ok (h:=h)  (hO.rd0 s_cells.rd)
 refine zU rfl rfl i ?_
 have b:=hO.call l rfl
 refine Zb (.n x) rfl (Ze (Zg (Zb (.n x) rfl (Zc (Zca rfl rfl) (Ze (zu hp rfl (fun g hp=>?_) (fun g hp=>?_)))))))
 ·refine Zg (Zb (.n x) rfl (Zb (.pn) rfl (Zb (.n x) rfl (Ze (zK (ZI (ZN (ZY rfl (ZY rfl Z6)) ?_)))))))
  cases hp
  exact ⟨0,V.sn,rfl,(b.pk [900,901])⟩
 ·refine Zak (Zg (Zb v_cells rfl ?_))
  obtain ⟨x1,⟨_,_,j,a,rfl,m⟩,hp⟩:=bdk hp fun _=>ZaH.ok (h:=o)  (b.rd0 s_cells.rd)
  refine zU rfl rfl j ?_
  have c:=b.call m rfl
  refine Zc (Zdy (cs:=[a]) (by rw [(zf (v:=a) rfl Zbb)];simp [fill,over,Zj4,Zj2,Zj3,Zj6,Zj1,Zj5,(c.sl 0 rfl).cells])) (zQ (c.boxd (cs:=[a]) c.fr rfl rfl) ?_)
  rintro _ _ ⟨e,rfl,_,_,k⟩
  refine Zb (.p e 0) rfl (Zb (.n 0) rfl (Ze (zK (ZN (ZY rfl (ZY rfl Z6)) ?_))))
  cases hp
  exact ⟨e,a,rfl,(k.pk [1,0])⟩

theorem Zbs.ok {h:Hp}{g:zj}{r_g:Nat}{v_g_cells:V}{w_g:Bool}(b_g:h.m r_g=some (.cells w_g [v_g_cells])) (s_g_cells:Sl Zd h v_g_cells g.cells) {r:Int}(hp:Zbs g=some r) :
  ∃ u k',Is G 55 [.p r_g 0] h u k'∧V.n r=u∧Own (fun r=>r<h.n) h k' []:=by
 refine WC.is (ZaD Zf1 ?_)
 unfold Zbs at hp
 let B:Nat→Prop:=(fun r=>r<h.n)
 have hO:Own B h h []:=Own.start0 h
 refine Zg (Zb (.n 0) rfl (Ze (Z9 (Zg (Zb (.p r_g 0) rfl (Zc (Zkv rfl rfl) (Ze (Zkt rfl rfl (ZcB ?_)))))))))
 refine Zt (Zg (Zb (.p r_g 0) rfl (Zc (Ze1 rfl) (Zc (Zal (r:=r_g) (o:=0) rfl rfl) (Zc (zy (hO.rdB0 (RdB.of b_g)).choose_spec rfl rfl) (Zc (Zap (hO.rd0 s_g_cells.rd) rfl) (Zb (.n (g.cells.length:Int)) rfl (Ze (zK (ZN (ZY rfl Z6) ?_))))))))))
 cases hp
 exact ⟨rfl,(hO.pk [])⟩

theorem ZbD.ok {h:Hp}{g:zj}{v:Int}{d:Int}{r_g:Nat}{v_g_cells:V}{w_g:Bool}(b_g:h.m r_g=some (.cells w_g [v_g_cells])) (s_g_cells:Sl Zd h v_g_cells g.cells) {r:Bool}(hp:ZbD g v d=some r) :
  ∃ u k',Is G 75 [.p r_g 0,.n v,.n d] h u k'∧V.b r=u∧Own (fun r=>r<h.n) h k' []:=by
 refine WC.is (ZaD ZfH ?_)
 unfold ZbD at hp
 let B:Nat→Prop:=(fun r=>r<h.n)
 have hO:Own B h h []:=Own.start0 h
 refine Zg (Zb (.b false) rfl (Ze (Zg (Zb (.n v) rfl (Zc (Zda rfl rfl) (Zb (.b (decide (0≤v))) rfl ?_))))))
 obtain ⟨t,D,hp⟩:=ZaP hp
 refine zN 5 (fun f k=>Own B h k []∧f 14=.b t∧f 2=.n d) ?_ ?_
 ·clear hp;rcases Zbi D with ⟨a,hp⟩|⟨a,hp⟩
  ·refine Zq rfl a (Zb (.n v) rfl (Zq rfl a (Zb (.p r_g 0) rfl (Zq rfl a ?_))))
   obtain ⟨x,⟨_,_,i,rfl,A⟩,hp⟩:=bdk hp fun _=>Zbs.ok (h:=h)  (hO.rdB0 (RdB.of b_g)).choose_spec (hO.rd0 s_g_cells.rd)
   refine zU rfl rfl i ?_
   have s:=hO.call A rfl
   refine Zq rfl a (Zc (zA rfl rfl) (Zc (ZaT (v:=.b t) rfl a (Eq.trans (b:=V.b (decide (v<x))) rfl (congrArg V.b (Option.some.inj hp)))) (Zj ?_)))
   exact ⟨s.pk [],rfl,rfl⟩
  ·refine Zl rfl a (Zl rfl a (Zl rfl a (Zl rfl a (Zc (ZaI (v:=.b t) rfl a (Eq.trans (b:=V.b false) rfl (congrArg V.b (Option.some.inj hp)))) (Zj ?_)))))
   exact ⟨hO.pk [],rfl,rfl⟩
 rintro _ F ⟨e,l,o⟩
 refine Zb _ l ?_
 obtain ⟨t1,E,hp⟩:=ZaP hp
 refine zN 3 (fun f k=>Own B h k []∧f 18=.b t1) ?_ ?_
 ·clear hp;rcases Zbi E with ⟨c,hp⟩|⟨c,hp⟩
  ·refine Zq rfl c (Zb _ o (Zq rfl c ?_))
   obtain ⟨x1,⟨_,_,j,rfl,C⟩,hp⟩:=bdk hp fun _=>Zbv.ok (h:=F)  
   refine zU rfl rfl j ?_
   have w:=e.call C rfl
   refine Zc (ZaT (v:=.b t1) rfl c (Eq.trans (b:=V.b x1) rfl (congrArg V.b (Option.some.inj hp)))) (Zj ?_)
   exact ⟨w.pk [],rfl⟩
  ·refine Zl rfl c (Zl rfl c (Zc (ZaI (v:=.b t1) rfl c (Eq.trans (b:=V.b false) rfl (congrArg V.b (Option.some.inj hp)))) (Zj ?_)))
   exact ⟨e.pk [],rfl⟩
 rintro _ _ ⟨y,q⟩
 refine Zb _ q (Ze (zK (ZN (ZY rfl Z6) ?_)))
 cases hp
 exact ⟨rfl,(y.pk [])⟩

theorem Zbq.ok {h:Hp}{g:zj}{v:Int}{d:Int}{r_g:Nat}{v_g_cells:V}{w_g:Bool}(b_g:h.m r_g=some (.cells w_g [v_g_cells])) (s_g_cells:Sl Zd h v_g_cells g.cells) {r:Int×Int×Bool}(hp:Zbq g v d=some r) :
  ∃ u k',Is G 54 [.p r_g 0,.n v,.n d] h u k'∧V.tu [.n r.1,.n r.2.1,.b r.2.2]=u∧Own (fun r=>r<h.n) h k' []:=by
 refine WC.is (ZaD Zfi ?_)
 unfold Zbq at hp
 let B:Nat→Prop:=(fun r=>r<h.n)
 have hO:Own B h h []:=Own.start0 h
 refine Zg (Zb (.n 0) rfl (Zb (.n 0) rfl (Zb (.b false) rfl (Ze (Z9 (Zg (Zb (.p r_g 0) rfl (Zb (.n v) rfl (Zb (.n d) rfl ?_)))))))))
 obtain ⟨x,⟨_,H,C,rfl,E⟩,hp⟩:=bdk hp fun _=>ZbD.ok (h:=h)  (hO.rdB0 (RdB.of b_g)).choose_spec (hO.rd0 s_g_cells.rd)
 refine zU rfl rfl C ?_
 have i:=hO.call E rfl
 refine Zc (ZcJ rfl) (Zb (.b (!x)) rfl ?_)
 obtain ⟨t,F,hp⟩:=ZaP hp
 refine zN 12 (fun f k=>H=k∧f 26=.b t∧f 0=.p r_g 0∧f 1=.n v∧f 2=.n d) ?_ ?_
 ·clear hp;rcases Zbi F with ⟨a,hp⟩|⟨a,hp⟩
  ·refine Zl rfl a (Zl rfl a (Zl rfl a (Zl rfl a (Zl rfl a (Zl rfl a (Zl rfl a (Zl rfl a (Zl rfl a (Zl rfl a (Zl rfl a (Zc (ZaT (v:=.b t) rfl a (Eq.trans (b:=V.b true) rfl (congrArg V.b (Option.some.inj hp)))) (Zj ?_))))))))))))
   exact ⟨rfl,rfl,rfl,rfl,rfl⟩
  ·refine Zq rfl a (Zb (.p r_g 0) rfl (Zq rfl a (Zc (Ze1 rfl) (Zq rfl a (Zc (Zal (r:=r_g) (o:=0) rfl rfl) (Zq rfl a (Zc (zy (i.rdB0 (RdB.of b_g)).choose_spec rfl rfl) (Zq rfl a (Zb (.n v) rfl (Zq rfl a (Zb (.n d) rfl (Zq rfl a (ckk hp fun j hp=>?_)))))))))))))
   refine Zc (ZP (i.rd0 s_g_cells.rd) rfl rfl j) (Zq rfl a (Zc (ZaR (i.rd0 s_g_cells.rd) (Zf j) rfl rfl) (Zq rfl a (ckk hp fun q hp=>Zc (Zbd (i.rd0 s_g_cells.rd) (Zf j) rfl rfl q rfl) (Zq rfl a (Zc (zw (i.rd0 s_g_cells.rd) rfl (Zf j) (zL q)) (Zq rfl a (Zc (Zb7 rfl rfl) (Zc (ZaI (v:=.b t) rfl a (Eq.trans (b:=V.b (decide (((gi g.cells v.toNat).Next).get d=(-1)))) rfl (congrArg V.b (Option.some.inj hp)))) (Zj ?_))))))))))
   exact ⟨rfl,rfl,rfl,rfl,rfl⟩
 rintro _ _ ⟨rfl,D,s,w,y⟩
 refine Ze (zu hp D (fun A hp=>?_) (fun A hp=>?_))
 ·refine Zg (Zb (.n 0) rfl (Zb (.n 0) rfl (Zb (.b false) rfl (Ze (zK (ZI (ZN (ZY rfl (ZY rfl (ZY rfl Z6))) ?_)))))))
  cases hp
  exact ⟨rfl,(i.pk [])⟩
 ·refine Zak (Z9 (Zhl ?_))
  have c:=i.bump 23
  refine ZaK _ s (za rfl (Ze1 rfl) (za rfl (Zal (r:=r_g) (o:=0) rfl rfl) (za rfl (zy (c.rdB0 (RdB.of b_g)).choose_spec rfl rfl) (ZaK _ w (ZaK _ y (ckk hp fun e hp=>za rfl (ZP (c.rd0 s_g_cells.rd) rfl rfl e) (za rfl (ZaR (c.rd0 s_g_cells.rd) (Zf e) rfl rfl) (ckk hp fun l hp=>za rfl (Zbd (c.rd0 s_g_cells.rd) (Zf e) rfl rfl l rfl) (za rfl (zw (c.rd0 s_g_cells.rd) rfl (Zf e) (zL l)) (ZaK _ s (za rfl (Ze1 rfl) ?_)))))))))))
  refine za rfl (Zal (r:=r_g) (o:=0) rfl rfl) (za rfl (zy (c.rdB0 (RdB.of b_g)).choose_spec rfl rfl) (ZaK _ w (ZaK _ y (za rfl (ZP (c.rd0 s_g_cells.rd) rfl rfl e) (za rfl (ZaR (c.rd0 s_g_cells.rd) (Zf e) rfl rfl) (za rfl (Zbd (c.rd0 s_g_cells.rd) (Zf e) rfl rfl l rfl) (za rfl (zw (c.rd0 s_g_cells.rd) rfl (Zf e) (Zc2 l)) (ZaK (.n (((gi g.cells v.toNat).Next).get d)) rfl (ZaK (.n (((gi g.cells v.toNat).Owner).get d)) rfl (ZaK (.b true) rfl (Zba (Zt (zK ?_)))))))))))))
  refine ZN (ZY rfl (ZY rfl (ZY rfl Z6))) ?_
  cases hp
  exact ⟨rfl,(c.pk [])⟩

theorem ZdD.ok {h:Hp}    {r:Za}(hp:ZdD =some r) :
  ∃ u k',Is G 74 [] h u k'∧V.ag (Zd.c r)=u∧Own (fun r=>r<h.n) h k' []:=by
 refine WC.is (ZaD Zgw ?_)
 unfold ZdD at hp
 let B:Nat→Prop:=(fun r=>r<h.n)
 have hO:Own B h h []:=Own.start0 h
 refine Zg (zQ (hO.alloc (cs:=Zd.c (⟨⟨0,0,0,0⟩,⟨0,0,0,0⟩⟩:Za)) hO.fr) ?_)
 rintro _ _ ⟨_,rfl,_,_,b⟩
 refine Ze (Zg (Zc (Zdy (cs:=Zdi.c (⟨(-1),(-1),(-1),(-1)⟩:A4 Int)) (by rw [(zf (v:=.n (-1)) rfl (zf (v:=.n (-1)) rfl (zf (v:=.n (-1)) rfl (zf (v:=.n (-1)) rfl Zbb))))];rfl)) (Zc (Zdy (cs:=Zd.c (⟨(⟨(-1),(-1),(-1),(-1)⟩:A4 Int),(⟨0,0,0,0⟩:A4 Int)⟩:Za)) (by rw [(zf (v:=.ag (Zdi.c (⟨(-1),(-1),(-1),(-1)⟩:A4 Int))) rfl Zbb)];rfl)) (zQ (b.stb (cs':=Zd.c (⟨(⟨(-1),(-1),(-1),(-1)⟩:A4 Int),(⟨0,0,0,0⟩:A4 Int)⟩:Za)) 0 rfl rfl rfl rfl ⟨rfl,Nat.le_of_ble_eq_true rfl,rfl⟩ rfl) ?_))))
 rintro _ _ ⟨rfl,_,_,a⟩
 refine Ze (zK (ZN (ZiR rfl (a.box 0 rfl) rfl Z6) ?_))
 cases hp
 exact ⟨rfl,(a.pk [])⟩

theorem Zcl.ok {h:Hp}{g:zj}{r_g:Nat}{v_g_cells:V}(H:Own (Bm h [zO r_g [v_g_cells],eSl Zd v_g_cells g.cells]) h h [zO r_g [v_g_cells],eSl Zd v_g_cells g.cells]) {r:Int×Int×zj}(hp:Zcl g=some r) :
  ∃ u k',Is G 50 [.p r_g 0] h u k'∧∃ A,V.tu [.n r.1,.n r.2.1]=u∧Own (Bm h [zO r_g [v_g_cells],eSl Zd v_g_cells g.cells]) h k' [zO r_g [A],eSl Zd A r.2.2.cells]:=by
 refine WC.is (ZaD Zf0 ?_)
 unfold Zcl at hp
 let B:Nat→Prop:=(Bm h [zO r_g [v_g_cells],eSl Zd v_g_cells g.cells])
 have hO:Own B h h [zO r_g [v_g_cells],eSl Zd v_g_cells g.cells]:=H
 refine Zg (Zb (.n 0) rfl (Zb (.n 0) rfl (Ze (Z9 (Zai (Zg (Zb (.p r_g 0) rfl (Zc (Zkv rfl rfl) (Zb (.b false) rfl (Zj ?_))))))))))
 refine Zt (Zkt rfl rfl (Zg (Zb (.p r_g 0) rfl ?_)))
 obtain ⟨x,⟨_,j,J,rfl,Q⟩,hp⟩:=bdk hp fun _=>Zbs.ok (h:=h)  (hO.box 0 rfl) (hO.sl 1 rfl)
 refine zU rfl rfl J ?_
 have a:=hO.call Q rfl
 refine Zc (Zb7 rfl rfl) (Zb (.b (decide (x=4096))) rfl (Ze (zu hp rfl (fun D hp=>?_) (fun D hp=>?_))))
 ·refine Zg (Zb (.n 0) rfl (Zb (.n 6) rfl (Ze (zK (ZaZ (ZI (ZN (ZY rfl (ZY rfl Z6)) ?_)))))))
  cases hp
  exact ⟨v_g_cells,rfl,(a.pk [0,1])⟩
 ·refine ZcB (Zam (Zt (Z9 (Zgp ?_))))
  have t:=a.bump 11
  have k:=Fresh.start j 11
  have y:∀ {i:Nat},h.n≤j.n+i:=Nat.le_trans a.n (Nat.le_add_right _ _)
  refine Zbl (.p r_g 0) rfl (Zbl (.p r_g 0) rfl (z8 (Ze1 rfl) (z8 (Zal (r:=r_g) (o:=0) rfl rfl) (z8 (zy (t.box 0 rfl) rfl rfl) ?_))))
  obtain ⟨x1,⟨_,_,K,rfl,f⟩,hp⟩:=bdk hp fun _=>ZdD.ok (h:=(j.bump 11))  
  refine ZiM rfl ZjT K ?_
  have s:=k.call f
  have O:=t.call f rfl
  refine ZeT (O.bsl (E:=Zd) (l:=[x1]) ⟨s.m 6 (by decide) (by decide),y⟩ (by rw [(zf (v:=.ag (Zd.c x1)) rfl Zbb)];rfl) rfl) ?_
  rintro _ _ _ ⟨_,M,w⟩
  have N:=s.kept M (by decide)
  refine ckk hp fun F hp=>ZeT (w.app (bytes:=64) 1 ⟨N.m 7 (by decide) (by decide),y⟩ rfl (w.sl 2 rfl) rfl rfl (fun _=>rfl) F (by decide)) ?_
  rintro C _ _ ⟨_,d⟩
  refine z8 (Ze1 rfl) (z8 (Zal (r:=r_g) (o:=0) rfl rfl) (ZeT (d.stb (cs':=[C]) 0 rfl rfl rfl (d.sl 1 rfl).cells ⟨rfl,Nat.le_of_ble_eq_true rfl,(all_cons (d.sl 1 rfl).oneV rfl)⟩ rfl) ?_))
  rintro _ S _ ⟨rfl,_,_,e⟩
  refine ZcW ?_
  refine And.intro ?_ ?_
  ·intro q hq
   simp only [List.mem_cons,List.not_mem_nil,or_false] at hq
   rcases hq with rfl|rfl
   ·refine ZmF rfl rfl ?_
    ·exact (fun r hm hc=>hc (f.base r (Nat.lt_of_lt_of_le (a.ltAt 0 rfl _ (tch (ZcV hm) rfl)) (Nat.le_trans (Nat.le_add_right _ _) k.n))))
   ·refine ZaX ?_ ?_
    ·exact (fun h=>nomatch h)
    ·exact (fun _ hm=>Nat.lt_irrefl _ (Nat.lt_of_lt_of_le (a.ltAt 0 rfl _ (tch (ZcV hm) rfl)) (Nat.le_add_right _ _)))
  refine Zt (Zg (Zb (.p r_g 0) rfl ?_))
  obtain ⟨x2,⟨_,_,L,rfl,R⟩,hp⟩:=bdk hp fun _=>Zbs.ok (h:=S)  (e.box 0 rfl) (e.sl 1 rfl)
  refine zU rfl rfl L ?_
  have P:=e.call R rfl
  refine ckk hp fun I hp=>Zc (ZoP rfl rfl I) (Zb (.n (x2-1)) rfl (Zb (.n 0) rfl (Ze (zK (ZN (ZY rfl (ZY rfl Z6)) ?_)))))
  cases hp
  exact ⟨C,rfl,(P.pk [0,1])⟩

theorem ZbO.ok {h:Hp}{g:zj}{v:Int}{d:Int}{w:Int}{owner:Int}{r_g:Nat}{v_g_cells:V}(H:Own (Bm h [zO r_g [v_g_cells],eSl Zd v_g_cells g.cells]) h h [zO r_g [v_g_cells],eSl Zd v_g_cells g.cells]) {r:zj}(hp:ZbO g v d w owner=some r) :
  ∃ u k',Is G 76 [.p r_g 0,.n v,.n d,.n w,.n owner] h u k'∧∃ C,V.tu []=u∧Own (Bm h [zO r_g [v_g_cells],eSl Zd v_g_cells g.cells]) h k' [zO r_g [C],eSl Zd C r.cells]:=by
 refine WC.is (ZaD Zf2 ?_)
 unfold ZbO at hp
 let B:Nat→Prop:=(Bm h [zO r_g [v_g_cells],eSl Zd v_g_cells g.cells])
 have hO:Own B h h [zO r_g [v_g_cells],eSl Zd v_g_cells g.cells]:=H
 refine Zg (Zb (.n d) rfl ?_)
 obtain ⟨x,⟨_,_,D,rfl,J⟩,hp⟩:=bdk hp fun _=>Zbw.ok (h:=h)  
 refine zU rfl rfl D ?_
 have E:=hO.call J rfl
 refine Zb (.n x) rfl (Ze (Z9 (Zgp ?_)))
 have c:=E.bump 22
 refine Zbl (.p r_g 0) rfl (z8 (Ze1 rfl) (z8 (Zal (r:=r_g) (o:=0) rfl rfl) (z8 (zy (c.box 0 rfl) rfl rfl) (Zbl (.n v) rfl (Zbl (.n d) rfl (Zbl (.p r_g 0) rfl (z8 (Ze1 rfl) (z8 (Zal (r:=r_g) (o:=0) rfl rfl) (z8 (zy (c.box 0 rfl) rfl rfl) (Zbl (.n v) rfl (Zbl (.n d) rfl (Zbl (.n w) rfl (Zbl (.n owner) rfl ?_)))))))))))))
 refine ckk hp fun f hp=>z8 (ZP (c.sl 1 rfl) rfl rfl f) (z8 (ZaR (c.sl 1 rfl) (Zf f) rfl rfl) (ckk hp fun a hp=>z8 (Zbd (c.sl 1 rfl) (Zf f) rfl rfl a rfl) (ZeT (c.ste (y:=({ gi g.cells v.toNat with Next:=((gi g.cells v.toNat).Next).set d w })) 1 rfl rfl (Zf f) rfl rfl ⟨rfl,(by have:=a;exact (show 0+d.toNat*1+1≤8 by omega)),rfl⟩ (ZcR a)) ?_)))
 rintro _ s _ ⟨rfl,_,_,l⟩
 refine ckk hp fun i hp=>z8 (ZP (l.sl 1 rfl:Sl Zd s v_g_cells (g.cells.set v.toNat ({ gi g.cells v.toNat with Next:=((gi g.cells v.toNat).Next).set d w }))) rfl rfl i) (z8 (ZaR (l.sl 1 rfl:Sl Zd s v_g_cells (g.cells.set v.toNat ({ gi g.cells v.toNat with Next:=((gi g.cells v.toNat).Next).set d w }))) (Zf i) rfl rfl) (z8 (Zbd (l.sl 1 rfl:Sl Zd s v_g_cells (g.cells.set v.toNat ({ gi g.cells v.toNat with Next:=((gi g.cells v.toNat).Next).set d w }))) (Zf i) rfl rfl a rfl) (ZeT (l.ste (y:=({ gi (g.cells.set v.toNat ({ gi g.cells v.toNat with Next:=((gi g.cells v.toNat).Next).set d w })) v.toNat with Owner:=((gi (g.cells.set v.toNat ({ gi g.cells v.toNat with Next:=((gi g.cells v.toNat).Next).set d w })) v.toNat).Owner).set d owner })) 1 rfl rfl (Zf i) rfl rfl ⟨rfl,(by have:=a;exact (show 4+d.toNat*1+1≤8 by omega)),rfl⟩ (Zdg a)) ?_)))
 rintro _ t _ ⟨rfl,_,_,F⟩
 refine ZcW ?_
 refine And.intro ?_ ?_
 ·intro q hq
  simp only [List.mem_cons,List.not_mem_nil,or_false] at hq
  rcases hq with rfl
  ·refine ZaX ?_ ?_
   ·exact (fun h=>nomatch h)
   ·exact (fun h=>nomatch h)
 refine Zt (Zgp ?_)
 have e:=F.bump 22
 refine Zbl (.p r_g 0) rfl (z8 (Ze1 rfl) (z8 (Zal (r:=r_g) (o:=0) rfl rfl) (z8 (zy (e.box 0 rfl) rfl rfl) (Zbl (.n w) rfl (Zbl (.n x) rfl (Zbl (.p r_g 0) rfl (z8 (Ze1 rfl) (z8 (Zal (r:=r_g) (o:=0) rfl rfl) (z8 (zy (e.box 0 rfl) rfl rfl) (Zbl (.n w) rfl (Zbl (.n x) rfl (Zbl (.n v) rfl (Zbl (.n owner) rfl ?_)))))))))))))
 refine ckk hp fun j hp=>z8 (ZP (e.sl 1 rfl:Sl Zd (t.bump 22) v_g_cells ((g.cells.set v.toNat ({ gi g.cells v.toNat with Next:=((gi g.cells v.toNat).Next).set d w })).set v.toNat ({ gi (g.cells.set v.toNat ({ gi g.cells v.toNat with Next:=((gi g.cells v.toNat).Next).set d w })) v.toNat with Owner:=((gi (g.cells.set v.toNat ({ gi g.cells v.toNat with Next:=((gi g.cells v.toNat).Next).set d w })) v.toNat).Owner).set d owner }))) rfl rfl j) (z8 (ZaR (e.sl 1 rfl:Sl Zd (t.bump 22) v_g_cells ((g.cells.set v.toNat ({ gi g.cells v.toNat with Next:=((gi g.cells v.toNat).Next).set d w })).set v.toNat ({ gi (g.cells.set v.toNat ({ gi g.cells v.toNat with Next:=((gi g.cells v.toNat).Next).set d w })) v.toNat with Owner:=((gi (g.cells.set v.toNat ({ gi g.cells v.toNat with Next:=((gi g.cells v.toNat).Next).set d w })) v.toNat).Owner).set d owner }))) (Zf j) rfl rfl) (ckk hp fun b hp=>z8 (Zbd (e.sl 1 rfl:Sl Zd (t.bump 22) v_g_cells ((g.cells.set v.toNat ({ gi g.cells v.toNat with Next:=((gi g.cells v.toNat).Next).set d w })).set v.toNat ({ gi (g.cells.set v.toNat ({ gi g.cells v.toNat with Next:=((gi g.cells v.toNat).Next).set d w })) v.toNat with Owner:=((gi (g.cells.set v.toNat ({ gi g.cells v.toNat with Next:=((gi g.cells v.toNat).Next).set d w })) v.toNat).Owner).set d owner }))) (Zf j) rfl rfl b rfl) (ZeT (e.ste (y:=({ gi ((g.cells.set v.toNat ({ gi g.cells v.toNat with Next:=((gi g.cells v.toNat).Next).set d w })).set v.toNat ({ gi (g.cells.set v.toNat ({ gi g.cells v.toNat with Next:=((gi g.cells v.toNat).Next).set d w })) v.toNat with Owner:=((gi (g.cells.set v.toNat ({ gi g.cells v.toNat with Next:=((gi g.cells v.toNat).Next).set d w })) v.toNat).Owner).set d owner })) w.toNat with Next:=((gi ((g.cells.set v.toNat ({ gi g.cells v.toNat with Next:=((gi g.cells v.toNat).Next).set d w })).set v.toNat ({ gi (g.cells.set v.toNat ({ gi g.cells v.toNat with Next:=((gi g.cells v.toNat).Next).set d w })) v.toNat with Owner:=((gi (g.cells.set v.toNat ({ gi g.cells v.toNat with Next:=((gi g.cells v.toNat).Next).set d w })) v.toNat).Owner).set d owner })) w.toNat).Next).set x v })) 1 rfl rfl (Zf j) rfl rfl ⟨rfl,(by have:=b;exact (show 0+x.toNat*1+1≤8 by omega)),rfl⟩ (ZcR b)) ?_)))
 rintro _ A _ ⟨rfl,_,_,m⟩
 refine ckk hp fun k hp=>z8 (ZP (m.sl 1 rfl:Sl Zd A v_g_cells (((g.cells.set v.toNat ({ gi g.cells v.toNat with Next:=((gi g.cells v.toNat).Next).set d w })).set v.toNat ({ gi (g.cells.set v.toNat ({ gi g.cells v.toNat with Next:=((gi g.cells v.toNat).Next).set d w })) v.toNat with Owner:=((gi (g.cells.set v.toNat ({ gi g.cells v.toNat with Next:=((gi g.cells v.toNat).Next).set d w })) v.toNat).Owner).set d owner })).set w.toNat ({ gi ((g.cells.set v.toNat ({ gi g.cells v.toNat with Next:=((gi g.cells v.toNat).Next).set d w })).set v.toNat ({ gi (g.cells.set v.toNat ({ gi g.cells v.toNat with Next:=((gi g.cells v.toNat).Next).set d w })) v.toNat with Owner:=((gi (g.cells.set v.toNat ({ gi g.cells v.toNat with Next:=((gi g.cells v.toNat).Next).set d w })) v.toNat).Owner).set d owner })) w.toNat with Next:=((gi ((g.cells.set v.toNat ({ gi g.cells v.toNat with Next:=((gi g.cells v.toNat).Next).set d w })).set v.toNat ({ gi (g.cells.set v.toNat ({ gi g.cells v.toNat with Next:=((gi g.cells v.toNat).Next).set d w })) v.toNat with Owner:=((gi (g.cells.set v.toNat ({ gi g.cells v.toNat with Next:=((gi g.cells v.toNat).Next).set d w })) v.toNat).Owner).set d owner })) w.toNat).Next).set x v }))) rfl rfl k) (z8 (ZaR (m.sl 1 rfl:Sl Zd A v_g_cells (((g.cells.set v.toNat ({ gi g.cells v.toNat with Next:=((gi g.cells v.toNat).Next).set d w })).set v.toNat ({ gi (g.cells.set v.toNat ({ gi g.cells v.toNat with Next:=((gi g.cells v.toNat).Next).set d w })) v.toNat with Owner:=((gi (g.cells.set v.toNat ({ gi g.cells v.toNat with Next:=((gi g.cells v.toNat).Next).set d w })) v.toNat).Owner).set d owner })).set w.toNat ({ gi ((g.cells.set v.toNat ({ gi g.cells v.toNat with Next:=((gi g.cells v.toNat).Next).set d w })).set v.toNat ({ gi (g.cells.set v.toNat ({ gi g.cells v.toNat with Next:=((gi g.cells v.toNat).Next).set d w })) v.toNat with Owner:=((gi (g.cells.set v.toNat ({ gi g.cells v.toNat with Next:=((gi g.cells v.toNat).Next).set d w })) v.toNat).Owner).set d owner })) w.toNat with Next:=((gi ((g.cells.set v.toNat ({ gi g.cells v.toNat with Next:=((gi g.cells v.toNat).Next).set d w })).set v.toNat ({ gi (g.cells.set v.toNat ({ gi g.cells v.toNat with Next:=((gi g.cells v.toNat).Next).set d w })) v.toNat with Owner:=((gi (g.cells.set v.toNat ({ gi g.cells v.toNat with Next:=((gi g.cells v.toNat).Next).set d w })) v.toNat).Owner).set d owner })) w.toNat).Next).set x v }))) (Zf k) rfl rfl) (z8 (Zbd (m.sl 1 rfl:Sl Zd A v_g_cells (((g.cells.set v.toNat ({ gi g.cells v.toNat with Next:=((gi g.cells v.toNat).Next).set d w })).set v.toNat ({ gi (g.cells.set v.toNat ({ gi g.cells v.toNat with Next:=((gi g.cells v.toNat).Next).set d w })) v.toNat with Owner:=((gi (g.cells.set v.toNat ({ gi g.cells v.toNat with Next:=((gi g.cells v.toNat).Next).set d w })) v.toNat).Owner).set d owner })).set w.toNat ({ gi ((g.cells.set v.toNat ({ gi g.cells v.toNat with Next:=((gi g.cells v.toNat).Next).set d w })).set v.toNat ({ gi (g.cells.set v.toNat ({ gi g.cells v.toNat with Next:=((gi g.cells v.toNat).Next).set d w })) v.toNat with Owner:=((gi (g.cells.set v.toNat ({ gi g.cells v.toNat with Next:=((gi g.cells v.toNat).Next).set d w })) v.toNat).Owner).set d owner })) w.toNat with Next:=((gi ((g.cells.set v.toNat ({ gi g.cells v.toNat with Next:=((gi g.cells v.toNat).Next).set d w })).set v.toNat ({ gi (g.cells.set v.toNat ({ gi g.cells v.toNat with Next:=((gi g.cells v.toNat).Next).set d w })) v.toNat with Owner:=((gi (g.cells.set v.toNat ({ gi g.cells v.toNat with Next:=((gi g.cells v.toNat).Next).set d w })) v.toNat).Owner).set d owner })) w.toNat).Next).set x v }))) (Zf k) rfl rfl b rfl) (ZeT (m.ste (y:=({ gi (((g.cells.set v.toNat ({ gi g.cells v.toNat with Next:=((gi g.cells v.toNat).Next).set d w })).set v.toNat ({ gi (g.cells.set v.toNat ({ gi g.cells v.toNat with Next:=((gi g.cells v.toNat).Next).set d w })) v.toNat with Owner:=((gi (g.cells.set v.toNat ({ gi g.cells v.toNat with Next:=((gi g.cells v.toNat).Next).set d w })) v.toNat).Owner).set d owner })).set w.toNat ({ gi ((g.cells.set v.toNat ({ gi g.cells v.toNat with Next:=((gi g.cells v.toNat).Next).set d w })).set v.toNat ({ gi (g.cells.set v.toNat ({ gi g.cells v.toNat with Next:=((gi g.cells v.toNat).Next).set d w })) v.toNat with Owner:=((gi (g.cells.set v.toNat ({ gi g.cells v.toNat with Next:=((gi g.cells v.toNat).Next).set d w })) v.toNat).Owner).set d owner })) w.toNat with Next:=((gi ((g.cells.set v.toNat ({ gi g.cells v.toNat with Next:=((gi g.cells v.toNat).Next).set d w })).set v.toNat ({ gi (g.cells.set v.toNat ({ gi g.cells v.toNat with Next:=((gi g.cells v.toNat).Next).set d w })) v.toNat with Owner:=((gi (g.cells.set v.toNat ({ gi g.cells v.toNat with Next:=((gi g.cells v.toNat).Next).set d w })) v.toNat).Owner).set d owner })) w.toNat).Next).set x v })) w.toNat with Owner:=((gi (((g.cells.set v.toNat ({ gi g.cells v.toNat with Next:=((gi g.cells v.toNat).Next).set d w })).set v.toNat ({ gi (g.cells.set v.toNat ({ gi g.cells v.toNat with Next:=((gi g.cells v.toNat).Next).set d w })) v.toNat with Owner:=((gi (g.cells.set v.toNat ({ gi g.cells v.toNat with Next:=((gi g.cells v.toNat).Next).set d w })) v.toNat).Owner).set d owner })).set w.toNat ({ gi ((g.cells.set v.toNat ({ gi g.cells v.toNat with Next:=((gi g.cells v.toNat).Next).set d w })).set v.toNat ({ gi (g.cells.set v.toNat ({ gi g.cells v.toNat with Next:=((gi g.cells v.toNat).Next).set d w })) v.toNat with Owner:=((gi (g.cells.set v.toNat ({ gi g.cells v.toNat with Next:=((gi g.cells v.toNat).Next).set d w })) v.toNat).Owner).set d owner })) w.toNat with Next:=((gi ((g.cells.set v.toNat ({ gi g.cells v.toNat with Next:=((gi g.cells v.toNat).Next).set d w })).set v.toNat ({ gi (g.cells.set v.toNat ({ gi g.cells v.toNat with Next:=((gi g.cells v.toNat).Next).set d w })) v.toNat with Owner:=((gi (g.cells.set v.toNat ({ gi g.cells v.toNat with Next:=((gi g.cells v.toNat).Next).set d w })) v.toNat).Owner).set d owner })) w.toNat).Next).set x v })) w.toNat).Owner).set x owner })) 1 rfl rfl (Zf k) rfl rfl ⟨rfl,(by have:=b;exact (show 4+x.toNat*1+1≤8 by omega)),rfl⟩ (Zdg b)) ?_)))
 rintro _ _ _ ⟨rfl,_,_,I⟩
 refine ZcW ?_
 refine And.intro ?_ ?_
 ·intro q hq
  simp only [List.mem_cons,List.not_mem_nil,or_false] at hq
  rcases hq with rfl
  ·refine ZaX ?_ ?_
   ·exact (fun h=>nomatch h)
   ·exact (fun h=>nomatch h)
 refine ZoN Z6 ?_
 cases hp
 exact ⟨v_g_cells,rfl,(I.pk [0,1])⟩

theorem Za2.ok {h:Hp}{g:zj}{v:Int}{d:Int}{w:Int}{owner:Int}{r_g:Nat}{v_g_cells:V}(H:Own (Bm h [zO r_g [v_g_cells],eSl Zd v_g_cells g.cells]) h h [zO r_g [v_g_cells],eSl Zd v_g_cells g.cells]) {r:Int×zj}(hp:Za2 g v d w owner=some r) :
  ∃ u k',Is G 52 [.p r_g 0,.n v,.n d,.n w,.n owner] h u k'∧∃ ac,V.n r.1=u∧Own (Bm h [zO r_g [v_g_cells],eSl Zd v_g_cells g.cells]) h k' [zO r_g [ac],eSl Zd ac r.2.cells]:=by
 refine WC.is (ZaD Zfh ?_)
 unfold Za2 at hp
 let B:Nat→Prop:=(Bm h [zO r_g [v_g_cells],eSl Zd v_g_cells g.cells])
 have hO:Own B h h [zO r_g [v_g_cells],eSl Zd v_g_cells g.cells]:=H
 refine Zg (Zb (.n 0) rfl (Ze (Z9 (Zai (Zg (Zb (.p r_g 0) rfl (Zc (Zkv rfl rfl) (Zb (.b false) rfl (Ze ?_)))))))))
 refine Zkt rfl rfl (Zg (Zb (.p r_g 0) rfl (Zb (.n v) rfl (Zb (.n d) rfl ?_))))
 obtain ⟨x,⟨_,av,af,rfl,ap⟩,hp⟩:=bdk hp fun _=>ZbD.ok (h:=h)  (hO.box 0 rfl) (hO.sl 1 rfl)
 refine zU rfl rfl af ?_
 have E:=hO.call ap rfl
 refine Zc (ZcJ rfl) (Zb (.b (!x)) rfl ?_)
 obtain ⟨t,au,hp⟩:=ZaP hp
 refine zN 6 (fun f k=>Own B h k [zO r_g [v_g_cells],eSl Zd v_g_cells g.cells]∧f 26=.b t∧f 0=.p r_g 0∧f 1=.n v∧f 2=.n d∧f 3=.n w∧f 4=.n owner) ?_ ?_
 ·clear hp;rcases Zbi au with ⟨c,hp⟩|⟨c,hp⟩
  ·refine Zl rfl c (Zl rfl c (Zl rfl c (Zl rfl c (Zl rfl c (Zc (ZaT (v:=.b t) rfl c (Eq.trans (b:=V.b true) rfl (congrArg V.b (Option.some.inj hp)))) (Zj ?_))))))
   exact ⟨E.pk [0,1],rfl,rfl,rfl,rfl,rfl,rfl⟩
  ·refine Zq rfl c (Zb (.p r_g 0) rfl (Zq rfl c (Zb (.n w) rfl (Zq rfl c (Zb (.n d) rfl (Zq rfl c ?_))))))
   obtain ⟨x1,⟨_,_,ag,rfl,aq⟩,hp⟩:=bdk hp fun _=>ZbD.ok (h:=av)  (E.box 0 rfl) (E.sl 1 rfl)
   refine zU rfl rfl ag ?_
   have an:=E.call aq rfl
   refine Zq rfl c (Zc (ZcJ rfl) (Zc (ZaI (v:=.b t) rfl c (Eq.trans (b:=V.b (!x1)) rfl (congrArg V.b (Option.some.inj hp)))) (Zj ?_)))
   exact ⟨an.pk [0,1],rfl,rfl,rfl,rfl,rfl,rfl⟩
 rintro _ F ⟨N,ak,R,I,S,J,T⟩
 refine Zb _ ak (zN 4 (fun f k=>F=k∧f 31=.b (t||(decide (v=w)))∧f 0=.p r_g 0∧f 1=.n v∧f 2=.n d∧f 3=.n w∧f 4=.n owner) ?_ ?_)
 ·rcases bc t with i|i
  ·refine Zl rfl i (Zl rfl i (Zl rfl i (Zc (Zct (w:=t||(decide (v=w))) rfl i rfl) (Zj ?_))))
   exact ⟨rfl,rfl,R,I,S,J,T⟩
  ·refine Zq rfl i (Zb _ I (Zq rfl i (Zb _ J (Zq rfl i (Zc (Zb7 rfl rfl) (Zc (Zcu rfl i rfl) (Zj ?_)))))))
   exact ⟨rfl,rfl,R,I,S,J,T⟩
 rintro _ _ ⟨rfl,al,U,W,X,Y,K⟩
 refine Zb _ al (zN 3 (fun f k=>F=k∧f 35=.b ((t||(decide (v=w)))||(decide (owner<(-2))))∧f 0=.p r_g 0∧f 1=.n v∧f 2=.n d∧f 3=.n w∧f 4=.n owner) ?_ ?_)
 ·rcases bc (t||(decide (v=w))) with l|l
  ·refine Zl rfl l (Zl rfl l (Zc (Zct (w:=(t||(decide (v=w)))||(decide (owner<(-2)))) rfl l rfl) (Zj ?_)))
   exact ⟨rfl,rfl,U,W,X,Y,K⟩
  ·refine Zq rfl l (Zb _ K (Zq rfl l (Zc (zA rfl rfl) (Zc (Zcu rfl l rfl) (Zj ?_)))))
   exact ⟨rfl,rfl,U,W,X,Y,K⟩
 rintro _ _ ⟨rfl,am,C,L,D,M,aa⟩
 refine Zb _ am (Ze (zu hp rfl (fun ad hp=>?_) (fun ad hp=>?_)))
 ·refine Zg (Zb (.n 2) rfl (Ze (zK (ZaZ (ZI (ZN (ZY rfl Z6) ?_))))))
  cases hp
  exact ⟨v_g_cells,rfl,(N.pk [0,1])⟩
 ·refine Z9 (Zii hp (fun x2 e fr k=>e=.normal∧fr 0=.p r_g 0∧fr 1=.n v∧fr 2=.n d∧fr 3=.n w∧fr 4=.n owner∧fr 36=.b x2∧Own B h k [zO r_g [v_g_cells],eSl Zd v_g_cells g.cells]) (fun _ hp=>?_) ?_)
  ·refine Zgp ?_
   have j:=N.bump 26
   have aj:=Fresh.start F 26
   refine Zbl _ C (z8 (Ze1 rfl) (z8 (Zal (r:=r_g) (o:=0) rfl rfl) (z8 (zy (j.box 0 rfl) rfl rfl) (Zbl _ L (Zbl _ D (ckk hp fun y hp=>z8 (ZP (j.sl 1 rfl) rfl rfl y) (z8 (ZaR (j.sl 1 rfl) (Zf y) rfl rfl) (ckk hp fun P hp=>z8 (Zbd (j.sl 1 rfl) (Zf y) rfl rfl P rfl) (z8 (zw (j.sl 1 rfl) rfl (Zf y) (zL P)) (z8 (Zca rfl rfl) (Zbl (.b (!(decide (((gi g.cells v.toNat).Next).get d=(-1))))) rfl ?_)))))))))))
   refine ifk hp (fun a hp=>?_) (fun a hp=>?_)
   ·refine ZaY rfl a (ZaY rfl a (ZaY rfl a (ZaY rfl a (ZaY rfl a (ZaY rfl a (ZaY rfl a (ZaY rfl a (ZaY rfl a (ZaY rfl a (ZaY rfl a (ZaY rfl a (z8 (ZaT (v:=.b true) rfl a rfl) (Zbl (.b true) rfl ?_)))))))))))))
    refine ZcW ?_
    refine And.intro ?_ ?_
    ·intro q hq
     simp only [List.mem_cons,List.not_mem_nil,or_false] at hq
     rcases hq with rfl
     ·exact ZlD
    cases hp
    exact ⟨rfl,C,L,D,M,aa,rfl,(j.pk [0,1])⟩
   ·refine ZcS rfl a (Zbl _ C (ZcS rfl a (z8 (Ze1 rfl) (ZcS rfl a (z8 (Zal (r:=r_g) (o:=0) rfl rfl) (ZcS rfl a (z8 (zy (j.box 0 rfl) rfl rfl) (ZcS rfl a (Zbl _ M (ZcS rfl a (Zbl _ D (ZcS rfl a ?_))))))))))))
    obtain ⟨x3,⟨_,_,ah,rfl,ab⟩,hp⟩:=bdk hp fun _=>Zbw.ok (h:=(F.bump 26))  
    refine ZiM rfl rfl ah ?_
    have s:=j.call ab rfl
    refine ZcS rfl a (ckk hp fun A hp=>z8 (ZP (s.sl 1 rfl) rfl rfl A) (ZcS rfl a (z8 (ZaR (s.sl 1 rfl) (Zf A) rfl rfl) (ZcS rfl a (ckk hp fun Q hp=>z8 (Zbd (s.sl 1 rfl) (Zf A) rfl rfl Q rfl) (ZcS rfl a (z8 (zw (s.sl 1 rfl) rfl (Zf A) (zL Q)) (ZcS rfl a (z8 (Zca rfl rfl) (z8 (ZaI (v:=.b (!(decide (((gi g.cells w.toNat).Next).get x3=(-1))))) rfl a rfl) (Zbl (.b (!(decide (((gi g.cells w.toNat).Next).get x3=(-1))))) rfl ?_)))))))))))
    refine ZcW ?_
    refine And.intro ?_ ?_
    ·intro q hq
     simp only [List.mem_cons,List.not_mem_nil,or_false] at hq
     rcases hq with rfl
     ·refine ZmF rfl rfl ?_
      ·exact (fun r hm hc=>hc (ab.base r (Nat.lt_of_lt_of_le (N.ltAt 0 rfl _ (tch (ZcV hm) rfl)) (Nat.le_trans (Nat.le_add_right _ _) aj.n))))
    cases hp
    exact ⟨rfl,C,L,D,M,aa,rfl,(s.pk [0,1])⟩
  rintro x2 hp _ _ aw ⟨rfl,ax,ay,az,aA,aC,aB,O⟩
  refine Zt (zu hp aB (fun ae hp=>?_) (fun ae hp=>?_))
  ·refine Zg (Zb (.n 9) rfl (Ze (zK (ZaZ (ZI (ZN (ZY rfl Z6) ?_))))))
   cases hp
   exact ⟨v_g_cells,rfl,(O.pk [0,1])⟩
  ·refine ZcB (Zam (Zt (Zg (Zb _ ax (Zb _ ay (Zb _ az (Zb _ aA (Zb _ aC ?_))))))))
   obtain ⟨m,⟨_,_,ai,aD,rfl,ar⟩,hp⟩:=bdk hp fun _=>ZbO.ok (h:=aw) (g:=g) (v:=v) (d:=d) (w:=w) (owner:=owner) (O.toM [0,1] rfl (by decide)) 
   refine zU rfl rfl ai ?_
   have ao:=(O.callM [0,1] [] rfl rfl (by decide) ar rfl).pick [0,1] rfl (by decide)
   refine Ze (Zg (Zb (.n 0) rfl (Ze (zK (ZN (ZY rfl Z6) ?_)))))
   cases hp
   exact ⟨aD,rfl,(ao.pk [0,1])⟩

theorem Zbo.ok {h:Hp}{g:zj}{d:Z5}{r_g:Nat}{v_g_cells:V}(H:Own (Bm h [zO r_g [v_g_cells],eSl Zd v_g_cells g.cells]) h h [zO r_g [v_g_cells],eSl Zd v_g_cells g.cells]) {r:zj}(hp:Zbo g d=some r) :
  ∃ u k',Is G 279 [.p r_g 0,.ag (Zn.c d)] h u k'∧∃ S,V.tu []=u∧Own (Bm h [zO r_g [v_g_cells],eSl Zd v_g_cells g.cells]) h k' [zO r_g [S],eSl Zd S r.cells]:=by
 refine WC.is (ZaD Zg0 ?_)
 unfold Zbo at hp
 let B:Nat→Prop:=(Bm h [zO r_g [v_g_cells],eSl Zd v_g_cells g.cells])
 have hO:Own B h h [zO r_g [v_g_cells],eSl Zd v_g_cells g.cells]:=H
 refine Zg (zQ (hO.boxd (cs:=Zn.c d) hO.fr rfl rfl) ?_)
 rintro _ aA ⟨a,rfl,_,_,l⟩
 refine Ze (Zg (Zb (.p r_g 0) rfl (Zc (Zal (r:=a) (o:=0) rfl rfl) (Zc (zy (l.box 2 rfl) rfl rfl) (Zc (Zal (r:=a) (o:=0) rfl rfl) (Zc (zy (l.box 2 rfl) rfl rfl) ?_))))))
 obtain ⟨⟨x,x1,x2⟩,⟨_,aB,ad,rfl,ar⟩,hp⟩:=bdk hp fun _=>Zbq.ok (h:=aA)  (l.box 0 rfl) (l.sl 1 rfl)
 refine zU rfl rfl ad ?_
 have D:=l.call ar rfl
 refine Zb (.tu [.n x,.n x1,.b x2]) rfl (Zc (zC rfl rfl) (Zc (zC rfl rfl) (Zc (zC rfl rfl) (Zb (.n x) rfl (Zb (.n x1) rfl (Zb (.b x2) rfl (Ze (Zg (Zb (.p r_g 0) rfl ?_)))))))))
 obtain ⟨x3,⟨_,_,ae,rfl,au⟩,hp⟩:=bdk hp fun _=>Zbs.ok (h:=aB)  (D.box 0 rfl) (D.sl 1 rfl)
 refine zU rfl rfl ae ?_
 have ao:=D.call au rfl
 refine Zb (.n x3) rfl (Ze (Z9 (Zg (Zb (.n 0) rfl (Ze (Zai (ZbM hp (fun|(g1,x4),fr,k=>∃ t,fr 0=.p r_g 0∧fr 3=.p a 0∧fr 4=.n x∧fr 7=.n x3∧fr 25=.n x4∧Own B h k [zO r_g [t],eSl Zd t g1,zO a (Zn.c d)]) (fun g2 e fr k=>e=(.exit 0)∧∃ y,fr 0=.p r_g 0∧fr 3=.p a 0∧fr 4=.n x∧fr 7=.n x3∧Own B h k [zO r_g [y],eSl Zd y g2,zO a (Zn.c d)]) ⟨v_g_cells,rfl,rfl,rfl,rfl,rfl,(ao.pk [0,1,2])⟩ ?_ ?_)))))))
 ·rintro ⟨g1,x4⟩ _ aC ⟨t,I,P,Q,R,O,E⟩ _ hp
  dsimp only [Zbo.s0] at hp
  refine Zg (Zc (zA O rfl) (Ze (Z9 (zu hp rfl (fun T hp=>?_) (fun T hp=>?_)))))
  ·refine Zak (Z9 (Zai (Zaf (Zb _ I ?_))))
   obtain ⟨⟨x5,x6,m⟩,⟨_,_,af,aO,rfl,av⟩,hp⟩:=bdk hp fun _=>Zcl.ok (h:=aC) (g:=(⟨g1⟩:zj)) (E.toM [0,1] rfl (by decide)) 
   refine zU rfl rfl af ?_
   have aq:=(E.callM [0,1] [2] rfl rfl (by decide) av rfl).pick [1,2,0] rfl (by decide)
   refine Zj (Zam (Zt (Zaf (ckk hp fun X hp=>Zc (ZV O rfl X) (Zb (.n (x4+1)) rfl (Zj ?_))))))
   cases hp
   exact ⟨rfl,aO,I,P,Q,R,rfl,(aq.pk [0,1,2])⟩
  ·refine Zb8 (zW ?_)
   cases hp
   exact ⟨nofun,rfl,t,I,P,Q,R,(E.pk [0,1,2])⟩
 rintro g2 hp _ _ _ ⟨rfl,y,aF,aG,aH,aI,ap⟩
 refine Za9 (Zt (Z9 (Zg (Zb (.n 0) rfl (Ze (Zai (ZbM hp (fun|(g3,x7),fr,k=>∃ A,fr 0=.p r_g 0∧fr 3=.p a 0∧fr 4=.n x∧fr 7=.n x3∧fr 30=.n x7∧Own B h k [zO r_g [A],eSl Zd A g3,zO a (Zn.c d)]) (fun g4 e fr k=>e=(.exit 2)∧∃ K,fr 0=.p r_g 0∧fr 3=.p a 0∧fr 4=.n x∧fr 7=.n x3∧Own B h k [zO r_g [K],eSl Zd K g4,zO a (Zn.c d)]) ⟨y,aF,aG,aH,aI,rfl,(ap.pk [0,1,2])⟩ ?_ ?_)))))))
 ·rintro ⟨g3,x7⟩ _ N ⟨A,j,q,J,f,s,i⟩ _ hp
  dsimp only [Zbo.s1] at hp
  refine Zg (Zc (zA s rfl) (Ze (Z9 (zu hp rfl (fun U hp=>?_) (fun U hp=>?_)))))
  ·refine Zak (Z9 (Zai (Zg (Zb _ s (Zb (.n x7) rfl (Ze (Zg (Zb (.n x7) rfl (ckk hp fun Y hp=>?_)))))))))
   refine Zc (ZV rfl rfl Y) (Zc (ZcO rfl rfl (by decide)) (Zb (.n x7) rfl (Zb (.n ((x7+3).tmod 4)) rfl (Zb (.n x7) rfl (Ze (Zg (Zb _ f (Zb (.n x7) rfl (ckk hp fun aa hp=>Zc (ZV rfl rfl aa) (Zb _ f ?_))))))))))
   refine Zb (.n x7) rfl (ckk hp fun C hp=>Zc (ZV rfl rfl C) (Zc (ZcO rfl rfl (by decide)) (ckk hp fun ab hp=>Zc (ZV rfl rfl ab) (Zb (.n (x3+x7)) rfl (Zb (.n (x3+((x7+1).tmod 4))) rfl (Ze (Z9 (Zg (Zb (.n ((x7+3).tmod 4)) rfl ?_)))))))))
   refine Zc (Zal (r:=a) (o:=0) q rfl) (Zc (zy (i.box 2 rfl) rfl rfl) (Zc (Zb7 rfl rfl) (Ze (zu hp rfl (fun W hp=>?_) (fun W hp=>?_)))))
   ·refine Zg (Zb _ j (Zb (.n (x3+x7)) rfl (Zb (.n x7) rfl (Zb _ f (ckk hp fun L hp=>Zc (ZV rfl rfl L) ?_)))))
    obtain ⟨⟨x8,m1⟩,⟨_,aE,ah,_,rfl,aw⟩,hp⟩:=bdk hp fun _=>Za2.ok (h:=N) (g:=(⟨g3⟩:zj)) (v:=(x3+x7)) (d:=x7) (w:=(x3+4)) (owner:=(-2)) (i.toM [0,1] rfl (by decide)) 
    refine zU rfl rfl ah ?_
    have M:=(i.callM [0,1] [2] rfl rfl (by decide) aw rfl).pick [1,2,0] rfl (by decide)
    refine Ze (Zaf (Zb _ f (Zc (ZV rfl rfl L) (Zb (.n (x3+4)) rfl (Ze (Zaf (Zb _ j (Zb (.n (x3+4)) rfl (Zb (.n x7) rfl (Zb (.n (x3+((x7+1).tmod 4))) rfl ?_))))))))))
    obtain ⟨⟨x9,m2⟩,⟨_,_,ai,aP,rfl,ax⟩,hp⟩:=bdk hp fun _=>Za2.ok (h:=aE) (g:=m1) (v:=(x3+4)) (d:=x7) (w:=(x3+((x7+1).tmod 4))) (owner:=(-2)) (M.toM [0,1] rfl (by decide)) 
    refine zU rfl rfl ai ?_
    have al:=(M.callM [0,1] [2] rfl rfl (by decide) ax rfl).pick [1,2,0] rfl (by decide)
    refine Zj (Zam (Zt (Zaf (Zc (ZV s rfl C) (Zb (.n (x7+1)) rfl (Zj ?_))))))
    cases hp
    exact ⟨rfl,aP,j,q,J,f,rfl,(al.pk [0,1,2])⟩
   ·refine Zak (Zaf (Zb _ j (Zb (.n (x3+x7)) rfl (Zb (.n x7) rfl (Zb (.n (x3+((x7+1).tmod 4))) rfl ?_)))))
    obtain ⟨⟨x10,m3⟩,⟨_,_,aj,aQ,rfl,ay⟩,hp⟩:=bdk hp fun _=>Za2.ok (h:=N) (g:=(⟨g3⟩:zj)) (v:=(x3+x7)) (d:=x7) (w:=(x3+((x7+1).tmod 4))) (owner:=(-2)) (i.toM [0,1] rfl (by decide)) 
    refine zU rfl rfl aj ?_
    have am:=(i.callM [0,1] [2] rfl rfl (by decide) ay rfl).pick [1,2,0] rfl (by decide)
    refine Zj (Zam (Zt (Zaf (Zc (ZV s rfl C) (Zb (.n (x7+1)) rfl (Zj ?_))))))
    cases hp
    exact ⟨rfl,aQ,j,q,J,f,rfl,(am.pk [0,1,2])⟩
  ·refine Zb8 (zW ?_)
   cases hp
   exact ⟨nofun,rfl,A,j,q,J,f,(i.pk [0,1,2])⟩
 rintro g4 hp _ _ aD ⟨rfl,K,aJ,aK,aL,aM,F⟩
 refine Za9 (Zt (Zaf (Zb _ aJ (Zb _ aL (Zc (Zal (r:=a) (o:=0) aK rfl) (Zc (zy (F.box 2 rfl) rfl rfl) (Zb _ aM (ckk hp fun ac hp=>Zc (ZV rfl rfl ac) ?_))))))))
 obtain ⟨⟨x11,m4⟩,⟨_,_,ak,aN,rfl,az⟩,hp⟩:=bdk hp fun _=>Za2.ok (h:=aD) (g:=(⟨g4⟩:zj)) (v:=x) (d:=d.Dir) (w:=(x3+4)) (owner:=(-2)) (F.toM [0,1] rfl (by decide)) 
 refine zU rfl rfl ak ?_
 have an:=(F.callM [0,1] [2] rfl rfl (by decide) az rfl).pick [1,2,0] rfl (by decide)
 refine Zj (ZoN Z6 ?_)
 cases hp
 exact ⟨aN,rfl,(an.pk [0,1])⟩

theorem ZbV.ok {h:Hp}{cells:List Za}{v_cells:V}(s_cells:Sl Zd h v_cells cells) {r:(Option zj)×Int}(hp:ZbV cells=some r) :
  ∃ u k',Is G 275 [v_cells] h u k'∧∃ l o,V.tu [(if (r.1).isSome=true then V.p l 0 else V.pn),.n r.2]=u∧Own (fun r=>r<h.n) h k' [eIf (r.1).isSome (zO l [o]),eIf (r.1).isSome (eSl Zd o ((r.1.getD default).cells))]:=by
 refine WC.is (ZaD Zgj ?_)
 unfold ZbV at hp
 let B:Nat→Prop:=(fun r=>r<h.n)
 have hO:Own B h h []:=Own.start0 h
 refine Zg (Zb (.pn) rfl (Zb (.n 0) rfl (Ze (Zg (Zb v_cells rfl ?_)))))
 obtain ⟨⟨x,x1⟩,⟨_,_,y,rfl,F⟩,hp⟩:=bdk hp fun _=>Zc0.ok (h:=h)  (hO.rd0 s_cells.rd)
 refine zU rfl rfl y ?_
 have f:=hO.call F rfl
 refine Zb (.tu [.ag (Zn.c x),.n x1]) rfl (Zc (zC rfl rfl) (Zc (zC rfl rfl) (zQ (f.alloc (cs:=Zn.c (⟨0,0⟩:Z5)) f.fr) ?_)))
 rintro _ _ ⟨K,rfl,_,_,D⟩
 refine zQ (D.stb (cs':=Zn.c x) 0 rfl rfl rfl rfl ⟨rfl,Nat.le_of_ble_eq_true rfl,rfl⟩ rfl) ?_
 rintro _ J ⟨rfl,_,_,b⟩
 refine Zb (.n x1) rfl (Ze (Z9 (Zg (Zb (.n x1) rfl (Zc (Zca rfl rfl) (Ze (zu hp rfl (fun s hp=>?_) (fun s hp=>?_))))))))
 ·refine Zg (Zb (.n x1) rfl (Zb (.pn) rfl (Zb (.n x1) rfl (Ze (zK (ZI (ZN (ZY rfl (ZY rfl Z6)) ?_)))))))
  cases hp
  exact ⟨0,V.sn,rfl,(b.pk [900,901])⟩
 ·refine Zak (Z9 (Zg (Zb v_cells rfl (Zc (Zap (b.rd0 s_cells.rd) rfl) (ckk hp fun v hp=>Zc (ZV rfl rfl v) (ckk hp fun w hp=>Zc (ZV rfl rfl w) (Zc (Zd1 rfl rfl) (Ze (zu hp rfl (fun t hp=>?_) (fun t hp=>?_))))))))))
  ·refine Zg (Zb (.pn) rfl (Zb (.n 6) rfl (Ze (zK (ZI (ZN (ZY rfl (ZY rfl Z6)) ?_))))))
   cases hp
   exact ⟨0,V.sn,rfl,(b.pk [900,901])⟩
  ·refine Zak (Zg (Zb v_cells rfl ?_))
   obtain ⟨⟨x2,x3⟩,⟨_,k,A,a,q,rfl,H⟩,hp⟩:=bdk hp fun _=>Ze4.ok (h:=J)  (b.rd0 s_cells.rd)
   refine zU rfl rfl A ?_
   have i:=b.call H rfl
   refine Zb (.tu [(if (x2).isSome=true then V.p a 0 else V.pn),.n x3]) rfl (Zc (zC rfl rfl) (Zc (zC rfl rfl) (Zb ((if (x2).isSome=true then V.p a 0 else V.pn)) rfl (Zb (.n x3) rfl (Ze (Zg (Zb ((if (x2).isSome=true then V.p a 0 else V.pn)) rfl (Zc (ZbI (i.box 0 rfl) rfl rfl) ?_))))))))
   obtain ⟨g,e,hp⟩:=ZaP hp
   replace e:x2=some g:=e
   have j:Own B h k [zO K (Zn.c x),zO a [q],eSl Zd q g.cells]:=by have hq:=i;rw [e] at hq;exact hq
   obtain ⟨m,⟨_,_,C,L,rfl,I⟩,hp⟩:=bdk hp fun _=>Zbo.ok (h:=k) (g:=g) (d:=x) (j.toM [1,2] rfl (by decide)) 
   refine zU rfl (ZjS (unw e) (ZjS rfl ZjT)) C ?_
   have E:=(j.callM [1,2] [0] rfl rfl (by decide) I rfl).pick [0,1,2] rfl (by decide)
   refine Ze (Zg (Zb _ (unw e) (Zb (.p a 0) rfl (Zb (.n 0) rfl (Ze (zK (ZN (ZY rfl (ZY rfl Z6)) ?_)))))))
   cases hp
   exact ⟨a,L,rfl,(E.pk [1,2])⟩

theorem Zb3.ok {h:Hp}{g:zj}{r_g:Nat}{v_g_cells:V}{w_g:Bool}(b_g:h.m r_g=some (.cells w_g [v_g_cells])) (s_g_cells:Sl Zd h v_g_cells g.cells) {r:(List Za)}(hp:Zb3 g=some r) :
  ∃ u k',Is G 57 [.p r_g 0] h u k'∧∃ a,a=u∧Own (fun r=>r<h.n) h k' [eSl Zd a r]:=by
 refine WC.is (ZaD ZeX ?_)
 unfold Zb3 at hp
 let B:Nat→Prop:=(fun r=>r<h.n)
 have hO:Own B h h []:=Own.start0 h
 refine Zg (Zb (.sn) rfl (Ze (Z9 (Zg (Zb (.p r_g 0) rfl (Zc (Zkv rfl rfl) (Ze (Zkt rfl rfl (ZcB ?_)))))))))
 refine Zt (Zg (Zb (.p r_g 0) rfl (Zc (Ze1 rfl) (Zc (Zal (r:=r_g) (o:=0) rfl rfl) (Zc (zy (hO.rdB0 (RdB.of b_g)).choose_spec rfl rfl) ?_)))))
 obtain ⟨x,⟨_,_,c,b,rfl,e⟩,hp⟩:=bdk hp fun _=>ZaH.ok (h:=h)  (hO.rd0 s_g_cells.rd)
 refine zU rfl rfl c ?_
 have d:=hO.call e rfl
 refine Zb b rfl (Ze (zK (ZN (ZY rfl Z6) ?_)))
 cases hp
 exact ⟨b,rfl,(d.pk [0])⟩

theorem ZbX.ok {h:Hp}{cells:List Za}{v_cells:V}(s_cells:Sl Zd h v_cells cells) {r:(List Za)×Int}(hp:ZbX cells=some r) :
  ∃ u k',Is G 268 [v_cells] h u k'∧∃ f,V.tu [f,.n r.2]=u∧Own (fun r=>r<h.n) h k' [eSl Zd f r.1]:=by
 refine WC.is (ZaD Zgz ?_)
 unfold ZbX at hp
 let B:Nat→Prop:=(fun r=>r<h.n)
 have hO:Own B h h []:=Own.start0 h
 refine Zg (Zb (.sn) rfl (Zb (.n 0) rfl (Ze (Zg (Zb v_cells rfl ?_)))))
 obtain ⟨⟨x,x1⟩,⟨_,e,l,b,i,rfl,s⟩,hp⟩:=bdk hp fun _=>ZbV.ok (h:=h)  (hO.rd0 s_cells.rd)
 refine zU rfl rfl l ?_
 have d:=hO.call s rfl
 refine Zb (.tu [(if (x).isSome=true then V.p b 0 else V.pn),.n x1]) rfl (Zc (zC rfl rfl) (Zc (zC rfl rfl) (Zb ((if (x).isSome=true then V.p b 0 else V.pn)) rfl (Zb (.n x1) rfl (Ze (Z9 (Zg (Zb (.n x1) rfl (Zc (Zca rfl rfl) (Ze (zu hp rfl (fun k hp=>?_) (fun k hp=>?_))))))))))))
 ·refine Zg (Zb (.n x1) rfl (Zb (.sn) rfl (Zb (.n x1) rfl (Ze (zK (ZI ?_))))))
  have o:=d.nil Zd
  refine ZN (ZY rfl (ZY rfl Z6)) ?_
  cases hp
  exact ⟨V.sn,rfl,(o.pk [2])⟩
 ·refine Zak (Zg (Zb ((if (x).isSome=true then V.p b 0 else V.pn)) rfl ?_))
  obtain ⟨g,a,hp⟩:=ZaP hp
  replace a:x=some g:=a
  have c:Own B h e [zO b [i],eSl Zd i g.cells]:=by have hq:=d;rw [a] at hq;exact hq
  obtain ⟨x2,⟨_,_,m,j,rfl,t⟩,hp⟩:=bdk hp fun _=>Zb3.ok (h:=e)  (c.box 0 rfl) (c.sl 1 rfl)
  refine zU rfl (ZjS (unw a) ZjT) m ?_
  have q:=c.call t rfl
  refine Zb j rfl (Zb (.n 0) rfl (Ze (zK (ZN (ZY rfl (ZY rfl Z6)) ?_))))
  cases hp
  exact ⟨j,rfl,(q.pk [2])⟩

theorem Zc5.ok {h:Hp}{t:Int}   {r:Bool}(hp:Zc5 t=some r) :
  ∃ u k',Is G 205 [.n t] h u k'∧V.b r=u∧Own (fun r=>r<h.n) h k' []:=by
 refine WC.is (ZaD Zfy ?_)
 unfold Zc5 at hp
 let B:Nat→Prop:=(fun r=>r<h.n)
 have hO:Own B h h []:=Own.start0 h
 refine Zg (Zb (.b false) rfl (Ze (Zg (Zb (.n t) rfl (Zc (zA rfl rfl) (Zb (.b (decide (t<0))) rfl (Ze (zK (ZN (ZY rfl Z6) ?_)))))))))
 cases hp
 exact ⟨rfl,(hO.pk [])⟩

theorem Zb4.ok {h:Hp}{cells:List Za}{v_cells:V}(s_cells:Sl Zd h v_cells cells) {r:Int×Int×Bool}(hp:Zb4 cells=some r) :
  ∃ u k',Is G 178 [v_cells] h u k'∧V.tu [.n r.1,.n r.2.1,.b r.2.2]=u∧Own (fun r=>r<h.n) h k' []:=by
 refine WC.is (ZaD Zgf ?_)
 unfold Zb4 at hp
 let B:Nat→Prop:=(fun r=>r<h.n)
 have hO:Own B h h []:=Own.start0 h
 refine Zg (Zb (.n 0) rfl (Zb (.n 0) rfl (Zb (.b false) rfl (Ze (Zg (Zb v_cells rfl ?_))))))
 obtain ⟨⟨x,x1⟩,⟨_,ab,J,rfl,W⟩,hp⟩:=bdk hp fun _=>ZcH.ok (h:=h)  (hO.rd0 s_cells.rd)
 refine zU rfl rfl J ?_
 have l:=hO.call W rfl
 refine Zb (.tu [.n x,.n x1]) rfl (Zc (zC rfl rfl) (Zc (zC rfl rfl) (Zb (.n x) rfl (Zb (.n x1) rfl (Ze (Z9 (Zg (Zb (.n x1) rfl (Zc (Zca rfl rfl) (Ze (zu hp rfl (fun E hp=>?_) (fun E hp=>?_))))))))))))
 ·refine Zg (Zb (.n 0) rfl (Zb (.n 0) rfl (Zb (.b false) rfl (Ze (zK (ZI (ZN (ZY rfl (ZY rfl (ZY rfl Z6))) ?_)))))))
  cases hp
  exact ⟨rfl,(l.pk [])⟩
 ·refine Zak (Zg (Zb v_cells rfl ?_))
  obtain ⟨⟨x2,x3⟩,⟨_,_,K,g,c,rfl,X⟩,hp⟩:=bdk hp fun _=>Zan.ok (h:=ab)  (l.rd0 s_cells.rd)
  refine zU rfl rfl K ?_
  have m:=l.call X rfl
  refine Zb (.tu [g,.n x3]) rfl (Zc (zC rfl rfl) (Zc (zC rfl rfl) (Zb g rfl (Zb (.n x3) rfl (Ze (Z9 (Zg (Zb g rfl (Zc (Zh8 (n:=(x2).length) (m.sl 0 rfl) (m.allLen 1 rfl:(c).length=(x2).length) rfl) (Zb (.n 0) rfl (Zj ?_)))))))))))
  refine Zt (Zai (ZbM hp (fun x4 fr k=>fr 0=v_cells∧fr 5=.n x∧fr 24=g∧fr 25=.n (x2.length:Int)∧fr 26=.n x4∧Own B h k [eSl eV g c,Zci Zn c x2]) (fun|.inl _,e,fr,k=>e=(.exit 0)∧Own B h k []|.inr (x5,x6),e,fr,k=>e=.ret∧fr 2=.n x5∧fr 3=.n x6∧fr 4=.b true∧Own B h k []) ⟨rfl,rfl,rfl,rfl,rfl,(m.pk [0,1])⟩ ?_ ?_))
  ·rintro x4 _ D ⟨p,t,q,s,i,a⟩ _ hp
   dsimp only [Zb4.s0] at hp
   refine Zg (Zc (zA i s) (Ze (Z9 (zu hp rfl (fun F hp=>?_) (fun F hp=>?_)))))
   ·refine Zak (Z9 (Zai (Zg (Zb _ i (ckk hp fun j hp=>Zc (ZP (a.sl 0 rfl) q i (by rw [(a.allLen 1 rfl:(c).length=(x2).length)];exact j)) (Zc (zw (a.sl 0 rfl) rfl (by rw [(a.allLen 1 rfl:(c).length=(x2).length)];exact Zf j) rfl) (Zb (.n x4) rfl (Zb ((gi c x4.toNat)) rfl (Ze ?_)))))))))
    refine Zg (Zb _ p (Zb ((gi c x4.toNat)) rfl ?_))
    obtain ⟨x7,⟨_,ac,L,_,rfl,Y⟩,hp⟩:=bdk hp fun _=>Zbm.ok (h:=D)  (a.rd0 s_cells.rd) (a.inn 1 rfl (Zf j):Sl Zn D (gi c x4.toNat) (gi x2 x4.toNat))
    refine zU rfl rfl L ?_
    have A:=a.call Y rfl
    obtain ⟨x8,⟨_,ad,M,rfl,aa⟩,hp⟩:=bdk hp fun _=>zE.ok (h:=ac)  (A.sl 2 rfl) (fun k z0 y hk hx=>Zc5.ok (h:=k)  hx)
    refine zU rfl rfl M ?_
    have C:=A.call aa rfl
    refine Zb (.n x8) rfl (Ze (Zg (Zb (.n x4) rfl (Zb _ t (Zc (Zca rfl rfl) (Zb (.b (!(decide (x4=x)))) rfl (zN 3 (fun f k=>ad=k∧f 41=.b ((!(decide (x4=x)))&&(decide (0≤x8)))∧f 0=v_cells∧f 11=.n x8∧f 24=g∧f 25=.n (x2.length:Int)∧f 26=.n x4∧f 5=.n x∧f 9=.n x4) ?_ ?_)))))))
    ·rcases bc (!(decide (x4=x))) with d|d
     ·refine Zq rfl d (Zb (.n x8) rfl (Zq rfl d (Zc (Zda rfl rfl) (Zc (ZcU rfl d rfl) (Zj ?_)))))
      exact ⟨rfl,rfl,p,rfl,q,s,i,t,rfl⟩
     ·refine Zl rfl d (Zl rfl d (Zc (ZcT (w:=(!(decide (x4=x)))&&(decide (0≤x8))) rfl d rfl) (Zj ?_)))
      exact ⟨rfl,rfl,p,rfl,q,s,i,t,rfl⟩
    rintro _ _ ⟨rfl,S,N,O,P,Q,R,T,U⟩
    refine Ze (zu hp S (fun H hp=>?_) (fun H hp=>?_))
    ·refine Zg (Zb _ U (Zb _ O (Zb (.n x4) rfl (Zb (.n x8) rfl (Zb (.b true) rfl (Ze (zK (ZaZ (ZI ?_)))))))))
     cases hp
     exact ⟨nofun,rfl,rfl,rfl,rfl,(C.pk [])⟩
    ·refine ZcB (Zam (Zt (Zaf (ckk hp fun I hp=>Zc (ZV R rfl I) (Zb (.n (x4+1)) rfl (Zj ?_))))))
     cases hp
     exact ⟨rfl,N,T,P,Q,rfl,(C.pk [0,1])⟩
   ·refine Zb8 (zW ?_)
    cases hp
    exact ⟨nofun,rfl,(a.pk [])⟩
  rintro (_|⟨x5,x6⟩) hp _ _ _ v
  ·obtain ⟨rfl,o⟩:=v
   refine Za9 (Zt (Zg (Zb (.n 0) rfl (Zb (.n 0) rfl (Zb (.b false) rfl (Ze (zK (ZN (ZY rfl (ZY rfl (ZY rfl Z6))) ?_))))))))
   cases hp
   exact ⟨rfl,(o.pk [])⟩
  ·obtain ⟨rfl,ae,af,ag,o⟩:=v
   refine ZaZ (ZI (ZN (ZY ae (ZY af (ZY ag Z6))) ?_))
   cases hp
   exact ⟨rfl,(o.pk [])⟩

theorem Zcd.ok {h:Hp}{g:zj}{v:Int}{d:Int}{r_g:Nat}{v_g_cells:V}(H:Own (Bm h [zO r_g [v_g_cells],eSl Zd v_g_cells g.cells]) h h [zO r_g [v_g_cells],eSl Zd v_g_cells g.cells]) {r:Int×Int×zj}(hp:Zcd g v d=some r) :
  ∃ u k',Is G 48 [.p r_g 0,.n v,.n d] h u k'∧∃ i,V.tu [.n r.1,.n r.2.1]=u∧Own (Bm h [zO r_g [v_g_cells],eSl Zd v_g_cells g.cells]) h k' [zO r_g [i],eSl Zd i r.2.2.cells]:=by
 refine WC.is (ZaD ZeY ?_)
 unfold Zcd at hp
 let B:Nat→Prop:=(Bm h [zO r_g [v_g_cells],eSl Zd v_g_cells g.cells])
 have hO:Own B h h [zO r_g [v_g_cells],eSl Zd v_g_cells g.cells]:=H
 refine Zg (Zb (.n 0) rfl (Zb (.n 0) rfl (Ze (Z9 (Zai (Zg (Zb (.p r_g 0) rfl (Zc (Zkv rfl rfl) (Zb (.b false) rfl (Zj ?_))))))))))
 refine Zt (Zkt rfl rfl (Zg (Zb (.p r_g 0) rfl (Zb (.n v) rfl (Zb (.n d) rfl ?_)))))
 obtain ⟨x,⟨_,J,o,rfl,C⟩,hp⟩:=bdk hp fun _=>ZbD.ok (h:=h)  (hO.box 0 rfl) (hO.sl 1 rfl)
 refine zU rfl rfl o ?_
 have a:=hO.call C rfl
 refine Zc (ZcJ rfl) (Zb (.b (!x)) rfl (Ze (zu hp rfl (fun j hp=>?_) (fun j hp=>?_))))
 ·refine Zg (Zb (.n 0) rfl (Zb (.n 2) rfl (Ze (zK (ZaZ (ZI (ZN (ZY rfl (ZY rfl Z6)) ?_)))))))
  cases hp
  exact ⟨v_g_cells,rfl,(a.pk [0,1])⟩
 ·refine ZcB (Zam (Zt (Zg (Zb (.p r_g 0) rfl (Zb (.n v) rfl (Zb (.n d) rfl ?_))))))
  obtain ⟨⟨x1,x2,x3⟩,⟨_,K,q,rfl,D⟩,hp⟩:=bdk hp fun _=>Zbq.ok (h:=J)  (a.box 0 rfl) (a.sl 1 rfl)
  refine zU rfl rfl q ?_
  have c:=a.call D rfl
  refine Zb (.tu [.n x1,.n x2,.b x3]) rfl (Zc (zC rfl rfl) (Zc (zC rfl rfl) (Zc (zC rfl rfl) (Zb (.n x1) rfl (Zb (.n x2) rfl (Zb (.b x3) rfl (Ze (Z9 (Zg (Zb (.b x3) rfl (Zc (ZcJ rfl) ?_)))))))))))
  refine Ze (zu hp rfl (fun k hp=>?_) (fun k hp=>?_))
  ·refine Zg (Zb (.n 0) rfl (Zb (.n 9) rfl (Ze (zK (ZI (ZN (ZY rfl (ZY rfl Z6)) ?_))))))
   cases hp
   exact ⟨v_g_cells,rfl,(c.pk [0,1])⟩
  ·refine Zak (Zg (Zb (.p r_g 0) rfl ?_))
   obtain ⟨⟨x4,x5,m⟩,⟨_,L,s,N,rfl,E⟩,hp⟩:=bdk hp fun _=>Zcl.ok (h:=K) (g:=g) (c.toM [0,1] rfl (by decide)) 
   refine zU rfl rfl s ?_
   have e:=(c.callM [0,1] [] rfl rfl (by decide) E rfl).pick [0,1] rfl (by decide)
   refine Zb (.tu [.n x4,.n x5]) rfl (Zc (zC rfl rfl) (Zc (zC rfl rfl) (Zb (.n x4) rfl (Zb (.n x5) rfl (Ze (Z9 (Zg (Zb (.n x5) rfl (Zc (Zca rfl rfl) (Ze (zu hp rfl (fun l hp=>?_) (fun l hp=>?_))))))))))))
   ·refine Zg (Zb (.n x5) rfl (Zb (.n 0) rfl (Zb (.n x5) rfl (Ze (zK (ZI (ZN (ZY rfl (ZY rfl Z6)) ?_)))))))
    cases hp
    exact ⟨N,rfl,(e.pk [0,1])⟩
   ·refine Zak (Zg (Zb (.p r_g 0) rfl (Zb (.n v) rfl (Zb (.n d) rfl (Zb (.n x4) rfl (Zb (.n x2) rfl ?_))))))
    obtain ⟨m1,⟨_,M,t,_,rfl,F⟩,hp⟩:=bdk hp fun _=>ZbO.ok (h:=L) (g:=m) (v:=v) (d:=d) (w:=x4) (owner:=x2) (e.toM [0,1] rfl (by decide)) 
    refine zU rfl rfl t ?_
    have f:=(e.callM [0,1] [] rfl rfl (by decide) F rfl).pick [0,1] rfl (by decide)
    refine Ze (Zg (Zb (.p r_g 0) rfl (Zb (.n x4) rfl (Zb (.n d) rfl (Zb (.n x1) rfl (Zb (.n x2) rfl ?_))))))
    obtain ⟨m2,⟨_,_,y,O,rfl,I⟩,hp⟩:=bdk hp fun _=>ZbO.ok (h:=M) (g:=m1) (v:=x4) (d:=d) (w:=x1) (owner:=x2) (f.toM [0,1] rfl (by decide)) 
    refine zU rfl rfl y ?_
    have A:=(f.callM [0,1] [] rfl rfl (by decide) I rfl).pick [0,1] rfl (by decide)
    refine Ze (Zg (Zb (.n x4) rfl (Zb (.n x4) rfl (Zb (.n 0) rfl (Ze (zK (ZN (ZY rfl (ZY rfl Z6)) ?_)))))))
    cases hp
    exact ⟨O,rfl,(A.pk [0,1])⟩

theorem ZdA.ok {h:Hp}{g:zj}{r_g:Nat}{v_g_cells:V}(H:Own (Bm h [zO r_g [v_g_cells],eSl Zd v_g_cells g.cells]) h h [zO r_g [v_g_cells],eSl Zd v_g_cells g.cells]) {r:Bool×Int×zj}(hp:ZdA g=some r) :
  ∃ u k',Is G 276 [.p r_g 0] h u k'∧∃ R,V.tu [.b r.1,.n r.2.1]=u∧Own (Bm h [zO r_g [v_g_cells],eSl Zd v_g_cells g.cells]) h k' [zO r_g [R],eSl Zd R r.2.2.cells]:=by
 refine WC.is (ZaD Zhj ?_)
 unfold ZdA at hp
 let B:Nat→Prop:=(Bm h [zO r_g [v_g_cells],eSl Zd v_g_cells g.cells])
 have hO:Own B h h [zO r_g [v_g_cells],eSl Zd v_g_cells g.cells]:=H
 refine Zg (Zb (.b false) rfl (Zb (.n 0) rfl (Ze (Zg (Zb (.p r_g 0) rfl ?_)))))
 obtain ⟨x,⟨_,au,U,D,rfl,ak⟩,hp⟩:=bdk hp fun _=>Zb3.ok (h:=h)  (hO.box 0 rfl) (hO.sl 1 rfl)
 refine zU rfl rfl U ?_
 have L:=hO.call ak rfl
 refine Zb D rfl (Ze (Zg (Zb D rfl ?_)))
 obtain ⟨⟨x1,x2,x3⟩,⟨_,ay,W,rfl,al⟩,hp⟩:=bdk hp fun _=>Zb4.ok (h:=au)  (L.sl 2 rfl)
 refine zU rfl rfl W ?_
 have E:=L.call al rfl
 refine Zb (.tu [.n x1,.n x2,.b x3]) rfl (Zc (zC rfl rfl) (Zc (zC rfl rfl) (Zc (zC rfl rfl) (Zb (.n x1) rfl (Zb (.n x2) rfl (Zb (.b x3) rfl (Ze (Z9 (Zg (Zb (.b x3) rfl (Zc (ZcJ rfl) ?_)))))))))))
 refine Ze (zu hp rfl (fun S hp=>?_) (fun S hp=>?_))
 ·refine Zg (Zb (.b false) rfl (Zb (.n 0) rfl (Ze (zK (ZI (ZN (ZY rfl (ZY rfl Z6)) ?_))))))
  cases hp
  exact ⟨v_g_cells,rfl,(E.pk [0,1])⟩
 ·refine Zak (Zg (Zb D rfl ?_))
  obtain ⟨⟨x4,x5⟩,⟨_,N,X,y,f,rfl,am⟩,hp⟩:=bdk hp fun _=>Zan.ok (h:=ay)  (E.sl 2 rfl)
  refine zU rfl rfl X ?_
  have l:=E.call am rfl
  refine Zb (.tu [y,.n x5]) rfl (Zc (zC rfl rfl) (Zc (zC rfl rfl) (Zb y rfl (Zb (.n x5) rfl (Ze (Zg (Zb D rfl (Zb y rfl (Zb (.n x1) rfl (ckk hp fun e hp=>Zc (ZP (l.sl 3 rfl) rfl rfl (by rw [(l.allLen 4 rfl:(f).length=(x4).length)];exact e)) ?_))))))))))
  refine Zc (zw (l.sl 3 rfl) rfl (by rw [(l.allLen 4 rfl:(f).length=(x4).length)];exact Zf e) rfl) ?_
  obtain ⟨x6,⟨_,az,Y,_,rfl,an⟩,hp⟩:=bdk hp fun _=>Zbm.ok (h:=N)  (l.sl 2 rfl) (l.inn 4 rfl (Zf e):Sl Zn N (gi f x1.toNat) (gi x4 x1.toNat))
  refine zU rfl rfl Y ?_
  have M:=l.call an rfl
  refine Zb (.n x2) rfl ?_
  obtain ⟨⟨x7,x8⟩,⟨_,s,aa,rfl,ao⟩,hp⟩:=bdk hp fun _=>Zb5.ok (h:=az)  (M.sl 5 rfl)
  refine zU rfl rfl aa ?_
  have a:=M.call ao rfl
  refine Zb (.tu [.n x7,.b x8]) rfl (Zc (zC rfl rfl) (Zc (zC rfl rfl) (Zb (.n x7) rfl (Zb (.b x8) rfl (Ze (Z9 (Zgp ?_)))))))
  have k:=a.bump 18
  have K:=Fresh.start s 18
  have P:∀ {i:Nat},h.n≤s.n+i:=Nat.le_trans a.n (Nat.le_add_right _ _)
  refine Zbl y rfl (Zbl (.n x1) rfl (z8 (ZP (k.sl 3 rfl) rfl rfl (by rw [(k.allLen 4 rfl:(f).length=(x4).length)];exact e)) (z8 (zw (k.sl 3 rfl) rfl (by rw [(k.allLen 4 rfl:(f).length=(x4).length)];exact Zf e) rfl) (Zbl (.n x2) rfl (ckk hp fun I hp=>z8 (ZP (k.inn 4 rfl (Zf e):Sl Zn (s.bump 18) (gi f x1.toNat) (gi x4 x1.toNat)) rfl rfl I) (z8 (Zfm (k.inn 4 rfl (Zf e):Sl Zn (s.bump 18) (gi f x1.toNat) (gi x4 x1.toNat)) rfl (Zf I)) (Zbl y rfl (Zbl (.n x1) rfl (z8 (ZP (k.sl 3 rfl) rfl rfl (by rw [(k.allLen 4 rfl:(f).length=(x4).length)];exact e)) (z8 (zw (k.sl 3 rfl) rfl (by rw [(k.allLen 4 rfl:(f).length=(x4).length)];exact Zf e) rfl) (Zbl (.n x7) rfl (ckk hp fun J hp=>?_))))))))))))
  refine z8 (ZP (k.inn 4 rfl (Zf e):Sl Zn (s.bump 18) (gi f x1.toNat) (gi x4 x1.toNat)) rfl rfl J) (z8 (Zfm (k.inn 4 rfl (Zf e):Sl Zn (s.bump 18) (gi f x1.toNat) (gi x4 x1.toNat)) rfl (Zf J)) (ZeT (k.alloc (cs:=Zn.c (⟨0,0⟩:Z5)) ⟨K.m 14 (by decide) (by decide),P⟩) ?_))
  rintro _ _ _ ⟨F,rfl,O,ae,ah⟩
  have af:=K.kept ae (by decide)
  refine ZeT (ah.alloc (cs:=Zn.c (⟨0,0⟩:Z5)) ⟨af.m 15 (by decide) (by decide),P⟩) ?_
  rintro _ _ _ ⟨Q,rfl,_,_,ai⟩
  refine ZeT (ai.stb (cs':=Zn.c (gi (gi x4 x1.toNat) x2.toNat)) 6 rfl rfl rfl rfl ⟨rfl,Nat.le_of_ble_eq_true rfl,rfl⟩ rfl) ?_
  rintro _ _ _ ⟨rfl,_,_,aj⟩
  refine ZeT (aj.stb (cs':=Zn.c (gi (gi x4 x1.toNat) x7.toNat)) 7 rfl rfl rfl rfl ⟨rfl,Nat.le_of_ble_eq_true rfl,rfl⟩ rfl) ?_
  rintro _ av _ ⟨rfl,_,_,t⟩
  refine ZcW ?_
  refine And.intro ?_ ?_
  ·intro q hq
   simp only [List.mem_cons,List.not_mem_nil,or_false] at hq
   rcases hq with rfl|rfl|rfl|rfl|rfl|rfl|rfl|rfl|rfl|rfl|rfl|rfl|rfl|rfl|rfl
   ·refine ZaX ?_ ?_
    ·exact (fun h=>nomatch h)
    ·exact (fun h=>nomatch h)
   ·refine ZaX ?_ ?_
    ·exact (fun h=>nomatch h)
    ·exact (fun h=>nomatch h)
   ·refine ZaX ?_ ?_
    ·exact (fun h=>nomatch h)
    ·exact (fun h=>nomatch h)
   ·refine ZaX ?_ ?_
    ·exact (fun h=>nomatch h)
    ·exact (fun h=>nomatch h)
   ·refine ZaX ?_ ?_
    ·exact (fun h=>nomatch h)
    ·exact (fun _ hm=>Nat.lt_irrefl _ (Nat.lt_of_lt_of_le (a.ltAt 3 rfl _ (Zc7 (tch (ZcV hm) rfl))) (Nat.le_add_right _ _)))
   ·refine ZaX ?_ ?_
    ·exact (fun h=>nomatch h)
    ·exact (fun _ hm=>Nat.lt_irrefl _ (Nat.lt_of_lt_of_le (a.ltAt 4 rfl _ (ZgN (j:=x1.toNat) (by have q:(f).length=(x4).length:=a.allLen 4 rfl;have:=e;omega) (Zc7 (tch (ZcV hm) rfl)))) (Nat.le_add_right _ _)))
   ·refine ZaX ?_ ?_
    ·exact (fun h=>nomatch h)
    ·exact (fun _ hm=>Nat.lt_irrefl _ (Nat.lt_of_lt_of_le (a.ltAt 3 rfl _ (Zc7 (tch (ZcV hm) rfl))) (Nat.le_add_right _ _)))
   ·refine ZaX ?_ ?_
    ·exact (fun h=>nomatch h)
    ·exact (fun _ hm=>Nat.lt_irrefl _ (Nat.lt_of_lt_of_le (a.ltAt 4 rfl _ (ZgN (j:=x1.toNat) (by have q:(f).length=(x4).length:=a.allLen 4 rfl;have:=e;omega) (Zc7 (tch (ZcV hm) rfl)))) (Nat.le_add_right _ _)))
   ·refine ZaX ?_ ?_
    ·exact (fun h=>nomatch h)
    ·exact (fun _ hm=>Nat.lt_irrefl _ (Nat.lt_of_lt_of_le (a.ltAt 3 rfl _ (Zc7 (tch (ZcV hm) rfl))) (Nat.le_add_right _ _)))
   ·refine ZaX ?_ ?_
    ·exact (fun h=>nomatch h)
    ·exact (fun _ hm=>Nat.lt_irrefl _ (Nat.lt_of_lt_of_le (a.ltAt 4 rfl _ (ZgN (j:=x1.toNat) (by have q:(f).length=(x4).length:=a.allLen 4 rfl;have:=e;omega) (Zc7 (tch (ZcV hm) rfl)))) (Nat.le_add_right _ _)))
   ·refine ZaX ?_ ?_
    ·exact (fun h=>nomatch h)
    ·exact (fun _ hm=>Nat.lt_irrefl _ (Nat.lt_of_lt_of_le (a.ltAt 3 rfl _ (Zc7 (tch (ZcV hm) rfl))) (Nat.le_add_right _ _)))
   ·refine ZaX ?_ ?_
    ·exact (fun h=>nomatch h)
    ·exact (fun _ hm=>Nat.lt_irrefl _ (Nat.lt_of_lt_of_le (a.ltAt 4 rfl _ (ZgN (j:=x1.toNat) (by have q:(f).length=(x4).length:=a.allLen 4 rfl;have:=e;omega) (Zc7 (tch (ZcV hm) rfl)))) (Nat.le_add_right _ _)))
   ·refine ZaX ?_ ?_
    ·exact (fun _=>List.not_mem_nil)
    ·exact (fun _=>List.not_mem_nil)
   ·refine ZoR ?_ ?_ ?_
    ·exact (fun r h1 h2=>by have h3:=(a.ltAt 3 rfl _ (Zc7 (tch (ZcV h1) rfl)));have h4:=(ZlO O (tch (Zpf h2) rfl));omega)
    ·exact (fun h=>nomatch h)
    ·exact (fun _ hm=>Nat.lt_irrefl _ (Nat.lt_of_lt_of_le (a.ltAt 3 rfl _ (Zc7 (tch (ZcV hm) rfl))) (Nat.le_add_right _ _)))
   ·refine ZoR ?_ ?_ ?_
    ·exact (fun r h1 h2=>by have h3:=(a.ltAt 4 rfl _ (ZgN (j:=x1.toNat) (by have q:(f).length=(x4).length:=a.allLen 4 rfl;have:=e;omega) (Zc7 (tch (ZcV h1) rfl))));have h4:=(ZlO O (tch (Zpf h2) rfl));omega)
    ·exact (fun h=>nomatch h)
    ·exact (fun _ hm=>Nat.lt_irrefl _ (Nat.lt_of_lt_of_le (a.ltAt 4 rfl _ (ZgN (j:=x1.toNat) (by have q:(f).length=(x4).length:=a.allLen 4 rfl;have:=e;omega) (Zc7 (tch (ZcV hm) rfl)))) (Nat.le_add_right _ _)))
  refine Zt (Zg (Zb (.p r_g 0) rfl (Zc (Zal (r:=F) (o:=0) rfl rfl) (Zc (zy (t.box 6 rfl) rfl rfl) (Zc (Zal (r:=F) (o:=0) rfl rfl) (Zc (zy (t.box 6 rfl) rfl rfl) ?_))))))
  obtain ⟨⟨x9,x10,x11⟩,⟨_,aw,ab,rfl,ap⟩,hp⟩:=bdk hp fun _=>Zbq.ok (h:=av)  (t.box 0 rfl) (t.sl 1 rfl)
  refine zU rfl rfl ab ?_
  have A:=t.call ap rfl
  refine Zb (.tu [.n x9,.n x10,.b x11]) rfl (Zc (zC rfl rfl) (Zc (zC rfl rfl) (Zc (zC rfl rfl) (Zb (.n x9) rfl (Zb (.n x10) rfl (Zb (.b x11) rfl (Ze (Zg (Zb (.p r_g 0) rfl (Zc (Zal (r:=Q) (o:=0) rfl rfl) (Zc (zy (A.box 7 rfl) rfl rfl) ?_)))))))))))
  refine Zc (Zal (r:=Q) (o:=0) rfl rfl) (Zc (zy (A.box 7 rfl) rfl rfl) ?_)
  obtain ⟨⟨x12,x13,m⟩,⟨_,ax,ac,aA,rfl,aq⟩,hp⟩:=bdk hp fun _=>Zcd.ok (h:=aw) (g:=g) (v:=((gi (gi x4 x1.toNat) x7.toNat).Cell)) (d:=((gi (gi x4 x1.toNat) x7.toNat).Dir)) (A.toM [0,1] rfl (by decide)) 
  refine zU rfl rfl ac ?_
  have C:=(A.callM [0,1] [2,3,4,5,6,7] rfl rfl (by decide) aq rfl).pick [6,7,0,1,2,3,4,5] rfl (by decide)
  refine Zb (.tu [.n x12,.n x13]) rfl (Zc (zC rfl rfl) (Zc (zC rfl rfl) (Zb (.n x12) rfl (Zb (.n x13) rfl (Ze (Z9 (Zg (Zb (.n x13) rfl (Zc (Zca rfl rfl) (Ze (zu hp rfl (fun T hp=>?_) (fun T hp=>?_))))))))))))
  ·refine Zg (Zb (.n x13) rfl (Zb (.b false) rfl (Zb (.n x13) rfl (Ze (zK (ZI (ZN (ZY rfl (ZY rfl Z6)) ?_)))))))
   cases hp
   exact ⟨aA,rfl,(C.pk [0,1])⟩
  ·refine Zak (Zg (Zb (.p r_g 0) rfl (Zb (.n x9) rfl (Zc (Zal (r:=F) (o:=0) rfl rfl) (Zc (zy (C.box 6 rfl) rfl rfl) (Zb (.n x12) rfl ?_))))))
   obtain ⟨⟨x14,m1⟩,⟨_,_,ad,aB,rfl,ar⟩,hp⟩:=bdk hp fun _=>Za2.ok (h:=ax) (g:=m) (v:=x9) (d:=((gi (gi x4 x1.toNat) x2.toNat).Dir)) (w:=x12) (owner:=(-2)) (C.toM [0,1] rfl (by decide)) 
   refine zU rfl rfl ad ?_
   have ag:=(C.callM [0,1] [2,3,4,5,6,7] rfl rfl (by decide) ar rfl).pick [6,7,0,1,2,3,4,5] rfl (by decide)
   refine Zb (.b true) rfl (Zb (.n x14) rfl (Ze (zK (ZN (ZY rfl (ZY rfl Z6)) ?_))))
   cases hp
   exact ⟨aB,rfl,(ag.pk [0,1])⟩

theorem ZaF.ok {h:Hp}{cells:List Za}{v_cells:V}(s_cells:Sl Zd h v_cells cells) {r:(List Za)×Int}(hp:ZaF cells=some r) :
  ∃ u k',Is G 266 [v_cells] h u k'∧∃ w,V.tu [w,.n r.2]=u∧Own (fun r=>r<h.n) h k' [eSl Zd w r.1]:=by
 refine WC.is (ZaD Zgi ?_)
 unfold ZaF at hp
 let B:Nat→Prop:=(fun r=>r<h.n)
 have hO:Own B h h []:=Own.start0 h
 refine Zg (Zb (.sn) rfl (Zb (.n 0) rfl (Ze (Zg (Zb v_cells rfl ?_)))))
 obtain ⟨⟨x,x1⟩,⟨_,v,H,a,o,rfl,Q⟩,hp⟩:=bdk hp fun _=>ZbV.ok (h:=h)  (hO.rd0 s_cells.rd)
 refine zU rfl rfl H ?_
 have d:=hO.call Q rfl
 refine Zb (.tu [(if (x).isSome=true then V.p a 0 else V.pn),.n x1]) rfl (Zc (zC rfl rfl) (Zc (zC rfl rfl) (Zb ((if (x).isSome=true then V.p a 0 else V.pn)) rfl (Zb (.n x1) rfl (Ze (Z9 (Zai (Zg (Zb (.n x1) rfl (Zc (Zb7 rfl rfl) (Zb (.b (decide (x1=2))) rfl ?_)))))))))))
 refine Ze (zu hp rfl (fun C hp=>?_) (fun C hp=>?_))
 ·refine Zg (Zb v_cells rfl ?_)
  obtain ⟨x2,⟨_,_,I,y,rfl,R⟩,hp⟩:=bdk hp fun _=>ZaH.ok (h:=v)  (d.rd0 s_cells.rd)
  refine zU rfl rfl I ?_
  have L:=d.call R rfl
  refine Zb y rfl (Zb (.n 0) rfl (Ze (zK (ZaZ (ZI (ZN (ZY rfl (ZY rfl Z6)) ?_))))))
  cases hp
  exact ⟨y,rfl,(L.pk [2])⟩
 ·refine Zg (Zb (.n x1) rfl (Zc (Zca rfl rfl) (Zb (.b (!(decide (x1=0)))) rfl (Ze (zu hp rfl (fun D hp=>?_) (fun D hp=>?_))))))
  ·refine Zg (Zb (.n x1) rfl (Zb (.sn) rfl (Zb (.n x1) rfl (Ze (zK (ZaZ (ZI ?_)))))))
   have M:=d.nil Zd
   refine ZN (ZY rfl (ZY rfl Z6)) ?_
   cases hp
   exact ⟨V.sn,rfl,(M.pk [2])⟩
  ·refine ZcB (Zam (Zt (Z9 (Zg (Zb (.b true) rfl (Ze (Zai ?_)))))))
   obtain ⟨g,f,hp⟩:=ZaP hp
   replace f:x=some g:=f
   have N:Own B h v [zO a [o],eSl Zd o g.cells]:=by have hq:=d;rw [f] at hq;exact hq
   refine ZbM hp (fun|(g1,more),fr,k=>∃ i,fr 4=.p a 0∧fr 6=.b more∧Own B h k [zO a [i],eSl Zd i g1]) (fun|.inl g2,e,fr,k=>e=(.exit 1)∧∃ q,fr 4=.p a 0∧Own B h k [zO a [q],eSl Zd q g2]|.inr x3,e,fr,k=>e=.ret∧fr 2=.sn∧fr 3=.n x3∧Own B h k []) ⟨o,(unw f),rfl,(N.pk [0,1])⟩ ?_ ?_
   ·rintro ⟨g1,more⟩ _ W ⟨i,l,ab,j⟩ _ hp
    dsimp only [ZaF.s0] at hp
    refine Z9 (Zg (Zb _ ab (Ze (zu hp rfl (fun E hp=>?_) (fun E hp=>?_)))))
    ·refine Zak (Zai (Zg (Zb _ l ?_)))
     obtain ⟨⟨x4,x5,m⟩,⟨_,_,J,ac,rfl,S⟩,hp⟩:=bdk hp fun _=>ZdA.ok (h:=W) (g:=(⟨g1⟩:zj)) (j.toM [0,1] rfl (by decide)) 
     refine zU rfl rfl J ?_
     have t:=(j.callM [0,1] [] rfl rfl (by decide) S rfl).pick [0,1] rfl (by decide)
     refine Zb (.tu [.b x4,.n x5]) rfl (Zc (zC rfl rfl) (Zc (zC rfl rfl) (Zb (.b x4) rfl (Zb (.n x5) rfl (Ze (Zg (Zb (.n x5) rfl (Zc (Zca rfl rfl) (Ze (zu hp rfl (fun F hp=>?_) (fun F hp=>?_)))))))))))
     ·refine Zg (Zb (.n x5) rfl (Zb (.sn) rfl (Zb (.n x5) rfl (Ze (zK (ZaZ ?_))))))
      cases hp
      exact ⟨nofun,rfl,rfl,rfl,(t.pk [])⟩
     ·refine ZcB (Zam ?_)
      cases hp
      exact ⟨rfl,ac,l,rfl,(t.pk [0,1])⟩
    ·refine Zb8 (zW ?_)
     cases hp
     exact ⟨nofun,rfl,i,l,(j.pk [0,1])⟩
   rintro (g2|x3) hp _ _ U s
   ·obtain ⟨rfl,q,aa,c⟩:=s
    refine Za9 (Zt (Zg (Zb _ aa ?_)))
    obtain ⟨x6,⟨_,_,K,A,rfl,T⟩,hp⟩:=bdk hp fun _=>Zb3.ok (h:=U)  (c.box 0 rfl) (c.sl 1 rfl)
    refine zU rfl rfl K ?_
    have O:=c.call T rfl
    refine Zb A rfl (Zb (.n 0) rfl (Ze (zK (ZN (ZY rfl (ZY rfl Z6)) ?_))))
    cases hp
    exact ⟨A,rfl,(O.pk [2])⟩
   ·obtain ⟨rfl,X,Y,c⟩:=s
    refine ZaZ (ZI ?_)
    have P:=c.nil Zd
    refine ZN (ZY X (ZY Y Z6)) ?_
    cases hp
    exact ⟨V.sn,rfl,(P.pk [0])⟩

theorem ZbK.ok {h:Hp}{cells:List Za}{v_cells:V}(s_cells:Sl Zd h v_cells cells) {r:Bool×Int}(hp:ZbK cells=some r) :
  ∃ u k',Is G 269 [v_cells] h u k'∧V.tu [.b r.1,.n r.2]=u∧Own (fun r=>r<h.n) h k' []:=by
 refine WC.is (ZaD ZeN ?_)
 unfold ZbK at hp
 let B:Nat→Prop:=(fun r=>r<h.n)
 have hO:Own B h h []:=Own.start0 h
 refine Zg (Zb (.b false) rfl (Zb (.n 0) rfl (Ze (Z9 (Zg (Zb v_cells rfl ?_))))))
 obtain ⟨x,⟨_,j,d,rfl,g⟩,hp⟩:=bdk hp fun _=>ZcG.ok (h:=h)  (hO.rd0 s_cells.rd)
 refine zU rfl rfl d ?_
 have a:=hO.call g rfl
 refine Zb (.n x) rfl (Ze (Zg (Zb (.n x) rfl (Zc (Zca rfl rfl) (Ze (zu hp rfl (fun c hp=>?_) (fun c hp=>?_)))))))
 ·refine Zg (Zb (.n x) rfl (Zb (.b false) rfl (Zb (.n x) rfl (Ze (zK (ZI (ZN (ZY rfl (ZY rfl Z6)) ?_)))))))
  cases hp
  exact ⟨rfl,(a.pk [])⟩
 ·refine Zak (Zg (Zb v_cells rfl ?_))
  obtain ⟨⟨x1,x2,x3⟩,⟨_,_,e,rfl,i⟩,hp⟩:=bdk hp fun _=>Zb4.ok (h:=j)  (a.rd0 s_cells.rd)
  refine zU rfl rfl e ?_
  have f:=a.call i rfl
  refine Zb (.tu [.n x1,.n x2,.b x3]) rfl (Zc (zC rfl rfl) (Zc (zC rfl rfl) (Zc (zC rfl rfl) (Zb (.n x1) rfl (Zb (.n x2) rfl (Zb (.b x3) rfl (Ze (Zg (Zb (.b x3) rfl (Zc (ZcJ rfl) (Zb (.b (!x3)) rfl ?_)))))))))))
  refine Zb (.n 0) rfl (Ze (zK (ZN (ZY rfl (ZY rfl Z6)) ?_)))
  cases hp
  exact ⟨rfl,(f.pk [])⟩

theorem Zc4.ok {h:Hp}    {r:Bool}(hp:Zc4 =some r) :
  ∃ u k',Is G 264 [] h u k'∧V.b r=u∧Own (fun r=>r<h.n) h k' []:=by
 refine WC.is (ZaD Zek ?_)
 unfold Zc4 at hp
 let B:Nat→Prop:=(fun r=>r<h.n)
 have hO:Own B h h []:=Own.start0 h
 refine Zg (Zb (.b false) rfl (Ze (Zg ?_)))
 obtain ⟨x,⟨_,aw,W,T,rfl,ao⟩,hp⟩:=bdk hp fun _=>ZO.ok (h:=h)  
 refine zU rfl rfl W ?_
 have O:=hO.call ao rfl
 refine Zb T rfl (Ze (Zg (Zb T rfl ?_)))
 obtain ⟨⟨x1,x2⟩,⟨_,ax,X,m,rfl,ap⟩,hp⟩:=bdk hp fun _=>ZQ.ok (h:=aw) (l:=x) (v:=0) (d:=0) (w:=1) (o:=0) (O.toM [0] rfl (by decide)) 
 refine zU rfl rfl X ?_
 have P:=(O.callM [0] [] rfl rfl (by decide) ap rfl).pick [900,0] rfl (by decide)
 refine Zb (.tu [m,.n x2]) rfl (Zc (zC rfl rfl) (Zc (zC rfl rfl) (Zb m rfl (Ze (Zg (Zb m rfl ?_))))))
 obtain ⟨⟨x3,x4⟩,⟨_,ay,Y,y,rfl,aq⟩,hp⟩:=bdk hp fun _=>ZbX.ok (h:=ax)  (P.sl 1 rfl)
 refine zU rfl rfl Y ?_
 have Q:=P.call aq rfl
 refine Zb (.tu [y,.n x4]) rfl (Zc (zC rfl rfl) (Zc (zC rfl rfl) (Zb y rfl (Zb (.n x4) rfl (Ze (Zg (Zb m rfl ?_)))))))
 obtain ⟨⟨x5,x6⟩,⟨_,az,aa,q,rfl,ar⟩,hp⟩:=bdk hp fun _=>ZaF.ok (h:=ay)  (Q.sl 1 rfl)
 refine zU rfl rfl aa ?_
 have R:=Q.call ar rfl
 refine Zb (.tu [q,.n x6]) rfl (Zc (zC rfl rfl) (Zc (zC rfl rfl) (Zb q rfl (Zb (.n x6) rfl (Ze (Zg (Zb q rfl ?_)))))))
 obtain ⟨⟨x7,x8⟩,⟨_,S,ab,rfl,au⟩,hp⟩:=bdk hp fun _=>ZbK.ok (h:=az)  (R.sl 3 rfl)
 refine zU rfl rfl ab ?_
 have s:=R.call au rfl
 refine Zb (.tu [.b x7,.n x8]) rfl (Zc (zC rfl rfl) (Zc (zC rfl rfl) (Zb (.b x7) rfl (Zb (.n x8) rfl (Ze (Zg (Zb m rfl (ckk hp fun A hp=>Zc (ZkR (E:=Zd) (z:=1) (s.sl 1 rfl) rfl rfl A) ?_))))))))
 obtain ⟨⟨x9,x10⟩,⟨_,j,ac,U,rfl,av⟩,hp⟩:=bdk hp fun _=>ZbX.ok (h:=S)  (Sl.cutU (s.sl 1 rfl) A:Sl Zd S (V.cut m 0 (1:Int).toNat) (x1.take (1:Int).toNat))
 refine zU rfl rfl ac ?_
 have t:=s.call av rfl
 refine Zb (.tu [U,.n x10]) rfl (Zc (zC rfl rfl) (Zc (zC rfl rfl) (Zb U rfl (Zb (.n x10) rfl (Ze (Zg (Zb (.n x4) rfl (Zc (Zb7 rfl rfl) (Zb (.b (decide (x4=0))) rfl (zN 4 (fun f k=>j=k∧f 43=.b ((decide (x4=0))&&(decide ((x3.length:Int)=7)))∧f 4=q∧f 5=.n x6∧f 6=.b x7∧f 7=.n x8∧f 9=.n x10) ?_ ?_))))))))))
 ·rcases bc (decide (x4=0)) with a|a
  ·refine Zq rfl a (Zb y rfl (Zq rfl a (Zc (Zap (t.sl 2 rfl) rfl) (Zq rfl a (Zc (Zb7 rfl rfl) (Zc (ZcU rfl a rfl) (Zj ?_)))))))
   exact ⟨rfl,rfl,rfl,rfl,rfl,rfl,rfl⟩
  ·refine Zl rfl a (Zl rfl a (Zl rfl a (Zc (ZcT (w:=(decide (x4=0))&&(decide ((x3.length:Int)=7))) rfl a rfl) (Zj ?_))))
   exact ⟨rfl,rfl,rfl,rfl,rfl,rfl,rfl⟩
 rintro _ _ ⟨rfl,ad,C,ae,D,F,H⟩
 refine Zb _ ad (zN 3 (fun f k=>j=k∧f 47=.b (((decide (x4=0))&&(decide ((x3.length:Int)=7)))&&(decide (x6=0)))∧f 4=q∧f 6=.b x7∧f 7=.n x8∧f 9=.n x10) ?_ ?_)
 ·rcases bc ((decide (x4=0))&&(decide ((x3.length:Int)=7))) with e|e
  ·refine Zq rfl e (Zb _ ae (Zq rfl e (Zc (Zb7 rfl rfl) (Zc (ZcU rfl e rfl) (Zj ?_)))))
   exact ⟨rfl,rfl,C,D,F,H⟩
  ·refine Zl rfl e (Zl rfl e (Zc (ZcT (w:=((decide (x4=0))&&(decide ((x3.length:Int)=7)))&&(decide (x6=0))) rfl e rfl) (Zj ?_)))
   exact ⟨rfl,rfl,C,D,F,H⟩
 rintro _ _ ⟨rfl,ag,af,I,J,K⟩
 refine Zb _ ag (zN 4 (fun f k=>j=k∧f 52=.b ((((decide (x4=0))&&(decide ((x3.length:Int)=7)))&&(decide (x6=0)))&&(decide (7<(x5.length:Int))))∧f 6=.b x7∧f 7=.n x8∧f 9=.n x10) ?_ ?_)
 ·rcases bc (((decide (x4=0))&&(decide ((x3.length:Int)=7)))&&(decide (x6=0))) with c|c
  ·refine Zq rfl c (Zb _ af (Zq rfl c (Zc (Zap (t.sl 3 rfl) rfl) (Zq rfl c (Zc (Zd1 rfl rfl) (Zc (ZcU rfl c rfl) (Zj ?_)))))))
   exact ⟨rfl,rfl,I,J,K⟩
  ·refine Zl rfl c (Zl rfl c (Zl rfl c (Zc (ZcT (w:=(((decide (x4=0))&&(decide ((x3.length:Int)=7)))&&(decide (x6=0)))&&(decide (7<(x5.length:Int)))) rfl c rfl) (Zj ?_))))
   exact ⟨rfl,rfl,I,J,K⟩
 rintro _ _ ⟨rfl,ah,ai,L,M⟩
 refine Zb _ ah (zN 2 (fun f k=>j=k∧f 55=.b (((((decide (x4=0))&&(decide ((x3.length:Int)=7)))&&(decide (x6=0)))&&(decide (7<(x5.length:Int))))&&x7)∧f 7=.n x8∧f 9=.n x10) ?_ ?_)
 ·rcases bc ((((decide (x4=0))&&(decide ((x3.length:Int)=7)))&&(decide (x6=0)))&&(decide (7<(x5.length:Int)))) with p|p
  ·refine Zq rfl p (Zb _ ai (Zc (ZcU rfl p rfl) (Zj ?_)))
   exact ⟨rfl,rfl,L,M⟩
  ·refine Zl rfl p (Zc (ZcT (w:=((((decide (x4=0))&&(decide ((x3.length:Int)=7)))&&(decide (x6=0)))&&(decide (7<(x5.length:Int))))&&x7) rfl p rfl) (Zj ?_))
   exact ⟨rfl,rfl,L,M⟩
 rintro _ _ ⟨rfl,aj,ak,N⟩
 refine Zb _ aj (zN 3 (fun f k=>j=k∧f 59=.b ((((((decide (x4=0))&&(decide ((x3.length:Int)=7)))&&(decide (x6=0)))&&(decide (7<(x5.length:Int))))&&x7)&&(decide (x8=0)))∧f 9=.n x10) ?_ ?_)
 ·rcases bc (((((decide (x4=0))&&(decide ((x3.length:Int)=7)))&&(decide (x6=0)))&&(decide (7<(x5.length:Int))))&&x7) with g|g
  ·refine Zq rfl g (Zb _ ak (Zq rfl g (Zc (Zb7 rfl rfl) (Zc (ZcU rfl g rfl) (Zj ?_)))))
   exact ⟨rfl,rfl,N⟩
  ·refine Zl rfl g (Zl rfl g (Zc (ZcT (w:=(((((decide (x4=0))&&(decide ((x3.length:Int)=7)))&&(decide (x6=0)))&&(decide (7<(x5.length:Int))))&&x7)&&(decide (x8=0))) rfl g rfl) (Zj ?_)))
   exact ⟨rfl,rfl,N⟩
 rintro _ _ ⟨rfl,al,am⟩
 refine Zb _ al (zN 3 (fun f k=>j=k∧f 63=.b (((((((decide (x4=0))&&(decide ((x3.length:Int)=7)))&&(decide (x6=0)))&&(decide (7<(x5.length:Int))))&&x7)&&(decide (x8=0)))&&(decide (x10=3)))) ?_ ?_)
 ·rcases bc ((((((decide (x4=0))&&(decide ((x3.length:Int)=7)))&&(decide (x6=0)))&&(decide (7<(x5.length:Int))))&&x7)&&(decide (x8=0))) with i|i
  ·refine Zq rfl i (Zb _ am (Zq rfl i (Zc (Zb7 rfl rfl) (Zc (ZcU rfl i rfl) (Zj ?_)))))
   exact ⟨rfl,rfl⟩
  ·refine Zl rfl i (Zl rfl i (Zc (ZcT (w:=((((((decide (x4=0))&&(decide ((x3.length:Int)=7)))&&(decide (x6=0)))&&(decide (7<(x5.length:Int))))&&x7)&&(decide (x8=0)))&&(decide (x10=3))) rfl i rfl) (Zj ?_)))
   exact ⟨rfl,rfl⟩
 rintro _ _ ⟨rfl,an⟩
 refine Zb _ an (Ze (zK (ZN (ZY rfl Z6) ?_)))
 cases hp
 exact ⟨rfl,(t.pk [])⟩

end Mu
