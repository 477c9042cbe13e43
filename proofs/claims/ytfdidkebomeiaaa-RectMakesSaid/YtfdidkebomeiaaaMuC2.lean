/- The code comes to what was worked out. -/
import Derived.Test.YtfdidkebomeiaaaMuDf
import Derived.Test.YtfdidkebomeiaaaMuPa
import Derived.Test.YtfdidkebomeiaaaMuC1
set_option linter.unusedVariables false
set_option linter.unnecessarySimpa false
set_option linter.unusedSimpArgs false
set_option maxHeartbeats 2000000
set_option maxRecDepth 10000
namespace Mu
open Go (IntKind BinOp UnOp)
theorem Zbm.ok {h:Hp}{g:ZK}{v:Int}{d:Int}{w:Int}{owner:Int}{r_g:Nat}{v_g_cells:V}(H:Own (Bm h [ZaF r_g [v_g_cells],eSl Zd v_g_cells g.cells]) h h [ZaF r_g [v_g_cells],eSl Zd v_g_cells g.cells]) {r:ZK}(hp:Zbm g v d w owner=some r) :
  ∃ u k',Is G 76 [.p r_g 0,.n v,.n d,.n w,.n owner] h u k'∧∃ C,V.tu []=u∧Own (Bm h [ZaF r_g [v_g_cells],eSl Zd v_g_cells g.cells]) h k' [ZaF r_g [C],eSl Zd C r.cells]:=by
 refine WC.is (ZaB ZeE ?_)
 unfold Zbm at hp
 let B:Nat→Prop:=(Bm h [ZaF r_g [v_g_cells],eSl Zd v_g_cells g.cells])
 have hO:Own B h h [ZaF r_g [v_g_cells],eSl Zd v_g_cells g.cells]:=H
 refine Zj (Zb (.n d) rfl ?_)
 obtain ⟨x,⟨_,_,D,rfl,J⟩,hp⟩:=bdk hp fun _=>ZaL.ok (h:=h)  
 refine Zan rfl rfl D ?_
 have E:=hO.call J rfl
 refine Zb (.n x) rfl (Ze (ZM (ZeS ?_)))
 have c:=E.bump 22
 refine Zaq (.p r_g 0) rfl (ZX (ZdJ rfl) (ZX (ZaU (r:=r_g) (o:=0) rfl rfl) (ZX (Zad (c.box 0 rfl) rfl rfl) (Zaq (.n v) rfl (Zaq (.n d) rfl (Zaq (.p r_g 0) rfl (ZX (ZdJ rfl) (ZX (ZaU (r:=r_g) (o:=0) rfl rfl) (ZX (Zad (c.box 0 rfl) rfl rfl) (Zaq (.n v) rfl (Zaq (.n d) rfl (Zaq (.n w) rfl (Zaq (.n owner) rfl ?_)))))))))))))
 refine ckk hp fun f hp=>ZX (ZW (c.sl 1 rfl) rfl rfl f) (ZX (Za6 (c.sl 1 rfl) (Zf f) rfl rfl) (ckk hp fun a hp=>ZX (Zbz (c.sl 1 rfl) (Zf f) rfl rfl a rfl) (Zdf (c.ste (y:=({ gi g.cells v.toNat with Next:=((gi g.cells v.toNat).Next).set d w })) 1 rfl rfl (Zf f) rfl rfl ⟨rfl,(by have:=a;exact (show 0+d.toNat*1+1≤8 by omega)),rfl⟩ (Zcq a)) ?_)))
 rintro _ s _ ⟨rfl,_,_,l⟩
 refine ckk hp fun i hp=>ZX (ZW (l.sl 1 rfl:Sl Zd s v_g_cells (g.cells.set v.toNat ({ gi g.cells v.toNat with Next:=((gi g.cells v.toNat).Next).set d w }))) rfl rfl i) (ZX (Za6 (l.sl 1 rfl:Sl Zd s v_g_cells (g.cells.set v.toNat ({ gi g.cells v.toNat with Next:=((gi g.cells v.toNat).Next).set d w }))) (Zf i) rfl rfl) (ZX (Zbz (l.sl 1 rfl:Sl Zd s v_g_cells (g.cells.set v.toNat ({ gi g.cells v.toNat with Next:=((gi g.cells v.toNat).Next).set d w }))) (Zf i) rfl rfl a rfl) (Zdf (l.ste (y:=({ gi (g.cells.set v.toNat ({ gi g.cells v.toNat with Next:=((gi g.cells v.toNat).Next).set d w })) v.toNat with Owner:=((gi (g.cells.set v.toNat ({ gi g.cells v.toNat with Next:=((gi g.cells v.toNat).Next).set d w })) v.toNat).Owner).set d owner })) 1 rfl rfl (Zf i) rfl rfl ⟨rfl,(by have:=a;exact (show 4+d.toNat*1+1≤8 by omega)),rfl⟩ (Zc4 a)) ?_)))
 rintro _ t _ ⟨rfl,_,_,F⟩
 refine Zch ?_
 refine And.intro ?_ ?_
 ·intro q hq
  simp only [List.mem_cons,List.not_mem_nil,or_false] at hq
  rcases hq with rfl
  ·refine Zak ?_ ?_
   ·exact (fun h=>nomatch h)
   ·exact (fun h=>nomatch h)
 refine Zx (ZeS ?_)
 have e:=F.bump 22
 refine Zaq (.p r_g 0) rfl (ZX (ZdJ rfl) (ZX (ZaU (r:=r_g) (o:=0) rfl rfl) (ZX (Zad (e.box 0 rfl) rfl rfl) (Zaq (.n w) rfl (Zaq (.n x) rfl (Zaq (.p r_g 0) rfl (ZX (ZdJ rfl) (ZX (ZaU (r:=r_g) (o:=0) rfl rfl) (ZX (Zad (e.box 0 rfl) rfl rfl) (Zaq (.n w) rfl (Zaq (.n x) rfl (Zaq (.n v) rfl (Zaq (.n owner) rfl ?_)))))))))))))
 refine ckk hp fun j hp=>ZX (ZW (e.sl 1 rfl:Sl Zd (t.bump 22) v_g_cells ((g.cells.set v.toNat ({ gi g.cells v.toNat with Next:=((gi g.cells v.toNat).Next).set d w })).set v.toNat ({ gi (g.cells.set v.toNat ({ gi g.cells v.toNat with Next:=((gi g.cells v.toNat).Next).set d w })) v.toNat with Owner:=((gi (g.cells.set v.toNat ({ gi g.cells v.toNat with Next:=((gi g.cells v.toNat).Next).set d w })) v.toNat).Owner).set d owner }))) rfl rfl j) (ZX (Za6 (e.sl 1 rfl:Sl Zd (t.bump 22) v_g_cells ((g.cells.set v.toNat ({ gi g.cells v.toNat with Next:=((gi g.cells v.toNat).Next).set d w })).set v.toNat ({ gi (g.cells.set v.toNat ({ gi g.cells v.toNat with Next:=((gi g.cells v.toNat).Next).set d w })) v.toNat with Owner:=((gi (g.cells.set v.toNat ({ gi g.cells v.toNat with Next:=((gi g.cells v.toNat).Next).set d w })) v.toNat).Owner).set d owner }))) (Zf j) rfl rfl) (ckk hp fun b hp=>ZX (Zbz (e.sl 1 rfl:Sl Zd (t.bump 22) v_g_cells ((g.cells.set v.toNat ({ gi g.cells v.toNat with Next:=((gi g.cells v.toNat).Next).set d w })).set v.toNat ({ gi (g.cells.set v.toNat ({ gi g.cells v.toNat with Next:=((gi g.cells v.toNat).Next).set d w })) v.toNat with Owner:=((gi (g.cells.set v.toNat ({ gi g.cells v.toNat with Next:=((gi g.cells v.toNat).Next).set d w })) v.toNat).Owner).set d owner }))) (Zf j) rfl rfl b rfl) (Zdf (e.ste (y:=({ gi ((g.cells.set v.toNat ({ gi g.cells v.toNat with Next:=((gi g.cells v.toNat).Next).set d w })).set v.toNat ({ gi (g.cells.set v.toNat ({ gi g.cells v.toNat with Next:=((gi g.cells v.toNat).Next).set d w })) v.toNat with Owner:=((gi (g.cells.set v.toNat ({ gi g.cells v.toNat with Next:=((gi g.cells v.toNat).Next).set d w })) v.toNat).Owner).set d owner })) w.toNat with Next:=((gi ((g.cells.set v.toNat ({ gi g.cells v.toNat with Next:=((gi g.cells v.toNat).Next).set d w })).set v.toNat ({ gi (g.cells.set v.toNat ({ gi g.cells v.toNat with Next:=((gi g.cells v.toNat).Next).set d w })) v.toNat with Owner:=((gi (g.cells.set v.toNat ({ gi g.cells v.toNat with Next:=((gi g.cells v.toNat).Next).set d w })) v.toNat).Owner).set d owner })) w.toNat).Next).set x v })) 1 rfl rfl (Zf j) rfl rfl ⟨rfl,(by have:=b;exact (show 0+x.toNat*1+1≤8 by omega)),rfl⟩ (Zcq b)) ?_)))
 rintro _ A _ ⟨rfl,_,_,m⟩
 refine ckk hp fun k hp=>ZX (ZW (m.sl 1 rfl:Sl Zd A v_g_cells (((g.cells.set v.toNat ({ gi g.cells v.toNat with Next:=((gi g.cells v.toNat).Next).set d w })).set v.toNat ({ gi (g.cells.set v.toNat ({ gi g.cells v.toNat with Next:=((gi g.cells v.toNat).Next).set d w })) v.toNat with Owner:=((gi (g.cells.set v.toNat ({ gi g.cells v.toNat with Next:=((gi g.cells v.toNat).Next).set d w })) v.toNat).Owner).set d owner })).set w.toNat ({ gi ((g.cells.set v.toNat ({ gi g.cells v.toNat with Next:=((gi g.cells v.toNat).Next).set d w })).set v.toNat ({ gi (g.cells.set v.toNat ({ gi g.cells v.toNat with Next:=((gi g.cells v.toNat).Next).set d w })) v.toNat with Owner:=((gi (g.cells.set v.toNat ({ gi g.cells v.toNat with Next:=((gi g.cells v.toNat).Next).set d w })) v.toNat).Owner).set d owner })) w.toNat with Next:=((gi ((g.cells.set v.toNat ({ gi g.cells v.toNat with Next:=((gi g.cells v.toNat).Next).set d w })).set v.toNat ({ gi (g.cells.set v.toNat ({ gi g.cells v.toNat with Next:=((gi g.cells v.toNat).Next).set d w })) v.toNat with Owner:=((gi (g.cells.set v.toNat ({ gi g.cells v.toNat with Next:=((gi g.cells v.toNat).Next).set d w })) v.toNat).Owner).set d owner })) w.toNat).Next).set x v }))) rfl rfl k) (ZX (Za6 (m.sl 1 rfl:Sl Zd A v_g_cells (((g.cells.set v.toNat ({ gi g.cells v.toNat with Next:=((gi g.cells v.toNat).Next).set d w })).set v.toNat ({ gi (g.cells.set v.toNat ({ gi g.cells v.toNat with Next:=((gi g.cells v.toNat).Next).set d w })) v.toNat with Owner:=((gi (g.cells.set v.toNat ({ gi g.cells v.toNat with Next:=((gi g.cells v.toNat).Next).set d w })) v.toNat).Owner).set d owner })).set w.toNat ({ gi ((g.cells.set v.toNat ({ gi g.cells v.toNat with Next:=((gi g.cells v.toNat).Next).set d w })).set v.toNat ({ gi (g.cells.set v.toNat ({ gi g.cells v.toNat with Next:=((gi g.cells v.toNat).Next).set d w })) v.toNat with Owner:=((gi (g.cells.set v.toNat ({ gi g.cells v.toNat with Next:=((gi g.cells v.toNat).Next).set d w })) v.toNat).Owner).set d owner })) w.toNat with Next:=((gi ((g.cells.set v.toNat ({ gi g.cells v.toNat with Next:=((gi g.cells v.toNat).Next).set d w })).set v.toNat ({ gi (g.cells.set v.toNat ({ gi g.cells v.toNat with Next:=((gi g.cells v.toNat).Next).set d w })) v.toNat with Owner:=((gi (g.cells.set v.toNat ({ gi g.cells v.toNat with Next:=((gi g.cells v.toNat).Next).set d w })) v.toNat).Owner).set d owner })) w.toNat).Next).set x v }))) (Zf k) rfl rfl) (ZX (Zbz (m.sl 1 rfl:Sl Zd A v_g_cells (((g.cells.set v.toNat ({ gi g.cells v.toNat with Next:=((gi g.cells v.toNat).Next).set d w })).set v.toNat ({ gi (g.cells.set v.toNat ({ gi g.cells v.toNat with Next:=((gi g.cells v.toNat).Next).set d w })) v.toNat with Owner:=((gi (g.cells.set v.toNat ({ gi g.cells v.toNat with Next:=((gi g.cells v.toNat).Next).set d w })) v.toNat).Owner).set d owner })).set w.toNat ({ gi ((g.cells.set v.toNat ({ gi g.cells v.toNat with Next:=((gi g.cells v.toNat).Next).set d w })).set v.toNat ({ gi (g.cells.set v.toNat ({ gi g.cells v.toNat with Next:=((gi g.cells v.toNat).Next).set d w })) v.toNat with Owner:=((gi (g.cells.set v.toNat ({ gi g.cells v.toNat with Next:=((gi g.cells v.toNat).Next).set d w })) v.toNat).Owner).set d owner })) w.toNat with Next:=((gi ((g.cells.set v.toNat ({ gi g.cells v.toNat with Next:=((gi g.cells v.toNat).Next).set d w })).set v.toNat ({ gi (g.cells.set v.toNat ({ gi g.cells v.toNat with Next:=((gi g.cells v.toNat).Next).set d w })) v.toNat with Owner:=((gi (g.cells.set v.toNat ({ gi g.cells v.toNat with Next:=((gi g.cells v.toNat).Next).set d w })) v.toNat).Owner).set d owner })) w.toNat).Next).set x v }))) (Zf k) rfl rfl b rfl) (Zdf (m.ste (y:=({ gi (((g.cells.set v.toNat ({ gi g.cells v.toNat with Next:=((gi g.cells v.toNat).Next).set d w })).set v.toNat ({ gi (g.cells.set v.toNat ({ gi g.cells v.toNat with Next:=((gi g.cells v.toNat).Next).set d w })) v.toNat with Owner:=((gi (g.cells.set v.toNat ({ gi g.cells v.toNat with Next:=((gi g.cells v.toNat).Next).set d w })) v.toNat).Owner).set d owner })).set w.toNat ({ gi ((g.cells.set v.toNat ({ gi g.cells v.toNat with Next:=((gi g.cells v.toNat).Next).set d w })).set v.toNat ({ gi (g.cells.set v.toNat ({ gi g.cells v.toNat with Next:=((gi g.cells v.toNat).Next).set d w })) v.toNat with Owner:=((gi (g.cells.set v.toNat ({ gi g.cells v.toNat with Next:=((gi g.cells v.toNat).Next).set d w })) v.toNat).Owner).set d owner })) w.toNat with Next:=((gi ((g.cells.set v.toNat ({ gi g.cells v.toNat with Next:=((gi g.cells v.toNat).Next).set d w })).set v.toNat ({ gi (g.cells.set v.toNat ({ gi g.cells v.toNat with Next:=((gi g.cells v.toNat).Next).set d w })) v.toNat with Owner:=((gi (g.cells.set v.toNat ({ gi g.cells v.toNat with Next:=((gi g.cells v.toNat).Next).set d w })) v.toNat).Owner).set d owner })) w.toNat).Next).set x v })) w.toNat with Owner:=((gi (((g.cells.set v.toNat ({ gi g.cells v.toNat with Next:=((gi g.cells v.toNat).Next).set d w })).set v.toNat ({ gi (g.cells.set v.toNat ({ gi g.cells v.toNat with Next:=((gi g.cells v.toNat).Next).set d w })) v.toNat with Owner:=((gi (g.cells.set v.toNat ({ gi g.cells v.toNat with Next:=((gi g.cells v.toNat).Next).set d w })) v.toNat).Owner).set d owner })).set w.toNat ({ gi ((g.cells.set v.toNat ({ gi g.cells v.toNat with Next:=((gi g.cells v.toNat).Next).set d w })).set v.toNat ({ gi (g.cells.set v.toNat ({ gi g.cells v.toNat with Next:=((gi g.cells v.toNat).Next).set d w })) v.toNat with Owner:=((gi (g.cells.set v.toNat ({ gi g.cells v.toNat with Next:=((gi g.cells v.toNat).Next).set d w })) v.toNat).Owner).set d owner })) w.toNat with Next:=((gi ((g.cells.set v.toNat ({ gi g.cells v.toNat with Next:=((gi g.cells v.toNat).Next).set d w })).set v.toNat ({ gi (g.cells.set v.toNat ({ gi g.cells v.toNat with Next:=((gi g.cells v.toNat).Next).set d w })) v.toNat with Owner:=((gi (g.cells.set v.toNat ({ gi g.cells v.toNat with Next:=((gi g.cells v.toNat).Next).set d w })) v.toNat).Owner).set d owner })) w.toNat).Next).set x v })) w.toNat).Owner).set x owner })) 1 rfl rfl (Zf k) rfl rfl ⟨rfl,(by have:=b;exact (show 4+x.toNat*1+1≤8 by omega)),rfl⟩ (Zc4 b)) ?_)))
 rintro _ _ _ ⟨rfl,_,_,I⟩
 refine Zch ?_
 refine And.intro ?_ ?_
 ·intro q hq
  simp only [List.mem_cons,List.not_mem_nil,or_false] at hq
  rcases hq with rfl
  ·refine Zak ?_ ?_
   ·exact (fun h=>nomatch h)
   ·exact (fun h=>nomatch h)
 refine ZlT ZF ?_
 cases hp
 exact ⟨v_g_cells,rfl,(I.pk [0,1])⟩

theorem zK.ok {h:Hp}{g:ZK}{v:Int}{d:Int}{w:Int}{owner:Int}{r_g:Nat}{v_g_cells:V}(H:Own (Bm h [ZaF r_g [v_g_cells],eSl Zd v_g_cells g.cells]) h h [ZaF r_g [v_g_cells],eSl Zd v_g_cells g.cells]) {r:Int×ZK}(hp:zK g v d w owner=some r) :
  ∃ u k',Is G 52 [.p r_g 0,.n v,.n d,.n w,.n owner] h u k'∧∃ ac,V.n r.1=u∧Own (Bm h [ZaF r_g [v_g_cells],eSl Zd v_g_cells g.cells]) h k' [ZaF r_g [ac],eSl Zd ac r.2.cells]:=by
 refine WC.is (ZaB Zeu ?_)
 unfold zK at hp
 let B:Nat→Prop:=(Bm h [ZaF r_g [v_g_cells],eSl Zd v_g_cells g.cells])
 have hO:Own B h h [ZaF r_g [v_g_cells],eSl Zd v_g_cells g.cells]:=H
 refine Zj (Zb (.n 0) rfl (Ze (ZM (Za2 (Zj (Zb (.p r_g 0) rfl (Zc (ZjF rfl rfl) (Zb (.b false) rfl (Ze ?_)))))))))
 refine ZjD rfl rfl (Zj (Zb (.p r_g 0) rfl (Zb (.n v) rfl (Zb (.n d) rfl ?_))))
 obtain ⟨x,⟨_,av,af,rfl,ap⟩,hp⟩:=bdk hp fun _=>Zbb.ok (h:=h)  (hO.box 0 rfl) (hO.sl 1 rfl)
 refine Zan rfl rfl af ?_
 have E:=hO.call ap rfl
 refine Zc (Zcl rfl) (Zb (.b (!x)) rfl ?_)
 obtain ⟨t,au,hp⟩:=Za7 hp
 refine Zay 6 (fun f k=>Own B h k [ZaF r_g [v_g_cells],eSl Zd v_g_cells g.cells]∧f 26=.b t∧f 0=.p r_g 0∧f 1=.n v∧f 2=.n d∧f 3=.n w∧f 4=.n owner) ?_ ?_
 ·clear hp;rcases ZaW au with ⟨c,hp⟩|⟨c,hp⟩
  ·refine Zs rfl c (Zs rfl c (Zs rfl c (Zs rfl c (Zs rfl c (Zc (ZaH (v:=.b t) rfl c (Eq.trans (b:=V.b true) rfl (congrArg V.b (Option.some.inj hp)))) (Zo ?_))))))
   exact ⟨E.pk [0,1],rfl,rfl,rfl,rfl,rfl,rfl⟩
  ·refine Z6 rfl c (Zb (.p r_g 0) rfl (Z6 rfl c (Zb (.n w) rfl (Z6 rfl c (Zb (.n d) rfl (Z6 rfl c ?_))))))
   obtain ⟨x1,⟨_,_,ag,rfl,aq⟩,hp⟩:=bdk hp fun _=>Zbb.ok (h:=av)  (E.box 0 rfl) (E.sl 1 rfl)
   refine Zan rfl rfl ag ?_
   have an:=E.call aq rfl
   refine Z6 rfl c (Zc (Zcl rfl) (Zc (Za0 (v:=.b t) rfl c (Eq.trans (b:=V.b (!x1)) rfl (congrArg V.b (Option.some.inj hp)))) (Zo ?_)))
   exact ⟨an.pk [0,1],rfl,rfl,rfl,rfl,rfl,rfl⟩
 rintro _ F ⟨N,ak,R,I,S,J,T⟩
 refine Zb _ ak (Zay 4 (fun f k=>F=k∧f 31=.b (t||(decide (v=w)))∧f 0=.p r_g 0∧f 1=.n v∧f 2=.n d∧f 3=.n w∧f 4=.n owner) ?_ ?_)
 ·rcases bc t with i|i
  ·refine Zs rfl i (Zs rfl i (Zs rfl i (Zc (Zc6 (w:=t||(decide (v=w))) rfl i rfl) (Zo ?_))))
   exact ⟨rfl,rfl,R,I,S,J,T⟩
  ·refine Z6 rfl i (Zb _ I (Z6 rfl i (Zb _ J (Z6 rfl i (Zc (ZbZ rfl rfl) (Zc (Zc7 rfl i rfl) (Zo ?_)))))))
   exact ⟨rfl,rfl,R,I,S,J,T⟩
 rintro _ _ ⟨rfl,al,U,W,X,Y,K⟩
 refine Zb _ al (Zay 3 (fun f k=>F=k∧f 35=.b ((t||(decide (v=w)))||(decide (owner<(-2))))∧f 0=.p r_g 0∧f 1=.n v∧f 2=.n d∧f 3=.n w∧f 4=.n owner) ?_ ?_)
 ·rcases bc (t||(decide (v=w))) with l|l
  ·refine Zs rfl l (Zs rfl l (Zc (Zc6 (w:=(t||(decide (v=w)))||(decide (owner<(-2)))) rfl l rfl) (Zo ?_)))
   exact ⟨rfl,rfl,U,W,X,Y,K⟩
  ·refine Z6 rfl l (Zb _ K (Z6 rfl l (Zc (zV rfl rfl) (Zc (Zc7 rfl l rfl) (Zo ?_)))))
   exact ⟨rfl,rfl,U,W,X,Y,K⟩
 rintro _ _ ⟨rfl,am,C,L,D,M,aa⟩
 refine Zb _ am (Ze (zD hp rfl (fun ad hp=>?_) (fun ad hp=>?_)))
 ·refine Zj (Zb (.n 2) rfl (Ze (zR (Zbt (zl (zf (zj rfl ZF) ?_))))))
  cases hp
  exact ⟨v_g_cells,rfl,(N.pk [0,1])⟩
 ·refine ZM (ZiE hp (fun x2 e fr k=>e=.normal∧fr 0=.p r_g 0∧fr 1=.n v∧fr 2=.n d∧fr 3=.n w∧fr 4=.n owner∧fr 36=.b x2∧Own B h k [ZaF r_g [v_g_cells],eSl Zd v_g_cells g.cells]) (fun _ hp=>?_) ?_)
  ·refine ZeS ?_
   have j:=N.bump 26
   have aj:=Fresh.start F 26
   refine Zaq _ C (ZX (ZdJ rfl) (ZX (ZaU (r:=r_g) (o:=0) rfl rfl) (ZX (Zad (j.box 0 rfl) rfl rfl) (Zaq _ L (Zaq _ D (ckk hp fun y hp=>ZX (ZW (j.sl 1 rfl) rfl rfl y) (ZX (Za6 (j.sl 1 rfl) (Zf y) rfl rfl) (ckk hp fun P hp=>ZX (Zbz (j.sl 1 rfl) (Zf y) rfl rfl P rfl) (ZX (zt (j.sl 1 rfl) rfl (Zf y) (zS P)) (ZX (Zcv rfl rfl) (Zaq (.b (!(decide (((gi g.cells v.toNat).Next).get d=(-1))))) rfl ?_)))))))))))
   refine ifk hp (fun a hp=>?_) (fun a hp=>?_)
   ·refine Zav rfl a (Zav rfl a (Zav rfl a (Zav rfl a (Zav rfl a (Zav rfl a (Zav rfl a (Zav rfl a (Zav rfl a (Zav rfl a (Zav rfl a (Zav rfl a (ZX (ZaH (v:=.b true) rfl a rfl) (Zaq (.b true) rfl ?_)))))))))))))
    refine Zch ?_
    refine And.intro ?_ ?_
    ·intro q hq
     simp only [List.mem_cons,List.not_mem_nil,or_false] at hq
     rcases hq with rfl
     ·exact Zle
    cases hp
    exact ⟨rfl,C,L,D,M,aa,rfl,(j.pk [0,1])⟩
   ·refine Zcr rfl a (Zaq _ C (Zcr rfl a (ZX (ZdJ rfl) (Zcr rfl a (ZX (ZaU (r:=r_g) (o:=0) rfl rfl) (Zcr rfl a (ZX (Zad (j.box 0 rfl) rfl rfl) (Zcr rfl a (Zaq _ M (Zcr rfl a (Zaq _ D (Zcr rfl a ?_))))))))))))
    obtain ⟨x3,⟨_,_,ah,rfl,ab⟩,hp⟩:=bdk hp fun _=>ZaL.ok (h:=(F.bump 26))  
    refine Zhj rfl rfl ah ?_
    have s:=j.call ab rfl
    refine Zcr rfl a (ckk hp fun A hp=>ZX (ZW (s.sl 1 rfl) rfl rfl A) (Zcr rfl a (ZX (Za6 (s.sl 1 rfl) (Zf A) rfl rfl) (Zcr rfl a (ckk hp fun Q hp=>ZX (Zbz (s.sl 1 rfl) (Zf A) rfl rfl Q rfl) (Zcr rfl a (ZX (zt (s.sl 1 rfl) rfl (Zf A) (zS Q)) (Zcr rfl a (ZX (Zcv rfl rfl) (ZX (Za0 (v:=.b (!(decide (((gi g.cells w.toNat).Next).get x3=(-1))))) rfl a rfl) (Zaq (.b (!(decide (((gi g.cells w.toNat).Next).get x3=(-1))))) rfl ?_)))))))))))
    refine Zch ?_
    refine And.intro ?_ ?_
    ·intro q hq
     simp only [List.mem_cons,List.not_mem_nil,or_false] at hq
     rcases hq with rfl
     ·refine Zml rfl rfl ?_
      ·exact (fun r hm hc=>hc (ab.base r (Nat.lt_of_lt_of_le (N.ltAt 0 rfl _ (tch (ZbS hm) rfl)) (Nat.le_trans (Nat.le_add_right _ _) aj.n))))
    cases hp
    exact ⟨rfl,C,L,D,M,aa,rfl,(s.pk [0,1])⟩
  rintro x2 hp _ _ aw ⟨rfl,ax,ay,az,aA,aC,aB,O⟩
  refine Zx (zD hp aB (fun ae hp=>?_) (fun ae hp=>?_))
  ·refine Zj (Zb (.n 9) rfl (Ze (zR (Zbt (zl (zf (zj rfl ZF) ?_))))))
   cases hp
   exact ⟨v_g_cells,rfl,(O.pk [0,1])⟩
  ·refine Zc5 (Zat (Zx (Zj (Zb _ ax (Zb _ ay (Zb _ az (Zb _ aA (Zb _ aC ?_))))))))
   obtain ⟨m,⟨_,_,ai,aD,rfl,ar⟩,hp⟩:=bdk hp fun _=>Zbm.ok (h:=aw) (g:=g) (v:=v) (d:=d) (w:=w) (owner:=owner) (O.toM [0,1] rfl (by decide)) 
   refine Zan rfl rfl ai ?_
   have ao:=(O.callM [0,1] [] rfl rfl (by decide) ar rfl).pick [0,1] rfl (by decide)
   refine Ze (Zj (Zb (.n 0) rfl (Ze (zR (zf (zj rfl ZF) ?_)))))
   cases hp
   exact ⟨aD,rfl,(ao.pk [0,1])⟩

theorem ZaA.ok {h:Hp}{g:ZK}{d:Zr}{r_g:Nat}{v_g_cells:V}(H:Own (Bm h [ZaF r_g [v_g_cells],eSl Zd v_g_cells g.cells]) h h [ZaF r_g [v_g_cells],eSl Zd v_g_cells g.cells]) {r:ZK}(hp:ZaA g d=some r) :
  ∃ u k',Is G 279 [.p r_g 0,.ag (Zl.c d)] h u k'∧∃ S,V.tu []=u∧Own (Bm h [ZaF r_g [v_g_cells],eSl Zd v_g_cells g.cells]) h k' [ZaF r_g [S],eSl Zd S r.cells]:=by
 refine WC.is (ZaB ZfB ?_)
 unfold ZaA at hp
 let B:Nat→Prop:=(Bm h [ZaF r_g [v_g_cells],eSl Zd v_g_cells g.cells])
 have hO:Own B h h [ZaF r_g [v_g_cells],eSl Zd v_g_cells g.cells]:=H
 refine Zj (Zaw (hO.boxd (cs:=Zl.c d) hO.fr rfl rfl) ?_)
 rintro _ aA ⟨a,rfl,_,_,l⟩
 refine Ze (Zj (Zb (.p r_g 0) rfl (Zc (ZaU (r:=a) (o:=0) rfl rfl) (Zc (Zad (l.box 2 rfl) rfl rfl) (Zc (ZaU (r:=a) (o:=0) rfl rfl) (Zc (Zad (l.box 2 rfl) rfl rfl) ?_))))))
 obtain ⟨⟨x,x1,x2⟩,⟨_,aB,ad,rfl,ar⟩,hp⟩:=bdk hp fun _=>ZaG.ok (h:=aA)  (l.box 0 rfl) (l.sl 1 rfl)
 refine Zan rfl rfl ad ?_
 have D:=l.call ar rfl
 refine Zb (.tu [.n x,.n x1,.b x2]) rfl (Zc (zM rfl rfl) (Zc (zM rfl rfl) (Zc (zM rfl rfl) (Zb (.n x) rfl (Zb (.n x1) rfl (Zb (.b x2) rfl (Ze (Zj (Zb (.p r_g 0) rfl ?_)))))))))
 obtain ⟨x3,⟨_,_,ae,rfl,au⟩,hp⟩:=bdk hp fun _=>ZaI.ok (h:=aB)  (D.box 0 rfl) (D.sl 1 rfl)
 refine Zan rfl rfl ae ?_
 have ao:=D.call au rfl
 refine Zb (.n x3) rfl (Ze (ZM (Zj (Zb (.n 0) rfl (Ze (Za2 (Zci hp (fun|(g1,x4),fr,k=>∃ t,fr 0=.p r_g 0∧fr 3=.p a 0∧fr 4=.n x∧fr 7=.n x3∧fr 25=.n x4∧Own B h k [ZaF r_g [t],eSl Zd t g1,ZaF a (Zl.c d)]) (fun g2 e fr k=>e=(.exit 0)∧∃ y,fr 0=.p r_g 0∧fr 3=.p a 0∧fr 4=.n x∧fr 7=.n x3∧Own B h k [ZaF r_g [y],eSl Zd y g2,ZaF a (Zl.c d)]) ⟨v_g_cells,rfl,rfl,rfl,rfl,rfl,(ao.pk [0,1,2])⟩ ?_ ?_)))))))
 ·rintro ⟨g1,x4⟩ _ aC ⟨t,I,P,Q,R,O,E⟩ _ hp
  dsimp only [ZaA.s0] at hp
  refine Zj (Zc (zV O rfl) (Ze (ZM (zD hp rfl (fun T hp=>?_) (fun T hp=>?_)))))
  ·refine Za3 (ZM (Za2 (Zar (Zb _ I ?_))))
   obtain ⟨⟨x5,x6,m⟩,⟨_,_,af,aO,rfl,av⟩,hp⟩:=bdk hp fun _=>Zb6.ok (h:=aC) (g:=(⟨g1⟩:ZK)) (E.toM [0,1] rfl (by decide)) 
   refine Zan rfl rfl af ?_
   have aq:=(E.callM [0,1] [2] rfl rfl (by decide) av rfl).pick [1,2,0] rfl (by decide)
   refine Zo (Zat (Zx (Zar (ckk hp fun X hp=>Zc (zG O rfl X) (Zb (.n (x4+1)) rfl (Zo ?_))))))
   cases hp
   exact ⟨rfl,aO,I,P,Q,R,rfl,(aq.pk [0,1,2])⟩
  ·refine ZbU (Zas ?_)
   cases hp
   exact ⟨nofun,rfl,t,I,P,Q,R,(E.pk [0,1,2])⟩
 rintro g2 hp _ _ _ ⟨rfl,y,aF,aG,aH,aI,ap⟩
 refine Zbe (Zx (ZM (Zj (Zb (.n 0) rfl (Ze (Za2 (Zci hp (fun|(g3,x7),fr,k=>∃ A,fr 0=.p r_g 0∧fr 3=.p a 0∧fr 4=.n x∧fr 7=.n x3∧fr 30=.n x7∧Own B h k [ZaF r_g [A],eSl Zd A g3,ZaF a (Zl.c d)]) (fun g4 e fr k=>e=(.exit 2)∧∃ K,fr 0=.p r_g 0∧fr 3=.p a 0∧fr 4=.n x∧fr 7=.n x3∧Own B h k [ZaF r_g [K],eSl Zd K g4,ZaF a (Zl.c d)]) ⟨y,aF,aG,aH,aI,rfl,(ap.pk [0,1,2])⟩ ?_ ?_)))))))
 ·rintro ⟨g3,x7⟩ _ N ⟨A,j,q,J,f,s,i⟩ _ hp
  dsimp only [ZaA.s1] at hp
  refine Zj (Zc (zV s rfl) (Ze (ZM (zD hp rfl (fun U hp=>?_) (fun U hp=>?_)))))
  ·refine Za3 (ZM (Za2 (Zj (Zb _ s (Zb (.n x7) rfl (Ze (Zj (Zb (.n x7) rfl (ckk hp fun Y hp=>?_)))))))))
   refine Zc (zG rfl rfl Y) (Zc (ZeF rfl rfl (by decide)) (Zb (.n x7) rfl (Zb (.n ((x7+3).tmod 4)) rfl (Zb (.n x7) rfl (Ze (Zj (Zb _ f (Zb (.n x7) rfl (ckk hp fun aa hp=>Zc (zG rfl rfl aa) (Zb _ f ?_))))))))))
   refine Zb (.n x7) rfl (ckk hp fun C hp=>Zc (zG rfl rfl C) (Zc (ZeF rfl rfl (by decide)) (ckk hp fun ab hp=>Zc (zG rfl rfl ab) (Zb (.n (x3+x7)) rfl (Zb (.n (x3+((x7+1).tmod 4))) rfl (Ze (ZM (Zj (Zb (.n ((x7+3).tmod 4)) rfl ?_)))))))))
   refine Zc (ZaU (r:=a) (o:=0) q rfl) (Zc (Zad (i.box 2 rfl) rfl rfl) (Zc (ZbZ rfl rfl) (Ze (zD hp rfl (fun W hp=>?_) (fun W hp=>?_)))))
   ·refine Zj (Zb _ j (Zb (.n (x3+x7)) rfl (Zb (.n x7) rfl (Zb _ f (ckk hp fun L hp=>Zc (zG rfl rfl L) ?_)))))
    obtain ⟨⟨x8,m1⟩,⟨_,aE,ah,_,rfl,aw⟩,hp⟩:=bdk hp fun _=>zK.ok (h:=N) (g:=(⟨g3⟩:ZK)) (v:=(x3+x7)) (d:=x7) (w:=(x3+4)) (owner:=(-2)) (i.toM [0,1] rfl (by decide)) 
    refine Zan rfl rfl ah ?_
    have M:=(i.callM [0,1] [2] rfl rfl (by decide) aw rfl).pick [1,2,0] rfl (by decide)
    refine Ze (Zar (Zb _ f (Zc (zG rfl rfl L) (Zb (.n (x3+4)) rfl (Ze (Zar (Zb _ j (Zb (.n (x3+4)) rfl (Zb (.n x7) rfl (Zb (.n (x3+((x7+1).tmod 4))) rfl ?_))))))))))
    obtain ⟨⟨x9,m2⟩,⟨_,_,ai,aP,rfl,ax⟩,hp⟩:=bdk hp fun _=>zK.ok (h:=aE) (g:=m1) (v:=(x3+4)) (d:=x7) (w:=(x3+((x7+1).tmod 4))) (owner:=(-2)) (M.toM [0,1] rfl (by decide)) 
    refine Zan rfl rfl ai ?_
    have al:=(M.callM [0,1] [2] rfl rfl (by decide) ax rfl).pick [1,2,0] rfl (by decide)
    refine Zo (Zat (Zx (Zar (Zc (zG s rfl C) (Zb (.n (x7+1)) rfl (Zo ?_))))))
    cases hp
    exact ⟨rfl,aP,j,q,J,f,rfl,(al.pk [0,1,2])⟩
   ·refine Za3 (Zar (Zb _ j (Zb (.n (x3+x7)) rfl (Zb (.n x7) rfl (Zb (.n (x3+((x7+1).tmod 4))) rfl ?_)))))
    obtain ⟨⟨x10,m3⟩,⟨_,_,aj,aQ,rfl,ay⟩,hp⟩:=bdk hp fun _=>zK.ok (h:=N) (g:=(⟨g3⟩:ZK)) (v:=(x3+x7)) (d:=x7) (w:=(x3+((x7+1).tmod 4))) (owner:=(-2)) (i.toM [0,1] rfl (by decide)) 
    refine Zan rfl rfl aj ?_
    have am:=(i.callM [0,1] [2] rfl rfl (by decide) ay rfl).pick [1,2,0] rfl (by decide)
    refine Zo (Zat (Zx (Zar (Zc (zG s rfl C) (Zb (.n (x7+1)) rfl (Zo ?_))))))
    cases hp
    exact ⟨rfl,aQ,j,q,J,f,rfl,(am.pk [0,1,2])⟩
  ·refine ZbU (Zas ?_)
   cases hp
   exact ⟨nofun,rfl,A,j,q,J,f,(i.pk [0,1,2])⟩
 rintro g4 hp _ _ aD ⟨rfl,K,aJ,aK,aL,aM,F⟩
 refine Zbe (Zx (Zar (Zb _ aJ (Zb _ aL (Zc (ZaU (r:=a) (o:=0) aK rfl) (Zc (Zad (F.box 2 rfl) rfl rfl) (Zb _ aM (ckk hp fun ac hp=>Zc (zG rfl rfl ac) ?_))))))))
 obtain ⟨⟨x11,m4⟩,⟨_,_,ak,aN,rfl,az⟩,hp⟩:=bdk hp fun _=>zK.ok (h:=aD) (g:=(⟨g4⟩:ZK)) (v:=x) (d:=d.Dir) (w:=(x3+4)) (owner:=(-2)) (F.toM [0,1] rfl (by decide)) 
 refine Zan rfl rfl ak ?_
 have an:=(F.callM [0,1] [2] rfl rfl (by decide) az rfl).pick [1,2,0] rfl (by decide)
 refine Zo (ZlT ZF ?_)
 cases hp
 exact ⟨aN,rfl,(an.pk [0,1])⟩

theorem Zbu.ok {h:Hp}{cells:List Za}{v_cells:V}(s_cells:Sl Zd h v_cells cells) {r:(Option ZK)×Int}(hp:Zbu cells=some r) :
  ∃ u k',Is G 275 [v_cells] h u k'∧∃ l o,V.tu [(if (r.1).isSome=true then V.p l 0 else V.pn),.n r.2]=u∧Own (fun r=>r<h.n) h k' [eIf (r.1).isSome (ZaF l [o]),eIf (r.1).isSome (eSl Zd o ((r.1.getD default).cells))]:=by
 refine WC.is (ZaB Zfv ?_)
 unfold Zbu at hp
 let B:Nat→Prop:=(fun r=>r<h.n)
 have hO:Own B h h []:=Own.start0 h
 refine Zj (Zb (.pn) rfl (Zb (.n 0) rfl (Ze (Zj (Zb v_cells rfl ?_)))))
 obtain ⟨⟨x,x1⟩,⟨_,_,y,rfl,F⟩,hp⟩:=bdk hp fun _=>ZbK.ok (h:=h)  (hO.rd0 s_cells.rd)
 refine Zan rfl rfl y ?_
 have f:=hO.call F rfl
 refine Zb (.tu [.ag (Zl.c x),.n x1]) rfl (Zc (zM rfl rfl) (Zc (zM rfl rfl) (Zaw (f.alloc (cs:=Zl.c (⟨0,0⟩:Zr)) f.fr) ?_)))
 rintro _ _ ⟨K,rfl,_,_,D⟩
 refine Zaw (D.stb (cs':=Zl.c x) 0 rfl rfl rfl rfl ⟨rfl,Nat.le_of_ble_eq_true rfl,rfl⟩ rfl) ?_
 rintro _ J ⟨rfl,_,_,b⟩
 refine Zb (.n x1) rfl (Ze (ZM (Zj (Zb (.n x1) rfl (Zc (Zcv rfl rfl) (Ze (zD hp rfl (fun s hp=>?_) (fun s hp=>?_))))))))
 ·refine Zj (Zb (.n x1) rfl (Zb (.pn) rfl (Zb (.n x1) rfl (Ze (zR (zl (zf (zj rfl (zj rfl ZF)) ?_)))))))
  cases hp
  exact ⟨0,V.sn,rfl,(b.pk [900,901])⟩
 ·refine Za3 (ZM (Zj (Zb v_cells rfl (Zc (ZaC (b.rd0 s_cells.rd) rfl) (ckk hp fun v hp=>Zc (zG rfl rfl v) (ckk hp fun w hp=>Zc (zG rfl rfl w) (Zc (ZeU rfl rfl) (Ze (zD hp rfl (fun t hp=>?_) (fun t hp=>?_))))))))))
  ·refine Zj (Zb (.pn) rfl (Zb (.n 6) rfl (Ze (zR (zl (zf (zj rfl (zj rfl ZF)) ?_))))))
   cases hp
   exact ⟨0,V.sn,rfl,(b.pk [900,901])⟩
  ·refine Za3 (Zj (Zb v_cells rfl ?_))
   obtain ⟨⟨x2,x3⟩,⟨_,k,A,a,q,rfl,H⟩,hp⟩:=bdk hp fun _=>ZdM.ok (h:=J)  (b.rd0 s_cells.rd)
   refine Zan rfl rfl A ?_
   have i:=b.call H rfl
   refine Zb (.tu [(if (x2).isSome=true then V.p a 0 else V.pn),.n x3]) rfl (Zc (zM rfl rfl) (Zc (zM rfl rfl) (Zb ((if (x2).isSome=true then V.p a 0 else V.pn)) rfl (Zb (.n x3) rfl (Ze (Zj (Zb ((if (x2).isSome=true then V.p a 0 else V.pn)) rfl (Zc (Zca (i.box 0 rfl) rfl rfl) ?_))))))))
   obtain ⟨g,e,hp⟩:=Za7 hp
   replace e:x2=some g:=e
   have j:Own B h k [ZaF K (Zl.c x),ZaF a [q],eSl Zd q g.cells]:=by have hq:=i;rw [e] at hq;exact hq
   obtain ⟨m,⟨_,_,C,L,rfl,I⟩,hp⟩:=bdk hp fun _=>ZaA.ok (h:=k) (g:=g) (d:=x) (j.toM [1,2] rfl (by decide)) 
   refine Zan rfl (Zjo (unw e) (Zjo rfl ZhO)) C ?_
   have E:=(j.callM [1,2] [0] rfl rfl (by decide) I rfl).pick [0,1,2] rfl (by decide)
   refine Ze (Zj (Zb _ (unw e) (Zb (.p a 0) rfl (Zb (.n 0) rfl (Ze (zR (zf (zj rfl (zj rfl ZF)) ?_)))))))
   cases hp
   exact ⟨a,L,rfl,(E.pk [1,2])⟩

theorem ZaR.ok {h:Hp}{g:ZK}{r_g:Nat}{v_g_cells:V}{w_g:Bool}(b_g:h.m r_g=some (.cells w_g [v_g_cells])) (s_g_cells:Sl Zd h v_g_cells g.cells) {r:(List Za)}(hp:ZaR g=some r) :
  ∃ u k',Is G 57 [.p r_g 0] h u k'∧∃ a,a=u∧Own (fun r=>r<h.n) h k' [eSl Zd a r]:=by
 refine WC.is (ZaB Zeh ?_)
 unfold ZaR at hp
 let B:Nat→Prop:=(fun r=>r<h.n)
 have hO:Own B h h []:=Own.start0 h
 refine Zj (Zb (.sn) rfl (Ze (ZM (Zj (Zb (.p r_g 0) rfl (Zc (ZjF rfl rfl) (Ze (ZjD rfl rfl (Zc5 ?_)))))))))
 refine Zx (Zj (Zb (.p r_g 0) rfl (Zc (ZdJ rfl) (Zc (ZaU (r:=r_g) (o:=0) rfl rfl) (Zc (Zad (hO.rdB0 (RdB.of b_g)).choose_spec rfl rfl) ?_)))))
 obtain ⟨x,⟨_,_,c,b,rfl,e⟩,hp⟩:=bdk hp fun _=>Zaa.ok (h:=h)  (hO.rd0 s_g_cells.rd)
 refine Zan rfl rfl c ?_
 have d:=hO.call e rfl
 refine Zb b rfl (Ze (zR (zf (zj rfl ZF) ?_)))
 cases hp
 exact ⟨b,rfl,(d.pk [0])⟩

theorem ZbO.ok {h:Hp}{t:Int}   {r:Bool}(hp:ZbO t=some r) :
  ∃ u k',Is G 205 [.n t] h u k'∧V.b r=u∧Own (fun r=>r<h.n) h k' []:=by
 refine WC.is (ZaB ZeA ?_)
 unfold ZbO at hp
 let B:Nat→Prop:=(fun r=>r<h.n)
 have hO:Own B h h []:=Own.start0 h
 refine Zj (Zb (.b false) rfl (Ze (Zj (Zb (.n t) rfl (Zc (zV rfl rfl) (Zb (.b (decide (t<0))) rfl (Ze (zR (zf (zj rfl ZF) ?_)))))))))
 cases hp
 exact ⟨rfl,(hO.pk [])⟩

theorem ZaS.ok {h:Hp}{cells:List Za}{v_cells:V}(s_cells:Sl Zd h v_cells cells) {r:Int×Int×Bool}(hp:ZaS cells=some r) :
  ∃ u k',Is G 178 [v_cells] h u k'∧V.tu [.n r.1,.n r.2.1,.b r.2.2]=u∧Own (fun r=>r<h.n) h k' []:=by
 refine WC.is (ZaB Zfr ?_)
 unfold ZaS at hp
 let B:Nat→Prop:=(fun r=>r<h.n)
 have hO:Own B h h []:=Own.start0 h
 refine Zj (Zb (.n 0) rfl (Zb (.n 0) rfl (Zb (.b false) rfl (Ze (Zj (Zb v_cells rfl ?_))))))
 obtain ⟨⟨x,x1⟩,⟨_,ab,J,rfl,W⟩,hp⟩:=bdk hp fun _=>ZbY.ok (h:=h)  (hO.rd0 s_cells.rd)
 refine Zan rfl rfl J ?_
 have l:=hO.call W rfl
 refine Zb (.tu [.n x,.n x1]) rfl (Zc (zM rfl rfl) (Zc (zM rfl rfl) (Zb (.n x) rfl (Zb (.n x1) rfl (Ze (ZM (Zj (Zb (.n x1) rfl (Zc (Zcv rfl rfl) (Ze (zD hp rfl (fun E hp=>?_) (fun E hp=>?_))))))))))))
 ·refine Zj (Zb (.n 0) rfl (Zb (.n 0) rfl (Zb (.b false) rfl (Ze (zR (zl (zf (zj rfl (zj rfl (zj rfl ZF))) ?_)))))))
  cases hp
  exact ⟨rfl,(l.pk [])⟩
 ·refine Za3 (Zj (Zb v_cells rfl ?_))
  obtain ⟨⟨x2,x3⟩,⟨_,_,K,g,c,rfl,X⟩,hp⟩:=bdk hp fun _=>zw.ok (h:=ab)  (l.rd0 s_cells.rd)
  refine Zan rfl rfl K ?_
  have m:=l.call X rfl
  refine Zb (.tu [g,.n x3]) rfl (Zc (zM rfl rfl) (Zc (zM rfl rfl) (Zb g rfl (Zb (.n x3) rfl (Ze (ZM (Zj (Zb g rfl (Zc (Zgk (n:=(x2).length) (m.sl 0 rfl) (m.allLen 1 rfl:(c).length=(x2).length) rfl) (Zb (.n 0) rfl (Zo ?_)))))))))))
  refine Zx (Za2 (Zci hp (fun x4 fr k=>fr 0=v_cells∧fr 5=.n x∧fr 24=g∧fr 25=.n (x2.length:Int)∧fr 26=.n x4∧Own B h k [eSl eV g c,Zcy Zl c x2]) (fun|.inl _,e,fr,k=>e=(.exit 0)∧Own B h k []|.inr (x5,x6),e,fr,k=>e=.ret∧fr 2=.n x5∧fr 3=.n x6∧fr 4=.b true∧Own B h k []) ⟨rfl,rfl,rfl,rfl,rfl,(m.pk [0,1])⟩ ?_ ?_))
  ·rintro x4 _ D ⟨p,t,q,s,i,a⟩ _ hp
   dsimp only [ZaS.s0] at hp
   refine Zj (Zc (zV i s) (Ze (ZM (zD hp rfl (fun F hp=>?_) (fun F hp=>?_)))))
   ·refine Za3 (ZM (Za2 (Zj (Zb _ i (ckk hp fun j hp=>Zc (ZW (a.sl 0 rfl) q i (by rw [(a.allLen 1 rfl:(c).length=(x2).length)];exact j)) (Zc (zt (a.sl 0 rfl) rfl (by rw [(a.allLen 1 rfl:(c).length=(x2).length)];exact Zf j) rfl) (Zb (.n x4) rfl (Zb ((gi c x4.toNat)) rfl (Ze ?_)))))))))
    refine Zj (Zb _ p (Zb ((gi c x4.toNat)) rfl ?_))
    obtain ⟨x7,⟨_,ac,L,_,rfl,Y⟩,hp⟩:=bdk hp fun _=>Za8.ok (h:=D)  (a.rd0 s_cells.rd) (a.inn 1 rfl (Zf j):Sl Zl D (gi c x4.toNat) (gi x2 x4.toNat))
    refine Zan rfl rfl L ?_
    have A:=a.call Y rfl
    obtain ⟨x8,⟨_,ad,M,rfl,aa⟩,hp⟩:=bdk hp fun _=>za.ok (h:=ac)  (A.sl 2 rfl) (fun k z0 y hk hx=>ZbO.ok (h:=k)  hx)
    refine Zan rfl rfl M ?_
    have C:=A.call aa rfl
    refine Zb (.n x8) rfl (Ze (Zj (Zb (.n x4) rfl (Zb _ t (Zc (Zcv rfl rfl) (Zb (.b (!(decide (x4=x)))) rfl (Zay 3 (fun f k=>ad=k∧f 41=.b ((!(decide (x4=x)))&&(decide (0≤x8)))∧f 0=v_cells∧f 11=.n x8∧f 24=g∧f 25=.n (x2.length:Int)∧f 26=.n x4∧f 5=.n x∧f 9=.n x4) ?_ ?_)))))))
    ·rcases bc (!(decide (x4=x))) with d|d
     ·refine Z6 rfl d (Zb (.n x8) rfl (Z6 rfl d (Zc (Zds rfl rfl) (Zc (Zel rfl d rfl) (Zo ?_)))))
      exact ⟨rfl,rfl,p,rfl,q,s,i,t,rfl⟩
     ·refine Zs rfl d (Zs rfl d (Zc (Zek (w:=(!(decide (x4=x)))&&(decide (0≤x8))) rfl d rfl) (Zo ?_)))
      exact ⟨rfl,rfl,p,rfl,q,s,i,t,rfl⟩
    rintro _ _ ⟨rfl,S,N,O,P,Q,R,T,U⟩
    refine Ze (zD hp S (fun H hp=>?_) (fun H hp=>?_))
    ·refine Zj (Zb _ U (Zb _ O (Zb (.n x4) rfl (Zb (.n x8) rfl (Zb (.b true) rfl (Ze (zR (Zbt (zl ?_)))))))))
     cases hp
     exact ⟨nofun,rfl,rfl,rfl,rfl,(C.pk [])⟩
    ·refine Zc5 (Zat (Zx (Zar (ckk hp fun I hp=>Zc (zG R rfl I) (Zb (.n (x4+1)) rfl (Zo ?_))))))
     cases hp
     exact ⟨rfl,N,T,P,Q,rfl,(C.pk [0,1])⟩
   ·refine ZbU (Zas ?_)
    cases hp
    exact ⟨nofun,rfl,(a.pk [])⟩
  rintro (_|⟨x5,x6⟩) hp _ _ _ v
  ·obtain ⟨rfl,o⟩:=v
   refine Zbe (Zx (Zj (Zb (.n 0) rfl (Zb (.n 0) rfl (Zb (.b false) rfl (Ze (zR (zf (zj rfl (zj rfl (zj rfl ZF))) ?_))))))))
   cases hp
   exact ⟨rfl,(o.pk [])⟩
  ·obtain ⟨rfl,ae,af,ag,o⟩:=v
   refine Zbt (zl (zf (zj ae (zj af (zj ag ZF))) ?_))
   cases hp
   exact ⟨rfl,(o.pk [])⟩

theorem Zb0.ok {h:Hp}{g:ZK}{v:Int}{d:Int}{r_g:Nat}{v_g_cells:V}(H:Own (Bm h [ZaF r_g [v_g_cells],eSl Zd v_g_cells g.cells]) h h [ZaF r_g [v_g_cells],eSl Zd v_g_cells g.cells]) {r:Int×Int×ZK}(hp:Zb0 g v d=some r) :
  ∃ u k',Is G 48 [.p r_g 0,.n v,.n d] h u k'∧∃ i,V.tu [.n r.1,.n r.2.1]=u∧Own (Bm h [ZaF r_g [v_g_cells],eSl Zd v_g_cells g.cells]) h k' [ZaF r_g [i],eSl Zd i r.2.2.cells]:=by
 refine WC.is (ZaB Zei ?_)
 unfold Zb0 at hp
 let B:Nat→Prop:=(Bm h [ZaF r_g [v_g_cells],eSl Zd v_g_cells g.cells])
 have hO:Own B h h [ZaF r_g [v_g_cells],eSl Zd v_g_cells g.cells]:=H
 refine Zj (Zb (.n 0) rfl (Zb (.n 0) rfl (Ze (ZM (Za2 (Zj (Zb (.p r_g 0) rfl (Zc (ZjF rfl rfl) (Zb (.b false) rfl (Zo ?_))))))))))
 refine Zx (ZjD rfl rfl (Zj (Zb (.p r_g 0) rfl (Zb (.n v) rfl (Zb (.n d) rfl ?_)))))
 obtain ⟨x,⟨_,J,o,rfl,C⟩,hp⟩:=bdk hp fun _=>Zbb.ok (h:=h)  (hO.box 0 rfl) (hO.sl 1 rfl)
 refine Zan rfl rfl o ?_
 have a:=hO.call C rfl
 refine Zc (Zcl rfl) (Zb (.b (!x)) rfl (Ze (zD hp rfl (fun j hp=>?_) (fun j hp=>?_))))
 ·refine Zj (Zb (.n 0) rfl (Zb (.n 2) rfl (Ze (zR (Zbt (zl (zf (zj rfl (zj rfl ZF)) ?_)))))))
  cases hp
  exact ⟨v_g_cells,rfl,(a.pk [0,1])⟩
 ·refine Zc5 (Zat (Zx (Zj (Zb (.p r_g 0) rfl (Zb (.n v) rfl (Zb (.n d) rfl ?_))))))
  obtain ⟨⟨x1,x2,x3⟩,⟨_,K,q,rfl,D⟩,hp⟩:=bdk hp fun _=>ZaG.ok (h:=J)  (a.box 0 rfl) (a.sl 1 rfl)
  refine Zan rfl rfl q ?_
  have c:=a.call D rfl
  refine Zb (.tu [.n x1,.n x2,.b x3]) rfl (Zc (zM rfl rfl) (Zc (zM rfl rfl) (Zc (zM rfl rfl) (Zb (.n x1) rfl (Zb (.n x2) rfl (Zb (.b x3) rfl (Ze (ZM (Zj (Zb (.b x3) rfl (Zc (Zcl rfl) ?_)))))))))))
  refine Ze (zD hp rfl (fun k hp=>?_) (fun k hp=>?_))
  ·refine Zj (Zb (.n 0) rfl (Zb (.n 9) rfl (Ze (zR (zl (zf (zj rfl (zj rfl ZF)) ?_))))))
   cases hp
   exact ⟨v_g_cells,rfl,(c.pk [0,1])⟩
  ·refine Za3 (Zj (Zb (.p r_g 0) rfl ?_))
   obtain ⟨⟨x4,x5,m⟩,⟨_,L,s,N,rfl,E⟩,hp⟩:=bdk hp fun _=>Zb6.ok (h:=K) (g:=g) (c.toM [0,1] rfl (by decide)) 
   refine Zan rfl rfl s ?_
   have e:=(c.callM [0,1] [] rfl rfl (by decide) E rfl).pick [0,1] rfl (by decide)
   refine Zb (.tu [.n x4,.n x5]) rfl (Zc (zM rfl rfl) (Zc (zM rfl rfl) (Zb (.n x4) rfl (Zb (.n x5) rfl (Ze (ZM (Zj (Zb (.n x5) rfl (Zc (Zcv rfl rfl) (Ze (zD hp rfl (fun l hp=>?_) (fun l hp=>?_))))))))))))
   ·refine Zj (Zb (.n x5) rfl (Zb (.n 0) rfl (Zb (.n x5) rfl (Ze (zR (zl (zf (zj rfl (zj rfl ZF)) ?_)))))))
    cases hp
    exact ⟨N,rfl,(e.pk [0,1])⟩
   ·refine Za3 (Zj (Zb (.p r_g 0) rfl (Zb (.n v) rfl (Zb (.n d) rfl (Zb (.n x4) rfl (Zb (.n x2) rfl ?_))))))
    obtain ⟨m1,⟨_,M,t,_,rfl,F⟩,hp⟩:=bdk hp fun _=>Zbm.ok (h:=L) (g:=m) (v:=v) (d:=d) (w:=x4) (owner:=x2) (e.toM [0,1] rfl (by decide)) 
    refine Zan rfl rfl t ?_
    have f:=(e.callM [0,1] [] rfl rfl (by decide) F rfl).pick [0,1] rfl (by decide)
    refine Ze (Zj (Zb (.p r_g 0) rfl (Zb (.n x4) rfl (Zb (.n d) rfl (Zb (.n x1) rfl (Zb (.n x2) rfl ?_))))))
    obtain ⟨m2,⟨_,_,y,O,rfl,I⟩,hp⟩:=bdk hp fun _=>Zbm.ok (h:=M) (g:=m1) (v:=x4) (d:=d) (w:=x1) (owner:=x2) (f.toM [0,1] rfl (by decide)) 
    refine Zan rfl rfl y ?_
    have A:=(f.callM [0,1] [] rfl rfl (by decide) I rfl).pick [0,1] rfl (by decide)
    refine Ze (Zj (Zb (.n x4) rfl (Zb (.n x4) rfl (Zb (.n 0) rfl (Ze (zR (zf (zj rfl (zj rfl ZF)) ?_)))))))
    cases hp
    exact ⟨O,rfl,(A.pk [0,1])⟩

theorem ZcT.ok {h:Hp}{g:ZK}{r_g:Nat}{v_g_cells:V}(H:Own (Bm h [ZaF r_g [v_g_cells],eSl Zd v_g_cells g.cells]) h h [ZaF r_g [v_g_cells],eSl Zd v_g_cells g.cells]) {r:Bool×Int×ZK}(hp:ZcT g=some r) :
  ∃ u k',Is G 276 [.p r_g 0] h u k'∧∃ R,V.tu [.b r.1,.n r.2.1]=u∧Own (Bm h [ZaF r_g [v_g_cells],eSl Zd v_g_cells g.cells]) h k' [ZaF r_g [R],eSl Zd R r.2.2.cells]:=by
 refine WC.is (ZaB Zgv ?_)
 unfold ZcT at hp
 let B:Nat→Prop:=(Bm h [ZaF r_g [v_g_cells],eSl Zd v_g_cells g.cells])
 have hO:Own B h h [ZaF r_g [v_g_cells],eSl Zd v_g_cells g.cells]:=H
 refine Zj (Zb (.b false) rfl (Zb (.n 0) rfl (Ze (Zj (Zb (.p r_g 0) rfl ?_)))))
 obtain ⟨x,⟨_,au,U,D,rfl,ak⟩,hp⟩:=bdk hp fun _=>ZaR.ok (h:=h)  (hO.box 0 rfl) (hO.sl 1 rfl)
 refine Zan rfl rfl U ?_
 have L:=hO.call ak rfl
 refine Zb D rfl (Ze (Zj (Zb D rfl ?_)))
 obtain ⟨⟨x1,x2,x3⟩,⟨_,ay,W,rfl,al⟩,hp⟩:=bdk hp fun _=>ZaS.ok (h:=au)  (L.sl 2 rfl)
 refine Zan rfl rfl W ?_
 have E:=L.call al rfl
 refine Zb (.tu [.n x1,.n x2,.b x3]) rfl (Zc (zM rfl rfl) (Zc (zM rfl rfl) (Zc (zM rfl rfl) (Zb (.n x1) rfl (Zb (.n x2) rfl (Zb (.b x3) rfl (Ze (ZM (Zj (Zb (.b x3) rfl (Zc (Zcl rfl) ?_)))))))))))
 refine Ze (zD hp rfl (fun S hp=>?_) (fun S hp=>?_))
 ·refine Zj (Zb (.b false) rfl (Zb (.n 0) rfl (Ze (zR (zl (zf (zj rfl (zj rfl ZF)) ?_))))))
  cases hp
  exact ⟨v_g_cells,rfl,(E.pk [0,1])⟩
 ·refine Za3 (Zj (Zb D rfl ?_))
  obtain ⟨⟨x4,x5⟩,⟨_,N,X,y,f,rfl,am⟩,hp⟩:=bdk hp fun _=>zw.ok (h:=ay)  (E.sl 2 rfl)
  refine Zan rfl rfl X ?_
  have l:=E.call am rfl
  refine Zb (.tu [y,.n x5]) rfl (Zc (zM rfl rfl) (Zc (zM rfl rfl) (Zb y rfl (Zb (.n x5) rfl (Ze (Zj (Zb D rfl (Zb y rfl (Zb (.n x1) rfl (ckk hp fun e hp=>Zc (ZW (l.sl 3 rfl) rfl rfl (by rw [(l.allLen 4 rfl:(f).length=(x4).length)];exact e)) ?_))))))))))
  refine Zc (zt (l.sl 3 rfl) rfl (by rw [(l.allLen 4 rfl:(f).length=(x4).length)];exact Zf e) rfl) ?_
  obtain ⟨x6,⟨_,az,Y,_,rfl,an⟩,hp⟩:=bdk hp fun _=>Za8.ok (h:=N)  (l.sl 2 rfl) (l.inn 4 rfl (Zf e):Sl Zl N (gi f x1.toNat) (gi x4 x1.toNat))
  refine Zan rfl rfl Y ?_
  have M:=l.call an rfl
  refine Zb (.n x2) rfl ?_
  obtain ⟨⟨x7,x8⟩,⟨_,s,aa,rfl,ao⟩,hp⟩:=bdk hp fun _=>Zba.ok (h:=az)  (M.sl 5 rfl)
  refine Zan rfl rfl aa ?_
  have a:=M.call ao rfl
  refine Zb (.tu [.n x7,.b x8]) rfl (Zc (zM rfl rfl) (Zc (zM rfl rfl) (Zb (.n x7) rfl (Zb (.b x8) rfl (Ze (ZM (ZeS ?_)))))))
  have k:=a.bump 18
  have K:=Fresh.start s 18
  have P:∀ {i:Nat},h.n≤s.n+i:=Nat.le_trans a.n (Nat.le_add_right _ _)
  refine Zaq y rfl (Zaq (.n x1) rfl (ZX (ZW (k.sl 3 rfl) rfl rfl (by rw [(k.allLen 4 rfl:(f).length=(x4).length)];exact e)) (ZX (zt (k.sl 3 rfl) rfl (by rw [(k.allLen 4 rfl:(f).length=(x4).length)];exact Zf e) rfl) (Zaq (.n x2) rfl (ckk hp fun I hp=>ZX (ZW (k.inn 4 rfl (Zf e):Sl Zl (s.bump 18) (gi f x1.toNat) (gi x4 x1.toNat)) rfl rfl I) (ZX (ZeV (k.inn 4 rfl (Zf e):Sl Zl (s.bump 18) (gi f x1.toNat) (gi x4 x1.toNat)) rfl (Zf I)) (Zaq y rfl (Zaq (.n x1) rfl (ZX (ZW (k.sl 3 rfl) rfl rfl (by rw [(k.allLen 4 rfl:(f).length=(x4).length)];exact e)) (ZX (zt (k.sl 3 rfl) rfl (by rw [(k.allLen 4 rfl:(f).length=(x4).length)];exact Zf e) rfl) (Zaq (.n x7) rfl (ckk hp fun J hp=>?_))))))))))))
  refine ZX (ZW (k.inn 4 rfl (Zf e):Sl Zl (s.bump 18) (gi f x1.toNat) (gi x4 x1.toNat)) rfl rfl J) (ZX (ZeV (k.inn 4 rfl (Zf e):Sl Zl (s.bump 18) (gi f x1.toNat) (gi x4 x1.toNat)) rfl (Zf J)) (Zdf (k.alloc (cs:=Zl.c (⟨0,0⟩:Zr)) ⟨K.m 14 (by decide) (by decide),P⟩) ?_))
  rintro _ _ _ ⟨F,rfl,O,ae,ah⟩
  have af:=K.kept ae (by decide)
  refine Zdf (ah.alloc (cs:=Zl.c (⟨0,0⟩:Zr)) ⟨af.m 15 (by decide) (by decide),P⟩) ?_
  rintro _ _ _ ⟨Q,rfl,_,_,ai⟩
  refine Zdf (ai.stb (cs':=Zl.c (gi (gi x4 x1.toNat) x2.toNat)) 6 rfl rfl rfl rfl ⟨rfl,Nat.le_of_ble_eq_true rfl,rfl⟩ rfl) ?_
  rintro _ _ _ ⟨rfl,_,_,aj⟩
  refine Zdf (aj.stb (cs':=Zl.c (gi (gi x4 x1.toNat) x7.toNat)) 7 rfl rfl rfl rfl ⟨rfl,Nat.le_of_ble_eq_true rfl,rfl⟩ rfl) ?_
  rintro _ av _ ⟨rfl,_,_,t⟩
  refine Zch ?_
  refine And.intro ?_ ?_
  ·intro q hq
   simp only [List.mem_cons,List.not_mem_nil,or_false] at hq
   rcases hq with rfl|rfl|rfl|rfl|rfl|rfl|rfl|rfl|rfl|rfl|rfl|rfl|rfl|rfl|rfl
   ·refine Zak ?_ ?_
    ·exact (fun h=>nomatch h)
    ·exact (fun h=>nomatch h)
   ·refine Zak ?_ ?_
    ·exact (fun h=>nomatch h)
    ·exact (fun h=>nomatch h)
   ·refine Zak ?_ ?_
    ·exact (fun h=>nomatch h)
    ·exact (fun h=>nomatch h)
   ·refine Zak ?_ ?_
    ·exact (fun h=>nomatch h)
    ·exact (fun h=>nomatch h)
   ·refine Zak ?_ ?_
    ·exact (fun h=>nomatch h)
    ·exact (fun _ hm=>Nat.lt_irrefl _ (Nat.lt_of_lt_of_le (a.ltAt 3 rfl _ (Zbq (tch (ZbS hm) rfl))) (Nat.le_add_right _ _)))
   ·refine Zak ?_ ?_
    ·exact (fun h=>nomatch h)
    ·exact (fun _ hm=>Nat.lt_irrefl _ (Nat.lt_of_lt_of_le (a.ltAt 4 rfl _ (Zgb (j:=x1.toNat) (by have q:(f).length=(x4).length:=a.allLen 4 rfl;have:=e;omega) (Zbq (tch (ZbS hm) rfl)))) (Nat.le_add_right _ _)))
   ·refine Zak ?_ ?_
    ·exact (fun h=>nomatch h)
    ·exact (fun _ hm=>Nat.lt_irrefl _ (Nat.lt_of_lt_of_le (a.ltAt 3 rfl _ (Zbq (tch (ZbS hm) rfl))) (Nat.le_add_right _ _)))
   ·refine Zak ?_ ?_
    ·exact (fun h=>nomatch h)
    ·exact (fun _ hm=>Nat.lt_irrefl _ (Nat.lt_of_lt_of_le (a.ltAt 4 rfl _ (Zgb (j:=x1.toNat) (by have q:(f).length=(x4).length:=a.allLen 4 rfl;have:=e;omega) (Zbq (tch (ZbS hm) rfl)))) (Nat.le_add_right _ _)))
   ·refine Zak ?_ ?_
    ·exact (fun h=>nomatch h)
    ·exact (fun _ hm=>Nat.lt_irrefl _ (Nat.lt_of_lt_of_le (a.ltAt 3 rfl _ (Zbq (tch (ZbS hm) rfl))) (Nat.le_add_right _ _)))
   ·refine Zak ?_ ?_
    ·exact (fun h=>nomatch h)
    ·exact (fun _ hm=>Nat.lt_irrefl _ (Nat.lt_of_lt_of_le (a.ltAt 4 rfl _ (Zgb (j:=x1.toNat) (by have q:(f).length=(x4).length:=a.allLen 4 rfl;have:=e;omega) (Zbq (tch (ZbS hm) rfl)))) (Nat.le_add_right _ _)))
   ·refine Zak ?_ ?_
    ·exact (fun h=>nomatch h)
    ·exact (fun _ hm=>Nat.lt_irrefl _ (Nat.lt_of_lt_of_le (a.ltAt 3 rfl _ (Zbq (tch (ZbS hm) rfl))) (Nat.le_add_right _ _)))
   ·refine Zak ?_ ?_
    ·exact (fun h=>nomatch h)
    ·exact (fun _ hm=>Nat.lt_irrefl _ (Nat.lt_of_lt_of_le (a.ltAt 4 rfl _ (Zgb (j:=x1.toNat) (by have q:(f).length=(x4).length:=a.allLen 4 rfl;have:=e;omega) (Zbq (tch (ZbS hm) rfl)))) (Nat.le_add_right _ _)))
   ·refine Zak ?_ ?_
    ·exact (fun _=>List.not_mem_nil)
    ·exact (fun _=>List.not_mem_nil)
   ·refine Zlf ?_ ?_ ?_
    ·exact (fun r h1 h2=>by have h3:=(a.ltAt 3 rfl _ (Zbq (tch (ZbS h1) rfl)));have h4:=(Zlo O (tch (Zlx h2) rfl));omega)
    ·exact (fun h=>nomatch h)
    ·exact (fun _ hm=>Nat.lt_irrefl _ (Nat.lt_of_lt_of_le (a.ltAt 3 rfl _ (Zbq (tch (ZbS hm) rfl))) (Nat.le_add_right _ _)))
   ·refine Zlf ?_ ?_ ?_
    ·exact (fun r h1 h2=>by have h3:=(a.ltAt 4 rfl _ (Zgb (j:=x1.toNat) (by have q:(f).length=(x4).length:=a.allLen 4 rfl;have:=e;omega) (Zbq (tch (ZbS h1) rfl))));have h4:=(Zlo O (tch (Zlx h2) rfl));omega)
    ·exact (fun h=>nomatch h)
    ·exact (fun _ hm=>Nat.lt_irrefl _ (Nat.lt_of_lt_of_le (a.ltAt 4 rfl _ (Zgb (j:=x1.toNat) (by have q:(f).length=(x4).length:=a.allLen 4 rfl;have:=e;omega) (Zbq (tch (ZbS hm) rfl)))) (Nat.le_add_right _ _)))
  refine Zx (Zj (Zb (.p r_g 0) rfl (Zc (ZaU (r:=F) (o:=0) rfl rfl) (Zc (Zad (t.box 6 rfl) rfl rfl) (Zc (ZaU (r:=F) (o:=0) rfl rfl) (Zc (Zad (t.box 6 rfl) rfl rfl) ?_))))))
  obtain ⟨⟨x9,x10,x11⟩,⟨_,aw,ab,rfl,ap⟩,hp⟩:=bdk hp fun _=>ZaG.ok (h:=av)  (t.box 0 rfl) (t.sl 1 rfl)
  refine Zan rfl rfl ab ?_
  have A:=t.call ap rfl
  refine Zb (.tu [.n x9,.n x10,.b x11]) rfl (Zc (zM rfl rfl) (Zc (zM rfl rfl) (Zc (zM rfl rfl) (Zb (.n x9) rfl (Zb (.n x10) rfl (Zb (.b x11) rfl (Ze (Zj (Zb (.p r_g 0) rfl (Zc (ZaU (r:=Q) (o:=0) rfl rfl) (Zc (Zad (A.box 7 rfl) rfl rfl) ?_)))))))))))
  refine Zc (ZaU (r:=Q) (o:=0) rfl rfl) (Zc (Zad (A.box 7 rfl) rfl rfl) ?_)
  obtain ⟨⟨x12,x13,m⟩,⟨_,ax,ac,aA,rfl,aq⟩,hp⟩:=bdk hp fun _=>Zb0.ok (h:=aw) (g:=g) (v:=((gi (gi x4 x1.toNat) x7.toNat).Cell)) (d:=((gi (gi x4 x1.toNat) x7.toNat).Dir)) (A.toM [0,1] rfl (by decide)) 
  refine Zan rfl rfl ac ?_
  have C:=(A.callM [0,1] [2,3,4,5,6,7] rfl rfl (by decide) aq rfl).pick [6,7,0,1,2,3,4,5] rfl (by decide)
  refine Zb (.tu [.n x12,.n x13]) rfl (Zc (zM rfl rfl) (Zc (zM rfl rfl) (Zb (.n x12) rfl (Zb (.n x13) rfl (Ze (ZM (Zj (Zb (.n x13) rfl (Zc (Zcv rfl rfl) (Ze (zD hp rfl (fun T hp=>?_) (fun T hp=>?_))))))))))))
  ·refine Zj (Zb (.n x13) rfl (Zb (.b false) rfl (Zb (.n x13) rfl (Ze (zR (zl (zf (zj rfl (zj rfl ZF)) ?_)))))))
   cases hp
   exact ⟨aA,rfl,(C.pk [0,1])⟩
  ·refine Za3 (Zj (Zb (.p r_g 0) rfl (Zb (.n x9) rfl (Zc (ZaU (r:=F) (o:=0) rfl rfl) (Zc (Zad (C.box 6 rfl) rfl rfl) (Zb (.n x12) rfl ?_))))))
   obtain ⟨⟨x14,m1⟩,⟨_,_,ad,aB,rfl,ar⟩,hp⟩:=bdk hp fun _=>zK.ok (h:=ax) (g:=m) (v:=x9) (d:=((gi (gi x4 x1.toNat) x2.toNat).Dir)) (w:=x12) (owner:=(-2)) (C.toM [0,1] rfl (by decide)) 
   refine Zan rfl rfl ad ?_
   have ag:=(C.callM [0,1] [2,3,4,5,6,7] rfl rfl (by decide) ar rfl).pick [6,7,0,1,2,3,4,5] rfl (by decide)
   refine Zb (.b true) rfl (Zb (.n x14) rfl (Ze (zR (zf (zj rfl (zj rfl ZF)) ?_))))
   cases hp
   exact ⟨aB,rfl,(ag.pk [0,1])⟩

theorem Zaf.ok {h:Hp}{cells:List Za}{v_cells:V}(s_cells:Sl Zd h v_cells cells) {r:(List Za)×Int}(hp:Zaf cells=some r) :
  ∃ u k',Is G 266 [v_cells] h u k'∧∃ w,V.tu [w,.n r.2]=u∧Own (fun r=>r<h.n) h k' [eSl Zd w r.1]:=by
 refine WC.is (ZaB Zfu ?_)
 unfold Zaf at hp
 let B:Nat→Prop:=(fun r=>r<h.n)
 have hO:Own B h h []:=Own.start0 h
 refine Zj (Zb (.sn) rfl (Zb (.n 0) rfl (Ze (Zj (Zb v_cells rfl ?_)))))
 obtain ⟨⟨x,x1⟩,⟨_,v,H,a,o,rfl,Q⟩,hp⟩:=bdk hp fun _=>Zbu.ok (h:=h)  (hO.rd0 s_cells.rd)
 refine Zan rfl rfl H ?_
 have d:=hO.call Q rfl
 refine Zb (.tu [(if (x).isSome=true then V.p a 0 else V.pn),.n x1]) rfl (Zc (zM rfl rfl) (Zc (zM rfl rfl) (Zb ((if (x).isSome=true then V.p a 0 else V.pn)) rfl (Zb (.n x1) rfl (Ze (ZM (Za2 (Zj (Zb (.n x1) rfl (Zc (ZbZ rfl rfl) (Zb (.b (decide (x1=2))) rfl ?_)))))))))))
 refine Ze (zD hp rfl (fun C hp=>?_) (fun C hp=>?_))
 ·refine Zj (Zb v_cells rfl ?_)
  obtain ⟨x2,⟨_,_,I,y,rfl,R⟩,hp⟩:=bdk hp fun _=>Zaa.ok (h:=v)  (d.rd0 s_cells.rd)
  refine Zan rfl rfl I ?_
  have L:=d.call R rfl
  refine Zb y rfl (Zb (.n 0) rfl (Ze (zR (Zbt (zl (zf (zj rfl (zj rfl ZF)) ?_))))))
  cases hp
  exact ⟨y,rfl,(L.pk [2])⟩
 ·refine Zj (Zb (.n x1) rfl (Zc (Zcv rfl rfl) (Zb (.b (!(decide (x1=0)))) rfl (Ze (zD hp rfl (fun D hp=>?_) (fun D hp=>?_))))))
  ·refine Zj (Zb (.n x1) rfl (Zb (.sn) rfl (Zb (.n x1) rfl (Ze (zR (Zbt (zl ?_)))))))
   have M:=d.nil Zd
   refine zf (zj rfl (zj rfl ZF)) ?_
   cases hp
   exact ⟨V.sn,rfl,(M.pk [2])⟩
  ·refine Zc5 (Zat (Zx (ZM (Zj (Zb (.b true) rfl (Ze (Za2 ?_)))))))
   obtain ⟨g,f,hp⟩:=Za7 hp
   replace f:x=some g:=f
   have N:Own B h v [ZaF a [o],eSl Zd o g.cells]:=by have hq:=d;rw [f] at hq;exact hq
   refine Zci hp (fun|(g1,more),fr,k=>∃ i,fr 4=.p a 0∧fr 6=.b more∧Own B h k [ZaF a [i],eSl Zd i g1]) (fun|.inl g2,e,fr,k=>e=(.exit 1)∧∃ q,fr 4=.p a 0∧Own B h k [ZaF a [q],eSl Zd q g2]|.inr x3,e,fr,k=>e=.ret∧fr 2=.sn∧fr 3=.n x3∧Own B h k []) ⟨o,(unw f),rfl,(N.pk [0,1])⟩ ?_ ?_
   ·rintro ⟨g1,more⟩ _ W ⟨i,l,ab,j⟩ _ hp
    dsimp only [Zaf.s0] at hp
    refine ZM (Zj (Zb _ ab (Ze (zD hp rfl (fun E hp=>?_) (fun E hp=>?_)))))
    ·refine Za3 (Za2 (Zj (Zb _ l ?_)))
     obtain ⟨⟨x4,x5,m⟩,⟨_,_,J,ac,rfl,S⟩,hp⟩:=bdk hp fun _=>ZcT.ok (h:=W) (g:=(⟨g1⟩:ZK)) (j.toM [0,1] rfl (by decide)) 
     refine Zan rfl rfl J ?_
     have t:=(j.callM [0,1] [] rfl rfl (by decide) S rfl).pick [0,1] rfl (by decide)
     refine Zb (.tu [.b x4,.n x5]) rfl (Zc (zM rfl rfl) (Zc (zM rfl rfl) (Zb (.b x4) rfl (Zb (.n x5) rfl (Ze (Zj (Zb (.n x5) rfl (Zc (Zcv rfl rfl) (Ze (zD hp rfl (fun F hp=>?_) (fun F hp=>?_)))))))))))
     ·refine Zj (Zb (.n x5) rfl (Zb (.sn) rfl (Zb (.n x5) rfl (Ze (zR (Zbt ?_))))))
      cases hp
      exact ⟨nofun,rfl,rfl,rfl,(t.pk [])⟩
     ·refine Zc5 (Zat ?_)
      cases hp
      exact ⟨rfl,ac,l,rfl,(t.pk [0,1])⟩
    ·refine ZbU (Zas ?_)
     cases hp
     exact ⟨nofun,rfl,i,l,(j.pk [0,1])⟩
   rintro (g2|x3) hp _ _ U s
   ·obtain ⟨rfl,q,aa,c⟩:=s
    refine Zbe (Zx (Zj (Zb _ aa ?_)))
    obtain ⟨x6,⟨_,_,K,A,rfl,T⟩,hp⟩:=bdk hp fun _=>ZaR.ok (h:=U)  (c.box 0 rfl) (c.sl 1 rfl)
    refine Zan rfl rfl K ?_
    have O:=c.call T rfl
    refine Zb A rfl (Zb (.n 0) rfl (Ze (zR (zf (zj rfl (zj rfl ZF)) ?_))))
    cases hp
    exact ⟨A,rfl,(O.pk [2])⟩
   ·obtain ⟨rfl,X,Y,c⟩:=s
    refine Zbt (zl ?_)
    have P:=c.nil Zd
    refine zf (zj X (zj Y ZF)) ?_
    cases hp
    exact ⟨V.sn,rfl,(P.pk [0])⟩

theorem ZbA.ok {h:Hp}{l:List Za}{v:Int}{d:Int}{w:Int}{o:Int}{v_l:V}(H:Own (Bm h [eSl Zd v_l l]) h h [eSl Zd v_l l]) {r:(List Za)×Int}(hp:ZbA l v d w o=some r) :
  ∃ u k',Is G 53 [v_l,.n v,.n d,.n w,.n o] h u k'∧∃ ar,V.tu [ar,.n r.2]=u∧Own (Bm h [eSl Zd v_l l]) h k' [eSl Zd ar r.1]:=by
 refine WC.is (ZaB ZdT ?_)
 unfold ZbA at hp
 let B:Nat→Prop:=(Bm h [eSl Zd v_l l])
 have hO:Own B h h [eSl Zd v_l l]:=H
 refine Zj (Zb (.sn) rfl (Zb (.n 0) rfl (Ze (ZM (Zj (Zb (.n v) rfl (Zc (zV rfl rfl) (Zb (.b (decide (v<0))) rfl (Zay 5 (fun f k=>h=k∧f 20=.b ((decide (v<0))||(decide ((l.length:Int)≤v)))∧f 0=v_l∧f 1=.n v∧f 2=.n d∧f 3=.n w∧f 4=.n o) ?_ ?_)))))))))
 ·rcases bc (decide (v<0)) with c|c
  ·refine Zs rfl c (Zs rfl c (Zs rfl c (Zs rfl c (Zc (Zc6 (w:=(decide (v<0))||(decide ((l.length:Int)≤v))) rfl c rfl) (Zo ?_)))))
   exact ⟨rfl,rfl,rfl,rfl,rfl,rfl,rfl⟩
  ·refine Z6 rfl c (Zb (.n v) rfl (Z6 rfl c (Zb v_l rfl (Z6 rfl c (Zc (ZaC (hO.sl 0 rfl) rfl) (Z6 rfl c (Zc (Zds rfl rfl) (Zc (Zc7 rfl c rfl) (Zo ?_)))))))))
   exact ⟨rfl,rfl,rfl,rfl,rfl,rfl,rfl⟩
 rintro _ _ ⟨rfl,ay,R,S,T,D,U⟩
 refine Zb _ ay (Zay 3 (fun f k=>h=k∧f 24=.b (((decide (v<0))||(decide ((l.length:Int)≤v)))||(decide (w<0)))∧f 0=v_l∧f 1=.n v∧f 2=.n d∧f 3=.n w∧f 4=.n o) ?_ ?_)
 ·rcases bc ((decide (v<0))||(decide ((l.length:Int)≤v))) with i|i
  ·refine Zs rfl i (Zs rfl i (Zc (Zc6 (w:=((decide (v<0))||(decide ((l.length:Int)≤v)))||(decide (w<0))) rfl i rfl) (Zo ?_)))
   exact ⟨rfl,rfl,R,S,T,D,U⟩
  ·refine Z6 rfl i (Zb _ D (Z6 rfl i (Zc (zV rfl rfl) (Zc (Zc7 rfl i rfl) (Zo ?_)))))
   exact ⟨rfl,rfl,R,S,T,D,U⟩
 rintro _ _ ⟨rfl,az,E,W,X,F,Y⟩
 refine Zb _ az (Zay 5 (fun f k=>h=k∧f 30=.b ((((decide (v<0))||(decide ((l.length:Int)≤v)))||(decide (w<0)))||(decide ((l.length:Int)≤w)))∧f 0=v_l∧f 1=.n v∧f 2=.n d∧f 3=.n w∧f 4=.n o) ?_ ?_)
 ·rcases bc (((decide (v<0))||(decide ((l.length:Int)≤v)))||(decide (w<0))) with e|e
  ·refine Zs rfl e (Zs rfl e (Zs rfl e (Zs rfl e (Zc (Zc6 (w:=(((decide (v<0))||(decide ((l.length:Int)≤v)))||(decide (w<0)))||(decide ((l.length:Int)≤w))) rfl e rfl) (Zo ?_)))))
   exact ⟨rfl,rfl,E,W,X,F,Y⟩
  ·refine Z6 rfl e (Zb _ F (Z6 rfl e (Zb _ E (Z6 rfl e (Zc (ZaC (hO.sl 0 rfl) rfl) (Z6 rfl e (Zc (Zds rfl rfl) (Zc (Zc7 rfl e rfl) (Zo ?_)))))))))
   exact ⟨rfl,rfl,E,W,X,F,Y⟩
 rintro _ _ ⟨rfl,aA,aa,I,ab,J,ac⟩
 refine Zb _ aA (Zay 4 (fun f k=>h=k∧f 35=.b (((((decide (v<0))||(decide ((l.length:Int)≤v)))||(decide (w<0)))||(decide ((l.length:Int)≤w)))||(decide (v=w)))∧f 0=v_l∧f 1=.n v∧f 2=.n d∧f 3=.n w∧f 4=.n o) ?_ ?_)
 ·rcases bc ((((decide (v<0))||(decide ((l.length:Int)≤v)))||(decide (w<0)))||(decide ((l.length:Int)≤w))) with g|g
  ·refine Zs rfl g (Zs rfl g (Zs rfl g (Zc (Zc6 (w:=((((decide (v<0))||(decide ((l.length:Int)≤v)))||(decide (w<0)))||(decide ((l.length:Int)≤w)))||(decide (v=w))) rfl g rfl) (Zo ?_))))
   exact ⟨rfl,rfl,aa,I,ab,J,ac⟩
  ·refine Z6 rfl g (Zb _ I (Z6 rfl g (Zb _ J (Z6 rfl g (Zc (ZbZ rfl rfl) (Zc (Zc7 rfl g rfl) (Zo ?_)))))))
   exact ⟨rfl,rfl,aa,I,ab,J,ac⟩
 rintro _ _ ⟨rfl,aB,ad,ae,K,af,ag⟩
 refine Zb _ aB (Zay 3 (fun f k=>h=k∧f 39=.b ((((((decide (v<0))||(decide ((l.length:Int)≤v)))||(decide (w<0)))||(decide ((l.length:Int)≤w)))||(decide (v=w)))||(decide (d<0)))∧f 0=v_l∧f 1=.n v∧f 2=.n d∧f 3=.n w∧f 4=.n o) ?_ ?_)
 ·rcases bc (((((decide (v<0))||(decide ((l.length:Int)≤v)))||(decide (w<0)))||(decide ((l.length:Int)≤w)))||(decide (v=w))) with j|j
  ·refine Zs rfl j (Zs rfl j (Zc (Zc6 (w:=(((((decide (v<0))||(decide ((l.length:Int)≤v)))||(decide (w<0)))||(decide ((l.length:Int)≤w)))||(decide (v=w)))||(decide (d<0))) rfl j rfl) (Zo ?_)))
   exact ⟨rfl,rfl,ad,ae,K,af,ag⟩
  ·refine Z6 rfl j (Zb _ K (Z6 rfl j (Zc (zV rfl rfl) (Zc (Zc7 rfl j rfl) (Zo ?_)))))
   exact ⟨rfl,rfl,ad,ae,K,af,ag⟩
 rintro _ _ ⟨rfl,aC,ah,ai,L,aj,ak⟩
 refine Zb _ aC (Zay 3 (fun f k=>h=k∧f 43=.b (((((((decide (v<0))||(decide ((l.length:Int)≤v)))||(decide (w<0)))||(decide ((l.length:Int)≤w)))||(decide (v=w)))||(decide (d<0)))||(decide (3<d)))∧f 0=v_l∧f 1=.n v∧f 2=.n d∧f 3=.n w∧f 4=.n o) ?_ ?_)
 ·rcases bc ((((((decide (v<0))||(decide ((l.length:Int)≤v)))||(decide (w<0)))||(decide ((l.length:Int)≤w)))||(decide (v=w)))||(decide (d<0))) with m|m
  ·refine Zs rfl m (Zs rfl m (Zc (Zc6 (w:=((((((decide (v<0))||(decide ((l.length:Int)≤v)))||(decide (w<0)))||(decide ((l.length:Int)≤w)))||(decide (v=w)))||(decide (d<0)))||(decide (3<d))) rfl m rfl) (Zo ?_)))
   exact ⟨rfl,rfl,ah,ai,L,aj,ak⟩
  ·refine Z6 rfl m (Zb _ L (Z6 rfl m (Zc (ZeU rfl rfl) (Zc (Zc7 rfl m rfl) (Zo ?_)))))
   exact ⟨rfl,rfl,ah,ai,L,aj,ak⟩
 rintro _ _ ⟨rfl,aD,al,am,an,ao,M⟩
 refine Zb _ aD (Zay 3 (fun f k=>h=k∧f 47=.b ((((((((decide (v<0))||(decide ((l.length:Int)≤v)))||(decide (w<0)))||(decide ((l.length:Int)≤w)))||(decide (v=w)))||(decide (d<0)))||(decide (3<d)))||(decide (o<(-2))))∧f 0=v_l∧f 1=.n v∧f 2=.n d∧f 3=.n w∧f 4=.n o) ?_ ?_)
 ·rcases bc (((((((decide (v<0))||(decide ((l.length:Int)≤v)))||(decide (w<0)))||(decide ((l.length:Int)≤w)))||(decide (v=w)))||(decide (d<0)))||(decide (3<d))) with p|p
  ·refine Zs rfl p (Zs rfl p (Zc (Zc6 (w:=(((((((decide (v<0))||(decide ((l.length:Int)≤v)))||(decide (w<0)))||(decide ((l.length:Int)≤w)))||(decide (v=w)))||(decide (d<0)))||(decide (3<d)))||(decide (o<(-2)))) rfl p rfl) (Zo ?_)))
   exact ⟨rfl,rfl,al,am,an,ao,M⟩
  ·refine Z6 rfl p (Zb _ M (Z6 rfl p (Zc (zV rfl rfl) (Zc (Zc7 rfl p rfl) (Zo ?_)))))
   exact ⟨rfl,rfl,al,am,an,ao,M⟩
 rintro _ _ ⟨rfl,aE,q,N,A,O,ap⟩
 refine Ze (zD hp aE (fun av hp=>?_) (fun av hp=>?_))
 ·refine Zj (Zb _ q (Zb v_l rfl (Zb (.n 2) rfl (Ze (zR (zl (zf (zj rfl (zj rfl ZF)) ?_)))))))
  cases hp
  exact ⟨v_l,rfl,(hO.pk [0])⟩
 ·refine Za3 (ZM (Zj (Zb _ q (Zb _ N (Zb _ A (ckk hp fun s hp=>Zc (ZW (hO.sl 0 rfl) rfl rfl s) (Zc (Za6 (hO.sl 0 rfl) (Zf s) rfl rfl) (ckk hp fun P hp=>Zc (Zbz (hO.sl 0 rfl) (Zf s) rfl rfl P rfl) (Zc (zt (hO.sl 0 rfl) rfl (Zf s) (zS P)) ?_)))))))))
  refine Zc (Zcv rfl rfl) (Zb (.b (!(decide (((gi l v.toNat).Next).get d=(-1))))) rfl ?_)
  obtain ⟨t,aM,hp⟩:=Za7 hp
  refine Zay 11 (fun f k=>h=k∧f 68=.b t∧f 0=v_l∧f 1=.n v∧f 2=.n d∧f 3=.n w∧f 4=.n o) ?_ ?_
  ·clear hp;rcases ZaW aM with ⟨a,hp⟩|⟨a,hp⟩
   ·refine Zs rfl a (Zs rfl a (Zs rfl a (Zs rfl a (Zs rfl a (Zs rfl a (Zs rfl a (Zs rfl a (Zs rfl a (Zs rfl a (Zc (ZaH (v:=.b t) rfl a (Eq.trans (b:=V.b true) rfl (congrArg V.b (Option.some.inj hp)))) (Zo ?_)))))))))))
    exact ⟨rfl,rfl,q,N,A,O,ap⟩
   ·refine Z6 rfl a (Zb _ q (Z6 rfl a (Zb _ O (Z6 rfl a (Zb _ A (Z6 rfl a (ckk hp fun aw hp=>Zc (zG rfl rfl aw) (Z6 rfl a (Zc (ZeF rfl rfl (by decide)) (Z6 rfl a (ckk hp fun y hp=>Zc (ZW (hO.sl 0 rfl) rfl rfl y) ?_)))))))))))
    refine Z6 rfl a (Zc (Za6 (hO.sl 0 rfl) (Zf y) rfl rfl) (Z6 rfl a (ckk hp fun Q hp=>Zc (Zbz (hO.sl 0 rfl) (Zf y) rfl rfl Q rfl) (Z6 rfl a (Zc (zt (hO.sl 0 rfl) rfl (Zf y) (zS Q)) (Z6 rfl a (Zc (Zcv rfl rfl) (Zc (Za0 (v:=.b t) rfl a (Eq.trans (b:=V.b (!(decide (((gi l w.toNat).Next).get ((d+2).tmod 4)=(-1))))) rfl (congrArg V.b (Option.some.inj hp)))) (Zo ?_)))))))))
    exact ⟨rfl,rfl,q,N,A,O,ap⟩
  rintro _ _ ⟨rfl,aJ,aq,aF,aG,aH,aI⟩
  refine Ze (zD hp aJ (fun au hp=>?_) (fun au hp=>?_))
  ·refine Zj (Zb _ aq (Zb v_l rfl (Zb (.n 9) rfl (Ze (zR (zl (zf (zj rfl (zj rfl ZF)) ?_)))))))
   cases hp
   exact ⟨v_l,rfl,(hO.pk [0])⟩
  ·refine Za3 (Zj (Zb _ aq (Zb _ aF (Zb _ aG (Zb _ aH (Zb _ aI ?_))))))
   obtain ⟨x,⟨_,_,ax,C,rfl,aL⟩,hp⟩:=bdk hp fun _=>Zah.ok (h:=h)  (hO.sl 0 rfl)
   refine Zan rfl rfl ax ?_
   have aK:=hO.call aL rfl
   refine Zb C rfl (Ze (Zj (Zb C rfl (Zb C rfl (Zb (.n 0) rfl (Ze (zR (zf (zj rfl (zj rfl ZF)) ?_))))))))
   cases hp
   exact ⟨C,rfl,(aK.pk [1])⟩

theorem ZcF.ok {h:Hp}{cells:List Za}{v_cells:V}(s_cells:Sl Zd h v_cells cells) {r:(List Za)×Int}(hp:ZcF cells=some r) :
  ∃ u k',Is G 268 [v_cells] h u k'∧∃ f,V.tu [f,.n r.2]=u∧Own (fun r=>r<h.n) h k' [eSl Zd f r.1]:=by
 refine WC.is (ZaB ZfA ?_)
 unfold ZcF at hp
 let B:Nat→Prop:=(fun r=>r<h.n)
 have hO:Own B h h []:=Own.start0 h
 refine Zj (Zb (.sn) rfl (Zb (.n 0) rfl (Ze (Zj (Zb v_cells rfl ?_)))))
 obtain ⟨⟨x,x1⟩,⟨_,e,l,b,i,rfl,s⟩,hp⟩:=bdk hp fun _=>Zbu.ok (h:=h)  (hO.rd0 s_cells.rd)
 refine Zan rfl rfl l ?_
 have d:=hO.call s rfl
 refine Zb (.tu [(if (x).isSome=true then V.p b 0 else V.pn),.n x1]) rfl (Zc (zM rfl rfl) (Zc (zM rfl rfl) (Zb ((if (x).isSome=true then V.p b 0 else V.pn)) rfl (Zb (.n x1) rfl (Ze (ZM (Zj (Zb (.n x1) rfl (Zc (Zcv rfl rfl) (Ze (zD hp rfl (fun k hp=>?_) (fun k hp=>?_))))))))))))
 ·refine Zj (Zb (.n x1) rfl (Zb (.sn) rfl (Zb (.n x1) rfl (Ze (zR (zl ?_))))))
  have o:=d.nil Zd
  refine zf (zj rfl (zj rfl ZF)) ?_
  cases hp
  exact ⟨V.sn,rfl,(o.pk [2])⟩
 ·refine Za3 (Zj (Zb ((if (x).isSome=true then V.p b 0 else V.pn)) rfl ?_))
  obtain ⟨g,a,hp⟩:=Za7 hp
  replace a:x=some g:=a
  have c:Own B h e [ZaF b [i],eSl Zd i g.cells]:=by have hq:=d;rw [a] at hq;exact hq
  obtain ⟨x2,⟨_,_,m,j,rfl,t⟩,hp⟩:=bdk hp fun _=>ZaR.ok (h:=e)  (c.box 0 rfl) (c.sl 1 rfl)
  refine Zan rfl (Zjo (unw a) ZhO) m ?_
  have q:=c.call t rfl
  refine Zb j rfl (Zb (.n 0) rfl (Ze (zR (zf (zj rfl (zj rfl ZF)) ?_))))
  cases hp
  exact ⟨j,rfl,(q.pk [2])⟩

theorem Zcp.ok {h:Hp}{cells:List Za}{v_cells:V}(s_cells:Sl Zd h v_cells cells) {r:Bool×Int}(hp:Zcp cells=some r) :
  ∃ u k',Is G 269 [v_cells] h u k'∧V.tu [.b r.1,.n r.2]=u∧Own (fun r=>r<h.n) h k' []:=by
 refine WC.is (ZaB ZdZ ?_)
 unfold Zcp at hp
 let B:Nat→Prop:=(fun r=>r<h.n)
 have hO:Own B h h []:=Own.start0 h
 refine Zj (Zb (.b false) rfl (Zb (.n 0) rfl (Ze (ZM (Zj (Zb v_cells rfl ?_))))))
 obtain ⟨x,⟨_,j,d,rfl,g⟩,hp⟩:=bdk hp fun _=>ZbX.ok (h:=h)  (hO.rd0 s_cells.rd)
 refine Zan rfl rfl d ?_
 have a:=hO.call g rfl
 refine Zb (.n x) rfl (Ze (Zj (Zb (.n x) rfl (Zc (Zcv rfl rfl) (Ze (zD hp rfl (fun c hp=>?_) (fun c hp=>?_)))))))
 ·refine Zj (Zb (.n x) rfl (Zb (.b false) rfl (Zb (.n x) rfl (Ze (zR (zl (zf (zj rfl (zj rfl ZF)) ?_)))))))
  cases hp
  exact ⟨rfl,(a.pk [])⟩
 ·refine Za3 (Zj (Zb v_cells rfl ?_))
  obtain ⟨⟨x1,x2,x3⟩,⟨_,_,e,rfl,i⟩,hp⟩:=bdk hp fun _=>ZaS.ok (h:=j)  (a.rd0 s_cells.rd)
  refine Zan rfl rfl e ?_
  have f:=a.call i rfl
  refine Zb (.tu [.n x1,.n x2,.b x3]) rfl (Zc (zM rfl rfl) (Zc (zM rfl rfl) (Zc (zM rfl rfl) (Zb (.n x1) rfl (Zb (.n x2) rfl (Zb (.b x3) rfl (Ze (Zj (Zb (.b x3) rfl (Zc (Zcl rfl) (Zb (.b (!x3)) rfl ?_)))))))))))
  refine Zb (.n 0) rfl (Ze (zR (zf (zj rfl (zj rfl ZF)) ?_)))
  cases hp
  exact ⟨rfl,(f.pk [])⟩

theorem Zbn.ok {h:Hp}    {r:Bool}(hp:Zbn =some r) :
  ∃ u k',Is G 264 [] h u k'∧V.b r=u∧Own (fun r=>r<h.n) h k' []:=by
 refine WC.is (ZaB ZdB ?_)
 unfold Zbn at hp
 let B:Nat→Prop:=(fun r=>r<h.n)
 have hO:Own B h h []:=Own.start0 h
 refine Zj (Zb (.b false) rfl (Ze (Zj ?_)))
 obtain ⟨x,⟨_,aw,W,T,rfl,ao⟩,hp⟩:=bdk hp fun _=>zu.ok (h:=h)  
 refine Zan rfl rfl W ?_
 have O:=hO.call ao rfl
 refine Zb T rfl (Ze (Zj (Zb T rfl ?_)))
 obtain ⟨⟨x1,x2⟩,⟨_,ax,X,m,rfl,ap⟩,hp⟩:=bdk hp fun _=>ZbA.ok (h:=aw) (l:=x) (v:=0) (d:=0) (w:=1) (o:=0) (O.toM [0] rfl (by decide)) 
 refine Zan rfl rfl X ?_
 have P:=(O.callM [0] [] rfl rfl (by decide) ap rfl).pick [900,0] rfl (by decide)
 refine Zb (.tu [m,.n x2]) rfl (Zc (zM rfl rfl) (Zc (zM rfl rfl) (Zb m rfl (Ze (Zj (Zb m rfl ?_))))))
 obtain ⟨⟨x3,x4⟩,⟨_,ay,Y,y,rfl,aq⟩,hp⟩:=bdk hp fun _=>ZcF.ok (h:=ax)  (P.sl 1 rfl)
 refine Zan rfl rfl Y ?_
 have Q:=P.call aq rfl
 refine Zb (.tu [y,.n x4]) rfl (Zc (zM rfl rfl) (Zc (zM rfl rfl) (Zb y rfl (Zb (.n x4) rfl (Ze (Zj (Zb m rfl ?_)))))))
 obtain ⟨⟨x5,x6⟩,⟨_,az,aa,q,rfl,ar⟩,hp⟩:=bdk hp fun _=>Zaf.ok (h:=ay)  (Q.sl 1 rfl)
 refine Zan rfl rfl aa ?_
 have R:=Q.call ar rfl
 refine Zb (.tu [q,.n x6]) rfl (Zc (zM rfl rfl) (Zc (zM rfl rfl) (Zb q rfl (Zb (.n x6) rfl (Ze (Zj (Zb q rfl ?_)))))))
 obtain ⟨⟨x7,x8⟩,⟨_,S,ab,rfl,au⟩,hp⟩:=bdk hp fun _=>Zcp.ok (h:=az)  (R.sl 3 rfl)
 refine Zan rfl rfl ab ?_
 have s:=R.call au rfl
 refine Zb (.tu [.b x7,.n x8]) rfl (Zc (zM rfl rfl) (Zc (zM rfl rfl) (Zb (.b x7) rfl (Zb (.n x8) rfl (Ze (Zj (Zb m rfl (ckk hp fun A hp=>Zc (Zkq (E:=Zd) (z:=1) (s.sl 1 rfl) rfl rfl A) ?_))))))))
 obtain ⟨⟨x9,x10⟩,⟨_,j,ac,U,rfl,av⟩,hp⟩:=bdk hp fun _=>ZcF.ok (h:=S)  (Sl.cutU (s.sl 1 rfl) A:Sl Zd S (V.cut m 0 (1:Int).toNat) (x1.take (1:Int).toNat))
 refine Zan rfl rfl ac ?_
 have t:=s.call av rfl
 refine Zb (.tu [U,.n x10]) rfl (Zc (zM rfl rfl) (Zc (zM rfl rfl) (Zb U rfl (Zb (.n x10) rfl (Ze (Zj (Zb (.n x4) rfl (Zc (ZbZ rfl rfl) (Zb (.b (decide (x4=0))) rfl (Zay 4 (fun f k=>j=k∧f 43=.b ((decide (x4=0))&&(decide ((x3.length:Int)=7)))∧f 4=q∧f 5=.n x6∧f 6=.b x7∧f 7=.n x8∧f 9=.n x10) ?_ ?_))))))))))
 ·rcases bc (decide (x4=0)) with a|a
  ·refine Z6 rfl a (Zb y rfl (Z6 rfl a (Zc (ZaC (t.sl 2 rfl) rfl) (Z6 rfl a (Zc (ZbZ rfl rfl) (Zc (Zel rfl a rfl) (Zo ?_)))))))
   exact ⟨rfl,rfl,rfl,rfl,rfl,rfl,rfl⟩
  ·refine Zs rfl a (Zs rfl a (Zs rfl a (Zc (Zek (w:=(decide (x4=0))&&(decide ((x3.length:Int)=7))) rfl a rfl) (Zo ?_))))
   exact ⟨rfl,rfl,rfl,rfl,rfl,rfl,rfl⟩
 rintro _ _ ⟨rfl,ad,C,ae,D,F,H⟩
 refine Zb _ ad (Zay 3 (fun f k=>j=k∧f 47=.b (((decide (x4=0))&&(decide ((x3.length:Int)=7)))&&(decide (x6=0)))∧f 4=q∧f 6=.b x7∧f 7=.n x8∧f 9=.n x10) ?_ ?_)
 ·rcases bc ((decide (x4=0))&&(decide ((x3.length:Int)=7))) with e|e
  ·refine Z6 rfl e (Zb _ ae (Z6 rfl e (Zc (ZbZ rfl rfl) (Zc (Zel rfl e rfl) (Zo ?_)))))
   exact ⟨rfl,rfl,C,D,F,H⟩
  ·refine Zs rfl e (Zs rfl e (Zc (Zek (w:=((decide (x4=0))&&(decide ((x3.length:Int)=7)))&&(decide (x6=0))) rfl e rfl) (Zo ?_)))
   exact ⟨rfl,rfl,C,D,F,H⟩
 rintro _ _ ⟨rfl,ag,af,I,J,K⟩
 refine Zb _ ag (Zay 4 (fun f k=>j=k∧f 52=.b ((((decide (x4=0))&&(decide ((x3.length:Int)=7)))&&(decide (x6=0)))&&(decide (7<(x5.length:Int))))∧f 6=.b x7∧f 7=.n x8∧f 9=.n x10) ?_ ?_)
 ·rcases bc (((decide (x4=0))&&(decide ((x3.length:Int)=7)))&&(decide (x6=0))) with c|c
  ·refine Z6 rfl c (Zb _ af (Z6 rfl c (Zc (ZaC (t.sl 3 rfl) rfl) (Z6 rfl c (Zc (ZeU rfl rfl) (Zc (Zel rfl c rfl) (Zo ?_)))))))
   exact ⟨rfl,rfl,I,J,K⟩
  ·refine Zs rfl c (Zs rfl c (Zs rfl c (Zc (Zek (w:=(((decide (x4=0))&&(decide ((x3.length:Int)=7)))&&(decide (x6=0)))&&(decide (7<(x5.length:Int)))) rfl c rfl) (Zo ?_))))
   exact ⟨rfl,rfl,I,J,K⟩
 rintro _ _ ⟨rfl,ah,ai,L,M⟩
 refine Zb _ ah (Zay 2 (fun f k=>j=k∧f 55=.b (((((decide (x4=0))&&(decide ((x3.length:Int)=7)))&&(decide (x6=0)))&&(decide (7<(x5.length:Int))))&&x7)∧f 7=.n x8∧f 9=.n x10) ?_ ?_)
 ·rcases bc ((((decide (x4=0))&&(decide ((x3.length:Int)=7)))&&(decide (x6=0)))&&(decide (7<(x5.length:Int)))) with p|p
  ·refine Z6 rfl p (Zb _ ai (Zc (Zel rfl p rfl) (Zo ?_)))
   exact ⟨rfl,rfl,L,M⟩
  ·refine Zs rfl p (Zc (Zek (w:=((((decide (x4=0))&&(decide ((x3.length:Int)=7)))&&(decide (x6=0)))&&(decide (7<(x5.length:Int))))&&x7) rfl p rfl) (Zo ?_))
   exact ⟨rfl,rfl,L,M⟩
 rintro _ _ ⟨rfl,aj,ak,N⟩
 refine Zb _ aj (Zay 3 (fun f k=>j=k∧f 59=.b ((((((decide (x4=0))&&(decide ((x3.length:Int)=7)))&&(decide (x6=0)))&&(decide (7<(x5.length:Int))))&&x7)&&(decide (x8=0)))∧f 9=.n x10) ?_ ?_)
 ·rcases bc (((((decide (x4=0))&&(decide ((x3.length:Int)=7)))&&(decide (x6=0)))&&(decide (7<(x5.length:Int))))&&x7) with g|g
  ·refine Z6 rfl g (Zb _ ak (Z6 rfl g (Zc (ZbZ rfl rfl) (Zc (Zel rfl g rfl) (Zo ?_)))))
   exact ⟨rfl,rfl,N⟩
  ·refine Zs rfl g (Zs rfl g (Zc (Zek (w:=(((((decide (x4=0))&&(decide ((x3.length:Int)=7)))&&(decide (x6=0)))&&(decide (7<(x5.length:Int))))&&x7)&&(decide (x8=0))) rfl g rfl) (Zo ?_)))
   exact ⟨rfl,rfl,N⟩
 rintro _ _ ⟨rfl,al,am⟩
 refine Zb _ al (Zay 3 (fun f k=>j=k∧f 63=.b (((((((decide (x4=0))&&(decide ((x3.length:Int)=7)))&&(decide (x6=0)))&&(decide (7<(x5.length:Int))))&&x7)&&(decide (x8=0)))&&(decide (x10=3)))) ?_ ?_)
 ·rcases bc ((((((decide (x4=0))&&(decide ((x3.length:Int)=7)))&&(decide (x6=0)))&&(decide (7<(x5.length:Int))))&&x7)&&(decide (x8=0))) with i|i
  ·refine Z6 rfl i (Zb _ am (Z6 rfl i (Zc (ZbZ rfl rfl) (Zc (Zel rfl i rfl) (Zo ?_)))))
   exact ⟨rfl,rfl⟩
  ·refine Zs rfl i (Zs rfl i (Zc (Zek (w:=((((((decide (x4=0))&&(decide ((x3.length:Int)=7)))&&(decide (x6=0)))&&(decide (7<(x5.length:Int))))&&x7)&&(decide (x8=0)))&&(decide (x10=3))) rfl i rfl) (Zo ?_)))
   exact ⟨rfl,rfl⟩
 rintro _ _ ⟨rfl,an⟩
 refine Zb _ an (Ze (zR (zf (zj rfl ZF) ?_)))
 cases hp
 exact ⟨rfl,(t.pk [])⟩

theorem Zai.ok {h:Hp}{l:List Za}{v:Int}{d:Int}{v_l:V}(s_l:Sl Zd h v_l l) {r:Int}(hp:Zai l v d=some r) :
  ∃ u k',Is G 150 [v_l,.n v,.n d] h u k'∧V.n r=u∧Own (fun r=>r<h.n) h k' []:=by
 refine WC.is (ZaB ZdC ?_)
 unfold Zai at hp
 let B:Nat→Prop:=(fun r=>r<h.n)
 have hO:Own B h h []:=Own.start0 h
 refine Zj (Zb (.n 0) rfl (Ze (ZM (Zj (Zb (.n 0) rfl (Ze (Za2 (Zci hp (fun|(v1,n),fr,k=>fr 0=v_l∧fr 1=.n v1∧fr 2=.n d∧fr 7=.n n∧Own B h k []) (fun|.inl _,e,fr,k=>e=(.exit 0)∧Own B h k []|.inr x,e,fr,k=>e=.ret∧fr 6=.n x∧Own B h k []) ⟨rfl,rfl,rfl,rfl,(hO.pk [])⟩ ?_ ?_))))))))
 ·rintro ⟨v1,n⟩ _ _ ⟨f,j,m,o,a⟩ _ hp
  dsimp only [Zai.s0] at hp
  refine ZM (Zj (Zb _ o (Zb _ f (Zc (ZaC (a.rd0 s_l.rd) rfl) (Zc (Zh3 rfl rfl) (Ze (zD hp rfl (fun p hp=>?_) (fun p hp=>?_))))))))
  ·refine Za3 (ZM (Za2 (Zj (Zb _ f (Zb _ j (Zb _ m (ckk hp fun s hp=>Zc (zG rfl rfl s) (Zc (ZeF rfl rfl (by decide)) (ckk hp fun b hp=>Zc (ZW (a.rd0 s_l.rd) rfl rfl b) ?_)))))))))
   refine Zc (Za6 (a.rd0 s_l.rd) (Zf b) rfl rfl) (ckk hp fun g hp=>Zc (Zbz (a.rd0 s_l.rd) (Zf b) rfl rfl g rfl) (Zc (zt (a.rd0 s_l.rd) rfl (Zf b) (zS g)) (Zb (.n (((gi l v1.toNat).Next).get ((d+2).tmod 4))) rfl (Ze (ZM (Zj (Zb (.n (((gi l v1.toNat).Next).get ((d+2).tmod 4))) rfl (Zc (zV rfl rfl) (Ze (zD hp rfl (fun q hp=>?_) (fun q hp=>?_)))))))))))
   ·refine Zj (Zb _ j (Zb (.n v1) rfl (Ze (zR (zl (Zbt (zl ?_)))))))
    cases hp
    exact ⟨nofun,rfl,rfl,(a.pk [])⟩
   ·refine Za3 (Zar (Zb (.n (((gi l v1.toNat).Next).get ((d+2).tmod 4))) rfl (Zb (.n (((gi l v1.toNat).Next).get ((d+2).tmod 4))) rfl (Zo (Zat (Zx (Zar (Zb _ o (ckk hp fun t hp=>Zc (zG rfl rfl t) (Zb (.n (n+1)) rfl (Zo ?_)))))))))))
    cases hp
    exact ⟨rfl,f,rfl,m,rfl,(a.pk [])⟩
  ·refine ZbU (Zas ?_)
   cases hp
   exact ⟨nofun,rfl,(a.pk [])⟩
 rintro (_|x) hp _ _ _ i
 ·obtain ⟨rfl,c⟩:=i
  refine Zbe (Zx (Zj (Zb (.n (-1)) rfl (Ze (zR (zf (zj rfl ZF) ?_))))))
  cases hp
  exact ⟨rfl,(c.pk [])⟩
 ·obtain ⟨rfl,w,c⟩:=i
  refine Zbt (zl (zf (zj w ZF) ?_))
  cases hp
  exact ⟨rfl,(c.pk [])⟩

theorem Z0.ok {h:Hp}{l:List Za}{d:Int}{v_l:V}(s_l:Sl Zd h v_l l) {r:(List Int)×(List (List Int))×Bool}(hp:Z0 l d=some r) :
  ∃ u k',Is G 138 [v_l,.n d] h u k'∧∃ aK aN aO,V.tu [aK,aN,.b r.2.2]=u∧Own (fun r=>r<h.n) h k' [eSl zo aK r.1,eSl eV aN aO,Zcy zo aO r.2.1]:=by
 refine WC.is (ZaB Zd0 ?_)
 unfold Z0 at hp
 let B:Nat→Prop:=(fun r=>r<h.n)
 have hO:Own B h h []:=Own.start0 h
 refine Zj (Zb (.sn) rfl (Zb (.sn) rfl (Zb (.b false) rfl (Ze (Zj (Zb v_l rfl (Zc (ZaC (hO.rd0 s_l.rd) rfl) (ckk hp fun aU hp=>Zaw (hO.mks (E:=zo) (y:=(0:Int)) (bytes:=8) (z:=(l.length:Int)) hO.fr rfl rfl rfl aU (by decide)) ?_))))))))
 rintro a _ ⟨_,_,a3⟩
 refine Zb a rfl (Ze (Zj (Zb (.sn) rfl (Ze (Zj (Zb (.sn) rfl (Ze (ZM ?_))))))))
 refine Zj (Zb (.n 0) rfl (Ze (Za2 ?_)))
 have bb:=a3.nil zo
 have bc:=bb.nil eV
 have bd:=bc.allNil zo 0
 refine Zci hp (fun|(at_,firsts,out,v),fr,k=>∃ m j i,fr 0=v_l∧fr 1=.n d∧fr 7=a∧fr 8=m∧fr 9=j∧fr 10=.n v∧Own B h k [eSl zo a at_,eSl zo m firsts,eSl eV j i,Zcy zo i out]) (fun|.inl (at_1,out1),e,fr,k=>e=(.exit 0)∧∃ C L,fr 7=a∧fr 9=C∧Own B h k [eSl zo a at_1,eSl eV C L,Zcy zo L out1]|.inr _,e,fr,k=>e=.ret∧fr 4=.sn∧fr 5=.sn∧fr 6=.b false∧Own B h k []) ⟨V.sn,V.sn,[],rfl,rfl,rfl,rfl,rfl,rfl,(bd.pk [0,1,2,3])⟩ ?_ ?_
 ·rintro ⟨at_,firsts,out,v⟩ _ bg ⟨m,j,i,R,aq,ar,bn,au,S,H⟩ _ hp
  dsimp only [Z0.s0] at hp
  refine ZM (Zj (Zb _ S (Zb _ R (Zc (ZaC (H.rd0 s_l.rd) rfl) (Zc (zV rfl rfl) (Ze (zD hp rfl (fun aP hp=>?_) (fun aP hp=>?_))))))))
  ·refine Za3 (ZM (Za2 (Zj (Zb _ R (Zb _ S (Zb _ aq ?_))))))
   obtain ⟨x,⟨_,_,a1,rfl,be⟩,hp⟩:=bdk hp fun _=>Zai.ok (h:=bg)  (H.rd0 s_l.rd)
   refine Zan rfl rfl a1 ?_
   have ao:=H.call be rfl
   refine Zb (.n x) rfl (Ze (ZM (Zj (Zb (.n x) rfl (Zc (zV rfl rfl) (Ze (zD hp rfl (fun aQ hp=>?_) (fun aQ hp=>?_))))))))
   ·refine Zj (Zb (.sn) rfl (Zb (.sn) rfl (Zb (.b false) rfl (Ze (zR (zl (Zbt (zl ?_))))))))
    cases hp
    exact ⟨nofun,rfl,rfl,rfl,rfl,(ao.pk [])⟩
   ·refine Za3 (Zj (Zb (.n 0) rfl (Ze (ZM (Za2 (Zci hp (fun k_ fr k=>fr 0=v_l∧fr 1=.n d∧fr 7=a∧fr 8=m∧fr 9=j∧fr 10=.n v∧fr 11=.n x∧fr 12=.n k_∧Own B h k [eSl zo a at_,eSl zo m firsts,eSl eV j i,Zcy zo i out]) (fun k_1 e fr k=>e=(.exit 2)∧fr 0=v_l∧fr 1=.n d∧fr 7=a∧fr 8=m∧fr 9=j∧fr 10=.n v∧fr 11=.n x∧fr 12=.n k_1∧Own B h k [eSl zo a at_,eSl zo m firsts,eSl eV j i,Zcy zo i out]) ⟨R,aq,ar,bn,au,S,rfl,rfl,(ao.pk [0,1,2,3])⟩ ?_ ?_))))))
    ·rintro k_ _ bh ⟨aA,aB,aD,J,aE,aC,X,I,A⟩ _ hp
     dsimp only [Z0.s1] at hp
     refine ZM (Zj (Zb _ I (Zb _ J (Zc (ZaC (A.sl 1 rfl) rfl) (Zc (zV rfl rfl) (Zb (.b (decide (k_<(firsts.length:Int)))) rfl ?_))))))
     obtain ⟨t,bf,hp⟩:=Za7 hp
     refine Zay 7 (fun f k=>bh=k∧f 41=.b t∧f 0=v_l∧f 1=.n d∧f 10=.n v∧f 11=.n x∧f 12=.n k_∧f 7=a∧f 8=m∧f 9=j) ?_ ?_
     ·clear hp;rcases ZaW bf with ⟨g,hp⟩|⟨g,hp⟩
      ·refine Z6 rfl g (Zb _ J (Z6 rfl g (Zb _ I (Z6 rfl g (ckk hp fun ac hp=>Zc (ZW (A.sl 1 rfl) rfl rfl ac) (Z6 rfl g (Zc (zt (A.sl 1 rfl) rfl (Zf ac) rfl) (Z6 rfl g (Zb _ X (Z6 rfl g (Zc (Zcv rfl rfl) (Zc (ZaH (v:=.b t) rfl g (Eq.trans (b:=V.b (!(decide (gi firsts k_.toNat=x)))) rfl (congrArg V.b (Option.some.inj hp)))) ?_))))))))))))
       refine Zo ?_
       exact ⟨rfl,rfl,aA,aB,aC,X,I,aD,J,aE⟩
      ·refine Zs rfl g (Zs rfl g (Zs rfl g (Zs rfl g (Zs rfl g (Zs rfl g (Zc (Za0 (v:=.b t) rfl g (Eq.trans (b:=V.b false) rfl (congrArg V.b (Option.some.inj hp)))) (Zo ?_)))))))
       exact ⟨rfl,rfl,aA,aB,aC,X,I,aD,J,aE⟩
     rintro _ _ ⟨rfl,a2,af,ag,ah,ai,aj,ak,al,am⟩
     refine Ze (zD hp a2 (fun aR hp=>?_) (fun aR hp=>?_))
     ·refine Za3 (Za2 (Zar (Zb _ aj (ckk hp fun aX hp=>Zc (zG rfl rfl aX) (Zb (.n (k_+1)) rfl (Zo (Zat ?_)))))))
      cases hp
      exact ⟨rfl,af,ag,ak,al,am,ah,ai,rfl,(A.pk [0,1,2,3])⟩
     ·refine ZbU (Zas ?_)
      cases hp
      exact ⟨nofun,rfl,af,ag,ak,al,am,ah,ai,aj,(A.pk [0,1,2,3])⟩
    rintro k_1 hp _ _ _ ⟨rfl,av,aw,U,W,az,T,ax,ay,ap⟩
    refine Zbe (Zx (Zj (Zb _ U (Zb _ T (Zb _ ay (ckk hp fun ad hp=>Zc (ZW (ap.sl 0 rfl) rfl rfl ad) (Zaw (ap.ste (y:=k_1) 0 rfl rfl (Zf ad) rfl rfl ⟨rfl,Nat.le_of_ble_eq_true rfl,rfl⟩ rfl) ?_)))))))
    rintro _ _ ⟨rfl,_,_,F⟩
    refine Ze (Zj (Zb _ ay (Zb _ W (Zc (ZaC (F.sl 1 rfl) rfl) (Zc (ZbZ rfl rfl) (Ze (zD hp rfl (fun aS hp=>?_) (fun aS hp=>?_))))))))
    ·refine Zj (Zb _ W (Zb _ ax (Zaw (F.bsl (E:=zo) (l:=[x]) F.fr (by rw [(zP (v:=.n x) rfl Zbs)];rfl) rfl) ?_)))
     rintro _ _ ⟨_,_,M⟩
     refine ckk hp fun aY hp=>Zaw (M.app (bytes:=8) 1 M.fr rfl (M.sl 4 rfl) rfl rfl (fun _=>rfl) aY (by decide)) ?_
     rintro p _ ⟨_,a4⟩
     refine Zb p rfl (Ze (Zj (Zb (.sn) rfl (Ze (ZM (Zj (Zb _ ax (Zb (.n x) rfl (Zo ?_)))))))))
     refine Zx (Za2 ?_)
     have a5:=a4.nil zo
     refine Zci hp (fun|(c,w),fr,k=>∃ K,fr 0=v_l∧fr 1=.n d∧fr 7=a∧fr 8=p∧fr 9=j∧fr 10=.n v∧fr 13=K∧fr 14=.n w∧Own B h k [eSl zo a (at_.set v.toNat k_1),eSl zo p (firsts++[x]),eSl eV j i,Zcy zo i out,eSl zo K c]) (fun c1 e fr k=>e=(.exit 4)∧∃ o,fr 0=v_l∧fr 1=.n d∧fr 7=a∧fr 8=p∧fr 9=j∧fr 10=.n v∧fr 13=o∧Own B h k [eSl zo a (at_.set v.toNat k_1),eSl zo p (firsts++[x]),eSl eV j i,Zcy zo i out,eSl zo o c1]) ⟨V.sn,av,aw,U,rfl,az,T,rfl,rfl,(a5.pk [0,1,2,3,5])⟩ ?_ ?_
     ·rintro ⟨c,w⟩ _ _ ⟨K,Y,aa,aH,aI,aJ,aF,aG,ab,O⟩ _ hp
      dsimp only [Z0.s2] at hp
      refine ZM (Zj (Zb _ ab (Zc (Zds rfl rfl) (Ze (zD hp rfl (fun aT hp=>?_) (fun aT hp=>?_))))))
      ·refine Za3 (ZM (Za2 (Zar (Zb _ aG (Zb _ ab (Zaw (O.bsl (E:=zo) (l:=[w]) O.fr (by rw [(zP (v:=.n w) rfl Zbs)];rfl) rfl) ?_))))))
       rintro _ _ ⟨_,_,P⟩
       refine ckk hp fun aZ hp=>Zaw (P.app (bytes:=8) 4 P.fr rfl (P.sl 5 rfl) rfl rfl (fun _=>rfl) aZ (by decide)) ?_
       rintro aL _ ⟨_,q⟩
       refine Zb aL rfl (Zo (Zat (Zx (Zar (Zb _ Y (Zb _ ab (Zb _ aa (ckk hp fun D hp=>Zc (ZW (q.rd0 s_l.rd) rfl rfl D) (Zc (Za6 (q.rd0 s_l.rd) (Zf D) rfl rfl) (ckk hp fun ae hp=>Zc (Zbz (q.rd0 s_l.rd) (Zf D) rfl rfl ae rfl) (Zc (zt (q.rd0 s_l.rd) rfl (Zf D) (zS ae)) ?_)))))))))))
       refine Zb (.n (((gi l w.toNat).Next).get d)) rfl (Zo ?_)
       cases hp
       exact ⟨rfl,aL,Y,aa,aH,aI,aJ,aF,rfl,rfl,(q.pk [0,1,2,3,4])⟩
      ·refine ZbU (Zas ?_)
       cases hp
       exact ⟨nofun,rfl,K,Y,aa,aH,aI,aJ,aF,aG,(O.pk [0,1,2,3,4])⟩
     rintro c1 hp _ _ _ ⟨rfl,o,bo,bp,bs,bt,bu,bq,br,N⟩
     refine Zbe (Zx (Zar (Zb _ bu (Zb _ br (Zaw (N.bsl (E:=eV) (l:=[o]) N.fr (by rw [(zP (v:=o) rfl Zbs)];simp only [fill,(N.sl 4 rfl).cells];simp [over]) rfl) ?_)))))
     rintro _ _ ⟨_,_,s⟩
     refine ckk hp fun a0 hp=>Zaw (s.appV (bytes:=24) 2 s.fr rfl (s.sl 5 rfl) rfl rfl (by simp only [List.all_cons,List.all_nil,Bool.and_true];exact (s.sl 4 rfl).oneV) (by rw [(s.allLen 3 rfl:(i).length=(out).length)];exact a0) (by decide)) ?_
     rintro aM _ ⟨_,a6⟩
     have a7:=a6.absorb 3 4 rfl rfl (by decide)
     refine Zb aM rfl (Zo (Zat (Zx (Zar (Zb _ bq (ckk hp fun aV hp=>Zc (zG rfl rfl aV) (Zb (.n (v+1)) rfl (Zo ?_))))))))
     cases hp
     exact ⟨rfl,p,aM,i++[o],bo,bp,bs,bt,rfl,rfl,(a7.pk [0,1,2,3])⟩
    ·refine Zc5 (Zat (Zx (Zar (Zb _ T (ckk hp fun aW hp=>Zc (zG rfl rfl aW) (Zb (.n (v+1)) rfl (Zo ?_)))))))
     cases hp
     exact ⟨rfl,m,j,i,av,aw,U,W,az,rfl,(F.pk [0,1,2,3])⟩
  ·refine ZbU (Zas ?_)
   cases hp
   exact ⟨nofun,rfl,j,i,ar,au,(H.pk [0,2,3])⟩
 rintro (⟨at_1,out1⟩|_) hp _ _ _ an
 ·obtain ⟨rfl,C,L,bl,bm,Q⟩:=an
  refine Zbe (Zx (Zj (Zb _ bl (Zb _ bm (Zb a rfl (Zb C rfl (Zb (.b true) rfl (Ze (zR (zf (zj rfl (zj rfl (zj rfl ZF))) ?_))))))))))
  cases hp
  exact ⟨a,C,L,rfl,(Q.pk [0,1,2])⟩
 ·obtain ⟨rfl,bi,bj,bk,Q⟩:=an
  refine Zbt (zl ?_)
  have a8:=Q.nil zo
  have a9:=a8.nil eV
  have ba:=a9.allNil zo 0
  refine zf (zj bi (zj bj (zj bk ZF))) ?_
  cases hp
  exact ⟨V.sn,V.sn,[],rfl,(ba.pk [0,1,2])⟩

theorem Zbc.ok {h:Hp}{l:List Za}{v_l:V}(s_l:Sl Zd h v_l l) {r:zh×Bool}(hp:Zbc l=some r) :
  ∃ u k',Is G 121 [v_l] h u k'∧∃ y A C E D F,V.tu [.ag [y,A,C,D],.b r.2]=u∧Own (fun r=>r<h.n) h k' [eSl zo y r.1.X,eSl zo A r.1.Y,eSl eV C E,Zcy zo E r.1.Vert,eSl eV D F,Zcy zo F r.1.Horz]:=by
 refine WC.is (ZaB Zew ?_)
 unfold Zbc at hp
 let B:Nat→Prop:=(fun r=>r<h.n)
 have hO:Own B h h []:=Own.start0 h
 refine Zj (Zaw (hO.alloc (cs:=[.sn,.sn,.sn,.sn]) hO.fr) ?_)
 rintro _ ab ⟨ad,rfl,_,_,o⟩
 refine Zb (.b false) rfl (Ze (Zj (Zb v_l rfl ?_)))
 obtain ⟨⟨x,x1,x2⟩,⟨_,ac,I,e,g,ae,rfl,W⟩,hp⟩:=bdk hp fun _=>Z0.ok (h:=ab)  (o.rd0 s_l.rd)
 refine Zan rfl rfl I ?_
 have t:=o.call W rfl
 refine Zb (.tu [e,g,.b x2]) rfl (Zc (zM rfl rfl) (Zc (zM rfl rfl) (Zc (zM rfl rfl) (Zb e rfl (Zb g rfl (Zb (.b x2) rfl (Ze (Zj (Zb v_l rfl ?_)))))))))
 obtain ⟨⟨x3,x4,x5⟩,⟨_,c,J,i,j,af,rfl,aa⟩,hp⟩:=bdk hp fun _=>Z0.ok (h:=ac)  (t.rd0 s_l.rd)
 refine Zan rfl rfl J ?_
 have a:=t.call aa rfl
 refine Zb (.tu [i,j,.b x5]) rfl (Zc (zM rfl rfl) (Zc (zM rfl rfl) (Zc (zM rfl rfl) (Zb i rfl (Zb j rfl (Zb (.b x5) rfl (Ze (ZM (Zj (Zb (.b x2) rfl (Zc (Zcl rfl) ?_)))))))))))
 refine Zb (.b (!x2)) rfl (Zay 3 (fun f k=>c=k∧f 27=.b ((!x2)||(!x5))∧f 2=.p ad 0∧f 4=e∧f 5=g∧f 7=i∧f 8=j) ?_ ?_)
 ·rcases bc (!x2) with d|d
  ·refine Zs rfl d (Zs rfl d (Zc (Zc6 (w:=(!x2)||(!x5)) rfl d rfl) (Zo ?_)))
   exact ⟨rfl,rfl,rfl,rfl,rfl,rfl,rfl⟩
  ·refine Z6 rfl d (Zb (.b x5) rfl (Z6 rfl d (Zc (Zcl rfl) (Zc (Zc7 rfl d rfl) (Zo ?_)))))
   exact ⟨rfl,rfl,rfl,rfl,rfl,rfl,rfl⟩
 rintro _ _ ⟨rfl,K,m,L,M,N,O⟩
 refine Ze (zD hp K (fun H hp=>?_) (fun H hp=>?_))
 ·refine Zj (Zc (ZcA (cs:=[.sn,.sn,.sn,.sn]) (by rw [Zbs];simp [fill,over,ZiN,ZiL,ZiM,ZiP,ZiK,ZiO,(Sl.nil:Sl zo c .sn ([]:List Int)).cells,(Sl.nil:Sl zo c .sn ([]:List Int)).cells,(Sl.nil:Sl eV c .sn []).cells,(Sl.nil:Sl eV c .sn []).cells])) (Zaw (a.stb (cs':=[.sn,.sn,.sn,.sn]) 0 rfl m rfl rfl ⟨rfl,Nat.le_of_ble_eq_true rfl,(all_cons (Sl.nil:Sl zo c .sn ([]:List Int)).oneV (all_cons (Sl.nil:Sl zo c .sn ([]:List Int)).oneV (all_cons (Sl.nil:Sl eV c .sn []).oneV (all_cons (Sl.nil:Sl eV c .sn []).oneV all_nil))))⟩ rfl) ?_))
  rintro _ _ ⟨rfl,_,_,P⟩
  refine Zb (.b false) rfl (Ze (zR (zl ?_)))
  have Q:=P.nil zo
  have R:=Q.nil zo
  have S:=R.nil eV
  have T:=S.allNil zo 0
  have U:=T.nil eV
  have q:=U.allNil zo 0
  refine zf (Zjz m (q.box 0 rfl) rfl (zj rfl ZF)) ?_
  cases hp
  exact ⟨V.sn,V.sn,V.sn,[],V.sn,[],rfl,(q.pk [7,8,9,10,11,12])⟩
 ·refine Za3 (Zj (Zb _ L (Zb _ N (Zb _ M (Zb _ O (Zc (ZcA (cs:=[e,i,g,j]) (by rw [(zP (v:=e) rfl (zP (v:=i) rfl (zP (v:=g) rfl (zP (v:=j) rfl Zbs))))];simp [fill,over,ZiN,ZiL,ZiM,ZiP,ZiK,ZiO,(a.sl 1 rfl).cells,(a.sl 4 rfl).cells,(a.sl 2 rfl).cells,(a.sl 5 rfl).cells])) (Zaw (a.stb (cs':=[e,i,g,j]) 0 rfl m rfl rfl ⟨rfl,Nat.le_of_ble_eq_true rfl,(all_cons (a.sl 1 rfl).oneV (all_cons (a.sl 4 rfl).oneV (all_cons (a.sl 2 rfl).oneV (all_cons (a.sl 5 rfl).oneV all_nil))))⟩ rfl) ?_)))))))
  rintro _ _ ⟨rfl,_,_,s⟩
  refine Zb (.b true) rfl (Ze (zR (zf (Zjz m (s.box 0 rfl) rfl (zj rfl ZF)) ?_)))
  cases hp
  exact ⟨e,i,g,ae,j,af,rfl,(s.pk [1,4,2,3,5,6])⟩

end Mu
