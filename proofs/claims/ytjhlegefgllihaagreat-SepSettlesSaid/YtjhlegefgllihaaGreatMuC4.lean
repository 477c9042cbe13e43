/- The code comes to what was worked out. -/
import Derived.Test.YtjhlegefgllihaaGreatMuDf
import Derived.Test.YtjhlegefgllihaaGreatMuPa
import Derived.Test.YtjhlegefgllihaaGreatMuTb
import Derived.Test.YtjhlegefgllihaaGreatMuC3
set_option linter.unusedVariables false
set_option linter.unnecessarySimpa false
set_option linter.unusedSimpArgs false
set_option maxHeartbeats 2000000
set_option maxRecDepth 10000
namespace Mu
open Go (IntKind BinOp UnOp)
section
attribute [local irreducible] W WO WD WF Ex.then Ex.blk act V.cut V.elt ck Option.bind Zn Fq Gq X Via Out At Keep Rd V.cells gi
theorem zH.ok{h:Hp}{r_:zd}{u_:Int}{v:Int}{r_r_:Nat}{v_r__rows:V}{vs_r__rows:List V}{w_r_:Bool}(b_r_:h.m r_r_=some (.cells w_r_ [v_r__rows]))(sN_r__rows:Sl eV h v_r__rows vs_r__rows)(lN_r__rows:vs_r__rows.length=r_.rows.length)(iN_r__rows:∀j,j<r_.rows.length->Sl zz h (gi vs_r__rows j) (gi r_.rows j)){r:Bool}(hp:zH r_ u_ v=some r) :
  ∃u k',Is G 243 [.p r_r_ 0,.n u_,.n v] h u k'/\V.b r=u/\Own (λr=>r<h.n) h k' []:=have c0:=@Zat.ok;au

end
theorem ZbB.ok{h:Hp}{s:List Int}{v_s:V}(s_s:Sl zz h v_s s){r:List Int}(hp:ZbB s=some r) :
  ∃u k',Is G 244 [v_s] h u k'/\∃v,v=u/\Own (λr=>r<h.n) h k' [eSl zz v r]:=by
 refine WC.is (Zde ?_);obtain⟨c1,hp⟩:=ZiK hp;cases hp;have hO:Own (λr=>r<h.n) h h []:=Own.start0 h;refine Z4 (Zg (.sn) rfl (Zp (zw (Z4 (Zg v_s rfl ?_)))));rcases Zr0 s_s with⟨rfl,rfl⟩|hn
 .refine Ze (v:=.b true) rfl (Zp (ZpZ rfl rfl (Z4 (Zg (.sn) rfl (Zp (Zcx (Zcp (Zby (Zcd rfl ZaF) ?_))))))));exact⟨.sn,rfl,hO.nil zz⟩
 .refine Ze (Zsz (v:=v_s) hn rfl rfl) (Zp (ZpY rfl rfl (Zb8 (Z4 (zE (hO.bsl (E:=zz) (l:=[]) hO.fr rfl rfl) ?_)))));rintro v1 k1 ⟨r1,f1,hW⟩;have hO1:Own (λr=>r<h.n) h k1 [eSl zz v1 []]:=hW;refine Zg v_s rfl (zE (hO1.app (bytes:=8) 0 hO1.fr rfl (hO1.rd0 s_s.rd) rfl rfl (λ_=>rfl) (by simpa using c1) (by decide)) ?_);rintro v2 k2 ⟨f2,hW⟩;have hO2:Own (λr=>r<h.n) h k2 [eSl zz v2 ([]++s)]:=hW;refine Zg v2 rfl (Zp (Zcx (Zby (Zcd rfl ZaF) ?_)));exact⟨v2,rfl,hO2⟩

section
attribute [local irreducible] W WO WD WF Ex.then Ex.blk act V.cut V.elt ck Option.bind Zn Fq Gq X Via Out At Keep Rd V.cells gi
theorem ZS.ok{h:Hp}{r_:zd}{u_:Int}{v:Int}{r_r_:Nat}{v_r__rows:V}{vs_r__rows:List V}(H:Own (Bm h [Z3 r_r_ [v_r__rows],eSl eV v_r__rows vs_r__rows,Zx zz vs_r__rows r_.rows]) h h [Z3 r_r_ [v_r__rows],eSl eV v_r__rows vs_r__rows,Zx zz vs_r__rows r_.rows]){r:Int×zd}(hp:ZS r_ u_ v=some r) :
  ∃u k',Is G 233 [.p r_r_ 0,.n u_,.n v] h u k'/\∃g o,V.n r.1=u/\Own (Bm h [Z3 r_r_ [v_r__rows],eSl eV v_r__rows vs_r__rows,Zx zz vs_r__rows r_.rows]) h k' [Z3 r_r_ [g],eSl eV g o,Zx zz o r.2.rows]:=have c0:=@Zat.ok;have c1:=@zH.ok;have c2:=@ZbB.ok;have l0:=λa b c d=>@Zbd _ _ (ZS.s0 a b c d) (λf=>[]) (λf w=>[.r r_r_,.v v_r__rows,.a]) (λO R f w x fr k=>match x with|(r_1,x4)=>∃i q,At fr [(53,V.n x4)]/\O k (Z3 r_r_ [i]::eSl eV i q::Zx zz q r_1::R)) (λO R f w p0 e fr k=>e=(.exit 1)/\∃j s,At fr []/\O k (Z3 r_r_ [j]::eSl eV j s::Zx zz s p0::R));have l1:=λa b c=>@Zbd _ _ (ZS.s1 a b c) (λf=>[.c r_r_ 0]) (λf w=>[.r r_r_,.v (vN w 0),.a]) (λO R f w x fr k=>match x with|(r_2,x6)=>∃l t,At fr [(68,V.n x6)]/\O k (Z3 r_r_ [l]::eSl eV l t::Zx zz t r_2::R)) (λO R f w r_3 e fr k=>e=(.exit 3)/\∃m y,At fr []/\O k (Z3 r_r_ [m]::eSl eV m y::Zx zz y r_3::R));aw

theorem ZaD.ok{h:Hp}{B0:Nat->Prop}{h0:Hp}{c:zR}{vertical:Bool}{i:Int}{v_c_X:V}{v_c_Y:V}{v_c_Vert:V}{vs_c_Vert:List V}{v_c_Horz:V}{vs_c_Horz:List V}(HO:Own B0 h0 h [])(S_c_X:Rd B0 h0 Zm v_c_X c.X)(S_c_Y:Rd B0 h0 Zm v_c_Y c.Y)(SN_c_Vert:Rd B0 h0 eV v_c_Vert vs_c_Vert)(lN_c_Vert:vs_c_Vert.length=c.Vert.length)(IN_c_Vert:∀j,j<c.Vert.length->Rd B0 h0 Zm (gi vs_c_Vert j) (gi c.Vert j))(SN_c_Horz:Rd B0 h0 eV v_c_Horz vs_c_Horz)(lN_c_Horz:vs_c_Horz.length=c.Horz.length)(IN_c_Horz:∀j,j<c.Horz.length->Rd B0 h0 Zm (gi vs_c_Horz j) (gi c.Horz j)){r:(List Int)}(hp:ZaD c vertical i=some r) :
  ∃u k',Is G 140 [.ag [v_c_X,v_c_Y,v_c_Vert,v_c_Horz],.b vertical,.n i] h u k'/\∃d,d=u/\Rd B0 h0 Zm d r/\Own (λr=>r<h.n) h k' []:=have l0:=@ZiA (List (List Int)) (λf=>[]) (λf w=>[.r (rf (f 3))]) (λO R f w l e fr k=>e=.normal/\∃g a,At fr [(7,g)]/\Rd B0 h0 eV g a/\a.length=l.length/\(∀j,j<l.length->Rd B0 h0 Zm (gi a j) (gi l j))/\O k (R));au

theorem Zck.ok{h:Hp}{c:zR}{vertical:Bool}{i:Int}{v_c_X:V}{v_c_Y:V}{v_c_Vert:V}{vs_c_Vert:List V}{v_c_Horz:V}{vs_c_Horz:List V}(s_c_X:Sl Zm h v_c_X c.X)(s_c_Y:Sl Zm h v_c_Y c.Y)(sN_c_Vert:Sl eV h v_c_Vert vs_c_Vert)(lN_c_Vert:vs_c_Vert.length=c.Vert.length)(iN_c_Vert:∀j,j<c.Vert.length->Sl Zm h (gi vs_c_Vert j) (gi c.Vert j))(sN_c_Horz:Sl eV h v_c_Horz vs_c_Horz)(lN_c_Horz:vs_c_Horz.length=c.Horz.length)(iN_c_Horz:∀j,j<c.Horz.length->Sl Zm h (gi vs_c_Horz j) (gi c.Horz j)){r:Int×Int}(hp:Zck c vertical i=some r) :
  ∃u k',Is G 126 [.ag [v_c_X,v_c_Y,v_c_Vert,v_c_Horz],.b vertical,.n i] h u k'/\V.tu [.n r.1,.n r.2]=u/\Own (λr=>r<h.n) h k' []:=have c0:=@ZaD.ok;have l0:=@ZiA (List Int) (λf=>[]) (λf w=>[.r (rf (f 3))]) (λO R f w of e fr k=>e=.normal/\∃a,At fr [(9,a)]/\Rd (λr=>r<h.n) h Zm a of/\O k (R));au

theorem Ze4.ok{h:Hp}{c:zR}{l:Zz}{v_c_X:V}{v_c_Y:V}{v_c_Vert:V}{vs_c_Vert:List V}{v_c_Horz:V}{vs_c_Horz:List V}(s_c_X:Sl Zm h v_c_X c.X)(s_c_Y:Sl Zm h v_c_Y c.Y)(sN_c_Vert:Sl eV h v_c_Vert vs_c_Vert)(lN_c_Vert:vs_c_Vert.length=c.Vert.length)(iN_c_Vert:∀j,j<c.Vert.length->Sl Zm h (gi vs_c_Vert j) (gi c.Vert j))(sN_c_Horz:Sl eV h v_c_Horz vs_c_Horz)(lN_c_Horz:vs_c_Horz.length=c.Horz.length)(iN_c_Horz:∀j,j<c.Horz.length->Sl Zm h (gi vs_c_Horz j) (gi c.Horz j)){r:zM}(hp:Ze4 c l=some r) :
  ∃u k',Is G 234 [.ag [v_c_X,v_c_Y,v_c_Vert,v_c_Horz],.ag (Z0.c l)] h u k'/\V.ag (ZD.c r)=u/\Own (λr=>r<h.n) h k' []:=have c0:=@Zck.ok;au

theorem zV.ok{h:Hp}{s:List Int}{f:Int->Option Bool}{v_s:V}{id_f:Nat}{cap_f:List V}(s_s:Sl Zm h v_s s)(f_f:∀(k:Hp)(x0:Int)(y:Bool),Ex' (λr=>r<h.n) h k->f x0=some y->∃u k',IsF G id_f [.n x0] cap_f k u k'/\V.b y=u/\Own (λr=>r<k.n) k k' []){r:Int}(hp:zV s f=some r) :
  ∃u k',Is G 91 [v_s,.f id_f cap_f] h u k'/\V.n r=u/\Own (λr=>r<h.n) h k' []:=have f0:=f_f;have l0:=λa b=>@Zbd _ _ (zV.s0 a b) (λf=>[]) (λf w=>[]) (λO R f w x fr k=>At fr [(8,V.n x)]/\O k (R)) (λO R f w x e fr k=>match x with|.inl _=>e=(.exit 0)/\At fr []/\O k (R)|.inr x1=>e=.ret/\At fr [(4,V.n x1)]/\O k (R));au

theorem ZaA.ok{h:Hp}{s:List Int}{f:Int->Option Bool}{v_s:V}{id_f:Nat}{cap_f:List V}(s_s:Sl Zm h v_s s)(f_f:∀(k:Hp)(x0:Int)(y:Bool),Ex' (λr=>r<h.n) h k->f x0=some y->∃u k',IsF G id_f [.n x0] cap_f k u k'/\V.b y=u/\Own (λr=>r<k.n) k k' []){r:Bool}(hp:ZaA s f=some r) :
  ∃u k',Is G 78 [v_s,.f id_f cap_f] h u k'/\V.b r=u/\Own (λr=>r<h.n) h k' []:=have f0:=f_f;have c0:=@zV.ok;au

end
end Mu
