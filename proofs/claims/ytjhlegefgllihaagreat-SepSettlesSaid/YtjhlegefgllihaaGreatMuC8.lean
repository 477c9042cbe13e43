/- The code comes to what was worked out. -/
import Derived.Test.YtjhlegefgllihaaGreatMuDf
import Derived.Test.YtjhlegefgllihaaGreatMuPa
import Derived.Test.YtjhlegefgllihaaGreatMuTb
import Derived.Test.YtjhlegefgllihaaGreatMuC7
set_option linter.unusedVariables false
set_option linter.unnecessarySimpa false
set_option linter.unusedSimpArgs false
set_option maxHeartbeats 2000000
set_option maxRecDepth 10000
namespace Mu
open Go (IntKind BinOp UnOp)
section
attribute [local irreducible] W WO WD WF Ex.then Ex.blk act V.cut V.elt ck Option.bind Zn Fq Gq X Via Out At Keep Rd V.cells gi
theorem zT.ok{h:Hp}{t:List Int}{v_t:V}(s_t:Sl Zm h v_t t){r:Int}(hp:zT t=some r) :
  ∃u k',Is G 206 [v_t] h u k'/\V.n r=u/\Own (λr=>r<h.n) h k' []:=have l0:=λa=>@Zbd _ _ (zT.s0 a) (λf=>[]) (λf w=>[]) (λO R f w x fr k=>match x with|(n,i)=>At fr [(3,V.n n),(4,V.n i)]/\O k (R)) (λO R f w n1 e fr k=>e=(.exit 0)/\At fr [(3,V.n n1)]/\O k (R));au

theorem Zad.ok{h:Hp}{l:List Za}{v_l:V}(s_l:Sl Zh h v_l l){r:Int×Int}(hp:Zad l=some r) :
  ∃u k',Is G 181 [v_l] h u k'/\V.tu [.n r.1,.n r.2]=u/\Own (λr=>r<h.n) h k' []:=have c0:=@zc.ok;have c1:=@zj.ok;have c2:=@ZE.ok;have c3:=@Zan.ok;have c4:=@zT.ok;have l0:=λa b=>@Zbd _ _ (Zad.s0 a b) (λf=>[]) (λf w=>[.v (f 5),.a]) (λO R f w x fr k=>match x with|(at_,i)=>At fr [(7,V.n at_),(8,V.n i)]/\O k (R)) (λO R f w x e fr k=>match x with|.inl at_1=>e=(.exit 0)/\At fr [(7,V.n at_1)]/\O k (R)|.inr _=>e=.ret/\At fr [(2,V.n (-1)),(3,V.n 10)]/\O k (R));au

theorem Zae.ok{h:Hp}{l:List Za}{v:Int}{d:Int}{v_l:V}(s_l:Sl Zh h v_l l){r:Int}(hp:Zae l v d=some r) :
  ∃u k',Is G 150 [v_l,.n v,.n d] h u k'/\V.n r=u/\Own (λr=>r<h.n) h k' []:=have l0:=λa b=>@Zbd _ _ (Zae.s0 a b) (λf=>[]) (λf w=>[]) (λO R f w x fr k=>match x with|(v1,n)=>At fr [(1,V.n v1),(7,V.n n)]/\O k (R)) (λO R f w x e fr k=>match x with|.inl _=>e=(.exit 0)/\At fr []/\O k (R)|.inr x=>e=.ret/\At fr [(6,V.n x)]/\O k (R));au

theorem Z2.ok{h:Hp}{l:List Za}{d:Int}{v_l:V}(s_l:Sl Zh h v_l l){r:(List Int)×(List (List Int))×Bool}(hp:Z2 l d=some r) :
  ∃u k',Is G 138 [v_l,.n d] h u k'/\∃g j s,V.tu [g,j,.b r.2.2]=u/\Own (λr=>r<h.n) h k' [eSl Zm g r.1,eSl eV j s,Zx Zm s r.2.1]:=have e0:=hv Zm;have e1:=hv eV;have c0:=@Zae.ok;have l0:=λa b=>@Zbd _ _ (Z2.s0 a b) (λf=>[]) (λf w=>[.v (f 7)]) (λO R f w x fr k=>match x with|(at_,firsts,out,v)=>∃m o t,At fr [(8,m),(9,o),(10,V.n v)]/\O k (eSl Zm (f 7) at_::eSl Zm m firsts::eSl eV o t::Zx Zm t out::R)) (λO R f w x e fr k=>match x with|.inl (at_1,out1)=>e=(.exit 0)/\∃p y,At fr [(9,p)]/\O k (eSl Zm (f 7) at_1::eSl eV p y::Zx Zm y out1::R)|.inr _=>e=.ret/\At fr [(4,V.sn),(5,V.sn),(6,V.b false)]/\O k (R));have l1:=λa b=>@Zbd _ _ (Z2.s1 a b) (λf=>[]) (λf w=>[]) (λO R f w k_ fr k=>At fr [(12,V.n k_)]/\O k (R)) (λO R f w k_1 e fr k=>e=(.exit 2)/\At fr [(12,V.n k_1)]/\O k (R));have l2:=λa b=>@Zbd _ _ (Z2.s2 a b) (λf=>[]) (λf w=>[.v (f 54)]) (λO R f w x fr k=>match x with|(c,w)=>∃q,At fr [(13,q),(14,V.n w)]/\O k (eSl Zm q c::R)) (λO R f w c1 e fr k=>e=(.exit 4)/\∃i,At fr [(13,i)]/\O k (eSl Zm i c1::R));au

theorem Zbg.ok{h:Hp}{l:List Za}{v_l:V}(s_l:Sl Zh h v_l l){r:ZN×Bool}(hp:Zbg l=some r) :
  ∃u k',Is G 121 [v_l] h u k'/\∃a c d f e g,V.tu [.ag [a,c,d,e],.b r.2]=u/\Own (λr=>r<h.n) h k' [eSl Zm a r.1.X,eSl Zm c r.1.Y,eSl eV d f,Zx Zm f r.1.Vert,eSl eV e g,Zx Zm g r.1.Horz]:=have c0:=@Z2.ok;au

theorem zu.ok{h:Hp}{l:List Za}{d:Int}{of:List Int}{v_l:V}{v_of:V}(s_l:Sl Zh h v_l l)(s_of:Sl Zm h v_of of){r:(List Zb)}(hp:zu l d of=some r) :
  ∃u k',Is G 167 [v_l,.n d,v_of] h u k'/\∃g,g=u/\Own (λr=>r<h.n) h k' [eSl Zc g r]:=have e0:=hv Zc;have l0:=λa b c=>@Zbd _ _ (zu.s0 a b c) (λf=>[]) (λf w=>[]) (λO R f w x fr k=>match x with|(out,v)=>∃i,At fr [(7,i),(8,V.n v)]/\O k (eSl Zc i out::R)) (λO R f w out1 e fr k=>e=(.exit 0)/\∃j,At fr [(7,j)]/\O k (eSl Zc j out1::R));au

theorem zl.ok{h:Hp}{n:Int}{arcs:List (A2 Int)}{u_:Int}{v_arcs:V}(s_arcs:Sl Zl h v_arcs arcs){r:(List Bool)}(hp:zl n arcs u_=some r) :
  ∃u k',Is G 277 [.n n,v_arcs,.n u_] h u k'/\∃d,d=u/\Own (λr=>r<h.n) h k' [eSl e_bool d r]:=have e0:=hv e_bool;have l0:=λa b c=>@Zbd _ _ (zl.s0 a b c) (λf=>[]) (λf w=>[.v (f 7)]) (λO R f w x fr k=>match x with|(met,round)=>At fr [(8,V.n round)]/\O k (eSl e_bool (f 7) met::R)) (λO R f w met1 e fr k=>e=(.exit 0)/\At fr []/\O k (eSl e_bool (f 7) met1::R));have l1:=λa b=>@Zbd _ _ (zl.s1 a b) (λf=>[]) (λf w=>[.v (f 7)]) (λO R f w x fr k=>match x with|(met2,i)=>At fr [(9,V.n i)]/\O k (eSl e_bool (f 7) met2::R)) (λO R f w met3 e fr k=>e=(.exit 2)/\At fr []/\O k (eSl e_bool (f 7) met3::R));au

end
end Mu
