/- The code comes to what was worked out. -/
import Derived.Test.YtjhlegefgllihaaGreatMuDf
import Derived.Test.YtjhlegefgllihaaGreatMuPa
import Derived.Test.YtjhlegefgllihaaGreatMuTb
import Derived.Test.YtjhlegefgllihaaGreatMuC0
set_option linter.unusedVariables false
set_option linter.unnecessarySimpa false
set_option linter.unusedSimpArgs false
set_option maxHeartbeats 2000000
set_option maxRecDepth 10000
namespace Mu
open Go (IntKind BinOp UnOp)
section
attribute [local irreducible] W WO WD WF Ex.then Ex.blk act V.cut V.elt ck Option.bind Zn Fq Gq X Via Out At Keep Rd V.cells gi
theorem ZaV.ok{h:Hp}{d:Int}{times:Int}   {r:Int}(hp:ZaV d times=some r) :
  ∃u k',Is G 77 [.n d,.n times] h u k'/\V.n r=u/\Own (λr=>r<h.n) h k' []:=have c0:=@Zbm.ok;au

theorem Zdl.ok{h:Hp}{cells:List Za}{v:Int}{d:Int}{v_cells:V}(s_cells:Sl Zh h v_cells cells){r:Int}(hp:Zdl cells v d=some r) :
  ∃u k',Is G 82 [v_cells,.n v,.n d] h u k'/\V.n r=u/\Own (λr=>r<h.n) h k' []:=have c0:=@ZaV.ok;au

theorem zC.ok{h:Hp}{cells:List Za}{v_cells:V}(s_cells:Sl Zh h v_cells cells){r:Int}(hp:zC cells=some r) :
  ∃u k',Is G 66 [v_cells] h u k'/\V.n r=u/\Own (λr=>r<h.n) h k' []:=have c0:=@Zdl.ok;have l0:=λa=>@Zbd _ _ (zC.s0 a) (λf=>[]) (λf w=>[]) (λO R f w x fr k=>At fr [(11,V.n x)]/\O k (R)) (λO R f w x e fr k=>match x with|.inl _=>e=(.exit 0)/\At fr []/\O k (R)|.inr x1=>e=.ret/\At fr [(2,V.n x1)]/\O k (R));have l1:=λa b=>@Zbd _ _ (zC.s1 a b) (λf=>[]) (λf w=>[]) (λO R f w x2 fr k=>At fr [(14,V.n x2)]/\O k (R)) (λO R f w x e fr k=>match x with|.inl _=>e=(.exit 2)/\At fr []/\O k (R)|.inr x3=>e=.ret/\At fr [(2,V.n x3)]/\O k (R));au

theorem ZdU.ok{h:Hp}{x:Int}{y:Int}   {r:Int×Int}(hp:ZdU x y=some r) :
  ∃u k',Is G 98 [.i .u64 x,.i .u64 y] h u k'/\V.tu [.i .u64 r.1,.i .u64 r.2]=u/\Own (λr=>r<h.n) h k' []:=au

theorem Zd3.ok{h:Hp}{x:Int}{y:Int}   {r:Int×Int}(hp:Zd3 x y=some r) :
  ∃u k',Is G 89 [.i .u64 x,.i .u64 y] h u k'/\V.tu [.i .u64 r.1,.i .u64 r.2]=u/\Own (λr=>r<h.n) h k' []:=have c0:=@ZdU.ok;au

theorem zL.ok{h:Hp}{x:List Int}{count:Int}{v_x:V}(s_x:Sl Zm h v_x x){r:(List Int)}(hp:zL x count=some r) :
  ∃u k',Is G 83 [v_x,.n count] h u k'/\∃a,a=u/\Own (λr=>r<h.n) h k' [eSl Zm a r]:=have e0:=hv Zm;have c0:=@Zd3.ok;have l0:=@ZiA Unit (λf=>[]) (λf w=>[]) (λO R f w _ e fr k=>e=.normal/\At fr []/\O k (R));have l1:=@ZiA Unit (λf=>[]) (λf w=>[]) (λO R f w _ e fr k=>e=.normal/\At fr []/\O k (R));have l2:=@Zbd _ _ zL.s0 (λf=>[]) (λf w=>[.v (f 7)]) (λO R f w x fr k=>match x with|(newslice,n)=>At fr [(8,V.n n)]/\O k (eSl Zm (f 7) newslice::R)) (λO R f w newslice1 e fr k=>e=(.exit 0)/\At fr []/\O k (eSl Zm (f 7) newslice1::R));au

theorem Zar.ok{h:Hp}{cells:List Za}{v:Int}{v_cells:V}(s_cells:Sl Zh h v_cells cells){r:(List Int)×(List Int)}(hp:Zar cells v=some r) :
  ∃u k',Is G 67 [v_cells,.n v] h u k'/\∃c i,V.tu [c,i]=u/\Own (λr=>r<h.n) h k' [eSl Zm c r.1,eSl Zm i r.2]:=have e0:=hv Zm;have e1:=hv e_bool;have c0:=@zL.ok;have l0:=λa=>@Zbd _ _ (Zar.s0 a) (λf=>[]) (λf w=>[.v (f 13),.v (f 6),.v (f 17),.v (f 7),.v (f 8),.v (f 9)]) (λO R f w x fr k=>match x with|(from_,dir,l,met)=>∃j,At fr [(8,j)]/\O k (eSl Zm (f 6) from_::eSl Zm (f 7) dir::eSl Zm j l::eSl e_bool (f 9) met::R)) (λO R f w x e fr k=>match x with|(from_1,dir1)=>e=(.exit 0)/\At fr []/\O k (eSl Zm (f 6) from_1::eSl Zm (f 7) dir1::R));have l1:=λa b=>@Zbd _ _ (Zar.s1 a b) (λf=>[]) (λf w=>[.v (f 6),.v (f 7),.v (f 29),.v (f 9)]) (λO R f w x fr k=>match x with|(from_2,dir2,l1,met1,x2)=>∃d,At fr [(8,d),(37,V.n x2)]/\O k (eSl Zm (f 6) from_2::eSl Zm (f 7) dir2::eSl Zm d l1::eSl e_bool (f 9) met1::R)) (λO R f w x e fr k=>match x with|(from_3,dir3,l2,met2)=>e=(.exit 2)/\∃g,At fr [(8,g)]/\O k (eSl Zm (f 6) from_3::eSl Zm (f 7) dir3::eSl Zm g l2::eSl e_bool (f 9) met2::R));au

end
theorem Zap.ok{h:Hp}{cells:List Za}{v_cells:V}(s_cells:Sl Zh h v_cells cells){r:(List (List Int))×Int}(hp:Zap cells=some r) :
  ∃u k',Is G 29 [v_cells] h u k'/\∃ap aw,V.tu [ap,.n r.2]=u/\Own (λr=>r<h.n) h k' [eSl eV ap aw,Zx Zm aw r.1]:=by
 refine WC.is (Zde ?_);unfold Zap at hp;let B:Nat->Prop:=(λr=>r<h.n);have hO:Own B h h []:=Own.start0 h;refine Z4 (Zg (.sn) rfl (Zg (.n 0) rfl (Zp (zw (Z4 (Zg v_cells rfl ?_))))));obtain⟨x,⟨_,_,aJ,rfl,aU⟩,hp⟩:=bdk hp λ_=>zC.ok (h:=h)  (hO.rd0 s_cells.rd);refine Zcq rfl rfl aJ ?_;have w:=hO.call aU rfl;refine Zg (.n x) rfl (Zp (Z4 (Zg (.n x) rfl (Ze (Zf4 rfl rfl) (Zp (ZaC hp rfl (λax hp=>?_) (λax hp=>?_)))))))
 .refine Z4 (Zg (.n x) rfl (Zg (.sn) rfl (Zg (.n x) rfl (Zp (Zcx (Zcp ?_))))));have aP:=w.nil eV;have aQ:=aP.allNil Zm 0;refine Zby (Zcd rfl (Zcd rfl ZaF)) ?_;cases hp;exact⟨V.sn,[],rfl,(aQ.pk [0,1])⟩
 .refine Zb8 (Z4 (Zg (.sn) rfl (Zp (Z4 (Zg v_cells rfl (Ze (Za4 (w.rd0 s_cells.rd) rfl) (ckk hp λaC hp=>zE (w.mks (E:=e_bool) (y:=false) (bytes:=1) (z:=(cells.length:Int)) w.fr rfl rfl rfl aC (by decide)) ?_)))))));rintro g _ ⟨_,_,an⟩;refine Zg g rfl (Zp (zw (Z4 (Zg v_cells rfl (Ze (Za4 (an.rd0 s_cells.rd) rfl) (Zg (.n 0) rfl (Zp (ZaB ?_))))))));have aS:=an.nil eV;have aT:=aS.allNil Zm 0;refine Zcw hp (fun|(l,met,x1),fr,k=>∃d c,fr 0=v_cells/\fr 5=d/\fr 6=g/\fr 21=.n (cells.length:Int)/\fr 22=.n x1/\Own B h k [eSl eV d c,Zx Zm c l,eSl e_bool g met]) (λl1 e fr k=>e=(.exit 0)/\∃q F,fr 5=q/\Own B h k [eSl eV q F,Zx Zm F l1]) ⟨V.sn,[],rfl,rfl,rfl,rfl,rfl,(aT.pk [1,2,0])⟩ ?_ ?_
  .rintro⟨l,met,x1⟩ _ aX ⟨d,c,A,L,M,K,C,j⟩ _ hp;dsimp only[Zap.s0]at hp;refine Z4 (Ze (ZaH C K) (Zp (zw (ZaC hp rfl (λay hp=>?_) (λay hp=>?_)))))
   .refine Zb8 (zw (ZaB (Z4 (Zg _ C (Zg (.n x1) rfl (Zp (zw (Z4 (Zg _ M ?_)))))))));refine Zg (.n x1) rfl (ckk hp λX hp=>Ze (Zaq (j.sl 2 rfl) rfl rfl X) (Ze (Zbx (j.sl 2 rfl) rfl (Zu X) rfl) (Zp (ZaC hp rfl (λaz hp=>?_) (λaz hp=>?_)))))
    .refine ZbX (Zaz (ZaU (ZC (Za5 (ckk hp λaE hp=>Ze (Zam C rfl aE) (Zg (.n (x1+1)) rfl (Z8 ?_)))))));cases hp;exact⟨rfl,d,c,A,L,M,K,rfl,(j.pk [0,1,2])⟩
    .refine Zb8 (Z4 (Zg _ A (Zg (.n x1) rfl ?_)));obtain⟨⟨x2,x3⟩,⟨_,_,aK,au,s,rfl,aV⟩,hp⟩:=bdk hp λ_=>Zar.ok (h:=aX)  (j.rd0 s_cells.rd);refine Zcq rfl rfl aK ?_;have ao:=j.call aV rfl;refine Zg (.tu [au,s]) rfl (Ze (ZbV rfl rfl) (Ze (ZbV rfl rfl) (Zg au rfl (Zg s rfl (Zp (Z4 (zE (ao.bsl (E:=Zm) (l:=([]:List Int)) ao.fr (by rw[Zas];rfl) rfl) ?_)))))));rintro av _ ⟨_,_,al⟩;refine Zg av rfl (Zp (zw (Z4 (Zg _ A (Ze (Za4 (al.rd0 s_cells.rd) rfl) (Zg (.n 0) rfl (Zp (ZaB (Zcw hp (fun|(met1,part,x4),fr,k=>∃m,fr 0=v_cells/\fr 5=d/\fr 6=g/\fr 7=.n x1/\fr 9=s/\fr 10=m/\fr 21=.n (cells.length:Int)/\fr 22=.n x1/\fr 37=.n (cells.length:Int)/\fr 38=.n x4/\Own B h k [eSl eV d c,Zx Zm c l,eSl e_bool g met1,eSl Zm s x3,eSl Zm m part]) (fun|(met2,part1),e,fr,k=>e=(.exit 2)/\∃o,fr 0=v_cells/\fr 5=d/\fr 6=g/\fr 10=o/\fr 21=.n (cells.length:Int)/\fr 22=.n x1/\Own B h k [eSl eV d c,Zx Zm c l,eSl e_bool g met2,eSl Zm o part1]) ⟨av,A,L,M,rfl,rfl,rfl,K,C,rfl,rfl,(al.pk [0,1,2,4,5])⟩ ?_ ?_)))))))))
     .rintro⟨met1,part,x4⟩ _ aY ⟨m,N,S,T,U,W,O,P,Q,R,D,i⟩ _ hp;dsimp only[Zap.s1]at hp;refine Z4 (Ze (ZaH D R) (Zp (zw (ZaC hp rfl (λaA hp=>?_) (λaA hp=>?_)))))
      .refine Zb8 (zw (ZaB (Z4 (Zg _ D (Zg (.n x4) rfl (Zp (Z4 (Zg (.n x4) rfl (Zg _ U ?_)))))))));refine Ze (Zem rfl rfl) (Zg (.b (decide (x4=x1))) rfl ?_);obtain⟨t,aW,hp⟩:=ZbL hp;refine Zcn 6 (λf k=>aY=k/\f 50=.b t/\f 0=v_cells/\f 10=m/\f 11=.n x4/\f 21=.n (cells.length:Int)/\f 22=.n x1/\f 37=.n (cells.length:Int)/\f 38=.n x4/\f 5=d/\f 6=g/\f 7=.n x1/\f 9=s) ?_ ?_
       .clear hp;rcases Zd7 aW with⟨a,hp⟩|⟨a,hp⟩
        .refine ZX rfl a (ZX rfl a (ZX rfl a (ZX rfl a (ZX rfl a (Ze (Zc7 (v:=.b t) rfl a (Eq.trans (b:=V.b true) rfl (congrArg V.b (Option.some.inj hp)))) (Z8 ?_))))));exact⟨rfl,rfl,N,O,rfl,P,Q,R,D,S,T,U,W⟩
        .refine zD rfl a (Zg _ W (zD rfl a (Zg (.n x4) rfl (zD rfl a (ckk hp λY hp=>Ze (Zaq (i.sl 3 rfl) rfl rfl Y) (zD rfl a (Ze (Zbx (i.sl 3 rfl) rfl (Zu Y) rfl) (zD rfl a (Ze (Zlb rfl rfl) (Ze (Zci (v:=.b t) rfl a (Eq.trans (b:=V.b (decide (0<=(gi x3 x4.toNat)))) rfl (congrArg V.b (Option.some.inj hp)))) (Z8 ?_)))))))))));exact⟨rfl,rfl,N,O,rfl,P,Q,R,D,S,T,U,W⟩
       rintro _ _ ⟨rfl,aL,ab,ac,ad,ae,af,ag,ah,ai,H,aj,ak⟩;refine Zp (ZaC hp aL (λaB hp=>?_) (λaB hp=>?_))
       .refine Z4 (Zg _ H (Zg _ ad (ckk hp λaa hp=>Ze (Zaq (i.sl 2 rfl) rfl rfl aa) (zE (i.ste (y:=true) 2 rfl rfl (Zu aa) rfl rfl ⟨rfl,Nat.le_of_ble_eq_true rfl,rfl⟩ rfl) ?_))));rintro _ _ ⟨rfl,_,_,am⟩;refine Zp (Za5 (Zg _ ac (Zg _ ad (zE (am.bsl (E:=Zm) (l:=[x4]) am.fr (by rw[(ZZ (v:=.n x4) rfl Zas)];rfl) rfl) ?_))));rintro _ _ ⟨_,_,J⟩;refine ckk hp λaF hp=>zE (J.app (bytes:=8) 4 J.fr rfl (J.sl 5 rfl) rfl rfl (λ_=>rfl) aF (by decide)) ?_;rintro aq _ ⟨_,aM⟩;refine Zg aq rfl (Z8 (ZaI (ZC (Za5 (ckk hp λaG hp=>Ze (Zam ah rfl aG) (Zg (.n (x4+1)) rfl (Z8 ?_)))))));cases hp;exact⟨rfl,aq,ab,ai,H,aj,ak,rfl,ae,af,ag,rfl,(aM.pk [0,1,2,3,4])⟩
       .refine Zey (ZaI (ZC (Za5 (ckk hp λaH hp=>Ze (Zam ah rfl aH) (Zg (.n (x4+1)) rfl (Z8 ?_))))));cases hp;exact⟨rfl,m,ab,ai,H,aj,ak,ac,ae,af,ag,rfl,(i.pk [0,1,2,3,4])⟩
      .refine ZbX (Zaz ?_);cases hp;exact⟨nofun,rfl,m,N,S,T,O,P,Q,(i.pk [0,1,2,4])⟩
     rintro⟨met2,part1⟩ hp _ _ _ ⟨rfl,o,a0,a4,a5,a1,a2,a3,I⟩;refine ZaU (ZC (Za5 (Zg _ a4 (Zg _ a1 (zE (I.bsl (E:=eV) (l:=[o]) I.fr (by rw[(ZZ (v:=o) rfl Zas)];simp only[fill,(I.sl 3 rfl).cells];simp[over]) rfl) ?_)))));rintro _ _ ⟨_,_,p⟩;refine ckk hp λaI hp=>zE (p.appV (bytes:=24) 0 p.fr rfl (p.sl 4 rfl) rfl rfl (by simp only[List.all_cons,List.all_nil,Bool.and_true];exact(p.sl 3 rfl).oneV) (by rw[(p.allLen 1 rfl:(c).length=(l).length)];exact aI) (by decide)) ?_;rintro ar _ ⟨_,aN⟩;have aO:=aN.absorb 1 3 rfl rfl (by decide);refine Zg ar rfl (Z8 (ZaI (ZC (Za5 (ckk hp λaD hp=>Ze (Zam a3 rfl aD) (Zg (.n (x1+1)) rfl (Z8 ?_)))))));cases hp;exact⟨rfl,ar,c++[o],a0,rfl,a5,a2,rfl,(aO.pk [0,1,2])⟩
   .refine ZbX (Zaz ?_);cases hp;exact⟨nofun,rfl,d,c,L,(j.pk [0,1])⟩
  rintro l1 hp _ _ _ ⟨rfl,q,F,aZ,aR⟩;refine ZaU (ZC (Z4 (Zg _ aZ (Zg q rfl (Zg (.n 0) rfl (Zp (Zcx (Zby (Zcd rfl (Zcd rfl ZaF)) ?_))))))));cases hp;exact⟨q,F,rfl,(aR.pk [0,1])⟩

end Mu
