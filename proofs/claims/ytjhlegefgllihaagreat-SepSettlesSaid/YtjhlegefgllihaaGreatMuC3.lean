/- The code comes to what was worked out. -/
import Derived.Test.YtjhlegefgllihaaGreatMuDf
import Derived.Test.YtjhlegefgllihaaGreatMuPa
import Derived.Test.YtjhlegefgllihaaGreatMuTb
import Derived.Test.YtjhlegefgllihaaGreatMuC2
set_option linter.unusedVariables false
set_option linter.unnecessarySimpa false
set_option linter.unusedSimpArgs false
set_option maxHeartbeats 2000000
set_option maxRecDepth 10000
namespace Mu
open Go (IntKind BinOp UnOp)
section
attribute [local irreducible] W WO WD WF Ex.then Ex.blk act V.cut V.elt ck Option.bind Zn Fq Gq X Via Out At Keep Rd V.cells gi
theorem zp.ok{h:Hp}{cells:List Za}{d:Int}{v_cells:V}(s_cells:Sl Zh h v_cells cells){r:(List Int)×(List (List Int))×Bool}(hp:zp cells d=some r) :
  ∃u k',Is G 137 [v_cells,.n d] h u k'/\∃g i q,V.tu [g,i,.b r.2.2]=u/\Own (λr=>r<h.n) h k' [eSl Zm g r.1,eSl eV i q,Zx Zm q r.2.1]:=have e0:=hv Zm;have e1:=hv eV;have c0:=@zL.ok;have c1:=@ZaV.ok;have l0:=λa b c=>@Zbd _ _ (zp.s0 a b c) (λf=>[]) (λf w=>[.v (f 15),.v (f 7)]) (λO R f w x fr k=>match x with|(at_,l,x2)=>∃j s,At fr [(9,j),(23,V.n x2)]/\O k (eSl Zm (f 7) at_::eSl eV j s::Zx Zm s l::R)) (λO R f w x e fr k=>match x with|.inl (at_1,l1)=>e=(.exit 0)/\∃m t,At fr [(9,m)]/\O k (eSl Zm (f 7) at_1::eSl eV m t::Zx Zm t l1::R)|.inr _=>e=.ret/\At fr [(4,V.sn),(5,V.sn),(6,V.b false)]/\O k (R));have l1:=λa b=>@Zbd _ _ (zp.s1 a b) (λf=>[]) (λf w=>[]) (λO R f w x fr k=>match x with|(first,n)=>At fr [(11,V.n first),(12,V.n n)]/\O k (R)) (λO R f w x e fr k=>match x with|.inl first1=>e=(.exit 2)/\At fr [(11,V.n first1)]/\O k (R)|.inr _=>e=.ret/\At fr [(4,V.sn),(5,V.sn),(6,V.b false)]/\O k (R));have l2:=λa b c=>@Zbd _ _ (zp.s2 a b c) (λf=>[]) (λf w=>[.v (f 7)]) (λO R f w x fr k=>match x with|(at_2,chain,w)=>∃o,At fr [(13,o),(14,V.n w)]/\O k (eSl Zm (f 7) at_2::eSl Zm o chain::R)) (λO R f w x e fr k=>match x with|(at_3,chain1)=>e=(.exit 4)/\∃p,At fr [(13,p)]/\O k (eSl Zm (f 7) at_3::eSl Zm p chain1::R));au

theorem ZdG.ok{h:Hp}{cells:List Za}{v_cells:V}(s_cells:Sl Zh h v_cells cells){r:zR×Int}(hp:ZdG cells=some r) :
  ∃u k',Is G 120 [v_cells] h u k'/\∃a b c e d f,V.tu [.ag [a,b,c,d],.n r.2]=u/\Own (λr=>r<h.n) h k' [eSl Zm a r.1.X,eSl Zm b r.1.Y,eSl eV c e,Zx Zm e r.1.Vert,eSl eV d f,Zx Zm f r.1.Horz]:=have c0:=@zC.ok;have c1:=@zp.ok;au

theorem Zc4.ok{h:Hp}{owner:Int}   {r:Int}(hp:Zc4 owner=some r) :
  ∃u k',Is G 149 [.n owner] h u k'/\V.n r=u/\Own (λr=>r<h.n) h k' []:=au

theorem Zbq.ok{h:Hp}{cells:List Za}{d:Int}{of:List Int}{v_cells:V}{v_of:V}(s_cells:Sl Zh h v_cells cells)(s_of:Sl Zm h v_of of){r:(List Zb)}(hp:Zbq cells d of=some r) :
  ∃u k',Is G 144 [v_cells,.n d,v_of] h u k'/\∃g,g=u/\Own (λr=>r<h.n) h k' [eSl Zc g r]:=have e0:=hv Zc;have c0:=@Zc4.ok;have l0:=λa b c=>@Zbd _ _ (Zbq.s0 a b c) (λf=>[]) (λf w=>[]) (λO R f w x fr k=>match x with|(l,x)=>∃i,At fr [(7,i),(13,V.n x)]/\O k (eSl Zc i l::R)) (λO R f w l1 e fr k=>e=(.exit 0)/\∃j,At fr [(7,j)]/\O k (eSl Zc j l1::R));au

theorem Zdk.ok{h:Hp}{cells:List Za}{v_cells:V}(s_cells:Sl Zh h v_cells cells){r:Zak×Int}(hp:Zdk cells=some r) :
  ∃u k',Is G 129 [v_cells] h u k'/\∃a b c g d i e f,V.tu [.ag [a,b,c,d,e,f],.n r.2]=u/\Own (λr=>r<h.n) h k' [eSl Zm a r.1.Chains.X,eSl Zm b r.1.Chains.Y,eSl eV c g,Zx Zm g r.1.Chains.Vert,eSl eV d i,Zx Zm i r.1.Chains.Horz,eSl Zc e r.1.H,eSl Zc f r.1.V]:=have c0:=@ZdG.ok;have c1:=@Zbq.ok;au

theorem Za2.ok{h:Hp}{c:zR}{v_c_X:V}{v_c_Y:V}{v_c_Vert:V}{vs_c_Vert:List V}{v_c_Horz:V}{vs_c_Horz:List V}(s_c_X:Sl Zm h v_c_X c.X)(s_c_Y:Sl Zm h v_c_Y c.Y)(sN_c_Vert:Sl eV h v_c_Vert vs_c_Vert)(lN_c_Vert:vs_c_Vert.length=c.Vert.length)(iN_c_Vert:∀j,j<c.Vert.length->Sl Zm h (gi vs_c_Vert j) (gi c.Vert j))(sN_c_Horz:Sl eV h v_c_Horz vs_c_Horz)(lN_c_Horz:vs_c_Horz.length=c.Horz.length)(iN_c_Horz:∀j,j<c.Horz.length->Sl Zm h (gi vs_c_Horz j) (gi c.Horz j)){r:(List Zz)}(hp:Za2 c=some r) :
  ∃u k',Is G 209 [.ag [v_c_X,v_c_Y,v_c_Vert,v_c_Horz]] h u k'/\∃b,b=u/\Own (λr=>r<h.n) h k' [eSl Z0 b r]:=have e0:=hv Z0;have l0:=λa=>@Zbd _ _ (Za2.s0 a) (λf=>[]) (λf w=>[]) (λO R f w x fr k=>match x with|(l,x)=>∃d,At fr [(3,d),(11,V.n x)]/\O k (eSl Z0 d l::R)) (λO R f w l1 e fr k=>e=(.exit 0)/\∃g,At fr [(3,g)]/\O k (eSl Z0 g l1::R));have l1:=λa=>@Zbd _ _ (Za2.s1 a) (λf=>[]) (λf w=>[.r (rf (f 1)),.v (f 3)]) (λO R f w x fr k=>match x with|(l2,x1)=>∃i,At fr [(3,i),(28,V.n x1)]/\O k (eSl Z0 i l2::R)) (λO R f w l3 e fr k=>e=(.exit 2)/\∃m,At fr [(3,m)]/\O k (eSl Z0 m l3::R));au

end
theorem ZaX.ok{h:Hp}{n:Int}   {r:(Option zd)×Int}(hp:ZaX n=some r) :
  ∃u k',Is G 232 [.n n] h u k'/\∃Q R S,V.tu [(if(r.1).isSome=true then V.p Q 0 else V.pn),.n r.2]=u/\Own (λr=>r<h.n) h k' [eIf (r.1).isSome (Z3 Q [R]),eIf (r.1).isSome (eSl eV R S),eIf (r.1).isSome (Zx zz S ((r.1.getD default).rows))]:=by
 refine WC.is (Zde ?_);unfold ZaX at hp;let B:Nat->Prop:=(λr=>r<h.n);have hO:Own B h h []:=Own.start0 h;refine Z4 (Zg (.pn) rfl (Zg (.n 0) rfl (Zp (zw (Z4 (Zg (.n n) rfl (Ze (ZaH rfl rfl) (Zg (.b (decide (n<0))) rfl (Zcn 3 (λf k=>h=k/\f 11=.b ((decide (n<0))||(decide (4096<n)))/\f 0=.n n) ?_ ?_)))))))))
 .rcases bc (decide (n<0))with c|c
  .refine ZX rfl c (ZX rfl c (Ze (ZfN (w:=(decide (n<0))||(decide (4096<n))) rfl c rfl) (Z8 ?_)));exact⟨rfl,rfl,rfl⟩
  .refine zD rfl c (Zg (.n n) rfl (zD rfl c (Ze (Zlc rfl rfl) (Ze (ZfO rfl c rfl) (Z8 ?_)))));exact⟨rfl,rfl,rfl⟩
 rintro _ _ ⟨rfl,ag,K⟩;refine Zp (ZaC hp ag (λT hp=>?_) (λT hp=>?_))
 .refine Z4 (Zg (.pn) rfl (Zg (.n 2) rfl (Zp (Zcx (Zcp (Zby (Zcd rfl (Zcd rfl ZaF)) ?_))))));cases hp;exact⟨0,V.sn,[],rfl,(hO.pk [900,901,902])⟩
 .refine Zb8 (Z4 (Zg _ K (ckk hp λY hp=>zE (hO.mks (E:=eV) (y:=.sn) (bytes:=24) (z:=n) hO.fr rfl rfl rfl Y (by decide)) ?_)));rintro j al ⟨_,_,ah⟩;have H:=ah.allNil zz n.toNat
  refine Ze (Zbv (cs:=[j]) (by rw[(ZZ (v:=j) rfl Zas)];simp[fill,over,ZeF,ZeD,ZeE,ZeH,ZeC,ZeG,(H.sl 0 rfl:Sl eV al j (List.replicate n.toNat .sn)).cells])) (zE (H.boxd (cs:=[j]) H.fr rfl rfl) ?_);rintro _ am ⟨a,rfl,_,_,s⟩;refine Zg (.p a 0) rfl (Zp (zw (Z4 (Zg (.p a 0) rfl (Ze (Zcr rfl) (Ze (zm (r:=a) (o:=0) rfl rfl) (Ze (ZQ (s.box 2 rfl) rfl rfl) (Ze (Zgs (n:=((List.replicate n.toNat []:List (List Int))).length) (s.sl 0 rfl:Sl eV am j (List.replicate n.toNat .sn)) (s.allLen 1 rfl:((List.replicate n.toNat .sn)).length=((List.replicate n.toNat []:List (List Int))).length) rfl) (Zg (.n 0) rfl (Zp ?_))))))))));refine ZaB (Zcw hp (fun|(r_,x),fr,k=>∃l d,fr 0=.n n/\fr 4=.p a 0/\fr 20=.n ((List.replicate n.toNat []:List (List Int)).length:Int)/\fr 21=.n x/\Own B h k [Z3 a [l],eSl eV l d,Zx zz d r_]) (λr_1 e fr k=>e=(.exit 0)/\∃A D,fr 4=.p a 0/\Own B h k [Z3 a [A],eSl eV A D,Zx zz D r_1]) ⟨j,List.replicate n.toNat .sn,K,rfl,rfl,rfl,(s.pk [2,0,1])⟩ ?_ ?_)
  .rintro⟨r_,x⟩ _ M ⟨l,d,O,J,P,I,t⟩ _ hp;dsimp only[ZaX.s0]at hp;refine Z4 (Ze (ZaH I P) (Zp (zw (ZaC hp rfl (λU hp=>?_) (λU hp=>?_)))))
   .refine Zb8 (zw (ZaB (Z4 (Zg _ I (Zg (.n x) rfl (Zp (ZdQ ?_)))))));have L:=t.bump 12;have af:=Fresh.start M 12;have an:∀{i:Nat},h.n<=M.n+i:=Nat.le_trans t.n (Nat.le_add_right _ _);refine Za6 _ J (Z7 (Zcr rfl) (Z7 (zm (r:=a) (o:=0) rfl rfl) (Z7 (ZQ (L.box 0 rfl) rfl rfl) (Za6 (.n x) rfl (Za6 _ O (ckk hp λaa hp=>Z7 (Zam rfl rfl aa) (ckk hp λab hp=>Z7 (Zle rfl rfl ab) (ckk hp λac hp=>Z7 (Zld rfl rfl ac) (ckk hp λad hp=>ZcA (L.mks (E:=zz) (y:=(0:Int)) (bytes:=8) (z:=(((n+64)-1).tdiv 64)) ⟨af.m 9 (by decide) (by decide),an⟩ rfl rfl rfl ad (by decide)) ?_)))))))));rintro C N _ ⟨_,_,g⟩;refine ckk hp λF hp=>Z7 (Zaq (g.sl 1 rfl) rfl rfl (by rw[(g.allLen 2 rfl:(d).length=(r_).length)];exact F)) ?_;refine ZcA (g.ste (y:=C) 1 rfl rfl (by rw[(g.allLen 2 rfl:(d).length=(r_).length)];exact Zu F) rfl (g.sl 3 rfl:Sl zz N C (List.replicate (((n+64)-1).tdiv 64:Int).toNat (0:Int))).cells ⟨rfl,Nat.le_of_ble_eq_true rfl,(all_cons (g.sl 3 rfl:Sl zz N C (List.replicate (((n+64)-1).tdiv 64:Int).toNat (0:Int))).oneV rfl)⟩ rfl) ?_;rintro _ _ _ ⟨rfl,_,_,aj⟩;have ak:=aj.absorbAt (q:=x.toNat) 2 3 rfl rfl (by decide) (Zu F);refine Zbz ?_;refine And.intro ?_ ?_
    .intro q hq;simp only[List.mem_cons,List.not_mem_nil,or_false]at hq;rcases hq with rfl
     .refine ZP ?_ ?_
      .exact nofun
      .exact(λ_ hm=>Nat.lt_irrefl _ (Nat.lt_of_lt_of_le (t.ltAt 0 rfl _ (tch (Zbc hm) rfl)) (Nat.le_add_right _ _)))
    refine ZaI (ZC (Za5 (ckk hp λae hp=>Ze (Zam I rfl ae) (Zg (.n (x+1)) rfl (Z8 ?_)))));cases hp;exact⟨rfl,l,d.set x.toNat C,O,J,P,rfl,(ak.pk [0,1,2])⟩
   .refine ZbX (Zaz ?_);cases hp;exact⟨nofun,rfl,l,d,J,(t.pk [0,1,2])⟩
  rintro r_1 hp _ _ _ ⟨rfl,A,D,ao,ai⟩;refine ZaU (ZC (Z4 (Zg _ ao (Zg (.p a 0) rfl (Zg (.n 0) rfl (Zp (Zcx (Zby (Zcd rfl (Zcd rfl ZaF)) ?_))))))));cases hp;exact⟨a,A,D,rfl,(ai.pk [0,1,2])⟩

section
attribute [local irreducible] W WO WD WF Ex.then Ex.blk act V.cut V.elt ck Option.bind Zn Fq Gq X Via Out At Keep Rd V.cells gi
theorem Zat.ok{h:Hp}{r_:zd}{v:Int}{r_r_:Nat}{v_r__rows:V}{vs_r__rows:List V}{w_r_:Bool}(b_r_:h.m r_r_=some (.cells w_r_ [v_r__rows]))(sN_r__rows:Sl eV h v_r__rows vs_r__rows)(lN_r__rows:vs_r__rows.length=r_.rows.length)(iN_r__rows:∀j,j<r_.rows.length->Sl zz h (gi vs_r__rows j) (gi r_.rows j)){r:Bool}(hp:Zat r_ v=some r) :
  ∃u k',Is G 242 [.p r_r_ 0,.n v] h u k'/\V.b r=u/\Own (λr=>r<h.n) h k' []:=au

end
end Mu
