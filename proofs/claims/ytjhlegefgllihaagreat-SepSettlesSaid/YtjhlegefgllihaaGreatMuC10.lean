/- The code comes to what was worked out. -/
import Derived.Test.YtjhlegefgllihaaGreatMuDf
import Derived.Test.YtjhlegefgllihaaGreatMuPa
import Derived.Test.YtjhlegefgllihaaGreatMuTb
import Derived.Test.YtjhlegefgllihaaGreatMuC9
set_option linter.unusedVariables false
set_option linter.unnecessarySimpa false
set_option linter.unusedSimpArgs false
set_option maxHeartbeats 20000000
set_option maxRecDepth 10000
namespace Mu
open Go (IntKind BinOp UnOp)
section
attribute [local irreducible] W WO WD WF Ex.then Ex.blk act V.cut V.elt ck Option.bind Zn Fq Gq X Via Out At Keep Rd V.cells gi
theorem ZG.ok{h:Hp}{slices:List (List Zb)}{v_slices:V}{vs_slices:List V}(sN_slices:Sl eV h v_slices vs_slices)(lN_slices:vs_slices.length=slices.length)(iN_slices:∀j,j<slices.length->Sl Zc h (gi vs_slices j) (gi slices j)){r:(List Zb)}(hp:ZG slices=some r) :
  ∃u k',Is G 294 [v_slices] h u k'/\∃b,b=u/\Own (λr=>r<h.n) h k' [eSl Zc b r]:=have c0:=@Zax.ok;have l0:=λa=>@Zbd _ _ (ZG.s0 a) (λf=>[]) (λf w=>[]) (λO R f w x fr k=>match x with|(size,x)=>At fr [(3,V.n size),(11,V.n x)]/\O k (R)) (λO R f w size1 e fr k=>e=(.exit 0)/\At fr [(3,V.n size1)]/\O k (R));have l1:=λa=>@Zbd _ _ (ZG.s1 a) (λf=>[]) (λf w=>[.v (f 6)]) (λO R f w x fr k=>match x with|(newslice,x2)=>∃c,At fr [(6,c),(27,V.n x2)]/\O k (eSl Zc c newslice::R)) (λO R f w newslice1 e fr k=>e=(.exit 2)/\∃d,At fr [(6,d)]/\O k (eSl Zc d newslice1::R));au

theorem zJ.ok{h:Hp}{l:List Zb}{v_l:V}(s_l:Sl Zc h v_l l){r:(List (A2 Int))}(hp:zJ l=some r) :
  ∃u k',Is G 272 [v_l] h u k'/\∃b,b=u/\Own (λr=>r<h.n) h k' [eSl Zl b r]:=have e0:=hv Zl;have l0:=λa=>@Zbd _ _ (zJ.s0 a) (λf=>[]) (λf w=>[]) (λO R f w x fr k=>match x with|(out,x)=>∃c,At fr [(3,c),(8,V.n x)]/\O k (eSl Zl c out::R)) (λO R f w out1 e fr k=>e=(.exit 0)/\∃d,At fr [(3,d)]/\O k (eSl Zl d out1::R));au

theorem zF.ok{h:Hp}{s1:List (List Bool)}{s2:List (List Bool)}{eq:(List Bool)->(List Bool)->Option Bool}{v_s1:V}{vs_s1:List V}{v_s2:V}{vs_s2:List V}{id_eq:Nat}{cap_eq:List V}(sN_s1:Sl eV h v_s1 vs_s1)(lN_s1:vs_s1.length=s1.length)(iN_s1:∀j,j<s1.length->Sl e_bool h (gi vs_s1 j) (gi s1 j))(sN_s2:Sl eV h v_s2 vs_s2)(lN_s2:vs_s2.length=s2.length)(iN_s2:∀j,j<s2.length->Sl e_bool h (gi vs_s2 j) (gi s2 j))(f_eq:∀(k:Hp)(x0:List Bool)(w0:V)(x1:List Bool)(w1:V)(y:Bool),Ex' (λr=>r<h.n) h k->Sl e_bool k w0 x0->Sl e_bool k w1 x1->eq x0 x1=some y->∃u k',IsF G id_eq [w0,w1] cap_eq k u k'/\V.b y=u/\Own (λr=>r<k.n) k k' []){r:Bool}(hp:zF s1 s2 eq=some r) :
  ∃u k',Is G 296 [v_s1,v_s2,.f id_eq cap_eq] h u k'/\V.b r=u/\Own (λr=>r<h.n) h k' []:=have f0:=f_eq;have l0:=λa b c=>@Zbd _ _ (zF.s0 a b c) (λf=>[]) (λf w=>[]) (λO R f w x fr k=>At fr [(17,V.n x)]/\O k (R)) (λO R f w x e fr k=>match x with|.inl _=>e=(.exit 0)/\At fr []/\O k (R)|.inr _=>e=.ret/\At fr [(6,V.b false)]/\O k (R));au

theorem zW.ok{h:Hp}{s1:List Bool}{s2:List Bool}{v_s1:V}{v_s2:V}(s_s1:Sl e_bool h v_s1 s1)(s_s2:Sl e_bool h v_s2 s2){r:Bool}(hp:zW s1 s2=some r) :
  ∃u k',Is G 297 [v_s1,v_s2] h u k'/\V.b r=u/\Own (λr=>r<h.n) h k' []:=have l0:=λa b=>@Zbd _ _ (zW.s0 a b) (λf=>[]) (λf w=>[]) (λO R f w x fr k=>At fr [(13,V.n x)]/\O k (R)) (λO R f w x e fr k=>match x with|.inl _=>e=(.exit 0)/\At fr []/\O k (R)|.inr _=>e=.ret/\At fr [(4,V.b false)]/\O k (R));au

theorem Za9.ok{h:Hp}{a:List (List Bool)}{b:List (List Bool)}{v_a:V}{vs_a:List V}{v_b:V}{vs_b:List V}(sN_a:Sl eV h v_a vs_a)(lN_a:vs_a.length=a.length)(iN_a:∀j,j<a.length->Sl e_bool h (gi vs_a j) (gi a j))(sN_b:Sl eV h v_b vs_b)(lN_b:vs_b.length=b.length)(iN_b:∀j,j<b.length->Sl e_bool h (gi vs_b j) (gi b j)){r:Bool}(hp:Za9 a b=some r) :
  ∃u k',Is G 295 [v_a,v_b] h u k'/\V.b r=u/\Own (λr=>r<h.n) h k' []:=have c0:=@zF.ok;have c1:=@zW.ok;au

end
theorem ZF.ok{h:Hp}{l:List Za}{v_l:V}(s_l:Sl Zh h v_l l){r:Bool}(hp:ZF l=some r) :
  ∃u k',Is G 285 [v_l] h u k'/\V.b r=u/\Own (λr=>r<h.n) h k' []:=by
 refine WC.is (Zde ?_);unfold ZF at hp;let B:Nat->Prop:=(λr=>r<h.n);have hO:Own B h h []:=Own.start0 h;refine Z4 (Zg (.b false) rfl (Zp (Z4 (Zg v_l rfl ?_))));obtain⟨⟨x,x1⟩,⟨_,_,cu,K,R,S,ai,T,aj,y,C,F,rfl,dg⟩,hp⟩:=bdk hp λ_=>ze.ok (h:=h)  (hO.rd0 s_l.rd);refine Zcq rfl rfl cu ?_;have bP:=hO.call dg rfl;refine Zg (.tu [.ag [K,R,S,T,y,C,F],.n x1]) rfl (Ze (ZbV rfl rfl) (Ze (ZbV rfl rfl) (zE (bP.alloc (cs:=[.sn,.sn,.sn,.sn,.sn,.sn,.sn]) bP.fr) ?_)));rintro _ _ ⟨a,rfl,_,_,au⟩;refine zE (au.stb (cs':=[K,R,S,T,y,C,F]) 9 rfl rfl rfl rfl ⟨rfl,Nat.le_of_ble_eq_true rfl,(all_cons (au.sl 0 rfl).oneV (all_cons (au.sl 1 rfl).oneV (all_cons (au.sl 2 rfl).oneV (all_cons (au.sl 4 rfl).oneV (all_cons (au.sl 6 rfl).oneV (all_cons (au.sl 7 rfl).oneV (all_cons (au.sl 8 rfl).oneV all_nil)))))))⟩ rfl) ?_;rintro _ dv ⟨rfl,_,_,bU⟩;refine Zg (.n x1) rfl (Zp (zw (Z4 (Zg v_l rfl ?_))));obtain⟨⟨x2,x3⟩,⟨_,bj,cB,rfl,di⟩,hp⟩:=bdk hp λ_=>Zad.ok (h:=dv)  (bU.rd0 s_l.rd);refine Zcq rfl rfl cB ?_;have ap:=bU.call di rfl;refine Zg (.tu [.n x2,.n x3]) rfl (Ze (ZbV rfl rfl) (Ze (ZbV rfl rfl) (Zg (.n x2) rfl (Zg (.n x3) rfl (Zp (Z4 (Zg (.n x3) rfl (Ze (Zf4 rfl rfl) (Zp (ZaC hp rfl (λch hp=>?_) (λch hp=>?_)))))))))))
 .refine Z4 (Zg (.n x1) rfl (Zg (.n x3) rfl (Ze (Zem rfl rfl) (Zg (.b (decide (x1=x3))) rfl (Zcn 5 (λf k=>bj=k/\f 39=.b ((decide (x1=x3))&&(decide ((x.Open.length:Int)=0)))/\f 3=.p a 0) ?_ ?_)))))
  .rcases bc (decide (x1=x3))with an|an
   .refine zD rfl an (Ze (zm (r:=a) (o:=0) rfl rfl) (zD rfl an (Ze (ZQ (ap.box 9 rfl) rfl rfl) (zD rfl an (Ze (Za4 (ap.sl 8 rfl) rfl) (zD rfl an (Ze (Zem rfl rfl) (Ze (Zid rfl an rfl) (Z8 ?_)))))))));exact⟨rfl,rfl,rfl⟩
   .refine ZX rfl an (ZX rfl an (ZX rfl an (ZX rfl an (Ze (Zic (w:=(decide (x1=x3))&&(decide ((x.Open.length:Int)=0))) rfl an rfl) (Z8 ?_)))));exact⟨rfl,rfl,rfl⟩
  rintro _ _ ⟨rfl,cN,bx⟩;refine Zg _ cN ?_;obtain⟨t,dq,hp⟩:=ZbL hp;refine Zcn 11 (λf k=>bj=k/\f 51=.b t) ?_ ?_
  .clear hp;rcases Zd7 dq with⟨D,hp⟩|⟨D,hp⟩
   .refine zD rfl D (Ze (zm (r:=a) (o:=0) bx rfl) (zD rfl D (Ze (zm (r:=a) (o:=0) rfl rfl) (zD rfl D (Ze (ZQ (ap.box 9 rfl) rfl rfl) (zD rfl D (Ze (Za4 (ap.sl 6 rfl) rfl) (zD rfl D (Ze (zm (r:=a) (o:=0) bx rfl) (zD rfl D (Ze (zm (r:=a) (o:=0) rfl rfl) (zD rfl D (Ze (ZQ (ap.box 9 rfl) rfl rfl) ?_)))))))))))));refine zD rfl D (Ze (Za4 (ap.sl 7 rfl) rfl) (zD rfl D (ckk hp λcp hp=>Ze (Zam rfl rfl cp) (zD rfl D (Ze (Zem rfl rfl) (Ze (Zc7 (v:=.b t) rfl D (Eq.trans (b:=V.b (decide ((x.Graphs.H.length:Int)+(x.Graphs.V.length:Int)=0))) rfl (congrArg V.b (Option.some.inj hp)))) (Z8 ?_)))))));exact⟨rfl,rfl⟩
   .refine ZX rfl D (ZX rfl D (ZX rfl D (ZX rfl D (ZX rfl D (ZX rfl D (ZX rfl D (ZX rfl D (ZX rfl D (ZX rfl D (Ze (Zci (v:=.b t) rfl D (Eq.trans (b:=V.b false) rfl (congrArg V.b (Option.some.inj hp)))) (Z8 ?_)))))))))));exact⟨rfl,rfl⟩
  rintro _ _ ⟨rfl,cO⟩;refine Zg _ cO (Zp (Zcx (Zcp (Zby (Zcd rfl ZaF) ?_))));cases hp;exact⟨rfl,(ap.pk [])⟩
 .refine Zb8 (Z4 (Zg v_l rfl ?_));obtain⟨⟨x4,x5⟩,⟨_,_,cC,aB,aC,az,a4,aA,a5,rfl,dj⟩,hp⟩:=bdk hp λ_=>Zbg.ok (h:=bj)  (ap.rd0 s_l.rd);refine Zcq rfl rfl cC ?_;have bX:=ap.call dj rfl;refine Zg (.tu [.ag [aB,aC,az,aA],.b x5]) rfl (Ze (ZbV rfl rfl) (Ze (ZbV rfl rfl) (zE (bX.alloc (cs:=[.sn,.sn,.sn,.sn]) bX.fr) ?_)));rintro _ _ ⟨a3,rfl,_,_,aI⟩;refine zE (aI.stb (cs':=[aB,aC,az,aA]) 16 rfl rfl rfl rfl ⟨rfl,Nat.le_of_ble_eq_true rfl,(all_cons (aI.sl 10 rfl).oneV (all_cons (aI.sl 11 rfl).oneV (all_cons (aI.sl 12 rfl).oneV (all_cons (aI.sl 14 rfl).oneV all_nil))))⟩ rfl) ?_;rintro _ b4 ⟨rfl,_,_,bY⟩;refine Zg (.b x5) rfl (Zp (zw (ZdQ ?_)));have aS:=bY.bump 10;have cJ:=Fresh.start b4 10;refine Za6 v_l rfl (Z7 (zm (r:=a3) (o:=0) rfl rfl) (Z7 (ZQ (aS.box 16 rfl) rfl rfl) ?_));obtain⟨x6,⟨_,dB,cD,ab,rfl,b1⟩,hp⟩:=bdk hp λ_=>zu.ok (h:=(b4.bump 10))  (aS.rd0 s_l.rd) (aS.sl 10 rfl);refine Zev rfl rfl cD ?_;have aT:=aS.call b1 rfl;refine Za6 v_l rfl (Z7 (zm (r:=a3) (o:=0) rfl rfl) (Z7 (ZQ (aT.box 16 rfl) rfl rfl) ?_));obtain⟨x7,⟨_,dt,cE,ac,rfl,dk⟩,hp⟩:=bdk hp λ_=>zu.ok (h:=dB)  (aT.rd0 s_l.rd) (aT.sl 11 rfl);refine Zev rfl rfl cE ?_;have bQ:=aT.call dk rfl;refine Za6 ab rfl (Za6 ac rfl (Zbz ?_));refine And.intro ?_ ?_
  .intro q hq;simp only[List.mem_cons,List.not_mem_nil,or_false]at hq;rcases hq with rfl|rfl
   .refine ZP ?_ ?_
    .exact nofun
    .exact nofun
   .refine ZfP rfl ?_
    .exact(λr hm hc=>hc (b1.base r (Nat.lt_of_lt_of_le (bY.ltAt 16 rfl _ (tch (Zbc hm) rfl)) (Nat.le_trans (Nat.le_add_right _ _) cJ.n))))
  refine ZC (Z4 (Zg v_l rfl ?_));obtain⟨⟨x8,x9⟩,⟨_,_,cF,L,O,P,ae,Q,af,ad,rfl,dl⟩,hp⟩:=bdk hp λ_=>Zv.ok (h:=dt)  (bQ.rd0 s_l.rd);refine Zcq rfl rfl cF ?_;have bR:=bQ.call dl rfl;refine Zg (.tu [.ag [.n x8.N,.n x8.M,L,O,P,Q],ad]) rfl (Ze (ZbV rfl rfl) (Ze (ZbV rfl rfl) (zE (bR.alloc (cs:=[.n (0:Int),.n (0:Int),.sn,.sn,.sn,.sn]) bR.fr) ?_)));rintro _ _ ⟨s,rfl,_,_,aE⟩;refine zE (aE.stb (cs':=[.n x8.N,.n x8.M,L,O,P,Q]) 26 rfl rfl rfl rfl ⟨rfl,Nat.le_of_ble_eq_true rfl,(all_cons rfl (all_cons rfl (all_cons (aE.sl 19 rfl).oneV (all_cons (aE.sl 20 rfl).oneV (all_cons (aE.sl 21 rfl).oneV (all_cons (aE.sl 23 rfl).oneV all_nil))))))⟩ rfl) ?_;rintro _ aJ ⟨rfl,_,_,ah⟩;refine Zg ad rfl (Zp (zw (Z4 (Zg (.n x1) rfl (Ze (Zf4 rfl rfl) (Zg (.b (!(decide (x1=0)))) rfl (Zcn 7 (λf k=>aJ=k/\f 79=.b ((!(decide (x1=0)))||(!(decide ((x.Open.length:Int)=(x9.length:Int)))))/\f 10=ac/\f 11=.p s 0/\f 12=ad/\f 3=.p a 0/\f 9=ab) ?_ ?_)))))))
  .rcases bc (!(decide (x1=0)))with ak|ak
   .refine ZX rfl ak (ZX rfl ak (ZX rfl ak (ZX rfl ak (ZX rfl ak (ZX rfl ak (Ze (ZfN (w:=(!(decide (x1=0)))||(!(decide ((x.Open.length:Int)=(x9.length:Int))))) rfl ak rfl) (Z8 ?_)))))));exact⟨rfl,rfl,rfl,rfl,rfl,rfl,rfl⟩
   .refine zD rfl ak (Ze (zm (r:=a) (o:=0) rfl rfl) (zD rfl ak (Ze (ZQ (ah.box 9 rfl) rfl rfl) (zD rfl ak (Ze (Za4 (ah.sl 8 rfl) rfl) (zD rfl ak (Zg ad rfl (zD rfl ak (Ze (Za4 (ah.sl 25 rfl) rfl) (zD rfl ak (Ze (Zf4 rfl rfl) (Ze (ZfO rfl ak rfl) (Z8 ?_)))))))))))));exact⟨rfl,rfl,rfl,rfl,rfl,rfl,rfl⟩
  rintro _ _ ⟨rfl,cP,bz,bA,bB,ba,bb⟩;refine Zg _ cP (Zcn 8 (λf k=>aJ=k/\f 88=.b (((!(decide (x1=0)))||(!(decide ((x.Open.length:Int)=(x9.length:Int)))))||(decide ((x.Graphs.H.length:Int)<(x6.length:Int))))/\f 10=ac/\f 11=.p s 0/\f 12=ad/\f 3=.p a 0/\f 9=ab) ?_ ?_)
  .rcases bc ((!(decide (x1=0)))||(!(decide ((x.Open.length:Int)=(x9.length:Int)))))with U|U
   .refine ZX rfl U (ZX rfl U (ZX rfl U (ZX rfl U (ZX rfl U (ZX rfl U (ZX rfl U (Ze (ZfN (w:=((!(decide (x1=0)))||(!(decide ((x.Open.length:Int)=(x9.length:Int)))))||(decide ((x.Graphs.H.length:Int)<(x6.length:Int)))) rfl U rfl) (Z8 ?_))))))));exact⟨rfl,rfl,bz,bA,bB,ba,bb⟩
   .refine zD rfl U (Ze (zm (r:=a) (o:=0) ba rfl) (zD rfl U (Ze (zm (r:=a) (o:=0) rfl rfl) (zD rfl U (Ze (ZQ (ah.box 9 rfl) rfl rfl) (zD rfl U (Ze (Za4 (ah.sl 6 rfl) rfl) (zD rfl U (Zg _ bb (zD rfl U (Ze (Za4 (ah.sl 17 rfl) rfl) (zD rfl U (Ze (ZaH rfl rfl) ?_)))))))))))));refine Ze (ZfO rfl U rfl) (Z8 ?_);exact⟨rfl,rfl,bz,bA,bB,ba,bb⟩
  rintro _ _ ⟨rfl,cQ,bd,bC,bD,be,bE⟩;refine Zg _ cQ (Zcn 8 (λf k=>aJ=k/\f 97=.b ((((!(decide (x1=0)))||(!(decide ((x.Open.length:Int)=(x9.length:Int)))))||(decide ((x.Graphs.H.length:Int)<(x6.length:Int))))||(decide ((x.Graphs.V.length:Int)<(x7.length:Int))))/\f 10=ac/\f 11=.p s 0/\f 12=ad/\f 3=.p a 0/\f 9=ab) ?_ ?_)
  .rcases bc (((!(decide (x1=0)))||(!(decide ((x.Open.length:Int)=(x9.length:Int)))))||(decide ((x.Graphs.H.length:Int)<(x6.length:Int))))with aa|aa
   .refine ZX rfl aa (ZX rfl aa (ZX rfl aa (ZX rfl aa (ZX rfl aa (ZX rfl aa (ZX rfl aa (Ze (ZfN (w:=(((!(decide (x1=0)))||(!(decide ((x.Open.length:Int)=(x9.length:Int)))))||(decide ((x.Graphs.H.length:Int)<(x6.length:Int))))||(decide ((x.Graphs.V.length:Int)<(x7.length:Int)))) rfl aa rfl) (Z8 ?_))))))));exact⟨rfl,rfl,bd,bC,bD,be,bE⟩
   .refine zD rfl aa (Ze (zm (r:=a) (o:=0) be rfl) (zD rfl aa (Ze (zm (r:=a) (o:=0) rfl rfl) (zD rfl aa (Ze (ZQ (ah.box 9 rfl) rfl rfl) (zD rfl aa (Ze (Za4 (ah.sl 7 rfl) rfl) (zD rfl aa (Zg _ bd (zD rfl aa (Ze (Za4 (ah.sl 18 rfl) rfl) (zD rfl aa (Ze (ZaH rfl rfl) ?_)))))))))))));refine Ze (ZfO rfl aa rfl) (Z8 ?_);exact⟨rfl,rfl,bd,bC,bD,be,bE⟩
  rintro _ _ ⟨rfl,cR,bF,bG,bH,bf,aM⟩;refine Zg _ cR ?_;obtain⟨t1,dr,hp⟩:=ZbL hp;refine Zcn 10 (λf k=>Own B h k [eSl Zm K x.Graphs.Chains.X,eSl Zm R x.Graphs.Chains.Y,eSl eV S ai,Zx Zm ai x.Graphs.Chains.Vert,eSl eV T aj,Zx Zm aj x.Graphs.Chains.Horz,eSl Zc y x.Graphs.H,eSl Zc C x.Graphs.V,eSl Zt F x.Open,Z3 a [K,R,S,T,y,C,F],eSl Zm aB x4.X,eSl Zm aC x4.Y,eSl eV az a4,Zx Zm a4 x4.Vert,eSl eV aA a5,Zx Zm a5 x4.Horz,Z3 a3 [aB,aC,az,aA],eSl Zc ab x6,eSl Zc ac x7,eSl Zl L x8.H,eSl Zl O x8.V,eSl eV P ae,Zx e_bool ae x8.A,eSl eV Q af,Zx e_bool af x8.B,eSl Z9 ad x9,Z3 s [.n x8.N,.n x8.M,L,O,P,Q]]/\f 108=.b t1/\f 10=ac/\f 11=.p s 0/\f 12=ad/\f 3=.p a 0/\f 9=ab) ?_ ?_
  .clear hp;rcases Zd7 dr with⟨I,hp⟩|⟨I,hp⟩
   .refine ZX rfl I (ZX rfl I (ZX rfl I (ZX rfl I (ZX rfl I (ZX rfl I (ZX rfl I (ZX rfl I (ZX rfl I (Ze (Zc7 (v:=.b t1) rfl I (Eq.trans (b:=V.b true) rfl (congrArg V.b (Option.some.inj hp)))) (Z8 ?_))))))))));exact⟨ah.pk [0,1,2,3,4,5,6,7,8,9,10,11,12,13,14,15,16,17,18,19,20,21,22,23,24,25,26],rfl,bF,bG,bH,bf,aM⟩
   .refine zD rfl I (Ze (zm (r:=a) (o:=0) bf rfl) (zD rfl I (Ze (zm (r:=a) (o:=0) rfl rfl) (zD rfl I (Ze (ZQ (ah.box 9 rfl) rfl rfl) (zD rfl I (Zg _ aM (zD rfl I (Ze (Za4 (ah.sl 17 rfl) rfl) (zD rfl I (ckk hp λbu hp=>Ze (Zhj (E:=Zc) (z:=(x6.length:Int)) (ah.sl 6 rfl) rfl rfl bu) (zD rfl I ?_))))))))))));refine Zg _ aM (zD rfl I ?_);obtain⟨x10,⟨_,_,cG,rfl,dm⟩,hp⟩:=bdk hp λ_=>zx.ok (h:=aJ)  (Sl.cutU (ah.sl 6 rfl) bu:Sl Zc aJ (V.cut y 0 ((x6.length:Int):Int).toNat) (x.Graphs.H.take ((x6.length:Int):Int).toNat)) (ah.sl 17 rfl);refine Zcq rfl rfl cG ?_;have da:=ah.call dm rfl;refine zD rfl I (Ze (ZeU rfl) (Ze (Zci (v:=.b t1) rfl I (Eq.trans (b:=V.b (!x10)) rfl (congrArg V.b (Option.some.inj hp)))) (Z8 ?_)));exact⟨da.pk [0,1,2,3,4,5,6,7,8,9,10,11,12,13,14,15,16,17,18,19,20,21,22,23,24,25,26],rfl,bF,bG,bH,bf,aM⟩
  rintro _ b2 ⟨ax,cS,aN,bI,bJ,bg,bK⟩;refine Zg _ cS ?_;obtain⟨t2,ds,hp⟩:=ZbL hp;refine Zcn 10 (λf k=>Own B h k [eSl Zm K x.Graphs.Chains.X,eSl Zm R x.Graphs.Chains.Y,eSl eV S ai,Zx Zm ai x.Graphs.Chains.Vert,eSl eV T aj,Zx Zm aj x.Graphs.Chains.Horz,eSl Zc y x.Graphs.H,eSl Zc C x.Graphs.V,eSl Zt F x.Open,Z3 a [K,R,S,T,y,C,F],eSl Zm aB x4.X,eSl Zm aC x4.Y,eSl eV az a4,Zx Zm a4 x4.Vert,eSl eV aA a5,Zx Zm a5 x4.Horz,Z3 a3 [aB,aC,az,aA],eSl Zc ab x6,eSl Zc ac x7,eSl Zl L x8.H,eSl Zl O x8.V,eSl eV P ae,Zx e_bool ae x8.A,eSl eV Q af,Zx e_bool af x8.B,eSl Z9 ad x9,Z3 s [.n x8.N,.n x8.M,L,O,P,Q]]/\f 119=.b t2/\f 10=ac/\f 11=.p s 0/\f 12=ad/\f 3=.p a 0/\f 9=ab) ?_ ?_
  .clear hp;rcases Zd7 ds with⟨J,hp⟩|⟨J,hp⟩
   .refine ZX rfl J (ZX rfl J (ZX rfl J (ZX rfl J (ZX rfl J (ZX rfl J (ZX rfl J (ZX rfl J (ZX rfl J (Ze (Zc7 (v:=.b t2) rfl J (Eq.trans (b:=V.b true) rfl (congrArg V.b (Option.some.inj hp)))) (Z8 ?_))))))))));exact⟨ax.pk [0,1,2,3,4,5,6,7,8,9,10,11,12,13,14,15,16,17,18,19,20,21,22,23,24,25,26],rfl,aN,bI,bJ,bg,bK⟩
   .refine zD rfl J (Ze (zm (r:=a) (o:=0) bg rfl) (zD rfl J (Ze (zm (r:=a) (o:=0) rfl rfl) (zD rfl J (Ze (ZQ (ax.box 9 rfl) rfl rfl) (zD rfl J (Zg _ aN (zD rfl J (Ze (Za4 (ax.sl 18 rfl) rfl) (zD rfl J (ckk hp λbv hp=>Ze (Zhj (E:=Zc) (z:=(x7.length:Int)) (ax.sl 7 rfl) rfl rfl bv) (zD rfl J ?_))))))))))));refine Zg _ aN (zD rfl J ?_);obtain⟨x11,⟨_,_,cH,rfl,dn⟩,hp⟩:=bdk hp λ_=>zx.ok (h:=b2)  (Sl.cutU (ax.sl 7 rfl) bv:Sl Zc b2 (V.cut C 0 ((x7.length:Int):Int).toNat) (x.Graphs.V.take ((x7.length:Int):Int).toNat)) (ax.sl 18 rfl);refine Zcq rfl rfl cH ?_;have db:=ax.call dn rfl;refine zD rfl J (Ze (ZeU rfl) (Ze (Zci (v:=.b t2) rfl J (Eq.trans (b:=V.b (!x11)) rfl (congrArg V.b (Option.some.inj hp)))) (Z8 ?_)));exact⟨db.pk [0,1,2,3,4,5,6,7,8,9,10,11,12,13,14,15,16,17,18,19,20,21,22,23,24,25,26],rfl,aN,bI,bJ,bg,bK⟩
  rintro _ _ ⟨aO,cV,cT,cU,cW,bL,cX⟩;refine Zp (ZaC hp cV (λco hp=>?_) (λco hp=>?_))
  .refine Z4 (Zg (.b false) rfl (Zp (Zcx (Zcp (Zby (Zcd rfl ZaF) ?_)))));cases hp;exact⟨rfl,(aO.pk [])⟩
  .refine Zb8 (zw (Z4 (Ze (zm (r:=a) (o:=0) bL rfl) (Ze (ZQ (aO.box 9 rfl) rfl rfl) (Ze (Za4 (aO.sl 8 rfl) rfl) (Zg (.n 0) rfl (Zp (ZaB (Zcw hp (λx12 fr k=>fr 3=.p a 0/\fr 9=ab/\fr 10=ac/\fr 11=.p s 0/\fr 12=ad/\fr 121=F/\fr 122=.n (x.Open.length:Int)/\fr 123=.n x12/\Own B h k [Z3 a [K,R,S,T,y,C,F],eSl Zm K x.Graphs.Chains.X,eSl Zm R x.Graphs.Chains.Y,eSl eV S ai,Zx Zm ai x.Graphs.Chains.Vert,eSl eV T aj,Zx Zm aj x.Graphs.Chains.Horz,eSl Zc y x.Graphs.H,eSl Zc C x.Graphs.V,eSl Zt F x.Open,eSl Zc ab x6,eSl Zc ac x7,Z3 s [.n x8.N,.n x8.M,L,O,P,Q],eSl Zl L x8.H,eSl Zl O x8.V,eSl eV P ae,Zx e_bool ae x8.A,eSl eV Q af,Zx e_bool af x8.B,eSl Z9 ad x9]) (fun|.inl _,e,fr,k=>e=(.exit 0)/\fr 3=.p a 0/\fr 9=ab/\fr 10=ac/\fr 11=.p s 0/\Own B h k [Z3 a [K,R,S,T,y,C,F],eSl Zm K x.Graphs.Chains.X,eSl Zm R x.Graphs.Chains.Y,eSl eV S ai,Zx Zm ai x.Graphs.Chains.Vert,eSl eV T aj,Zx Zm aj x.Graphs.Chains.Horz,eSl Zc y x.Graphs.H,eSl Zc C x.Graphs.V,eSl Zt F x.Open,eSl Zc ab x6,eSl Zc ac x7,Z3 s [.n x8.N,.n x8.M,L,O,P,Q],eSl Zl L x8.H,eSl Zl O x8.V,eSl eV P ae,Zx e_bool ae x8.A,eSl eV Q af,Zx e_bool af x8.B]|.inr _,e,fr,k=>e=.ret/\fr 2=.b false/\Own B h k []) ⟨bL,cX,cT,cU,cW,rfl,rfl,rfl,(aO.pk [9,0,1,2,3,4,5,6,7,8,17,18,26,19,20,21,22,23,24,25])⟩ ?_ ?_)))))))))
   .rintro x12 _ _ ⟨b9,ca,b5,b6,dH,b7,b8,aY,aF⟩ _ hp;dsimp only[ZF.s0]at hp;refine Z4 (Ze (ZaH aY b8) (Zp (zw (ZaC hp rfl (λci hp=>?_) (λci hp=>?_)))))
    .refine Zb8 (zw (ZaB (Z4 (Zg _ aY (ckk hp λbw hp=>Ze (Zaq (aF.sl 9 rfl) b7 aY bw) (Ze (ZcP (aF.sl 9 rfl) rfl (Zu bw)) (zE (aF.alloc (cs:=Zt.c (⟨⟨false,0⟩,⟨false,0⟩⟩:A2 Zz)) aF.fr) ?_)))))));rintro _ _ ⟨aL,rfl,_,_,dc⟩;refine Zg (.n x12) rfl (zE (dc.stb (cs':=Zt.c (gi x.Open x12.toNat)) 20 rfl rfl rfl rfl ⟨rfl,Nat.le_of_ble_eq_true rfl,rfl⟩ rfl) ?_);rintro _ _ ⟨rfl,_,_,dd⟩;refine Zp (Z4 (Zg (.n 0) rfl (Zp (ZaB (Zcw hp (λx13 fr k=>fr 3=.p a 0/\fr 9=ab/\fr 10=ac/\fr 11=.p s 0/\fr 12=ad/\fr 13=.n x12/\fr 14=.p aL 0/\fr 121=F/\fr 122=.n (x.Open.length:Int)/\fr 123=.n x12/\fr 128=.n x13/\Own B h k [Z3 a [K,R,S,T,y,C,F],eSl Zm K x.Graphs.Chains.X,eSl Zm R x.Graphs.Chains.Y,eSl eV S ai,Zx Zm ai x.Graphs.Chains.Vert,eSl eV T aj,Zx Zm aj x.Graphs.Chains.Horz,eSl Zc y x.Graphs.H,eSl Zc C x.Graphs.V,eSl Zt F x.Open,eSl Zc ab x6,eSl Zc ac x7,Z3 s [.n x8.N,.n x8.M,L,O,P,Q],eSl Zl L x8.H,eSl Zl O x8.V,eSl eV P ae,Zx e_bool ae x8.A,eSl eV Q af,Zx e_bool af x8.B,eSl Z9 ad x9,Z3 aL (Zt.c (gi x.Open x12.toNat))]) (fun|.inl _,e,fr,k=>e=(.exit 2)/\fr 3=.p a 0/\fr 9=ab/\fr 10=ac/\fr 11=.p s 0/\fr 12=ad/\fr 121=F/\fr 122=.n (x.Open.length:Int)/\fr 123=.n x12/\Own B h k [Z3 a [K,R,S,T,y,C,F],eSl Zm K x.Graphs.Chains.X,eSl Zm R x.Graphs.Chains.Y,eSl eV S ai,Zx Zm ai x.Graphs.Chains.Vert,eSl eV T aj,Zx Zm aj x.Graphs.Chains.Horz,eSl Zc y x.Graphs.H,eSl Zc C x.Graphs.V,eSl Zt F x.Open,eSl Zc ab x6,eSl Zc ac x7,Z3 s [.n x8.N,.n x8.M,L,O,P,Q],eSl Zl L x8.H,eSl Zl O x8.V,eSl eV P ae,Zx e_bool ae x8.A,eSl eV Q af,Zx e_bool af x8.B,eSl Z9 ad x9]|.inr _,e,fr,k=>e=.ret/\fr 2=.b false/\Own B h k []) ⟨b9,ca,b5,b6,dH,rfl,rfl,b7,b8,aY,rfl,(dd.pk [0,1,2,3,4,5,6,7,8,9,10,11,12,13,14,15,16,17,18,19,20])⟩ ?_ ?_)))))
     .rintro x13 _ du ⟨bq,br,bl,bm,aK,a0,a1,bn,bo,bp,aZ,bS⟩ _ hp;dsimp only[ZF.s1]at hp;refine Z4 (Ze (ZaH aZ rfl) (Zp (zw (ZaC hp rfl (λcj hp=>?_) (λcj hp=>?_)))))
      .refine Zb8 (zw (ZaB (Z4 (Zg _ aZ (Zg (.n x13) rfl (Zp (zw (Zsu ?_))))))));have al:=bS.bump 26;refine ZfL (.n x13) rfl (ckk hp λaq hp=>ZdJ rfl (Zf8 (o:=0) (o':=(0+x13.toNat*2)) a1 rfl aq rfl) (ZdJ rfl (zm (r:=aL) (o:=(0+x13.toNat*2)) rfl rfl) (ZdJ rfl (ZQ (al.box 20 rfl) rfl (ZbN aq)) (ZfL _ aK (ZfL _ a0 (ZfL (.n x13) rfl (ckk hp λar hp=>ZdJ rfl (Zaq (al.sl 19 rfl) rfl rfl ar) (ZdJ rfl (ZcX (al.sl 19 rfl) (Zu ar) rfl rfl aq rfl) (ZdJ rfl (ZdM (al.sl 19 rfl) (Zu ar) rfl rfl) (ZdJ rfl (Zbx (al.sl 19 rfl) rfl (Zu ar) (Zbh aq)) (ZdJ rfl (Zp2 rfl rfl) ?_)))))))))));refine ZfL (.b (!(decide ((((gi x.Open x12.toNat).get x13).Vertical)=(((gi x9 x12.toNat).get x13).Vertical))))) rfl (Zmt 13 (λf k=>(du.bump 26)=k/\f 156=.b ((!(decide ((((gi x.Open x12.toNat).get x13).Vertical)=(((gi x9 x12.toNat).get x13).Vertical))))||(!(decide (((gi x.Open x12.toNat).get x13).Place=((gi x9 x12.toNat).get x13).Place))))/\f 10=ac/\f 11=.p s 0/\f 12=ad/\f 121=F/\f 122=.n (x.Open.length:Int)/\f 123=.n x12/\f 128=.n x13/\f 13=.n x12/\f 14=.p aL 0/\f 3=.p a 0/\f 9=ab) ?_ ?_)
       .rcases bc (!(decide ((((gi x.Open x12.toNat).get x13).Vertical)=(((gi x9 x12.toNat).get x13).Vertical))))with d|d
        .refine Zc6 rfl d (Zc6 rfl d (Zc6 rfl d (Zc6 rfl d (Zc6 rfl d (Zc6 rfl d (Zc6 rfl d (Zc6 rfl d (Zc6 rfl d (Zc6 rfl d (Zc6 rfl d (Zc6 rfl d (ZdJ rfl (ZfN (w:=(!(decide ((((gi x.Open x12.toNat).get x13).Vertical)=(((gi x9 x12.toNat).get x13).Vertical))))||(!(decide (((gi x.Open x12.toNat).get x13).Place=((gi x9 x12.toNat).get x13).Place)))) rfl d rfl) (Zgr ?_)))))))))))));exact⟨rfl,rfl,bl,bm,aK,bn,bo,bp,aZ,a0,a1,bq,br⟩
        .refine Zdv rfl d (ZfL (.n x13) rfl (Zdv rfl d (ZdJ rfl (Zf8 (o:=0) (o':=(0+x13.toNat*2)) a1 rfl aq rfl) (Zdv rfl d (ZdJ rfl (zm (r:=aL) (o:=(0+x13.toNat*2)) rfl rfl) (Zdv rfl d (ZdJ rfl (ZQ (al.box 20 rfl) rfl (Zcg aq)) (Zdv rfl d (ZfL _ aK (Zdv rfl d (ZfL _ a0 (Zdv rfl d (ZfL (.n x13) rfl ?_)))))))))))));refine Zdv rfl d (ZdJ rfl (Zaq (al.sl 19 rfl) rfl rfl ar) (Zdv rfl d (ZdJ rfl (ZcX (al.sl 19 rfl) (Zu ar) rfl rfl aq rfl) (Zdv rfl d (ZdJ rfl (ZdM (al.sl 19 rfl) (Zu ar) rfl rfl) (Zdv rfl d (ZdJ rfl (Zbx (al.sl 19 rfl) rfl (Zu ar) (Zbw aq)) (Zdv rfl d (ZdJ rfl (Zf4 rfl rfl) (ZdJ rfl (ZfO rfl d rfl) (Zgr ?_)))))))))));exact⟨rfl,rfl,bl,bm,aK,bn,bo,bp,aZ,a0,a1,bq,br⟩
       rintro _ _ ⟨rfl,c7,cY,cZ,c0,c1,c2,c3,c4,c5,c6,c8,c9⟩;refine Zgr (ZC (ZaC hp c7 (λcl hp=>?_) (λcl hp=>?_)))
       .refine Z4 (Zg (.b false) rfl (Zp (Zcx (ZeV (Zcp ?_)))));cases hp;exact⟨nofun,rfl,rfl,(al.pk [])⟩
       .refine Zey (ZaI (ZC (Za5 (ckk hp λcr hp=>Ze (Zam c4 rfl cr) (Zg (.n (x13+1)) rfl (Z8 ?_))))));cases hp;exact⟨rfl,c8,c9,cY,cZ,c0,c5,c6,c1,c2,c3,rfl,(al.pk [0,1,2,3,4,5,6,7,8,9,10,11,12,13,14,15,16,17,18,19,20])⟩
      .refine ZbX (Zaz ?_);cases hp;exact⟨nofun,rfl,bq,br,bl,bm,aK,bn,bo,bp,(bS.pk [0,1,2,3,4,5,6,7,8,9,10,11,12,13,14,15,16,17,18,19])⟩
     rintro(_|_) hp _ _ _ bN
     .obtain⟨rfl,dP,dQ,dI,dJ,dK,dL,dM,dN,bh⟩:=bN;refine ZaU (ZaI (ZC (Za5 (ckk hp λct hp=>Ze (Zam dN rfl ct) (Zg (.n (x12+1)) rfl (Z8 ?_))))));cases hp;exact⟨rfl,dP,dQ,dI,dJ,dK,dL,dM,rfl,(bh.pk [0,1,2,3,4,5,6,7,8,9,10,11,12,13,14,15,16,17,18,19])⟩
     .obtain⟨rfl,dO,bh⟩:=bN;refine ZeV (ZeV (Zcp ?_));cases hp;exact⟨nofun,rfl,dO,(bh.pk [])⟩
    .refine ZbX (Zaz ?_);cases hp;exact⟨nofun,rfl,b9,ca,b5,b6,(aF.pk [0,1,2,3,4,5,6,7,8,9,10,11,12,13,14,15,16,17,18])⟩
   rintro(_|_) hp _ _ aW bM
   .obtain⟨rfl,bk,dG,dD,dE,aP⟩:=bM;refine ZaU (ZC (zw (zw (ZdQ ?_))));have ao:=aP.bump 16;have cL:=Fresh.start aW 16;have dC:∀{i:Nat},h.n<=aW.n+i:=Nat.le_trans aP.n (Nat.le_add_right _ _);refine Z7 (zm (r:=a) (o:=0) bk rfl) (Z7 (zm (r:=a) (o:=0) rfl rfl) (Z7 (ZQ (ao.box 0 rfl) rfl rfl) (Za6 _ dG (Z7 (Za4 (ao.sl 10 rfl) rfl) (ckk hp λa7 hp=>Z7 (ZiB (E:=Zc) (z:=(x6.length:Int)) (ao.sl 7 rfl) rfl rfl a7) (Z7 (zm (r:=a) (o:=0) bk rfl) (Z7 (zm (r:=a) (o:=0) rfl rfl) (Z7 (ZQ (ao.box 0 rfl) rfl rfl) (Za6 _ dD (Z7 (Za4 (ao.sl 11 rfl) rfl) (ckk hp λa6 hp=>Z7 (ZiB (E:=Zc) (z:=(x7.length:Int)) (ao.sl 8 rfl) rfl rfl a6) ?_)))))))))));refine ZcA (ao.bsl (E:=eV) (l:=[(V.cut y ((x6.length:Int):Int).toNat (x.Graphs.H).length),(V.cut C ((x7.length:Int):Int).toNat (x.Graphs.V).length)]) ⟨cL.m 12 (by decide) (by decide),dC⟩ (by rw[(ZZ (v:=(V.cut y ((x6.length:Int):Int).toNat (x.Graphs.H).length)) rfl (ZZ (v:=(V.cut C ((x7.length:Int):Int).toNat (x.Graphs.V).length)) rfl Zas))];simp only[fill,(Sl.cutF (ao.sl 7 rfl) a7:Sl Zc (aW.bump 16) (V.cut y ((x6.length:Int):Int).toNat (x.Graphs.H).length) (x.Graphs.H.drop ((x6.length:Int):Int).toNat)).cells,(Sl.cutF (ao.sl 8 rfl) a6:Sl Zc (aW.bump 16) (V.cut C ((x7.length:Int):Int).toNat (x.Graphs.V).length) (x.Graphs.V.drop ((x7.length:Int):Int).toNat)).cells];simp[over]) rfl) ?_;rintro dT aX _ ⟨_,_,aQ⟩;obtain⟨x14,⟨_,_,cI,cg,rfl,dp⟩,hp⟩:=bdk hp λ_=>ZG.ok (h:=aX)  (aQ.sl 19 rfl:Sl eV aX dT [(V.cut y ((x6.length:Int):Int).toNat (x.Graphs.H).length),(V.cut C ((x7.length:Int):Int).toNat (x.Graphs.V).length)]) rfl (λj hj=>Lit.at (Lit.cons (Sl.cutF (aQ.sl 7 rfl) a7:Sl Zc aX (V.cut y ((x6.length:Int):Int).toNat (x.Graphs.H).length) (x.Graphs.H.drop ((x6.length:Int):Int).toNat)) (Lit.cons (Sl.cutF (aQ.sl 8 rfl) a6:Sl Zc aX (V.cut C ((x7.length:Int):Int).toNat (x.Graphs.V).length) (x.Graphs.V.drop ((x7.length:Int):Int).toNat)) Lit.nil)) hj);refine Zev rfl rfl cI ?_;have bT:=aQ.call dp rfl;refine Z7 (Za4 (bT.sl 20 rfl) rfl) (Za6 (.n 0) rfl (Zbz ?_));refine And.intro ?_ ?_
    .intro q hq;simp only[List.mem_cons,List.not_mem_nil,or_false]at hq;rcases hq with rfl
     .refine ZP ?_ ?_
      .exact nofun
      .exact nofun
    refine ZC (ZaB (Zcw hp (λx15 fr k=>fr 3=.p a 0/\fr 11=.p s 0/\fr 172=cg/\fr 173=.n (x14.length:Int)/\fr 174=.n x15/\Own B h k [Z3 a [K,R,S,T,y,C,F],eSl Zm K x.Graphs.Chains.X,eSl Zm R x.Graphs.Chains.Y,eSl eV S ai,Zx Zm ai x.Graphs.Chains.Vert,eSl eV T aj,Zx Zm aj x.Graphs.Chains.Horz,eSl Zc y x.Graphs.H,eSl Zc C x.Graphs.V,eSl Zt F x.Open,Z3 s [.n x8.N,.n x8.M,L,O,P,Q],eSl Zl L x8.H,eSl Zl O x8.V,eSl eV P ae,Zx e_bool ae x8.A,eSl eV Q af,Zx e_bool af x8.B,eSl Zc cg x14]) (fun|.inl _,e,fr,k=>e=(.exit 4)/\fr 3=.p a 0/\fr 11=.p s 0/\Own B h k [Z3 a [K,R,S,T,y,C,F],eSl Zm K x.Graphs.Chains.X,eSl Zm R x.Graphs.Chains.Y,eSl eV S ai,Zx Zm ai x.Graphs.Chains.Vert,eSl eV T aj,Zx Zm aj x.Graphs.Chains.Horz,eSl Zc y x.Graphs.H,eSl Zc C x.Graphs.V,eSl Zt F x.Open,Z3 s [.n x8.N,.n x8.M,L,O,P,Q],eSl Zl L x8.H,eSl Zl O x8.V,eSl eV P ae,Zx e_bool ae x8.A,eSl eV Q af,Zx e_bool af x8.B]|.inr _,e,fr,k=>e=.ret/\fr 2=.b false/\Own B h k []) ⟨bk,dE,rfl,rfl,rfl,(bT.pk [0,1,2,3,4,5,6,7,8,9,12,13,14,15,16,17,18,20])⟩ ?_ ?_))
    .rintro x15 _ _ ⟨cf,cc,cd,ce,bs,aG⟩ _ hp;dsimp only[ZF.s2]at hp;refine Z4 (Ze (ZaH bs ce) (Zp (zw (ZaC hp rfl (λcm hp=>?_) (λcm hp=>?_)))))
     .refine Zb8 (zw (ZaB (Z4 (ckk hp λbt hp=>Ze (Zaq (aG.sl 17 rfl) cd bs bt) (Ze (ZcP (aG.sl 17 rfl) rfl (Zu bt)) (zE (aG.alloc (cs:=Zc.c (⟨0,0,0⟩:Zb)) aG.fr) ?_))))));rintro _ _ ⟨dS,rfl,_,_,de⟩;refine zE (de.stb (cs':=Zc.c (gi x14 x15.toNat)) 18 rfl rfl rfl rfl ⟨rfl,Nat.le_of_ble_eq_true rfl,rfl⟩ rfl) ?_;rintro _ _ ⟨rfl,_,_,bi⟩;refine Zp (Z4 (Ze (zm (r:=dS) (o:=0) rfl rfl) (Ze (ZQ (bi.box 18 rfl) rfl rfl) (Ze (Zf4 rfl rfl) (Zp (ZaC hp rfl (λcn hp=>?_) (λcn hp=>?_)))))))
      .refine Z4 (Zg (.b false) rfl (Zp (Zcx (ZeV (Zcp ?_)))));cases hp;exact⟨nofun,rfl,rfl,(bi.pk [])⟩
      .refine Zey (ZaI (ZC (Za5 (ckk hp λcq hp=>Ze (Zam bs rfl cq) (Zg (.n (x15+1)) rfl (Z8 ?_))))));cases hp;exact⟨rfl,cf,cc,cd,ce,rfl,(bi.pk [0,1,2,3,4,5,6,7,8,9,10,11,12,13,14,15,16,17])⟩
     .refine ZbX (Zaz ?_);cases hp;exact⟨nofun,rfl,cf,cc,(aG.pk [0,1,2,3,4,5,6,7,8,9,10,11,12,13,14,15,16])⟩
    rintro(_|_) hp _ _ b3 bO
    .obtain⟨rfl,cb,a2,am⟩:=bO;refine ZaU (ZC (Z4 (Zg (.f 295 []) rfl (Zp (zw (ZdQ ?_))))));have aR:=am.bump 25;have aD:=Fresh.start b3 25;refine Za6 (.f 295 []) rfl (Z7 (zm (r:=s) (o:=0) a2 rfl) (Z7 (ZQ (aR.box 10 rfl) rfl rfl) (Z7 (zm (r:=a) (o:=0) cb rfl) (Z7 (zm (r:=a) (o:=0) rfl rfl) (Z7 (ZQ (aR.box 0 rfl) rfl rfl) ?_)))));obtain⟨x16,⟨_,dw,cv,_,rfl,ay⟩,hp⟩:=bdk hp λ_=>zJ.ok (h:=(b3.bump 25))  (aR.sl 7 rfl);refine Zev rfl rfl cv ?_;have a9:=aD.call ay;have bV:=aR.call ay rfl;obtain⟨x17,⟨_,dx,cw,_,dU,rfl,aU⟩,hp⟩:=bdk hp λ_=>zA.ok (h:=dw)  (bV.sl 17 rfl);refine Zev rfl rfl cw ?_;have cM:=a9.call aU;have av:=bV.call aU rfl;refine Z7 (zm (r:=s) (o:=0) a2 rfl) (Z7 (ZQ (av.box 10 rfl) rfl rfl) ?_);obtain⟨x18,⟨_,dy,cx,rfl,bZ⟩,hp⟩:=bdk hp λ_=>Za9.ok (h:=dx)  (av.sl 18 rfl) (av.allLen 19 rfl:(dU).length=(x17).length) (λj hj=>av.inn 19 rfl hj) (av.sl 13 rfl) (av.allLen 14 rfl:(ae).length=(x8.A).length) (λj hj=>av.inn 14 rfl hj);refine Zev rfl rfl cx ?_;have a8:=cM.call bZ;have aH:=av.call bZ rfl;refine Za6 (.b x18) rfl ?_;refine ifk hp (λg hp=>?_) (λg hp=>?_)
     .refine Zce rfl g (Za6 (.f 295 []) rfl (Zce rfl g (Z7 (zm (r:=s) (o:=0) a2 rfl) (Zce rfl g (Z7 (ZQ (aH.box 10 rfl) rfl rfl) (Zce rfl g (Z7 (zm (r:=a) (o:=0) cb rfl) (Zce rfl g (Z7 (zm (r:=a) (o:=0) rfl rfl) (Zce rfl g (Z7 (ZQ (aH.box 0 rfl) rfl rfl) (Zce rfl g ?_))))))))))));obtain⟨x19,⟨_,dz,cy,_,rfl,aV⟩,hp⟩:=bdk hp λ_=>zJ.ok (h:=dy)  (aH.sl 8 rfl);refine Zev rfl rfl cy ?_;have cK:=a8.call aV;have bW:=aH.call aV rfl;refine Zce rfl g ?_;obtain⟨x20,⟨_,dA,cz,_,dV,rfl,b0⟩,hp⟩:=bdk hp λ_=>zA.ok (h:=dz)  (bW.sl 20 rfl);refine Zev rfl rfl cz ?_;have aw:=bW.call b0 rfl;refine Zce rfl g (Z7 (zm (r:=s) (o:=0) a2 rfl) (Zce rfl g (Z7 (ZQ (aw.box 10 rfl) rfl rfl) (Zce rfl g ?_))));obtain⟨x21,⟨_,_,cA,rfl,dh⟩,hp⟩:=bdk hp λ_=>Za9.ok (h:=dA)  (aw.sl 21 rfl) (aw.allLen 22 rfl:(dV).length=(x20).length) (λj hj=>aw.inn 22 rfl hj) (aw.sl 15 rfl) (aw.allLen 16 rfl:(af).length=(x8.B).length) (λj hj=>aw.inn 16 rfl hj);refine Zev rfl rfl cA ?_;have df:=aw.call dh rfl;refine Z7 (Zc7 (v:=.b x21) rfl g rfl) (Za6 (.b x21) rfl (Zbz ?_));refine And.intro ?_ ?_
      .intro q hq;simp only[List.mem_cons,List.not_mem_nil,or_false]at hq;rcases hq with rfl|rfl|rfl|rfl|rfl|rfl|rfl|rfl|rfl|rfl|rfl|rfl
       .refine ZP ?_ ?_
        .exact nofun
        .exact nofun
       .refine Zj6 rfl rfl ?_
        .exact(λr hm hc=>hc (ay.base r (Nat.lt_of_lt_of_le (am.ltAt 10 rfl _ (tch (Zbc hm) rfl)) (Nat.le_trans (Nat.le_add_right _ _) aD.n))))
       .refine ZP ?_ ?_
        .exact nofun
        .exact nofun
       .refine ZP ?_ ?_
        .exact nofun
        .exact nofun
       .refine ZfP rfl ?_
        .exact(λr hm hc=>hc (ay.base r (Nat.lt_of_lt_of_le (am.ltAt 10 rfl _ (tch (Zbc hm) rfl)) (Nat.le_trans (Nat.le_add_right _ _) aD.n))))
       .refine ZfP rfl ?_
        .exact(λr hm hc=>hc (aU.base r (Nat.lt_of_lt_of_le (am.ltAt 10 rfl _ (tch (Zbc hm) rfl)) (Nat.le_trans (Nat.le_add_right _ _) a9.n))))
       .refine ZP ?_ ?_
        .exact nofun
        .exact nofun
       .refine Zj6 rfl rfl ?_
        .exact(λr hm hc=>hc (aV.base r (Nat.lt_of_lt_of_le (am.ltAt 10 rfl _ (tch (Zbc hm) rfl)) (Nat.le_trans (Nat.le_add_right _ _) a8.n))))
       .refine ZP ?_ ?_
        .exact nofun
        .exact nofun
       .refine ZP ?_ ?_
        .exact nofun
        .exact nofun
       .refine ZfP rfl ?_
        .exact(λr hm hc=>hc (aV.base r (Nat.lt_of_lt_of_le (am.ltAt 10 rfl _ (tch (Zbc hm) rfl)) (Nat.le_trans (Nat.le_add_right _ _) a8.n))))
       .refine ZfP rfl ?_
        .exact(λr hm hc=>hc (b0.base r (Nat.lt_of_lt_of_le (am.ltAt 10 rfl _ (tch (Zbc hm) rfl)) (Nat.le_trans (Nat.le_add_right _ _) cK.n))))
      refine ZC (Zcx (Zby (Zcd rfl ZaF) ?_));cases hp;exact⟨rfl,(df.pk [])⟩
     .refine Zag rfl g (Zag rfl g (Zag rfl g (Zag rfl g (Zag rfl g (Zag rfl g (Zag rfl g (Zag rfl g (Zag rfl g (Zag rfl g (Zag rfl g (Z7 (Zci (v:=.b false) rfl g rfl) (Za6 (.b false) rfl (Zbz ?_)))))))))))));refine And.intro ?_ ?_
      .intro q hq;simp only[List.mem_cons,List.not_mem_nil,or_false]at hq;rcases hq with rfl|rfl|rfl|rfl|rfl|rfl|rfl|rfl|rfl|rfl|rfl|rfl
       .refine ZP ?_ ?_
        .exact nofun
        .exact nofun
       .refine Zj6 rfl rfl ?_
        .exact(λr hm hc=>hc (ay.base r (Nat.lt_of_lt_of_le (am.ltAt 10 rfl _ (tch (Zbc hm) rfl)) (Nat.le_trans (Nat.le_add_right _ _) aD.n))))
       .refine ZP ?_ ?_
        .exact nofun
        .exact nofun
       .refine ZP ?_ ?_
        .exact nofun
        .exact nofun
       .refine ZfP rfl ?_
        .exact(λr hm hc=>hc (ay.base r (Nat.lt_of_lt_of_le (am.ltAt 10 rfl _ (tch (Zbc hm) rfl)) (Nat.le_trans (Nat.le_add_right _ _) aD.n))))
       .refine ZfP rfl ?_
        .exact(λr hm hc=>hc (aU.base r (Nat.lt_of_lt_of_le (am.ltAt 10 rfl _ (tch (Zbc hm) rfl)) (Nat.le_trans (Nat.le_add_right _ _) a9.n))))
       .exact Zen
       .exact Zen
       .exact Zen
       .exact Zen
       .exact Zen
       .exact Zen
      refine ZC (Zcx (Zby (Zcd rfl ZaF) ?_));cases hp;exact⟨rfl,(aH.pk [])⟩
    .obtain⟨rfl,dR,am⟩:=bO;refine ZeV (Zcp (Zby (Zcd dR ZaF) ?_));cases hp;exact⟨rfl,(am.pk [])⟩
   .obtain⟨rfl,dF,aP⟩:=bM;refine ZeV (Zcp (Zby (Zcd dF ZaF) ?_));cases hp;exact⟨rfl,(aP.pk [])⟩

section
attribute [local irreducible] W WO WD WF Ex.then Ex.blk act V.cut V.elt ck Option.bind Zn Fq Gq X Via Out At Keep Rd V.cells gi
theorem Zac.ok{h:Hp}{s:ByteArray}   {r:Bool}(hp:Zac s=some r) :
  ∃u k',Is G 217 [.s s] h u k'/\V.b r=u/\Own (λr=>r<h.n) h k' []:=have l0:=λa=>@Zbd _ _ (Zac.s0 a) (λf=>[]) (λf w=>[]) (λO R f w i fr k=>At fr [(3,V.n i)]/\O k (R)) (λO R f w x e fr k=>match x with|.inl _=>e=(.exit 0)/\At fr []/\O k (R)|.inr _=>e=.ret/\At fr [(2,V.b false)]/\O k (R));au

theorem zt.ok{h:Hp}{s:zf}{v_s_Boxes:V}{v_s_Edges:V}(s_s_Boxes:Sl e_bool h v_s_Boxes s.Boxes)(s_s_Edges:Sl zo h v_s_Edges s.Edges){r:Int}(hp:zt s=some r) :
  ∃u k',Is G 197 [.ag [v_s_Boxes,v_s_Edges]] h u k'/\V.n r=u/\Own (λr=>r<h.n) h k' []:=have c0:=@Zac.ok;have l0:=λa=>@Zbd _ _ (zt.s0 a) (λf=>[]) (λf w=>[]) (λO R f w x fr k=>match x with|(n,i)=>At fr [(3,V.n n),(4,V.n i)]/\O k (R)) (λO R f w n1 e fr k=>e=(.exit 0)/\At fr [(3,V.n n1)]/\O k (R));have l1:=λa=>@Zbd _ _ (zt.s1 a) (λf=>[]) (λf w=>[]) (λO R f w i1 fr k=>At fr [(5,V.n i1)]/\O k (R)) (λO R f w x e fr k=>match x with|.inl _=>e=(.exit 2)/\At fr []/\O k (R)|.inr x=>e=.ret/\At fr [(2,V.n x)]/\O k (R));au

end
end Mu
