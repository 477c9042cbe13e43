/- The code comes to what was worked out. -/
import Derived.Test.YtjhlegefgllihaaGreatMuDf
import Derived.Test.YtjhlegefgllihaaGreatMuPa
import Derived.Test.YtjhlegefgllihaaGreatMuTb
import Derived.Test.YtjhlegefgllihaaGreatMuC6
set_option linter.unusedVariables false
set_option linter.unnecessarySimpa false
set_option linter.unusedSimpArgs false
set_option maxHeartbeats 2000000
set_option maxRecDepth 10000
namespace Mu
open Go (IntKind BinOp UnOp)
section
attribute [local irreducible] W WO WD WF Ex.then Ex.blk act V.cut V.elt ck Option.bind Zn Fq Gq X Via Out At Keep Rd V.cells gi
theorem ZB.ok{h:Hp}{l:List Za}{v:Int}{v_l:V}(s_l:Sl Zh h v_l l){r:(List Int)}(hp:ZB l v=some r) :
  ∃u k',Is G 36 [v_l,.n v] h u k'/\∃g,g=u/\Own (λr=>r<h.n) h k' [eSl Zm g r]:=have e0:=hv Zm;have l0:=λa=>@Zbd _ _ (ZB.s0 a) (λf=>[]) (λf w=>[.v (f 5)]) (λO R f w x fr k=>match x with|(far,i)=>At fr [(6,V.n i)]/\O k (eSl Zm (f 5) far::R)) (λO R f w far1 e fr k=>e=(.exit 0)/\At fr []/\O k (eSl Zm (f 5) far1::R));have l1:=λa=>@Zbd _ _ (ZB.s1 a) (λf=>[]) (λf w=>[.v (f 5)]) (λO R f w x fr k=>match x with|(far2,round)=>At fr [(7,V.n round)]/\O k (eSl Zm (f 5) far2::R)) (λO R f w far3 e fr k=>e=(.exit 2)/\At fr []/\O k (eSl Zm (f 5) far3::R));have l2:=λa b=>@Zbd _ _ (ZB.s2 a b) (λf=>[]) (λf w=>[.v (f 5)]) (λO R f w x fr k=>match x with|(far4,i1)=>At fr [(8,V.n i1)]/\O k (eSl Zm (f 5) far4::R)) (λO R f w far5 e fr k=>e=(.exit 4)/\At fr []/\O k (eSl Zm (f 5) far5::R));have l3:=λa b c=>@Zbd _ _ (ZB.s3 a b c) (λf=>[]) (λf w=>[.v (f 5)]) (λO R f w x fr k=>match x with|(far6,d)=>At fr [(9,V.n d)]/\O k (eSl Zm (f 5) far6::R)) (λO R f w far7 e fr k=>e=(.exit 6)/\At fr []/\O k (eSl Zm (f 5) far7::R));au

theorem zj.ok{h:Hp}{l:List Za}{v_l:V}(s_l:Sl Zh h v_l l){r:(List (List Int))}(hp:zj l=some r) :
  ∃u k',Is G 30 [v_l] h u k'/\∃c m,c=u/\Own (λr=>r<h.n) h k' [eSl eV c m,Zx Zm m r]:=have e0:=hv e_bool;have e1:=hv Zm;have e2:=hv eV;have c0:=@ZB.ok;have l0:=λa=>@Zbd _ _ (zj.s0 a) (λf=>[]) (λf w=>[.v (f 3)]) (λO R f w x fr k=>match x with|(in_,out,v)=>∃d o,At fr [(4,d),(5,V.n v)]/\O k (eSl e_bool (f 3) in_::eSl eV d o::Zx Zm o out::R)) (λO R f w out1 e fr k=>e=(.exit 0)/\∃g q,At fr [(4,g)]/\O k (eSl eV g q::Zx Zm q out1::R));have l1:=λa b=>@Zbd _ _ (zj.s1 a b) (λf=>[]) (λf w=>[.v (f 3)]) (λO R f w x fr k=>match x with|(in_1,p,w)=>∃i,At fr [(7,i),(8,V.n w)]/\O k (eSl e_bool (f 3) in_1::eSl Zm i p::R)) (λO R f w x e fr k=>match x with|(in_2,p1)=>e=(.exit 2)/\∃j,At fr [(7,j)]/\O k (eSl e_bool (f 3) in_2::eSl Zm j p1::R));au

theorem zG.ok{h:Hp}{l:List Za}{d:Zs}{v_l:V}(s_l:Sl Zh h v_l l){r:Zs}(hp:zG l d=some r) :
  ∃u k',Is G 202 [v_l,.ag (Z6.c d)] h u k'/\V.ag (Z6.c r)=u/\Own (λr=>r<h.n) h k' []:=have e0:=hv Zm;have l0:=λa b=>@Zbd _ _ (zG.s0 a b) (λf=>[]) (λf w=>[.r (rf (f 4))]) (λO R f w i fr k=>At fr [(7,V.n i)]/\O k (Z3 (rf (f 4)) (Z6.c (⟨0,0⟩:Zs))::R)) (λO R f w x e fr k=>match x with|.inl _=>e=(.exit 0)/\At fr []/\O k (Z3 (rf (f 4)) (Z6.c (⟨0,0⟩:Zs))::R)|.inr x=>e=.ret/\At fr []/\O k (Z3 (rf (f 4)) (Z6.c x)::R));au

end
theorem ZE.ok{h:Hp}{l:List Za}{v_l:V}(s_l:Sl Zh h v_l l){r:(List (List Zs))}(hp:ZE l=some r) :
  ∃u k',Is G 177 [v_l] h u k'/\∃ax aA,ax=u/\Own (λr=>r<h.n) h k' [eSl eV ax aA,Zx Z6 aA r]:=by
 refine WC.is (Zde ?_);unfold ZE at hp;let B:Nat->Prop:=(λr=>r<h.n);have hO:Own B h h []:=Own.start0 h;refine Z4 (Zg (.sn) rfl (Zp (Z4 (Zg v_l rfl (Ze (Za4 (hO.rd0 s_l.rd) rfl) (ckk hp λaF hp=>Ze (Zie rfl rfl aF) (ckk hp λaK hp=>zE (hO.mks (E:=e_bool) (y:=false) (bytes:=1) (z:=(4*(l.length:Int))) hO.fr rfl rfl rfl aK (by decide)) ?_)))))));rintro g _ ⟨_,_,aQ⟩;refine Zg g rfl (Zp (Z4 (Zg (.sn) rfl (Zp (zw (Z4 (Zg (.n 0) rfl (Zp ?_))))))));refine ZaB ?_;have aX:=aQ.nil eV;have aY:=aX.allNil Z6 0;refine Zcw hp (fun|(met,out,v),fr,k=>∃H J,fr 0=v_l/\fr 3=g/\fr 4=H/\fr 5=.n v/\Own B h k [eSl e_bool g met,eSl eV H J,Zx Z6 J out]) (λout1 e fr k=>e=(.exit 0)/\∃I R,fr 4=I/\Own B h k [eSl eV I R,Zx Z6 R out1]) ⟨V.sn,[],rfl,rfl,rfl,rfl,(aY.pk [0,1,2])⟩ ?_ ?_
 .rintro⟨met,out,v⟩ _ _ ⟨H,J,ao,a7,ap,aq,ad⟩ _ hp;dsimp only[ZE.s0]at hp;refine zw (Z4 (Zg _ aq (Zg _ ao (Ze (Za4 (ad.rd0 s_l.rd) rfl) (Ze (ZaH rfl rfl) (Zp (ZaC hp rfl (λaB hp=>?_) (λaB hp=>?_))))))))
  .refine Zb8 (zw (ZaB (Z4 (Zg (.n 0) rfl (Zp (ZaB (Zcw hp (fun|(met1,out2,e_),fr,k=>∃m i,fr 0=v_l/\fr 3=g/\fr 4=m/\fr 5=.n v/\fr 6=.n e_/\Own B h k [eSl e_bool g met1,eSl eV m i,Zx Z6 i out2]) (fun|(met2,out3),e,fr,k=>e=(.exit 2)/\∃P S,fr 0=v_l/\fr 3=g/\fr 4=P/\fr 5=.n v/\Own B h k [eSl e_bool g met2,eSl eV P S,Zx Z6 S out3]) ⟨H,J,ao,a7,ap,aq,rfl,(ad.pk [0,1,2])⟩ ?_ ?_)))))))
   .rintro⟨met1,out2,e_⟩ _ a5 ⟨m,i,M,N,ae,D,F,j⟩ _ hp;dsimp only[ZE.s1]at hp;refine zw (Z4 (Zg _ F (Ze (ZaH rfl rfl) (Zp (ZaC hp rfl (λaC hp=>?_) (λaC hp=>?_))))))
    .refine Zb8 (zw (ZaB (zw (Z4 (Zg _ M (Zg _ D (Zg _ F (ckk hp λL hp=>Ze (Zaq (j.rd0 s_l.rd) rfl rfl L) (Ze (ZdM (j.rd0 s_l.rd) (Zu L) rfl rfl) (ckk hp λai hp=>?_))))))))));refine Ze (ZcX (j.rd0 s_l.rd) (Zu L) rfl rfl ai rfl) (Ze (Zbx (j.rd0 s_l.rd) rfl (Zu L) (Zcz ai)) (Ze (ZaH rfl rfl) (Zg (.b (decide ((((gi l v.toNat).Next).get e_)<0))) rfl ?_)));obtain⟨t,a3,hp⟩:=ZbL hp;refine Zcn 8 (λf k=>a5=k/\f 39=.b t/\f 0=v_l/\f 3=g/\f 4=m/\f 5=.n v/\f 6=.n e_) ?_ ?_
     .clear hp;rcases Zd7 a3 with⟨a,hp⟩|⟨a,hp⟩
      .refine ZX rfl a (ZX rfl a (ZX rfl a (ZX rfl a (ZX rfl a (ZX rfl a (ZX rfl a (Ze (Zc7 (v:=.b t) rfl a (Eq.trans (b:=V.b true) rfl (congrArg V.b (Option.some.inj hp)))) (Z8 ?_))))))));exact⟨rfl,rfl,M,N,ae,D,F⟩
      .refine zD rfl a (Zg _ N (zD rfl a (Zg _ D (zD rfl a (ckk hp λaL hp=>Ze (Zie rfl rfl aL) (zD rfl a (Zg _ F (zD rfl a (ckk hp λaM hp=>Ze (Zam rfl rfl aM) (zD rfl a (ckk hp λaj hp=>?_)))))))))));refine Ze (Zaq (j.sl 0 rfl) rfl rfl aj) (zD rfl a (Ze (Zbx (j.sl 0 rfl) rfl (Zu aj) rfl) (Ze (Zci (v:=.b t) rfl a (Eq.trans (b:=V.b (gi met1 ((4*v)+e_:Int).toNat)) rfl (congrArg V.b (Option.some.inj hp)))) (Z8 ?_))));exact⟨rfl,rfl,M,N,ae,D,F⟩
     rintro _ _ ⟨rfl,aP,al,am,an,T,U⟩;refine Zp (ZaC hp aP (λaD hp=>?_) (λaD hp=>?_))
     .refine ZbX (Zaz (ZaU (ZC (Za5 (Zg _ U (ckk hp λaN hp=>Ze (Zam rfl rfl aN) (Zg (.n (e_+1)) rfl (Z8 ?_))))))));cases hp;exact⟨rfl,m,i,al,am,an,T,rfl,(j.pk [0,1,2])⟩
     .refine Zb8 (Z4 (Zg (.sn) rfl (Zp (Z4 (Zg _ T (Zg _ U (Ze (Zbv (cs:=Z6.c (⟨v,e_⟩:Zs)) (by rw[(ZZ (v:=.n v) rfl (ZZ (v:=.n e_) rfl Zas))];rfl)) (zE (j.alloc (cs:=Z6.c (⟨0,0⟩:Zs)) j.fr) ?_))))))));rintro _ _ ⟨w,rfl,_,_,a0⟩;refine zE (a0.stb (cs':=Z6.c (⟨v,e_⟩:Zs)) 3 rfl rfl rfl rfl ⟨rfl,Nat.le_of_ble_eq_true rfl,rfl⟩ rfl) ?_;rintro _ _ ⟨rfl,_,_,a1⟩;refine Zp (zw (ZaB ?_));have aR:=a1.nil Z6;refine Zcw hp (fun|(met3,f,d),fr,k=>∃Q,fr 0=v_l/\fr 3=g/\fr 4=m/\fr 5=.n v/\fr 6=.n e_/\fr 7=Q/\fr 8=.p w 0/\Own B h k [eSl e_bool g met3,eSl eV m i,Zx Z6 i out2,eSl Z6 Q f,Z3 w (Z6.c d)]) (fun|(met4,f1),e,fr,k=>e=(.exit 4)/\∃A,fr 0=v_l/\fr 3=g/\fr 4=m/\fr 5=.n v/\fr 6=.n e_/\fr 7=A/\Own B h k [eSl e_bool g met4,eSl eV m i,Zx Z6 i out2,eSl Z6 A f1]) ⟨V.sn,al,am,an,T,U,rfl,rfl,(aR.pk [0,1,2,4,3])⟩ ?_ ?_
      .rintro⟨met3,f,d⟩ _ _ ⟨Q,af,O,ar,au,av,aw,s,q⟩ _ hp;dsimp only[ZE.s2]at hp;refine zw (Z4 (Zg _ O (Ze (zm (r:=w) (o:=0) s rfl) (Ze (ZQ (q.box 4 rfl) rfl rfl) (ckk hp λak hp=>Ze (Zie rfl rfl ak) (Ze (zm (r:=w) (o:=0) s rfl) (Ze (ZQ (q.box 4 rfl) rfl rfl) (ckk hp λah hp=>Ze (Zam rfl rfl ah) (ckk hp λK hp=>Ze (Zaq (q.sl 0 rfl) rfl rfl K) ?_)))))))));refine Ze (Zbx (q.sl 0 rfl) rfl (Zu K) rfl) (Ze (ZeU rfl) (Zp (ZaC hp rfl (λaE hp=>?_) (λaE hp=>?_))))
       .refine Zb8 (ZaB (Z4 (Zg _ O (Ze (zm (r:=w) (o:=0) s rfl) (Ze (ZQ (q.box 4 rfl) rfl rfl) (Ze (Zie rfl rfl ak) (Ze (zm (r:=w) (o:=0) s rfl) (Ze (ZQ (q.box 4 rfl) rfl rfl) (Ze (Zam rfl rfl ah) (Ze (Zaq (q.sl 0 rfl) rfl rfl K) (zE (q.ste (y:=true) 0 rfl rfl (Zu K) rfl rfl ⟨rfl,Nat.le_of_ble_eq_true rfl,rfl⟩ rfl) ?_)))))))))));rintro _ _ ⟨rfl,_,_,aa⟩;refine Zp (Z4 (Zg _ aw (Ze (Za7 (aa.box 4 rfl) s rfl) (zE (aa.bsl (E:=Z6) (l:=[d]) aa.fr (by rw[(ZZ (v:=.ag (Z6.c d)) rfl Zas)];rfl) rfl) ?_))));rintro _ _ ⟨_,_,ab⟩;refine ckk hp λaG hp=>zE (ab.app (bytes:=16) 3 ab.fr rfl (ab.sl 5 rfl) rfl rfl (λ_=>rfl) aG (by decide)) ?_;rintro ay a4 ⟨_,ac⟩;refine Zg ay rfl (Zp (Za5 (Zg _ af (Ze (Za7 (ac.box 4 rfl) s rfl) ?_))));obtain⟨x,⟨_,_,aO,rfl,a2⟩,hp⟩:=bdk hp λ_=>zG.ok (h:=a4)  (ac.rd0 s_l.rd);refine Zcq rfl rfl aO ?_;have aS:=ac.call a2 rfl;refine zE (aS.stb (cs':=Z6.c x) 4 rfl s rfl rfl ⟨rfl,Nat.le_of_ble_eq_true rfl,rfl⟩ rfl) ?_;rintro _ _ ⟨rfl,_,_,aT⟩;refine Z8 (ZaI ?_);cases hp;exact⟨rfl,ay,af,O,ar,au,av,rfl,s,(aT.pk [0,1,2,3,4])⟩
       .refine ZbX (Zaz ?_);cases hp;exact⟨nofun,rfl,Q,af,O,ar,au,av,aw,(q.pk [0,1,2,3])⟩
      rintro⟨met4,f1⟩ hp _ _ _ ⟨rfl,A,bc,bd,be,bf,bg,bh,Y⟩;refine ZaU (ZC (Za5 (Zg _ be (Zg _ bh (zE (Y.bsl (E:=eV) (l:=[A]) Y.fr (by rw[(ZZ (v:=A) rfl Zas)];simp only[fill,(Y.sl 3 rfl).cells];simp[over]) rfl) ?_)))));rintro _ _ ⟨_,_,C⟩;refine ckk hp λaH hp=>zE (C.appV (bytes:=24) 1 C.fr rfl (C.sl 4 rfl) rfl rfl (by simp only[List.all_cons,List.all_nil,Bool.and_true];exact(C.sl 3 rfl).oneV) (by rw[(C.allLen 2 rfl:(i).length=(out2).length)];exact aH) (by decide)) ?_;rintro az _ ⟨_,aU⟩;have aW:=aU.absorb 2 3 rfl rfl (by decide);refine Zg az rfl (Z8 (ZaI (ZC (Za5 (Zg _ bg (ckk hp λaI hp=>Ze (Zam rfl rfl aI) (Zg (.n (e_+1)) rfl (Z8 ?_))))))));cases hp;exact⟨rfl,az,i++[A],bc,bd,rfl,bf,rfl,(aW.pk [0,1,2])⟩
    .refine ZbX (Zaz ?_);cases hp;exact⟨nofun,rfl,m,i,M,N,ae,D,(j.pk [0,1,2])⟩
   rintro⟨met2,out3⟩ hp _ _ _ ⟨rfl,P,S,a8,a9,ba,bb,aZ⟩;refine ZaU (ZaI (ZC (Za5 (Zg _ bb (ckk hp λaJ hp=>Ze (Zam rfl rfl aJ) (Zg (.n (v+1)) rfl (Z8 ?_)))))));cases hp;exact⟨rfl,P,S,a8,a9,ba,rfl,(aZ.pk [0,1,2])⟩
  .refine ZbX (Zaz ?_);cases hp;exact⟨nofun,rfl,H,J,ap,(ad.pk [1,2])⟩
 rintro out1 hp _ _ _ ⟨rfl,I,R,a6,aV⟩;refine ZaU (ZC (Z4 (Zg _ a6 (Zg I rfl (Zp (Zcx (Zby (Zcd rfl ZaF) ?_)))))));cases hp;exact⟨I,R,rfl,(aV.pk [0,1])⟩

section
attribute [local irreducible] W WO WD WF Ex.then Ex.blk act V.cut V.elt ck Option.bind Zn Fq Gq X Via Out At Keep Rd V.cells gi
theorem Zbs.ok{h:Hp}{d:Int}   {r:Bool}(hp:Zbs d=some r) :
  ∃u k',Is G 223 [.n d] h u k'/\V.b r=u/\Own (λr=>r<h.n) h k' []:=au

theorem Zca.ok{h:Hp}{d:Int}{times:Int}   {r:Int}(hp:Zca d times=some r) :
  ∃u k',Is G 224 [.n d,.n times] h u k'/\V.n r=u/\Own (λr=>r<h.n) h k' []:=have c0:=@Zbs.ok;au

theorem ZbD.ok{h:Hp}{d:Int}{e_:Int}   {r:Int}(hp:ZbD d e_=some r) :
  ∃u k',Is G 207 [.n d,.n e_] h u k'/\V.n r=u/\Own (λr=>r<h.n) h k' []:=have c0:=@Zbs.ok;have c1:=@Zca.ok;au

theorem Zan.ok{h:Hp}{l:List Za}{f:List Zs}{v_l:V}{v_f:V}(s_l:Sl Zh h v_l l)(s_f:Sl Z6 h v_f f){r:(List Int)}(hp:Zan l f=some r) :
  ∃u k',Is G 182 [v_l,v_f] h u k'/\∃c,c=u/\Own (λr=>r<h.n) h k' [eSl Zm c r]:=have e0:=hv Zm;have c0:=@zG.ok;have c1:=@ZbD.ok;have l0:=λa b=>@Zbd _ _ (Zan.s0 a b) (λf=>[]) (λf w=>[]) (λO R f w x fr k=>match x with|(out,i)=>∃d,At fr [(5,d),(6,V.n i)]/\O k (eSl Zm d out::R)) (λO R f w out1 e fr k=>e=(.exit 0)/\∃g,At fr [(5,g)]/\O k (eSl Zm g out1::R));au

end
end Mu
