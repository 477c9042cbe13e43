/- The code comes to what was worked out. -/
import Derived.Test.YtjhlegefgllihaaGreatMuDf
import Derived.Test.YtjhlegefgllihaaGreatMuPa
import Derived.Test.YtjhlegefgllihaaGreatMuTb
import Derived.Test.YtjhlegefgllihaaGreatMuC1
set_option linter.unusedVariables false
set_option linter.unnecessarySimpa false
set_option linter.unusedSimpArgs false
set_option maxHeartbeats 2000000
set_option maxRecDepth 10000
namespace Mu
open Go (IntKind BinOp UnOp)
section
attribute [local irreducible] W WO WD WF Ex.then Ex.blk act V.cut V.elt ck Option.bind Zn Fq Gq X Via Out At Keep Rd V.cells gi
theorem ZcI.ok{h:Hp}{cells:List Za}{v_cells:V}(s_cells:Sl Zh h v_cells cells){r:Bool}(hp:ZcI cells=some r) :
  ∃u k',Is G 32 [v_cells] h u k'/\V.b r=u/\Own (λr=>r<h.n) h k' []:=have c0:=@Zap.ok;au

end
theorem ZaJ.ok{h:Hp}{d:Z1}{cells:List Za}{v_cells:V}(s_cells:Sl Zh h v_cells cells){r:Bool}(hp:ZaJ d cells=some r) :
  ∃u k',Is G 220 [.ag (Zy.c d),v_cells] h u k'/\V.b r=u/\Own (λr=>r<h.n) h k' []:=by
 refine WC.is (Zde ?_);unfold ZaJ at hp;let B:Nat->Prop:=(λr=>r<h.n);have hO:Own B h h []:=Own.start0 h;refine Z4 (zE (hO.boxd (cs:=Zy.c d) hO.fr rfl rfl) ?_);rintro _ t ⟨j,rfl,_,_,p⟩;refine Zg (.b false) rfl (Zp (zw (ZdQ ?_)));have i:=p.bump 28;refine Z7 (zm (r:=j) (o:=0) rfl rfl) (Z7 (ZQ (i.box 0 rfl) rfl rfl) (Z7 (Zlb rfl rfl) (Za6 (.b (decide (0<=d.Cell))) rfl ?_)));refine ifk hp (λe hp=>?_) (λe hp=>?_)
 .refine Zce rfl e (Z7 (zm (r:=j) (o:=0) rfl rfl) (Zce rfl e (Z7 (ZQ (i.box 0 rfl) rfl rfl) (Zce rfl e (Za6 v_cells rfl (Zce rfl e (Z7 (Za4 (i.rd0 s_cells.rd) rfl) (Zce rfl e (Z7 (ZaH rfl rfl) (Z7 (Zc7 (v:=.b (decide (d.Cell<(cells.length:Int)))) rfl e rfl) (Za6 (.b (decide (d.Cell<(cells.length:Int)))) rfl ?_)))))))))));refine ifk hp (λf hp=>?_) (λf hp=>?_)
  .refine Zce rfl f (Z7 (zm (r:=j) (o:=0) rfl rfl) (Zce rfl f (Z7 (ZQ (i.box 0 rfl) rfl rfl) (Zce rfl f ?_))));obtain⟨x,⟨_,_,m,rfl,s⟩,hp⟩:=bdk hp λ_=>Zbm.ok (h:=(t.bump 28))  ;refine Zev rfl rfl m ?_;have g:=i.call s rfl;refine Z7 (Zc7 (v:=.b x) rfl f rfl) (Za6 (.b x) rfl ?_);refine ifk hp (λa hp=>?_) (λa hp=>?_)
   .refine Zce rfl a (Za6 v_cells rfl (Zce rfl a (Z7 (zm (r:=j) (o:=0) rfl rfl) (Zce rfl a (Z7 (ZQ (g.box 0 rfl) rfl rfl) (Zce rfl a (Z7 (zm (r:=j) (o:=0) rfl rfl) (Zce rfl a (Z7 (ZQ (g.box 0 rfl) rfl rfl) (Zce rfl a (ckk hp λk hp=>Z7 (Zaq (g.rd0 s_cells.rd) rfl rfl k) (Zce rfl a ?_))))))))))));refine Z7 (ZdM (g.rd0 s_cells.rd) (Zu k) rfl rfl) (Zce rfl a (ckk hp λl hp=>Z7 (ZcX (g.rd0 s_cells.rd) (Zu k) rfl rfl l rfl) (Zce rfl a (Z7 (Zbx (g.rd0 s_cells.rd) rfl (Zu k) (Zcz l)) (Zce rfl a (Z7 (Zlb rfl rfl) (Z7 (Zc7 (v:=.b (decide (0<=(((gi cells (d.Cell:Int).toNat).Next).get d.Dir)))) rfl a rfl) (Za6 (.b (decide (0<=(((gi cells (d.Cell:Int).toNat).Next).get d.Dir)))) rfl (Zbz ?_)))))))));refine And.intro ?_ ?_
    .intro q hq;simp only[List.mem_cons,List.not_mem_nil,or_false]at hq;rcases hq with rfl
     .refine ZP ?_ ?_
      .exact nofun
      .exact nofun
    refine ZC (Zcx (Zby (Zcd rfl ZaF) ?_));cases hp;exact⟨rfl,(g.pk [])⟩
   .refine Zag rfl a (Zag rfl a (Zag rfl a (Zag rfl a (Zag rfl a (Zag rfl a (Zag rfl a (Zag rfl a (Zag rfl a (Zag rfl a (Z7 (Zci (v:=.b false) rfl a rfl) (Za6 (.b false) rfl (Zbz ?_))))))))))));refine And.intro ?_ ?_
    .intro q hq;simp only[List.mem_cons,List.not_mem_nil,or_false]at hq;rcases hq with rfl
     .exact Zen
    refine ZC (Zcx (Zby (Zcd rfl ZaF) ?_));cases hp;exact⟨rfl,(g.pk [])⟩
  .refine Zag rfl f (Zag rfl f (Zag rfl f (Z7 (Zci (v:=.b false) rfl f rfl) (Za6 (.b false) rfl (Zag rfl rfl (Zag rfl rfl (Zag rfl rfl (Zag rfl rfl (Zag rfl rfl (Zag rfl rfl (Zag rfl rfl (Zag rfl rfl (Zag rfl rfl ?_)))))))))))));refine Zag rfl rfl (Z7 (Zci (v:=.b false) rfl rfl rfl) (Za6 (.b false) rfl (Zbz ?_)));refine And.intro ?_ ?_
   .intro q hq;simp only[List.mem_cons,List.not_mem_nil,or_false]at hq;rcases hq with rfl
    .exact Zen
   refine ZC (Zcx (Zby (Zcd rfl ZaF) ?_));cases hp;exact⟨rfl,(i.pk [])⟩
 .refine Zag rfl e (Zag rfl e (Zag rfl e (Zag rfl e (Zag rfl e (Z7 (Zci (v:=.b false) rfl e rfl) (Za6 (.b false) rfl (Zag rfl rfl (Zag rfl rfl (Zag rfl rfl (Z7 (Zci (v:=.b false) rfl rfl rfl) (Za6 (.b false) rfl (Zag rfl rfl (Zag rfl rfl ?_)))))))))))));refine Zag rfl rfl (Zag rfl rfl (Zag rfl rfl (Zag rfl rfl (Zag rfl rfl (Zag rfl rfl (Zag rfl rfl (Zag rfl rfl (Z7 (Zci (v:=.b false) rfl rfl rfl) (Za6 (.b false) rfl (Zbz ?_))))))))));refine And.intro ?_ ?_
  .intro q hq;simp only[List.mem_cons,List.not_mem_nil,or_false]at hq;rcases hq with rfl
   .exact Zen
  refine ZC (Zcx (Zby (Zcd rfl ZaF) ?_));cases hp;exact⟨rfl,(i.pk [])⟩

section
attribute [local irreducible] W WO WD WF Ex.then Ex.blk act V.cut V.elt ck Option.bind Zn Fq Gq X Via Out At Keep Rd V.cells gi
theorem zS.ok{h:Hp}{d:Z1}{cells:List Za}{v_cells:V}(s_cells:Sl Zh h v_cells cells){r:Z1}(hp:zS d cells=some r) :
  ∃u k',Is G 221 [.ag (Zy.c d),v_cells] h u k'/\V.ag (Zy.c r)=u/\Own (λr=>r<h.n) h k' []:=have c0:=@ZaV.ok;have c1:=@ZaJ.ok;have l0:=λa b=>@Zbd _ _ (zS.s0 a b) (λf=>[]) (λf w=>[.r (rf (f 4))]) (λO R f w x fr k=>At fr [(19,V.n x)]/\O k (Z3 (rf (f 4)) (Zy.c (⟨0,0⟩:Z1))::R)) (λO R f w x e fr k=>match x with|.inl _=>e=(.exit 0)/\At fr []/\O k (Z3 (rf (f 4)) (Zy.c (⟨0,0⟩:Z1))::R)|.inr x1=>e=.ret/\At fr []/\O k (Z3 (rf (f 4)) (Zy.c x1)::R));au

end
theorem zQ.ok{h:Hp}{cells:List Za}{v_cells:V}(s_cells:Sl Zh h v_cells cells){r:(List (List Z1))×Int}(hp:zQ cells=some r) :
  ∃u k',Is G 203 [v_cells] h u k'/\∃aB aE,V.tu [aB,.n r.2]=u/\Own (λr=>r<h.n) h k' [eSl eV aB aE,Zx Zy aE r.1]:=by
 refine WC.is (Zde ?_);unfold zQ at hp;let B:Nat->Prop:=(λr=>r<h.n);have hO:Own B h h []:=Own.start0 h;refine Z4 (Zg (.sn) rfl (Zg (.n 0) rfl (Zp (zw (Z4 (Zg v_cells rfl ?_))))));obtain⟨x,⟨_,_,aP,rfl,a9⟩,hp⟩:=bdk hp λ_=>zC.ok (h:=h)  (hO.rd0 s_cells.rd);refine Zcq rfl rfl aP ?_;have O:=hO.call a9 rfl;refine Zg (.n x) rfl (Zp (Z4 (Zg (.n x) rfl (Ze (Zf4 rfl rfl) (Zp (ZaC hp rfl (λaF hp=>?_) (λaF hp=>?_)))))))
 .refine Z4 (Zg (.n x) rfl (Zg (.sn) rfl (Zg (.n x) rfl (Zp (Zcx (Zcp ?_))))));have aY:=O.nil eV;have a4:=aY.allNil Zy 0;refine Zby (Zcd rfl (Zcd rfl ZaF)) ?_;cases hp;exact⟨V.sn,[],rfl,(a4.pk [0,1])⟩
 .refine Zb8 (Z4 (Zg (.sn) rfl (Zp (Z4 (zE (O.mkm Zy O.fr) ?_)))));rintro _ _ ⟨a,rfl,_,_,ap⟩;refine Zg (.mp a) rfl (Zp (zw (Z4 (Zg v_cells rfl (Ze (Za4 (ap.rd0 s_cells.rd) rfl) (Zg (.n 0) rfl (Zp (ZaB ?_))))))));have a6:=ap.nil eV;have a7:=a6.allNil Zy 0;refine Zcw hp (fun|(l,met,x1),fr,k=>∃y C,fr 0=v_cells/\fr 5=y/\fr 6=.mp a/\fr 19=.n (cells.length:Int)/\fr 20=.n x1/\Own B h k [eSl eV y C,Zx Zy C l,eMp Zy a met]) (λl1 e fr k=>e=(.exit 0)/\∃A M,fr 5=A/\Own B h k [eSl eV A M,Zx Zy M l1]) ⟨V.sn,[],rfl,rfl,rfl,rfl,rfl,(a7.pk [1,2,0])⟩ ?_ ?_
  .rintro⟨l,met,x1⟩ _ _ ⟨y,C,bh,au,bi,ar,aa,aq⟩ _ hp;dsimp only[zQ.s0]at hp;refine Z4 (Ze (ZaH aa ar) (Zp (zw (ZaC hp rfl (λaG hp=>?_) (λaG hp=>?_)))))
   .refine Zb8 (zw (ZaB (Z4 (Zg _ aa (Zg (.n x1) rfl (Zp (Z4 (Zg (.n 0) rfl (Z8 ?_)))))))));refine ZC (ZaB (Zcw hp (fun|(l2,met1,x2),fr,k=>∃g d,fr 0=v_cells/\fr 5=g/\fr 6=.mp a/\fr 7=.n x1/\fr 19=.n (cells.length:Int)/\fr 20=.n x1/\fr 23=.n x2/\Own B h k [eSl eV g d,Zx Zy d l2,eMp Zy a met1]) (fun|(l3,met2),e,fr,k=>e=(.exit 2)/\∃K N,fr 0=v_cells/\fr 5=K/\fr 6=.mp a/\fr 19=.n (cells.length:Int)/\fr 20=.n x1/\Own B h k [eSl eV K N,Zx Zy N l3,eMp Zy a met2]) ⟨y,C,bh,au,bi,rfl,ar,aa,rfl,(aq.pk [0,1,2])⟩ ?_ ?_))
    .rintro⟨l2,met1,x2⟩ _ _ ⟨g,d,D,ad,H,ae,ab,ac,F,P⟩ _ hp;dsimp only[zQ.s1]at hp;refine Z4 (Ze (ZaH F rfl) (Zp (zw (ZaC hp rfl (λaH hp=>?_) (λaH hp=>?_)))))
     .refine Zb8 (zw (ZaB (Z4 (Zg _ F (Zg (.n x2) rfl (Zp (Z4 (Zg _ ae (Zg (.n x2) rfl ?_)))))))));refine Ze (Zbv (cs:=Zy.c (⟨x1,x2⟩:Z1)) (by rw[(ZZ (v:=.n x1) rfl (ZZ (v:=.n x2) rfl Zas))];rfl)) (zE (P.alloc (cs:=Zy.c (⟨0,0⟩:Z1)) P.fr) ?_);rintro _ _ ⟨bw,rfl,_,_,aU⟩;refine zE (aU.stb (cs':=Zy.c (⟨x1,x2⟩:Z1)) 3 rfl rfl rfl rfl ⟨rfl,Nat.le_of_ble_eq_true rfl,rfl⟩ rfl) ?_;rintro _ be ⟨rfl,_,_,Q⟩;refine Zp (zw (Z4 (Ze (Za7 (Q.box 3 rfl) rfl rfl) (Zg _ D ?_))));obtain⟨x3,⟨_,bf,aQ,rfl,ba⟩,hp⟩:=bdk hp λ_=>ZaJ.ok (h:=be)  (Q.rd0 s_cells.rd);refine Zcq rfl rfl aQ ?_;have j:=Q.call ba rfl;refine Ze (ZeU rfl) (Zg (.b (!x3)) rfl (Zcn 4 (λf k=>bf=k/\f 37=.b ((!x3)||(ZeW false (⟨x1,x2⟩:Z1) met1))/\f 0=v_cells/\f 19=.n (cells.length:Int)/\f 20=.n x1/\f 23=.n x2/\f 5=g/\f 6=.mp a/\f 7=.n x1/\f 9=.p bw 0) ?_ ?_))
      .rcases bc (!x3)with i|i
       .refine ZX rfl i (ZX rfl i (ZX rfl i (Ze (ZfN (w:=(!x3)||(ZeW false (⟨x1,x2⟩:Z1) met1)) rfl i rfl) (Z8 ?_))));exact⟨rfl,rfl,D,ab,ac,F,ad,H,ae,rfl⟩
       .refine zD rfl i (Zg _ H (zD rfl i (Ze (Za7 (j.box 3 rfl) rfl rfl) (zD rfl i (Ze (Zp1 (E:=Zy) (m:=met1) (q:=(⟨x1,x2⟩:Z1)) (j.mpP 2 rfl) rfl rfl (Mu.Zy.same)) (Ze (ZfO rfl i rfl) (Z8 ?_)))))));exact⟨rfl,rfl,D,ab,ac,F,ad,H,ae,rfl⟩
      rintro _ _ ⟨rfl,aS,ai,aj,ak,al,am,an,ao,aT⟩;refine Zp (ZaC hp aS (λaI hp=>?_) (λaI hp=>?_))
      .refine ZbX (Zaz (ZaU (ZC (Za5 (ckk hp λaK hp=>Ze (Zam al rfl aK) (Zg (.n (x2+1)) rfl (Z8 ?_)))))));cases hp;exact⟨rfl,g,d,ai,am,an,ao,aj,ak,rfl,(j.pk [0,1,2])⟩
      .refine Zb8 (Z4 (Zg (.sn) rfl (Zp (zw (Z4 (Ze (Za7 (j.box 3 rfl) aT rfl) (zE (j.alloc (cs:=Zy.c (⟨0,0⟩:Z1)) j.fr) ?_)))))));rintro _ _ ⟨bx,rfl,_,_,aV⟩;refine zE (aV.stb (cs':=Zy.c (⟨x1,x2⟩:Z1)) 4 rfl rfl rfl rfl ⟨rfl,Nat.le_of_ble_eq_true rfl,rfl⟩ rfl) ?_;rintro _ _ ⟨rfl,_,_,aW⟩;refine Zp (ZaB ?_);have aX:=aW.nil Zy;refine Zcw hp (fun|(met3,f,x4),fr,k=>∃L ah,fr 0=v_cells/\fr 5=g/\fr 6=.mp a/\fr 7=.n x1/\fr 10=L/\fr 11=.p ah 0/\fr 19=.n (cells.length:Int)/\fr 20=.n x1/\fr 23=.n x2/\Own B h k [eSl eV g d,Zx Zy d l2,eMp Zy a met3,eSl Zy L f,Z3 ah (Zy.c x4)]) (fun|(met4,f1),e,fr,k=>e=(.exit 4)/\∃o,fr 0=v_cells/\fr 5=g/\fr 6=.mp a/\fr 7=.n x1/\fr 10=o/\fr 19=.n (cells.length:Int)/\fr 20=.n x1/\fr 23=.n x2/\Own B h k [eSl eV g d,Zx Zy d l2,eMp Zy a met4,eSl Zy o f1]) ⟨V.sn,bx,ai,am,an,ao,rfl,rfl,aj,ak,al,(aX.pk [0,1,2,5,4])⟩ ?_ ?_
       .rintro⟨met3,f,x4⟩ _ _ ⟨L,ah,af,az,J,aA,av,I,aw,ax,ay,s⟩ _ hp;dsimp only[zQ.s2]at hp;refine zw (Z4 (Zg _ J (Ze (Za7 (s.box 4 rfl) I rfl) (Ze (Zp1 (E:=Zy) (m:=met3) (q:=x4) (s.mpP 2 rfl) rfl rfl (Mu.Zy.same)) (Ze (ZeU rfl) (Zp (ZaC hp rfl (λaJ hp=>?_) (λaJ hp=>?_))))))))
        .refine Zb8 (zw (ZaB (Z4 (Zg _ J (Ze (Za7 (s.box 4 rfl) I rfl) (zE (s.mup (E:=Zy) (m:=met3) (q:=x4) (v:=true) 2 rfl rfl rfl rfl (Mu.Zy.same)) ?_))))));rintro _ _ ⟨rfl,_,_,S⟩;refine Zp (Za5 (Zg _ av (Ze (Za7 (S.box 4 rfl) I rfl) (zE (S.bsl (E:=Zy) (l:=[x4]) S.fr (by rw[(ZZ (v:=.ag (Zy.c x4)) rfl Zas)];rfl) rfl) ?_))));rintro _ _ ⟨_,_,T⟩;refine ckk hp λaL hp=>zE (T.app (bytes:=16) 3 T.fr rfl (T.sl 5 rfl) rfl rfl (λ_=>rfl) aL (by decide)) ?_;rintro aD _ ⟨_,U⟩;refine Zg aD rfl (Z8 (ZaI (ZC (zw (Z4 (Ze (Za7 (U.box 4 rfl) I rfl) (Zp (Za5 (zE (U.alloc (cs:=Zy.c (⟨0,0⟩:Z1)) U.fr) ?_)))))))));rintro _ _ ⟨bz,rfl,_,_,aZ⟩;refine zE (aZ.stb (cs':=Zy.c x4) 6 rfl rfl rfl rfl ⟨rfl,Nat.le_of_ble_eq_true rfl,rfl⟩ rfl) ?_;rintro _ bd ⟨rfl,_,_,Y⟩;refine Zp (Za5 (Ze (Za7 (Y.box 6 rfl) rfl rfl) (Zg _ af ?_)));obtain⟨x5,⟨_,_,aR,rfl,bb⟩,hp⟩:=bdk hp λ_=>zS.ok (h:=bd)  (Y.rd0 s_cells.rd);refine Zcq rfl rfl aR ?_;have a0:=Y.call bb rfl;refine zE (a0.stb (cs':=Zy.c x5) 6 rfl rfl rfl rfl ⟨rfl,Nat.le_of_ble_eq_true rfl,rfl⟩ rfl) ?_;rintro _ _ ⟨rfl,_,_,a1⟩;refine Z8 ?_;cases hp;exact⟨rfl,aD,bz,af,az,J,aA,rfl,rfl,aw,ax,ay,(a1.pk [0,1,2,3,6])⟩
        .refine ZbX (Zaz ?_);cases hp;exact⟨nofun,rfl,L,af,az,J,aA,av,aw,ax,ay,(s.pk [0,1,2,3])⟩
       rintro⟨met4,f1⟩ hp _ _ _ ⟨rfl,o,bo,bt,bu,bv,bp,bq,br,bs,R⟩;refine ZaU (ZC (Za5 (Zg _ bt (Zg _ bp (zE (R.bsl (E:=eV) (l:=[o]) R.fr (by rw[(ZZ (v:=o) rfl Zas)];simp only[fill,(R.sl 3 rfl).cells];simp[over]) rfl) ?_)))));rintro _ _ ⟨_,_,t⟩;refine ckk hp λaM hp=>zE (t.appV (bytes:=24) 0 t.fr rfl (t.sl 4 rfl) rfl rfl (by simp only[List.all_cons,List.all_nil,Bool.and_true];exact(t.sl 3 rfl).oneV) (by rw[(t.allLen 1 rfl:(d).length=(l2).length)];exact aM) (by decide)) ?_;rintro aC _ ⟨_,a2⟩;have a3:=a2.absorb 1 3 rfl rfl (by decide);refine Zg aC rfl (Z8 (ZaI (ZC (Za5 (ckk hp λaN hp=>Ze (Zam bs rfl aN) (Zg (.n (x2+1)) rfl (Z8 ?_)))))));cases hp;exact⟨rfl,aC,d++[o],bo,rfl,bu,bv,bq,br,rfl,(a3.pk [0,1,2])⟩
     .refine ZbX (Zaz ?_);cases hp;exact⟨nofun,rfl,g,d,D,ad,H,ab,ac,(P.pk [0,1,2])⟩
    rintro⟨l3,met2⟩ hp _ _ _ ⟨rfl,K,N,bj,bm,bn,bk,bl,a8⟩;refine ZaU (ZaI (ZC (Za5 (ckk hp λaO hp=>Ze (Zam bl rfl aO) (Zg (.n (x1+1)) rfl (Z8 ?_))))));cases hp;exact⟨rfl,K,N,bj,bm,bn,bk,rfl,(a8.pk [0,1,2])⟩
   .refine ZbX (Zaz ?_);cases hp;exact⟨nofun,rfl,y,C,au,(aq.pk [0,1])⟩
  rintro l1 hp _ _ _ ⟨rfl,A,M,bg,a5⟩;refine ZaU (ZC (Z4 (Zg _ bg (Zg A rfl (Zg (.n 0) rfl (Zp (Zcx (Zby (Zcd rfl (Zcd rfl ZaF)) ?_))))))));cases hp;exact⟨A,M,rfl,(a5.pk [0,1])⟩

section
attribute [local irreducible] W WO WD WF Ex.then Ex.blk act V.cut V.elt ck Option.bind Zn Fq Gq X Via Out At Keep Rd V.cells gi
theorem Zcv.ok{h:Hp}{d:Int}{e_:Int}   {r:Int}(hp:Zcv d e_=some r) :
  ∃u k',Is G 222 [.n d,.n e_] h u k'/\V.n r=u/\Own (λr=>r<h.n) h k' []:=have c0:=@Zbm.ok;au

theorem Zbr.ok{h:Hp}{cells:List Za}{f:List Z1}{v_cells:V}{v_f:V}(s_cells:Sl Zh h v_cells cells)(s_f:Sl Zy h v_f f){r:(List Int)}(hp:Zbr cells f=some r) :
  ∃u k',Is G 204 [v_cells,v_f] h u k'/\∃c,c=u/\Own (λr=>r<h.n) h k' [eSl Zm c r]:=have e0:=hv Zm;have c0:=@zC.ok;have c1:=@ZaJ.ok;have c2:=@zS.ok;have c3:=@Zcv.ok;have l0:=λa b=>@Zbd _ _ (Zbr.s0 a b) (λf=>[]) (λf w=>[.v (f 5)]) (λO R f w x fr k=>match x with|(l,x1)=>At fr [(17,V.n x1)]/\O k (eSl Zm (f 5) l::R)) (λO R f w l1 e fr k=>e=(.exit 0)/\At fr []/\O k (eSl Zm (f 5) l1::R));au

theorem ZaK.ok{h:Hp}{turns:List Int}{v_turns:V}(s_turns:Sl Zm h v_turns turns){r:Int}(hp:ZaK turns=some r) :
  ∃u k',Is G 219 [v_turns] h u k'/\V.n r=u/\Own (λr=>r<h.n) h k' []:=have l0:=λa=>@Zbd _ _ (ZaK.s0 a) (λf=>[]) (λf w=>[]) (λO R f w x fr k=>match x with|(n,x)=>At fr [(3,V.n n),(8,V.n x)]/\O k (R)) (λO R f w n1 e fr k=>e=(.exit 0)/\At fr [(3,V.n n1)]/\O k (R));au

theorem Zba.ok{h:Hp}{cells:List Za}{v_cells:V}(s_cells:Sl Zh h v_cells cells){r:Int×Bool}(hp:Zba cells=some r) :
  ∃u k',Is G 201 [v_cells] h u k'/\V.tu [.n r.1,.b r.2]=u/\Own (λr=>r<h.n) h k' []:=have c0:=@zQ.ok;have c1:=@Zbr.ok;have c2:=@ZaK.ok;have l0:=λa b=>@Zbd _ _ (Zba.s0 a b) (λf=>[]) (λf w=>[]) (λO R f w x fr k=>match x with|(at_,x2)=>At fr [(6,V.n at_),(16,V.n x2)]/\O k (R)) (λO R f w x e fr k=>match x with|.inl at_1=>e=(.exit 0)/\At fr [(6,V.n at_1)]/\O k (R)|.inr _=>e=.ret/\At fr [(2,V.n 0),(3,V.b false)]/\O k (R));au

theorem Zc5.ok{h:Hp}{cells:List Za}{v_cells:V}(s_cells:Sl Zh h v_cells cells){r:Int}(hp:Zc5 cells=some r) :
  ∃u k',Is G 176 [v_cells] h u k'/\V.n r=u/\Own (λr=>r<h.n) h k' []:=have c0:=@zC.ok;have c1:=@ZcI.ok;have c2:=@Zba.ok;au

end
end Mu
