/- The code comes to what was worked out. -/
import Derived.Test.YtdefkboekpjiiaaMuDf
import Derived.Test.YtdefkboekpjiiaaMuPa
import Derived.Test.YtdefkboekpjiiaaMuC1
set_option linter.unusedVariables false
set_option linter.unnecessarySimpa false
set_option linter.unusedSimpArgs false
set_option maxHeartbeats 2000000
set_option maxRecDepth 10000
namespace Mu
open Go (IntKind BinOp UnOp)
theorem zH.ok {h:Hp}{cells:List Zc}{at_:List Za}{v_cells:V}{v_at_:V}(s_cells:Sl Zl h v_cells cells) (s_at_:Sl Zg h v_at_ at_) {r:Bool}(hp:zH cells at_=some r) :
  ∃ u k',Is G 225 [v_cells,v_at_] h u k'∧V.b r=u∧Own (fun r=>r<h.n) h k' []:=by
 refine WC.is (zV Zco ?_);unfold zH at hp;let B:Nat→Prop:=(fun r=>r<h.n);have hO:Own B h h []:=Own.start0 h;refine Zi (Zb (.b false) rfl (Ze (Zi (Zb v_cells rfl ?_))));obtain ⟨⟨x,x1⟩,⟨_,_,aG,s,t,w,l,y,m,rfl,aQ⟩,hp⟩:=bdk hp fun _=>Zci.ok (h:=h)  (hO.rd0 s_cells.rd);refine Za1 rfl rfl aG ?_;have al:=hO.call aQ rfl;refine Zb (.tu [.ag [s,t,w,y],.n x1]) rfl (Zd (ZaK rfl rfl) (Zd (ZaK rfl rfl) (zh (al.alloc (cs:=[.sn,.sn,.sn,.sn]) al.fr) ?_)));rintro _ _ ⟨A,rfl,_,_,D⟩;refine zh (D.stb (cs':=[s,t,w,y]) 6 rfl rfl rfl rfl ⟨rfl,Nat.le_of_ble_eq_true rfl,(all_cons (D.sl 0 rfl).oneV (all_cons (D.sl 1 rfl).oneV (all_cons (D.sl 2 rfl).oneV (all_cons (D.sl 4 rfl).oneV all_nil))))⟩ rfl) ?_;rintro _ aY ⟨rfl,_,_,an⟩;refine Zb (.n x1) rfl (Ze (Zi (Zb v_cells rfl ?_)));obtain ⟨⟨x2,x3⟩,⟨_,_,aH,d,rfl,aR⟩,hp⟩:=bdk hp fun _=>ZbR.ok (h:=aY)  (an.rd0 s_cells.rd);refine Za1 rfl rfl aH ?_;have ao:=an.call aR rfl;refine Zb (.tu [d,.n x3]) rfl (Zd (ZaK rfl rfl) (Zd (ZaK rfl rfl) (Zb d rfl (Zb (.n x3) rfl (Ze (ZR (Zi (Zb d rfl (Zd (Zay (ao.sl 7 rfl) rfl) (Zb (.n 0) rfl (Zt ?_)))))))))));refine Z5 (Zaj (Zb4 hp (fun x4 fr k=>fr 1=v_at_∧fr 5=.p A 0∧fr 7=d∧fr 24=d∧fr 25=.n (x2.length:Int)∧fr 26=.n x4∧Own B h k [ZE A [s,t,w,y],eSl ZT s x.X,eSl ZT t x.Y,eSl eV w l,Zbb ZT l x.Vert,eSl eV y m,Zbb ZT m x.Horz,eSl ZK d x2]) (fun|.inl _,e,fr,k=>e=(.exit 0)∧Own B h k []|.inr _,e,fr,k=>e=.ret∧fr 4=.b true∧Own B h k []) ⟨rfl,rfl,rfl,rfl,rfl,rfl,(ao.pk [6,0,1,2,3,4,5,7])⟩ ?_ ?_))
 ·rintro x4 _ _ ⟨au,ax,ay,av,aw,K,F⟩ _ hp;dsimp only [zH.s0] at hp;refine Zi (Zd (zY K aw) (Ze (ZR (z5 hp rfl (fun aB hp=>?_) (fun aB hp=>?_)))))
  ·refine Zag (ZR (Zaj (Zi (Zb _ K (ckk hp fun ae hp=>Zd (zG (F.sl 7 rfl) av K ae) (Zd (Zdn (F.sl 7 rfl) rfl (Zr ae)) (zh (F.alloc (cs:=ZK.c (⟨false,0⟩:ZW)) F.fr) ?_)))))));rintro _ _ ⟨O,rfl,_,_,aP⟩;refine Zb (.n x4) rfl (zh (aP.stb (cs':=ZK.c (gi x2 x4.toNat)) 8 rfl rfl rfl rfl ⟨rfl,Nat.le_of_ble_eq_true rfl,rfl⟩ rfl) ?_);rintro _ aZ ⟨rfl,_,_,i⟩;refine Ze (Zi (Zd (zQ (i.box 0 rfl) ax rfl) (Zd (zQ (i.box 8 rfl) rfl rfl) (Zb _ au ?_))));obtain ⟨x5,⟨_,_,aI,rfl,aS⟩,hp⟩:=bdk hp fun _=>ZaV.ok (h:=aZ)  (i.sl 1 rfl) (i.sl 2 rfl) (i.sl 3 rfl) (i.allLen 4 rfl:(l).length=(x.Vert).length) (fun j hj=>i.inn 4 rfl hj) (i.sl 5 rfl) (i.allLen 6 rfl:(m).length=(x.Horz).length) (fun j hj=>i.inn 6 rfl hj) (i.rd0 s_at_.rd);refine Za1 rfl rfl aI ?_;have ap:=i.call aS rfl;refine zh (ap.alloc (cs:=Zf.c (⟨⟨0,0⟩,⟨0,0⟩⟩:ZC)) ap.fr) ?_;rintro _ _ ⟨az,rfl,_,_,aM⟩;refine zh (aM.stb (cs':=Zf.c x5) 9 rfl rfl rfl rfl ⟨rfl,Nat.le_of_ble_eq_true rfl,rfl⟩ rfl) ?_;rintro _ aV ⟨rfl,_,_,P⟩;refine Ze (Zi (Zb _ ay (Zb (.n x4) rfl (ckk hp fun af hp=>Zd (zA rfl rfl af) (ckk hp fun J hp=>Zd (ZfA (E:=ZK) (z:=(x4+1)) (P.sl 7 rfl) rfl rfl J) (Zd (Zay (Sl.cutF (P.sl 7 rfl) J:Sl ZK aV (V.cut d (x4+1:Int).toNat (x2).length) (x2.drop (x4+1:Int).toNat)) rfl) (Zb (.n 0) rfl (Ze ?_))))))));refine Zaj (Zb4 hp (fun x6 fr k=>fr 1=v_at_∧fr 5=.p A 0∧fr 7=d∧fr 10=.p O 0∧fr 11=.p az 0∧fr 24=d∧fr 25=.n (x2.length:Int)∧fr 26=.n x4∧fr 38=(V.cut d (x4+1:Int).toNat (x2).length)∧fr 39=.n ((x2.drop (x4+1:Int).toNat).length:Int)∧fr 40=.n x6∧Own B h k [ZE A [s,t,w,y],eSl ZT s x.X,eSl ZT t x.Y,eSl eV w l,Zbb ZT l x.Vert,eSl eV y m,Zbb ZT m x.Horz,eSl ZK d x2,ZE O (ZK.c (gi x2 x4.toNat)),ZE az (Zf.c x5)]) (fun|.inl _,e,fr,k=>e=(.exit 2)∧fr 1=v_at_∧fr 5=.p A 0∧fr 7=d∧fr 24=d∧fr 25=.n (x2.length:Int)∧fr 26=.n x4∧Own B h k [ZE A [s,t,w,y],eSl ZT s x.X,eSl ZT t x.Y,eSl eV w l,Zbb ZT l x.Vert,eSl eV y m,Zbb ZT m x.Horz,eSl ZK d x2]|.inr _,e,fr,k=>e=.ret∧fr 4=.b true∧Own B h k []) ⟨au,ax,ay,rfl,rfl,av,aw,K,rfl,rfl,rfl,(P.pk [0,1,2,3,4,5,6,7,8,9])⟩ ?_ ?_)
   ·rintro x6 _ aq ⟨L,I,ad,M,H,U,W,aa,ab,ac,N,C⟩ _ hp;dsimp only [zH.s1] at hp;refine Zi (Zd (zY N ac) (Ze (ZR (z5 hp rfl (fun aC hp=>?_) (fun aC hp=>?_)))))
    ·refine Zag (ZR (Zaj (Zi (ckk hp fun ah hp=>Zd (zG (Sl.cutF (C.sl 7 rfl) J:Sl ZK aq (V.cut d (x4+1:Int).toNat (x2).length) (x2.drop (x4+1:Int).toNat)) ab N ah) (Zd (Zdn (Sl.cutF (C.sl 7 rfl) J:Sl ZK aq (V.cut d (x4+1:Int).toNat (x2).length) (x2.drop (x4+1:Int).toNat)) rfl (Zr ah)) (zh (C.alloc (cs:=ZK.c (⟨false,0⟩:ZW)) C.fr) ?_))))));rintro _ _ ⟨aA,rfl,_,_,aN⟩;refine zh (aN.stb (cs':=ZK.c (gi (x2.drop (x4+1:Int).toNat) x6.toNat)) 10 rfl rfl rfl rfl ⟨rfl,Nat.le_of_ble_eq_true rfl,rfl⟩ rfl) ?_;rintro _ ar ⟨rfl,_,_,R⟩;refine Ze (ZR (ZdD ?_));have g:=R.bump 20;have ai:=Fresh.start ar 20;refine ZM (zQ (g.box 9 rfl) H rfl) (ZM (zQ (g.box 0 rfl) I rfl) (ZM (zQ (g.box 10 rfl) rfl rfl) (zN _ L ?_)));obtain ⟨x7,⟨_,aW,aJ,rfl,T⟩,hp⟩:=bdk hp fun _=>ZaV.ok (h:=(ar.bump 20))  (g.sl 1 rfl) (g.sl 2 rfl) (g.sl 3 rfl) (g.allLen 4 rfl:(l).length=(x.Vert).length) (fun j hj=>g.inn 4 rfl hj) (g.sl 5 rfl) (g.allLen 6 rfl:(m).length=(x.Horz).length) (fun j hj=>g.inn 6 rfl hj) (g.rd0 s_at_.rd);refine ZcW rfl rfl aJ ?_;have aO:=g.call T rfl;obtain ⟨x8,⟨_,aX,aK,rfl,aT⟩,hp⟩:=bdk hp fun _=>zo.ok (h:=aW)  ;refine ZcW rfl rfl aK ?_;have f:=aO.call aT rfl;refine ZM (Zcr rfl) (zN (.b (!x8)) rfl ?_);refine ifk hp (fun a hp=>?_) (fun a hp=>?_)
     ·refine zF rfl a (ZM (zQ (f.box 0 rfl) I rfl) (zF rfl a (ZM (z1 (r:=O) (o:=0) M rfl) (zF rfl a (ZM (zf (f.box 8 rfl) rfl rfl) (zF rfl a (ZM (z1 (r:=O) (o:=0) M rfl) (zF rfl a (ZM (zf (f.box 8 rfl) rfl rfl) (zF rfl a (ZM (z1 (r:=aA) (o:=0) rfl rfl) (zF rfl a (ZM (zf (f.box 10 rfl) rfl rfl) ?_)))))))))))));refine zF rfl a (ZM (z1 (r:=aA) (o:=0) rfl rfl) (zF rfl a (ZM (zf (f.box 10 rfl) rfl rfl) (zF rfl a ?_))));obtain ⟨x9,⟨_,_,aL,rfl,aU⟩,hp⟩:=bdk hp fun _=>ZaN.ok (h:=aX)  (f.sl 1 rfl) (f.sl 2 rfl) (f.sl 3 rfl) (f.allLen 4 rfl:(l).length=(x.Vert).length) (fun j hj=>f.inn 4 rfl hj) (f.sl 5 rfl) (f.allLen 6 rfl:(m).length=(x.Horz).length) (fun j hj=>f.inn 6 rfl hj);refine ZcW rfl rfl aL ?_;have am:=f.call aU rfl;refine zF rfl a (ZM (Zcr rfl) (ZM (ZaH (v:=.b (!x9)) rfl a rfl) (ZaO ?_)));refine And.intro ?_ ?_
      ·intro q hq;simp only [List.mem_cons,List.not_mem_nil,or_false] at hq;rcases hq with rfl|rfl|rfl|rfl|rfl|rfl|rfl|rfl|rfl|rfl|rfl|rfl|rfl|rfl
       ·refine zC ?_ ?_
        ·exact nofun
        ·exact nofun
       ·refine zC ?_ ?_
        ·exact nofun
        ·exact nofun
       ·refine zC ?_ ?_
        ·exact nofun
        ·exact nofun
       ·refine ZgF rfl rfl ?_
        ·exact (fun r hm hc=>hc (T.base r (Nat.lt_of_lt_of_le (R.ltAt 9 rfl _ (tch (Zcs hm) H)) (Nat.le_trans (Nat.le_add_right _ _) ai.n))))
       ·refine zC ?_ ?_
        ·exact nofun
        ·exact nofun
       ·refine zC ?_ ?_
        ·exact nofun
        ·exact nofun
       ·refine zC ?_ ?_
        ·exact nofun
        ·exact nofun
       ·refine zC ?_ ?_
        ·exact nofun
        ·exact nofun
       ·refine zC ?_ ?_
        ·exact nofun
        ·exact nofun
       ·refine zC ?_ ?_
        ·exact nofun
        ·exact nofun
       ·refine zC ?_ ?_
        ·exact nofun
        ·exact nofun
       ·refine zC ?_ ?_
        ·exact nofun
        ·exact nofun
       ·refine zC ?_ ?_
        ·exact nofun
        ·exact nofun
       ·refine zC ?_ ?_
        ·exact nofun
        ·exact nofun
      refine Z5 (z5 hp rfl (fun aD hp=>?_) (fun aD hp=>?_))
      ·refine Zi (Zb (.b true) rfl (Ze (zp (ZaA (zc ?_)))));cases hp;exact ⟨nofun,rfl,rfl,(am.pk [])⟩
      ·refine Zcn (Zad (Z5 (Zac (ckk hp fun aE hp=>Zd (zA N rfl aE) (Zb (.n (x6+1)) rfl (Zt ?_))))));cases hp;exact ⟨rfl,L,I,ad,M,H,U,W,aa,ab,ac,rfl,(am.pk [0,1,2,3,4,5,6,7,8,9])⟩
     ·refine Z3 rfl a (Z3 rfl a (Z3 rfl a (Z3 rfl a (Z3 rfl a (Z3 rfl a (Z3 rfl a (Z3 rfl a (Z3 rfl a (Z3 rfl a (Z3 rfl a (ZM (zW (v:=.b false) rfl a rfl) (ZaO ?_))))))))))));refine And.intro ?_ ?_
      ·intro q hq;simp only [List.mem_cons,List.not_mem_nil,or_false] at hq;rcases hq with rfl|rfl|rfl|rfl|rfl|rfl|rfl|rfl|rfl|rfl|rfl|rfl|rfl|rfl
       ·refine zC ?_ ?_
        ·exact nofun
        ·exact nofun
       ·refine zC ?_ ?_
        ·exact nofun
        ·exact nofun
       ·refine zC ?_ ?_
        ·exact nofun
        ·exact nofun
       ·refine ZgF rfl rfl ?_
        ·exact (fun r hm hc=>hc (T.base r (Nat.lt_of_lt_of_le (R.ltAt 9 rfl _ (tch (Zcs hm) H)) (Nat.le_trans (Nat.le_add_right _ _) ai.n))))
       ·exact ZaS
       ·exact ZaS
       ·exact ZaS
       ·exact ZaS
       ·exact ZaS
       ·exact ZaS
       ·exact ZaS
       ·exact ZaS
       ·exact ZaS
       ·exact ZaS
      refine Z5 (Zhn rfl rfl (Zcn (Zad (Z5 (Zac (ckk hp fun aF hp=>Zd (zA N rfl aF) (Zb (.n (x6+1)) rfl (Zt ?_))))))));cases hp;exact ⟨rfl,L,I,ad,M,H,U,W,aa,ab,ac,rfl,(f.pk [0,1,2,3,4,5,6,7,8,9])⟩
    ·refine Zbh (zU ?_);cases hp;exact ⟨nofun,rfl,L,I,ad,U,W,aa,(C.pk [0,1,2,3,4,5,6,7])⟩
   rintro (_|_) hp _ _ _ ak
   ·obtain ⟨rfl,a1,a6,a7,a2,a3,a4,Q⟩:=ak;refine Za8 (Zad (Z5 (Zac (Zd (zA a4 rfl af) (Zb (.n (x4+1)) rfl (Zt ?_))))));cases hp;exact ⟨rfl,a1,a6,a7,a2,a3,rfl,(Q.pk [0,1,2,3,4,5,6,7])⟩
   ·obtain ⟨rfl,a5,Q⟩:=ak;refine ZaA (ZaA (zc ?_));cases hp;exact ⟨nofun,rfl,a5,(Q.pk [])⟩
  ·refine Zbh (zU ?_);cases hp;exact ⟨nofun,rfl,(F.pk [])⟩
 rintro (_|_) hp _ _ _ aj
 ·obtain ⟨rfl,S⟩:=aj;refine Za8 (Z5 (Zi (Zb (.b false) rfl (Ze (zp (ZS (ze rfl ZA) ?_))))));cases hp;exact ⟨rfl,(S.pk [])⟩
 ·obtain ⟨rfl,a0,S⟩:=aj;refine ZaA (zc (ZS (ze a0 ZA) ?_));cases hp;exact ⟨rfl,(S.pk [])⟩

theorem ZaD.ok {h:Hp}{cells:List Zc}{at_:List Za}{v_cells:V}{v_at_:V}(s_cells:Sl Zl h v_cells cells) (s_at_:Sl Zg h v_at_ at_) {r:Int}(hp:ZaD cells at_=some r) :
  ∃ u k',Is G 208 [v_cells,v_at_] h u k'∧V.n r=u∧Own (fun r=>r<h.n) h k' []:=by
 refine WC.is (zV ZcO ?_);unfold ZaD at hp;let B:Nat→Prop:=(fun r=>r<h.n);have hO:Own B h h []:=Own.start0 h;refine Zi (Zb (.n 0) rfl (Ze (ZR (Zi (Zb v_cells rfl ?_)))));obtain ⟨x,⟨_,o,g,rfl,k⟩,hp⟩:=bdk hp fun _=>Zbs.ok (h:=h)  (hO.rd0 s_cells.rd);refine Za1 rfl rfl g ?_;have a:=hO.call k rfl;refine Zb (.n x) rfl (Ze (Zi (Zb (.n x) rfl (Zd (ZbP rfl rfl) (Ze (z5 hp rfl (fun d hp=>?_) (fun d hp=>?_)))))))
 ·refine Zi (Zb (.n x) rfl (Zb (.n x) rfl (Ze (zp (zc (ZS (ze rfl ZA) ?_))))));cases hp;exact ⟨rfl,(a.pk [])⟩
 ·refine Zag (ZR (Zi (Zb v_cells rfl (Zb v_at_ rfl ?_))));obtain ⟨⟨x1,x2⟩,⟨_,p,i,rfl,l⟩,hp⟩:=bdk hp fun _=>Zae.ok (h:=o)  (a.rd0 s_cells.rd) (a.rd0 s_at_.rd);refine Za1 rfl rfl i ?_;have b:=a.call l rfl;refine Zb (.tu [.n x1,.n x2]) rfl (Zd (ZaK rfl rfl) (Zd (ZaK rfl rfl) (Zb (.n x1) rfl (Zb (.n x2) rfl (Ze (Zi (Zb (.n x2) rfl (Zd (ZbP rfl rfl) (Ze (z5 hp rfl (fun e hp=>?_) (fun e hp=>?_)))))))))))
  ·refine Zi (Zb (.n x2) rfl (Zb (.n x2) rfl (Ze (zp (zc (ZS (ze rfl ZA) ?_))))));cases hp;exact ⟨rfl,(b.pk [])⟩
  ·refine Zag (ZR (Zi (Zb v_cells rfl (Zb v_at_ rfl ?_))));obtain ⟨x3,⟨_,_,j,rfl,m⟩,hp⟩:=bdk hp fun _=>zH.ok (h:=p)  (b.rd0 s_cells.rd) (b.rd0 s_at_.rd);refine Za1 rfl rfl j ?_;have c:=b.call m rfl;refine Ze (z5 hp rfl (fun f hp=>?_) (fun f hp=>?_))
   ·refine Zi (Zb (.n 14) rfl (Ze (zp (zc (ZS (ze rfl ZA) ?_)))));cases hp;exact ⟨rfl,(c.pk [])⟩
   ·refine Zag (Zi (Zb (.n 0) rfl (Ze (zp (ZS (ze rfl ZA) ?_)))));cases hp;exact ⟨rfl,(c.pk [])⟩

theorem Zax.ok {h:Hp}    {r:Bool}(hp:Zax =some r) :
  ∃ u k',Is G 185 [] h u k'∧V.b r=u∧Own (fun r=>r<h.n) h k' []:=by
 refine WC.is (zV ZbC ?_);unfold Zax at hp;let B:Nat→Prop:=(fun r=>r<h.n);have hO:Own B h h []:=Own.start0 h;refine Zi (Zb (.b false) rfl (Ze (Zi ?_)));obtain ⟨x,⟨_,aj,J,I,rfl,Y⟩,hp⟩:=bdk hp fun _=>zx.ok (h:=h)  ;refine Za1 rfl rfl J ?_;have y:=hO.call Y rfl;refine Zb I rfl (Ze (Zi (Zb I rfl ?_)));obtain ⟨⟨x1,x2⟩,⟨_,_,K,i,rfl,aa⟩,hp⟩:=bdk hp fun _=>ZaG.ok (h:=aj) (l:=x) (v:=0) (d:=0) (w:=1) (o:=0) (y.toM [0] rfl (by decide)) ;refine Za1 rfl rfl K ?_;have A:=(y.callM [0] [] rfl rfl (by decide) aa rfl).pick [900,0] rfl (by decide);refine Zb (.tu [i,.n x2]) rfl (Zd (ZaK rfl rfl) (Zd (ZaK rfl rfl) (Zb i rfl (Ze (Zi (Zb i rfl (Zd (Zas (cs:=Zg.c (⟨(0:Int),(0:Int)⟩:Za)) (by rw [z2];rfl)) (Zd (Zas (cs:=Zg.c (⟨4,(0:Int)⟩:Za)) (by rw [(ZL (v:=.n 4) rfl z2)];rfl)) (zh (A.bsl (E:=Zg) (l:=[(⟨(0:Int),(0:Int)⟩:Za),(⟨4,(0:Int)⟩:Za)]) A.fr (by rw [(ZL (v:=.ag (Zg.c (⟨(0:Int),(0:Int)⟩:Za))) rfl (ZL (v:=.ag (Zg.c (⟨4,(0:Int)⟩:Za))) rfl z2))];rfl) rfl) ?_)))))))));rintro j D ⟨_,_,m⟩;obtain ⟨x3,⟨_,_,L,rfl,ab⟩,hp⟩:=bdk hp fun _=>ZaD.ok (h:=D)  (m.sl 1 rfl) (m.sl 2 rfl:Sl Zg D j [(⟨(0:Int),(0:Int)⟩:Za),(⟨4,(0:Int)⟩:Za)]);refine Za1 rfl rfl L ?_;have p:=m.call ab rfl;refine Zd (ZbN rfl rfl) (Zb (.b (decide (x3=0))) rfl ?_);obtain ⟨t,af,hp⟩:=Zbj hp;refine Zaa 7 (fun f k=>Own B h k [Zb2,eSl Zl i x1,eSl Zg j [(⟨(0:Int),(0:Int)⟩:Za),(⟨4,(0:Int)⟩:Za)]]∧f 21=.b t∧f 1=i) ?_ ?_
 ·clear hp;rcases Zca af with ⟨a,hp⟩|⟨a,hp⟩
  ·refine Z7 rfl a (Zb i rfl (Z7 rfl a (Zd (Zas (cs:=Zg.c (⟨(0:Int),(0:Int)⟩:Za)) (by rw [z2];rfl)) (Z7 rfl a (Zd (Zas (cs:=Zg.c (⟨(0:Int),4⟩:Za)) (by rw [(ZL (v:=.n 4) rfl z2)];rfl)) (Z7 rfl a (zh (p.bsl (E:=Zg) (l:=[(⟨(0:Int),(0:Int)⟩:Za),(⟨(0:Int),4⟩:Za)]) p.fr (by rw [(ZL (v:=.ag (Zg.c (⟨(0:Int),(0:Int)⟩:Za))) rfl (ZL (v:=.ag (Zg.c (⟨(0:Int),4⟩:Za))) rfl z2))];rfl) rfl) ?_)))))));rintro al F ⟨_,_,q⟩;refine Z7 rfl a ?_;obtain ⟨x4,⟨_,_,M,rfl,ac⟩,hp⟩:=bdk hp fun _=>ZaD.ok (h:=F)  (q.sl 1 rfl) (q.sl 3 rfl:Sl Zg F al [(⟨(0:Int),(0:Int)⟩:Za),(⟨(0:Int),4⟩:Za)]);refine Za1 rfl rfl M ?_;have W:=q.call ac rfl;refine Z7 rfl a (Zd (ZbN rfl rfl) (Zd (ZaH (v:=.b t) rfl a (Eq.trans (b:=V.b (decide (x4=15))) rfl (congrArg V.b (Option.some.inj hp)))) (Zt ?_)));exact ⟨W.pk [1000,1,2],rfl,rfl⟩
  ·refine Zu rfl a (Zu rfl a (Zu rfl a (Zu rfl a (Zu rfl a (Zu rfl a (Zd (zW (v:=.b t) rfl a (Eq.trans (b:=V.b false) rfl (congrArg V.b (Option.some.inj hp)))) (Zt ?_)))))));exact ⟨p.pk [1000,1,2],rfl,rfl⟩
 rintro _ H ⟨s,Q,P⟩;refine Zb _ Q ?_;obtain ⟨t1,ah,hp⟩:=Zbj hp;refine Zaa 4 (fun f k=>Own B h k [Zb2,eSl Zl i x1,eSl Zg j [(⟨(0:Int),(0:Int)⟩:Za),(⟨4,(0:Int)⟩:Za)]]∧f 26=.b t1) ?_ ?_
 ·clear hp;rcases Zca ah with ⟨g,hp⟩|⟨g,hp⟩
  ·refine Z7 rfl g (Zb _ P (Z7 rfl g ?_));obtain ⟨x5,⟨_,_,N,rfl,ad⟩,hp⟩:=bdk hp fun _=>ZaD.ok (h:=H)  (s.sl 1 rfl) (Sl.nil:Sl Zg H .sn ([]:List Za));refine Za1 rfl rfl N ?_;have X:=s.call ad rfl;refine Z7 rfl g (Zd (ZbN rfl rfl) (Zd (ZaH (v:=.b t1) rfl g (Eq.trans (b:=V.b (decide (x5=2))) rfl (congrArg V.b (Option.some.inj hp)))) (Zt ?_)));exact ⟨X.pk [1000,1,2],rfl⟩
  ·refine Zu rfl g (Zu rfl g (Zu rfl g (Zd (zW (v:=.b t1) rfl g (Eq.trans (b:=V.b false) rfl (congrArg V.b (Option.some.inj hp)))) (Zt ?_))));exact ⟨s.pk [1000,1,2],rfl⟩
 rintro _ ak ⟨C,R⟩;refine Zb _ R ?_;obtain ⟨t2,ai,hp⟩:=Zbj hp;refine Zaa 6 (fun f k=>Own B h k [Zb2,eSl Zl i x1,eSl Zg j [(⟨(0:Int),(0:Int)⟩:Za),(⟨4,(0:Int)⟩:Za)]]∧f 33=.b t2) ?_ ?_
 ·clear hp;rcases Zca ai with ⟨e,hp⟩|⟨e,hp⟩
  ·refine Z7 rfl e (Zd (Zas (cs:=Zf.c (⟨(⟨0,0⟩:Za),(⟨0,0⟩:Za)⟩:ZC)) (by rw [z2];rfl)) (Z7 rfl e (Zd (Zas (cs:=Zg.c (⟨1,(0:Int)⟩:Za)) (by rw [(ZL (v:=.n 1) rfl z2)];rfl)) (Z7 rfl e (Zd (Zas (cs:=Zg.c (⟨1,(0:Int)⟩:Za)) (by rw [(ZL (v:=.n 1) rfl z2)];rfl)) (Z7 rfl e (Zd (Zas (cs:=Zf.c (⟨(⟨1,(0:Int)⟩:Za),(⟨1,(0:Int)⟩:Za)⟩:ZC)) (by rw [(ZL (v:=.ag (Zg.c (⟨1,(0:Int)⟩:Za))) rfl (ZL (v:=.ag (Zg.c (⟨1,(0:Int)⟩:Za))) rfl z2))];rfl)) (Z7 rfl e ?_))))))));obtain ⟨x6,⟨_,_,O,rfl,ae⟩,hp⟩:=bdk hp fun _=>zo.ok (h:=ak)  ;refine Za1 rfl rfl O ?_;have T:=C.call ae rfl;refine Zd (ZaH (v:=.b t2) rfl e (Eq.trans (b:=V.b x6) rfl (congrArg V.b (Option.some.inj hp)))) (Zt ?_);exact ⟨T.pk [1000,1,2],rfl⟩
  ·refine Zu rfl e (Zu rfl e (Zu rfl e (Zu rfl e (Zu rfl e (Zd (zW (v:=.b t2) rfl e (Eq.trans (b:=V.b false) rfl (congrArg V.b (Option.some.inj hp)))) (Zt ?_))))));exact ⟨C.pk [1000,1,2],rfl⟩
 rintro _ _ ⟨U,S⟩;refine Zb _ S (Ze (zp (ZS (ze rfl ZA) ?_)));cases hp;exact ⟨rfl,(U.pk [])⟩

theorem ZZ.ok {h:Hp}{x:ZC}{c0:A2 Int}{r_c0:Nat}{w_c0:Bool}(b_c0:h.m r_c0=some (.cells w_c0 (zX.c c0))) {r:ZC}(hp:ZZ x c0=some r) :
  ∃ u k',Is G 184 [.ag (Zf.c x),.p r_c0 0] h u k'∧V.ag (Zf.c r)=u∧Own (fun r=>r<h.n) h k' []:=by
 refine WC.is (zV ZaX ?_);unfold ZZ at hp;let B:Nat→Prop:=(fun r=>r<h.n);have hO:Own B h h []:=Own.start0 h;refine Zi (zh (hO.boxd (cs:=Zf.c x) hO.fr rfl rfl) ?_);rintro _ P ⟨a,rfl,_,_,hW⟩;have w:Own B h P [ZE a (Zf.c x)]:=hW;refine zh (w.alloc (cs:=Zf.c (⟨⟨0,0⟩,⟨0,0⟩⟩:ZC)) w.fr) ?_;rintro _ S ⟨b,rfl,_,_,hW⟩;have C:Own B h S [ZE a (Zf.c x),ZE b (Zf.c (⟨⟨0,0⟩,⟨0,0⟩⟩:ZC))]:=hW;refine Ze (ZR (Zi (Zd (z1 (r:=a) (o:=0) rfl rfl) (Zd (z1 (r:=a) (o:=0) rfl rfl) (zh (C.bsl (E:=eV) (l:=[V.p a 0,V.p a 2]) C.fr (by rw [(ZL (v:=.p a 0) rfl (ZL (v:=.p a 2) rfl z2))];rfl) rfl) ?_)))));rintro d D ⟨_,_,hW⟩;have e:Own B h D [ZE a (Zf.c x),ZE b (Zf.c (⟨⟨0,0⟩,⟨0,0⟩⟩:ZC)),eSl eV d [V.p a 0,V.p a 2]]:=hW;refine Zd (Zay (e.sl 2 rfl) rfl) (Zb (.n 0) rfl (Ze (Zaj (Zcq (Zi (Zd (zY rfl rfl) (Ze (ZR (ZhS rfl rfl (Zcn ?_))))))))));refine Z5 (ZR (Zaj (Zi (Zd (zG (e.sl 2 rfl) rfl rfl ⟨by simp,by simp⟩) (Zd (Za7 (e.sl 2 rfl) rfl (by simp) rfl) (Zb (.p a 0) rfl (Ze (ZR (ZdD ?_)))))))));have hW:=e.bump 11;have g:Own B h (D.bump 11) [ZE a (Zf.c x),ZE b (Zf.c (⟨⟨0,0⟩,⟨0,0⟩⟩:ZC)),eSl eV d [V.p a 0,V.p a 2]]:=hW;refine zN (.p a 0) rfl (ZM (ZcY rfl) (ZM (z1 (r:=a) (o:=0) rfl rfl) (ZM (zf (g.box 0 rfl) rfl rfl) (ZM (ZaY (o:=0) (o':=0) rfl rfl (by decide) rfl) (ZM (zf (g.rdB0 (RdB.of b_c0)).choose_spec rfl rfl) (ckk hp fun s hp=>ZM (Zbv rfl s) (ckk hp fun J hp=>ZM (zA rfl rfl J) (ZM (ZcY rfl) (ZM (z1 (r:=a) (o:=0) rfl rfl) (Zeh (g.stb (cs':=Zf.c ({ x with Low:={ x.Low with X:=x.Low.X+(c0.get 0) } })) 0 rfl rfl rfl rfl ⟨rfl,Nat.le_of_ble_eq_true rfl,rfl⟩ rfl) ?_))))))))));rintro _ F _ ⟨rfl,_,_,hW⟩;have N:Own B h F [ZE a (Zf.c ({ x with Low:={ x.Low with X:=x.Low.X+(c0.get 0) } })),ZE b (Zf.c (⟨⟨0,0⟩,⟨0,0⟩⟩:ZC)),eSl eV d [V.p a 0,V.p a 2]]:=hW;refine ZaO ?_;refine And.intro ?_ ?_
 ·intro q hq;simp only [List.mem_cons,List.not_mem_nil,or_false] at hq;rcases hq with rfl
  ·refine zC ?_ ?_
   ·exact nofun
   ·exact nofun
 refine Z5 (ZdD ?_);have hW:=N.bump 11;have i:Own B h (F.bump 11) [ZE a (Zf.c ({ x with Low:={ x.Low with X:=x.Low.X+(c0.get 0) } })),ZE b (Zf.c (⟨⟨0,0⟩,⟨0,0⟩⟩:ZC)),eSl eV d [V.p a 0,V.p a 2]]:=hW;refine zN (.p a 0) rfl (ZM (ZcY rfl) (ZM (z1 (r:=a) (o:=0) rfl rfl) (ZM (zf (i.box 0 rfl) rfl rfl) (ZM (ZaY (o:=0) (o':=1) rfl rfl (by decide) rfl) (ZM (zf (i.rdB0 (RdB.of b_c0)).choose_spec rfl rfl) (ckk hp fun t hp=>ZM (Zbv rfl t) (ckk hp fun K hp=>ZM (zA rfl rfl K) (ZM (ZcY rfl) (ZM (z1 (r:=a) (o:=0) rfl rfl) (Zeh (i.stb (cs':=Zf.c ({ x with Low:={ { x.Low with X:=x.Low.X+(c0.get 0) } with Y:=x.Low.Y+(c0.get 1) } })) 0 rfl rfl rfl rfl ⟨rfl,Nat.le_of_ble_eq_true rfl,rfl⟩ rfl) ?_))))))))));rintro _ H _ ⟨rfl,_,_,hW⟩;have j:Own B h H [ZE a (Zf.c ({ x with Low:={ { x.Low with X:=x.Low.X+(c0.get 0) } with Y:=x.Low.Y+(c0.get 1) } })),ZE b (Zf.c (⟨⟨0,0⟩,⟨0,0⟩⟩:ZC)),eSl eV d [V.p a 0,V.p a 2]]:=hW;refine ZaO ?_;refine And.intro ?_ ?_
 ·intro q hq;simp only [List.mem_cons,List.not_mem_nil,or_false] at hq;rcases hq with rfl
  ·refine zC ?_ ?_
   ·exact nofun
   ·exact nofun
 refine Zad (Z5 (Zac (Zd (zA rfl rfl (by decide)) (Zb (.n 1) rfl (Ze (Zcq (Zi (Zd (zY rfl rfl) (Ze (ZR ?_))))))))));refine ZhS rfl rfl (Zag (ZR (Zaj (Zi (Zd (zG (j.sl 2 rfl) rfl rfl ⟨by simp,by simp⟩) (Zd (Za7 (j.sl 2 rfl) rfl (by simp) rfl) (Zb (.p a 2) rfl (Ze (ZR (ZdD ?_))))))))));have hW:=j.bump 11;have k:Own B h (H.bump 11) [ZE a (Zf.c ({ x with Low:={ { x.Low with X:=x.Low.X+(c0.get 0) } with Y:=x.Low.Y+(c0.get 1) } })),ZE b (Zf.c (⟨⟨0,0⟩,⟨0,0⟩⟩:ZC)),eSl eV d [V.p a 0,V.p a 2]]:=hW;refine zN (.p a 2) rfl (ZM (ZcY rfl) (ZM (z1 (r:=a) (o:=2) rfl rfl) (ZM (zf (k.box 0 rfl) rfl rfl) (ZM (ZaY (o:=0) (o':=0) rfl rfl (by decide) rfl) (ZM (zf (k.rdB0 (RdB.of b_c0)).choose_spec rfl rfl) (ZM (Zbv rfl s) (ckk hp fun L hp=>ZM (zA rfl rfl L) (ZM (ZcY rfl) (ZM (z1 (r:=a) (o:=2) rfl rfl) (Zeh (k.stb (cs':=Zf.c ({ { x with Low:={ { x.Low with X:=x.Low.X+(c0.get 0) } with Y:=x.Low.Y+(c0.get 1) } } with High:={ x.High with X:=x.High.X+(c0.get 0) } })) 0 rfl rfl rfl rfl ⟨rfl,Nat.le_of_ble_eq_true rfl,rfl⟩ rfl) ?_))))))))));rintro _ I _ ⟨rfl,_,_,hW⟩;have O:Own B h I [ZE a (Zf.c ({ { x with Low:={ { x.Low with X:=x.Low.X+(c0.get 0) } with Y:=x.Low.Y+(c0.get 1) } } with High:={ x.High with X:=x.High.X+(c0.get 0) } })),ZE b (Zf.c (⟨⟨0,0⟩,⟨0,0⟩⟩:ZC)),eSl eV d [V.p a 0,V.p a 2]]:=hW;refine ZaO ?_;refine And.intro ?_ ?_
 ·intro q hq;simp only [List.mem_cons,List.not_mem_nil,or_false] at hq;rcases hq with rfl
  ·refine zC ?_ ?_
   ·exact nofun
   ·exact nofun
 refine Z5 (ZdD ?_);have hW:=O.bump 11;have f:Own B h (I.bump 11) [ZE a (Zf.c ({ { x with Low:={ { x.Low with X:=x.Low.X+(c0.get 0) } with Y:=x.Low.Y+(c0.get 1) } } with High:={ x.High with X:=x.High.X+(c0.get 0) } })),ZE b (Zf.c (⟨⟨0,0⟩,⟨0,0⟩⟩:ZC)),eSl eV d [V.p a 0,V.p a 2]]:=hW;refine zN (.p a 2) rfl (ZM (ZcY rfl) (ZM (z1 (r:=a) (o:=2) rfl rfl) (ZM (zf (f.box 0 rfl) rfl rfl) (ZM (ZaY (o:=0) (o':=1) rfl rfl (by decide) rfl) (ZM (zf (f.rdB0 (RdB.of b_c0)).choose_spec rfl rfl) (ZM (Zbv rfl t) (ckk hp fun M hp=>ZM (zA rfl rfl M) (ZM (ZcY rfl) (ZM (z1 (r:=a) (o:=2) rfl rfl) (Zeh (f.stb (cs':=Zf.c ({ { x with Low:={ { x.Low with X:=x.Low.X+(c0.get 0) } with Y:=x.Low.Y+(c0.get 1) } } with High:={ { x.High with X:=x.High.X+(c0.get 0) } with Y:=x.High.Y+(c0.get 1) } })) 0 rfl rfl rfl rfl ⟨rfl,Nat.le_of_ble_eq_true rfl,rfl⟩ rfl) ?_))))))))));rintro _ Q _ ⟨rfl,_,_,hW⟩;have y:Own B h Q [ZE a (Zf.c ({ { x with Low:={ { x.Low with X:=x.Low.X+(c0.get 0) } with Y:=x.Low.Y+(c0.get 1) } } with High:={ { x.High with X:=x.High.X+(c0.get 0) } with Y:=x.High.Y+(c0.get 1) } })),ZE b (Zf.c (⟨⟨0,0⟩,⟨0,0⟩⟩:ZC)),eSl eV d [V.p a 0,V.p a 2]]:=hW;refine ZaO ?_;refine And.intro ?_ ?_
 ·intro q hq;simp only [List.mem_cons,List.not_mem_nil,or_false] at hq;rcases hq with rfl
  ·refine zC ?_ ?_
   ·exact nofun
   ·exact nofun
 refine Zad (Z5 (Zac (Zd (zA rfl rfl (by decide)) (Zb (.n 2) rfl (Ze (Zcq (Zi (Zd (zY rfl rfl) (Ze (ZR ?_))))))))));refine Zhn rfl rfl (Zbh (zU (zU (Za8 (Z5 (Zi (Zd (zQ (y.box 0 rfl) rfl rfl) (zh (y.stb (cs':=Zf.c ({ { x with Low:={ { x.Low with X:=x.Low.X+(c0.get 0) } with Y:=x.Low.Y+(c0.get 1) } } with High:={ { x.High with X:=x.High.X+(c0.get 0) } with Y:=x.High.Y+(c0.get 1) } })) 1 rfl rfl rfl rfl ⟨rfl,Nat.le_of_ble_eq_true rfl,rfl⟩ rfl) ?_))))))));rintro _ R ⟨rfl,_,_,hW⟩;have A:Own B h R [ZE a (Zf.c ({ { x with Low:={ { x.Low with X:=x.Low.X+(c0.get 0) } with Y:=x.Low.Y+(c0.get 1) } } with High:={ { x.High with X:=x.High.X+(c0.get 0) } with Y:=x.High.Y+(c0.get 1) } })),ZE b (Zf.c ({ { x with Low:={ { x.Low with X:=x.Low.X+(c0.get 0) } with Y:=x.Low.Y+(c0.get 1) } } with High:={ { x.High with X:=x.High.X+(c0.get 0) } with Y:=x.High.Y+(c0.get 1) } })),eSl eV d [V.p a 0,V.p a 2]]:=hW;refine Ze (zp (ZS (Zfz rfl (A.box 1 rfl) rfl ZA) ?_));cases hp;exact ⟨rfl,(A.pk [])⟩

theorem zJ.ok {h:Hp}{a:A4 Int}{b:A4 Int}{by_:A2 Int}   {r:Bool}(hp:zJ a b by_=some r) :
  ∃ u k',Is G 161 [.ag (ZD.c a),.ag (ZD.c b),.ag (zX.c by_)] h u k'∧V.b r=u∧Own (fun r=>r<h.n) h k' []:=by
 refine WC.is (zV Zba ?_);unfold zJ at hp;let B:Nat→Prop:=(fun r=>r<h.n);have hO:Own B h h []:=Own.start0 h;refine Zi (zh (hO.boxd (cs:=ZD.c a) hO.fr rfl rfl) ?_);rintro _ aY ⟨j,rfl,_,_,hW⟩;have ad:Own B h aY [ZE j (ZD.c a)]:=hW;refine zh (ad.boxd (cs:=ZD.c b) ad.fr rfl rfl) ?_;rintro _ a3 ⟨s,rfl,_,_,hW⟩;have ae:Own B h a3 [ZE j (ZD.c a),ZE s (ZD.c b)]:=hW;refine zh (ae.boxd (cs:=zX.c by_) ae.fr rfl rfl) ?_;rintro _ N ⟨g,rfl,_,_,hW⟩;have H:Own B h N [ZE j (ZD.c a),ZE s (ZD.c b),ZE g (zX.c by_)]:=hW;refine Zb (.b false) rfl (Ze (Zi (Zb (.f 183 []) rfl (Ze (Zi (Zd (ZhJ (vs:=[.p g 0]) (Zge rfl ZgX)) (Zb (.f 184 [.p g 0]) rfl (Ze ?_))))))));refine ZR (ZdD ?_);have hW:=H.bump 10;have W:=Fresh.start N 10;have av:∀ {i:Nat},h.n≤N.n+i:=Nat.le_trans H.n (Nat.le_add_right _ _);have af:Own B h (N.bump 10) [ZE j (ZD.c a),ZE s (ZD.c b),ZE g (zX.c by_)]:=hW;refine zN (.f 183 []) rfl (ZM (zQ (af.box 0 rfl) rfl rfl) ?_);obtain ⟨x,⟨_,au,aw,rfl,T⟩,hp⟩:=bdk hp fun _=>ZY.ok (h:=(N.bump 10))  ;refine ZcW rfl rfl aw ?_;have aH:=W.call T;have ah:Own B h au [ZE j (ZD.c a),ZE s (ZD.c b),ZE g (zX.c by_)]:=af.call T rfl;refine zN (.f 183 []) rfl (ZM (zQ (ah.box 1 rfl) rfl rfl) ?_);obtain ⟨x1,⟨_,a5,ax,rfl,ai⟩,hp⟩:=bdk hp fun _=>ZY.ok (h:=au)  ;refine ZcW rfl rfl ax ?_;have ab:=aH.call ai;have aR:Own B h a5 [ZE j (ZD.c a),ZE s (ZD.c b),ZE g (zX.c by_)]:=ah.call ai rfl;refine Zeh (aR.alloc (cs:=Zf.c (⟨⟨0,0⟩,⟨0,0⟩⟩:ZC)) ⟨ab.m 6 (by decide) (by decide),av⟩) ?_;rintro _ a6 _ ⟨d,rfl,_,aF,hW⟩;have aI:=ab.kept aF (by decide);have aS:Own B h a6 [ZE j (ZD.c a),ZE s (ZD.c b),ZE g (zX.c by_),ZE d (Zf.c (⟨⟨0,0⟩,⟨0,0⟩⟩:ZC))]:=hW;refine Zeh (aS.alloc (cs:=Zf.c (⟨⟨0,0⟩,⟨0,0⟩⟩:ZC)) ⟨aI.m 7 (by decide) (by decide),av⟩) ?_;rintro _ a7 _ ⟨e,rfl,_,_,hW⟩;have aT:Own B h a7 [ZE j (ZD.c a),ZE s (ZD.c b),ZE g (zX.c by_),ZE d (Zf.c (⟨⟨0,0⟩,⟨0,0⟩⟩:ZC)),ZE e (Zf.c (⟨⟨0,0⟩,⟨0,0⟩⟩:ZC))]:=hW;refine Zeh (aT.stb (cs':=Zf.c x) 3 rfl rfl rfl rfl ⟨rfl,Nat.le_of_ble_eq_true rfl,rfl⟩ rfl) ?_;rintro _ a8 _ ⟨rfl,_,_,hW⟩;have aU:Own B h a8 [ZE j (ZD.c a),ZE s (ZD.c b),ZE g (zX.c by_),ZE d (Zf.c x),ZE e (Zf.c (⟨⟨0,0⟩,⟨0,0⟩⟩:ZC))]:=hW;refine Zeh (aU.stb (cs':=Zf.c x1) 4 rfl rfl rfl rfl ⟨rfl,Nat.le_of_ble_eq_true rfl,rfl⟩ rfl) ?_;rintro _ aZ _ ⟨rfl,_,_,hW⟩;have I:Own B h aZ [ZE j (ZD.c a),ZE s (ZD.c b),ZE g (zX.c by_),ZE d (Zf.c x),ZE e (Zf.c x1)]:=hW;refine ZaO ?_;refine And.intro ?_ ?_
 ·intro q hq;simp only [List.mem_cons,List.not_mem_nil,or_false] at hq;rcases hq with rfl|rfl|rfl|rfl|rfl|rfl|rfl|rfl|rfl|rfl|rfl
  ·refine zC ?_ ?_
   ·exact nofun
   ·exact nofun
  ·refine ZcZ rfl ?_
   ·exact (fun r hm hc=>hc (T.base r (Nat.lt_of_lt_of_le (H.ltAt 1 rfl _ (tch (Zcs hm) rfl)) (Nat.le_trans (Nat.le_add_right _ _) W.n))))
  ·refine zC ?_ ?_
   ·exact nofun
   ·exact (fun _ hm=>Nat.lt_irrefl _ (Nat.lt_of_lt_of_le (H.ltAt 0 rfl _ (tch (Zcs hm) rfl)) (Nat.le_add_right _ _)))
  ·refine ZcZ rfl ?_
   ·exact (fun r hm hc=>nomatch hm)
  ·refine zC ?_ ?_
   ·exact nofun
   ·exact (fun _ hm=>Nat.lt_irrefl _ (Nat.lt_of_lt_of_le (H.ltAt 1 rfl _ (tch (Zcs hm) rfl)) (Nat.le_add_right _ _)))
  ·refine ZcZ rfl ?_
   ·exact (fun r hm hc=>nomatch hm)
  ·refine zC ?_ ?_
   ·exact nofun
   ·exact (fun _ hm=>Nat.lt_irrefl _ (Nat.lt_of_lt_of_le (H.ltAt 0 rfl _ (tch (Zcs hm) rfl)) (Nat.le_add_right _ _)))
  ·refine ZcZ rfl ?_
   ·exact (fun r hm hc=>nomatch hm)
  ·refine zC ?_ ?_
   ·exact nofun
   ·exact (fun _ hm=>Nat.lt_irrefl _ (Nat.lt_of_lt_of_le (H.ltAt 1 rfl _ (tch (Zcs hm) rfl)) (Nat.le_add_right _ _)))
  ·refine ZcZ rfl ?_
   ·exact (fun r hm hc=>nomatch hm)
  ·refine zC ?_ ?_
   ·exact (fun _=>List.not_mem_nil)
   ·exact (fun _=>List.not_mem_nil)
 refine Z5 (Zi (Zd (z1 (r:=d) (o:=0) rfl rfl) (Zd (z1 (r:=d) (o:=0) rfl rfl) (Zd (zf (I.box 3 rfl) rfl rfl) (Zd (z1 (r:=e) (o:=0) rfl rfl) (Zd (z1 (r:=e) (o:=0) rfl rfl) (Zd (zf (I.box 4 rfl) rfl rfl) (Zd (Zg7 rfl rfl) (Zd (z1 (r:=d) (o:=0) rfl rfl) (Zd (z1 (r:=d) (o:=0) rfl rfl) (Zd (zf (I.box 3 rfl) rfl rfl) (Zd (z1 (r:=e) (o:=0) rfl rfl) ?_))))))))))));refine Zd (z1 (r:=e) (o:=0) rfl rfl) (Zd (zf (I.box 4 rfl) rfl rfl) (Zd (Zg7 rfl rfl) (Zd (Zas (cs:=Zg.c (⟨max x.Low.X x1.Low.X,max x.Low.Y x1.Low.Y⟩:Za)) (by rw [(ZL (v:=.n (max x.Low.X x1.Low.X)) rfl (ZL (v:=.n (max x.Low.Y x1.Low.Y)) rfl z2))];rfl)) (zh (I.alloc (cs:=Zg.c (⟨0,0⟩:Za)) I.fr) ?_))));rintro _ a0 ⟨t,rfl,_,_,hW⟩;have aM:Own B h a0 [ZE j (ZD.c a),ZE s (ZD.c b),ZE g (zX.c by_),ZE d (Zf.c x),ZE e (Zf.c x1),ZE t (Zg.c (⟨0,0⟩:Za))]:=hW;refine zh (aM.stb (cs':=Zg.c (⟨max x.Low.X x1.Low.X,max x.Low.Y x1.Low.Y⟩:Za)) 5 rfl rfl rfl rfl ⟨rfl,Nat.le_of_ble_eq_true rfl,rfl⟩ rfl) ?_;rintro _ a1 ⟨rfl,_,_,hW⟩;have J:Own B h a1 [ZE j (ZD.c a),ZE s (ZD.c b),ZE g (zX.c by_),ZE d (Zf.c x),ZE e (Zf.c x1),ZE t (Zg.c (⟨max x.Low.X x1.Low.X,max x.Low.Y x1.Low.Y⟩:Za))]:=hW;refine Ze (Zi (Zd (z1 (r:=d) (o:=0) rfl rfl) (Zd (z1 (r:=d) (o:=2) rfl rfl) (Zd (zf (J.box 3 rfl) rfl rfl) (Zd (z1 (r:=e) (o:=0) rfl rfl) (Zd (z1 (r:=e) (o:=2) rfl rfl) (Zd (zf (J.box 4 rfl) rfl rfl) (Zd (Zg6 rfl rfl) (Zd (z1 (r:=d) (o:=0) rfl rfl) (Zd (z1 (r:=d) (o:=2) rfl rfl) (Zd (zf (J.box 3 rfl) rfl rfl) ?_)))))))))));refine Zd (z1 (r:=e) (o:=0) rfl rfl) (Zd (z1 (r:=e) (o:=2) rfl rfl) (Zd (zf (J.box 4 rfl) rfl rfl) (Zd (Zg6 rfl rfl) (Zd (Zas (cs:=Zg.c (⟨min x.High.X x1.High.X,min x.High.Y x1.High.Y⟩:Za)) (by rw [(ZL (v:=.n (min x.High.X x1.High.X)) rfl (ZL (v:=.n (min x.High.Y x1.High.Y)) rfl z2))];rfl)) (zh (J.alloc (cs:=Zg.c (⟨0,0⟩:Za)) J.fr) ?_)))));rintro _ a2 ⟨D,rfl,_,_,hW⟩;have aN:Own B h a2 [ZE j (ZD.c a),ZE s (ZD.c b),ZE g (zX.c by_),ZE d (Zf.c x),ZE e (Zf.c x1),ZE t (Zg.c (⟨max x.Low.X x1.Low.X,max x.Low.Y x1.Low.Y⟩:Za)),ZE D (Zg.c (⟨0,0⟩:Za))]:=hW;refine zh (aN.stb (cs':=Zg.c (⟨min x.High.X x1.High.X,min x.High.Y x1.High.Y⟩:Za)) 6 rfl rfl rfl rfl ⟨rfl,Nat.le_of_ble_eq_true rfl,rfl⟩ rfl) ?_;rintro _ M ⟨rfl,_,_,hW⟩;have F:Own B h M [ZE j (ZD.c a),ZE s (ZD.c b),ZE g (zX.c by_),ZE d (Zf.c x),ZE e (Zf.c x1),ZE t (Zg.c (⟨max x.Low.X x1.Low.X,max x.Low.Y x1.Low.Y⟩:Za)),ZE D (Zg.c (⟨min x.High.X x1.High.X,min x.High.Y x1.High.Y⟩:Za))]:=hW;refine Ze (Zi (Zd (z1 (r:=t) (o:=0) rfl rfl) (Zd (zf (F.box 5 rfl) rfl rfl) (Zd (z1 (r:=D) (o:=0) rfl rfl) (Zd (zf (F.box 6 rfl) rfl rfl) (Zd (ZcK rfl rfl) (Zb (.b (decide (((⟨min x.High.X x1.High.X,min x.High.Y x1.High.Y⟩:Za).X)<((⟨max x.Low.X x1.Low.X,max x.Low.Y x1.Low.Y⟩:Za).X)))) rfl (Zaa 6 (fun f k=>M=k∧f 62=.b ((decide (((⟨min x.High.X x1.High.X,min x.High.Y x1.High.Y⟩:Za).X)<((⟨max x.Low.X x1.Low.X,max x.Low.Y x1.Low.Y⟩:Za).X)))||(decide (((⟨min x.High.X x1.High.X,min x.High.Y x1.High.Y⟩:Za).Y)<((⟨max x.Low.X x1.Low.X,max x.Low.Y x1.Low.Y⟩:Za).Y))))∧f 10=.p e 0∧f 8=.f 184 [.p g 0]∧f 9=.p d 0) ?_ ?_))))))))
 ·rcases bc (decide (((⟨min x.High.X x1.High.X,min x.High.Y x1.High.Y⟩:Za).X)<((⟨max x.Low.X x1.Low.X,max x.Low.Y x1.Low.Y⟩:Za).X))) with y|y
  ·refine Zu rfl y (Zu rfl y (Zu rfl y (Zu rfl y (Zu rfl y (Zd (Zbo (w:=(decide (((⟨min x.High.X x1.High.X,min x.High.Y x1.High.Y⟩:Za).X)<((⟨max x.Low.X x1.Low.X,max x.Low.Y x1.Low.Y⟩:Za).X)))||(decide (((⟨min x.High.X x1.High.X,min x.High.Y x1.High.Y⟩:Za).Y)<((⟨max x.Low.X x1.Low.X,max x.Low.Y x1.Low.Y⟩:Za).Y)))) rfl y rfl) (Zt ?_))))));exact ⟨rfl,rfl,rfl,rfl,rfl⟩
  ·refine Z7 rfl y (Zd (z1 (r:=t) (o:=0) rfl rfl) (Z7 rfl y (Zd (zf (F.box 5 rfl) rfl rfl) (Z7 rfl y (Zd (z1 (r:=D) (o:=0) rfl rfl) (Z7 rfl y (Zd (zf (F.box 6 rfl) rfl rfl) (Z7 rfl y (Zd (ZcK rfl rfl) (Zd (Zbp rfl y rfl) (Zt ?_)))))))))));exact ⟨rfl,rfl,rfl,rfl,rfl⟩
 rintro _ _ ⟨rfl,aL,K,ac,L⟩;refine Zb _ aL (Ze (ZR (ZdD ?_)));have hW:=F.bump 33;have aJ:=Fresh.start M 33;have aO:Own B h (M.bump 33) [ZE j (ZD.c a),ZE s (ZD.c b),ZE g (zX.c by_),ZE d (Zf.c x),ZE e (Zf.c x1),ZE t (Zg.c (⟨max x.Low.X x1.Low.X,max x.Low.Y x1.Low.Y⟩:Za)),ZE D (Zg.c (⟨min x.High.X x1.High.X,min x.High.Y x1.High.Y⟩:Za))]:=hW;obtain ⟨x2,⟨_,am,ay,rfl,aj⟩,hp⟩:=bdk hp fun _=>Zax.ok (h:=(M.bump 33))  ;refine ZcW rfl Ziy ay ?_;have aK:=aJ.call aj;have O:Own B h am [ZE j (ZD.c a),ZE s (ZD.c b),ZE g (zX.c by_),ZE d (Zf.c x),ZE e (Zf.c x1),ZE t (Zg.c (⟨max x.Low.X x1.Low.X,max x.Low.Y x1.Low.Y⟩:Za)),ZE D (Zg.c (⟨min x.High.X x1.High.X,min x.High.Y x1.High.Y⟩:Za))]:=aO.call aj rfl;refine zN (.b x2) rfl ?_;refine ifk hp (fun A hp=>?_) (fun A hp=>?_)
 ·refine zF rfl A (ZM (zQ (O.box 3 rfl) L rfl) (zF rfl A (ZM (zQ (O.box 4 rfl) K rfl) (zF rfl A ?_))));obtain ⟨x3,⟨_,an,az,rfl,ak⟩,hp⟩:=bdk hp fun _=>zo.ok (h:=am)  ;refine ZcW rfl rfl az ?_;have aG:=aK.call ak;have P:Own B h an [ZE j (ZD.c a),ZE s (ZD.c b),ZE g (zX.c by_),ZE d (Zf.c x),ZE e (Zf.c x1),ZE t (Zg.c (⟨max x.Low.X x1.Low.X,max x.Low.Y x1.Low.Y⟩:Za)),ZE D (Zg.c (⟨min x.High.X x1.High.X,min x.High.Y x1.High.Y⟩:Za))]:=O.call ak rfl;refine zF rfl A (zN (.b ((decide (((⟨min x.High.X x1.High.X,min x.High.Y x1.High.Y⟩:Za).X)<((⟨max x.Low.X x1.Low.X,max x.Low.Y x1.Low.Y⟩:Za).X)))||(decide (((⟨min x.High.X x1.High.X,min x.High.Y x1.High.Y⟩:Za).Y)<((⟨max x.Low.X x1.Low.X,max x.Low.Y x1.Low.Y⟩:Za).Y))))) rfl (zF rfl A (ZM (ZfX rfl rfl) (ZM (ZaH (v:=.b (decide (x3=((decide (((⟨min x.High.X x1.High.X,min x.High.Y x1.High.Y⟩:Za).X)<((⟨max x.Low.X x1.Low.X,max x.Low.Y x1.Low.Y⟩:Za).X)))||(decide (((⟨min x.High.X x1.High.X,min x.High.Y x1.High.Y⟩:Za).Y)<((⟨max x.Low.X x1.Low.X,max x.Low.Y x1.Low.Y⟩:Za).Y))))))) rfl A rfl) (zN (.b (decide (x3=((decide (((⟨min x.High.X x1.High.X,min x.High.Y x1.High.Y⟩:Za).X)<((⟨max x.Low.X x1.Low.X,max x.Low.Y x1.Low.Y⟩:Za).X)))||(decide (((⟨min x.High.X x1.High.X,min x.High.Y x1.High.Y⟩:Za).Y)<((⟨max x.Low.X x1.Low.X,max x.Low.Y x1.Low.Y⟩:Za).Y))))))) rfl ?_)))));refine ifk hp (fun C hp=>?_) (fun C hp=>?_)
  ·refine zF rfl C (ZM (zQ (P.box 4 rfl) K rfl) (zF rfl C (ZM (zQ (P.box 3 rfl) L rfl) (zF rfl C ?_))));obtain ⟨x4,⟨_,ao,aA,rfl,al⟩,hp⟩:=bdk hp fun _=>zo.ok (h:=an)  ;refine ZcW rfl rfl aA ?_;have aa:=aG.call al;have Q:Own B h ao [ZE j (ZD.c a),ZE s (ZD.c b),ZE g (zX.c by_),ZE d (Zf.c x),ZE e (Zf.c x1),ZE t (Zg.c (⟨max x.Low.X x1.Low.X,max x.Low.Y x1.Low.Y⟩:Za)),ZE D (Zg.c (⟨min x.High.X x1.High.X,min x.High.Y x1.High.Y⟩:Za))]:=P.call al rfl;refine zF rfl C (zN (.b ((decide (((⟨min x.High.X x1.High.X,min x.High.Y x1.High.Y⟩:Za).X)<((⟨max x.Low.X x1.Low.X,max x.Low.Y x1.Low.Y⟩:Za).X)))||(decide (((⟨min x.High.X x1.High.X,min x.High.Y x1.High.Y⟩:Za).Y)<((⟨max x.Low.X x1.Low.X,max x.Low.Y x1.Low.Y⟩:Za).Y))))) rfl (zF rfl C (ZM (ZfX rfl rfl) (ZM (ZaH (v:=.b (decide (x4=((decide (((⟨min x.High.X x1.High.X,min x.High.Y x1.High.Y⟩:Za).X)<((⟨max x.Low.X x1.Low.X,max x.Low.Y x1.Low.Y⟩:Za).X)))||(decide (((⟨min x.High.X x1.High.X,min x.High.Y x1.High.Y⟩:Za).Y)<((⟨max x.Low.X x1.Low.X,max x.Low.Y x1.Low.Y⟩:Za).Y))))))) rfl C rfl) (zN (.b (decide (x4=((decide (((⟨min x.High.X x1.High.X,min x.High.Y x1.High.Y⟩:Za).X)<((⟨max x.Low.X x1.Low.X,max x.Low.Y x1.Low.Y⟩:Za).X)))||(decide (((⟨min x.High.X x1.High.X,min x.High.Y x1.High.Y⟩:Za).Y)<((⟨max x.Low.X x1.Low.X,max x.Low.Y x1.Low.Y⟩:Za).Y))))))) rfl ?_)))));refine ifk hp (fun l hp=>?_) (fun l hp=>?_)
   ·refine zF rfl l (zN _ ac (zF rfl l (ZM (zQ (Q.box 3 rfl) L rfl) (zF rfl l ?_))));obtain ⟨x5,⟨_,ap,aB,rfl,U⟩,hp⟩:=bdk hp fun _=>ZZ.ok (h:=ao)  (Q.box 2 rfl);refine ZcW rfl rfl aB ?_;have S:Own B h ap [ZE j (ZD.c a),ZE s (ZD.c b),ZE g (zX.c by_),ZE d (Zf.c x),ZE e (Zf.c x1),ZE t (Zg.c (⟨max x.Low.X x1.Low.X,max x.Low.Y x1.Low.Y⟩:Za)),ZE D (Zg.c (⟨min x.High.X x1.High.X,min x.High.Y x1.High.Y⟩:Za))]:=Q.call U rfl;refine zF rfl l (zN _ ac (zF rfl l (ZM (zQ (S.box 4 rfl) K rfl) (zF rfl l ?_))));obtain ⟨x6,⟨_,aq,aC,rfl,aV⟩,hp⟩:=bdk hp fun _=>ZZ.ok (h:=ap)  (S.box 2 rfl);refine ZcW rfl rfl aC ?_;have aP:Own B h aq [ZE j (ZD.c a),ZE s (ZD.c b),ZE g (zX.c by_),ZE d (Zf.c x),ZE e (Zf.c x1),ZE t (Zg.c (⟨max x.Low.X x1.Low.X,max x.Low.Y x1.Low.Y⟩:Za)),ZE D (Zg.c (⟨min x.High.X x1.High.X,min x.High.Y x1.High.Y⟩:Za))]:=S.call aV rfl;refine zF rfl l ?_;obtain ⟨x7,⟨_,ar,aD,rfl,aW⟩,hp⟩:=bdk hp fun _=>zo.ok (h:=aq)  ;refine ZcW rfl rfl aD ?_;have R:Own B h ar [ZE j (ZD.c a),ZE s (ZD.c b),ZE g (zX.c by_),ZE d (Zf.c x),ZE e (Zf.c x1),ZE t (Zg.c (⟨max x.Low.X x1.Low.X,max x.Low.Y x1.Low.Y⟩:Za)),ZE D (Zg.c (⟨min x.High.X x1.High.X,min x.High.Y x1.High.Y⟩:Za))]:=aP.call aW rfl;refine zF rfl l (zN (.b ((decide (((⟨min x.High.X x1.High.X,min x.High.Y x1.High.Y⟩:Za).X)<((⟨max x.Low.X x1.Low.X,max x.Low.Y x1.Low.Y⟩:Za).X)))||(decide (((⟨min x.High.X x1.High.X,min x.High.Y x1.High.Y⟩:Za).Y)<((⟨max x.Low.X x1.Low.X,max x.Low.Y x1.Low.Y⟩:Za).Y))))) rfl (zF rfl l (ZM (ZfX rfl rfl) (ZM (ZaH (v:=.b (decide (x7=((decide (((⟨min x.High.X x1.High.X,min x.High.Y x1.High.Y⟩:Za).X)<((⟨max x.Low.X x1.Low.X,max x.Low.Y x1.Low.Y⟩:Za).X)))||(decide (((⟨min x.High.X x1.High.X,min x.High.Y x1.High.Y⟩:Za).Y)<((⟨max x.Low.X x1.Low.X,max x.Low.Y x1.Low.Y⟩:Za).Y))))))) rfl l rfl) (zN (.b (decide (x7=((decide (((⟨min x.High.X x1.High.X,min x.High.Y x1.High.Y⟩:Za).X)<((⟨max x.Low.X x1.Low.X,max x.Low.Y x1.Low.Y⟩:Za).X)))||(decide (((⟨min x.High.X x1.High.X,min x.High.Y x1.High.Y⟩:Za).Y)<((⟨max x.Low.X x1.Low.X,max x.Low.Y x1.Low.Y⟩:Za).Y))))))) rfl ?_)))));refine ifk hp (fun E hp=>?_) (fun E hp=>?_)
    ·refine zF rfl E (ZM (zQ (R.box 3 rfl) L rfl) (zF rfl E (ZM (zQ (R.box 3 rfl) L rfl) (zF rfl E ?_))));obtain ⟨x8,⟨_,a4,aE,rfl,aX⟩,hp⟩:=bdk hp fun _=>zo.ok (h:=ar)  ;refine ZcW rfl rfl aE ?_;have aQ:Own B h a4 [ZE j (ZD.c a),ZE s (ZD.c b),ZE g (zX.c by_),ZE d (Zf.c x),ZE e (Zf.c x1),ZE t (Zg.c (⟨max x.Low.X x1.Low.X,max x.Low.Y x1.Low.Y⟩:Za)),ZE D (Zg.c (⟨min x.High.X x1.High.X,min x.High.Y x1.High.Y⟩:Za))]:=R.call aX rfl;refine zF rfl E (ZM (Zcr rfl) (ZM (ZaH (v:=.b (!x8)) rfl E rfl) (zN (.b (!x8)) rfl (ZaO ?_))));refine And.intro ?_ ?_
     ·intro q hq;simp only [List.mem_cons,List.not_mem_nil,or_false] at hq;rcases hq with rfl|rfl|rfl|rfl|rfl
      ·refine zC ?_ ?_
       ·exact nofun
       ·exact nofun
      ·refine zC ?_ ?_
       ·exact nofun
       ·exact nofun
      ·refine zC ?_ ?_
       ·exact nofun
       ·exact nofun
      ·refine ZcZ rfl ?_
       ·exact (fun r hm hc=>hc (U.base r (Nat.lt_of_lt_of_le (F.ltAt 4 rfl _ (tch (Zcs hm) K)) (Nat.le_trans (Nat.le_add_right _ _) aa.n))))
      ·refine zC ?_ ?_
       ·exact nofun
       ·exact nofun
     refine Z5 (zp (ZS (ze rfl ZA) ?_));cases hp;exact ⟨rfl,(aQ.pk [])⟩
    ·refine Z3 rfl E (Z3 rfl E (Z3 rfl E (Z3 rfl E (ZM (zW (v:=.b false) rfl E rfl) (zN (.b false) rfl (ZaO ?_))))));refine And.intro ?_ ?_
     ·intro q hq;simp only [List.mem_cons,List.not_mem_nil,or_false] at hq;rcases hq with rfl|rfl|rfl|rfl|rfl
      ·refine zC ?_ ?_
       ·exact nofun
       ·exact nofun
      ·refine zC ?_ ?_
       ·exact nofun
       ·exact nofun
      ·refine zC ?_ ?_
       ·exact nofun
       ·exact nofun
      ·refine ZcZ rfl ?_
       ·exact (fun r hm hc=>hc (U.base r (Nat.lt_of_lt_of_le (F.ltAt 4 rfl _ (tch (Zcs hm) K)) (Nat.le_trans (Nat.le_add_right _ _) aa.n))))
      ·exact ZaS
     refine Z5 (zp (ZS (ze rfl ZA) ?_));cases hp;exact ⟨rfl,(R.pk [])⟩
   ·refine Z3 rfl l (Z3 rfl l (Z3 rfl l (Z3 rfl l (Z3 rfl l (Z3 rfl l (Z3 rfl l (Z3 rfl l (Z3 rfl l (ZM (zW (v:=.b false) rfl l rfl) (zN (.b false) rfl (Z3 rfl rfl (Z3 rfl rfl (Z3 rfl rfl ?_)))))))))))));refine Z3 rfl rfl (ZM (zW (v:=.b false) rfl rfl rfl) (zN (.b false) rfl (ZaO ?_)));refine And.intro ?_ ?_
    ·intro q hq;simp only [List.mem_cons,List.not_mem_nil,or_false] at hq;rcases hq with rfl|rfl|rfl|rfl|rfl
     ·refine zC ?_ ?_
      ·exact nofun
      ·exact nofun
     ·refine zC ?_ ?_
      ·exact nofun
      ·exact nofun
     ·exact ZaS
     ·exact ZaS
     ·exact ZaS
    refine Z5 (zp (ZS (ze rfl ZA) ?_));cases hp;exact ⟨rfl,(Q.pk [])⟩
  ·refine Z3 rfl C (Z3 rfl C (Z3 rfl C (Z3 rfl C (Z3 rfl C (ZM (zW (v:=.b false) rfl C rfl) (zN (.b false) rfl (Z3 rfl rfl (Z3 rfl rfl (Z3 rfl rfl (Z3 rfl rfl (Z3 rfl rfl (Z3 rfl rfl (Z3 rfl rfl ?_)))))))))))));refine Z3 rfl rfl (Z3 rfl rfl (ZM (zW (v:=.b false) rfl rfl rfl) (zN (.b false) rfl (Z3 rfl rfl (Z3 rfl rfl (Z3 rfl rfl (Z3 rfl rfl (ZM (zW (v:=.b false) rfl rfl rfl) (zN (.b false) rfl (ZaO ?_))))))))));refine And.intro ?_ ?_
   ·intro q hq;simp only [List.mem_cons,List.not_mem_nil,or_false] at hq;rcases hq with rfl|rfl|rfl|rfl|rfl
    ·refine zC ?_ ?_
     ·exact nofun
     ·exact nofun
    ·exact ZaS
    ·exact ZaS
    ·exact ZaS
    ·exact ZaS
   refine Z5 (zp (ZS (ze rfl ZA) ?_));cases hp;exact ⟨rfl,(P.pk [])⟩
 ·refine Z3 rfl A (Z3 rfl A (Z3 rfl A (Z3 rfl A (Z3 rfl A (ZM (zW (v:=.b false) rfl A rfl) (zN (.b false) rfl (Z3 rfl rfl (Z3 rfl rfl (Z3 rfl rfl (Z3 rfl rfl (Z3 rfl rfl (ZM (zW (v:=.b false) rfl rfl rfl) (zN (.b false) rfl ?_)))))))))))));refine Z3 rfl rfl (Z3 rfl rfl (Z3 rfl rfl (Z3 rfl rfl (Z3 rfl rfl (Z3 rfl rfl (Z3 rfl rfl (Z3 rfl rfl (Z3 rfl rfl (ZM (zW (v:=.b false) rfl rfl rfl) (zN (.b false) rfl (Z3 rfl rfl (Z3 rfl rfl (Z3 rfl rfl ?_)))))))))))));refine Z3 rfl rfl (ZM (zW (v:=.b false) rfl rfl rfl) (zN (.b false) rfl (ZaO ?_)));refine And.intro ?_ ?_
  ·intro q hq;simp only [List.mem_cons,List.not_mem_nil,or_false] at hq;rcases hq with rfl|rfl|rfl|rfl|rfl
   ·exact ZaS
   ·exact ZaS
   ·exact ZaS
   ·exact ZaS
   ·exact ZaS
  refine Z5 (zp (ZS (ze rfl ZA) ?_));cases hp;exact ⟨rfl,(O.pk [])⟩

end Mu
