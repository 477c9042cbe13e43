/- The code comes to what was worked out. -/
import Derived.Test.YtdefkboekpjiiaaMuDf
import Derived.Test.YtdefkboekpjiiaaMuPa
import Derived.Test.YtdefkboekpjiiaaMuC3
set_option linter.unusedVariables false
set_option linter.unnecessarySimpa false
set_option linter.unusedSimpArgs false
set_option maxHeartbeats 2000000
set_option maxRecDepth 10000
namespace Mu
open Go (IntKind BinOp UnOp)
theorem zy.ok {h:Hp} {l:List Za} {picks:List Bool} {v_l:V} {v_picks:V} (H:Own (Bm h [eSl Zd v_l l]) h h [eSl Zd v_l l]) (s_picks:Rd (Bm h [eSl Zd v_l l]) h e_bool v_picks picks) {r:(List Za) × Int} (hp:zy l picks=some r) :
  ∃ u k',Is G 216 [v_l,v_picks] h u k'∧∃ a8,V.tu [a8,.n r.2]=u∧Own (Bm h [eSl Zd v_l l]) h k' [eSl Zd a8 r.1]:=by
 refine WC.is (ZaP Zdh ?_)
 unfold zy at hp
 let B:Nat→Prop:=(Bm h [eSl Zd v_l l])
 have hO:Own B h h [eSl Zd v_l l]:=H
 refine Zi (Zb (.sn) rfl (Zb (.n 0) rfl (Ze (ZB (Zi ?_)))))
 refine Zb (.n 0) rfl (Ze (Zaa (Zb7 hp (fun | (l1,n),fr,k=>∃ U,fr 0=U∧fr 1=v_picks∧fr 6=.n n∧Own B h k [eSl Zd U l1]) (fun | .inl l2,e,fr,k=>e=(.exit 0)∧∃ W,fr 0=W∧Own B h k [eSl Zd W l2] | .inr (x,x1),e,fr,k=>e=.ret∧∃ ah,fr 4=ah∧fr 5=.n x1∧Own B h k [eSl Zd ah x]) ⟨v_l,rfl,rfl,rfl,(hO.pk [0])⟩ ?_ ?_)))
 ·rintro ⟨l1,n⟩ cA bM ⟨U,an,bT,aS,ak⟩ cx hp
  dsimp only [zy.s0] at hp
  refine ZB (Zi (Zb _ aS (Zc (zF rfl rfl) (Ze (zD hp rfl (fun ba hp=>?_) (fun ba hp=>?_))))))
  ·refine Zas (ZB (Zaa (Zi (Zb _ an ?_))))
   obtain ⟨x2,⟨cF,ci,bn,D,g,rfl,bH⟩,hp⟩:=bdk hp fun _=>ZX.ok (h:=bM)  (ak.sl 0 rfl)
   refine ZaI rfl rfl bn ?_
   have bF:=ak.call bH rfl
   refine Zb D rfl (Ze (Zi (Zb (.b true) rfl (Ze (ZB ?_)))))
   refine Zi (Zb (.n 0) rfl (Ze (Zaa (Zb7 hp (fun | (l3,done,i),fr,k=>∃ A,fr 0=A∧fr 1=v_picks∧fr 6=.n n∧fr 7=D∧fr 8=.b done∧fr 9=.n i∧Own B h k [eSl Zd A l3,eSl eV D g,ZbW Zl g x2]) (fun | (l4,done1),e,fr,k=>e=(.exit 2)∧∃ Q,fr 0=Q∧fr 1=v_picks∧fr 6=.n n∧fr 8=.b done1∧Own B h k [eSl Zd Q l4]) ⟨U,an,bT,aS,rfl,rfl,rfl,(bF.pk [0,1,2])⟩ ?_ ?_))))
   ·rintro ⟨l3,done,i⟩ cC am ⟨A,aV,aW,aX,ao,ap,aq,C⟩ cy hp
    dsimp only [zy.s1] at hp
    refine ZB (Zi (Zb _ aq (Zb _ ao (Zc (Zg4 (n:=(x2).length) (C.sl 1 rfl) (C.allLen 2 rfl:(g).length=(x2).length) rfl) (Zc (zF rfl rfl) (Zb (.b (decide (i < (x2.length:Int)))) rfl (zK 2 (fun f k=>am=k∧f 30=.b ((decide (i < (x2.length:Int))) && done)∧f 0=A∧f 1=v_picks∧f 6=.n n∧f 7=D∧f 8=.b done∧f 9=.n i) ?_ ?_)))))))
    ·rcases bc (decide (i < (x2.length:Int))) with R | R
     ·refine Zp rfl R (Zb _ ap (Zc (ZcN rfl R rfl) (Zg ?_)))
      exact ⟨rfl,rfl,aV,aW,aX,ao,ap,aq⟩
     ·refine Zh rfl R (Zc (ZcM (w:=(decide (i < (x2.length:Int))) && done) rfl R rfl) (Zg ?_))
      exact ⟨rfl,rfl,aV,aW,aX,ao,ap,aq⟩
    rintro ca _ ⟨rfl,bz,S,aa,ab,L,aC,M⟩
    refine Ze (zD hp bz (fun bb hp=>?_) (fun bb hp=>?_))
    ·refine Zas (ZB (Zaa (Zi (Zb _ S (Zb _ L (Zb _ M ?_))))))
     refine ckk hp fun y hp=>Zc (ZZ (C.sl 1 rfl) rfl rfl (by rw [(C.allLen 2 rfl:(g).length=(x2).length)]; exact y)) (Zc (zN (C.sl 1 rfl) rfl (by rw [(C.allLen 2 rfl:(g).length=(x2).length)]; exact Zf y) rfl) ?_)
     obtain ⟨x3,⟨cG,bN,bo,a9,rfl,bI⟩,hp⟩:=bdk hp fun _=>Zaz.ok (h:=am)  (C.sl 0 rfl) (C.inn 2 rfl (Zf y):Sl Zl am (gi g i.toNat) (gi x2 i.toNat))
     refine ZaI rfl rfl bo ?_
     have aO:=C.call bI rfl
     refine Zb a9 rfl (Ze (Zi (Zb a9 rfl ?_)))
     obtain ⟨⟨x4,x5,x6⟩,⟨cH,ck,bp,rfl,bJ⟩,hp⟩:=bdk hp fun _=>zS.ok (h:=bN)  (aO.sl 3 rfl)
     refine ZaI rfl rfl bp ?_
     have aP:=aO.call bJ rfl
     refine Zb (.tu [.ag (Zm.c x4),.ag (Zm.c x5),.b x6]) rfl (Zc (Zbr rfl rfl) (Zc (Zbr rfl rfl) (Zc (Zbr rfl rfl) (zz (aP.alloc (cs:=Zm.c (⟨0,0⟩:Zq)) aP.fr) ?_))))
     rintro _ cl ⟨a7,rfl,cr,b3,aQ⟩
     refine zz (aQ.alloc (cs:=Zm.c (⟨0,0⟩:Zq)) aQ.fr) ?_
     rintro _ cm ⟨b2,rfl,ct,b4,bG⟩
     refine zz (bG.stb (cs':=Zm.c x4) 4 rfl rfl rfl rfl ⟨rfl,Nat.le_of_ble_eq_true rfl,rfl⟩ rfl) ?_
     rintro _ cd ⟨rfl,b5,cn,bB⟩
     refine zz (bB.stb (cs':=Zm.c x5) 5 rfl rfl rfl rfl ⟨rfl,Nat.le_of_ble_eq_true rfl,rfl⟩ rfl) ?_
     rintro _ ad ⟨rfl,b6,co,J⟩
     refine Zb (.b x6) rfl (Ze (ZB (Zi (Zb (.b x6) rfl (Zc (ZcO rfl) (Zg ?_))))))
     refine Zo (zD hp rfl (fun bd hp=>?_) (fun bd hp=>?_))
     ·refine Zbq (zM (Zav (Zo (zI (Zb _ M (ckk hp fun bj hp=>Zc (zc rfl rfl bj) (Zb (.n (i + 1)) rfl ?_)))))))
      refine Zg ?_
      cases hp
      exact ⟨rfl,A,S,aa,ab,L,aC,rfl,(J.pk [0,1,2])⟩
     ·refine Zas (Zi (Zb (.b false) rfl (Ze (ZB (ZeH ?_)))))
      have E:=J.bump 10
      have aA:=Fresh.start ad 10
      have bO:∀ {i:Nat},h.n≤ad.n + i:=Nat.le_trans J.n (Nat.le_add_right _ _)
      refine ZaU _ L (ZaU _ M (ZT (ZZ (E.sl 1 rfl) rfl rfl (by rw [(E.allLen 2 rfl:(g).length=(x2).length)]; exact y)) (ZT (zN (E.sl 1 rfl) rfl (by rw [(E.allLen 2 rfl:(g).length=(x2).length)]; exact Zf y) rfl) (ZT (zG (r:=a7) (o:=0) rfl rfl) (ZT (ZU (E.box 4 rfl) rfl rfl) (ckk hp fun ax hp=>ZT (ZZ (E.inn 2 rfl (Zf y):Sl Zl (ad.bump 10) (gi g i.toNat) (gi x2 i.toNat)) rfl rfl ax) (ZT (Zdb (E.inn 2 rfl (Zf y):Sl Zl (ad.bump 10) (gi g i.toNat) (gi x2 i.toNat)) rfl (Zf ax)) ?_)))))))
      refine Zd1 (E.alloc (cs:=Zl.c (⟨0,0⟩:Zz)) ⟨aA.m 8 (by decide) (by decide),bO⟩) ?_
      rintro _ ce cJ ⟨I,rfl,cu,br,bC⟩
      have bv:=aA.kept br (by decide)
      refine Zd1 (bC.stb (cs':=Zl.c (gi (gi x2 i.toNat) (x4.At:Int).toNat)) 6 rfl rfl rfl rfl ⟨rfl,Nat.le_of_ble_eq_true rfl,rfl⟩ rfl) ?_
      rintro _ ae cK ⟨rfl,bs,cp,N⟩
      have b7:=bv.kept bs (by decide)
      refine Zcv ?_
      refine And.intro ?_ ?_
      ·intro q hq
       simp only [List.mem_cons,List.not_mem_nil,or_false] at hq
       rcases hq with rfl | rfl | rfl | rfl
       ·refine z9 ?_ ?_
        ·exact (fun h=>nomatch h)
        ·exact (fun h=>nomatch h)
       ·refine z9 ?_ ?_
        ·exact (fun h=>nomatch h)
        ·exact (fun _ hm=>Nat.lt_irrefl _ (Nat.lt_of_lt_of_le (J.ltAt 1 rfl _ (ZbU (tch (ZbN hm) rfl))) (Nat.le_add_right _ _)))
       ·refine z9 ?_ ?_
        ·exact (fun h=>nomatch h)
        ·exact (fun _ hm=>Nat.lt_irrefl _ (Nat.lt_of_lt_of_le (J.ltAt 4 rfl _ (tch (ZbN hm) rfl)) (Nat.le_add_right _ _)))
       ·refine z9 ?_ ?_
        ·exact (fun h=>nomatch h)
        ·exact (fun _ hm=>Nat.lt_irrefl _ (Nat.lt_of_lt_of_le (J.ltAt 2 rfl _ (Zep (j:=i.toNat) (by have q:(g).length=(x2).length:=J.allLen 2 rfl; have:=y; omega) (ZbU (tch (ZbN hm) rfl)))) (Nat.le_add_right _ _)))
      refine Zo (ZB (ZeH ?_))
      have F:=N.bump 10
      have aB:=Fresh.start ae 10
      have bP:∀ {i:Nat},h.n≤ae.n + i:=Nat.le_trans N.n (Nat.le_add_right _ _)
      refine ZaU _ L (ZaU _ M (ZT (ZZ (F.sl 1 rfl) rfl rfl (by rw [(F.allLen 2 rfl:(g).length=(x2).length)]; exact y)) (ZT (zN (F.sl 1 rfl) rfl (by rw [(F.allLen 2 rfl:(g).length=(x2).length)]; exact Zf y) rfl) (ZT (zG (r:=b2) (o:=0) rfl rfl) (ZT (ZU (F.box 5 rfl) rfl rfl) (ckk hp fun ay hp=>ZT (ZZ (F.inn 2 rfl (Zf y):Sl Zl (ae.bump 10) (gi g i.toNat) (gi x2 i.toNat)) rfl rfl ay) (ZT (Zdb (F.inn 2 rfl (Zf y):Sl Zl (ae.bump 10) (gi g i.toNat) (gi x2 i.toNat)) rfl (Zf ay)) ?_)))))))
      refine Zd1 (F.alloc (cs:=Zl.c (⟨0,0⟩:Zz)) ⟨aB.m 8 (by decide) (by decide),bP⟩) ?_
      rintro _ cf cL ⟨K,rfl,cv,bt,bD⟩
      have bw:=aB.kept bt (by decide)
      refine Zd1 (bD.stb (cs':=Zl.c (gi (gi x2 i.toNat) (x5.At:Int).toNat)) 7 rfl rfl rfl rfl ⟨rfl,Nat.le_of_ble_eq_true rfl,rfl⟩ rfl) ?_
      rintro _ cg cM ⟨rfl,bu,cq,ac⟩
      have b8:=bw.kept bu (by decide)
      refine Zcv ?_
      refine And.intro ?_ ?_
      ·intro q hq
       simp only [List.mem_cons,List.not_mem_nil,or_false] at hq
       rcases hq with rfl | rfl | rfl | rfl
       ·refine z9 ?_ ?_
        ·exact (fun h=>nomatch h)
        ·exact (fun h=>nomatch h)
       ·refine z9 ?_ ?_
        ·exact (fun h=>nomatch h)
        ·exact (fun _ hm=>Nat.lt_irrefl _ (Nat.lt_of_lt_of_le (N.ltAt 1 rfl _ (ZbU (tch (ZbN hm) rfl))) (Nat.le_add_right _ _)))
       ·refine z9 ?_ ?_
        ·exact (fun h=>nomatch h)
        ·exact (fun _ hm=>Nat.lt_irrefl _ (Nat.lt_of_lt_of_le (N.ltAt 5 rfl _ (tch (ZbN hm) rfl)) (Nat.le_add_right _ _)))
       ·refine z9 ?_ ?_
        ·exact (fun h=>nomatch h)
        ·exact (fun _ hm=>Nat.lt_irrefl _ (Nat.lt_of_lt_of_le (N.ltAt 2 rfl _ (Zep (j:=i.toNat) (by have q:(g).length=(x2).length:=N.allLen 2 rfl; have:=y; omega) (ZbU (tch (ZbN hm) rfl)))) (Nat.le_add_right _ _)))
      refine Zo (Zi (Zc (zG (r:=I) (o:=0) rfl rfl) (Zc (ZU (ac.box 6 rfl) rfl rfl) (Zb (.n ((gi (gi x2 i.toNat) (x4.At:Int).toNat).Dir)) rfl (Ze (ZB ?_))))))
      refine Zi (Zc (zG (r:=a7) (o:=0) rfl rfl) (Zc (ZU (ac.box 4 rfl) rfl rfl) (Zc (Zbl rfl rfl) (Ze (Zgd hp (fun d e fr k=>e=.normal∧fr 0=A∧fr 1=v_picks∧fr 6=.n n∧fr 7=D∧fr 8=.b false∧fr 9=.n i∧fr 14=.p I 0∧fr 15=.p K 0∧fr 16=.n d∧Own B h k [eSl Zd A l3,eSl eV D g,ZbW Zl g x2,zP I (Zl.c (gi (gi x2 i.toNat) (x4.At:Int).toNat)),zP K (Zl.c (gi (gi x2 i.toNat) (x5.At:Int).toNat))]) (fun _ hp=>?_) ?_)))))
      ·refine zD hp rfl (fun be hp=>?_) (fun be hp=>?_)
       ·refine zI (Zb (.n ((gi (gi x2 i.toNat) (x4.At:Int).toNat).Dir)) rfl (ckk hp fun bk hp=>Zc (zc rfl rfl bk) (Zc (Zc6 rfl rfl (by decide)) (Zb (.n ((((gi (gi x2 i.toNat) (x4.At:Int).toNat).Dir) + 3).tmod 4)) rfl (Zg ?_)))))
        cases hp
        exact ⟨rfl,S,aa,ab,L,rfl,M,rfl,rfl,rfl,(ac.pk [0,1,2,6,7])⟩
       ·refine Zc2 ?_
        cases hp
        exact ⟨rfl,S,aa,ab,L,rfl,M,rfl,rfl,rfl,(ac.pk [0,1,2,6,7])⟩
      rintro d hp _ cD bL ⟨rfl,aY,T,af,a2,a3,a4,aZ,a0,a1,O⟩
      refine Zo (Zi (Zb _ af (Zb _ T (Zc (Zae (O.rd0 s_picks) rfl) (Zc (zF rfl rfl) (Zb (.b (decide (n < (picks.length:Int)))) rfl ?_))))))
      obtain ⟨t,bK,hp⟩:=ZaH hp
      refine zK 10 (fun f k=>bL=k∧f 85=.b t∧f 0=A∧f 1=v_picks∧f 14=.p I 0∧f 15=.p K 0∧f 16=.n d∧f 6=.n n∧f 7=D∧f 8=.b false∧f 9=.n i) ?_ ?_
      ·clear hp; rcases ZaR bK with ⟨a,hp⟩ | ⟨a,hp⟩
       ·refine Zp rfl a (Zb _ T (Zp rfl a (Zb _ af (Zp rfl a (Zb _ T (Zp rfl a (Zc (Zae (O.rd0 s_picks) rfl) (Zp rfl a ?_))))))))
        refine ckk hp fun bl hp=>Zc (ZhQ rfl rfl bl) (Zp rfl a (Zc (Zor rfl rfl) (Zp rfl a (Zc (Znd rfl rfl) (Zp rfl a (ckk hp fun az hp=>Zc (ZZ (O.rd0 s_picks) rfl rfl az) ?_))))))
        refine Zp rfl a (Zc (zN (O.rd0 s_picks) rfl (Zf az) rfl) (Zc (ZaF (v:=.b t) rfl a (Eq.trans (b:=V.b (gi picks (min n (max ((picks.length:Int) - 1) 0):Int).toNat)) rfl (congrArg V.b (Option.some.inj hp)))) (Zg ?_)))
        exact ⟨rfl,rfl,aY,T,aZ,a0,a1,af,a2,a3,a4⟩
       ·refine Zh rfl a (Zh rfl a (Zh rfl a (Zh rfl a (Zh rfl a (Zh rfl a (Zh rfl a (Zh rfl a (Zh rfl a ?_))))))))
        refine Zc (Za5 (v:=.b t) rfl a (Eq.trans (b:=V.b false) rfl (congrArg V.b (Option.some.inj hp)))) (Zg ?_)
        exact ⟨rfl,rfl,aY,T,aZ,a0,a1,af,a2,a3,a4⟩
      rintro cb _ ⟨rfl,bA,aD,aE,aF,aG,ai,aH,aI,aJ,aK⟩
      refine Zb _ bA (Ze (ZB (Zi (Zb (.b t) rfl (Zb _ ai (Zc (Zc6 rfl rfl (by decide)) ?_))))))
      refine Zc (Zbl rfl rfl) (Zc (ZlD rfl rfl) (Ze (Zgd hp (fun d1 e fr k=>e=.normal∧fr 0=A∧fr 1=v_picks∧fr 6=.n n∧fr 7=D∧fr 8=.b false∧fr 9=.n i∧fr 14=.p I 0∧fr 15=.p K 0∧fr 16=.n d1∧Own B h k [eSl Zd A l3,eSl eV D g,ZbW Zl g x2,zP I (Zl.c (gi (gi x2 i.toNat) (x4.At:Int).toNat)),zP K (Zl.c (gi (gi x2 i.toNat) (x5.At:Int).toNat))]) (fun _ hp=>?_) ?_)))
      ·refine zD hp rfl (fun bf hp=>?_) (fun bf hp=>?_)
       ·refine zI (Zb _ ai (ckk hp fun bm hp=>Zc (zc rfl rfl bm) (Zc (Zc6 rfl rfl (by decide)) (Zb (.n ((d + 1).tmod 4)) rfl (Zg ?_)))))
        cases hp
        exact ⟨rfl,aD,aE,aH,aI,aJ,aK,aF,aG,rfl,(O.pk [0,1,2,3,4])⟩
       ·refine Zc2 ?_
        cases hp
        exact ⟨rfl,aD,aE,aH,aI,aJ,aK,aF,aG,ai,(O.pk [0,1,2,3,4])⟩
      rintro d1 hp _ cE al ⟨rfl,ar,bW,bY,bZ,b0,b1,a5,a6,bX,aM⟩
      refine Zo (ZeH ?_)
      have s:=aM.bump 25
      have bx:=Fresh.start al 25
      have cw:∀ {i:Nat},h.n≤al.n + i:=Nat.le_trans aM.n (Nat.le_add_right _ _)
      refine ZaU _ ar (ZaU _ ar (ZT (zG (r:=I) (o:=0) a5 rfl) (ZT (ZU (s.box 3 rfl) rfl rfl) (ZT (zG (r:=I) (o:=0) a5 rfl) (ZT (ZU (s.box 3 rfl) rfl rfl) (ckk hp fun Y hp=>ZT (ZZ (s.sl 0 rfl) rfl rfl Y) (ZT (Zbo (s.sl 0 rfl) (Zf Y) rfl rfl) ?_)))))))
      refine ckk hp fun av hp=>ZT (ZaZ (s.sl 0 rfl) (Zf Y) rfl rfl av rfl) (ZT (zN (s.sl 0 rfl) rfl (Zf Y) (zx av)) (ZaU _ bX (ZaU _ ar (ZT (zG (r:=K) (o:=0) a6 rfl) (ZT (ZU (s.box 4 rfl) rfl rfl) (ZT (zG (r:=K) (o:=0) a6 rfl) (ZT (ZU (s.box 4 rfl) rfl rfl) ?_)))))))
      refine ckk hp fun X hp=>ZT (ZZ (s.sl 0 rfl) rfl rfl X) (ZT (Zbo (s.sl 0 rfl) (Zf X) rfl rfl) (ckk hp fun aw hp=>ZT (ZaZ (s.sl 0 rfl) (Zf X) rfl rfl aw rfl) (ZT (zN (s.sl 0 rfl) rfl (Zf X) (zx aw)) ?_)))
      obtain ⟨⟨x7,x8⟩,⟨cI,ch,bq,au,rfl,aR⟩,hp⟩:=bdk hp fun _=>zR.ok (h:=(al.bump 25)) (l:=l3) (v:=(((gi l3 ((gi (gi x2 i.toNat) (x4.At:Int).toNat).Cell:Int).toNat).Next).get ((gi (gi x2 i.toNat) (x4.At:Int).toNat).Dir))) (d:=d1) (w:=(((gi l3 ((gi (gi x2 i.toNat) (x5.At:Int).toNat).Cell:Int).toNat).Next).get ((gi (gi x2 i.toNat) (x5.At:Int).toNat).Dir))) (o:=(-2)) (s.toM [0] rfl (by decide)) 
      refine Zi0 rfl rfl bq ?_
      have b9:=bx.callM (s.pick [0] rfl (by decide)).P aR
      have bE:=(s.callM [0] [1,2,3,4] rfl rfl (by decide) aR rfl).pick [900,0,1,2,3,4] rfl (by decide)
      refine ZaU (.tu [au,.n x8]) rfl (ZT (Zbr rfl rfl) (ZT (Zbr rfl rfl) (ZaU au rfl (Zcv ?_))))
      refine And.intro ?_ ?_
      ·intro q hq
       simp only [List.mem_cons,List.not_mem_nil,or_false] at hq
       rcases hq with rfl | rfl | rfl | rfl | rfl | rfl | rfl | rfl | rfl | rfl | rfl
       ·refine z9 ?_ ?_
        ·exact (fun h=>nomatch h)
        ·exact (fun h=>nomatch h)
       ·refine z9 ?_ ?_
        ·exact (fun h=>nomatch h)
        ·exact (fun h=>nomatch h)
       ·refine z9 ?_ ?_
        ·exact (fun h=>nomatch h)
        ·exact (fun h=>nomatch h)
       ·refine z9 ?_ ?_
        ·exact (fun h=>nomatch h)
        ·exact (fun h=>nomatch h)
       ·refine z9 ?_ ?_
        ·exact (fun h=>nomatch h)
        ·exact (fun h=>nomatch h)
       ·refine z9 ?_ ?_
        ·exact (fun h=>nomatch h)
        ·exact (fun h=>nomatch h)
       ·refine z9 ?_ ?_
        ·exact (fun h=>nomatch h)
        ·exact (fun h=>nomatch h)
       ·refine z9 ?_ ?_
        ·exact (fun h=>nomatch h)
        ·exact (fun h=>nomatch h)
       ·refine z9 ?_ ?_
        ·exact (fun h=>nomatch h)
        ·exact (fun h=>nomatch h)
       ·refine z9 ?_ ?_
        ·exact (fun h=>nomatch h)
        ·exact (fun h=>nomatch h)
       ·refine z9 ?_ ?_
        ·exact (fun h=>nomatch h)
        ·exact (fun h=>nomatch h)
      refine Zaf (Zo (zI (Zb _ b1 (ckk hp fun bh hp=>Zc (zc rfl rfl bh) (Zb (.n (i + 1)) rfl (Zg ?_))))))
      cases hp
      exact ⟨rfl,au,rfl,bW,bY,bZ,b0,rfl,(bE.pk [5,1,2])⟩
    ·refine Zbq (zM ?_)
     cases hp
     exact ⟨nofun,rfl,A,S,aa,ab,aC,(C.pk [0])⟩
   rintro ⟨l4,done1⟩ hp _ cB cj ⟨rfl,Q,aT,bU,aU,bV,aN⟩
   refine Zav (Zo (Zi (Zb _ bV (Ze (zD hp rfl (fun bg hp=>?_) (fun bg hp=>?_))))))
   ·refine Zi (Zb _ aT (Zb _ aU (Zb Q rfl (Zb (.n n) rfl (Ze (Zar ?_))))))
    refine Zbv (zE ?_)
    cases hp
    exact ⟨nofun,rfl,Q,rfl,rfl,(aN.pk [0])⟩
   ·refine Zc2 (Zaf (Zo (zI (Zb _ aU (ckk hp fun bi hp=>Zc (zc rfl rfl bi) (Zb (.n (n + 1)) rfl (Zg ?_)))))))
    cases hp
    exact ⟨rfl,Q,aT,bU,rfl,(aN.pk [0])⟩
  ·refine Zbq (zM ?_)
   cases hp
   exact ⟨nofun,rfl,U,an,(ak.pk [0])⟩
 rintro (l2 | ⟨x,x1⟩) hp _ cz cc aL
 ·obtain ⟨rfl,W,bQ,aj⟩:=aL
  refine Zav (Zo (Zi (Zb _ bQ (Zb W rfl (Zb (.n 0) rfl (Ze ?_))))))
  refine Zar (z4 (zX rfl (zX rfl ZK)) ?_)
  cases hp
  exact ⟨W,rfl,(aj.pk [0])⟩
 ·obtain ⟨rfl,ah,bR,bS,aj⟩:=aL
  refine Zbv (zE (z4 (zX bR (zX bS ZK)) ?_))
  cases hp
  exact ⟨ah,rfl,(aj.pk [0])⟩

theorem Zgn.ok {h:Hp} {B0:Nat→Prop} {h0:Hp} {l:List Za} {v:Int} {d:Int} {w:Int} {o:Int} {v_l:V} (HO:Own B0 h0 h []) (S_l:Rd B0 h0 Zd v_l l) {r:(List Za) × Int} (hp:zR l v d w o=some r) :
  ∃ u k',Is G 53 [v_l,.n v,.n d,.n w,.n o] h u k'∧∃ O,∃ (P:Bool),V.tu [O,.n r.2]=u∧(P=false→Rd B0 h0 Zd O r.1)∧Own (fun r=>r < h.n) h k' [ZfU P Zd O r.1]:=by
 refine WC.is (ZaP Zdg ?_)
 unfold zR at hp
 let B:Nat→Prop:=(fun r=>r < h.n)
 have hO:Own B h h []:=Own.start0 h
 refine Zi (Zb (.sn) rfl (Zb (.n 0) rfl (Ze (ZB (Zi ?_)))))
 refine Zb (.n v) rfl (Zc (zF rfl rfl) (Zb (.b (decide (v < 0))) rfl (zK 5 (fun f k=>h=k∧f 20=.b ((decide (v < 0)) || (decide ((l.length:Int)≤v)))∧f 0=v_l∧f 1=.n v∧f 2=.n d∧f 3=.n w∧f 4=.n o) ?_ ?_)))
 ·rcases bc (decide (v < 0)) with c | c
  ·refine Zh rfl c (Zh rfl c (Zh rfl c (Zh rfl c (Zc (Zcb (w:=(decide (v < 0)) || (decide ((l.length:Int)≤v))) rfl c rfl) (Zg ?_)))))
   exact ⟨rfl,rfl,rfl,rfl,rfl,rfl,rfl⟩
  ·refine Zp rfl c (Zb (.n v) rfl (Zp rfl c (Zb v_l rfl (Zp rfl c (Zc (Zae (hO.rd0 (Rd.via HO S_l):Sl Zd h v_l l) rfl) (Zp rfl c (Zc (ZcV rfl rfl) (Zc (Zcc rfl c rfl) ?_))))))))
   refine Zg ?_
   exact ⟨rfl,rfl,rfl,rfl,rfl,rfl,rfl⟩
 rintro aN _ ⟨rfl,ay,S,T,U,D,W⟩
 refine Zb _ ay (zK 3 (fun f k=>h=k∧f 24=.b (((decide (v < 0)) || (decide ((l.length:Int)≤v))) || (decide (w < 0)))∧f 0=v_l∧f 1=.n v∧f 2=.n d∧f 3=.n w∧f 4=.n o) ?_ ?_)
 ·rcases bc ((decide (v < 0)) || (decide ((l.length:Int)≤v))) with i | i
  ·refine Zh rfl i (Zh rfl i (Zc (Zcb (w:=((decide (v < 0)) || (decide ((l.length:Int)≤v))) || (decide (w < 0))) rfl i rfl) (Zg ?_)))
   exact ⟨rfl,rfl,S,T,U,D,W⟩
  ·refine Zp rfl i (Zb _ D (Zp rfl i (Zc (zF rfl rfl) (Zc (Zcc rfl i rfl) (Zg ?_)))))
   exact ⟨rfl,rfl,S,T,U,D,W⟩
 rintro aO _ ⟨rfl,az,E,X,Y,F,aa⟩
 refine Zb _ az (zK 5 (fun f k=>h=k∧f 30=.b ((((decide (v < 0)) || (decide ((l.length:Int)≤v))) || (decide (w < 0))) || (decide ((l.length:Int)≤w)))∧f 0=v_l∧f 1=.n v∧f 2=.n d∧f 3=.n w∧f 4=.n o) ?_ ?_)
 ·rcases bc (((decide (v < 0)) || (decide ((l.length:Int)≤v))) || (decide (w < 0))) with e | e
  ·refine Zh rfl e (Zh rfl e (Zh rfl e (Zh rfl e (Zc (Zcb (w:=(((decide (v < 0)) || (decide ((l.length:Int)≤v))) || (decide (w < 0))) || (decide ((l.length:Int)≤w))) rfl e rfl) (Zg ?_)))))
   exact ⟨rfl,rfl,E,X,Y,F,aa⟩
  ·refine Zp rfl e (Zb _ F (Zp rfl e (Zb _ E (Zp rfl e (Zc (Zae (hO.rd0 (Rd.via HO S_l):Sl Zd h v_l l) rfl) (Zp rfl e (Zc (ZcV rfl rfl) (Zc (Zcc rfl e rfl) ?_))))))))
   refine Zg ?_
   exact ⟨rfl,rfl,E,X,Y,F,aa⟩
 rintro aP _ ⟨rfl,aA,ab,H,ac,I,ad⟩
 refine Zb _ aA (zK 4 (fun f k=>h=k∧f 35=.b (((((decide (v < 0)) || (decide ((l.length:Int)≤v))) || (decide (w < 0))) || (decide ((l.length:Int)≤w))) || (decide (v=w)))∧f 0=v_l∧f 1=.n v∧f 2=.n d∧f 3=.n w∧f 4=.n o) ?_ ?_)
 ·rcases bc ((((decide (v < 0)) || (decide ((l.length:Int)≤v))) || (decide (w < 0))) || (decide ((l.length:Int)≤w))) with g | g
  ·refine Zh rfl g (Zh rfl g (Zh rfl g (Zc (Zcb (w:=((((decide (v < 0)) || (decide ((l.length:Int)≤v))) || (decide (w < 0))) || (decide ((l.length:Int)≤w))) || (decide (v=w))) rfl g rfl) (Zg ?_))))
   exact ⟨rfl,rfl,ab,H,ac,I,ad⟩
  ·refine Zp rfl g (Zb _ H (Zp rfl g (Zb _ I (Zp rfl g (Zc (Zbl rfl rfl) (Zc (Zcc rfl g rfl) (Zg ?_)))))))
   exact ⟨rfl,rfl,ab,H,ac,I,ad⟩
 rintro aQ _ ⟨rfl,aB,ae,af,J,ag,ah⟩
 refine Zb _ aB (zK 3 (fun f k=>h=k∧f 39=.b ((((((decide (v < 0)) || (decide ((l.length:Int)≤v))) || (decide (w < 0))) || (decide ((l.length:Int)≤w))) || (decide (v=w))) || (decide (d < 0)))∧f 0=v_l∧f 1=.n v∧f 2=.n d∧f 3=.n w∧f 4=.n o) ?_ ?_)
 ·rcases bc (((((decide (v < 0)) || (decide ((l.length:Int)≤v))) || (decide (w < 0))) || (decide ((l.length:Int)≤w))) || (decide (v=w))) with j | j
  ·refine Zh rfl j (Zh rfl j (Zc (Zcb (w:=(((((decide (v < 0)) || (decide ((l.length:Int)≤v))) || (decide (w < 0))) || (decide ((l.length:Int)≤w))) || (decide (v=w))) || (decide (d < 0))) rfl j rfl) (Zg ?_)))
   exact ⟨rfl,rfl,ae,af,J,ag,ah⟩
  ·refine Zp rfl j (Zb _ J (Zp rfl j (Zc (zF rfl rfl) (Zc (Zcc rfl j rfl) (Zg ?_)))))
   exact ⟨rfl,rfl,ae,af,J,ag,ah⟩
 rintro aR _ ⟨rfl,aC,ai,aj,K,ak,al⟩
 refine Zb _ aC (zK 3 (fun f k=>h=k∧f 43=.b (((((((decide (v < 0)) || (decide ((l.length:Int)≤v))) || (decide (w < 0))) || (decide ((l.length:Int)≤w))) || (decide (v=w))) || (decide (d < 0))) || (decide (3 < d)))∧f 0=v_l∧f 1=.n v∧f 2=.n d∧f 3=.n w∧f 4=.n o) ?_ ?_)
 ·rcases bc ((((((decide (v < 0)) || (decide ((l.length:Int)≤v))) || (decide (w < 0))) || (decide ((l.length:Int)≤w))) || (decide (v=w))) || (decide (d < 0))) with m | m
  ·refine Zh rfl m (Zh rfl m (Zc (Zcb (w:=((((((decide (v < 0)) || (decide ((l.length:Int)≤v))) || (decide (w < 0))) || (decide ((l.length:Int)≤w))) || (decide (v=w))) || (decide (d < 0))) || (decide (3 < d))) rfl m rfl) (Zg ?_)))
   exact ⟨rfl,rfl,ai,aj,K,ak,al⟩
  ·refine Zp rfl m (Zb _ K (Zp rfl m (Zc (Zd2 rfl rfl) (Zc (Zcc rfl m rfl) (Zg ?_)))))
   exact ⟨rfl,rfl,ai,aj,K,ak,al⟩
 rintro aS _ ⟨rfl,aD,am,an,ao,ap,L⟩
 refine Zb _ aD (zK 3 (fun f k=>h=k∧f 47=.b ((((((((decide (v < 0)) || (decide ((l.length:Int)≤v))) || (decide (w < 0))) || (decide ((l.length:Int)≤w))) || (decide (v=w))) || (decide (d < 0))) || (decide (3 < d))) || (decide (o < (-2))))∧f 0=v_l∧f 1=.n v∧f 2=.n d∧f 3=.n w∧f 4=.n o) ?_ ?_)
 ·rcases bc (((((((decide (v < 0)) || (decide ((l.length:Int)≤v))) || (decide (w < 0))) || (decide ((l.length:Int)≤w))) || (decide (v=w))) || (decide (d < 0))) || (decide (3 < d))) with p | p
  ·refine Zh rfl p (Zh rfl p (Zc (Zcb (w:=(((((((decide (v < 0)) || (decide ((l.length:Int)≤v))) || (decide (w < 0))) || (decide ((l.length:Int)≤w))) || (decide (v=w))) || (decide (d < 0))) || (decide (3 < d))) || (decide (o < (-2)))) rfl p rfl) (Zg ?_)))
   exact ⟨rfl,rfl,am,an,ao,ap,L⟩
  ·refine Zp rfl p (Zb _ L (Zp rfl p (Zc (zF rfl rfl) (Zc (Zcc rfl p rfl) (Zg ?_)))))
   exact ⟨rfl,rfl,am,an,ao,ap,L⟩
 rintro aT _ ⟨rfl,aE,q,M,A,N,aq⟩
 refine Ze (zD hp aE (fun av hp=>?_) (fun av hp=>?_))
 ·refine Zi (Zb _ q (Zb v_l rfl (Zb (.n 2) rfl (Ze (Zar (zE ?_))))))
  refine z4 (zX rfl (zX rfl ZK)) ?_
  cases hp
  exact ⟨v_l,false,rfl,(fun _=>(S_l)),(hO.pk [900])⟩
 ·refine Zas (ZB (Zi (Zb _ q (Zb _ M (Zb _ A (ckk hp fun s hp=>?_))))))
  refine Zc (ZZ (hO.rd0 (Rd.via HO S_l):Sl Zd h v_l l) rfl rfl s) (Zc (Zbo (hO.rd0 (Rd.via HO S_l):Sl Zd h v_l l) (Zf s) rfl rfl) (ckk hp fun Q hp=>Zc (ZaZ (hO.rd0 (Rd.via HO S_l):Sl Zd h v_l l) (Zf s) rfl rfl Q rfl) (Zc (zN (hO.rd0 (Rd.via HO S_l):Sl Zd h v_l l) rfl (Zf s) (zx Q)) (Zc (Zc5 rfl rfl) (Zb (.b (!(decide (((gi l v.toNat).Next).get d=(-1))))) rfl ?_)))))
  obtain ⟨t,aM,hp⟩:=ZaH hp
  refine zK 11 (fun f k=>h=k∧f 68=.b t∧f 0=v_l∧f 1=.n v∧f 2=.n d∧f 3=.n w∧f 4=.n o) ?_ ?_
  ·clear hp; rcases ZaR aM with ⟨a,hp⟩ | ⟨a,hp⟩
   ·refine Zh rfl a (Zh rfl a (Zh rfl a (Zh rfl a (Zh rfl a (Zh rfl a (Zh rfl a (Zh rfl a (Zh rfl a ?_))))))))
    refine Zh rfl a (Zc (ZaF (v:=.b t) rfl a (Eq.trans (b:=V.b true) rfl (congrArg V.b (Option.some.inj hp)))) (Zg ?_))
    exact ⟨rfl,rfl,q,M,A,N,aq⟩
   ·refine Zp rfl a (Zb _ q (Zp rfl a (Zb _ N (Zp rfl a (Zb _ A (Zp rfl a (ckk hp fun aw hp=>Zc (zc rfl rfl aw) ?_)))))))
    refine Zp rfl a (Zc (Zc6 rfl rfl (by decide)) (Zp rfl a (ckk hp fun y hp=>Zc (ZZ (hO.rd0 (Rd.via HO S_l):Sl Zd h v_l l) rfl rfl y) (Zp rfl a (Zc (Zbo (hO.rd0 (Rd.via HO S_l):Sl Zd h v_l l) (Zf y) rfl rfl) (Zp rfl a (ckk hp fun R hp=>?_)))))))
    refine Zc (ZaZ (hO.rd0 (Rd.via HO S_l):Sl Zd h v_l l) (Zf y) rfl rfl R rfl) (Zp rfl a (Zc (zN (hO.rd0 (Rd.via HO S_l):Sl Zd h v_l l) rfl (Zf y) (zx R)) (Zp rfl a (Zc (Zc5 rfl rfl) (Zc (Za5 (v:=.b t) rfl a (Eq.trans (b:=V.b (!(decide (((gi l w.toNat).Next).get ((d + 2).tmod 4)=(-1))))) rfl (congrArg V.b (Option.some.inj hp)))) (Zg ?_))))))
    exact ⟨rfl,rfl,q,M,A,N,aq⟩
  rintro aU _ ⟨rfl,aJ,ar,aF,aG,aH,aI⟩
  refine Ze (zD hp aJ (fun au hp=>?_) (fun au hp=>?_))
  ·refine Zi (Zb _ ar (Zb v_l rfl (Zb (.n 9) rfl (Ze (Zar (zE ?_))))))
   refine z4 (zX rfl (zX rfl ZK)) ?_
   cases hp
   exact ⟨v_l,false,rfl,(fun _=>(S_l)),(hO.pk [900])⟩
  ·refine Zas (Zi (Zb _ ar (Zb _ aF (Zb _ aG (Zb _ aH (Zb _ aI ?_))))))
   obtain ⟨x,⟨aW,aV,ax,C,rfl,aL⟩,hp⟩:=bdk hp fun _=>ZaB.ok (h:=h)  (hO.rd0 (Rd.via HO S_l):Sl Zd h v_l l)
   refine ZaI rfl rfl ax ?_
   have aK:=hO.call aL rfl
   refine Zb C rfl (Ze (Zi (Zb C rfl (Zb C rfl (Zb (.n 0) rfl (Zg ?_))))))
   refine Zo (Zar (z4 (zX rfl (zX rfl ZK)) ?_))
   cases hp
   exact ⟨C,true,rfl,(fun h=>nomatch h),(aK.pk [0])⟩

theorem Zgo.ok {h:Hp} {B0:Nat→Prop} {h0:Hp} {l:List Za} {picks:List Bool} {v_l:V} {v_picks:V} (HO:Own B0 h0 h []) (S_l:Rd B0 h0 Zd v_l l) (S_picks:Rd B0 h0 e_bool v_picks picks) {r:(List Za) × Int} (hp:zy l picks=some r) :
  ∃ u k',Is G 216 [v_l,v_picks] h u k'∧∃ aD,∃ (aF:Bool),V.tu [aD,.n r.2]=u∧(aF=false→Rd B0 h0 Zd aD r.1)∧Own (fun r=>r < h.n) h k' [ZfU aF Zd aD r.1]:=by
 refine WC.is (ZaP Zdh ?_)
 unfold zy at hp
 let B:Nat→Prop:=(fun r=>r < h.n)
 have hO:Own B h h []:=Own.start0 h
 refine Zi (Zb (.sn) rfl (Zb (.n 0) rfl (Ze (ZB (Zi ?_)))))
 refine Zb (.n 0) rfl (Ze (Zaa (Zb7 hp (fun | (l1,n),fr,k=>∃ Q,∃ (Y:Bool),fr 0=Q∧fr 1=v_picks∧fr 6=.n n∧(Y=false→Rd B0 h0 Zd Q l1)∧Own B h k [ZfU Y Zd Q l1]) (fun | .inl l2,e,fr,k=>e=(.exit 0)∧∃ X,∃ (ah:Bool),fr 0=X∧(ah=false→Rd B0 h0 Zd X l2)∧Own B h k [ZfU ah Zd X l2] | .inr (x,x1),e,fr,k=>e=.ret∧∃ af,∃ (ai:Bool),fr 4=af∧fr 5=.n x1∧(ai=false→Rd B0 h0 Zd af x)∧Own B h k [ZfU ai Zd af x]) ⟨v_l,false,rfl,rfl,rfl,(fun _=>(S_l)),(hO.pk [2000])⟩ ?_ ?_)))
 ·rintro ⟨l1,n⟩ cO a3 ⟨Q,Y,ax,b5,a4,aC,aw⟩ cL hp
  dsimp only [zy.s0] at hp
  refine ZB (Zi (Zb _ a4 (Zc (zF rfl rfl) (Ze (zD hp rfl (fun bs hp=>?_) (fun bs hp=>?_))))))
  ·refine Zas (ZB (Zaa (Zi (Zb _ ax ?_))))
   obtain ⟨x2,⟨cT,cx,bB,I,y,rfl,bU⟩,hp⟩:=bdk hp fun _=>ZX.ok (h:=a3)  (aw.may 0 rfl (fun h=>(Rd.via HO (aC h))):Sl Zd a3 Q l1)
   refine ZaI rfl rfl bB ?_
   have bS:=aw.call bU rfl
   refine Zb I rfl (Ze (Zi (Zb (.b true) rfl (Ze (ZB ?_)))))
   refine Zi (Zb (.n 0) rfl (Ze (Zaa (Zb7 hp (fun | (l3,done,i),fr,k=>∃ g,∃ (M:Bool),fr 0=g∧fr 1=v_picks∧fr 6=.n n∧fr 7=I∧fr 8=.b done∧fr 9=.n i∧(M=false→Rd B0 h0 Zd g l3)∧Own B h k [ZfU M Zd g l3,eSl eV I y,ZbW Zl y x2]) (fun | (l4,done1),e,fr,k=>e=(.exit 2)∧∃ R,∃ (aa:Bool),fr 0=R∧fr 1=v_picks∧fr 6=.n n∧fr 8=.b done1∧(aa=false→Rd B0 h0 Zd R l4)∧Own B h k [ZfU aa Zd R l4]) ⟨Q,Y,ax,b5,a4,rfl,rfl,rfl,(fun h=>((aC h))),(bS.pk [0,1,2])⟩ ?_ ?_))))
   ·rintro ⟨l3,done,i⟩ cQ aq ⟨g,M,a7,a8,a9,ay,az,aA,E,F⟩ cM hp
    dsimp only [zy.s1] at hp
    refine ZB (Zi (Zb _ aA (Zb _ ay (Zc (Zg4 (n:=(x2).length) (F.sl 1 rfl) (F.allLen 2 rfl:(y).length=(x2).length) rfl) (Zc (zF rfl rfl) (Zb (.b (decide (i < (x2.length:Int)))) rfl (zK 2 (fun f k=>aq=k∧f 30=.b ((decide (i < (x2.length:Int))) && done)∧f 0=g∧f 1=v_picks∧f 6=.n n∧f 7=I∧f 8=.b done∧f 9=.n i) ?_ ?_)))))))
    ·rcases bc (decide (i < (x2.length:Int))) with ab | ab
     ·refine Zp rfl ab (Zb _ az (Zc (ZcN rfl ab rfl) (Zg ?_)))
      exact ⟨rfl,rfl,a7,a8,a9,ay,az,aA⟩
     ·refine Zh rfl ab (Zc (ZcM (w:=(decide (i < (x2.length:Int))) && done) rfl ab rfl) (Zg ?_))
      exact ⟨rfl,rfl,a7,a8,a9,ay,az,aA⟩
    rintro co _ ⟨rfl,bM,ac,al,am,S,aN,T⟩
    refine Ze (zD hp bM (fun bt hp=>?_) (fun bt hp=>?_))
    ·refine Zas (ZB (Zaa (Zi (Zb _ ac (Zb _ S (Zb _ T ?_))))))
     refine ckk hp fun C hp=>Zc (ZZ (F.sl 1 rfl) rfl rfl (by rw [(F.allLen 2 rfl:(y).length=(x2).length)]; exact C)) (Zc (zN (F.sl 1 rfl) rfl (by rw [(F.allLen 2 rfl:(y).length=(x2).length)]; exact Zf C) rfl) ?_)
     obtain ⟨x3,⟨cU,bZ,bC,bm,rfl,bV⟩,hp⟩:=bdk hp fun _=>Zaz.ok (h:=aq)  (F.may 0 rfl (fun h=>(Rd.via HO (E h))):Sl Zd aq g l3) (F.inn 2 rfl (Zf C):Sl Zl aq (gi y i.toNat) (gi x2 i.toNat))
     refine ZaI rfl rfl bC ?_
     have aZ:=F.call bV rfl
     refine Zb bm rfl (Ze (Zi (Zb bm rfl ?_)))
     obtain ⟨⟨x4,x5,x6⟩,⟨cV,cz,bD,rfl,bW⟩,hp⟩:=bdk hp fun _=>zS.ok (h:=bZ)  (aZ.sl 3 rfl)
     refine ZaI rfl rfl bD ?_
     have a0:=aZ.call bW rfl
     refine Zb (.tu [.ag (Zm.c x4),.ag (Zm.c x5),.b x6]) rfl (Zc (Zbr rfl rfl) (Zc (Zbr rfl rfl) (Zc (Zbr rfl rfl) (zz (a0.alloc (cs:=Zm.c (⟨0,0⟩:Zq)) a0.fr) ?_))))
     rintro _ cA ⟨bk,rfl,cG,ch,a1⟩
     refine zz (a1.alloc (cs:=Zm.c (⟨0,0⟩:Zq)) a1.fr) ?_
     rintro _ cB ⟨ce,rfl,cH,ci,bT⟩
     refine zz (bT.stb (cs':=Zm.c x4) 4 rfl rfl rfl rfl ⟨rfl,Nat.le_of_ble_eq_true rfl,rfl⟩ rfl) ?_
     rintro _ cr ⟨rfl,cj,cC,bO⟩
     refine zz (bO.stb (cs':=Zm.c x5) 5 rfl rfl rfl rfl ⟨rfl,Nat.le_of_ble_eq_true rfl,rfl⟩ rfl) ?_
     rintro _ ao ⟨rfl,ck,cD,N⟩
     refine Zb (.b x6) rfl (Ze (ZB (Zi (Zb (.b x6) rfl (Zc (ZcO rfl) (Zg ?_))))))
     refine Zo (zD hp rfl (fun bn hp=>?_) (fun bn hp=>?_))
     ·refine Zbq (zM (Zav (Zo (zI (Zb _ T (ckk hp fun bw hp=>Zc (zc rfl rfl bw) (Zb (.n (i + 1)) rfl ?_)))))))
      refine Zg ?_
      cases hp
      exact ⟨rfl,g,M,ac,al,am,S,aN,rfl,(fun h=>((E h))),(N.pk [0,1,2])⟩
     ·refine Zas (Zi (Zb (.b false) rfl (Ze (ZB (ZeH ?_)))))
      have J:=N.bump 10
      have aL:=Fresh.start ao 10
      have b0:∀ {i:Nat},h.n≤ao.n + i:=Nat.le_trans N.n (Nat.le_add_right _ _)
      refine ZaU _ S (ZaU _ T (ZT (ZZ (J.sl 1 rfl) rfl rfl (by rw [(J.allLen 2 rfl:(y).length=(x2).length)]; exact C)) (ZT (zN (J.sl 1 rfl) rfl (by rw [(J.allLen 2 rfl:(y).length=(x2).length)]; exact Zf C) rfl) (ZT (zG (r:=bk) (o:=0) rfl rfl) (ZT (ZU (J.box 4 rfl) rfl rfl) (ckk hp fun aI hp=>ZT (ZZ (J.inn 2 rfl (Zf C):Sl Zl (ao.bump 10) (gi y i.toNat) (gi x2 i.toNat)) rfl rfl aI) (ZT (Zdb (J.inn 2 rfl (Zf C):Sl Zl (ao.bump 10) (gi y i.toNat) (gi x2 i.toNat)) rfl (Zf aI)) ?_)))))))
      refine Zd1 (J.alloc (cs:=Zl.c (⟨0,0⟩:Zz)) ⟨aL.m 8 (by decide) (by decide),b0⟩) ?_
      rintro _ ct cX ⟨L,rfl,cI,bF,bP⟩
      have bJ:=aL.kept bF (by decide)
      refine Zd1 (bP.stb (cs':=Zl.c (gi (gi x2 i.toNat) (x4.At:Int).toNat)) 6 rfl rfl rfl rfl ⟨rfl,Nat.le_of_ble_eq_true rfl,rfl⟩ rfl) ?_
      rintro _ ap cY ⟨rfl,bG,cE,U⟩
      have cl:=bJ.kept bG (by decide)
      refine Zcv ?_
      refine And.intro ?_ ?_
      ·intro q hq
       simp only [List.mem_cons,List.not_mem_nil,or_false] at hq
       rcases hq with rfl | rfl | rfl | rfl
       ·refine z9 ?_ ?_
        ·exact (fun h=>nomatch h)
        ·exact (fun h=>nomatch h)
       ·refine z9 ?_ ?_
        ·exact (fun h=>nomatch h)
        ·exact (fun _ hm=>Nat.lt_irrefl _ (Nat.lt_of_lt_of_le (N.ltAt 1 rfl _ (ZbU (tch (ZbN hm) rfl))) (Nat.le_add_right _ _)))
       ·refine z9 ?_ ?_
        ·exact (fun h=>nomatch h)
        ·exact (fun _ hm=>Nat.lt_irrefl _ (Nat.lt_of_lt_of_le (N.ltAt 4 rfl _ (tch (ZbN hm) rfl)) (Nat.le_add_right _ _)))
       ·refine z9 ?_ ?_
        ·exact (fun h=>nomatch h)
        ·exact (fun _ hm=>Nat.lt_irrefl _ (Nat.lt_of_lt_of_le (N.ltAt 2 rfl _ (Zep (j:=i.toNat) (by have q:(y).length=(x2).length:=N.allLen 2 rfl; have:=C; omega) (ZbU (tch (ZbN hm) rfl)))) (Nat.le_add_right _ _)))
      refine Zo (ZB (ZeH ?_))
      have K:=U.bump 10
      have aM:=Fresh.start ap 10
      have b1:∀ {i:Nat},h.n≤ap.n + i:=Nat.le_trans U.n (Nat.le_add_right _ _)
      refine ZaU _ S (ZaU _ T (ZT (ZZ (K.sl 1 rfl) rfl rfl (by rw [(K.allLen 2 rfl:(y).length=(x2).length)]; exact C)) (ZT (zN (K.sl 1 rfl) rfl (by rw [(K.allLen 2 rfl:(y).length=(x2).length)]; exact Zf C) rfl) (ZT (zG (r:=ce) (o:=0) rfl rfl) (ZT (ZU (K.box 5 rfl) rfl rfl) (ckk hp fun aJ hp=>ZT (ZZ (K.inn 2 rfl (Zf C):Sl Zl (ap.bump 10) (gi y i.toNat) (gi x2 i.toNat)) rfl rfl aJ) (ZT (Zdb (K.inn 2 rfl (Zf C):Sl Zl (ap.bump 10) (gi y i.toNat) (gi x2 i.toNat)) rfl (Zf aJ)) ?_)))))))
      refine Zd1 (K.alloc (cs:=Zl.c (⟨0,0⟩:Zz)) ⟨aM.m 8 (by decide) (by decide),b1⟩) ?_
      rintro _ cu cZ ⟨O,rfl,cJ,bH,bQ⟩
      have bK:=aM.kept bH (by decide)
      refine Zd1 (bQ.stb (cs':=Zl.c (gi (gi x2 i.toNat) (x5.At:Int).toNat)) 7 rfl rfl rfl rfl ⟨rfl,Nat.le_of_ble_eq_true rfl,rfl⟩ rfl) ?_
      rintro _ cv c0 ⟨rfl,bI,cF,an⟩
      have cm:=bK.kept bI (by decide)
      refine Zcv ?_
      refine And.intro ?_ ?_
      ·intro q hq
       simp only [List.mem_cons,List.not_mem_nil,or_false] at hq
       rcases hq with rfl | rfl | rfl | rfl
       ·refine z9 ?_ ?_
        ·exact (fun h=>nomatch h)
        ·exact (fun h=>nomatch h)
       ·refine z9 ?_ ?_
        ·exact (fun h=>nomatch h)
        ·exact (fun _ hm=>Nat.lt_irrefl _ (Nat.lt_of_lt_of_le (U.ltAt 1 rfl _ (ZbU (tch (ZbN hm) rfl))) (Nat.le_add_right _ _)))
       ·refine z9 ?_ ?_
        ·exact (fun h=>nomatch h)
        ·exact (fun _ hm=>Nat.lt_irrefl _ (Nat.lt_of_lt_of_le (U.ltAt 5 rfl _ (tch (ZbN hm) rfl)) (Nat.le_add_right _ _)))
       ·refine z9 ?_ ?_
        ·exact (fun h=>nomatch h)
        ·exact (fun _ hm=>Nat.lt_irrefl _ (Nat.lt_of_lt_of_le (U.ltAt 2 rfl _ (Zep (j:=i.toNat) (by have q:(y).length=(x2).length:=U.allLen 2 rfl; have:=C; omega) (ZbU (tch (ZbN hm) rfl)))) (Nat.le_add_right _ _)))
      refine Zo (Zi (Zc (zG (r:=L) (o:=0) rfl rfl) (Zc (ZU (an.box 6 rfl) rfl rfl) (Zb (.n ((gi (gi x2 i.toNat) (x4.At:Int).toNat).Dir)) rfl (Ze (ZB ?_))))))
      refine Zi (Zc (zG (r:=bk) (o:=0) rfl rfl) (Zc (ZU (an.box 4 rfl) rfl rfl) (Zc (Zbl rfl rfl) (Ze (Zgd hp (fun d e fr k=>e=.normal∧fr 0=g∧fr 1=v_picks∧fr 6=.n n∧fr 7=I∧fr 8=.b false∧fr 9=.n i∧fr 14=.p L 0∧fr 15=.p O 0∧fr 16=.n d∧Own B h k [ZfU M Zd g l3,eSl eV I y,ZbW Zl y x2,zP L (Zl.c (gi (gi x2 i.toNat) (x4.At:Int).toNat)),zP O (Zl.c (gi (gi x2 i.toNat) (x5.At:Int).toNat))]) (fun _ hp=>?_) ?_)))))
      ·refine zD hp rfl (fun bo hp=>?_) (fun bo hp=>?_)
       ·refine zI (Zb (.n ((gi (gi x2 i.toNat) (x4.At:Int).toNat).Dir)) rfl (ckk hp fun bx hp=>Zc (zc rfl rfl bx) (Zc (Zc6 rfl rfl (by decide)) (Zb (.n ((((gi (gi x2 i.toNat) (x4.At:Int).toNat).Dir) + 3).tmod 4)) rfl (Zg ?_)))))
        cases hp
        exact ⟨rfl,ac,al,am,S,rfl,T,rfl,rfl,rfl,(an.pk [0,1,2,6,7])⟩
       ·refine Zc2 ?_
        cases hp
        exact ⟨rfl,ac,al,am,S,rfl,T,rfl,rfl,rfl,(an.pk [0,1,2,6,7])⟩
      rintro d hp _ cR ad ⟨rfl,ba,ae,ar,bf,bg,bh,bb,bd,be,W⟩
      refine Zo (Zi (Zb _ ar (Zb _ ae (Zc (Zae (W.rd0 (Rd.via HO S_picks):Sl e_bool ad v_picks picks) rfl) (Zc (zF rfl rfl) (Zb (.b (decide (n < (picks.length:Int)))) rfl ?_))))))
      obtain ⟨t,bY,hp⟩:=ZaH hp
      refine zK 10 (fun f k=>ad=k∧f 85=.b t∧f 0=g∧f 1=v_picks∧f 14=.p L 0∧f 15=.p O 0∧f 16=.n d∧f 6=.n n∧f 7=I∧f 8=.b false∧f 9=.n i) ?_ ?_
      ·clear hp; rcases ZaR bY with ⟨a,hp⟩ | ⟨a,hp⟩
       ·refine Zp rfl a (Zb _ ae (Zp rfl a (Zb _ ar (Zp rfl a (Zb _ ae (Zp rfl a (Zc (Zae (W.rd0 (Rd.via HO S_picks):Sl e_bool ad v_picks picks) rfl) (Zp rfl a ?_))))))))
        refine ckk hp fun bz hp=>Zc (ZhQ rfl rfl bz) (Zp rfl a (Zc (Zor rfl rfl) (Zp rfl a (Zc (Znd rfl rfl) (Zp rfl a (ckk hp fun aK hp=>Zc (ZZ (W.rd0 (Rd.via HO S_picks):Sl e_bool ad v_picks picks) rfl rfl aK) ?_))))))
        refine Zp rfl a (Zc (zN (W.rd0 (Rd.via HO S_picks):Sl e_bool ad v_picks picks) rfl (Zf aK) rfl) (Zc (ZaF (v:=.b t) rfl a (Eq.trans (b:=V.b (gi picks (min n (max ((picks.length:Int) - 1) 0):Int).toNat)) rfl (congrArg V.b (Option.some.inj hp)))) (Zg ?_)))
        exact ⟨rfl,rfl,ba,ae,bb,bd,be,ar,bf,bg,bh⟩
       ·refine Zh rfl a (Zh rfl a (Zh rfl a (Zh rfl a (Zh rfl a (Zh rfl a (Zh rfl a (Zh rfl a (Zh rfl a ?_))))))))
        refine Zc (Za5 (v:=.b t) rfl a (Eq.trans (b:=V.b false) rfl (congrArg V.b (Option.some.inj hp)))) (Zg ?_)
        exact ⟨rfl,rfl,ba,ae,bb,bd,be,ar,bf,bg,bh⟩
      rintro cp _ ⟨rfl,bN,aO,aP,aQ,aR,au,aS,aT,aU,aV⟩
      refine Zb _ bN (Ze (ZB (Zi (Zb (.b t) rfl (Zb _ au (Zc (Zc6 rfl rfl (by decide)) ?_))))))
      refine Zc (Zbl rfl rfl) (Zc (ZlD rfl rfl) (Ze (Zgd hp (fun d1 e fr k=>e=.normal∧fr 0=g∧fr 1=v_picks∧fr 6=.n n∧fr 7=I∧fr 8=.b false∧fr 9=.n i∧fr 14=.p L 0∧fr 15=.p O 0∧fr 16=.n d1∧Own B h k [ZfU M Zd g l3,eSl eV I y,ZbW Zl y x2,zP L (Zl.c (gi (gi x2 i.toNat) (x4.At:Int).toNat)),zP O (Zl.c (gi (gi x2 i.toNat) (x5.At:Int).toNat))]) (fun _ hp=>?_) ?_)))
      ·refine zD hp rfl (fun bp hp=>?_) (fun bp hp=>?_)
       ·refine zI (Zb _ au (ckk hp fun bA hp=>Zc (zc rfl rfl bA) (Zc (Zc6 rfl rfl (by decide)) (Zb (.n ((d + 1).tmod 4)) rfl (Zg ?_)))))
        cases hp
        exact ⟨rfl,aO,aP,aS,aT,aU,aV,aQ,aR,rfl,(W.pk [0,1,2,3,4])⟩
       ·refine Zc2 ?_
        cases hp
        exact ⟨rfl,aO,aP,aS,aT,aU,aV,aQ,aR,au,(W.pk [0,1,2,3,4])⟩
      rintro d1 hp _ cS D ⟨rfl,aB,b8,ca,cb,cc,cd,bi,bj,b9,aX⟩
      refine Zo (ZeH ?_)
      have A:=aX.bump 25
      have bL:=Fresh.start D 25
      have cK:∀ {i:Nat},h.n≤D.n + i:=Nat.le_trans aX.n (Nat.le_add_right _ _)
      refine ZaU _ aB (ZaU _ aB (ZT (zG (r:=L) (o:=0) bi rfl) (ZT (ZU (A.box 3 rfl) rfl rfl) (ZT (zG (r:=L) (o:=0) bi rfl) (ZT (ZU (A.box 3 rfl) rfl rfl) (ckk hp fun ak hp=>ZT (ZZ (A.may 0 rfl (fun h=>(Rd.via HO (E h))):Sl Zd (D.bump 25) g l3) rfl rfl ak) (ZT (Zbo (A.may 0 rfl (fun h=>(Rd.via HO (E h))):Sl Zd (D.bump 25) g l3) (Zf ak) rfl rfl) ?_)))))))
      refine ckk hp fun aG hp=>ZT (ZaZ (A.may 0 rfl (fun h=>(Rd.via HO (E h))):Sl Zd (D.bump 25) g l3) (Zf ak) rfl rfl aG rfl) (ZT (zN (A.may 0 rfl (fun h=>(Rd.via HO (E h))):Sl Zd (D.bump 25) g l3) rfl (Zf ak) (zx aG)) (ZaU _ b9 (ZaU _ aB (ZT (zG (r:=O) (o:=0) bj rfl) (ZT (ZU (A.box 4 rfl) rfl rfl) (ZT (zG (r:=O) (o:=0) bj rfl) (ZT (ZU (A.box 4 rfl) rfl rfl) ?_)))))))
      refine ckk hp fun aj hp=>ZT (ZZ (A.may 0 rfl (fun h=>(Rd.via HO (E h))):Sl Zd (D.bump 25) g l3) rfl rfl aj) (ZT (Zbo (A.may 0 rfl (fun h=>(Rd.via HO (E h))):Sl Zd (D.bump 25) g l3) (Zf aj) rfl rfl) (ckk hp fun aH hp=>ZT (ZaZ (A.may 0 rfl (fun h=>(Rd.via HO (E h))):Sl Zd (D.bump 25) g l3) (Zf aj) rfl rfl aH rfl) (ZT (zN (A.may 0 rfl (fun h=>(Rd.via HO (E h))):Sl Zd (D.bump 25) g l3) rfl (Zf aj) (zx aH)) ?_)))
      obtain ⟨⟨x7,x8⟩,⟨cW,cw,bE,aE,bq,rfl,bX,a2⟩,hp⟩:=bdk hp fun _ hx=>Zmy (HO.call (A.pick [] rfl (by decide)) rfl) (A.toM [0] rfl (by decide)) (fun h=>((E h))) (fun H=>zR.ok (h:=(D.bump 25)) H hx) (fun HO s=>Zgn.ok (h:=(D.bump 25)) HO s hx)
      refine Zi0 rfl rfl bE ?_
      have cn:=bL.callM (A.pick [0] rfl (by decide)).P a2
      have bR:=(A.callM [0] [1,2,3,4] rfl rfl (by decide) a2 rfl).pick [900,0,1,2,3,4] rfl (by decide)
      refine ZaU (.tu [aE,.n x8]) rfl (ZT (Zbr rfl rfl) (ZT (Zbr rfl rfl) (ZaU aE rfl (Zcv ?_))))
      refine And.intro ?_ ?_
      ·intro q hq
       simp only [List.mem_cons,List.not_mem_nil,or_false] at hq
       rcases hq with rfl | rfl | rfl | rfl | rfl | rfl | rfl | rfl | rfl | rfl | rfl
       ·refine z9 ?_ ?_
        ·exact (fun h=>nomatch h)
        ·exact (fun h=>nomatch h)
       ·refine z9 ?_ ?_
        ·exact (fun h=>nomatch h)
        ·exact (fun h=>nomatch h)
       ·refine z9 ?_ ?_
        ·exact (fun h=>nomatch h)
        ·exact (fun h=>nomatch h)
       ·refine z9 ?_ ?_
        ·exact (fun h=>nomatch h)
        ·exact (fun h=>nomatch h)
       ·refine z9 ?_ ?_
        ·exact (fun h=>nomatch h)
        ·exact (fun h=>nomatch h)
       ·refine z9 ?_ ?_
        ·exact (fun h=>nomatch h)
        ·exact (fun h=>nomatch h)
       ·refine z9 ?_ ?_
        ·exact (fun h=>nomatch h)
        ·exact (fun h=>nomatch h)
       ·refine z9 ?_ ?_
        ·exact (fun h=>nomatch h)
        ·exact (fun h=>nomatch h)
       ·refine z9 ?_ ?_
        ·exact (fun h=>nomatch h)
        ·exact (fun h=>nomatch h)
       ·refine z9 ?_ ?_
        ·exact (fun h=>nomatch h)
        ·exact (fun h=>nomatch h)
       ·refine z9 ?_ ?_
        ·exact (fun h=>nomatch h)
        ·exact (fun h=>nomatch h)
      refine Zaf (Zo (zI (Zb _ cd (ckk hp fun bu hp=>Zc (zc rfl rfl bu) (Zb (.n (i + 1)) rfl (Zg ?_))))))
      cases hp
      exact ⟨rfl,aE,bq,rfl,b8,ca,cb,cc,rfl,(fun h=>((bX h))),(bR.pk [5,1,2])⟩
    ·refine Zbq (zM ?_)
     cases hp
     exact ⟨nofun,rfl,g,M,ac,al,am,aN,(fun h=>((E h))),(F.pk [0])⟩
   rintro ⟨l4,done1⟩ hp _ cP cy ⟨rfl,R,aa,a5,b6,a6,b7,bl,aY⟩
   refine Zav (Zo (Zi (Zb _ b7 (Ze (zD hp rfl (fun br hp=>?_) (fun br hp=>?_))))))
   ·refine Zi (Zb _ a5 (Zb _ a6 (Zb R rfl (Zb (.n n) rfl (Ze (Zar ?_))))))
    refine Zbv (zE ?_)
    cases hp
    exact ⟨nofun,rfl,R,aa,rfl,rfl,(fun h=>((bl h))),(aY.pk [0])⟩
   ·refine Zc2 (Zaf (Zo (zI (Zb _ a6 (ckk hp fun bv hp=>Zc (zc rfl rfl bv) (Zb (.n (n + 1)) rfl (Zg ?_)))))))
    cases hp
    exact ⟨rfl,R,aa,a5,b6,rfl,(fun h=>((bl h))),(aY.pk [0])⟩
  ·refine Zbq (zM ?_)
   cases hp
   exact ⟨nofun,rfl,Q,Y,ax,(fun h=>((aC h))),(aw.pk [0])⟩
 rintro (l2 | ⟨x,x1⟩) hp _ cN cq aW
 ·obtain ⟨rfl,X,ah,b2,cf,av⟩:=aW
  refine Zav (Zo (Zi (Zb _ b2 (Zb X rfl (Zb (.n 0) rfl (Ze ?_))))))
  refine Zar (z4 (zX rfl (zX rfl ZK)) ?_)
  cases hp
  exact ⟨X,ah,rfl,(fun h=>((cf h))),(av.pk [0])⟩
 ·obtain ⟨rfl,af,ai,b3,b4,cg,av⟩:=aW
  refine Zbv (zE (z4 (zX b3 (zX b4 ZK)) ?_))
  cases hp
  exact ⟨af,ai,rfl,(fun h=>((cg h))),(av.pk [0])⟩

theorem Zbc.ok {h:Hp} {l:List Za} {picks:List Bool} {v_l:V} {v_picks:V} (s_l:Sl Zd h v_l l) (s_picks:Sl e_bool h v_picks picks) {r:Bool} (hp:Zbc l picks=some r) :
  ∃ u k',Is G 191 [v_l,v_picks] h u k'∧V.b r=u∧Own (fun r=>r < h.n) h k' []:=by
 refine WC.is (ZaP Zes ?_)
 unfold Zbc at hp
 let B:Nat→Prop:=(fun r=>r < h.n)
 have hO:Own B h h []:=Own.start0 h
 refine Zi (Zb (.b false) rfl (Ze (Zi (Zb v_l rfl (Zb v_picks rfl ?_)))))
 obtain ⟨⟨x,x1,x2⟩,⟨bh,a0,X,e,rfl,aO⟩,hp⟩:=bdk hp fun _=>ZaK.ok (h:=h)  (hO.rd0 s_l.rd) (hO.rd0 s_picks.rd)
 refine ZaI rfl rfl X ?_
 have R:=hO.call aO rfl
 refine Zb (.tu [e,.n x1,.n x2]) rfl (Zc (Zbr rfl rfl) (Zc (Zbr rfl rfl) (Zc (Zbr rfl rfl) (Zb e rfl (Zb (.n x1) rfl (Zb (.n x2) rfl (Ze ?_)))))))
 refine Zi (Zb v_l rfl ?_)
 obtain ⟨⟨x3,x4⟩,⟨bi,a1,Y,o,rfl,aP⟩,hp⟩:=bdk hp fun _=>Za7.ok (h:=a0)  (R.rd0 s_l.rd)
 refine ZaI rfl rfl Y ?_
 have S:=R.call aP rfl
 refine Zb (.tu [o,.n x4]) rfl (Zc (Zbr rfl rfl) (Zc (Zbr rfl rfl) (Zb o rfl (Zb (.n x4) rfl (Ze (ZB (ZB ?_)))))))
 refine zI (Zb v_l rfl ?_)
 obtain ⟨x5,⟨bj,a2,aa,rfl,aQ⟩,hp⟩:=bdk hp fun _=>zA.ok (h:=a1)  (S.rd0 s_l.rd)
 refine ZaI rfl rfl aa ?_
 have s:=S.call aQ rfl
 refine Zb (.n x5) rfl (Ze (Zi (Zb (.n x4) rfl (Zb (.n x5) rfl (Zc (Zc5 rfl rfl) (Zb (.b (!(decide (x4=x5)))) rfl ?_))))))
 obtain ⟨t,aX,hp⟩:=ZaH hp
 refine zK 10 (fun f k=>Own B h k [eSl Zd e x,eSl Zd o x3]∧f 42=.b t∧f 0=v_l∧f 1=v_picks∧f 10=.n x5∧f 5=e∧f 6=.n x1∧f 7=.n x2∧f 8=o) ?_ ?_
 ·clear hp; rcases ZaR aX with ⟨c,hp⟩ | ⟨c,hp⟩
  ·refine Zh rfl c (Zh rfl c (Zh rfl c (ZeQ rfl (ZeQ rfl (ZeQ rfl (ZeQ rfl (ZeQ rfl (Zh rfl c ?_))))))))
   refine Zc (ZaF (v:=.b t) rfl c (Eq.trans (b:=V.b true) rfl (congrArg V.b (Option.some.inj hp)))) (Zg ?_)
   exact ⟨s.pk [0,1],rfl,rfl,rfl,rfl,rfl,rfl,rfl,rfl⟩
  ·refine Zp rfl c (Zb (.n x5) rfl (Zp rfl c (Zc (Zbl rfl rfl) (Zp rfl c (Zb (.b (decide (x5=0))) rfl ?_)))))
   obtain ⟨t1,aY,hp⟩:=ZaH hp
   refine zK 6 (fun f k=>Own B h k [eSl Zd e x,eSl Zd o x3]∧f 41=.b t1∧f 0=v_l∧f 1=v_picks∧f 10=.n x5∧f 32=.b (!(decide (x4=x5)))∧f 5=e∧f 6=.n x1∧f 7=.n x2∧f 8=o) ?_ ?_
   ·clear hp; rcases ZaR aY with ⟨a,hp⟩ | ⟨a,hp⟩
    ·refine Zp rfl a (Zb o rfl (Zp rfl a (Zb v_l rfl (Zp rfl a ?_))))
     obtain ⟨x6,⟨bk,a3,ab,bp,rfl,aR⟩,hp⟩:=bdk hp fun _=>Zak.ok (h:=a2)  (s.rd0 s_l.rd)
     refine ZaI rfl rfl ab ?_
     have L:=s.call aR rfl
     refine Zp rfl a ?_
     obtain ⟨x7,⟨bl,bf,ac,rfl,aS⟩,hp⟩:=bdk hp fun _=>Zan.ok (h:=a3)  (L.sl 1 rfl) (L.sl 2 rfl)
     refine ZaI rfl rfl ac ?_
     have aM:=L.call aS rfl
     refine Zp rfl a (Zc (ZcO rfl) (Zp rfl c (Zc (ZaF (v:=.b t1) rfl a (Eq.trans (b:=V.b (!x7)) rfl (congrArg V.b (Option.some.inj hp)))) (Zg ?_))))
     exact ⟨aM.pk [0,1],rfl,rfl,rfl,rfl,rfl,rfl,rfl,rfl,rfl⟩
    ·refine Zh rfl a (Zh rfl a (Zh rfl a (Zh rfl a (Zh rfl a (Zp rfl c (Zc (Za5 (v:=.b t1) rfl a (Eq.trans (b:=V.b false) rfl (congrArg V.b (Option.some.inj hp)))) (Zg ?_)))))))
     exact ⟨s.pk [0,1],rfl,rfl,rfl,rfl,rfl,rfl,rfl,rfl,rfl⟩
   rintro a4 bg ⟨aN,ak,ag,ah,ai,aj,al,am,an,ao⟩
   refine Zc (Za5 (v:=.b t) aj c (Eq.trans (b:=V.b t1) ak (congrArg V.b (Option.some.inj hp)))) (Zg ?_)
   exact ⟨aN.pk [0,1],rfl,ag,ah,ai,al,am,an,ao⟩
 rintro a5 M ⟨y,aq,D,E,ap,F,H,I,ar⟩
 refine Zb _ aq (zK 8 (fun f k=>M=k∧f 51=.b (t || ((!(decide (x5=0))) && (decide (0 < (x3.length:Int)))))∧f 0=v_l∧f 1=v_picks∧f 5=e∧f 6=.n x1∧f 7=.n x2) ?_ ?_)
 ·rcases bc t with d | d
  ·refine Zh rfl d (Zh rfl d (Zh rfl d (ZeQ rfl (ZeQ rfl (ZeQ rfl (Zh rfl d (Zc (Zcb (w:=t || ((!(decide (x5=0))) && (decide (0 < (x3.length:Int))))) rfl d rfl) (Zg ?_))))))))
   exact ⟨rfl,rfl,D,E,F,H,I⟩
  ·refine Zp rfl d (Zb _ ap (Zp rfl d (Zc (Zc5 rfl rfl) (Zp rfl d (Zb (.b (!(decide (x5=0)))) rfl (zK 4 (fun f k=>M=k∧f 50=.b ((!(decide (x5=0))) && (decide (0 < (x3.length:Int))))∧f 0=v_l∧f 1=v_picks∧f 43=.b t∧f 5=e∧f 6=.n x1∧f 7=.n x2) ?_ ?_))))))
   ·rcases bc (!(decide (x5=0))) with j | j
    ·refine Zp rfl j (Zb _ ar (Zp rfl j (Zc (Zae (y.sl 1 rfl) rfl) (Zp rfl j (Zc (Zd2 rfl rfl) (Zp rfl d (Zc (ZcN rfl j rfl) (Zg ?_))))))))
     exact ⟨rfl,rfl,D,E,rfl,F,H,I⟩
    ·refine Zh rfl j (Zh rfl j (Zh rfl j (Zp rfl d (Zc (ZcM (w:=(!(decide (x5=0))) && (decide (0 < (x3.length:Int)))) rfl j rfl) (Zg ?_)))))
     exact ⟨rfl,rfl,D,E,rfl,F,H,I⟩
   rintro a6 _ ⟨rfl,ay,au,av,aw,ax,az,aA⟩
   refine Zc (Zcc aw d ay) (Zg ?_)
   exact ⟨rfl,rfl,au,av,ax,az,aA⟩
 rintro a7 _ ⟨rfl,aC,P,aB,J,K,Q⟩
 refine Ze (zD hp aC (fun T hp=>?_) (fun T hp=>?_))
 ·refine Zi (Zb (.b false) rfl (Ze (Zar (zE (z4 (zX rfl ZK) ?_)))))
  cases hp
  exact ⟨rfl,(y.pk [])⟩
 ·refine Zas (ZB (Zi (Zb _ P ?_)))
  obtain ⟨⟨x8,x9⟩,⟨bm,N,ad,rfl,aT⟩,hp⟩:=bdk hp fun _=>ZaC.ok (h:=M)  (y.rd0 s_l.rd)
  refine ZaI rfl rfl ad ?_
  have A:=y.call aT rfl
  refine Zb (.tu [.n x8,.n x9]) rfl (Zc (Zbr rfl rfl) (Zc (Zbr rfl rfl) (Zb (.n x8) rfl (Zb (.n x9) rfl (Ze (Zi ?_))))))
  refine Zb (.n x9) rfl (Zc (Zc5 rfl rfl) (Ze (zD hp rfl (fun U hp=>?_) (fun U hp=>?_))))
  ·refine Zi (Zb _ Q (Zb (.n x9) rfl (Zc (Zbl rfl rfl) (Zb (.b (decide (x2=x9))) rfl (zK 4 (fun f k=>N=k∧f 66=.b ((decide (x2=x9)) && (decide ((x.length:Int)=0)))∧f 6=.n x1) ?_ ?_)))))
   ·rcases bc (decide (x2=x9)) with m | m
    ·refine Zp rfl m (Zb _ J (Zp rfl m (Zc (Zae (A.sl 0 rfl) rfl) (Zp rfl m (Zc (Zbl rfl rfl) (Zc (ZcN rfl m rfl) (Zg ?_)))))))
     exact ⟨rfl,rfl,K⟩
    ·refine Zh rfl m (Zh rfl m (Zh rfl m (Zc (ZcM (w:=(decide (x2=x9)) && (decide ((x.length:Int)=0))) rfl m rfl) (Zg ?_))))
     exact ⟨rfl,rfl,K⟩
   rintro a8 _ ⟨rfl,aE,aD⟩
   refine Zb _ aE (zK 3 (fun f k=>N=k∧f 70=.b (((decide (x2=x9)) && (decide ((x.length:Int)=0))) && (decide (x1=0)))) ?_ ?_)
   ·rcases bc ((decide (x2=x9)) && (decide ((x.length:Int)=0))) with p | p
    ·refine Zp rfl p (Zb _ aD (Zp rfl p (Zc (Zbl rfl rfl) (Zc (ZcN rfl p rfl) (Zg ?_)))))
     exact ⟨rfl,rfl⟩
    ·refine Zh rfl p (Zh rfl p (Zc (ZcM (w:=((decide (x2=x9)) && (decide ((x.length:Int)=0))) && (decide (x1=0))) rfl p rfl) (Zg ?_)))
     exact ⟨rfl,rfl⟩
   rintro a9 _ ⟨rfl,aF⟩
   refine Zb _ aF (Ze (Zar (zE (z4 (zX rfl ZK) ?_))))
   cases hp
   exact ⟨rfl,(A.pk [])⟩
  ·refine Zas (Zi (Zb _ P (Zb _ aB ?_)))
   obtain ⟨⟨x10,x11⟩,⟨bn,O,ae,q,W,rfl,aW,aU⟩,hp⟩:=bdk hp fun _=>Zgo.ok (h:=N)  (A.pick [] rfl (by decide)) s_l.rd s_picks.rd
   refine ZaI rfl rfl ae ?_
   have C:=A.call aU rfl
   refine Zb (.tu [q,.n x11]) rfl (Zc (Zbr rfl rfl) (Zc (Zbr rfl rfl) (Zb q rfl (Zb (.n x11) rfl (Ze (Zi ?_))))))
   refine Zb _ Q (Zc (Zbl rfl rfl) (Zb (.b (decide (x2=0))) rfl (zK 4 (fun f k=>O=k∧f 83=.b ((decide (x2=0)) && (decide (x1=x11)))∧f 13=q∧f 5=e) ?_ ?_)))
   ·rcases bc (decide (x2=0)) with g | g
    ·refine Zp rfl g (Zb _ K (Zp rfl g (Zb (.n x11) rfl (Zp rfl g (Zc (Zbl rfl rfl) (Zc (ZcN rfl g rfl) (Zg ?_)))))))
     exact ⟨rfl,rfl,rfl,J⟩
    ·refine Zh rfl g (Zh rfl g (Zh rfl g (Zc (ZcM (w:=(decide (x2=0)) && (decide (x1=x11))) rfl g rfl) (Zg ?_))))
     exact ⟨rfl,rfl,rfl,J⟩
   rintro ba _ ⟨rfl,aI,aG,aH⟩
   refine Zb _ aI ?_
   obtain ⟨t2,aZ,hp⟩:=ZaH hp
   refine zK 4 (fun f k=>Own B h k [eSl Zd e x,eSl Zd o x3,ZfU W Zd q x10]∧f 88=.b t2) ?_ ?_
   ·clear hp; rcases ZaR aZ with ⟨i,hp⟩ | ⟨i,hp⟩
    ·refine Zp rfl i (Zb _ aH (Zp rfl i (Zb _ aG (Zp rfl i ?_))))
     obtain ⟨x12,⟨bo,bd,af,rfl,aV⟩,hp⟩:=bdk hp fun _=>Zan.ok (h:=O)  (C.sl 0 rfl) (C.may 2 rfl aW:Sl Zd O q x10)
     refine ZaI rfl rfl af ?_
     have aK:=C.call aV rfl
     refine Zc (ZaF (v:=.b t2) rfl i (Eq.trans (b:=V.b x12) rfl (congrArg V.b (Option.some.inj hp)))) (Zg ?_)
     exact ⟨aK.pk [0,1,2],rfl⟩
    ·refine Zh rfl i (Zh rfl i (Zh rfl i (Zc (Za5 (v:=.b t2) rfl i (Eq.trans (b:=V.b false) rfl (congrArg V.b (Option.some.inj hp)))) (Zg ?_))))
     exact ⟨C.pk [0,1,2],rfl⟩
   rintro bb be ⟨aL,aJ⟩
   refine Zb _ aJ (Ze (Zar (z4 (zX rfl ZK) ?_)))
   cases hp
   exact ⟨rfl,(aL.pk [])⟩

theorem ZaM.ok {h:Hp} {s:ByteArray}   {r:Bool} (hp:ZaM s=some r) :
  ∃ u k',Is G 217 [.s s] h u k'∧V.b r=u∧Own (fun r=>r < h.n) h k' []:=by
 refine WC.is (ZaP ZdY ?_)
 unfold ZaM at hp
 let B:Nat→Prop:=(fun r=>r < h.n)
 have hO:Own B h h []:=Own.start0 h
 refine Zi (Zb (.b false) rfl (Ze (ZB (Zi (Zb (.n 0) rfl ?_)))))
 refine Ze (Zaa (Zb7 hp (fun i fr k=>fr 0=.s s∧fr 3=.n i∧Own B h k []) (fun | .inl _,e,fr,k=>e=(.exit 0)∧Own B h k [] | .inr _,e,fr,k=>e=.ret∧fr 2=.b false∧Own B h k []) ⟨rfl,rfl,(hO.pk [])⟩ ?_ ?_))
 ·rintro i I A ⟨d,g,l⟩ F hp
  dsimp only [ZaM.s0] at hp
  refine ZB (Zi (Zb _ g (Zb _ d (Zc (ZhP rfl) (Zc (zF rfl rfl) (Ze (zD hp rfl (fun p hp=>?_) (fun p hp=>?_))))))))
  ·refine Zas (ZB (Zaa (Zi (Zb _ d (Zb _ g (ckk hp fun m hp=>?_))))))
   refine Zc (ZkG (a:=s) (z:=i) rfl rfl m) (Zc (Zc5 rfl rfl) (Zb (.b (!(decide (sAt s i.toNat=76)))) rfl (zK 5 (fun f k=>A=k∧f 19=.b ((!(decide (sAt s i.toNat=76))) && (!(decide (sAt s i.toNat=82))))∧f 0=.s s∧f 3=.n i) ?_ ?_)))
   ·rcases bc (!(decide (sAt s i.toNat=76))) with c | c
    ·refine Zp rfl c (Zb _ d (Zp rfl c (Zb _ g (Zp rfl c (Zc (ZkG (a:=s) (z:=i) rfl rfl m) (Zp rfl c (Zc (Zc5 rfl rfl) (Zc (ZcN rfl c rfl) ?_))))))))
     refine Zg ?_
     exact ⟨rfl,rfl,d,g⟩
    ·refine Zh rfl c (Zh rfl c (Zh rfl c (Zh rfl c (Zc (ZcM (w:=(!(decide (sAt s i.toNat=76))) && (!(decide (sAt s i.toNat=82)))) rfl c rfl) (Zg ?_)))))
     exact ⟨rfl,rfl,d,g⟩
   rintro D _ ⟨rfl,x,v,y⟩
   refine Ze (zD hp x (fun q hp=>?_) (fun q hp=>?_))
   ·refine Zi (Zb (.b false) rfl (Ze (Zar (Zbv (zE ?_)))))
    cases hp
    exact ⟨nofun,rfl,rfl,(l.pk [])⟩
   ·refine Zc2 (Zaf (Zo (zI (Zb _ y (ckk hp fun t hp=>Zc (zc rfl rfl t) (Zb (.n (i + 1)) rfl (Zg ?_)))))))
    cases hp
    exact ⟨rfl,v,rfl,(l.pk [])⟩
  ·refine Zbq (zM ?_)
   cases hp
   exact ⟨nofun,rfl,(l.pk [])⟩
 rintro (_ | _) hp _ H E o
 ·obtain ⟨rfl,j⟩:=o
  refine Zav (Zo (Zi (Zb (.b true) rfl (Ze (Zar (z4 (zX rfl ZK) ?_))))))
  cases hp
  exact ⟨rfl,(j.pk [])⟩
 ·obtain ⟨rfl,C,j⟩:=o
  refine Zbv (zE (z4 (zX C ZK) ?_))
  cases hp
  exact ⟨rfl,(j.pk [])⟩

theorem Zag.ok {h:Hp} {s:Zac} {v_s_Boxes:V} {v_s_Edges:V} (s_s_Boxes:Sl e_bool h v_s_Boxes s.Boxes) (s_s_Edges:Sl z1 h v_s_Edges s.Edges) {r:Int} (hp:Zag s=some r) :
  ∃ u k',Is G 197 [.ag [v_s_Boxes,v_s_Edges]] h u k'∧V.n r=u∧Own (fun r=>r < h.n) h k' []:=by
 refine WC.is (ZaP ZdX ?_)
 unfold Zag at hp
 let B:Nat→Prop:=(fun r=>r < h.n)
 have hO:Own B h h []:=Own.start0 h
 refine Zi (zz (hO.boxd (cs:=[v_s_Boxes,v_s_Edges]) hO.fr rfl rfl) ?_)
 rintro _ aU ⟨a,rfl,a0,aK,aG⟩
 refine Zb (.n 0) rfl (Ze (Zi (Zb (.n 0) rfl (Ze (ZB ?_)))))
 refine Zi (Zb (.n 0) rfl (Ze (Zaa (Zb7 hp (fun | (n,i),fr,k=>fr 1=.p a 0∧fr 3=.n n∧fr 4=.n i∧Own B h k [zP a [v_s_Boxes,v_s_Edges]]) (fun n1 e fr k=>e=(.exit 0)∧fr 1=.p a 0∧fr 3=.n n1∧Own B h k [zP a [v_s_Boxes,v_s_Edges]]) ⟨rfl,rfl,rfl,(aG.pk [0])⟩ ?_ ?_))))
 ·rintro ⟨n,i⟩ a5 aV ⟨J,ai,R,v⟩ a2 hp
  dsimp only [Zag.s0] at hp
  refine ZB (Zi (Zb _ R (Zc (zG (r:=a) (o:=0) J rfl) (Zc (ZU (v.box 0 rfl) rfl rfl) (Zc (Zae (v.rd0 s_s_Edges.rd) rfl) (Zc (zF rfl rfl) (Zg ?_)))))))
  refine Zo (zD hp rfl (fun aj hp=>?_) (fun aj hp=>?_))
  ·refine Zas (ZB (Zaa (zI (Zb _ ai (Zc (zG (r:=a) (o:=0) J rfl) (Zc (ZU (v.box 0 rfl) rfl rfl) (Zb _ R ?_)))))))
   refine ckk hp fun L hp=>Zc (ZZ (v.rd0 s_s_Edges.rd) rfl rfl L) (Zc (Zbo (v.rd0 s_s_Edges.rd) (Zf L) rfl rfl) (Zc (zN (v.rd0 s_s_Edges.rd) rfl (Zf L) rfl) (Zc (ZhP rfl) (ckk hp fun ao hp=>Zc (zc rfl rfl ao) (Zb (.n (n + (((gi s.Edges i.toNat).Bends).size:Int))) rfl (Zg ?_))))))
   refine Zaf (Zo (zI (Zb _ R (ckk hp fun ap hp=>Zc (zc rfl rfl ap) (Zb (.n (i + 1)) rfl (Zg ?_))))))
   cases hp
   exact ⟨rfl,J,rfl,rfl,(v.pk [0])⟩
  ·refine Zbq (zM ?_)
   cases hp
   exact ⟨nofun,rfl,J,ai,(v.pk [0])⟩
 rintro n1 hp _ a4 ae ⟨rfl,I,ah,D⟩
 refine Zav (Zo (ZB (Zi (Zc (zG (r:=a) (o:=0) I rfl) (Zc (ZU (D.box 0 rfl) rfl rfl) (Zc (Zae (D.rd0 s_s_Boxes.rd) rfl) (Zc (Zd2 rfl rfl) ?_)))))))
 refine Zb (.b (decide (4096 < (s.Boxes.length:Int)))) rfl (zK 5 (fun f k=>ae=k∧f 33=.b ((decide (4096 < (s.Boxes.length:Int))) || (decide (4096 < (s.Edges.length:Int))))∧f 1=.p a 0∧f 3=.n n1) ?_ ?_)
 ·rcases bc (decide (4096 < (s.Boxes.length:Int))) with j | j
  ·refine Zh rfl j (Zh rfl j (Zh rfl j (Zh rfl j (Zc (Zcb (w:=(decide (4096 < (s.Boxes.length:Int))) || (decide (4096 < (s.Edges.length:Int)))) rfl j rfl) (Zg ?_)))))
   exact ⟨rfl,rfl,I,ah⟩
  ·refine Zp rfl j (Zc (zG (r:=a) (o:=0) I rfl) (Zp rfl j (Zc (ZU (D.box 0 rfl) rfl rfl) (Zp rfl j (Zc (Zae (D.rd0 s_s_Edges.rd) rfl) (Zp rfl j (Zc (Zd2 rfl rfl) (Zc (Zcc rfl j rfl) ?_))))))))
   refine Zg ?_
   exact ⟨rfl,rfl,I,ah⟩
 rintro aN _ ⟨rfl,av,T,au⟩
 refine Zb _ av (zK 3 (fun f k=>ae=k∧f 37=.b (((decide (4096 < (s.Boxes.length:Int))) || (decide (4096 < (s.Edges.length:Int)))) || (decide (4096 < n1)))∧f 1=.p a 0) ?_ ?_)
 ·rcases bc ((decide (4096 < (s.Boxes.length:Int))) || (decide (4096 < (s.Edges.length:Int)))) with C | C
  ·refine Zh rfl C (Zh rfl C (Zc (Zcb (w:=((decide (4096 < (s.Boxes.length:Int))) || (decide (4096 < (s.Edges.length:Int)))) || (decide (4096 < n1))) rfl C rfl) (Zg ?_)))
   exact ⟨rfl,rfl,T⟩
  ·refine Zp rfl C (Zb _ au (Zp rfl C (Zc (Zd2 rfl rfl) (Zc (Zcc rfl C rfl) (Zg ?_)))))
   exact ⟨rfl,rfl,T⟩
 rintro aO _ ⟨rfl,ax,aw⟩
 refine Ze (zD hp ax (fun al hp=>?_) (fun al hp=>?_))
 ·refine Zi (Zb (.n 6) rfl (Ze (Zar (zE (z4 (zX rfl ZK) ?_)))))
  cases hp
  exact ⟨rfl,(D.pk [])⟩
 ·refine Zas (ZB (Zi (Zb (.n 0) rfl (Ze (Zaa (Zb7 hp (fun i1 fr k=>fr 1=.p a 0∧fr 5=.n i1∧Own B h k [zP a [v_s_Boxes,v_s_Edges]]) (fun | .inl _,e,fr,k=>e=(.exit 2)∧Own B h k [] | .inr x,e,fr,k=>e=.ret∧fr 2=.n x∧Own B h k []) ⟨aw,rfl,(D.pk [0])⟩ ?_ ?_))))))
  ·rintro i1 a7 aX ⟨E,K,y⟩ a3 hp
   dsimp only [Zag.s1] at hp
   refine ZB (Zi (Zb _ K (Zc (zG (r:=a) (o:=0) E rfl) (Zc (ZU (y.box 0 rfl) rfl rfl) (Zc (Zae (y.rd0 s_s_Edges.rd) rfl) (Zc (zF rfl rfl) (Zg ?_)))))))
   refine Zo (zD hp rfl (fun am hp=>?_) (fun am hp=>?_))
   ·refine Zas (ZB (Zaa (Zi (Zc (zG (r:=a) (o:=0) E rfl) (Zc (ZU (y.box 0 rfl) rfl rfl) (Zb _ K ?_))))))
    refine ckk hp fun S hp=>Zc (ZZ (y.rd0 s_s_Edges.rd) rfl rfl S) (Zc (Zdb (y.rd0 s_s_Edges.rd) rfl (Zf S)) (zz (y.alloc (cs:=z1.c (⟨0,0,0,(⟨#[]⟩:ByteArray)⟩:ZaO)) y.fr) ?_))
    rintro _ aY ⟨m,rfl,a1,aL,aH⟩
    refine zz (aH.stb (cs':=z1.c (gi s.Edges i1.toNat)) 1 rfl rfl rfl rfl ⟨rfl,Nat.le_of_ble_eq_true rfl,rfl⟩ rfl) ?_
    rintro _ H ⟨rfl,aM,aZ,l⟩
    refine Ze (ZB (Zi (Zc (zG (r:=m) (o:=0) rfl rfl) (Zc (ZU (l.box 1 rfl) rfl rfl) (Zc (zF rfl rfl) (Zb (.b (decide (((gi s.Edges i1.toNat).From) < 0))) rfl (zK 7 (fun f k=>H=k∧f 60=.b ((decide (((gi s.Edges i1.toNat).From) < 0)) || (decide ((s.Boxes.length:Int)≤((gi s.Edges i1.toNat).From))))∧f 1=.p a 0∧f 5=.n i1∧f 6=.p m 0) ?_ ?_)))))))
    ·rcases bc (decide (((gi s.Edges i1.toNat).From) < 0)) with d | d
     ·refine Zh rfl d (Zh rfl d (Zh rfl d (Zh rfl d (Zh rfl d (Zh rfl d (Zc (Zcb (w:=(decide (((gi s.Edges i1.toNat).From) < 0)) || (decide ((s.Boxes.length:Int)≤((gi s.Edges i1.toNat).From)))) rfl d rfl) (Zg ?_)))))))
      exact ⟨rfl,rfl,E,K,rfl⟩
     ·refine Zp rfl d (Zc (zG (r:=m) (o:=0) rfl rfl) (Zp rfl d (Zc (ZU (l.box 1 rfl) rfl rfl) (Zp rfl d (Zc (zG (r:=a) (o:=0) E rfl) (Zp rfl d (Zc (ZU (l.box 0 rfl) rfl rfl) (Zp rfl d ?_))))))))
      refine Zc (Zae (l.rd0 s_s_Boxes.rd) rfl) (Zp rfl d (Zc (ZcV rfl rfl) (Zc (Zcc rfl d rfl) (Zg ?_))))
      exact ⟨rfl,rfl,E,K,rfl⟩
    rintro aP _ ⟨rfl,ay,U,W,M⟩
    refine Zb _ ay (zK 4 (fun f k=>H=k∧f 65=.b (((decide (((gi s.Edges i1.toNat).From) < 0)) || (decide ((s.Boxes.length:Int)≤((gi s.Edges i1.toNat).From)))) || (decide (((gi s.Edges i1.toNat).To) < 0)))∧f 1=.p a 0∧f 5=.n i1∧f 6=.p m 0) ?_ ?_)
    ·rcases bc ((decide (((gi s.Edges i1.toNat).From) < 0)) || (decide ((s.Boxes.length:Int)≤((gi s.Edges i1.toNat).From)))) with t | t
     ·refine Zh rfl t (Zh rfl t (Zh rfl t (Zc (Zcb (w:=((decide (((gi s.Edges i1.toNat).From) < 0)) || (decide ((s.Boxes.length:Int)≤((gi s.Edges i1.toNat).From)))) || (decide (((gi s.Edges i1.toNat).To) < 0))) rfl t rfl) (Zg ?_))))
      exact ⟨rfl,rfl,U,W,M⟩
     ·refine Zp rfl t (Zc (zG (r:=m) (o:=0) M rfl) (Zp rfl t (Zc (ZU (l.box 1 rfl) rfl rfl) (Zp rfl t (Zc (zF rfl rfl) (Zc (Zcc rfl t rfl) (Zg ?_)))))))
      exact ⟨rfl,rfl,U,W,M⟩
    rintro aQ _ ⟨rfl,az,N,X,O⟩
    refine Zb _ az (zK 7 (fun f k=>H=k∧f 73=.b ((((decide (((gi s.Edges i1.toNat).From) < 0)) || (decide ((s.Boxes.length:Int)≤((gi s.Edges i1.toNat).From)))) || (decide (((gi s.Edges i1.toNat).To) < 0))) || (decide ((s.Boxes.length:Int)≤((gi s.Edges i1.toNat).To))))∧f 1=.p a 0∧f 5=.n i1∧f 6=.p m 0) ?_ ?_)
    ·rcases bc (((decide (((gi s.Edges i1.toNat).From) < 0)) || (decide ((s.Boxes.length:Int)≤((gi s.Edges i1.toNat).From)))) || (decide (((gi s.Edges i1.toNat).To) < 0))) with g | g
     ·refine Zh rfl g (Zh rfl g (Zh rfl g (Zh rfl g (Zh rfl g (Zh rfl g (Zc (Zcb (w:=(((decide (((gi s.Edges i1.toNat).From) < 0)) || (decide ((s.Boxes.length:Int)≤((gi s.Edges i1.toNat).From)))) || (decide (((gi s.Edges i1.toNat).To) < 0))) || (decide ((s.Boxes.length:Int)≤((gi s.Edges i1.toNat).To)))) rfl g rfl) (Zg ?_)))))))
      exact ⟨rfl,rfl,N,X,O⟩
     ·refine Zp rfl g (Zc (zG (r:=m) (o:=0) O rfl) (Zp rfl g (Zc (ZU (l.box 1 rfl) rfl rfl) (Zp rfl g (Zc (zG (r:=a) (o:=0) N rfl) (Zp rfl g (Zc (ZU (l.box 0 rfl) rfl rfl) (Zp rfl g ?_))))))))
      refine Zc (Zae (l.rd0 s_s_Boxes.rd) rfl) (Zp rfl g (Zc (ZcV rfl rfl) (Zc (Zcc rfl g rfl) (Zg ?_))))
      exact ⟨rfl,rfl,N,X,O⟩
    rintro aR _ ⟨rfl,aA,Y,aa,P⟩
    refine Ze (zD hp aA (fun an hp=>?_) (fun an hp=>?_))
    ·refine Zi (Zb (.n 3) rfl (Ze (Zar (zE (Zbv (zE ?_))))))
     cases hp
     exact ⟨nofun,rfl,rfl,(l.pk [])⟩
    ·refine Zas (Zi (Zc (zG (r:=m) (o:=0) P rfl) (Zc (ZU (l.box 1 rfl) rfl rfl) ?_)))
     obtain ⟨x1,⟨a8,af,ar,rfl,aI⟩,hp⟩:=bdk hp fun _=>ZaM.ok (h:=H)  
     refine ZaI rfl rfl ar ?_
     have F:=l.call aI rfl
     refine Zb (.b x1) rfl (Ze (Zi (Zc (zG (r:=m) (o:=0) P rfl) (Zc (ZU (F.box 1 rfl) rfl rfl) (Zc (zF rfl rfl) (Zb (.b (decide (((gi s.Edges i1.toNat).Dir) < 0))) rfl (zK 4 (fun f k=>af=k∧f 84=.b ((decide (((gi s.Edges i1.toNat).Dir) < 0)) || (decide (3 < ((gi s.Edges i1.toNat).Dir))))∧f 1=.p a 0∧f 5=.n i1∧f 7=.b x1) ?_ ?_)))))))
     ·rcases bc (decide (((gi s.Edges i1.toNat).Dir) < 0)) with q | q
      ·refine Zh rfl q (Zh rfl q (Zh rfl q (Zc (Zcb (w:=(decide (((gi s.Edges i1.toNat).Dir) < 0)) || (decide (3 < ((gi s.Edges i1.toNat).Dir)))) rfl q rfl) (Zg ?_))))
       exact ⟨rfl,rfl,Y,aa,rfl⟩
      ·refine Zp rfl q (Zc (zG (r:=m) (o:=0) P rfl) (Zp rfl q (Zc (ZU (F.box 1 rfl) rfl rfl) (Zp rfl q (Zc (Zd2 rfl rfl) (Zc (Zcc rfl q rfl) (Zg ?_)))))))
       exact ⟨rfl,rfl,Y,aa,rfl⟩
     rintro aS _ ⟨rfl,aC,ab,ac,aB⟩
     refine Zb _ aC (zK 3 (fun f k=>af=k∧f 88=.b (((decide (((gi s.Edges i1.toNat).Dir) < 0)) || (decide (3 < ((gi s.Edges i1.toNat).Dir)))) || (!x1))∧f 1=.p a 0∧f 5=.n i1) ?_ ?_)
     ·rcases bc ((decide (((gi s.Edges i1.toNat).Dir) < 0)) || (decide (3 < ((gi s.Edges i1.toNat).Dir)))) with A | A
      ·refine Zh rfl A (Zh rfl A (Zc (Zcb (w:=((decide (((gi s.Edges i1.toNat).Dir) < 0)) || (decide (3 < ((gi s.Edges i1.toNat).Dir)))) || (!x1)) rfl A rfl) (Zg ?_)))
       exact ⟨rfl,rfl,ab,ac⟩
      ·refine Zp rfl A (Zb _ aB (Zp rfl A (Zc (ZcO rfl) (Zc (Zcc rfl A rfl) (Zg ?_)))))
       exact ⟨rfl,rfl,ab,ac⟩
     rintro aT _ ⟨rfl,aF,aD,aE⟩
     refine Ze (zD hp aF (fun ak hp=>?_) (fun ak hp=>?_))
     ·refine Zi (Zb (.n 2) rfl (Ze (Zar (Zbv (zE ?_)))))
      cases hp
      exact ⟨nofun,rfl,rfl,(F.pk [])⟩
     ·refine Zc2 (Zaf (Zo (zI (Zb _ aE (ckk hp fun aq hp=>Zc (zc rfl rfl aq) (Zb (.n (i1 + 1)) rfl (Zg ?_)))))))
      cases hp
      exact ⟨rfl,aD,rfl,(F.pk [0])⟩
   ·refine Zbq (zM ?_)
    cases hp
    exact ⟨nofun,rfl,(y.pk [])⟩
  rintro (_ | x) hp _ a6 aW ad
  ·obtain ⟨rfl,Q⟩:=ad
   refine Zav (Zo (Zi (Zb (.n 0) rfl (Ze (Zar (z4 (zX rfl ZK) ?_))))))
   cases hp
   exact ⟨rfl,(Q.pk [])⟩
  ·obtain ⟨rfl,aJ,Q⟩:=ad
   refine Zbv (zE (z4 (zX aJ ZK) ?_))
   cases hp
   exact ⟨rfl,(Q.pk [])⟩

theorem Zbd.ok {h:Hp} {e_:ZaO}   {r:Int} (hp:Zbd e_=some r) :
  ∃ u k',Is G 230 [.ag (z1.c e_)] h u k'∧V.n r=u∧Own (fun r=>r < h.n) h k' []:=by
 refine WC.is (ZaP Zex ?_)
 unfold Zbd at hp
 let B:Nat→Prop:=(fun r=>r < h.n)
 have hO:Own B h h []:=Own.start0 h
 refine Zi (zz (hO.boxd (cs:=z1.c e_) hO.fr rfl rfl) ?_)
 rintro _ E ⟨f,rfl,I,D,m⟩
 refine Zb (.n 0) rfl (Ze (Zi (Zc (zG (r:=f) (o:=0) rfl rfl) (Zc (ZU (m.box 0 rfl) rfl rfl) (Zb (.n e_.Dir) rfl (Zg ?_))))))
 refine Zo (ZB (Zi (Zb (.n 0) rfl (Ze (Zaa (Zb7 hp (fun | (d,i),fr,k=>fr 1=.p f 0∧fr 3=.n d∧fr 4=.n i∧Own B h k [zP f (z1.c e_)]) (fun d1 e fr k=>e=(.exit 0)∧fr 3=.n d1∧Own B h k []) ⟨rfl,rfl,rfl,(m.pk [0])⟩ ?_ ?_))))))
 ·rintro ⟨d,i⟩ L H ⟨g,l,j,b⟩ J hp
  dsimp only [Zbd.s0] at hp
  refine ZB (Zi (Zb _ j (Zc (zG (r:=f) (o:=0) g rfl) (Zc (ZU (b.box 0 rfl) rfl rfl) (Zc (ZhP rfl) (Zc (zF rfl rfl) (Zg ?_)))))))
  refine Zo (zD hp rfl (fun q hp=>?_) (fun q hp=>?_))
  ·refine Zas (ZB (Zaa (Zi (Zc (zG (r:=f) (o:=0) g rfl) (Zc (ZU (b.box 0 rfl) rfl rfl) (Zb _ j ?_))))))
   refine ckk hp fun t hp=>Zc (ZkG (a:=e_.Bends) (z:=i) rfl rfl t) (Zc (Zbl rfl rfl) (Ze (zD hp rfl (fun s hp=>?_) (fun s hp=>?_))))
   ·refine zI (Zb _ l (ckk hp fun v hp=>Zc (zc rfl rfl v) (Zc (Zc6 rfl rfl (by decide)) (Zb (.n ((d + 1).tmod 4)) rfl (Zg (Zaf (Zo ?_)))))))
    refine zI (Zb _ j (ckk hp fun w hp=>Zc (zc rfl rfl w) (Zb (.n (i + 1)) rfl (Zg ?_))))
    cases hp
    exact ⟨rfl,g,rfl,rfl,(b.pk [0])⟩
   ·refine zI (Zb _ l (ckk hp fun x hp=>Zc (zc rfl rfl x) (Zc (Zc6 rfl rfl (by decide)) (Zb (.n ((d + 3).tmod 4)) rfl (Zg (Zaf (Zo ?_)))))))
    refine zI (Zb _ j (ckk hp fun y hp=>Zc (zc rfl rfl y) (Zb (.n (i + 1)) rfl (Zg ?_))))
    cases hp
    exact ⟨rfl,g,rfl,rfl,(b.pk [0])⟩
  ·refine Zbq (zM ?_)
   cases hp
   exact ⟨nofun,rfl,l,(b.pk [])⟩
 rintro d1 hp _ K F ⟨rfl,C,A⟩
 refine Zav (Zo (Zi (Zb _ C (Zb (.n d1) rfl (Ze (Zar ?_))))))
 refine z4 (zX rfl ZK) ?_
 cases hp
 exact ⟨rfl,(A.pk [])⟩

theorem Zci.ok {h:Hp} {e_:ZaO}   {r:Int} (hp:Zci e_=some r) :
  ∃ u k',Is G 218 [.ag (z1.c e_)] h u k'∧V.n r=u∧Own (fun r=>r < h.n) h k' []:=by
 refine WC.is (ZaP Ze1 ?_)
 unfold Zci at hp
 let B:Nat→Prop:=(fun r=>r < h.n)
 have hO:Own B h h []:=Own.start0 h
 refine Zi (zz (hO.boxd (cs:=z1.c e_) hO.fr rfl rfl) ?_)
 rintro _ g ⟨l,rfl,k,i,a⟩
 refine Zb (.n 0) rfl (Ze (Zi (Zc (Zbz (a.box 0 rfl) rfl rfl) ?_)))
 obtain ⟨x,⟨m,j,d,rfl,f⟩,hp⟩:=bdk hp fun _=>Zbd.ok (h:=g)  
 refine ZaI rfl rfl d ?_
 have e:=a.call f rfl
 refine Zb (.n x) rfl (Ze (Zi (Zb (.n x) rfl (ckk hp fun b hp=>Zc (zc rfl rfl b) (Zc (Zc6 rfl rfl (by decide)) ?_)))))
 refine Zb (.n ((x + 2).tmod 4)) rfl (Ze (Zar (z4 (zX rfl ZK) ?_)))
 cases hp
 exact ⟨rfl,(e.pk [])⟩

theorem Za4.ok {h:Hp} {s:Zac} {v:Int} {d:Int} {v_s_Boxes:V} {v_s_Edges:V} (s_s_Boxes:Sl e_bool h v_s_Boxes s.Boxes) (s_s_Edges:Sl z1 h v_s_Edges s.Edges) {r:(List Int)} (hp:Za4 s v d=some r) :
  ∃ u k',Is G 199 [.ag [v_s_Boxes,v_s_Edges],.n v,.n d] h u k'∧∃ aj,aj=u∧Own (fun r=>r < h.n) h k' [eSl zT aj r]:=by
 refine WC.is (ZaP ZeP ?_)
 unfold Za4 at hp
 let B:Nat→Prop:=(fun r=>r < h.n)
 have hO:Own B h h []:=Own.start0 h
 refine Zi (zz (hO.boxd (cs:=[v_s_Boxes,v_s_Edges]) hO.fr rfl rfl) ?_)
 rintro _ aV ⟨m,rfl,a4,aM,aB⟩
 refine Zb (.sn) rfl (Ze (Zi (Zb (.sn) rfl (Ze (ZB ?_)))))
 refine Zi (Zb (.n 0) rfl (Ze (Zaa ?_)))
 have aE:=aB.nil zT
 refine Zb7 hp (fun | (l,i),fr,k=>∃ t,fr 1=.n v∧fr 2=.n d∧fr 3=.p m 0∧fr 7=t∧fr 8=.n i∧Own B h k [zP m [v_s_Boxes,v_s_Edges],eSl zT t l]) (fun l1 e fr k=>e=(.exit 0)∧∃ A,fr 7=A∧Own B h k [eSl zT A l1]) ⟨V.sn,rfl,rfl,rfl,rfl,rfl,(aE.pk [0,1])⟩ ?_ ?_
 ·rintro ⟨l,i⟩ a8 aZ ⟨t,M,N,F,O,H,j⟩ a6 hp
  dsimp only [Za4.s0] at hp
  refine ZB (Zi (Zb _ H (Zc (zG (r:=m) (o:=0) F rfl) (Zc (ZU (j.box 0 rfl) rfl rfl) (Zc (Zae (j.rd0 s_s_Edges.rd) rfl) (Zc (zF rfl rfl) (Zg ?_)))))))
  refine Zo (zD hp rfl (fun am hp=>?_) (fun am hp=>?_))
  ·refine Zas (ZB (Zaa (Zi (Zc (zG (r:=m) (o:=0) F rfl) (Zc (ZU (j.box 0 rfl) rfl rfl) (Zb _ H ?_))))))
   refine ckk hp fun R hp=>Zc (ZZ (j.rd0 s_s_Edges.rd) rfl rfl R) (Zc (Zdb (j.rd0 s_s_Edges.rd) rfl (Zf R)) (zz (j.alloc (cs:=z1.c (⟨0,0,0,(⟨#[]⟩:ByteArray)⟩:ZaO)) j.fr) ?_))
   rintro _ a0 ⟨q,rfl,a5,aN,aF⟩
   refine zz (aF.stb (cs':=z1.c (gi s.Edges i.toNat)) 2 rfl rfl rfl rfl ⟨rfl,Nat.le_of_ble_eq_true rfl,rfl⟩ rfl) ?_
   rintro _ aI ⟨rfl,aO,a3,y⟩
   refine Ze (ZB (Zi (Zc (zG (r:=q) (o:=0) rfl rfl) (Zc (ZU (y.box 2 rfl) rfl rfl) (Zb _ M (Zc (Zbl rfl rfl) ?_))))))
   refine Zb (.b (decide ((gi s.Edges i.toNat).From=v))) rfl (zK 5 (fun f k=>aI=k∧f 32=.b ((decide ((gi s.Edges i.toNat).From=v)) && (decide ((gi s.Edges i.toNat).Dir=d)))∧f 1=.n v∧f 2=.n d∧f 3=.p m 0∧f 7=t∧f 8=.n i∧f 9=.p q 0) ?_ ?_)
   ·rcases bc (decide ((gi s.Edges i.toNat).From=v)) with a | a
    ·refine Zp rfl a (Zc (zG (r:=q) (o:=0) rfl rfl) (Zp rfl a (Zc (ZU (y.box 2 rfl) rfl rfl) (Zp rfl a (Zb _ N (Zp rfl a (Zc (Zbl rfl rfl) (Zc (ZcN rfl a rfl) ?_))))))))
     refine Zg ?_
     exact ⟨rfl,rfl,M,N,F,O,H,rfl⟩
    ·refine Zh rfl a (Zh rfl a (Zh rfl a (Zh rfl a (Zc (ZcM (w:=(decide ((gi s.Edges i.toNat).From=v)) && (decide ((gi s.Edges i.toNat).Dir=d))) rfl a rfl) (Zg ?_)))))
     exact ⟨rfl,rfl,M,N,F,O,H,rfl⟩
   rintro aT _ ⟨rfl,az,S,T,U,W,I,X⟩
   refine Ze (Zgd hp (fun l2 e fr k=>e=.normal∧∃ C,fr 1=.n v∧fr 2=.n d∧fr 3=.p m 0∧fr 7=C∧fr 8=.n i∧fr 9=.p q 0∧Own B h k [zP m [v_s_Boxes,v_s_Edges],eSl zT C l2,zP q (z1.c (gi s.Edges i.toNat))]) (fun _ hp=>?_) ?_)
   ·refine zD hp az (fun an hp=>?_) (fun an hp=>?_)
    ·refine zI (Zb _ W (Zb _ I (ckk hp fun ap hp=>Zc (ZhO rfl rfl ap) (zz (y.bsl (E:=zT) (l:=[2 * i]) y.fr (by rw [(zp (v:=.n (2 * i)) rfl ZaN)]; rfl) rfl) ?_))))
     rintro be a1 ⟨ba,aP,L⟩
     refine ckk hp fun aq hp=>zz (L.app (bytes:=8) 1 L.fr rfl (L.sl 3 rfl) rfl rfl (fun _=>rfl) aq (by decide)) ?_
     rintro ak a2 ⟨aQ,aG⟩
     refine Zb ak rfl (Zg ?_)
     cases hp
     exact ⟨rfl,ak,S,T,U,rfl,I,X,(aG.pk [0,1,2])⟩
    ·refine Zc2 ?_
     cases hp
     exact ⟨rfl,t,S,T,U,W,I,X,(y.pk [0,1,2])⟩
   rintro l2 hp _ a9 aJ ⟨rfl,C,P,Q,ae,af,ah,ai,ad⟩
   refine Zo (Zi (Zc (Zbz (ad.box 2 rfl) ai rfl) ?_))
   obtain ⟨x,⟨bd,aK,ay,rfl,aH⟩,hp⟩:=bdk hp fun _=>Zci.ok (h:=aJ)  
   refine ZaI rfl rfl ay ?_
   have D:=ad.call aH rfl
   refine Zb (.n x) rfl (Ze (Zi (Zc (zG (r:=q) (o:=0) ai rfl) (Zc (ZU (D.box 2 rfl) rfl rfl) (Zb _ P (Zc (Zbl rfl rfl) ?_))))))
   refine Zb (.b (decide ((gi s.Edges i.toNat).To=v))) rfl (zK 4 (fun f k=>aK=k∧f 48=.b ((decide ((gi s.Edges i.toNat).To=v)) && (decide (x=d)))∧f 1=.n v∧f 2=.n d∧f 3=.p m 0∧f 7=C∧f 8=.n i) ?_ ?_)
   ·rcases bc (decide ((gi s.Edges i.toNat).To=v)) with g | g
    ·refine Zp rfl g (Zb (.n x) rfl (Zp rfl g (Zb _ Q (Zp rfl g (Zc (Zbl rfl rfl) (Zc (ZcN rfl g rfl) (Zg ?_)))))))
     exact ⟨rfl,rfl,P,Q,ae,af,ah⟩
    ·refine Zh rfl g (Zh rfl g (Zh rfl g (Zc (ZcM (w:=(decide ((gi s.Edges i.toNat).To=v)) && (decide (x=d))) rfl g rfl) (Zg ?_))))
     exact ⟨rfl,rfl,P,Q,ae,af,ah⟩
   rintro aU _ ⟨rfl,aA,Y,aa,ab,ac,J⟩
   refine Ze (zD hp aA (fun ao hp=>?_) (fun ao hp=>?_))
   ·refine zI (Zb _ ac (Zb _ J (ckk hp fun ar hp=>Zc (ZhO rfl rfl ar) (ckk hp fun au hp=>Zc (zc rfl rfl au) (zz (D.bsl (E:=zT) (l:=[(2 * i) + 1]) D.fr (by rw [(zp (v:=.n ((2 * i) + 1)) rfl ZaN)]; rfl) rfl) ?_)))))
    rintro bf aW ⟨bb,aR,K⟩
    refine ckk hp fun av hp=>zz (K.app (bytes:=8) 1 K.fr rfl (K.sl 3 rfl) rfl rfl (fun _=>rfl) av (by decide)) ?_
    rintro al aX ⟨aS,aC⟩
    refine Zb al rfl (Zg (Zaf (Zo (zI (Zb _ J (ckk hp fun aw hp=>Zc (zc rfl rfl aw) (Zb (.n (i + 1)) rfl ?_)))))))
    refine Zg ?_
    cases hp
    exact ⟨rfl,al,Y,aa,ab,rfl,rfl,(aC.pk [0,1])⟩
   ·refine Zc2 (Zaf (Zo (zI (Zb _ J (ckk hp fun ax hp=>Zc (zc rfl rfl ax) (Zb (.n (i + 1)) rfl (Zg ?_)))))))
    cases hp
    exact ⟨rfl,C,Y,aa,ab,ac,rfl,(D.pk [0,1])⟩
  ·refine Zbq (zM ?_)
   cases hp
   exact ⟨nofun,rfl,t,O,(j.pk [1])⟩
 rintro l1 hp _ a7 aY ⟨rfl,A,aL,aD⟩
 refine Zav (Zo (Zi (Zb _ aL (Zb A rfl (Ze (Zar ?_))))))
 refine z4 (zX rfl ZK) ?_
 cases hp
 exact ⟨A,rfl,(aD.pk [0])⟩

theorem zH.ok {h:Hp} {s:Zac} {v_s_Boxes:V} {v_s_Edges:V} (s_s_Boxes:Sl e_bool h v_s_Boxes s.Boxes) (s_s_Edges:Sl z1 h v_s_Edges s.Edges) {r:Int} (hp:zH s=some r) :
  ∃ u k',Is G 198 [.ag [v_s_Boxes,v_s_Edges]] h u k'∧V.n r=u∧Own (fun r=>r < h.n) h k' []:=by
 refine WC.is (ZaP Zea ?_)
 unfold zH at hp
 let B:Nat→Prop:=(fun r=>r < h.n)
 have hO:Own B h h []:=Own.start0 h
 refine Zi (zz (hO.boxd (cs:=[v_s_Boxes,v_s_Edges]) hO.fr rfl rfl) ?_)
 rintro _ az ⟨a,rfl,aG,ax,an⟩
 refine Zb (.n 0) rfl (Ze (Zi (Zb (.n 0) rfl (Ze (ZB ?_)))))
 refine Zi (Zb (.n 0) rfl (Ze (Zaa (Zb7 hp (fun | (n,v),fr,k=>fr 1=.p a 0∧fr 3=.n n∧fr 4=.n v∧Own B h k [zP a [v_s_Boxes,v_s_Edges]]) (fun n1 e fr k=>e=(.exit 0)∧fr 1=.p a 0∧fr 3=.n n1∧Own B h k [zP a [v_s_Boxes,v_s_Edges]]) ⟨rfl,rfl,rfl,(an.pk [0])⟩ ?_ ?_))))
 ·rintro ⟨n,v⟩ aL aB ⟨A,Q,R,m⟩ aH hp
  dsimp only [zH.s0] at hp
  refine ZB (Zi (Zb _ R (Zc (zG (r:=a) (o:=0) A rfl) (Zc (ZU (m.box 0 rfl) rfl rfl) (Zc (Zae (m.rd0 s_s_Boxes.rd) rfl) (Zc (zF rfl rfl) (Zg ?_)))))))
  refine Zo (zD hp rfl (fun X hp=>?_) (fun X hp=>?_))
  ·refine Zas (ZB (Zaa (Zi (Zb _ Q (ckk hp fun ac hp=>Zc (zc rfl rfl ac) ?_)))))
   refine Zb (.n (n + 1)) rfl (Ze (ZB (Zi (Zb (.n 0) rfl (Ze ?_)))))
   refine Zaa (Zb7 hp (fun | (n2,d),fr,k=>fr 1=.p a 0∧fr 3=.n n2∧fr 4=.n v∧fr 5=.n d∧Own B h k [zP a [v_s_Boxes,v_s_Edges]]) (fun n3 e fr k=>e=(.exit 2)∧fr 1=.p a 0∧fr 3=.n n3∧fr 4=.n v∧Own B h k [zP a [v_s_Boxes,v_s_Edges]]) ⟨A,rfl,R,rfl,(m.pk [0])⟩ ?_ ?_)
   ·rintro ⟨n2,d⟩ aN P ⟨E,T,F,H,g⟩ aI hp
    dsimp only [zH.s1] at hp
    refine ZB (Zi (Zb _ H (Zc (zF rfl rfl) (Zb (.b (decide (d < 4))) rfl ?_))))
    obtain ⟨t,ar,hp⟩:=ZaH hp
    refine zK 6 (fun f k=>P=k∧f 25=.b t∧f 1=.p a 0∧f 3=.n n2∧f 4=.n v∧f 5=.n d) ?_ ?_
    ·clear hp; rcases ZaR ar with ⟨c,hp⟩ | ⟨c,hp⟩
     ·refine Zp rfl c (Zc (zG (r:=a) (o:=0) E rfl) (Zp rfl c (Zc (ZU (g.box 0 rfl) rfl rfl) (Zp rfl c (Zb _ F (Zp rfl c (ckk hp fun K hp=>Zc (ZZ (g.rd0 s_s_Boxes.rd) rfl rfl K) ?_)))))))
      refine Zp rfl c (Zc (zN (g.rd0 s_s_Boxes.rd) rfl (Zf K) rfl) (Zc (ZaF (v:=.b t) rfl c (Eq.trans (b:=V.b (gi s.Boxes v.toNat)) rfl (congrArg V.b (Option.some.inj hp)))) (Zg ?_)))
      exact ⟨rfl,rfl,E,T,F,H⟩
     ·refine Zh rfl c (Zh rfl c (Zh rfl c (Zh rfl c (Zh rfl c (Zc (Za5 (v:=.b t) rfl c (Eq.trans (b:=V.b false) rfl (congrArg V.b (Option.some.inj hp)))) (Zg ?_))))))
      exact ⟨rfl,rfl,E,T,F,H⟩
    rintro ay _ ⟨rfl,am,w,M,y,N⟩
    refine Ze (zD hp am (fun Y hp=>?_) (fun Y hp=>?_))
    ·refine Zas (ZB (Zaa (Zi (Zc (Zbz (g.box 0 rfl) w rfl) (Zb _ y (Zb _ N ?_))))))
     obtain ⟨x,⟨aQ,aD,al,W,rfl,aq⟩,hp⟩:=bdk hp fun _=>Za4.ok (h:=P)  (g.rd0 s_s_Boxes.rd) (g.rd0 s_s_Edges.rd)
     refine ZaI rfl rfl al ?_
     have O:=g.call aq rfl
     refine Zb W rfl (Ze (zI (Zb _ M (Zb W rfl (Zc (Zae (O.sl 1 rfl) rfl) (ckk hp fun af hp=>Zc (zc rfl rfl af) ?_))))))
     refine Zb (.n (n2 + (x.length:Int))) rfl (Zg (Zaf (Zo (zI (Zb _ N (ckk hp fun ah hp=>Zc (zc rfl rfl ah) (Zb (.n (d + 1)) rfl ?_)))))))
     refine Zg ?_
     cases hp
     exact ⟨rfl,w,rfl,y,rfl,(O.pk [0])⟩
    ·refine Zbq (zM ?_)
     cases hp
     exact ⟨nofun,rfl,w,M,y,(g.pk [0])⟩
   rintro n3 hp _ aM aC ⟨rfl,C,S,D,l⟩
   refine Zav (Zo (Zi (Zc (zG (r:=a) (o:=0) C rfl) (Zc (ZU (l.box 0 rfl) rfl rfl) (Zb _ D (ckk hp fun L hp=>Zc (ZZ (l.rd0 s_s_Boxes.rd) rfl rfl L) ?_))))))
   refine Zc (zN (l.rd0 s_s_Boxes.rd) rfl (Zf L) rfl) (Ze (zD hp rfl (fun aa hp=>?_) (fun aa hp=>?_)))
   ·refine zI (Zb _ S (ckk hp fun ai hp=>Zc (zc rfl rfl ai) (Zb (.n (n3 + 3)) rfl (Zg (Zaf (Zo (zI ?_)))))))
    refine Zb _ D (ckk hp fun aj hp=>Zc (zc rfl rfl aj) (Zb (.n (v + 1)) rfl (Zg ?_)))
    cases hp
    exact ⟨rfl,C,rfl,rfl,(l.pk [0])⟩
   ·refine Zc2 (Zaf (Zo (zI (Zb _ D (ckk hp fun ak hp=>Zc (zc rfl rfl ak) (Zb (.n (v + 1)) rfl (Zg ?_)))))))
    cases hp
    exact ⟨rfl,C,S,rfl,(l.pk [0])⟩
  ·refine Zbq (zM ?_)
   cases hp
   exact ⟨nofun,rfl,A,Q,(m.pk [0])⟩
 rintro n1 hp _ aK aA ⟨rfl,au,av,ao⟩
 refine Zav (Zo (ZB (Zi (Zb (.n 0) rfl (Ze (Zaa (Zb7 hp (fun | (n4,i),fr,k=>fr 1=.p a 0∧fr 3=.n n4∧fr 7=.n i∧Own B h k [zP a [v_s_Boxes,v_s_Edges]]) (fun n5 e fr k=>e=(.exit 4)∧fr 3=.n n5∧Own B h k []) ⟨au,av,rfl,(ao.pk [0])⟩ ?_ ?_)))))))
 ·rintro ⟨n4,i⟩ aP aF ⟨I,U,J,j⟩ aJ hp
  dsimp only [zH.s2] at hp
  refine ZB (Zi (Zb _ J (Zc (zG (r:=a) (o:=0) I rfl) (Zc (ZU (j.box 0 rfl) rfl rfl) (Zc (Zae (j.rd0 s_s_Edges.rd) rfl) (Zc (zF rfl rfl) (Zg ?_)))))))
  refine Zo (zD hp rfl (fun ab hp=>?_) (fun ab hp=>?_))
  ·refine Zas (ZB (Zaa (zI (Zb _ U (Zc (zG (r:=a) (o:=0) I rfl) (Zc (ZU (j.box 0 rfl) rfl rfl) (Zb _ J ?_)))))))
   refine ckk hp fun q hp=>Zc (ZZ (j.rd0 s_s_Edges.rd) rfl rfl q) (Zc (Zbo (j.rd0 s_s_Edges.rd) (Zf q) rfl rfl) (Zc (zN (j.rd0 s_s_Edges.rd) rfl (Zf q) rfl) (Zc (ZhP rfl) (ckk hp fun ad hp=>Zc (zc rfl rfl ad) (Zb (.n (n4 + (((gi s.Edges i.toNat).Bends).size:Int))) rfl (Zg ?_))))))
   refine Zaf (Zo (zI (Zb _ J (ckk hp fun ae hp=>Zc (zc rfl rfl ae) (Zb (.n (i + 1)) rfl (Zg ?_))))))
   cases hp
   exact ⟨rfl,I,rfl,rfl,(j.pk [0])⟩
  ·refine Zbq (zM ?_)
   cases hp
   exact ⟨nofun,rfl,U,(j.pk [])⟩
 rintro n5 hp _ aO aE ⟨rfl,aw,ap⟩
 refine Zav (Zo (Zi (Zb _ aw (Zb (.n n5) rfl (Ze (Zar ?_))))))
 refine z4 (zX rfl ZK) ?_
 cases hp
 exact ⟨rfl,(ap.pk [])⟩

end Mu
