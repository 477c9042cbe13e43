/- The code comes to what was worked out. -/
import Derived.Test.YtdefkboekpjiiaaMuDf
import Derived.Test.YtdefkboekpjiiaaMuPa
import Derived.Test.YtdefkboekpjiiaaMuC0
set_option linter.unusedVariables false
set_option linter.unnecessarySimpa false
set_option linter.unusedSimpArgs false
set_option maxHeartbeats 2000000
set_option maxRecDepth 10000
namespace Mu
open Go (IntKind BinOp UnOp)
theorem ZaM.ok {h:Hp}{cells:List Zc}{f:List Zq}{v_cells:V}{v_f:V}(s_cells:Sl Zl h v_cells cells) (s_f:Sl Zh h v_f f) {r:(List Int)}(hp:ZaM cells f=some r) :
  ∃ u k',Is G 204 [v_cells,v_f] h u k'∧∃ J,J=u∧Own (fun r=>r<h.n) h k' [eSl ZT J r]:=by
 refine WC.is (zV ZcR ?_);unfold ZaM at hp;let B:Nat→Prop:=(fun r=>r<h.n);have hO:Own B h h []:=Own.start0 h;refine Zi (Zb (.sn) rfl (Ze (Zi (Zb v_f rfl (Zd (Zay (hO.rd0 s_f.rd) rfl) (ckk hp fun N hp=>zh (hO.mks (E:=ZT) (y:=(0:Int)) (bytes:=8) (z:=(f.length:Int)) hO.fr rfl rfl rfl N (by decide)) ?_))))));rintro a ae ⟨_,_,D⟩;refine Zb a rfl (Ze (ZR (Zi (Zb v_cells rfl ?_))));obtain ⟨x,⟨_,_,Q,rfl,ab⟩,hp⟩:=bdk hp fun _=>zj.ok (h:=ae)  (D.rd0 s_cells.rd);refine Za1 rfl rfl Q ?_;have m:=D.call ab rfl;refine Zd (ZbP rfl rfl) (Ze (z5 hp rfl (fun K hp=>?_) (fun K hp=>?_)))
 ·refine Zi (Zb a rfl (Zb a rfl (Ze (zp (zc (ZS (ze rfl ZA) ?_))))));cases hp;exact ⟨a,rfl,(m.pk [0])⟩
 ·refine Zag (ZR (Zi (Zb v_f rfl (Zd (Zay (m.rd0 s_f.rd) rfl) (Zb (.n 0) rfl (Ze (Zaj (Zb4 hp (fun|(l,x1),fr,k=>fr 0=v_cells∧fr 5=a∧fr 15=v_f∧fr 16=.n (f.length:Int)∧fr 17=.n x1∧Own B h k [eSl ZT a l]) (fun l1 e fr k=>e=(.exit 0)∧fr 5=a∧Own B h k [eSl ZT a l1]) ⟨rfl,rfl,rfl,rfl,rfl,(m.pk [0])⟩ ?_ ?_))))))))
  ·rintro ⟨l,x1⟩ _ _ ⟨i,j,t,w,d,b⟩ _ hp;dsimp only [ZaM.s0] at hp;refine Zi (Zd (zY d w) (Ze (ZR (z5 hp rfl (fun L hp=>?_) (fun L hp=>?_)))))
   ·refine Zag (ZR (Zaj (Zi (Zb _ d (ckk hp fun A hp=>Zd (zG (b.rd0 s_f.rd) t d A) (Zd (Zdn (b.rd0 s_f.rd) rfl (Zr A)) (zh (b.alloc (cs:=Zh.c (⟨0,0⟩:Zq)) b.fr) ?_)))))));rintro _ _ ⟨ai,rfl,_,_,Y⟩;refine Zb (.n x1) rfl (zh (Y.stb (cs':=Zh.c (gi f x1.toNat)) 1 rfl rfl rfl rfl ⟨rfl,Nat.le_of_ble_eq_true rfl,rfl⟩ rfl) ?_);rintro _ af ⟨rfl,_,_,p⟩;refine Ze (Zi (Zd (zQ (p.box 1 rfl) rfl rfl) (Zb _ i ?_)));obtain ⟨x2,⟨_,I,R,rfl,ac⟩,hp⟩:=bdk hp fun _=>Zav.ok (h:=af)  (p.rd0 s_cells.rd);refine Za1 rfl rfl R ?_;have s:=p.call ac rfl;refine Ze (z5 hp rfl (fun M hp=>?_) (fun M hp=>?_))
    ·refine ZdD ?_;have g:=s.bump 11;have U:=Fresh.start I 11;refine zN _ j (zN (.n x1) rfl (ZM (z1 (r:=ai) (o:=0) rfl rfl) (ZM (zf (g.box 1 rfl) rfl rfl) (ZM (zQ (g.box 1 rfl) rfl rfl) (zN _ i ?_)))));obtain ⟨x3,⟨_,ag,S,rfl,H⟩,hp⟩:=bdk hp fun _=>z3.ok (h:=(I.bump 11))  (g.rd0 s_cells.rd);refine ZcW rfl rfl S ?_;have aa:=g.call H rfl;refine ZM (ZiO (cs:=Zh.c x3) (v:=.n x3.Dir) rfl rfl) ?_;obtain ⟨x4,⟨_,_,T,rfl,ad⟩,hp⟩:=bdk hp fun _=>Zbf.ok (h:=ag)  ;refine ZcW rfl rfl T ?_;have F:=aa.call ad rfl;refine ckk hp fun C hp=>ZM (zG (F.sl 0 rfl) rfl rfl C) (Zeh (F.ste (y:=x4) 0 rfl rfl (Zr C) rfl rfl ⟨rfl,Nat.le_of_ble_eq_true rfl,rfl⟩ rfl) ?_);rintro _ _ _ ⟨rfl,_,_,W⟩;refine ZaO ?_;refine And.intro ?_ ?_
     ·intro q hq;simp only [List.mem_cons,List.not_mem_nil,or_false] at hq;rcases hq with rfl|rfl
      ·refine zC ?_ ?_
       ·exact nofun
       ·exact nofun
      ·refine ZgF rfl rfl ?_
       ·exact (fun r hm hc=>hc (H.base r (Nat.lt_of_lt_of_le (s.ltAt 1 rfl _ (tch (Zcs hm) rfl)) (Nat.le_trans (Nat.le_add_right _ _) U.n))))
     refine Zad (Z5 (Zac (ckk hp fun O hp=>Zd (zA d rfl O) (Zb (.n (x1+1)) rfl (Zt ?_)))));cases hp;exact ⟨rfl,i,j,t,w,rfl,(W.pk [0])⟩
    ·refine Zcn (Zad (Z5 (Zac (ckk hp fun P hp=>Zd (zA d rfl P) (Zb (.n (x1+1)) rfl (Zt ?_))))));cases hp;exact ⟨rfl,i,j,t,w,rfl,(s.pk [0])⟩
   ·refine Zbh (zU ?_);cases hp;exact ⟨nofun,rfl,j,(b.pk [0])⟩
  rintro l1 hp _ _ _ ⟨rfl,ah,X⟩;refine Za8 (Z5 (Zi (Zb _ ah (Zb a rfl (Ze (zp (ZS (ze rfl ZA) ?_)))))));cases hp;exact ⟨a,rfl,(X.pk [0])⟩

theorem Zaz.ok {h:Hp}{turns:List Int}{v_turns:V}(s_turns:Sl ZT h v_turns turns) {r:Int}(hp:Zaz turns=some r) :
  ∃ u k',Is G 219 [v_turns] h u k'∧V.n r=u∧Own (fun r=>r<h.n) h k' []:=by
 refine WC.is (zV Zcp ?_);unfold Zaz at hp;let B:Nat→Prop:=(fun r=>r<h.n);have hO:Own B h h []:=Own.start0 h;refine Zi (Zb (.n 0) rfl (Ze (Zi (Zb (.n 0) rfl (Ze (ZR (Zi (Zb v_turns rfl ?_))))))));refine Zd (Zay (hO.rd0 s_turns.rd) rfl) (Zb (.n 0) rfl (Ze (Zaj (Zb4 hp (fun|(n,x),fr,k=>fr 3=.n n∧fr 6=v_turns∧fr 7=.n (turns.length:Int)∧fr 8=.n x∧Own B h k []) (fun n1 e fr k=>e=(.exit 0)∧fr 3=.n n1∧Own B h k []) ⟨rfl,rfl,rfl,rfl,(hO.pk [])⟩ ?_ ?_))))
 ·rintro ⟨n,x⟩ _ F ⟨g,i,j,d,c⟩ _ hp;dsimp only [Zaz.s0] at hp;refine Zi (Zd (zY d j) (Ze (ZR (z5 hp rfl (fun s hp=>?_) (fun s hp=>?_)))))
  ·refine Zag (ZR (Zaj (Zi (ckk hp fun l hp=>Zd (zG (c.rd0 s_turns.rd) i d l) (Zd (Za7 (c.rd0 s_turns.rd) rfl (Zr l) rfl) (Zb (.n (gi turns x.toNat)) rfl (Ze (Zi ?_))))))));refine Zb (.n (gi turns x.toNat)) rfl (Zd (Zb5 rfl rfl) (Zb (.b (decide ((-2)≤(gi turns x.toNat)))) rfl (Zaa 3 (fun f k=>F=k∧f 17=.b ((decide ((-2)≤(gi turns x.toNat)))&&(decide ((gi turns x.toNat)≤1)))∧f 3=.n n∧f 5=.n (gi turns x.toNat)∧f 6=v_turns∧f 7=.n (turns.length:Int)∧f 8=.n x) ?_ ?_)))
   ·rcases bc (decide ((-2)≤(gi turns x.toNat))) with a|a
    ·refine Z7 rfl a (Zb (.n (gi turns x.toNat)) rfl (Z7 rfl a (Zd (ZhK rfl rfl) (Zd (ZfW rfl a rfl) (Zt ?_)))));exact ⟨rfl,rfl,g,rfl,i,j,d⟩
    ·refine Zu rfl a (Zu rfl a (Zd (ZfV (w:=(decide ((-2)≤(gi turns x.toNat)))&&(decide ((gi turns x.toNat)≤1))) rfl a rfl) (Zt ?_)));exact ⟨rfl,rfl,g,rfl,i,j,d⟩
   rintro _ _ ⟨rfl,C,m,D,o,p,q⟩;refine Ze (z5 hp C (fun t hp=>?_) (fun t hp=>?_))
   ·refine Zac (Zb _ m (Zb _ D (ckk hp fun v hp=>Zd (zA rfl rfl v) (Zb (.n (n+(gi turns x.toNat))) rfl (Zt (Zad (Z5 (Zac (ckk hp fun y hp=>Zd (zA q rfl y) (Zb (.n (x+1)) rfl (Zt ?_)))))))))));cases hp;exact ⟨rfl,rfl,o,p,rfl,(c.pk [])⟩
   ·refine Zcn (Zad (Z5 (Zac (ckk hp fun A hp=>Zd (zA q rfl A) (Zb (.n (x+1)) rfl (Zt ?_))))));cases hp;exact ⟨rfl,m,o,p,rfl,(c.pk [])⟩
  ·refine Zbh (zU ?_);cases hp;exact ⟨nofun,rfl,g,(c.pk [])⟩
 rintro n1 hp _ _ _ ⟨rfl,H,E⟩;refine Za8 (Z5 (Zi (Zb _ H (Zb (.n n1) rfl (Ze (zp (ZS (ze rfl ZA) ?_)))))));cases hp;exact ⟨rfl,(E.pk [])⟩

theorem ZaE.ok {h:Hp}{cells:List Zc}{v_cells:V}(s_cells:Sl Zl h v_cells cells) {r:Int×Bool}(hp:ZaE cells=some r) :
  ∃ u k',Is G 201 [v_cells] h u k'∧V.tu [.n r.1,.b r.2]=u∧Own (fun r=>r<h.n) h k' []:=by
 refine WC.is (zV ZcI ?_);unfold ZaE at hp;let B:Nat→Prop:=(fun r=>r<h.n);have hO:Own B h h []:=Own.start0 h;refine Zi (Zb (.n 0) rfl (Zb (.b false) rfl (Ze (Zi (Zb v_cells rfl ?_)))));obtain ⟨⟨x,x1⟩,⟨_,_,H,f,c,rfl,K⟩,hp⟩:=bdk hp fun _=>zL.ok (h:=h)  (hO.rd0 s_cells.rd);refine Za1 rfl rfl H ?_;have j:=hO.call K rfl;refine Zb (.tu [f,.n x1]) rfl (Zd (ZaK rfl rfl) (Zd (ZaK rfl rfl) (Zb f rfl (Zb (.n x1) rfl (Ze (Zi (Zb (.n (-1)) rfl (Ze (ZR (ZR ?_))))))))));refine Zac (Zb f rfl (Zd (ZdE (n:=(x).length) (j.sl 0 rfl) (j.allLen 1 rfl:(c).length=(x).length) rfl) (Zb (.n 0) rfl (Ze (Zaj (Zb4 hp (fun|(at_,x2),fr,k=>fr 0=v_cells∧fr 6=.n at_∧fr 14=f∧fr 15=.n (x.length:Int)∧fr 16=.n x2∧Own B h k [eSl eV f c,Zbb Zh c x]) (fun|.inl at_1,e,fr,k=>e=(.exit 0)∧fr 6=.n at_1∧Own B h k []|.inr _,e,fr,k=>e=.ret∧fr 2=.n 0∧fr 3=.b false∧Own B h k []) ⟨rfl,rfl,rfl,rfl,rfl,(j.pk [0,1])⟩ ?_ ?_))))))
 ·rintro ⟨at_,x2⟩ _ v ⟨m,q,o,p,d,a⟩ _ hp;dsimp only [ZaE.s0] at hp;refine Zi (Zd (zY d p) (Ze (ZR (z5 hp rfl (fun y hp=>?_) (fun y hp=>?_)))))
  ·refine Zag (ZR (Zaj (Zi (Zb _ d (ckk hp fun i hp=>Zd (zG (a.sl 0 rfl) o d (by rw [(a.allLen 1 rfl:(c).length=(x).length)];exact i)) (Zd (Za7 (a.sl 0 rfl) rfl (by rw [(a.allLen 1 rfl:(c).length=(x).length)];exact Zr i) rfl) (Zb (.n x2) rfl (Zb ((gi c x2.toNat)) rfl (Ze ?_)))))))));refine Zi (Zb _ m (Zb ((gi c x2.toNat)) rfl ?_));obtain ⟨x3,⟨_,N,I,_,rfl,L⟩,hp⟩:=bdk hp fun _=>ZaM.ok (h:=v)  (a.rd0 s_cells.rd) (a.inn 1 rfl (Zr i):Sl Zh v (gi c x2.toNat) (gi x x2.toNat));refine Za1 rfl rfl I ?_;have t:=a.call L rfl;obtain ⟨x4,⟨_,_,J,rfl,M⟩,hp⟩:=bdk hp fun _=>Zaz.ok (h:=N)  (t.sl 2 rfl);refine Za1 rfl rfl J ?_;have g:=t.call M rfl;refine Ze (Zaj (Zi (Zd (ZbN rfl rfl) (Zb (.b (decide (x4=4))) rfl (Ze (z5 hp rfl (fun A hp=>?_) (fun A hp=>?_)))))))
   ·refine Zcn (Zad (Zad (Z5 (Zac (ckk hp fun E hp=>Zd (zA d rfl E) (Zb (.n (x2+1)) rfl (Zt ?_)))))));cases hp;exact ⟨rfl,m,q,o,p,rfl,(g.pk [0,1])⟩
   ·refine Zi (Zd (ZbN rfl rfl) (Zb (.b (decide (x4=(-4)))) rfl (Ze (z5 hp rfl (fun C hp=>?_) (fun C hp=>?_)))))
    ·refine ZR (Zi (Zb _ q (Zd (Zb5 rfl rfl) (Ze (z5 hp rfl (fun D hp=>?_) (fun D hp=>?_))))))
     ·refine Zi (Zb (.n 0) rfl (Zb (.b false) rfl (Ze (zp (zc (ZaA (ZaA (zc ?_))))))));cases hp;exact ⟨nofun,rfl,rfl,rfl,(g.pk [])⟩
     ·refine Zag (Zac (Zb (.n x2) rfl (Zb (.n x2) rfl (Zt (Zad (Zad (Z5 (Zac (ckk hp fun F hp=>Zd (zA d rfl F) (Zb (.n (x2+1)) rfl (Zt ?_)))))))))));cases hp;exact ⟨rfl,m,rfl,o,p,rfl,(g.pk [0,1])⟩
    ·refine Zi (Zb (.n 0) rfl (Zb (.b false) rfl (Ze (zp (ZaA (ZaA (zc ?_)))))));cases hp;exact ⟨nofun,rfl,rfl,rfl,(g.pk [])⟩
  ·refine Zbh (zU ?_);cases hp;exact ⟨nofun,rfl,q,(a.pk [])⟩
 rintro (at_1|_) hp _ _ _ s
 ·obtain ⟨rfl,w,l⟩:=s;refine Za8 (Z5 (Zi (Zb _ w (Zb _ w (Zd (Zb5 rfl rfl) (Zb (.n at_1) rfl (Zb (.b (decide (0≤at_1))) rfl (Ze (zp (ZS (ze rfl (ze rfl ZA)) ?_))))))))));cases hp;exact ⟨rfl,(l.pk [])⟩
 ·obtain ⟨rfl,O,P,l⟩:=s;refine ZaA (zc (ZS (ze O (ze P ZA)) ?_));cases hp;exact ⟨rfl,(l.pk [])⟩

theorem Zbs.ok {h:Hp}{cells:List Zc}{v_cells:V}(s_cells:Sl Zl h v_cells cells) {r:Int}(hp:Zbs cells=some r) :
  ∃ u k',Is G 176 [v_cells] h u k'∧V.n r=u∧Own (fun r=>r<h.n) h k' []:=by
 refine WC.is (zV ZcH ?_);unfold Zbs at hp;let B:Nat→Prop:=(fun r=>r<h.n);have hO:Own B h h []:=Own.start0 h;refine Zi (Zb (.n 0) rfl (Ze (ZR (Zi (Zb v_cells rfl ?_)))));obtain ⟨x,⟨_,v,l,rfl,q⟩,hp⟩:=bdk hp fun _=>zj.ok (h:=h)  (hO.rd0 s_cells.rd);refine Za1 rfl rfl l ?_;have c:=hO.call q rfl;refine Zb (.n x) rfl (Ze (Zi (Zb (.n x) rfl (Zd (ZbP rfl rfl) (Ze (z5 hp rfl (fun g hp=>?_) (fun g hp=>?_)))))))
 ·refine Zi (Zb (.n x) rfl (Zb (.n x) rfl (Ze (zp (zc (ZS (ze rfl ZA) ?_))))));cases hp;exact ⟨rfl,(c.pk [])⟩
 ·refine Zag (ZR (Zi (Zb v_cells rfl ?_)));obtain ⟨x1,⟨_,y,m,rfl,s⟩,hp⟩:=bdk hp fun _=>ZbA.ok (h:=v)  (c.rd0 s_cells.rd);refine Za1 rfl rfl m ?_;have d:=c.call s rfl;refine Zd (Zcr rfl) (Ze (z5 hp rfl (fun i hp=>?_) (fun i hp=>?_)))
  ·refine Zi (Zb (.n 13) rfl (Ze (zp (zc (ZS (ze rfl ZA) ?_)))));cases hp;exact ⟨rfl,(d.pk [])⟩
  ·refine Zag (ZR (Zi (Zb v_cells rfl ?_)));obtain ⟨⟨x2,x3⟩,⟨_,A,o,rfl,t⟩,hp⟩:=bdk hp fun _=>ZaE.ok (h:=y)  (d.rd0 s_cells.rd);refine Za1 rfl rfl o ?_;have e:=d.call t rfl;refine Zb (.tu [.n x2,.b x3]) rfl (Zd (ZaK rfl rfl) (Zd (ZaK rfl rfl) (Zb (.n x2) rfl (Zb (.b x3) rfl (Ze (Zi (Zb (.b x3) rfl (Zd (Zcr rfl) (Zb (.b (!x3)) rfl (Zaa 4 (fun f k=>A=k∧f 25=.b ((!x3)&&(decide (1<(cells.length:Int))))) ?_ ?_))))))))))
   ·rcases bc (!x3) with a|a
    ·refine Z7 rfl a (Zb v_cells rfl (Z7 rfl a (Zd (Zay (e.rd0 s_cells.rd) rfl) (Z7 rfl a (Zd (ZcK rfl rfl) (Zd (ZfW rfl a rfl) (Zt ?_)))))));exact ⟨rfl,rfl⟩
    ·refine Zu rfl a (Zu rfl a (Zu rfl a (Zd (ZfV (w:=(!x3)&&(decide (1<(cells.length:Int)))) rfl a rfl) (Zt ?_))));exact ⟨rfl,rfl⟩
   rintro _ _ ⟨rfl,p⟩;refine Ze (z5 hp p (fun j hp=>?_) (fun j hp=>?_))
   ·refine Zi (Zb (.n 10) rfl (Ze (zp (zc (ZS (ze rfl ZA) ?_)))));cases hp;exact ⟨rfl,(e.pk [])⟩
   ·refine Zag (Zi (Zb (.n 0) rfl (Ze (zp (ZS (ze rfl ZA) ?_)))));cases hp;exact ⟨rfl,(e.pk [])⟩

theorem zb.ok {h:Hp}{s:List Za}{f:Za→Option Bool}{v_s:V}{id_f:Nat}{cap_f:List V}(s_s:Sl Zg h v_s s) (f_f:∀ (k:Hp) (x0:Za) (y:Bool),Ex' (fun r=>r<h.n) h k→f x0=some y→∃ u k',Is G id_f (.ag (Zg.c x0)::cap_f) k u k'∧V.b y=u∧Own (fun r=>r<k.n) k k' []) {r:Int}(hp:zb s f=some r) :
  ∃ u k',Is G 151 [v_s,.f id_f cap_f] h u k'∧V.n r=u∧Own (fun r=>r<h.n) h k' []:=by
 refine WC.is (zV ZaQ ?_);unfold zb at hp;let B:Nat→Prop:=(fun r=>r<h.n);have hO:Own B h h []:=Own.start0 h;refine Zi (Zb (.n 0) rfl (Ze (ZR (Zi (Zb v_s rfl (Zd (Zay (hO.rd0 s_s.rd) rfl) (Zb (.n 0) rfl (Ze (Zaj (Zb4 hp (fun x fr k=>fr 0=v_s∧fr 1=.f id_f cap_f∧fr 7=.n (s.length:Int)∧fr 8=.n x∧Own B h k []) (fun|.inl _,e,fr,k=>e=(.exit 0)∧Own B h k []|.inr x1,e,fr,k=>e=.ret∧fr 4=.n x1∧Own B h k []) ⟨rfl,rfl,rfl,rfl,(hO.pk [])⟩ ?_ ?_))))))))))
 ·rintro x _ _ ⟨m,o,p,g,a⟩ _ hp;dsimp only [zb.s0] at hp;refine Zi (Zd (zY g p) (Ze (ZR (z5 hp rfl (fun q hp=>?_) (fun q hp=>?_)))))
  ·refine Zag (ZR (Zaj (Zi (Zb _ g (Zb (.n x) rfl (Ze (Zi (Zb _ o (Zb _ m ?_)))))))));refine Zb (.n x) rfl (ckk hp fun i hp=>Zd (zG (a.rd0 s_s.rd) rfl rfl i) (Zd (Zdn (a.rd0 s_s.rd) rfl (Zr i)) ?_));obtain ⟨x2,C,hp⟩:=Zbj hp;obtain ⟨_,_,w,rfl,A⟩:=f_f _ _ _ a.ext C;refine Za1 rfl rfl w ?_;have l:=a.call A rfl;refine Ze (z5 hp rfl (fun t hp=>?_) (fun t hp=>?_))
   ·refine Zi (Zb (.n x) rfl (Zb (.n x) rfl (Ze (zp (ZaA (zc ?_))))));cases hp;exact ⟨nofun,rfl,rfl,(l.pk [])⟩
   ·refine Zcn (Zad (Z5 (Zac (ckk hp fun v hp=>Zd (zA g rfl v) (Zb (.n (x+1)) rfl (Zt ?_))))));cases hp;exact ⟨rfl,m,o,p,rfl,(l.pk [])⟩
  ·refine Zbh (zU ?_);cases hp;exact ⟨nofun,rfl,(a.pk [])⟩
 rintro (_|x1) hp _ _ _ j
 ·obtain ⟨rfl,d⟩:=j;refine Za8 (Z5 (Zi (Zb (.n (-1)) rfl (Ze (zp (ZS (ze rfl ZA) ?_))))));cases hp;exact ⟨rfl,(d.pk [])⟩
 ·obtain ⟨rfl,D,d⟩:=j;refine ZaA (zc (ZS (ze D ZA) ?_));cases hp;exact ⟨rfl,(d.pk [])⟩

theorem z4.ok {h:Hp}{s:List Za}{f:Za→Option Bool}{v_s:V}{id_f:Nat}{cap_f:List V}(s_s:Sl Zg h v_s s) (f_f:∀ (k:Hp) (x0:Za) (y:Bool),Ex' (fun r=>r<h.n) h k→f x0=some y→∃ u k',Is G id_f (.ag (Zg.c x0)::cap_f) k u k'∧V.b y=u∧Own (fun r=>r<k.n) k k' []) {r:Bool}(hp:z4 s f=some r) :
  ∃ u k',Is G 146 [v_s,.f id_f cap_f] h u k'∧V.b r=u∧Own (fun r=>r<h.n) h k' []:=by
 refine WC.is (zV ZaJ ?_);unfold z4 at hp;let B:Nat→Prop:=(fun r=>r<h.n);have hO:Own B h h []:=Own.start0 h;refine Zi (Zb (.b false) rfl (Ze (Zi (Zb v_s rfl (Zb (.f id_f cap_f) rfl ?_)))));obtain ⟨x,⟨_,_,a,rfl,e⟩,hp⟩:=bdk hp fun _=>zb.ok (h:=h)  (hO.rd0 s_s.rd) (fun k z0 y hk hx=>f_f k z0 y (ZiS hO hk) hx);refine Za1 rfl rfl a ?_;have d:=hO.call e rfl;refine Zd (Zb5 rfl rfl) (Zb (.b (decide (0≤x))) rfl (Ze (zp (ZS (ze rfl ZA) ?_))));cases hp;exact ⟨rfl,(d.pk [])⟩

theorem Zcg.ok {h:Hp}{p:Za}   {r:Bool}(hp:Zcg p=some r) :
  ∃ u k',Is G 147 [.ag (Zg.c p)] h u k'∧V.b r=u∧Own (fun r=>r<h.n) h k' []:=by
 refine WC.is (zV Zdy ?_);unfold Zcg at hp;let B:Nat→Prop:=(fun r=>r<h.n);have hO:Own B h h []:=Own.start0 h;refine Zi (zh (hO.boxd (cs:=Zg.c p) hO.fr rfl rfl) ?_);rintro _ i ⟨e,rfl,_,_,d⟩;refine Zb (.b false) rfl (Ze (Zi (Zd (z1 (r:=e) (o:=0) rfl rfl) (Zd (zf (d.box 0 rfl) rfl rfl) (Zd (z1 (r:=e) (o:=0) rfl rfl) (Zd (zf (d.box 0 rfl) rfl rfl) (Zd (Zg7 rfl rfl) (Zd (ZcK rfl rfl) (Zb (.b (decide (1000000<(max p.X p.Y)))) rfl (Zaa 7 (fun f k=>i=k∧f 16=.b ((decide (1000000<(max p.X p.Y)))||(decide ((min p.X p.Y)<(-1000000))))) ?_ ?_))))))))))
 ·rcases bc (decide (1000000<(max p.X p.Y))) with a|a
  ·refine Zu rfl a (Zu rfl a (Zu rfl a (Zu rfl a (Zu rfl a (Zu rfl a (Zd (Zbo (w:=(decide (1000000<(max p.X p.Y)))||(decide ((min p.X p.Y)<(-1000000)))) rfl a rfl) (Zt ?_)))))));exact ⟨rfl,rfl⟩
  ·refine Z7 rfl a (Zd (z1 (r:=e) (o:=0) rfl rfl) (Z7 rfl a (Zd (zf (d.box 0 rfl) rfl rfl) (Z7 rfl a (Zd (z1 (r:=e) (o:=0) rfl rfl) (Z7 rfl a (Zd (zf (d.box 0 rfl) rfl rfl) (Z7 rfl a (Zd (Zg6 rfl rfl) (Z7 rfl a (Zd (zY rfl rfl) (Zd (Zbp rfl a rfl) (Zt ?_)))))))))))));exact ⟨rfl,rfl⟩
 rintro _ _ ⟨rfl,g⟩;refine Zb _ g (Ze (zp (ZS (ze rfl ZA) ?_)));cases hp;exact ⟨rfl,(d.pk [])⟩

theorem ZaL.ok {h:Hp}{a:Za}{b:Za}   {r:Int×Bool}(hp:ZaL a b=some r) :
  ∃ u k',Is G 148 [.ag (Zg.c a),.ag (Zg.c b)] h u k'∧V.tu [.n r.1,.b r.2]=u∧Own (fun r=>r<h.n) h k' []:=by
 refine WC.is (zV ZbV ?_);unfold ZaL at hp;let B:Nat→Prop:=(fun r=>r<h.n);have hO:Own B h h []:=Own.start0 h;refine Zi (zh (hO.boxd (cs:=Zg.c a) hO.fr rfl rfl) ?_);rintro _ _ ⟨e,rfl,_,_,g⟩;refine zh (g.boxd (cs:=Zg.c b) g.fr rfl rfl) ?_;rintro _ _ ⟨f,rfl,_,_,d⟩;refine Zb (.n 0) rfl (Zb (.b false) rfl (Ze (ZR (Zaj (Zi (Zd (z1 (r:=e) (o:=0) rfl rfl) (Zd (zf (d.box 0 rfl) rfl rfl) (Zd (z1 (r:=f) (o:=0) rfl rfl) (Zd (zf (d.box 1 rfl) rfl rfl) (Zd (ZbN rfl rfl) (Zd (z1 (r:=e) (o:=0) rfl rfl) ?_)))))))))));refine Zd (zf (d.box 0 rfl) rfl rfl) (Zd (z1 (r:=f) (o:=0) rfl rfl) (Zd (zf (d.box 1 rfl) rfl rfl) (Zd (ZbN rfl rfl) (Zd (ZfX rfl rfl) (Zb (.b (decide ((decide (a.X=b.X))=(decide (a.Y=b.Y))))) rfl (Ze (z5 hp rfl (fun i hp=>?_) (fun i hp=>?_))))))))
 ·refine Zi (Zb (.n 0) rfl (Zb (.b false) rfl (Ze (zp (ZaA (zc (ZS (ze rfl (ze rfl ZA)) ?_)))))));cases hp;exact ⟨rfl,(d.pk [])⟩
 ·refine Zi (Zd (z1 (r:=e) (o:=0) rfl rfl) (Zd (zf (d.box 0 rfl) rfl rfl) (Zd (z1 (r:=f) (o:=0) rfl rfl) (Zd (zf (d.box 1 rfl) rfl rfl) (Zd (zY rfl rfl) (Zb (.b (decide (a.X<b.X))) rfl (Ze (z5 hp rfl (fun j hp=>?_) (fun j hp=>?_)))))))))
  ·refine Zi (Zb (.n 0) rfl (Zb (.b true) rfl (Ze (zp (ZaA (zc (ZS (ze rfl (ze rfl ZA)) ?_)))))));cases hp;exact ⟨rfl,(d.pk [])⟩
  ·refine Zi (Zd (z1 (r:=e) (o:=0) rfl rfl) (Zd (zf (d.box 0 rfl) rfl rfl) (Zd (z1 (r:=f) (o:=0) rfl rfl) (Zd (zf (d.box 1 rfl) rfl rfl) (Zd (ZcK rfl rfl) (Zb (.b (decide (b.X<a.X))) rfl (Ze (z5 hp rfl (fun k hp=>?_) (fun k hp=>?_)))))))))
   ·refine Zi (Zb (.n 2) rfl (Zb (.b true) rfl (Ze (zp (ZaA (zc (ZS (ze rfl (ze rfl ZA)) ?_)))))));cases hp;exact ⟨rfl,(d.pk [])⟩
   ·refine Zi (Zd (z1 (r:=e) (o:=0) rfl rfl) (Zd (zf (d.box 0 rfl) rfl rfl) (Zd (z1 (r:=f) (o:=0) rfl rfl) (Zd (zf (d.box 1 rfl) rfl rfl) (Zd (zY rfl rfl) (Zb (.b (decide (a.Y<b.Y))) rfl (Ze (z5 hp rfl (fun l hp=>?_) (fun l hp=>?_)))))))))
    ·refine Zi (Zb (.n 1) rfl (Zb (.b true) rfl (Ze (zp (ZaA (zc (ZS (ze rfl (ze rfl ZA)) ?_)))))));cases hp;exact ⟨rfl,(d.pk [])⟩
    ·refine Zcn (Zad (Z5 (Zi (Zb (.n 3) rfl (Zb (.b true) rfl (Ze (zp (ZS (ze rfl (ze rfl ZA)) ?_))))))));cases hp;exact ⟨rfl,(d.pk [])⟩

theorem Zbr.ok {h:Hp}{owner:Int}   {r:Int}(hp:Zbr owner=some r) :
  ∃ u k',Is G 149 [.n owner] h u k'∧V.n r=u∧Own (fun r=>r<h.n) h k' []:=by
 refine WC.is (zV ZcE ?_);unfold Zbr at hp;let B:Nat→Prop:=(fun r=>r<h.n);have hO:Own B h h []:=Own.start0 h;refine Zi (Zb (.n 0) rfl (Ze (ZR (Zi (Zb (.n owner) rfl (Zd (Zb5 rfl rfl) (Ze (z5 hp rfl (fun a hp=>?_) (fun a hp=>?_)))))))))
 ·refine Zi (Zb (.n 1) rfl (Ze (zp (zc (ZS (ze rfl ZA) ?_)))));cases hp;exact ⟨rfl,(hO.pk [])⟩
 ·refine Zag (Zi (Zb (.n 0) rfl (Ze (zp (ZS (ze rfl ZA) ?_)))));cases hp;exact ⟨rfl,(hO.pk [])⟩

theorem Zae.ok {h:Hp}{cells:List Zc}{at_:List Za}{v_cells:V}{v_at_:V}(s_cells:Sl Zl h v_cells cells) (s_at_:Sl Zg h v_at_ at_) {r:Int×Int}(hp:Zae cells at_=some r) :
  ∃ u k',Is G 133 [v_cells,v_at_] h u k'∧V.tu [.n r.1,.n r.2]=u∧Own (fun r=>r<h.n) h k' []:=by
 refine WC.is (zV ZcD ?_);unfold Zae at hp;let B:Nat→Prop:=(fun r=>r<h.n);have hO:Own B h h []:=Own.start0 h;refine Zi (Zb (.n 0) rfl (Zb (.n 0) rfl (Ze (ZR (Zi (Zb v_cells rfl ?_))))));obtain ⟨x,⟨_,a4,aI,rfl,a0⟩,hp⟩:=bdk hp fun _=>zj.ok (h:=h)  (hO.rd0 s_cells.rd);refine Za1 rfl rfl aI ?_;have s:=hO.call a0 rfl;refine Zb (.n x) rfl (Ze (Zi (Zb (.n x) rfl (Zd (ZbP rfl rfl) (Ze (z5 hp rfl (fun au hp=>?_) (fun au hp=>?_)))))))
 ·refine Zi (Zb (.n x) rfl (Zb (.n 0) rfl (Zb (.n x) rfl (Ze (zp (zc (ZS (ze rfl (ze rfl ZA)) ?_)))))));cases hp;exact ⟨rfl,(s.pk [])⟩
 ·refine Zag (ZR (Zi (Zb v_at_ rfl (Zd (Zay (s.rd0 s_at_.rd) rfl) (Zb v_cells rfl (Zd (Zay (s.rd0 s_cells.rd) rfl) (Zd (ZbP rfl rfl) (Zb (.b (!(decide ((at_.length:Int)=(cells.length:Int))))) rfl ?_))))))));obtain ⟨t,a3,hp⟩:=Zbj hp;refine Zaa 3 (fun f k=>Own B h k []∧f 28=.b t∧f 0=v_cells∧f 1=v_at_) ?_ ?_
  ·clear hp;rcases Zca a3 with ⟨m,hp⟩|⟨m,hp⟩
   ·refine Zu rfl m (Zu rfl m (Zd (ZaH (v:=.b t) rfl m (Eq.trans (b:=V.b true) rfl (congrArg V.b (Option.some.inj hp)))) (Zt ?_)));exact ⟨s.pk [],rfl,rfl,rfl⟩
   ·refine Z7 rfl m (Zb v_at_ rfl (Z7 rfl m ?_));obtain ⟨x1,⟨_,_,aJ,rfl,a1⟩,hp⟩:=bdk hp fun _=>z4.ok (h:=a4)  (s.rd0 s_at_.rd) (fun k z0 y hk hx=>Zcg.ok (h:=k)  hx);refine Za1 rfl rfl aJ ?_;have aY:=s.call a1 rfl;refine Zd (zW (v:=.b t) rfl m (Eq.trans (b:=V.b x1) rfl (congrArg V.b (Option.some.inj hp)))) (Zt ?_);exact ⟨aY.pk [],rfl,rfl,rfl⟩
  rintro _ _ ⟨ab,aO,aM,aN⟩;refine Ze (z5 hp aO (fun av hp=>?_) (fun av hp=>?_))
  ·refine Zi (Zb (.n 0) rfl (Zb (.n 2) rfl (Ze (zp (zc (ZS (ze rfl (ze rfl ZA)) ?_))))));cases hp;exact ⟨rfl,(ab.pk [])⟩
  ·refine Zag (Zi (Zb (.n 0) rfl (Ze (ZR (Zi (Zb _ aM (Zd (Zay (ab.rd0 s_cells.rd) rfl) (Zb (.n 0) rfl (Zt ?_)))))))));refine Z5 (Zaj (Zb4 hp (fun|(sum,x2),fr,k=>fr 1=v_at_∧fr 7=.n sum∧fr 29=v_cells∧fr 30=.n (cells.length:Int)∧fr 31=.n x2∧Own B h k []) (fun|.inl sum1,e,fr,k=>e=(.exit 0)∧fr 7=.n sum1∧Own B h k []|.inr _,e,fr,k=>e=.ret∧fr 4=.n 0∧fr 5=.n 15∧Own B h k []) ⟨aN,rfl,rfl,rfl,rfl,(ab.pk [])⟩ ?_ ?_))
   ·rintro ⟨sum,x2⟩ _ _ ⟨a9,ar,ap,aq,N,H⟩ _ hp;dsimp only [Zae.s0] at hp;refine Zi (Zd (zY N aq) (Ze (ZR (z5 hp rfl (fun aw hp=>?_) (fun aw hp=>?_)))))
    ·refine Zag (ZR (Zaj (Zi (Zb _ N (ckk hp fun ag hp=>Zd (zG (H.rd0 s_cells.rd) ap N ag) (Zd (Zdn (H.rd0 s_cells.rd) rfl (Zr ag)) (zh (H.alloc (cs:=Zl.c (⟨⟨0,0,0,0⟩,⟨0,0,0,0⟩⟩:Zc)) H.fr) ?_)))))));rintro _ _ ⟨K,rfl,_,_,aZ⟩;refine Zb (.n x2) rfl (zh (aZ.stb (cs':=Zl.c (gi cells x2.toNat)) 0 rfl rfl rfl rfl ⟨rfl,Nat.le_of_ble_eq_true rfl,rfl⟩ rfl) ?_);rintro _ _ ⟨rfl,_,_,an⟩;refine Ze (Zi (zh (an.bsl (E:=ZT) (l:=([0,1]:List Int)) an.fr (by rw [(ZL (v:=.n 0) rfl (ZL (v:=.n 1) rfl z2))];rfl) rfl) ?_));rintro af _ ⟨_,_,ao⟩;refine Zd (Zay (ao.sl 1 rfl) rfl) (Zb (.n 0) rfl (Ze (Zaj (Zb4 hp (fun|(sum2,x3),fr,k=>fr 1=v_at_∧fr 7=.n sum2∧fr 8=.n x2∧fr 9=.p K 0∧fr 29=v_cells∧fr 30=.n (cells.length:Int)∧fr 31=.n x2∧fr 36=af∧fr 37=.n (([0,1]:List Int).length:Int)∧fr 38=.n x3∧Own B h k [ZE K (Zl.c (gi cells x2.toNat)),eSl ZT af ([0,1]:List Int)]) (fun|.inl sum3,e,fr,k=>e=(.exit 2)∧fr 1=v_at_∧fr 7=.n sum3∧fr 29=v_cells∧fr 30=.n (cells.length:Int)∧fr 31=.n x2∧Own B h k []|.inr _,e,fr,k=>e=.ret∧fr 4=.n 0∧fr 5=.n 15∧Own B h k []) ⟨a9,ar,rfl,rfl,ap,aq,N,rfl,rfl,rfl,(ao.pk [0,1])⟩ ?_ ?_))))
     ·rintro ⟨sum2,x3⟩ _ a5 ⟨C,T,U,W,O,P,Q,R,S,J,A⟩ _ hp;dsimp only [Zae.s1] at hp;refine Zi (Zd (zY J S) (Ze (ZR (z5 hp rfl (fun ax hp=>?_) (fun ax hp=>?_)))))
      ·refine Zag (ZR (Zaj (Zi (ckk hp fun ah hp=>Zd (zG (A.sl 1 rfl) R J ah) (Zd (Za7 (A.sl 1 rfl) rfl (Zr ah) rfl) (Zb (.n (gi ([0,1]:List Int) x3.toNat)) rfl (Ze (Zi ?_))))))));refine Zb (.n (gi ([0,1]:List Int) x3.toNat)) rfl (Zd (z1 (r:=K) (o:=0) W rfl) (ckk hp fun L hp=>Zd (ZaY (o:=0) (o':=(0+(gi ([0,1]:List Int) x3.toNat:Int).toNat*1)) rfl rfl L rfl) (Zd (zf (A.box 0 rfl) rfl (zm L)) (Zb (.n (((gi cells x2.toNat).Next).get (gi ([0,1]:List Int) x3.toNat))) rfl (Ze (ZR (Zi (Zb (.n (((gi cells x2.toNat).Next).get (gi ([0,1]:List Int) x3.toNat))) rfl (Zd (zY rfl rfl) (Zt ?_))))))))));refine Z5 (z5 hp rfl (fun ay hp=>?_) (fun ay hp=>?_))
       ·refine Zbh (zU (Za8 (Z5 (Zac (ckk hp fun aE hp=>Zd (zA J rfl aE) (Zb (.n (x3+1)) rfl (Zt ?_)))))));cases hp;exact ⟨rfl,C,T,U,W,O,P,Q,R,S,rfl,(A.pk [0,1])⟩
       ·refine Zag (ZR (ZR (ZdD ?_)));have F:=A.bump 14;refine zN _ C (zN _ U (ckk hp fun g hp=>ZM (zG (F.rd0 s_at_.rd) rfl rfl g) (ZM (Zdn (F.rd0 s_at_.rd) rfl (Zr g)) (zN _ C (zN (.n (((gi cells x2.toNat).Next).get (gi ([0,1]:List Int) x3.toNat))) rfl (ckk hp fun i hp=>ZM (zG (F.rd0 s_at_.rd) rfl rfl i) (ZM (Zdn (F.rd0 s_at_.rd) rfl (Zr i)) ?_)))))));obtain ⟨⟨x4,x5⟩,⟨_,ae,aK,rfl,a2⟩,hp⟩:=bdk hp fun _=>ZaL.ok (h:=(a5.bump 14))  ;refine ZcW rfl rfl aK ?_;have a:=F.call a2 rfl;refine zN (.tu [.n x4,.b x5]) rfl (ZM (ZaK rfl rfl) (ZM (ZaK rfl rfl) (zN (.n x4) rfl (zN (.b x5) rfl (ZaO ?_)))));refine And.intro ?_ ?_
        ·intro q hq;simp only [List.mem_cons,List.not_mem_nil,or_false] at hq;rcases hq with rfl
         ·refine zC ?_ ?_
          ·exact nofun
          ·exact nofun
        refine Z5 (Zi (Zb (.b x5) rfl (Zd (Zcr rfl) (Zb (.b (!x5)) rfl (Zaa 4 (fun f k=>ae=k∧f 66=.b ((!x5)||(!(decide (x4=gi ([0,1]:List Int) x3.toNat))))∧f 1=v_at_∧f 11=.n (gi ([0,1]:List Int) x3.toNat)∧f 12=.n (((gi cells x2.toNat).Next).get (gi ([0,1]:List Int) x3.toNat))∧f 29=v_cells∧f 30=.n (cells.length:Int)∧f 31=.n x2∧f 36=af∧f 37=.n (([0,1]:List Int).length:Int)∧f 38=.n x3∧f 7=.n sum2∧f 8=.n x2∧f 9=.p K 0) ?_ ?_)))))
        ·rcases bc (!x5) with j|j
         ·refine Zu rfl j (Zu rfl j (Zu rfl j (Zd (Zbo (w:=(!x5)||(!(decide (x4=gi ([0,1]:List Int) x3.toNat)))) rfl j rfl) (Zt ?_))));exact ⟨rfl,rfl,C,rfl,rfl,O,P,Q,R,S,J,T,U,W⟩
         ·refine Z7 rfl j (Zb (.n x4) rfl (Z7 rfl j (Zb (.n (gi ([0,1]:List Int) x3.toNat)) rfl (Z7 rfl j (Zd (ZbP rfl rfl) (Zd (Zbp rfl j rfl) (Zt ?_)))))));exact ⟨rfl,rfl,C,rfl,rfl,O,P,Q,R,S,J,T,U,W⟩
        rintro _ _ ⟨rfl,aW,D,aP,ai,aQ,aR,aS,aT,aU,aV,aX,aa,aj⟩;refine Ze (z5 hp aW (fun az hp=>?_) (fun az hp=>?_))
        ·refine Zi (Zb (.n 0) rfl (Zb (.n 15) rfl (Ze (zp (zc (ZaA (zc ?_)))))));cases hp;exact ⟨nofun,rfl,rfl,rfl,(a.pk [])⟩
        ·refine Zag (ZdD ?_);have am:=a.bump 32;have M:=Fresh.start ae 32;refine zN _ aX (zN _ aP (ZM (z1 (r:=K) (o:=0) aj rfl) (ZM (ZaY (o:=4) (o':=(4+(gi ([0,1]:List Int) x3.toNat:Int).toNat*1)) rfl rfl L rfl) (ZM (zf (am.box 0 rfl) rfl (Zbm L)) ?_))));obtain ⟨x6,⟨_,_,aL,rfl,I⟩,hp⟩:=bdk hp fun _=>Zbr.ok (h:=(ae.bump 32))  ;refine ZcW rfl rfl aL ?_;have d:=am.call I rfl;refine zN _ D (zN _ ai (ZM (zG (d.rd0 s_at_.rd) rfl rfl i) (ZM (ZbO (d.rd0 s_at_.rd) (Zr i) rfl rfl) (ZM (Za7 (d.rd0 s_at_.rd) rfl (Zr i) rfl) (zN _ D (zN _ aa (ZM (zG (d.rd0 s_at_.rd) rfl rfl g) (ZM (ZbO (d.rd0 s_at_.rd) (Zr g) rfl rfl) (ZM (Za7 (d.rd0 s_at_.rd) rfl (Zr g) rfl) (ckk hp fun aF hp=>ZM (ZfY rfl rfl aF) (zN _ D (zN _ ai ?_))))))))))));refine ZM (zG (d.rd0 s_at_.rd) rfl rfl i) (ZM (ZbO (d.rd0 s_at_.rd) (Zr i) rfl rfl) (ZM (Za7 (d.rd0 s_at_.rd) rfl (Zr i) rfl) (ckk hp fun aG hp=>ZM (zA rfl rfl aG) (zN _ D (zN _ aa (ZM (zG (d.rd0 s_at_.rd) rfl rfl g) (ZM (ZbO (d.rd0 s_at_.rd) (Zr g) rfl rfl) (ZM (Za7 (d.rd0 s_at_.rd) rfl (Zr g) rfl) (ckk hp fun aH hp=>ZM (ZfY rfl rfl aH) (ckk hp fun aA hp=>ZM (ZiQ rfl rfl aA) ?_))))))))));refine ckk hp fun aB hp=>ZM (zA rfl rfl aB) (zN (.n (sum2+(x6*(((((gi at_ (((gi cells x2.toNat).Next).get (gi ([0,1]:List Int) x3.toNat):Int).toNat).X)-((gi at_ x2.toNat).X))+((gi at_ (((gi cells x2.toNat).Next).get (gi ([0,1]:List Int) x3.toNat):Int).toNat).Y))-((gi at_ x2.toNat).Y))))) rfl (ZaO ?_));refine And.intro ?_ ?_
         ·intro q hq;simp only [List.mem_cons,List.not_mem_nil,or_false] at hq;rcases hq with rfl|rfl|rfl|rfl|rfl|rfl|rfl|rfl|rfl|rfl|rfl|rfl|rfl|rfl
          ·refine zC ?_ ?_
           ·exact nofun
           ·exact nofun
          ·refine ZcZ rfl ?_
           ·exact (fun r hm hc=>hc (I.base r (Nat.lt_of_lt_of_le (Nat.lt_of_lt_of_le (a.lo _ (Rd.B s_at_.rd a.lo (Zr i) _ (Zd7 (tch (Zcs hm) rfl)))) a.n) (Nat.le_trans (Nat.le_add_right _ _) M.n))))
          ·refine zC ?_ ?_
           ·exact nofun
           ·exact nofun
          ·refine ZcZ rfl ?_
           ·exact (fun r hm hc=>hc (I.base r (Nat.lt_of_lt_of_le (Nat.lt_of_lt_of_le (a.lo _ (Rd.B s_at_.rd a.lo (Zr g) _ (Zd7 (tch (Zcs hm) rfl)))) a.n) (Nat.le_trans (Nat.le_add_right _ _) M.n))))
          ·refine zC ?_ ?_
           ·exact nofun
           ·exact nofun
          ·refine zC ?_ ?_
           ·exact nofun
           ·exact nofun
          ·refine ZcZ rfl ?_
           ·exact (fun r hm hc=>hc (I.base r (Nat.lt_of_lt_of_le (Nat.lt_of_lt_of_le (a.lo _ (Rd.B s_at_.rd a.lo (Zr i) _ (Zd7 (tch (Zcs hm) rfl)))) a.n) (Nat.le_trans (Nat.le_add_right _ _) M.n))))
          ·refine zC ?_ ?_
           ·exact nofun
           ·exact nofun
          ·refine zC ?_ ?_
           ·exact nofun
           ·exact nofun
          ·refine zC ?_ ?_
           ·exact nofun
           ·exact nofun
          ·refine ZcZ rfl ?_
           ·exact (fun r hm hc=>hc (I.base r (Nat.lt_of_lt_of_le (Nat.lt_of_lt_of_le (a.lo _ (Rd.B s_at_.rd a.lo (Zr g) _ (Zd7 (tch (Zcs hm) rfl)))) a.n) (Nat.le_trans (Nat.le_add_right _ _) M.n))))
          ·refine zC ?_ ?_
           ·exact nofun
           ·exact nofun
          ·refine zC ?_ ?_
           ·exact nofun
           ·exact nofun
          ·refine zC ?_ ?_
           ·exact nofun
           ·exact nofun
         refine Zad (Z5 (Zac (ckk hp fun aC hp=>Zd (zA aV rfl aC) (Zb (.n (x3+1)) rfl (Zt ?_)))));cases hp;exact ⟨rfl,D,rfl,aa,aj,aQ,aR,aS,aT,aU,rfl,(d.pk [0,1])⟩
      ·refine Zbh (zU ?_);cases hp;exact ⟨nofun,rfl,C,T,O,P,Q,(A.pk [])⟩
     rintro (sum3|_) hp _ _ _ al
     ·obtain ⟨rfl,ba,bh,bb,bd,be,ad⟩:=al;refine Za8 (Zad (Z5 (Zac (ckk hp fun aD hp=>Zd (zA be rfl aD) (Zb (.n (x2+1)) rfl (Zt ?_))))));cases hp;exact ⟨rfl,ba,bh,bb,bd,rfl,(ad.pk [])⟩
     ·obtain ⟨rfl,bf,bg,ad⟩:=al;refine ZaA (ZaA (zc ?_));cases hp;exact ⟨nofun,rfl,bf,bg,(ad.pk [])⟩
    ·refine Zbh (zU ?_);cases hp;exact ⟨nofun,rfl,ar,(H.pk [])⟩
   rintro (sum1|_) hp _ _ _ ak
   ·obtain ⟨rfl,a8,ac⟩:=ak;refine Za8 (Z5 (Zi (Zb _ a8 (Zb (.n sum1) rfl (Zb (.n 0) rfl (Ze (zp (ZS (ze rfl (ze rfl ZA)) ?_))))))));cases hp;exact ⟨rfl,(ac.pk [])⟩
   ·obtain ⟨rfl,a6,a7,ac⟩:=ak;refine ZaA (zc (ZS (ze a6 (ze a7 ZA)) ?_));cases hp;exact ⟨rfl,(ac.pk [])⟩

theorem z7.ok {h:Hp}{cells:List Zc}{d:Int}{v_cells:V}(s_cells:Sl Zl h v_cells cells) {r:(List Int)×(List (List Int))×Bool}(hp:z7 cells d=some r) :
  ∃ u k',Is G 137 [v_cells,.n d] h u k'∧∃ aw az aA,V.tu [aw,az,.b r.2.2]=u∧Own (fun r=>r<h.n) h k' [eSl ZT aw r.1,eSl eV az aA,Zbb ZT aA r.2.1]:=by
 refine WC.is (zV ZcV ?_);unfold z7 at hp;let B:Nat→Prop:=(fun r=>r<h.n);have hO:Own B h h []:=Own.start0 h;refine Zi (Zb (.sn) rfl (Zb (.sn) rfl (Zb (.b false) rfl (Ze (Zi (zh (hO.bsl (E:=ZT) (l:=([(-1)]:List Int)) hO.fr (by rw [(ZL (v:=.n (-1)) rfl z2)];rfl) rfl) ?_))))));rintro bn ag ⟨_,_,L⟩;refine Zb v_cells rfl (Zd (Zay (L.rd0 s_cells.rd) rfl) ?_);obtain ⟨x,⟨_,aY,aL,c,rfl,aW⟩,hp⟩:=bdk hp fun _=>zi.ok (h:=ag)  (L.sl 0 rfl:Sl ZT ag bn ([(-1)]:List Int));refine Za1 rfl rfl aL ?_;have aR:=L.call aW rfl;refine Zb c rfl (Ze (Zi (Zb (.n d) rfl ?_)));obtain ⟨x1,⟨_,_,aM,rfl,aX⟩,hp⟩:=bdk hp fun _=>Zau.ok (h:=aY)  ;refine Za1 rfl rfl aM ?_;have af:=aR.call aX rfl;refine Zb (.n x1) rfl (Ze (Zi (Zb (.sn) rfl (Ze (ZR (Zi (Zb v_cells rfl (Zd (Zay (af.rd0 s_cells.rd) rfl) (Zb (.n 0) rfl ?_)))))))));refine Ze (Zaj ?_);have aU:=af.nil eV;have aV:=aU.allNil ZT 0;refine Zb4 hp (fun|(at_,l,x2),fr,k=>∃ f a,fr 0=v_cells∧fr 1=.n d∧fr 7=c∧fr 8=.n x1∧fr 9=f∧fr 22=.n (cells.length:Int)∧fr 23=.n x2∧Own B h k [eSl ZT c at_,eSl eV f a,Zbb ZT a l]) (fun|.inl (at_1,l1),e,fr,k=>e=(.exit 0)∧∃ t K,fr 7=c∧fr 9=t∧Own B h k [eSl ZT c at_1,eSl eV t K,Zbb ZT K l1]|.inr _,e,fr,k=>e=.ret∧fr 4=.sn∧fr 5=.sn∧fr 6=.b false∧Own B h k []) ⟨V.sn,[],rfl,rfl,rfl,rfl,rfl,rfl,rfl,(aV.pk [1,2,3])⟩ ?_ ?_
 ·rintro ⟨at_,l,x2⟩ _ _ ⟨f,a,ah,ai,F,aj,R,Q,D,q⟩ _ hp;dsimp only [z7.s0] at hp;refine Zi (Zd (zY D Q) (Ze (ZR (z5 hp rfl (fun aB hp=>?_) (fun aB hp=>?_)))))
  ·refine Zag (ZR (Zaj (Zi (Zb _ D (Zb (.n x2) rfl (Ze (ZR (Zi (Zb _ F ?_)))))))));refine Zb (.n x2) rfl (ckk hp fun Y hp=>Zd (zG (q.sl 0 rfl) rfl rfl Y) (Zd (Za7 (q.sl 0 rfl) rfl (Zr Y) rfl) (Zd (Zb5 rfl rfl) (Ze (z5 hp rfl (fun aC hp=>?_) (fun aC hp=>?_))))))
   ·refine Zbh (zU (Za8 (Z5 (Zac (ckk hp fun aI hp=>Zd (zA D rfl aI) (Zb (.n (x2+1)) rfl (Zt ?_)))))));cases hp;exact ⟨rfl,f,a,ah,ai,F,aj,R,Q,rfl,(q.pk [0,1,2])⟩
   ·refine Zag (Zi (Zb (.n x2) rfl (Zb (.n x2) rfl (Ze (ZR (Zi (Zb (.n 0) rfl (Ze ?_))))))));refine Zaj (Zb4 hp (fun|(first,n),fr,k=>fr 0=v_cells∧fr 1=.n d∧fr 7=c∧fr 8=.n x1∧fr 9=f∧fr 11=.n first∧fr 12=.n n∧fr 22=.n (cells.length:Int)∧fr 23=.n x2∧Own B h k [eSl ZT c at_,eSl eV f a,Zbb ZT a l]) (fun|.inl first1,e,fr,k=>e=(.exit 2)∧fr 0=v_cells∧fr 1=.n d∧fr 7=c∧fr 8=.n x1∧fr 9=f∧fr 11=.n first1∧fr 22=.n (cells.length:Int)∧fr 23=.n x2∧Own B h k [eSl ZT c at_,eSl eV f a,Zbb ZT a l]|.inr _,e,fr,k=>e=.ret∧fr 4=.sn∧fr 5=.sn∧fr 6=.b false∧Own B h k []) ⟨ah,ai,F,aj,R,rfl,rfl,Q,D,(q.pk [0,1,2])⟩ ?_ ?_)
    ·rintro ⟨first,n⟩ _ _ ⟨s,ak,ao,H,ap,S,al,am,an,g⟩ _ hp;dsimp only [z7.s1] at hp;refine ZR (Zi (Zb _ s (Zb _ S (Zb _ H (ckk hp fun i hp=>Zd (zG (g.rd0 s_cells.rd) rfl rfl i) (Zd (ZbO (g.rd0 s_cells.rd) (Zr i) rfl rfl) (ckk hp fun A hp=>Zd (Zbi (g.rd0 s_cells.rd) (Zr i) rfl rfl A rfl) (Zd (Za7 (g.rd0 s_cells.rd) rfl (Zr i) (zm A)) (Zd (Zb5 rfl rfl) (Zt ?_))))))))));refine Z5 (z5 hp rfl (fun aD hp=>?_) (fun aD hp=>?_))
     ·refine Zag (ZR (Zaj (ZR (Zi (Zb _ al (Zb _ s (Zd (Zay (g.rd0 s_cells.rd) rfl) (Zd (ZbN rfl rfl) (Ze (z5 hp rfl (fun aE hp=>?_) (fun aE hp=>?_)))))))))))
      ·refine Zi (Zb (.sn) rfl (Zb (.sn) rfl (Zb (.b false) rfl (Ze (zp (zc (ZaA (zc ?_))))))));cases hp;exact ⟨nofun,rfl,rfl,rfl,rfl,(g.pk [])⟩
      ·refine Zag (Zac (Zb _ s (Zb _ S (Zb _ H (Zd (zG (g.rd0 s_cells.rd) rfl rfl i) (Zd (ZbO (g.rd0 s_cells.rd) (Zr i) rfl rfl) (Zd (Zbi (g.rd0 s_cells.rd) (Zr i) rfl rfl A rfl) (Zd (Za7 (g.rd0 s_cells.rd) rfl (Zr i) (zm A)) (Zb (.n (((gi cells first.toNat).Next).get x1)) rfl (Zt (Zad (Z5 ?_))))))))))));refine Zac (Zb _ al (ckk hp fun aJ hp=>Zd (zA rfl rfl aJ) (Zb (.n (n+1)) rfl (Zt ?_))));cases hp;exact ⟨rfl,s,ak,ao,H,ap,rfl,rfl,am,an,(g.pk [0,1,2])⟩
     ·refine Zbh (zU ?_);cases hp;exact ⟨nofun,rfl,s,ak,ao,H,ap,S,am,an,(g.pk [0,1,2])⟩
    rintro (first1|_) hp _ _ _ ad
    ·obtain ⟨rfl,a4,a5,bc,bd,be,a6,a7,a8,P⟩:=ad;refine Za8 (Z5 (Zi (Zb (.sn) rfl (Ze (ZR (Zi (Zb _ a6 (Zb (.n first1) rfl (Ze ?_)))))))));refine Zaj ?_;have aN:=P.nil ZT;refine Zb4 hp (fun|(at_2,chain,w),fr,k=>∃ J,fr 0=v_cells∧fr 1=.n d∧fr 7=c∧fr 8=.n x1∧fr 9=f∧fr 13=J∧fr 14=.n w∧fr 22=.n (cells.length:Int)∧fr 23=.n x2∧Own B h k [eSl ZT c at_2,eSl eV f a,Zbb ZT a l,eSl ZT J chain]) (fun|(at_3,chain1),e,fr,k=>e=(.exit 4)∧∃ j,fr 0=v_cells∧fr 1=.n d∧fr 7=c∧fr 8=.n x1∧fr 9=f∧fr 13=j∧fr 22=.n (cells.length:Int)∧fr 23=.n x2∧Own B h k [eSl ZT c at_3,eSl eV f a,Zbb ZT a l,eSl ZT j chain1]) ⟨V.sn,a4,a5,bc,bd,be,rfl,rfl,a7,a8,(aN.pk [0,1,2,3])⟩ ?_ ?_
     ·rintro ⟨at_2,chain,w⟩ _ _ ⟨J,T,U,W,av,X,aq,I,ar,au,m⟩ _ hp;dsimp only [z7.s2] at hp;refine ZR (Zi (Zb _ I (Zd (Zb5 rfl rfl) (Ze (z5 hp rfl (fun aF hp=>?_) (fun aF hp=>?_))))))
      ·refine Zag (ZR (Zaj (Zi (Zb _ W (Zb _ I (Zb _ X (Zd (ZdE (n:=(l).length) (m.sl 1 rfl) (m.allLen 2 rfl:(a).length=(l).length) rfl) (ckk hp fun aa hp=>Zd (zG (m.sl 0 rfl) rfl rfl aa) (zh (m.ste (y:=(l.length:Int)) 0 rfl rfl (Zr aa) rfl rfl ⟨rfl,Nat.le_of_ble_eq_true rfl,rfl⟩ rfl) ?_)))))))));rintro _ _ ⟨rfl,_,_,ae⟩;refine Ze (Zac (Zb _ aq (Zb _ I (zh (ae.bsl (E:=ZT) (l:=[w]) ae.fr (by rw [(ZL (v:=.n w) rfl z2)];rfl) rfl) ?_))));rintro _ _ ⟨_,_,N⟩;refine ckk hp fun aK hp=>zh (N.app (bytes:=8) 3 N.fr rfl (N.sl 4 rfl) rfl rfl (fun _=>rfl) aK (by decide)) ?_;rintro ax _ ⟨_,o⟩;refine Zb ax rfl (Zt (Zad (Z5 (Zac (Zb _ T (Zb _ I (Zb _ U (ckk hp fun C hp=>Zd (zG (o.rd0 s_cells.rd) rfl rfl C) (Zd (ZbO (o.rd0 s_cells.rd) (Zr C) rfl rfl) (ckk hp fun ab hp=>Zd (Zbi (o.rd0 s_cells.rd) (Zr C) rfl rfl ab rfl) (Zd (Za7 (o.rd0 s_cells.rd) rfl (Zr C) (zm ab)) ?_)))))))))));refine Zb (.n (((gi cells w.toNat).Next).get d)) rfl (Zt ?_);cases hp;exact ⟨rfl,ax,T,U,W,av,X,rfl,rfl,ar,au,(o.pk [0,1,2,3])⟩
      ·refine Zbh (zU ?_);cases hp;exact ⟨nofun,rfl,J,T,U,W,av,X,aq,ar,au,(m.pk [0,1,2,3])⟩
     rintro ⟨at_3,chain1⟩ hp _ _ _ ⟨rfl,j,bf,bg,bk,bl,bm,bh,bi,bj,M⟩;refine Za8 (Z5 (Zac (Zb _ bm (Zb _ bh (zh (M.bsl (E:=eV) (l:=[j]) M.fr (by rw [(ZL (v:=j) rfl z2)];simp only [fill,(M.sl 3 rfl).cells];simp [over]) rfl) ?_)))));rintro _ _ ⟨_,_,p⟩;refine ckk hp fun aG hp=>zh (p.appV (bytes:=24) 1 p.fr rfl (p.sl 4 rfl) rfl rfl (by simp only [List.all_cons,List.all_nil,Bool.and_true];exact (p.sl 3 rfl).oneV) (by rw [(p.allLen 2 rfl:(a).length=(l).length)];exact aG) (by decide)) ?_;rintro ay _ ⟨_,aO⟩;have aP:=aO.absorb 2 3 rfl rfl (by decide);refine Zb ay rfl (Zt (Zad (Z5 (Zac (ckk hp fun aH hp=>Zd (zA bj rfl aH) (Zb (.n (x2+1)) rfl (Zt ?_)))))));cases hp;exact ⟨rfl,ay,a++[j],bf,bg,bk,bl,rfl,bi,rfl,(aP.pk [0,1,2])⟩
    ·obtain ⟨rfl,a9,ba,bb,P⟩:=ad;refine ZaA (zc (ZaA (zc ?_)));cases hp;exact ⟨nofun,rfl,a9,ba,bb,(P.pk [])⟩
  ·refine Zbh (zU ?_);cases hp;exact ⟨nofun,rfl,f,a,F,R,(q.pk [0,1,2])⟩
 rintro (⟨at_1,l1⟩|_) hp _ _ _ ac
 ·obtain ⟨rfl,t,K,a2,a3,O⟩:=ac;refine Za8 (Z5 (Zi (Zb _ a2 (Zb _ a3 (Zb c rfl (Zb t rfl (Zb (.b true) rfl (Ze (zp (ZS (ze rfl (ze rfl (ze rfl ZA))) ?_))))))))));cases hp;exact ⟨c,t,K,rfl,(O.pk [0,1,2])⟩
 ·obtain ⟨rfl,aZ,a0,a1,O⟩:=ac;refine ZaA (zc ?_);have aQ:=O.nil ZT;have aS:=aQ.nil eV;have aT:=aS.allNil ZT 0;refine ZS (ze aZ (ze a0 (ze a1 ZA))) ?_;cases hp;exact ⟨V.sn,V.sn,[],rfl,(aT.pk [0,1,2])⟩

theorem Zci.ok {h:Hp}{cells:List Zc}{v_cells:V}(s_cells:Sl Zl h v_cells cells) {r:zu×Int}(hp:Zci cells=some r) :
  ∃ u k',Is G 120 [v_cells] h u k'∧∃ C D E H F I,V.tu [.ag [C,D,E,F],.n r.2]=u∧Own (fun r=>r<h.n) h k' [eSl ZT C r.1.X,eSl ZT D r.1.Y,eSl eV E H,Zbb ZT H r.1.Vert,eSl eV F I,Zbb ZT I r.1.Horz]:=by
 refine WC.is (zV Zed ?_);unfold Zci at hp;let B:Nat→Prop:=(fun r=>r<h.n);have hO:Own B h h []:=Own.start0 h;refine Zi (zh (hO.alloc (cs:=[.sn,.sn,.sn,.sn]) hO.fr) ?_);rintro _ an ⟨ap,rfl,_,_,q⟩;refine Zb (.n 0) rfl (Ze (ZR (Zi (Zb v_cells rfl ?_))));obtain ⟨x,⟨_,c,L,rfl,ak⟩,hp⟩:=bdk hp fun _=>zj.ok (h:=an)  (q.rd0 s_cells.rd);refine Za1 rfl rfl L ?_;have o:=q.call ak rfl;refine Zb (.n x) rfl (Ze (Zi (Zb (.n x) rfl (Zd (ZbP rfl rfl) (Ze (z5 hp rfl (fun J hp=>?_) (fun J hp=>?_)))))))
 ·refine Zi (Zd (Zas (cs:=[.sn,.sn,.sn,.sn]) (by rw [z2];simp [fill,over,ZeY,ZeW,ZeX,Zfa,ZeV,ZeZ,(Sl.nil:Sl ZT c .sn ([]:List Int)).cells,(Sl.nil:Sl ZT c .sn ([]:List Int)).cells,(Sl.nil:Sl eV c .sn []).cells,(Sl.nil:Sl eV c .sn []).cells])) (Zb (.n x) rfl (zh (o.stb (cs':=[.sn,.sn,.sn,.sn]) 0 rfl rfl rfl rfl ⟨rfl,Nat.le_of_ble_eq_true rfl,(all_cons (Sl.nil:Sl ZT c .sn ([]:List Int)).oneV (all_cons (Sl.nil:Sl ZT c .sn ([]:List Int)).oneV (all_cons (Sl.nil:Sl eV c .sn []).oneV (all_cons (Sl.nil:Sl eV c .sn []).oneV all_nil))))⟩ rfl) ?_)));rintro _ _ ⟨rfl,_,_,ad⟩;refine Zb (.n x) rfl (Ze (zp (zc ?_)));have ae:=ad.nil ZT;have af:=ae.nil ZT;have ah:=af.nil eV;have ai:=ah.allNil ZT 0;have aj:=ai.nil eV;have A:=aj.allNil ZT 0;refine ZS (Zfz rfl (A.box 0 rfl) rfl (ze rfl ZA)) ?_;cases hp;exact ⟨V.sn,V.sn,V.sn,[],V.sn,[],rfl,(A.pk [1,2,3,4,5,6])⟩
 ·refine Zag (Zi (Zb v_cells rfl ?_));obtain ⟨⟨x1,x2,x3⟩,⟨_,ao,M,g,i,aq,rfl,al⟩,hp⟩:=bdk hp fun _=>z7.ok (h:=c)  (o.rd0 s_cells.rd);refine Za1 rfl rfl M ?_;have s:=o.call al rfl;refine Zb (.tu [g,i,.b x3]) rfl (Zd (ZaK rfl rfl) (Zd (ZaK rfl rfl) (Zd (ZaK rfl rfl) (Zb g rfl (Zb i rfl (Zb (.b x3) rfl (Ze (Zi (Zb v_cells rfl ?_)))))))));obtain ⟨⟨x4,x5,x6⟩,⟨_,d,N,j,l,ar,rfl,am⟩,hp⟩:=bdk hp fun _=>z7.ok (h:=ao)  (s.rd0 s_cells.rd);refine Za1 rfl rfl N ?_;have a:=s.call am rfl;refine Zb (.tu [j,l,.b x6]) rfl (Zd (ZaK rfl rfl) (Zd (ZaK rfl rfl) (Zd (ZaK rfl rfl) (Zb j rfl (Zb l rfl (Zb (.b x6) rfl (Ze (ZR (Zi (Zb (.b x3) rfl (Zd (Zcr rfl) ?_)))))))))));refine Zb (.b (!x3)) rfl (Zaa 3 (fun f k=>d=k∧f 34=.b ((!x3)||(!x6))∧f 2=.p ap 0∧f 5=g∧f 6=i∧f 8=j∧f 9=l) ?_ ?_)
  ·rcases bc (!x3) with e|e
   ·refine Zu rfl e (Zu rfl e (Zd (Zbo (w:=(!x3)||(!x6)) rfl e rfl) (Zt ?_)));exact ⟨rfl,rfl,rfl,rfl,rfl,rfl,rfl⟩
   ·refine Z7 rfl e (Zb (.b x6) rfl (Z7 rfl e (Zd (Zcr rfl) (Zd (Zbp rfl e rfl) (Zt ?_)))));exact ⟨rfl,rfl,rfl,rfl,rfl,rfl,rfl⟩
  rintro _ _ ⟨rfl,O,m,P,Q,R,S⟩;refine Ze (z5 hp O (fun K hp=>?_) (fun K hp=>?_))
  ·refine Zi (Zd (Zas (cs:=[.sn,.sn,.sn,.sn]) (by rw [z2];simp [fill,over,ZeY,ZeW,ZeX,Zfa,ZeV,ZeZ,(Sl.nil:Sl ZT d .sn ([]:List Int)).cells,(Sl.nil:Sl ZT d .sn ([]:List Int)).cells,(Sl.nil:Sl eV d .sn []).cells,(Sl.nil:Sl eV d .sn []).cells])) (zh (a.stb (cs':=[.sn,.sn,.sn,.sn]) 0 rfl m rfl rfl ⟨rfl,Nat.le_of_ble_eq_true rfl,(all_cons (Sl.nil:Sl ZT d .sn ([]:List Int)).oneV (all_cons (Sl.nil:Sl ZT d .sn ([]:List Int)).oneV (all_cons (Sl.nil:Sl eV d .sn []).oneV (all_cons (Sl.nil:Sl eV d .sn []).oneV all_nil))))⟩ rfl) ?_));rintro _ _ ⟨rfl,_,_,T⟩;refine Zb (.n 10) rfl (Ze (zp (zc ?_)));have U:=T.nil ZT;have W:=U.nil ZT;have aa:=W.nil eV;have ab:=aa.allNil ZT 0;have ac:=ab.nil eV;have t:=ac.allNil ZT 0;refine ZS (Zfz m (t.box 0 rfl) rfl (ze rfl ZA)) ?_;cases hp;exact ⟨V.sn,V.sn,V.sn,[],V.sn,[],rfl,(t.pk [7,8,9,10,11,12])⟩
  ·refine Zag (Zi (Zb _ P (Zb _ R (Zb _ Q (Zb _ S (Zd (Zas (cs:=[g,j,i,l]) (by rw [(ZL (v:=g) rfl (ZL (v:=j) rfl (ZL (v:=i) rfl (ZL (v:=l) rfl z2))))];simp [fill,over,ZeY,ZeW,ZeX,Zfa,ZeV,ZeZ,(a.sl 1 rfl).cells,(a.sl 4 rfl).cells,(a.sl 2 rfl).cells,(a.sl 5 rfl).cells])) (zh (a.stb (cs':=[g,j,i,l]) 0 rfl m rfl rfl ⟨rfl,Nat.le_of_ble_eq_true rfl,(all_cons (a.sl 1 rfl).oneV (all_cons (a.sl 4 rfl).oneV (all_cons (a.sl 2 rfl).oneV (all_cons (a.sl 5 rfl).oneV all_nil))))⟩ rfl) ?_)))))));rintro _ _ ⟨rfl,_,_,y⟩;refine Zb (.n 0) rfl (Ze (zp (ZS (Zfz m (y.box 0 rfl) rfl (ze rfl ZA)) ?_)));cases hp;exact ⟨g,j,i,aq,l,ar,rfl,(y.pk [1,4,2,3,5,6])⟩

theorem Za6.ok {h:Hp}{c:zu}{v_c_X:V}{v_c_Y:V}{v_c_Vert:V}{vs_c_Vert:List V}{v_c_Horz:V}{vs_c_Horz:List V}(s_c_X:Sl ZT h v_c_X c.X) (s_c_Y:Sl ZT h v_c_Y c.Y) (sN_c_Vert:Sl eV h v_c_Vert vs_c_Vert) (lN_c_Vert:vs_c_Vert.length=c.Vert.length) (iN_c_Vert:∀ j,j<c.Vert.length→Sl ZT h (gi vs_c_Vert j) (gi c.Vert j)) (sN_c_Horz:Sl eV h v_c_Horz vs_c_Horz) (lN_c_Horz:vs_c_Horz.length=c.Horz.length) (iN_c_Horz:∀ j,j<c.Horz.length→Sl ZT h (gi vs_c_Horz j) (gi c.Horz j)) {r:(List ZW)}(hp:Za6 c=some r) :
  ∃ u k',Is G 209 [.ag [v_c_X,v_c_Y,v_c_Vert,v_c_Horz]] h u k'∧∃ O,O=u∧Own (fun r=>r<h.n) h k' [eSl ZK O r]:=by
 refine WC.is (zV Zdm ?_);unfold Za6 at hp;let B:Nat→Prop:=(fun r=>r<h.n);have hO:Own B h h []:=Own.start0 h;refine Zi (zh (hO.boxd (cs:=[v_c_X,v_c_Y,v_c_Vert,v_c_Horz]) hO.fr rfl rfl) ?_);rintro _ _ ⟨f,rfl,_,_,A⟩;refine Zb (.sn) rfl (Ze (Zi (Zb (.sn) rfl (Ze (ZR (Zi (Zd (z1 (r:=f) (o:=0) rfl rfl) (Zd (zf (A.box 0 rfl) rfl rfl) (Zd (ZdE (n:=(c.Vert).length) (A.rd0 sN_c_Vert.rd) lN_c_Vert rfl) ?_)))))))));refine Zb (.n 0) rfl (Ze (Zaj ?_));have ah:=A.nil ZK;refine Zb4 hp (fun|(l,x),fr,k=>∃ m,fr 1=.p f 0∧fr 3=m∧fr 9=v_c_Vert∧fr 10=.n (c.Vert.length:Int)∧fr 11=.n x∧Own B h k [ZE f [v_c_X,v_c_Y,v_c_Vert,v_c_Horz],eSl ZK m l]) (fun l1 e fr k=>e=(.exit 0)∧∃ t,fr 1=.p f 0∧fr 3=t∧Own B h k [ZE f [v_c_X,v_c_Y,v_c_Vert,v_c_Horz],eSl ZK t l1]) ⟨V.sn,rfl,rfl,rfl,rfl,rfl,(ah.pk [0,1])⟩ ?_ ?_
 ·rintro ⟨l,x⟩ _ ak ⟨m,H,J,K,I,g,a⟩ _ hp;dsimp only [Za6.s0] at hp;refine Zi (Zd (zY g I) (Ze (ZR (z5 hp rfl (fun R hp=>?_) (fun R hp=>?_)))))
  ·refine Zag (ZR (Zaj (Zi (Zb _ g (ckk hp fun w hp=>Zd (zG (a.rd0 sN_c_Vert.rd) K g (by rw [lN_c_Vert];exact w)) (Zd (Za7 (a.rd0 sN_c_Vert.rd) rfl (by rw [lN_c_Vert];exact Zr w) rfl) (Zb (.n x) rfl (Zb ((gi vs_c_Vert x.toNat)) rfl (Ze ?_)))))))));refine Zi (Zb ((gi vs_c_Vert x.toNat)) rfl (Zd (Zay (a.rd0 ((fun j hj=>(iN_c_Vert j hj).rd) _ (Zr w)):Sl ZT ak (gi vs_c_Vert x.toNat) (gi c.Vert x.toNat)) rfl) (Zd (ZcK rfl rfl) (Ze (z5 hp rfl (fun S hp=>?_) (fun S hp=>?_))))))
   ·refine Zac (Zb _ J (Zb (.n x) rfl (Zd (Zas (cs:=ZK.c (⟨true,x⟩:ZW)) (by rw [(ZL (v:=.b true) rfl (ZL (v:=.n x) rfl z2))];rfl)) (zh (a.bsl (E:=ZK) (l:=[(⟨true,x⟩:ZW)]) a.fr (by rw [(ZL (v:=.ag (ZK.c (⟨true,x⟩:ZW))) rfl z2)];rfl) rfl) ?_))));rintro _ _ ⟨_,_,D⟩;refine ckk hp fun W hp=>zh (D.app (bytes:=16) 1 D.fr rfl (D.sl 2 rfl) rfl rfl (fun _=>rfl) W (by decide)) ?_;rintro P _ ⟨_,ai⟩;refine Zb P rfl (Zt (Zad (Z5 (Zac (ckk hp fun aa hp=>Zd (zA g rfl aa) (Zb (.n (x+1)) rfl (Zt ?_)))))));cases hp;exact ⟨rfl,P,H,rfl,K,I,rfl,(ai.pk [0,1])⟩
   ·refine Zcn (Zad (Z5 (Zac (ckk hp fun ab hp=>Zd (zA g rfl ab) (Zb (.n (x+1)) rfl (Zt ?_))))));cases hp;exact ⟨rfl,m,H,J,K,I,rfl,(a.pk [0,1])⟩
  ·refine Zbh (zU ?_);cases hp;exact ⟨nofun,rfl,m,H,J,(a.pk [0,1])⟩
 rintro l1 hp _ _ _ ⟨rfl,t,am,an,C⟩;refine Za8 (Z5 (ZR (Zi (Zd (z1 (r:=f) (o:=0) am rfl) (Zd (zf (C.box 0 rfl) rfl rfl) (Zd (ZdE (n:=(c.Horz).length) (C.rd0 sN_c_Horz.rd) lN_c_Horz rfl) (Zb (.n 0) rfl (Ze (Zaj (Zb4 hp (fun|(l2,x1),fr,k=>∃ q,fr 3=q∧fr 26=v_c_Horz∧fr 27=.n (c.Horz.length:Int)∧fr 28=.n x1∧Own B h k [eSl ZK q l2]) (fun l3 e fr k=>e=(.exit 2)∧∃ s,fr 3=s∧Own B h k [eSl ZK s l3]) ⟨t,an,rfl,rfl,rfl,(C.pk [1])⟩ ?_ ?_))))))))))
 ·rintro ⟨l2,x1⟩ _ al ⟨q,N,L,M,i,d⟩ _ hp;dsimp only [Za6.s1] at hp;refine Zi (Zd (zY i M) (Ze (ZR (z5 hp rfl (fun T hp=>?_) (fun T hp=>?_)))))
  ·refine Zag (ZR (Zaj (Zi (Zb _ i (ckk hp fun y hp=>Zd (zG (d.rd0 sN_c_Horz.rd) L i (by rw [lN_c_Horz];exact y)) (Zd (Za7 (d.rd0 sN_c_Horz.rd) rfl (by rw [lN_c_Horz];exact Zr y) rfl) (Zb (.n x1) rfl (Zb ((gi vs_c_Horz x1.toNat)) rfl (Ze ?_)))))))));refine Zi (Zb ((gi vs_c_Horz x1.toNat)) rfl (Zd (Zay (d.rd0 ((fun j hj=>(iN_c_Horz j hj).rd) _ (Zr y)):Sl ZT al (gi vs_c_Horz x1.toNat) (gi c.Horz x1.toNat)) rfl) (Zd (ZcK rfl rfl) (Ze (z5 hp rfl (fun U hp=>?_) (fun U hp=>?_))))))
   ·refine Zac (Zb _ N (Zb (.n x1) rfl (Zd (Zas (cs:=ZK.c (⟨false,x1⟩:ZW)) (by rw [(ZL (v:=.b false) rfl (ZL (v:=.n x1) rfl z2))];rfl)) (zh (d.bsl (E:=ZK) (l:=[(⟨false,x1⟩:ZW)]) d.fr (by rw [(ZL (v:=.ag (ZK.c (⟨false,x1⟩:ZW))) rfl z2)];rfl) rfl) ?_))));rintro _ _ ⟨_,_,F⟩;refine ckk hp fun ac hp=>zh (F.app (bytes:=16) 0 F.fr rfl (F.sl 1 rfl) rfl rfl (fun _=>rfl) ac (by decide)) ?_;rintro Q _ ⟨_,af⟩;refine Zb Q rfl (Zt (Zad (Z5 (Zac (ckk hp fun ad hp=>Zd (zA i rfl ad) (Zb (.n (x1+1)) rfl (Zt ?_)))))));cases hp;exact ⟨rfl,Q,rfl,L,M,rfl,(af.pk [0])⟩
   ·refine Zcn (Zad (Z5 (Zac (ckk hp fun ae hp=>Zd (zA i rfl ae) (Zb (.n (x1+1)) rfl (Zt ?_))))));cases hp;exact ⟨rfl,q,N,L,M,rfl,(d.pk [0])⟩
  ·refine Zbh (zU ?_);cases hp;exact ⟨nofun,rfl,q,N,(d.pk [0])⟩
 rintro l3 hp _ _ _ ⟨rfl,s,ao,aj⟩;refine Za8 (Z5 (Zi (Zb _ ao (Zb s rfl (Ze (zp (ZS (ze rfl ZA) ?_)))))));cases hp;exact ⟨s,rfl,(aj.pk [0])⟩

theorem ZbR.ok {h:Hp}{cells:List Zc}{v_cells:V}(s_cells:Sl Zl h v_cells cells) {r:(List ZW)×Int}(hp:ZbR cells=some r) :
  ∃ u k',Is G 187 [v_cells] h u k'∧∃ d,V.tu [d,.n r.2]=u∧Own (fun r=>r<h.n) h k' [eSl ZK d r.1]:=by
 refine WC.is (zV Zdl ?_);unfold ZbR at hp;let B:Nat→Prop:=(fun r=>r<h.n);have hO:Own B h h []:=Own.start0 h;refine Zi (Zb (.sn) rfl (Zb (.n 0) rfl (Ze (Zi (Zb v_cells rfl ?_)))));obtain ⟨⟨x,x1⟩,⟨_,_,m,e,f,g,w,i,y,rfl,s⟩,hp⟩:=bdk hp fun _=>Zci.ok (h:=h)  (hO.rd0 s_cells.rd);refine Za1 rfl rfl m ?_;have c:=hO.call s rfl;refine Zb (.tu [.ag [e,f,g,i],.n x1]) rfl (Zd (ZaK rfl rfl) (Zd (ZaK rfl rfl) (zh (c.alloc (cs:=[.sn,.sn,.sn,.sn]) c.fr) ?_)));rintro _ _ ⟨_,rfl,_,_,b⟩;refine zh (b.stb (cs':=[e,f,g,i]) 6 rfl rfl rfl rfl ⟨rfl,Nat.le_of_ble_eq_true rfl,(all_cons (b.sl 0 rfl).oneV (all_cons (b.sl 1 rfl).oneV (all_cons (b.sl 2 rfl).oneV (all_cons (b.sl 4 rfl).oneV all_nil))))⟩ rfl) ?_;rintro _ v ⟨rfl,_,_,a⟩;refine Zb (.n x1) rfl (Ze (ZR (Zi (Zb (.n x1) rfl (Zd (ZbP rfl rfl) (Ze (z5 hp rfl (fun l hp=>?_) (fun l hp=>?_))))))))
 ·refine Zi (Zb (.n x1) rfl (Zb (.sn) rfl (Zb (.n x1) rfl (Ze (zp (zc ?_))))));have p:=a.nil ZK;refine ZS (ze rfl (ze rfl ZA)) ?_;cases hp;exact ⟨V.sn,rfl,(p.pk [7])⟩
 ·refine Zag (Zi (Zd (zQ (a.box 6 rfl) rfl rfl) ?_));obtain ⟨x2,⟨_,_,o,k,rfl,t⟩,hp⟩:=bdk hp fun _=>Za6.ok (h:=v)  (a.sl 0 rfl) (a.sl 1 rfl) (a.sl 2 rfl) (a.allLen 3 rfl:(w).length=(x.Vert).length) (fun j hj=>a.inn 3 rfl hj) (a.sl 4 rfl) (a.allLen 5 rfl:(y).length=(x.Horz).length) (fun j hj=>a.inn 5 rfl hj);refine Za1 rfl rfl o ?_;have q:=a.call t rfl;refine Zb k rfl (Zb (.n 0) rfl (Ze (zp (ZS (ze rfl (ze rfl ZA)) ?_))));cases hp;exact ⟨k,rfl,(q.pk [7])⟩

theorem ZaV.ok {h:Hp}{c:zu}{l:ZW}{at_:List Za}{v_c_X:V}{v_c_Y:V}{v_c_Vert:V}{vs_c_Vert:List V}{v_c_Horz:V}{vs_c_Horz:List V}{v_at_:V}(s_c_X:Sl ZT h v_c_X c.X) (s_c_Y:Sl ZT h v_c_Y c.Y) (sN_c_Vert:Sl eV h v_c_Vert vs_c_Vert) (lN_c_Vert:vs_c_Vert.length=c.Vert.length) (iN_c_Vert:∀ j,j<c.Vert.length→Sl ZT h (gi vs_c_Vert j) (gi c.Vert j)) (sN_c_Horz:Sl eV h v_c_Horz vs_c_Horz) (lN_c_Horz:vs_c_Horz.length=c.Horz.length) (iN_c_Horz:∀ j,j<c.Horz.length→Sl ZT h (gi vs_c_Horz j) (gi c.Horz j)) (s_at_:Sl Zg h v_at_ at_) {r:ZC}(hp:ZaV c l at_=some r) :
  ∃ u k',Is G 231 [.ag [v_c_X,v_c_Y,v_c_Vert,v_c_Horz],.ag (ZK.c l),v_at_] h u k'∧V.ag (Zf.c r)=u∧Own (fun r=>r<h.n) h k' []:=by
 refine WC.is (zV ZcP ?_);unfold ZaV at hp;let B:Nat→Prop:=(fun r=>r<h.n);have hO:Own B h h []:=Own.start0 h;refine Zi (zh (hO.boxd (cs:=[v_c_X,v_c_Y,v_c_Vert,v_c_Horz]) hO.fr rfl rfl) ?_);rintro _ _ ⟨I,rfl,_,_,C⟩;refine zh (C.boxd (cs:=ZK.c l) C.fr rfl rfl) ?_;rintro _ _ ⟨s,rfl,_,_,D⟩;refine zh (D.alloc (cs:=Zf.c (⟨⟨0,0⟩,⟨0,0⟩⟩:ZC)) D.fr) ?_;rintro _ _ ⟨J,rfl,_,_,f⟩;refine Ze (Zi (Zd (z1 (r:=I) (o:=0) rfl rfl) (Zd (zf (f.box 0 rfl) rfl rfl) (Zb v_c_Horz rfl (Ze (ZR (Zi (Zd (z1 (r:=s) (o:=0) rfl rfl) (Zd (zf (f.box 1 rfl) rfl rfl) ?_)))))))));refine Ze (Zg4 hp (fun of e fr k=>e=.normal∧∃ t a,fr 2=v_at_∧fr 4=.p s 0∧fr 6=.p J 0∧fr 7=t∧Rd B h eV t a∧a.length=of.length∧(∀ j,j<of.length→Rd B h ZT (gi a j) (gi of j))∧Own B h k [ZE s (ZK.c l),ZE J (Zf.c (⟨⟨0,0⟩,⟨0,0⟩⟩:ZC))]) (fun _ hp=>?_) ?_)
 ·refine z5 hp rfl (fun M hp=>?_) (fun M hp=>?_)
  ·refine Zac (Zd (z1 (r:=I) (o:=0) rfl rfl) (Zd (zf (f.box 0 rfl) rfl rfl) (Zb v_c_Vert rfl (Zt ?_))));cases hp;exact ⟨rfl,v_c_Vert,vs_c_Vert,rfl,rfl,rfl,rfl,sN_c_Vert.rd,lN_c_Vert,(fun j hj=>(iN_c_Vert j hj).rd),(f.pk [1,2])⟩
  ·refine Zcn ?_;cases hp;exact ⟨rfl,v_c_Horz,vs_c_Horz,rfl,rfl,rfl,rfl,sN_c_Horz.rd,lN_c_Horz,(fun j hj=>(iN_c_Horz j hj).rd),(f.pk [1,2])⟩
 rintro of hp _ _ g ⟨rfl,t,a,F,O,H,P,K,L,i,m⟩;refine Z5 (Zi (Zb _ P (Zd (z1 (r:=s) (o:=0) O rfl) (Zd (zf (m.box 0 rfl) rfl rfl) (ckk hp fun d hp=>Zd (zG (m.rd0 K) rfl rfl (by rw [L];exact d)) (Zd (Za7 (m.rd0 K) rfl (by rw [L];exact Zr d) rfl) (Zb ((gi a (l.Place:Int).toNat)) rfl (Ze (ZR (ZdD ?_))))))))));have b:=m.bump 17;refine zN _ F (zN ((gi a (l.Place:Int).toNat)) rfl (ckk hp fun w hp=>ZM (zG (b.rd0 ((fun j hj=>(i j hj)) _ (Zr d)):Sl ZT (g.bump 17) (gi a (l.Place:Int).toNat) (gi of (l.Place:Int).toNat)) rfl rfl w) (ZM (Za7 (b.rd0 ((fun j hj=>(i j hj)) _ (Zr d)):Sl ZT (g.bump 17) (gi a (l.Place:Int).toNat) (gi of (l.Place:Int).toNat)) rfl (Zr w) rfl) (ckk hp fun x hp=>ZM (zG (b.rd0 s_at_.rd) rfl rfl x) (ZM (Zdn (b.rd0 s_at_.rd) rfl (Zr x)) (zN _ F (zN ((gi a (l.Place:Int).toNat)) rfl (zN ((gi a (l.Place:Int).toNat)) rfl (ZM (Zay (b.rd0 ((fun j hj=>(i j hj)) _ (Zr d)):Sl ZT (g.bump 17) (gi a (l.Place:Int).toNat) (gi of (l.Place:Int).toNat)) rfl) (ckk hp fun N hp=>ZM (ZfY rfl rfl N) ?_))))))))));refine ckk hp fun y hp=>ZM (zG (b.rd0 ((fun j hj=>(i j hj)) _ (Zr d)):Sl ZT (g.bump 17) (gi a (l.Place:Int).toNat) (gi of (l.Place:Int).toNat)) rfl rfl y) (ZM (Za7 (b.rd0 ((fun j hj=>(i j hj)) _ (Zr d)):Sl ZT (g.bump 17) (gi a (l.Place:Int).toNat) (gi of (l.Place:Int).toNat)) rfl (Zr y) rfl) (ckk hp fun A hp=>ZM (zG (b.rd0 s_at_.rd) rfl rfl A) (ZM (Zdn (b.rd0 s_at_.rd) rfl (Zr A)) (ZM (Zas (cs:=Zf.c (⟨gi at_ (gi (gi of (l.Place:Int).toNat) (0:Int).toNat:Int).toNat,gi at_ (gi (gi of (l.Place:Int).toNat) (((gi of (l.Place:Int).toNat).length:Int)-1:Int).toNat:Int).toNat⟩:ZC)) (by rw [(ZL (v:=.ag (Zg.c (gi at_ (gi (gi of (l.Place:Int).toNat) (0:Int).toNat:Int).toNat))) rfl (ZL (v:=.ag (Zg.c (gi at_ (gi (gi of (l.Place:Int).toNat) (((gi of (l.Place:Int).toNat).length:Int)-1:Int).toNat:Int).toNat))) rfl z2))];rfl)) (Zeh (b.stb (cs':=Zf.c (⟨gi at_ (gi (gi of (l.Place:Int).toNat) (0:Int).toNat:Int).toNat,gi at_ (gi (gi of (l.Place:Int).toNat) (((gi of (l.Place:Int).toNat).length:Int)-1:Int).toNat:Int).toNat⟩:ZC)) 1 rfl H rfl rfl ⟨rfl,Nat.le_of_ble_eq_true rfl,rfl⟩ rfl) ?_)))));rintro _ _ _ ⟨rfl,_,_,E⟩;refine ZaO ?_;refine And.intro ?_ ?_
 ·intro q hq;simp only [List.mem_cons,List.not_mem_nil,or_false] at hq;rcases hq with rfl|rfl|rfl|rfl
  ·refine zC ?_ ?_
   ·exact nofun
   ·exact nofun
  ·refine zC ?_ ?_
   ·exact nofun
   ·exact nofun
  ·refine zC ?_ ?_
   ·exact nofun
   ·exact nofun
  ·refine zC ?_ ?_
   ·exact nofun
   ·exact nofun
 refine Z5 (zp (ZS (Zfz H (E.box 1 rfl) rfl ZA) ?_));cases hp;exact ⟨rfl,(E.pk [])⟩

theorem zo.ok {h:Hp}{a:ZC}{b:ZC}   {r:Bool}(hp:zo a b=some r) :
  ∃ u k',Is G 186 [.ag (Zf.c a),.ag (Zf.c b)] h u k'∧V.b r=u∧Own (fun r=>r<h.n) h k' []:=by
 refine WC.is (zV ZcF ?_);unfold zo at hp;let B:Nat→Prop:=(fun r=>r<h.n);have hO:Own B h h []:=Own.start0 h;refine Zi (zh (hO.boxd (cs:=Zf.c a) hO.fr rfl rfl) ?_);rintro _ _ ⟨i,rfl,_,_,t⟩;refine zh (t.boxd (cs:=Zf.c b) t.fr rfl rfl) ?_;rintro _ s ⟨j,rfl,_,_,l⟩;refine Zb (.b false) rfl (Ze (Zi (Zd (z1 (r:=i) (o:=0) rfl rfl) (Zd (z1 (r:=i) (o:=2) rfl rfl) (Zd (zf (l.box 0 rfl) rfl rfl) (Zd (z1 (r:=j) (o:=0) rfl rfl) (Zd (z1 (r:=j) (o:=0) rfl rfl) (Zd (zf (l.box 1 rfl) rfl rfl) (Zd (zY rfl rfl) (Zb (.b (decide (a.High.X<b.Low.X))) rfl (Zaa 8 (fun f k=>s=k∧f 20=.b ((decide (a.High.X<b.Low.X))||(decide (b.High.X<a.Low.X)))∧f 2=.p i 0∧f 3=.p j 0) ?_ ?_)))))))))))
 ·rcases bc (decide (a.High.X<b.Low.X)) with d|d
  ·refine Zu rfl d (Zu rfl d (Zu rfl d (Zu rfl d (Zu rfl d (Zu rfl d (Zu rfl d (Zd (Zbo (w:=(decide (a.High.X<b.Low.X))||(decide (b.High.X<a.Low.X))) rfl d rfl) (Zt ?_))))))));exact ⟨rfl,rfl,rfl,rfl⟩
  ·refine Z7 rfl d (Zd (z1 (r:=j) (o:=0) rfl rfl) (Z7 rfl d (Zd (z1 (r:=j) (o:=2) rfl rfl) (Z7 rfl d (Zd (zf (l.box 1 rfl) rfl rfl) (Z7 rfl d (Zd (z1 (r:=i) (o:=0) rfl rfl) (Z7 rfl d (Zd (z1 (r:=i) (o:=0) rfl rfl) (Z7 rfl d (Zd (zf (l.box 0 rfl) rfl rfl) (Z7 rfl d (Zd (zY rfl rfl) ?_)))))))))))));refine Zd (Zbp rfl d rfl) (Zt ?_);exact ⟨rfl,rfl,rfl,rfl⟩
 rintro _ _ ⟨rfl,v,m,q⟩;refine Zb _ v (Zaa 8 (fun f k=>s=k∧f 29=.b (((decide (a.High.X<b.Low.X))||(decide (b.High.X<a.Low.X)))||(decide (a.High.Y<b.Low.Y)))∧f 2=.p i 0∧f 3=.p j 0) ?_ ?_)
 ·rcases bc ((decide (a.High.X<b.Low.X))||(decide (b.High.X<a.Low.X))) with e|e
  ·refine Zu rfl e (Zu rfl e (Zu rfl e (Zu rfl e (Zu rfl e (Zu rfl e (Zu rfl e (Zd (Zbo (w:=((decide (a.High.X<b.Low.X))||(decide (b.High.X<a.Low.X)))||(decide (a.High.Y<b.Low.Y))) rfl e rfl) (Zt ?_))))))));exact ⟨rfl,rfl,m,q⟩
  ·refine Z7 rfl e (Zd (z1 (r:=i) (o:=0) m rfl) (Z7 rfl e (Zd (z1 (r:=i) (o:=2) rfl rfl) (Z7 rfl e (Zd (zf (l.box 0 rfl) rfl rfl) (Z7 rfl e (Zd (z1 (r:=j) (o:=0) q rfl) (Z7 rfl e (Zd (z1 (r:=j) (o:=0) rfl rfl) (Z7 rfl e (Zd (zf (l.box 1 rfl) rfl rfl) (Z7 rfl e (Zd (zY rfl rfl) ?_)))))))))))));refine Zd (Zbp rfl e rfl) (Zt ?_);exact ⟨rfl,rfl,m,q⟩
 rintro _ _ ⟨rfl,y,x,A⟩;refine Zb _ y (Zaa 8 (fun f k=>s=k∧f 38=.b ((((decide (a.High.X<b.Low.X))||(decide (b.High.X<a.Low.X)))||(decide (a.High.Y<b.Low.Y)))||(decide (b.High.Y<a.Low.Y)))) ?_ ?_)
 ·rcases bc (((decide (a.High.X<b.Low.X))||(decide (b.High.X<a.Low.X)))||(decide (a.High.Y<b.Low.Y))) with g|g
  ·refine Zu rfl g (Zu rfl g (Zu rfl g (Zu rfl g (Zu rfl g (Zu rfl g (Zu rfl g (Zd (Zbo (w:=(((decide (a.High.X<b.Low.X))||(decide (b.High.X<a.Low.X)))||(decide (a.High.Y<b.Low.Y)))||(decide (b.High.Y<a.Low.Y))) rfl g rfl) (Zt ?_))))))));exact ⟨rfl,rfl⟩
  ·refine Z7 rfl g (Zd (z1 (r:=j) (o:=0) A rfl) (Z7 rfl g (Zd (z1 (r:=j) (o:=2) rfl rfl) (Z7 rfl g (Zd (zf (l.box 1 rfl) rfl rfl) (Z7 rfl g (Zd (z1 (r:=i) (o:=0) x rfl) (Z7 rfl g (Zd (z1 (r:=i) (o:=0) rfl rfl) (Z7 rfl g (Zd (zf (l.box 0 rfl) rfl rfl) (Z7 rfl g (Zd (zY rfl rfl) ?_)))))))))))));refine Zd (Zbp rfl g rfl) (Zt ?_);exact ⟨rfl,rfl⟩
 rintro _ _ ⟨rfl,C⟩;refine Zb _ C (Ze (zp (ZS (ze rfl ZA) ?_)));cases hp;exact ⟨rfl,(l.pk [])⟩

theorem Zak.ok {h:Hp}{B0:Nat→Prop}{h0:Hp}{c:zu}{vertical:Bool}{i:Int}{v_c_X:V}{v_c_Y:V}{v_c_Vert:V}{vs_c_Vert:List V}{v_c_Horz:V}{vs_c_Horz:List V}(HO:Own B0 h0 h []) (S_c_X:Rd B0 h0 ZT v_c_X c.X) (S_c_Y:Rd B0 h0 ZT v_c_Y c.Y) (SN_c_Vert:Rd B0 h0 eV v_c_Vert vs_c_Vert) (lN_c_Vert:vs_c_Vert.length=c.Vert.length) (IN_c_Vert:∀ j,j<c.Vert.length→Rd B0 h0 ZT (gi vs_c_Vert j) (gi c.Vert j)) (SN_c_Horz:Rd B0 h0 eV v_c_Horz vs_c_Horz) (lN_c_Horz:vs_c_Horz.length=c.Horz.length) (IN_c_Horz:∀ j,j<c.Horz.length→Rd B0 h0 ZT (gi vs_c_Horz j) (gi c.Horz j)) {r:(List Int)}(hp:Zak c vertical i=some r) :
  ∃ u k',Is G 140 [.ag [v_c_X,v_c_Y,v_c_Vert,v_c_Horz],.b vertical,.n i] h u k'∧∃ C,C=u∧Rd B0 h0 ZT C r∧Own (fun r=>r<h.n) h k' []:=by
 refine WC.is (zV ZbL ?_);unfold Zak at hp;let B:Nat→Prop:=(fun r=>r<h.n);have hO:Own B h h []:=Own.start0 h;refine Zi (zh (hO.boxd (cs:=[v_c_X,v_c_Y,v_c_Vert,v_c_Horz]) hO.fr rfl rfl) ?_);rintro _ _ ⟨A,rfl,_,_,p⟩;refine Zb (.sn) rfl (Ze (Zi (Zd (z1 (r:=A) (o:=0) rfl rfl) (Zd (zf (p.box 0 rfl) rfl rfl) (Zb v_c_Horz rfl (Ze (ZR (Zi (Zb (.b vertical) rfl ?_)))))))));refine Ze (Zg4 hp (fun l e fr k=>e=.normal∧∃ g d,fr 2=.n i∧fr 7=g∧Rd B0 h0 eV g d∧d.length=l.length∧(∀ j,j<l.length→Rd B0 h0 ZT (gi d j) (gi l j))∧Own B h k []) (fun _ hp=>?_) ?_)
 ·refine z5 hp rfl (fun D hp=>?_) (fun D hp=>?_)
  ·refine Zac (Zd (z1 (r:=A) (o:=0) rfl rfl) (Zd (zf (p.box 0 rfl) rfl rfl) (Zb v_c_Vert rfl (Zt ?_))));cases hp;exact ⟨rfl,v_c_Vert,vs_c_Vert,rfl,rfl,SN_c_Vert,lN_c_Vert,(fun j hj=>((IN_c_Vert j hj))),(p.pk [])⟩
  ·refine Zcn ?_;cases hp;exact ⟨rfl,v_c_Horz,vs_c_Horz,rfl,rfl,SN_c_Horz,lN_c_Horz,(fun j hj=>((IN_c_Horz j hj))),(p.pk [])⟩
 rintro l hp _ _ q ⟨rfl,g,d,s,v,x,y,J,m⟩;refine Z5 (ZR (Zi (Zb _ s (Zd (zY rfl rfl) (Zb (.b (decide (i<0))) rfl (Zaa 5 (fun f k=>q=k∧f 20=.b ((decide (i<0))||(decide ((l.length:Int)≤i)))∧f 2=.n i∧f 7=g) ?_ ?_))))))
 ·rcases bc (decide (i<0)) with a|a
  ·refine Zu rfl a (Zu rfl a (Zu rfl a (Zu rfl a (Zd (Zbo (w:=(decide (i<0))||(decide ((l.length:Int)≤i))) rfl a rfl) (Zt ?_)))));exact ⟨rfl,rfl,s,v⟩
  ·refine Z7 rfl a (Zb _ s (Z7 rfl a (Zb _ v (Z7 rfl a (Zd (ZdE (n:=(l).length) (m.rd0 (Rd.via HO x):Sl eV q g d) y rfl) (Z7 rfl a (Zd (Zb5 rfl rfl) (Zd (Zbp rfl a rfl) (Zt ?_)))))))));exact ⟨rfl,rfl,s,v⟩
 rintro _ _ ⟨rfl,H,F,I⟩;refine Ze (z5 hp H (fun E hp=>?_) (fun E hp=>?_))
 ·refine Zi (Zb (.sn) rfl (Ze (zp (zc (ZS (ze rfl ZA) ?_)))));cases hp;exact ⟨V.sn,rfl,(fun _ _=>Sl.nil),(m.pk [])⟩
 ·refine Zag (Zi (Zb _ I (Zb _ F (ckk hp fun t hp=>Zd (zG (m.rd0 (Rd.via HO x):Sl eV q g d) rfl rfl (by rw [y];exact t)) (Zd (Za7 (m.rd0 (Rd.via HO x):Sl eV q g d) rfl (by rw [y];exact Zr t) rfl) (Zb ((gi d i.toNat)) rfl (Ze (zp (ZS (ze rfl ZA) ?_)))))))));cases hp;exact ⟨gi d i.toNat,rfl,(fun j hj=>((J j hj))) _ (Zr t),(m.pk [])⟩

theorem zy.ok {h:Hp}{s:List Int}{f:Int→Option Bool}{v_s:V}{id_f:Nat}{cap_f:List V}(s_s:Sl ZT h v_s s) (f_f:∀ (k:Hp) (x0:Int) (y:Bool),Ex' (fun r=>r<h.n) h k→f x0=some y→∃ u k',Is G id_f (.n x0::cap_f) k u k'∧V.b y=u∧Own (fun r=>r<k.n) k k' []) {r:Int}(hp:zy s f=some r) :
  ∃ u k',Is G 91 [v_s,.f id_f cap_f] h u k'∧V.n r=u∧Own (fun r=>r<h.n) h k' []:=by
 refine WC.is (zV Zbn ?_);unfold zy at hp;let B:Nat→Prop:=(fun r=>r<h.n);have hO:Own B h h []:=Own.start0 h;refine Zi (Zb (.n 0) rfl (Ze (ZR (Zi (Zb v_s rfl (Zd (Zay (hO.rd0 s_s.rd) rfl) (Zb (.n 0) rfl (Ze (Zaj (Zb4 hp (fun x fr k=>fr 0=v_s∧fr 1=.f id_f cap_f∧fr 7=.n (s.length:Int)∧fr 8=.n x∧Own B h k []) (fun|.inl _,e,fr,k=>e=(.exit 0)∧Own B h k []|.inr x1,e,fr,k=>e=.ret∧fr 4=.n x1∧Own B h k []) ⟨rfl,rfl,rfl,rfl,(hO.pk [])⟩ ?_ ?_))))))))))
 ·rintro x _ _ ⟨l,m,o,d,a⟩ _ hp;dsimp only [zy.s0] at hp;refine Zi (Zd (zY d o) (Ze (ZR (z5 hp rfl (fun p hp=>?_) (fun p hp=>?_)))))
  ·refine Zag (ZR (Zaj (Zi (Zb _ d (Zb (.n x) rfl (Ze (Zi (Zb _ m (Zb _ l ?_)))))))));refine Zb (.n x) rfl (ckk hp fun g hp=>Zd (zG (a.rd0 s_s.rd) rfl rfl g) (Zd (Za7 (a.rd0 s_s.rd) rfl (Zr g) rfl) ?_));obtain ⟨x2,A,hp⟩:=Zbj hp;obtain ⟨_,_,v,rfl,w⟩:=f_f _ _ _ a.ext A;refine Za1 rfl rfl v ?_;have j:=a.call w rfl;refine Ze (z5 hp rfl (fun q hp=>?_) (fun q hp=>?_))
   ·refine Zi (Zb (.n x) rfl (Zb (.n x) rfl (Ze (zp (ZaA (zc ?_))))));cases hp;exact ⟨nofun,rfl,rfl,(j.pk [])⟩
   ·refine Zcn (Zad (Z5 (Zac (ckk hp fun t hp=>Zd (zA d rfl t) (Zb (.n (x+1)) rfl (Zt ?_))))));cases hp;exact ⟨rfl,l,m,o,rfl,(j.pk [])⟩
  ·refine Zbh (zU ?_);cases hp;exact ⟨nofun,rfl,(a.pk [])⟩
 rintro (_|x1) hp _ _ _ i
 ·obtain ⟨rfl,c⟩:=i;refine Za8 (Z5 (Zi (Zb (.n (-1)) rfl (Ze (zp (ZS (ze rfl ZA) ?_))))));cases hp;exact ⟨rfl,(c.pk [])⟩
 ·obtain ⟨rfl,C,c⟩:=i;refine ZaA (zc (ZS (ze C ZA) ?_));cases hp;exact ⟨rfl,(c.pk [])⟩

theorem zZ.ok {h:Hp}{s:List Int}{f:Int→Option Bool}{v_s:V}{id_f:Nat}{cap_f:List V}(s_s:Sl ZT h v_s s) (f_f:∀ (k:Hp) (x0:Int) (y:Bool),Ex' (fun r=>r<h.n) h k→f x0=some y→∃ u k',Is G id_f (.n x0::cap_f) k u k'∧V.b y=u∧Own (fun r=>r<k.n) k k' []) {r:Bool}(hp:zZ s f=some r) :
  ∃ u k',Is G 78 [v_s,.f id_f cap_f] h u k'∧V.b r=u∧Own (fun r=>r<h.n) h k' []:=by
 refine WC.is (zV ZaZ ?_);unfold zZ at hp;let B:Nat→Prop:=(fun r=>r<h.n);have hO:Own B h h []:=Own.start0 h;refine Zi (Zb (.b false) rfl (Ze (Zi (Zb v_s rfl (Zb (.f id_f cap_f) rfl ?_)))));obtain ⟨x,⟨_,_,a,rfl,d⟩,hp⟩:=bdk hp fun _=>zy.ok (h:=h)  (hO.rd0 s_s.rd) (fun k z0 y hk hx=>f_f k z0 y (ZiS hO hk) hx);refine Za1 rfl rfl a ?_;have c:=hO.call d rfl;refine Zd (Zb5 rfl rfl) (Zb (.b (decide (0≤x))) rfl (Ze (zp (ZS (ze rfl ZA) ?_))));cases hp;exact ⟨rfl,(c.pk [])⟩

theorem zT.ok {h:Hp}{s:List Int}{v:Int}{v_s:V}(s_s:Sl ZT h v_s s) {r:Int}(hp:zT s v=some r) :
  ∃ u k',Is G 136 [v_s,.n v] h u k'∧V.n r=u∧Own (fun r=>r<h.n) h k' []:=by
 refine WC.is (zV ZbM ?_);unfold zT at hp;let B:Nat→Prop:=(fun r=>r<h.n);have hO:Own B h h []:=Own.start0 h;refine Zi (Zb (.n 0) rfl (Ze (ZR (Zi (Zb v_s rfl (Zd (Zay (hO.rd0 s_s.rd) rfl) (Zb (.n 0) rfl (Ze (Zaj (Zb4 hp (fun x fr k=>fr 0=v_s∧fr 1=.n v∧fr 7=.n (s.length:Int)∧fr 8=.n x∧Own B h k []) (fun|.inl _,e,fr,k=>e=(.exit 0)∧Own B h k []|.inr x1,e,fr,k=>e=.ret∧fr 4=.n x1∧Own B h k []) ⟨rfl,rfl,rfl,rfl,(hO.pk [])⟩ ?_ ?_))))))))))
 ·rintro x _ _ ⟨g,i,j,c,a⟩ _ hp;dsimp only [zT.s0] at hp;refine Zi (Zd (zY c j) (Ze (ZR (z5 hp rfl (fun l hp=>?_) (fun l hp=>?_)))))
  ·refine Zag (ZR (Zaj (Zi (Zb _ c (Zb (.n x) rfl (Ze (Zi (Zb _ i (Zb _ g ?_)))))))));refine Zb (.n x) rfl (ckk hp fun d hp=>Zd (zG (a.rd0 s_s.rd) rfl rfl d) (Zd (Za7 (a.rd0 s_s.rd) rfl (Zr d) rfl) (Zd (ZbN rfl rfl) (Ze (z5 hp rfl (fun m hp=>?_) (fun m hp=>?_))))))
   ·refine Zi (Zb (.n x) rfl (Zb (.n x) rfl (Ze (zp (ZaA (zc ?_))))));cases hp;exact ⟨nofun,rfl,rfl,(a.pk [])⟩
   ·refine Zcn (Zad (Z5 (Zac (ckk hp fun o hp=>Zd (zA c rfl o) (Zb (.n (x+1)) rfl (Zt ?_))))));cases hp;exact ⟨rfl,g,i,j,rfl,(a.pk [])⟩
  ·refine Zbh (zU ?_);cases hp;exact ⟨nofun,rfl,(a.pk [])⟩
 rintro (_|x1) hp _ _ _ f
 ·obtain ⟨rfl,b⟩:=f;refine Za8 (Z5 (Zi (Zb (.n (-1)) rfl (Ze (zp (ZS (ze rfl ZA) ?_))))));cases hp;exact ⟨rfl,(b.pk [])⟩
 ·obtain ⟨rfl,p,b⟩:=f;refine ZaA (zc (ZS (ze p ZA) ?_));cases hp;exact ⟨rfl,(b.pk [])⟩

theorem Za2.ok {h:Hp}{s:List Int}{v:Int}{v_s:V}(s_s:Sl ZT h v_s s) {r:Bool}(hp:Za2 s v=some r) :
  ∃ u k',Is G 118 [v_s,.n v] h u k'∧V.b r=u∧Own (fun r=>r<h.n) h k' []:=by
 refine WC.is (zV Zby ?_);unfold Za2 at hp;let B:Nat→Prop:=(fun r=>r<h.n);have hO:Own B h h []:=Own.start0 h;refine Zi (Zb (.b false) rfl (Ze (Zi (Zb v_s rfl (Zb (.n v) rfl ?_)))));obtain ⟨x,⟨_,_,a,rfl,d⟩,hp⟩:=bdk hp fun _=>zT.ok (h:=h)  (hO.rd0 s_s.rd);refine Za1 rfl rfl a ?_;have c:=hO.call d rfl;refine Zd (Zb5 rfl rfl) (Zb (.b (decide (0≤x))) rfl (Ze (zp (ZS (ze rfl ZA) ?_))));cases hp;exact ⟨rfl,(c.pk [])⟩

theorem ZaC.ok {h:Hp}{v:Int}{c0:List Int}{r_c0:Nat}{v_c0:V}{w_c0:Bool}(b_c0:h.m r_c0=some (.cells w_c0 [v_c0])) (s_c0:Sl ZT h v_c0 c0) {r:Bool}(hp:ZaC v c0=some r) :
  ∃ u k',Is G 141 [.n v,.p r_c0 0] h u k'∧V.b r=u∧Own (fun r=>r<h.n) h k' []:=by
 refine WC.is (zV ZbD ?_);unfold ZaC at hp;let B:Nat→Prop:=(fun r=>r<h.n);have hO:Own B h h []:=Own.start0 h;refine Zi (Zb (.b false) rfl (Ze (Zi (Zd (zf (hO.rdB0 (RdB.of b_c0)).choose_spec rfl rfl) (Zb (.n v) rfl ?_)))));obtain ⟨x,⟨_,_,a,rfl,d⟩,hp⟩:=bdk hp fun _=>Za2.ok (h:=h)  (hO.rd0 s_c0.rd);refine Za1 rfl rfl a ?_;have c:=hO.call d rfl;refine Zb (.b x) rfl (Ze (zp (ZS (ze rfl ZA) ?_)));cases hp;exact ⟨rfl,(c.pk [])⟩

theorem ZaN.ok {h:Hp}{c:zu}{vertical:Bool}{i:Int}{other:Bool}{k_:Int}{v_c_X:V}{v_c_Y:V}{v_c_Vert:V}{vs_c_Vert:List V}{v_c_Horz:V}{vs_c_Horz:List V}(s_c_X:Sl ZT h v_c_X c.X) (s_c_Y:Sl ZT h v_c_Y c.Y) (sN_c_Vert:Sl eV h v_c_Vert vs_c_Vert) (lN_c_Vert:vs_c_Vert.length=c.Vert.length) (iN_c_Vert:∀ j,j<c.Vert.length→Sl ZT h (gi vs_c_Vert j) (gi c.Vert j)) (sN_c_Horz:Sl eV h v_c_Horz vs_c_Horz) (lN_c_Horz:vs_c_Horz.length=c.Horz.length) (iN_c_Horz:∀ j,j<c.Horz.length→Sl ZT h (gi vs_c_Horz j) (gi c.Horz j)) {r:Bool}(hp:ZaN c vertical i other k_=some r) :
  ∃ u k',Is G 123 [.ag [v_c_X,v_c_Y,v_c_Vert,v_c_Horz],.b vertical,.n i,.b other,.n k_] h u k'∧V.b r=u∧Own (fun r=>r<h.n) h k' []:=by
 refine WC.is (zV ZbX ?_);unfold ZaN at hp;let B:Nat→Prop:=(fun r=>r<h.n);have hO:Own B h h []:=Own.start0 h;refine Zi (zh (hO.boxd (cs:=[v_c_X,v_c_Y,v_c_Vert,v_c_Horz]) hO.fr rfl rfl) ?_);rintro _ C ⟨_,rfl,_,_,d⟩;refine Zb (.b false) rfl (Ze (Zi (Zd (zQ (d.box 0 rfl) rfl rfl) (Zb (.b other) rfl (Zb (.n k_) rfl ?_)))));obtain ⟨x,⟨_,_,m,H,rfl,g,t⟩,hp⟩:=bdk hp fun _=>Zak.ok (h:=C)  (d.pick [] rfl (by decide)) s_c_X.rd s_c_Y.rd sN_c_Vert.rd lN_c_Vert (fun j hj=>(iN_c_Vert j hj).rd) sN_c_Horz.rd lN_c_Horz (fun j hj=>(iN_c_Horz j hj).rd);refine Za1 rfl rfl m ?_;have l:=d.call t rfl;refine zh (l.alloc (cs:=[.sn]) l.fr) ?_;rintro _ _ ⟨F,rfl,_,_,e⟩;refine zh (e.stb (cs':=[H]) 1 rfl rfl rfl (e.rd0 g).cells ⟨rfl,Nat.le_of_ble_eq_true rfl,(all_cons (e.rd0 g).oneV rfl)⟩ rfl) ?_;rintro _ D ⟨rfl,_,_,f⟩;refine Ze (Zi (Zd (zQ (f.box 0 rfl) rfl rfl) (Zb (.b vertical) rfl (Zb (.n i) rfl ?_))));obtain ⟨x1,⟨_,E,o,_,rfl,A,v⟩,hp⟩:=bdk hp fun _=>Zak.ok (h:=D)  (f.pick [] rfl (by decide)) s_c_X.rd s_c_Y.rd sN_c_Vert.rd lN_c_Vert (fun j hj=>(iN_c_Vert j hj).rd) sN_c_Horz.rd lN_c_Horz (fun j hj=>(iN_c_Horz j hj).rd);refine Za1 rfl rfl o ?_;have a:=f.call v rfl;refine Zd (ZhJ (vs:=[.p F 0]) (Zge rfl ZgX)) ?_;obtain ⟨x2,⟨_,_,q,rfl,w⟩,hp⟩:=bdk hp fun _=>zZ.ok (h:=E)  (a.rd0 A) (fun k z0 y hk hx=>ZaC.ok (h:=k) ((hk.2 _ (Hp.lt (a.box 1 rfl))).trans (a.box 1 rfl)) (((a.rd0 g)).ext ⟨hk.1,hk.2⟩) hx);refine Za1 rfl rfl q ?_;have s:=a.call w rfl;refine Zb (.b x2) rfl (Ze (zp (ZS (ze rfl ZA) ?_)));cases hp;exact ⟨rfl,(s.pk [])⟩

end Mu
