/- The code comes to what was worked out. -/
import Derived.Test.YtfdidkebomeiaaaMuDf
import Derived.Test.YtfdidkebomeiaaaMuPa
import Derived.Test.YtfdidkebomeiaaaMuC2
set_option linter.unusedVariables false
set_option linter.unnecessarySimpa false
set_option linter.unusedSimpArgs false
set_option maxHeartbeats 2000000
set_option maxRecDepth 10000
namespace Mu
open Go (IntKind BinOp UnOp)
theorem zI.ok {h:Hp}{l:List Za}{v_l:V}(s_l:Sl Zd h v_l l) {r:Int}(hp:zI l=some r) :
  ∃ u k',Is G 34 [v_l] h u k'∧V.n r=u∧Own (fun r=>r<h.n) h k' []:=by
 refine WC.is (ZaD Zen ?_)
 unfold zI at hp
 let B:Nat→Prop:=(fun r=>r<h.n)
 have hO:Own B h h []:=Own.start0 h
 refine Zg (Zb (.n 0) rfl (Ze (Z9 (Zg (Zb v_l rfl (Zc (Zap (hO.rd0 s_l.rd) rfl) (Zc (Zd1 rfl rfl) (Ze (zu hp rfl (fun aa hp=>?_) (fun aa hp=>?_))))))))))
 ·refine Zg (Zb (.n 6) rfl (Ze (zK (ZI (ZN (ZY rfl Z6) ?_)))))
  cases hp
  exact ⟨rfl,(hO.pk [])⟩
 ·refine Zak (Z9 (Zg (Zb (.n 0) rfl (Ze (Zai (ZbM hp (fun v fr k=>fr 0=v_l∧fr 3=.n v∧Own B h k []) (fun|.inl _,e,fr,k=>e=(.exit 0)∧Own B h k []|.inr x,e,fr,k=>e=.ret∧fr 2=.n x∧Own B h k []) ⟨rfl,rfl,(hO.pk [])⟩ ?_ ?_))))))
  ·rintro v _ _ ⟨X,Y,K⟩ _ hp
   dsimp only [zI.s0] at hp
   refine Z9 (Zg (Zb _ Y (Zb _ X (Zc (Zap (K.rd0 s_l.rd) rfl) (Zc (zA rfl rfl) (Ze (zu hp rfl (fun ac hp=>?_) (fun ac hp=>?_))))))))
   ·refine Zak (Z9 (Zai (Zg (Zb (.n 0) rfl (Ze (Zai (ZbM hp (fun d fr k=>fr 0=v_l∧fr 3=.n v∧fr 4=.n d∧Own B h k []) (fun|.inl _,e,fr,k=>e=(.exit 2)∧fr 0=v_l∧fr 3=.n v∧Own B h k []|.inr x1,e,fr,k=>e=.ret∧fr 2=.n x1∧Own B h k []) ⟨X,Y,rfl,(K.pk [])⟩ ?_ ?_)))))))
    ·rintro d _ D ⟨p,q,s,c⟩ _ hp
     dsimp only [zI.s1] at hp
     refine Z9 (Zg (Zb _ s (Zc (zA rfl rfl) (Ze (zu hp rfl (fun ad hp=>?_) (fun ad hp=>?_))))))
     ·refine Zak (Z9 (Zai (Zg (Zb _ p (Zb _ q (Zb _ s (ckk hp fun j hp=>Zc (ZP (c.rd0 s_l.rd) rfl rfl j) (Zc (ZaR (c.rd0 s_l.rd) (Zf j) rfl rfl) (ckk hp fun t hp=>Zc (Zbd (c.rd0 s_l.rd) (Zf j) rfl rfl t rfl) ?_)))))))))
      refine Zc (zw (c.rd0 s_l.rd) rfl (Zf j) (zL t)) (Zb (.n (((gi l v.toNat).Next).get d)) rfl (Ze (Zg (Zb _ p (Zb _ q (Zb _ s (Zc (ZP (c.rd0 s_l.rd) rfl rfl j) (Zc (ZaR (c.rd0 s_l.rd) (Zf j) rfl rfl) (Zc (Zbd (c.rd0 s_l.rd) (Zf j) rfl rfl t rfl) (Zc (zw (c.rd0 s_l.rd) rfl (Zf j) (Zc2 t)) (Zb (.n (((gi l v.toNat).Owner).get d)) rfl ?_)))))))))))
      refine Ze (Z9 (Zg (Zb (.n (((gi l v.toNat).Next).get d)) rfl (Zc (Zb7 rfl rfl) (Ze (zu hp rfl (fun ae hp=>?_) (fun ae hp=>?_)))))))
      ·refine Z9 (Zg (Zb (.n (((gi l v.toNat).Owner).get d)) rfl (Zc (Zca rfl rfl) (Ze (zu hp rfl (fun af hp=>?_) (fun af hp=>?_))))))
       ·refine Zg (Zb (.n 9) rfl (Ze (zK (ZI (ZI (ZaZ (ZI ?_)))))))
        cases hp
        exact ⟨nofun,rfl,rfl,(c.pk [])⟩
       ·refine Zak (Zb8 (zW (Za9 (Zt (Zaf (Zb _ s (ckk hp fun ah hp=>Zc (ZV rfl rfl ah) (Zb (.n (d+1)) rfl (Zj ?_)))))))))
        cases hp
        exact ⟨rfl,p,q,rfl,(c.pk [])⟩
      ·refine Zak (Z9 (Zg (Zb (.n (((gi l v.toNat).Next).get d)) rfl (Zc (zA rfl rfl) (Zb (.b (decide ((((gi l v.toNat).Next).get d)<0))) rfl (zN 5 (fun f k=>D=k∧f 45=.b ((decide ((((gi l v.toNat).Next).get d)<0))||(decide ((l.length:Int)≤(((gi l v.toNat).Next).get d))))∧f 0=v_l∧f 3=.n v∧f 4=.n d∧f 5=.n (((gi l v.toNat).Next).get d)∧f 6=.n (((gi l v.toNat).Owner).get d)) ?_ ?_))))))
       ·rcases bc (decide ((((gi l v.toNat).Next).get d)<0)) with g|g
        ·refine Zl rfl g (Zl rfl g (Zl rfl g (Zl rfl g (Zc (Zct (w:=(decide ((((gi l v.toNat).Next).get d)<0))||(decide ((l.length:Int)≤(((gi l v.toNat).Next).get d)))) rfl g rfl) (Zj ?_)))))
         exact ⟨rfl,rfl,p,q,s,rfl,rfl⟩
        ·refine Zq rfl g (Zb (.n (((gi l v.toNat).Next).get d)) rfl (Zq rfl g (Zb _ p (Zq rfl g (Zc (Zap (c.rd0 s_l.rd) rfl) (Zq rfl g (Zc (Zda rfl rfl) (Zc (Zcu rfl g rfl) (Zj ?_)))))))))
         exact ⟨rfl,rfl,p,q,s,rfl,rfl⟩
       rintro _ _ ⟨rfl,ak,N,E,O,F,P⟩
       refine Zb _ ak (zN 4 (fun f k=>D=k∧f 50=.b (((decide ((((gi l v.toNat).Next).get d)<0))||(decide ((l.length:Int)≤(((gi l v.toNat).Next).get d))))||(decide (((gi l v.toNat).Next).get d=v)))∧f 0=v_l∧f 3=.n v∧f 4=.n d∧f 5=.n (((gi l v.toNat).Next).get d)∧f 6=.n (((gi l v.toNat).Owner).get d)) ?_ ?_)
       ·rcases bc ((decide ((((gi l v.toNat).Next).get d)<0))||(decide ((l.length:Int)≤(((gi l v.toNat).Next).get d)))) with i|i
        ·refine Zl rfl i (Zl rfl i (Zl rfl i (Zc (Zct (w:=((decide ((((gi l v.toNat).Next).get d)<0))||(decide ((l.length:Int)≤(((gi l v.toNat).Next).get d))))||(decide (((gi l v.toNat).Next).get d=v))) rfl i rfl) (Zj ?_))))
         exact ⟨rfl,rfl,N,E,O,F,P⟩
        ·refine Zq rfl i (Zb _ F (Zq rfl i (Zb _ E (Zq rfl i (Zc (Zb7 rfl rfl) (Zc (Zcu rfl i rfl) (Zj ?_)))))))
         exact ⟨rfl,rfl,N,E,O,F,P⟩
       rintro _ _ ⟨rfl,al,A,H,C,Q,I⟩
       refine Ze (zu hp al (fun ag hp=>?_) (fun ag hp=>?_))
       ·refine Zg (Zb (.n 3) rfl (Ze (zK (ZI (ZaZ (ZI ?_))))))
        cases hp
        exact ⟨nofun,rfl,rfl,(c.pk [])⟩
       ·refine Zak (Zg (Zb _ A (Zb _ Q (Zb _ C (ckk hp fun M hp=>Zc (ZV rfl rfl M) (Zc (ZcO rfl rfl (by decide)) (ckk hp fun m hp=>Zc (ZP (c.rd0 s_l.rd) rfl rfl m) (Zc (ZaR (c.rd0 s_l.rd) (Zf m) rfl rfl) (ckk hp fun y hp=>?_)))))))))
        refine Zc (Zbd (c.rd0 s_l.rd) (Zf m) rfl rfl y rfl) (Zc (zw (c.rd0 s_l.rd) rfl (Zf m) (zL y)) (Zb _ H (Zc (Zca rfl rfl) (Zb (.b (!(decide (((gi l (((gi l v.toNat).Next).get d:Int).toNat).Next).get ((d+2).tmod 4)=v)))) rfl (zN 12 (fun f k=>D=k∧f 74=.b ((!(decide (((gi l (((gi l v.toNat).Next).get d:Int).toNat).Next).get ((d+2).tmod 4)=v)))||(!(decide (((gi l (((gi l v.toNat).Next).get d:Int).toNat).Owner).get ((d+2).tmod 4)=((gi l v.toNat).Owner).get d))))∧f 0=v_l∧f 3=.n v∧f 4=.n d∧f 6=.n (((gi l v.toNat).Owner).get d)) ?_ ?_)))))
        ·rcases bc (!(decide (((gi l (((gi l v.toNat).Next).get d:Int).toNat).Next).get ((d+2).tmod 4)=v))) with a|a
         ·refine Zl rfl a (Zl rfl a (Zl rfl a (Zl rfl a (Zl rfl a (Zl rfl a (Zl rfl a (Zl rfl a (Zl rfl a (Zl rfl a (Zl rfl a (Zc (Zct (w:=(!(decide (((gi l (((gi l v.toNat).Next).get d:Int).toNat).Next).get ((d+2).tmod 4)=v)))||(!(decide (((gi l (((gi l v.toNat).Next).get d:Int).toNat).Owner).get ((d+2).tmod 4)=((gi l v.toNat).Owner).get d)))) rfl a rfl) (Zj ?_))))))))))))
          exact ⟨rfl,rfl,A,H,C,I⟩
         ·refine Zq rfl a (Zb _ A (Zq rfl a (Zb _ Q (Zq rfl a (Zb _ C (Zq rfl a (Zc (ZV rfl rfl M) (Zq rfl a (Zc (ZcO rfl rfl (by decide)) (Zq rfl a (Zc (ZP (c.rd0 s_l.rd) rfl rfl m) (Zq rfl a (Zc (ZaR (c.rd0 s_l.rd) (Zf m) rfl rfl) ?_)))))))))))))
          refine Zq rfl a (Zc (Zbd (c.rd0 s_l.rd) (Zf m) rfl rfl y rfl) (Zq rfl a (Zc (zw (c.rd0 s_l.rd) rfl (Zf m) (Zc2 y)) (Zq rfl a (Zb _ I (Zq rfl a (Zc (Zca rfl rfl) (Zc (Zcu rfl a rfl) (Zj ?_)))))))))
          exact ⟨rfl,rfl,A,H,C,I⟩
        rintro _ _ ⟨rfl,an,R,S,T,am⟩
        refine Zb _ an (zN 3 (fun f k=>D=k∧f 78=.b (((!(decide (((gi l (((gi l v.toNat).Next).get d:Int).toNat).Next).get ((d+2).tmod 4)=v)))||(!(decide (((gi l (((gi l v.toNat).Next).get d:Int).toNat).Owner).get ((d+2).tmod 4)=((gi l v.toNat).Owner).get d))))||(decide ((((gi l v.toNat).Owner).get d)<(-2))))∧f 0=v_l∧f 3=.n v∧f 4=.n d) ?_ ?_)
        ·rcases bc ((!(decide (((gi l (((gi l v.toNat).Next).get d:Int).toNat).Next).get ((d+2).tmod 4)=v)))||(!(decide (((gi l (((gi l v.toNat).Next).get d:Int).toNat).Owner).get ((d+2).tmod 4)=((gi l v.toNat).Owner).get d)))) with o|o
         ·refine Zl rfl o (Zl rfl o (Zc (Zct (w:=((!(decide (((gi l (((gi l v.toNat).Next).get d:Int).toNat).Next).get ((d+2).tmod 4)=v)))||(!(decide (((gi l (((gi l v.toNat).Next).get d:Int).toNat).Owner).get ((d+2).tmod 4)=((gi l v.toNat).Owner).get d))))||(decide ((((gi l v.toNat).Owner).get d)<(-2)))) rfl o rfl) (Zj ?_)))
          exact ⟨rfl,rfl,R,S,T⟩
         ·refine Zq rfl o (Zb _ am (Zq rfl o (Zc (zA rfl rfl) (Zc (Zcu rfl o rfl) (Zj ?_)))))
          exact ⟨rfl,rfl,R,S,T⟩
        rintro _ _ ⟨rfl,ar,ao,ap,aq⟩
        refine Ze (zu hp ar (fun ab hp=>?_) (fun ab hp=>?_))
        ·refine Zg (Zb (.n 9) rfl (Ze (zK (ZaZ (ZI ?_)))))
         cases hp
         exact ⟨nofun,rfl,rfl,(c.pk [])⟩
        ·refine ZcB (Zam (Zt (Zaf (Zb _ aq (ckk hp fun ai hp=>Zc (ZV rfl rfl ai) (Zb (.n (d+1)) rfl (Zj ?_)))))))
         cases hp
         exact ⟨rfl,ao,ap,rfl,(c.pk [])⟩
     ·refine Zb8 (zW ?_)
      cases hp
      exact ⟨nofun,rfl,p,q,(c.pk [])⟩
    rintro (_|x1) hp _ _ _ W
    ·obtain ⟨rfl,av,ax,L⟩:=W
     refine Za9 (Zam (Zt (Zaf (Zb _ ax (ckk hp fun aj hp=>Zc (ZV rfl rfl aj) (Zb (.n (v+1)) rfl (Zj ?_)))))))
     cases hp
     exact ⟨rfl,av,rfl,(L.pk [])⟩
    ·obtain ⟨rfl,aw,L⟩:=W
     refine ZaZ (ZaZ (ZI ?_))
     cases hp
     exact ⟨nofun,rfl,aw,(L.pk [])⟩
   ·refine Zb8 (zW ?_)
    cases hp
    exact ⟨nofun,rfl,(K.pk [])⟩
  rintro (_|x) hp _ _ _ U
  ·obtain ⟨rfl,J⟩:=U
   refine Za9 (Zt (Zg (Zb (.n 0) rfl (Ze (zK (ZN (ZY rfl Z6) ?_))))))
   cases hp
   exact ⟨rfl,(J.pk [])⟩
  ·obtain ⟨rfl,au,J⟩:=U
   refine ZaZ (ZI (ZN (ZY au Z6) ?_))
   cases hp
   exact ⟨rfl,(J.pk [])⟩

theorem zg.ok {h:Hp}{l:List Za}{v:Int}{v_l:V}(s_l:Sl Zd h v_l l) {r:(List Int)}(hp:zg l v=some r) :
  ∃ u k',Is G 36 [v_l,.n v] h u k'∧∃ an,an=u∧Own (fun r=>r<h.n) h k' [eSl Zad an r]:=by
 refine WC.is (ZaD Zfb ?_)
 unfold zg at hp
 let B:Nat→Prop:=(fun r=>r<h.n)
 have hO:Own B h h []:=Own.start0 h
 refine Zg (Zb (.sn) rfl (Ze (Zg (Zb v_l rfl (Zc (Zap (hO.rd0 s_l.rd) rfl) (ckk hp fun av hp=>zQ (hO.mks (E:=Zad) (y:=(0:Int)) (bytes:=8) (z:=(l.length:Int)) hO.fr rfl rfl rfl av (by decide)) ?_))))))
 rintro a _ ⟨_,_,aF⟩
 refine Zb a rfl (Ze (Z9 (Zg (Zb (.n 0) rfl (Ze (Zai (ZbM hp (fun|(far,i),fr,k=>fr 0=v_l∧fr 1=.n v∧fr 5=a∧fr 6=.n i∧Own B h k [eSl Zad a far]) (fun far1 e fr k=>e=(.exit 0)∧fr 0=v_l∧fr 1=.n v∧fr 5=a∧Own B h k [eSl Zad a far1]) ⟨rfl,rfl,rfl,rfl,(aF.pk [0])⟩ ?_ ?_)))))))
 ·rintro ⟨far,i⟩ _ _ ⟨K,ag,L,M,p⟩ _ hp
  dsimp only [zg.s0] at hp
  refine Z9 (Zg (Zb _ M (Zb _ K (Zc (Zap (p.rd0 s_l.rd) rfl) (Zc (zA rfl rfl) (Ze (zu hp rfl (fun ao hp=>?_) (fun ao hp=>?_))))))))
  ·refine Zak (Z9 (Zai (Zaf (Zb _ L (Zb _ M (ckk hp fun P hp=>Zc (ZP (p.sl 0 rfl) rfl rfl P) (zQ (p.ste (y:=(-1)) 0 rfl rfl (Zf P) rfl rfl ⟨rfl,Nat.le_of_ble_eq_true rfl,rfl⟩ rfl) ?_)))))))
   rintro _ _ ⟨rfl,_,_,aI⟩
   refine Zj (Zam (Zt (Zaf (Zb _ M (ckk hp fun aA hp=>Zc (ZV rfl rfl aA) (Zb (.n (i+1)) rfl (Zj ?_)))))))
   cases hp
   exact ⟨rfl,K,ag,L,rfl,(aI.pk [0])⟩
  ·refine Zb8 (zW ?_)
   cases hp
   exact ⟨nofun,rfl,K,ag,L,(p.pk [0])⟩
 rintro far1 hp _ _ _ ⟨rfl,aN,aO,af,ad⟩
 refine Za9 (Zt (Zg (Zb _ af (Zb _ aO (ckk hp fun Q hp=>Zc (ZP (ad.sl 0 rfl) rfl rfl Q) (zQ (ad.ste (y:=0) 0 rfl rfl (Zf Q) rfl rfl ⟨rfl,Nat.le_of_ble_eq_true rfl,rfl⟩ rfl) ?_))))))
 rintro _ _ ⟨rfl,_,_,aJ⟩
 refine Ze (Z9 (Zg (Zb (.n 0) rfl (Ze (Zai (ZbM hp (fun|(far2,round),fr,k=>fr 0=v_l∧fr 5=a∧fr 7=.n round∧Own B h k [eSl Zad a far2]) (fun far3 e fr k=>e=(.exit 2)∧fr 5=a∧Own B h k [eSl Zad a far3]) ⟨aN,af,rfl,(aJ.pk [0])⟩ ?_ ?_))))))
 ·rintro ⟨far2,round⟩ _ _ ⟨ah,ai,aj,I⟩ _ hp
  dsimp only [zg.s1] at hp
  refine Z9 (Zg (Zb _ aj (Zb _ ah (Zc (Zap (I.rd0 s_l.rd) rfl) (Zc (zA rfl rfl) (Ze (zu hp rfl (fun ap hp=>?_) (fun ap hp=>?_))))))))
  ·refine Zak (Z9 (Zai (Zg (Zb (.n 0) rfl (Ze (Zai (ZbM hp (fun|(far4,i1),fr,k=>fr 0=v_l∧fr 5=a∧fr 7=.n round∧fr 8=.n i1∧Own B h k [eSl Zad a far4]) (fun far5 e fr k=>e=(.exit 4)∧fr 0=v_l∧fr 5=a∧fr 7=.n round∧Own B h k [eSl Zad a far5]) ⟨ah,ai,aj,rfl,(I.pk [0])⟩ ?_ ?_)))))))
   ·rintro ⟨far4,i1⟩ _ _ ⟨N,ak,al,am,J⟩ _ hp
    dsimp only [zg.s2] at hp
    refine Z9 (Zg (Zb _ am (Zb _ N (Zc (Zap (J.rd0 s_l.rd) rfl) (Zc (zA rfl rfl) (Ze (zu hp rfl (fun aq hp=>?_) (fun aq hp=>?_))))))))
    ·refine Zak (Z9 (Zai (Zg (Zb (.n 0) rfl (Ze (Zai (ZbM hp (fun|(far6,d),fr,k=>fr 0=v_l∧fr 5=a∧fr 7=.n round∧fr 8=.n i1∧fr 9=.n d∧Own B h k [eSl Zad a far6]) (fun far7 e fr k=>e=(.exit 6)∧fr 0=v_l∧fr 5=a∧fr 7=.n round∧fr 8=.n i1∧Own B h k [eSl Zad a far7]) ⟨N,ak,al,am,rfl,(J.pk [0])⟩ ?_ ?_)))))))
     ·rintro ⟨far6,d⟩ _ ae ⟨q,s,x,m,A,g⟩ _ hp
      dsimp only [zg.s3] at hp
      refine Z9 (Zg (Zb _ A (Zc (zA rfl rfl) (Ze (zu hp rfl (fun ar hp=>?_) (fun ar hp=>?_))))))
      ·refine Zak (Z9 (Zai (Zg (Zb _ q (Zb _ m (Zb _ A (ckk hp fun o hp=>Zc (ZP (g.rd0 s_l.rd) rfl rfl o) (Zc (ZaR (g.rd0 s_l.rd) (Zf o) rfl rfl) (ckk hp fun R hp=>Zc (Zbd (g.rd0 s_l.rd) (Zf o) rfl rfl R rfl) ?_)))))))))
       refine Zc (zw (g.rd0 s_l.rd) rfl (Zf o) (zL R)) (Zb (.n (((gi l i1.toNat).Next).get d)) rfl (Ze (Zg (Zb _ s (Zb _ m (ckk hp fun S hp=>Zc (ZP (g.sl 0 rfl) rfl rfl S) (Zc (zw (g.sl 0 rfl) rfl (Zf S) rfl) (Zb _ x (Zc (Zb7 rfl rfl) (Zb (.b (decide (gi far6 i1.toNat=round))) rfl (zN 3 (fun f k=>ae=k∧f 58=.b ((decide (gi far6 i1.toNat=round))&&(decide (0≤(((gi l i1.toNat).Next).get d))))∧f 0=v_l∧f 10=.n (((gi l i1.toNat).Next).get d)∧f 5=a∧f 7=.n round∧f 8=.n i1∧f 9=.n d) ?_ ?_)))))))))))
       ·rcases bc (decide (gi far6 i1.toNat=round)) with j|j
        ·refine Zq rfl j (Zb (.n (((gi l i1.toNat).Next).get d)) rfl (Zq rfl j (Zc (Zda rfl rfl) (Zc (ZcU rfl j rfl) (Zj ?_)))))
         exact ⟨rfl,rfl,q,rfl,s,x,m,A⟩
        ·refine Zl rfl j (Zl rfl j (Zc (ZcT (w:=(decide (gi far6 i1.toNat=round))&&(decide (0≤(((gi l i1.toNat).Next).get d)))) rfl j rfl) (Zj ?_)))
         exact ⟨rfl,rfl,q,rfl,s,x,m,A⟩
       rintro _ _ ⟨rfl,aC,U,C,D,W,X,Y⟩
       refine Zb _ aC ?_
       obtain ⟨t,aM,hp⟩:=ZaP hp
       refine zN 7 (fun f k=>ae=k∧f 66=.b t∧f 0=v_l∧f 10=.n (((gi l i1.toNat).Next).get d)∧f 5=a∧f 7=.n round∧f 8=.n i1∧f 9=.n d) ?_ ?_
       ·clear hp;rcases Zbi aM with ⟨c,hp⟩|⟨c,hp⟩
        ·refine Zq rfl c (Zb _ D (Zq rfl c (Zb _ C (Zq rfl c (Zc (Zrw rfl rfl) (Zq rfl c (ckk hp fun T hp=>Zc (ZP (g.sl 0 rfl) rfl rfl T) (Zq rfl c (Zc (zw (g.sl 0 rfl) rfl (Zf T) rfl) (Zq rfl c (Zc (zA rfl rfl) (Zc (ZaT (v:=.b t) rfl c (Eq.trans (b:=V.b (decide ((gi far6 (max (((gi l i1.toNat).Next).get d) 0:Int).toNat)<0))) rfl (congrArg V.b (Option.some.inj hp)))) ?_))))))))))))
         refine Zj ?_
         exact ⟨rfl,rfl,U,C,D,W,X,Y⟩
        ·refine Zl rfl c (Zl rfl c (Zl rfl c (Zl rfl c (Zl rfl c (Zl rfl c (Zc (ZaI (v:=.b t) rfl c (Eq.trans (b:=V.b false) rfl (congrArg V.b (Option.some.inj hp)))) (Zj ?_)))))))
         exact ⟨rfl,rfl,U,C,D,W,X,Y⟩
       rintro _ _ ⟨rfl,aE,aa,aD,F,H,ab,ac⟩
       refine Ze (zu hp aE (fun au hp=>?_) (fun au hp=>?_))
       ·refine Zaf (Zb _ F (Zb _ aD (Zb _ H (ckk hp fun aB hp=>Zc (ZV rfl rfl aB) (ckk hp fun O hp=>Zc (ZP (g.sl 0 rfl) rfl rfl O) (zQ (g.ste (y:=(round+1)) 0 rfl rfl (Zf O) rfl rfl ⟨rfl,Nat.le_of_ble_eq_true rfl,rfl⟩ rfl) ?_))))))
        rintro _ _ ⟨rfl,_,_,aH⟩
        refine Zj (Zam (Zt (Zaf (Zb _ ac (ckk hp fun aw hp=>Zc (ZV rfl rfl aw) (Zb (.n (d+1)) rfl (Zj ?_)))))))
        cases hp
        exact ⟨rfl,aa,F,H,ab,rfl,(aH.pk [0])⟩
       ·refine ZcB (Zam (Zt (Zaf (Zb _ ac (ckk hp fun ax hp=>Zc (ZV rfl rfl ax) (Zb (.n (d+1)) rfl (Zj ?_)))))))
        cases hp
        exact ⟨rfl,aa,F,H,ab,rfl,(g.pk [0])⟩
      ·refine Zb8 (zW ?_)
       cases hp
       exact ⟨nofun,rfl,q,s,x,m,(g.pk [0])⟩
     rintro far7 hp _ _ _ ⟨rfl,aT,aU,aV,aW,aG⟩
     refine Za9 (Zam (Zt (Zaf (Zb _ aW (ckk hp fun ay hp=>Zc (ZV rfl rfl ay) (Zb (.n (i1+1)) rfl (Zj ?_)))))))
     cases hp
     exact ⟨rfl,aT,aU,aV,rfl,(aG.pk [0])⟩
    ·refine Zb8 (zW ?_)
     cases hp
     exact ⟨nofun,rfl,N,ak,al,(J.pk [0])⟩
   rintro far5 hp _ _ _ ⟨rfl,aQ,aR,aS,aL⟩
   refine Za9 (Zam (Zt (Zaf (Zb _ aS (ckk hp fun az hp=>Zc (ZV rfl rfl az) (Zb (.n (round+1)) rfl (Zj ?_)))))))
   cases hp
   exact ⟨rfl,aQ,aR,rfl,(aL.pk [0])⟩
  ·refine Zb8 (zW ?_)
   cases hp
   exact ⟨nofun,rfl,ai,(I.pk [0])⟩
 rintro far3 hp _ _ _ ⟨rfl,aP,aK⟩
 refine Za9 (Zt (Zg (Zb _ aP (Zb a rfl (Ze (zK (ZN (ZY rfl Z6) ?_)))))))
 cases hp
 exact ⟨a,rfl,(aK.pk [0])⟩

theorem Zaa.ok {h:Hp}{l:List Za}{v_l:V}(s_l:Sl Zd h v_l l) {r:(List (List Int))}(hp:Zaa l=some r) :
  ∃ u k',Is G 30 [v_l] h u k'∧∃ S W,S=u∧Own (fun r=>r<h.n) h k' [eSl eV S W,Zci Zad W r]:=by
 refine WC.is (ZaD Zet ?_)
 unfold Zaa at hp
 let B:Nat→Prop:=(fun r=>r<h.n)
 have hO:Own B h h []:=Own.start0 h
 refine Zg (Zb (.sn) rfl (Ze (Zg (Zb v_l rfl (Zc (Zap (hO.rd0 s_l.rd) rfl) (ckk hp fun ac hp=>zQ (hO.mks (E:=e_bool) (y:=false) (bytes:=1) (z:=(l.length:Int)) hO.fr rfl rfl rfl ac (by decide)) ?_))))))
 rintro f _ ⟨_,_,ak⟩
 refine Zb f rfl (Ze (Zg (Zb (.sn) rfl (Ze (Z9 (Zg (Zb (.n 0) rfl (Ze ?_))))))))
 refine Zai ?_
 have ap:=ak.nil eV
 have aq:=ap.allNil Zad 0
 refine ZbM hp (fun|(in_,out,v),fr,k=>∃ b a,fr 0=v_l∧fr 3=f∧fr 4=b∧fr 5=.n v∧Own B h k [eSl e_bool f in_,eSl eV b a,Zci Zad a out]) (fun out1 e fr k=>e=(.exit 0)∧∃ o C,fr 4=o∧Own B h k [eSl eV o C,Zci Zad C out1]) ⟨V.sn,[],rfl,rfl,rfl,rfl,(aq.pk [0,1,2])⟩ ?_ ?_
 ·rintro ⟨in_,out,v⟩ _ aw ⟨b,a,s,H,I,m,c⟩ _ hp
  dsimp only [Zaa.s0] at hp
  refine Z9 (Zg (Zb _ m (Zb _ s (Zc (Zap (c.rd0 s_l.rd) rfl) (Zc (zA rfl rfl) (Ze (zu hp rfl (fun X hp=>?_) (fun X hp=>?_))))))))
  ·refine Zak (Z9 (Zai (Z9 (Zg (Zb _ H (Zb _ m (ckk hp fun O hp=>Zc (ZP (c.sl 0 rfl) rfl rfl O) (Zc (zw (c.sl 0 rfl) rfl (Zf O) rfl) (Ze (zu hp rfl (fun Y hp=>?_) (fun Y hp=>?_)))))))))))
   ·refine Zb8 (zW (Za9 (Zt (Zaf (Zb _ m (ckk hp fun ae hp=>Zc (ZV rfl rfl ae) (Zb (.n (v+1)) rfl (Zj ?_))))))))
    cases hp
    exact ⟨rfl,b,a,s,H,I,rfl,(c.pk [0,1,2])⟩
   ·refine Zak (Zg (Zb _ s (Zb _ m ?_)))
    obtain ⟨x,⟨_,_,aj,N,rfl,av⟩,hp⟩:=bdk hp fun _=>zg.ok (h:=aw)  (c.rd0 s_l.rd)
    refine zU rfl rfl aj ?_
    have ar:=c.call av rfl
    refine Zb N rfl (Ze (Zg (Zb (.sn) rfl (Ze (Z9 (Zg (Zb (.n 0) rfl (Ze ?_))))))))
    refine Zai ?_
    have au:=ar.nil Zad
    refine ZbM hp (fun|(in_1,p,w),fr,k=>∃ q,fr 0=v_l∧fr 3=f∧fr 4=b∧fr 5=.n v∧fr 6=N∧fr 7=q∧fr 8=.n w∧Own B h k [eSl e_bool f in_1,eSl eV b a,Zci Zad a out,eSl Zad N x,eSl Zad q p]) (fun|(in_2,p1),e,fr,k=>e=(.exit 2)∧∃ i,fr 0=v_l∧fr 3=f∧fr 4=b∧fr 5=.n v∧fr 7=i∧Own B h k [eSl e_bool f in_2,eSl eV b a,Zci Zad a out,eSl Zad i p1]) ⟨V.sn,s,H,I,m,rfl,rfl,rfl,(au.pk [0,1,2,3,4])⟩ ?_ ?_
    ·rintro ⟨in_1,p,w⟩ _ _ ⟨q,t,A,J,K,L,M,g,d⟩ _ hp
     dsimp only [Zaa.s1] at hp
     refine Z9 (Zg (Zb _ g (Zb _ t (Zc (Zap (d.rd0 s_l.rd) rfl) (Zc (zA rfl rfl) (Ze (zu hp rfl (fun aa hp=>?_) (fun aa hp=>?_))))))))
     ·refine Zak (Z9 (Zai (Zg (Zb _ L (Zb _ g (ckk hp fun P hp=>Zc (ZP (d.sl 3 rfl) rfl rfl P) (Zc (zw (d.sl 3 rfl) rfl (Zf P) rfl) (Zc (Zda rfl rfl) (Ze (zu hp rfl (fun ab hp=>?_) (fun ab hp=>?_)))))))))))
      ·refine Zg (Zb _ A (Zb _ g (ckk hp fun Q hp=>Zc (ZP (d.sl 0 rfl) rfl rfl Q) (zQ (d.ste (y:=true) 0 rfl rfl (Zf Q) rfl rfl ⟨rfl,Nat.le_of_ble_eq_true rfl,rfl⟩ rfl) ?_))))
       rintro _ _ ⟨rfl,_,_,R⟩
       refine Ze (Zaf (Zb _ M (Zb _ g (zQ (R.bsl (E:=Zad) (l:=[w]) R.fr (by rw [(zf (v:=.n w) rfl Zbb)];rfl) rfl) ?_))))
       rintro _ _ ⟨_,_,D⟩
       refine ckk hp fun af hp=>zQ (D.app (bytes:=8) 4 D.fr rfl (D.sl 5 rfl) rfl rfl (fun _=>rfl) af (by decide)) ?_
       rintro U _ ⟨_,al⟩
       refine Zb U rfl (Zj (Zam (Zt (Zaf (Zb _ g (ckk hp fun ag hp=>Zc (ZV rfl rfl ag) (Zb (.n (w+1)) rfl (Zj ?_))))))))
       cases hp
       exact ⟨rfl,U,t,A,J,K,L,rfl,rfl,(al.pk [0,1,2,3,4])⟩
      ·refine ZcB (Zam (Zt (Zaf (Zb _ g (ckk hp fun ah hp=>Zc (ZV rfl rfl ah) (Zb (.n (w+1)) rfl (Zj ?_)))))))
       cases hp
       exact ⟨rfl,q,t,A,J,K,L,M,rfl,(d.pk [0,1,2,3,4])⟩
     ·refine Zb8 (zW ?_)
      cases hp
      exact ⟨nofun,rfl,q,t,A,J,K,M,(d.pk [0,1,2,4])⟩
    rintro ⟨in_2,p1⟩ hp _ _ _ ⟨rfl,i,ay,az,aA,aB,aC,F⟩
    refine Za9 (Zt (Zaf (Zb _ aA (Zb _ aC (zQ (F.bsl (E:=eV) (l:=[i]) F.fr (by rw [(zf (v:=i) rfl Zbb)];simp only [fill,(F.sl 3 rfl).cells];simp [over]) rfl) ?_)))))
    rintro _ _ ⟨_,_,j⟩
    refine ckk hp fun ai hp=>zQ (j.appV (bytes:=24) 1 j.fr rfl (j.sl 4 rfl) rfl rfl (by simp only [List.all_cons,List.all_nil,Bool.and_true];exact (j.sl 3 rfl).oneV) (by rw [(j.allLen 2 rfl:(a).length=(out).length)];exact ai) (by decide)) ?_
    rintro T _ ⟨_,am⟩
    have an:=am.absorb 2 3 rfl rfl (by decide)
    refine Zb T rfl (Zj (Zam (Zt (Zaf (Zb _ aB (ckk hp fun ad hp=>Zc (ZV rfl rfl ad) (Zb (.n (v+1)) rfl (Zj ?_))))))))
    cases hp
    exact ⟨rfl,T,a++[i],ay,az,rfl,rfl,(an.pk [0,1,2])⟩
  ·refine Zb8 (zW ?_)
   cases hp
   exact ⟨nofun,rfl,b,a,I,(c.pk [1,2])⟩
 rintro out1 hp _ _ _ ⟨rfl,o,C,ax,ao⟩
 refine Za9 (Zt (Zg (Zb _ ax (Zb o rfl (Ze (zK (ZN (ZY rfl Z6) ?_)))))))
 cases hp
 exact ⟨o,C,rfl,(ao.pk [0,1])⟩

theorem Zaw.ok {h:Hp}{l:List Za}{d:Z2}{v_l:V}(s_l:Sl Zd h v_l l) {r:Z2}(hp:Zaw l d=some r) :
  ∃ u k',Is G 202 [v_l,.ag (Zh.c d)] h u k'∧V.ag (Zh.c r)=u∧Own (fun r=>r<h.n) h k' []:=by
 refine WC.is (ZaD ZdY ?_)
 unfold Zaw at hp
 let B:Nat→Prop:=(fun r=>r<h.n)
 have hO:Own B h h []:=Own.start0 h
 refine Zg (zQ (hO.boxd (cs:=Zh.c d) hO.fr rfl rfl) ?_)
 rintro _ _ ⟨f,rfl,_,_,J⟩
 refine zQ (J.alloc (cs:=Zh.c (⟨0,0⟩:Z2)) J.fr) ?_
 rintro _ _ ⟨g,rfl,_,_,S⟩
 refine Ze (Z9 (Zhl ?_))
 have b:=S.bump 10
 refine ZaK v_l rfl (za rfl (Zal (r:=f) (o:=0) rfl rfl) (za rfl (zy (b.box 0 rfl) rfl rfl) (za rfl (Zal (r:=f) (o:=0) rfl rfl) (za rfl (zy (b.box 0 rfl) rfl rfl) (ckk hp fun m hp=>za rfl (ZP (b.rd0 s_l.rd) rfl rfl m) (za rfl (ZaR (b.rd0 s_l.rd) (Zf m) rfl rfl) (ckk hp fun D hp=>za rfl (Zbd (b.rd0 s_l.rd) (Zf m) rfl rfl D rfl) (za rfl (zw (b.rd0 s_l.rd) rfl (Zf m) (zL D)) (ZaK (.n (((gi l (d.Cell:Int).toNat).Next).get d.Dir)) rfl (Zba (Zt ?_)))))))))))
 refine Zg (zQ (b.bsl (E:=Zad) (l:=([1,0,3,2]:List Int)) b.fr (by rw [(zf (v:=.n 1) rfl (zf (v:=.n 0) rfl (zf (v:=.n 3) rfl (zf (v:=.n 2) rfl Zbb))))];rfl) rfl) ?_)
 rintro C _ ⟨_,_,T⟩
 refine Zb C rfl (Ze (Z9 (Zg (Zb (.n 0) rfl (Ze (Zai (ZbM hp (fun i fr k=>fr 0=v_l∧fr 3=.p f 0∧fr 4=.p g 0∧fr 5=.n (((gi l (d.Cell:Int).toNat).Next).get d.Dir)∧fr 6=C∧fr 7=.n i∧Own B h k [zO f (Zh.c d),zO g (Zh.c (⟨0,0⟩:Z2)),eSl Zad C ([1,0,3,2]:List Int)]) (fun|.inl _,e,fr,k=>e=(.exit 0)∧fr 3=.p f 0∧fr 4=.p g 0∧Own B h k [zO f (Zh.c d),zO g (Zh.c (⟨0,0⟩:Z2))]|.inr x,e,fr,k=>e=.ret∧fr 4=.p g 0∧Own B h k [zO g (Zh.c x)]) ⟨rfl,rfl,rfl,rfl,rfl,rfl,(T.pk [0,1,2])⟩ ?_ ?_)))))))
 ·rintro i _ _ ⟨M,w,t,y,N,A,K⟩ _ hp
  dsimp only [Zaw.s0] at hp
  refine Z9 (Zg (Zb _ A (Zc (zA rfl rfl) (Ze (zu hp rfl (fun O hp=>?_) (fun O hp=>?_))))))
  ·refine Zak (Z9 (Zai (Z9 (Zhl ?_))))
   have a:=K.bump 9
   refine za rfl (Zal (r:=f) (o:=0) w rfl) (za rfl (zy (a.box 0 rfl) rfl rfl) (ZaK _ N (ZaK _ A (ckk hp fun F hp=>za rfl (ZP (a.sl 2 rfl) rfl rfl F) (za rfl (zw (a.sl 2 rfl) rfl (Zf F) rfl) (ckk hp fun Q hp=>za rfl (ZV rfl rfl Q) (za rfl (ZcO rfl rfl (by decide)) (ZaK (.n ((d.Dir+(gi ([1,0,3,2]:List Int) i.toNat)).tmod 4)) rfl (Zba (Zt (Z9 ?_)))))))))))
   refine Zaf (Zb _ M (Zb _ y (Zb (.n ((d.Dir+(gi ([1,0,3,2]:List Int) i.toNat)).tmod 4)) rfl (ckk hp fun q hp=>Zc (ZP (a.rd0 s_l.rd) rfl rfl q) (Zc (ZaR (a.rd0 s_l.rd) (Zf q) rfl rfl) (ckk hp fun H hp=>Zc (Zbd (a.rd0 s_l.rd) (Zf q) rfl rfl H rfl) (Zc (zw (a.rd0 s_l.rd) rfl (Zf q) (zL H)) (Zc (Zda rfl rfl) (Ze (zu hp rfl (fun P hp=>?_) (fun P hp=>?_)))))))))))
   ·refine Zg (Zb _ y (Zb (.n ((d.Dir+(gi ([1,0,3,2]:List Int) i.toNat)).tmod 4)) rfl (Zc (Zdy (cs:=Zh.c (⟨((gi l (d.Cell:Int).toNat).Next).get d.Dir,(d.Dir+(gi ([1,0,3,2]:List Int) i.toNat)).tmod 4⟩:Z2)) (by rw [(zf (v:=.n (((gi l (d.Cell:Int).toNat).Next).get d.Dir)) rfl (zf (v:=.n ((d.Dir+(gi ([1,0,3,2]:List Int) i.toNat)).tmod 4)) rfl Zbb))];rfl)) (zQ (a.stb (cs':=Zh.c (⟨((gi l (d.Cell:Int).toNat).Next).get d.Dir,(d.Dir+(gi ([1,0,3,2]:List Int) i.toNat)).tmod 4⟩:Z2)) 1 rfl t rfl rfl ⟨rfl,Nat.le_of_ble_eq_true rfl,rfl⟩ rfl) ?_))))
    rintro _ _ ⟨rfl,_,_,U⟩
    refine Ze (zK (ZaZ (ZI ?_)))
    cases hp
    exact ⟨nofun,rfl,t,(U.pk [1])⟩
   ·refine ZcB (Zam (Zt (Zaf (Zb _ A (ckk hp fun R hp=>Zc (ZV rfl rfl R) (Zb (.n (i+1)) rfl (Zj ?_)))))))
    cases hp
    exact ⟨rfl,M,w,t,y,N,rfl,(a.pk [0,1,2])⟩
  ·refine Zb8 (zW ?_)
   cases hp
   exact ⟨nofun,rfl,w,t,(K.pk [0,1])⟩
 rintro (_|x) hp _ _ _ I
 ·obtain ⟨rfl,W,s,j⟩:=I
  refine Za9 (Zt (Zg (Zc (ZbI (j.box 0 rfl) W rfl) (zQ (j.stb (cs':=Zh.c d) 1 rfl s rfl rfl ⟨rfl,Nat.le_of_ble_eq_true rfl,rfl⟩ rfl) ?_))))
  rintro _ _ ⟨rfl,_,_,L⟩
  refine Ze (zK (ZN (ZiR s (L.box 1 rfl) rfl Z6) ?_))
  cases hp
  exact ⟨rfl,(L.pk [])⟩
 ·obtain ⟨rfl,s,j⟩:=I
  refine ZaZ (ZI (ZN (ZiR s (j.box 0 rfl) rfl Z6) ?_))
  cases hp
  exact ⟨rfl,(j.pk [])⟩

theorem ZG.ok {h:Hp}{l:List Za}{v_l:V}(s_l:Sl Zd h v_l l) {r:(List (List Z2))}(hp:ZG l=some r) :
  ∃ u k',Is G 177 [v_l] h u k'∧∃ av ay,av=u∧Own (fun r=>r<h.n) h k' [eSl eV av ay,Zci Zh ay r]:=by
 refine WC.is (ZaD Zer ?_)
 unfold ZG at hp
 let B:Nat→Prop:=(fun r=>r<h.n)
 have hO:Own B h h []:=Own.start0 h
 refine Zg (Zb (.sn) rfl (Ze (Zg (Zb v_l rfl (Zc (Zap (hO.rd0 s_l.rd) rfl) (ckk hp fun aD hp=>Zc (Zij rfl rfl aD) (ckk hp fun aI hp=>zQ (hO.mks (E:=e_bool) (y:=false) (bytes:=1) (z:=(4*(l.length:Int))) hO.fr rfl rfl rfl aI (by decide)) ?_)))))))
 rintro g _ ⟨_,_,aO⟩
 refine Zb g rfl (Ze (Zg (Zb (.sn) rfl (Ze (Z9 (Zg (Zb (.n 0) rfl (Ze ?_))))))))
 refine Zai ?_
 have aV:=aO.nil eV
 have aW:=aV.allNil Zh 0
 refine ZbM hp (fun|(met,out,v),fr,k=>∃ H J,fr 0=v_l∧fr 3=g∧fr 4=H∧fr 5=.n v∧Own B h k [eSl e_bool g met,eSl eV H J,Zci Zh J out]) (fun out1 e fr k=>e=(.exit 0)∧∃ I R,fr 4=I∧Own B h k [eSl eV I R,Zci Zh R out1]) ⟨V.sn,[],rfl,rfl,rfl,rfl,(aW.pk [0,1,2])⟩ ?_ ?_
 ·rintro ⟨met,out,v⟩ _ _ ⟨H,J,am,a5,an,ao,ab⟩ _ hp
  dsimp only [ZG.s0] at hp
  refine Z9 (Zg (Zb _ ao (Zb _ am (Zc (Zap (ab.rd0 s_l.rd) rfl) (Zc (zA rfl rfl) (Ze (zu hp rfl (fun az hp=>?_) (fun az hp=>?_))))))))
  ·refine Zak (Z9 (Zai (Zg (Zb (.n 0) rfl (Ze (Zai (ZbM hp (fun|(met1,out2,e_),fr,k=>∃ m i,fr 0=v_l∧fr 3=g∧fr 4=m∧fr 5=.n v∧fr 6=.n e_∧Own B h k [eSl e_bool g met1,eSl eV m i,Zci Zh i out2]) (fun|(met2,out3),e,fr,k=>e=(.exit 2)∧∃ P S,fr 0=v_l∧fr 3=g∧fr 4=P∧fr 5=.n v∧Own B h k [eSl e_bool g met2,eSl eV P S,Zci Zh S out3]) ⟨H,J,am,a5,an,ao,rfl,(ab.pk [0,1,2])⟩ ?_ ?_)))))))
   ·rintro ⟨met1,out2,e_⟩ _ a3 ⟨m,i,M,N,ac,D,F,j⟩ _ hp
    dsimp only [ZG.s1] at hp
    refine Z9 (Zg (Zb _ F (Zc (zA rfl rfl) (Ze (zu hp rfl (fun aA hp=>?_) (fun aA hp=>?_))))))
    ·refine Zak (Z9 (Zai (Z9 (Zg (Zb _ M (Zb _ D (Zb _ F (ckk hp fun L hp=>Zc (ZP (j.rd0 s_l.rd) rfl rfl L) (Zc (ZaR (j.rd0 s_l.rd) (Zf L) rfl rfl) (ckk hp fun af hp=>?_))))))))))
     refine Zc (Zbd (j.rd0 s_l.rd) (Zf L) rfl rfl af rfl) (Zc (zw (j.rd0 s_l.rd) rfl (Zf L) (zL af)) (Zc (zA rfl rfl) (Zb (.b (decide ((((gi l v.toNat).Next).get e_)<0))) rfl ?_)))
     obtain ⟨t,a1,hp⟩:=ZaP hp
     refine zN 8 (fun f k=>a3=k∧f 39=.b t∧f 0=v_l∧f 3=g∧f 4=m∧f 5=.n v∧f 6=.n e_) ?_ ?_
     ·clear hp;rcases Zbi a1 with ⟨a,hp⟩|⟨a,hp⟩
      ·refine Zl rfl a (Zl rfl a (Zl rfl a (Zl rfl a (Zl rfl a (Zl rfl a (Zl rfl a (Zc (ZaT (v:=.b t) rfl a (Eq.trans (b:=V.b true) rfl (congrArg V.b (Option.some.inj hp)))) (Zj ?_))))))))
       exact ⟨rfl,rfl,M,N,ac,D,F⟩
      ·refine Zq rfl a (Zb _ N (Zq rfl a (Zb _ D (Zq rfl a (ckk hp fun aJ hp=>Zc (Zij rfl rfl aJ) (Zq rfl a (Zb _ F (Zq rfl a (ckk hp fun aK hp=>Zc (ZV rfl rfl aK) (Zq rfl a (ckk hp fun ah hp=>?_)))))))))))
       refine Zc (ZP (j.sl 0 rfl) rfl rfl ah) (Zq rfl a (Zc (zw (j.sl 0 rfl) rfl (Zf ah) rfl) (Zc (ZaI (v:=.b t) rfl a (Eq.trans (b:=V.b (gi met1 ((4*v)+e_:Int).toNat)) rfl (congrArg V.b (Option.some.inj hp)))) (Zj ?_))))
       exact ⟨rfl,rfl,M,N,ac,D,F⟩
     rintro _ _ ⟨rfl,aN,aj,ak,al,T,U⟩
     refine Ze (zu hp aN (fun aB hp=>?_) (fun aB hp=>?_))
     ·refine Zb8 (zW (Za9 (Zt (Zaf (Zb _ U (ckk hp fun aL hp=>Zc (ZV rfl rfl aL) (Zb (.n (e_+1)) rfl (Zj ?_))))))))
      cases hp
      exact ⟨rfl,m,i,aj,ak,al,T,rfl,(j.pk [0,1,2])⟩
     ·refine Zak (Zg (Zb (.sn) rfl (Ze (Zg (Zb _ T (Zb _ U (Zc (Zdy (cs:=Zh.c (⟨v,e_⟩:Z2)) (by rw [(zf (v:=.n v) rfl (zf (v:=.n e_) rfl Zbb))];rfl)) (zQ (j.alloc (cs:=Zh.c (⟨0,0⟩:Z2)) j.fr) ?_))))))))
      rintro _ _ ⟨w,rfl,_,_,aY⟩
      refine zQ (aY.stb (cs':=Zh.c (⟨v,e_⟩:Z2)) 3 rfl rfl rfl rfl ⟨rfl,Nat.le_of_ble_eq_true rfl,rfl⟩ rfl) ?_
      rintro _ _ ⟨rfl,_,_,aZ⟩
      refine Ze (Z9 (Zai ?_))
      have aP:=aZ.nil Zh
      refine ZbM hp (fun|(met3,f,d),fr,k=>∃ Q,fr 0=v_l∧fr 3=g∧fr 4=m∧fr 5=.n v∧fr 6=.n e_∧fr 7=Q∧fr 8=.p w 0∧Own B h k [eSl e_bool g met3,eSl eV m i,Zci Zh i out2,eSl Zh Q f,zO w (Zh.c d)]) (fun|(met4,f1),e,fr,k=>e=(.exit 4)∧∃ A,fr 0=v_l∧fr 3=g∧fr 4=m∧fr 5=.n v∧fr 6=.n e_∧fr 7=A∧Own B h k [eSl e_bool g met4,eSl eV m i,Zci Zh i out2,eSl Zh A f1]) ⟨V.sn,aj,ak,al,T,U,rfl,rfl,(aP.pk [0,1,2,4,3])⟩ ?_ ?_
      ·rintro ⟨met3,f,d⟩ _ _ ⟨Q,ad,O,ap,aq,ar,au,s,q⟩ _ hp
       dsimp only [ZG.s2] at hp
       refine Z9 (Zg (Zb _ O (Zc (Zal (r:=w) (o:=0) s rfl) (Zc (zy (q.box 4 rfl) rfl rfl) (ckk hp fun ai hp=>Zc (Zij rfl rfl ai) (Zc (Zal (r:=w) (o:=0) s rfl) (Zc (zy (q.box 4 rfl) rfl rfl) (ckk hp fun ae hp=>Zc (ZV rfl rfl ae) (ckk hp fun K hp=>Zc (ZP (q.sl 0 rfl) rfl rfl K) ?_)))))))))
       refine Zc (zw (q.sl 0 rfl) rfl (Zf K) rfl) (Zc (ZcJ rfl) (Ze (zu hp rfl (fun aC hp=>?_) (fun aC hp=>?_))))
       ·refine Zak (Zai (Zg (Zb _ O (Zc (Zal (r:=w) (o:=0) s rfl) (Zc (zy (q.box 4 rfl) rfl rfl) (Zc (Zij rfl rfl ai) (Zc (Zal (r:=w) (o:=0) s rfl) (Zc (zy (q.box 4 rfl) rfl rfl) (Zc (ZV rfl rfl ae) (Zc (ZP (q.sl 0 rfl) rfl rfl K) (zQ (q.ste (y:=true) 0 rfl rfl (Zf K) rfl rfl ⟨rfl,Nat.le_of_ble_eq_true rfl,rfl⟩ rfl) ?_)))))))))))
        rintro _ _ ⟨rfl,_,_,X⟩
        refine Ze (Zg (Zb _ au (Zc (ZbI (X.box 4 rfl) s rfl) (zQ (X.bsl (E:=Zh) (l:=[d]) X.fr (by rw [(zf (v:=.ag (Zh.c d)) rfl Zbb)];rfl) rfl) ?_))))
        rintro _ _ ⟨_,_,Y⟩
        refine ckk hp fun aE hp=>zQ (Y.app (bytes:=16) 3 Y.fr rfl (Y.sl 5 rfl) rfl rfl (fun _=>rfl) aE (by decide)) ?_
        rintro aw a2 ⟨_,aa⟩
        refine Zb aw rfl (Ze (Zaf (Zb _ ad (Zc (ZbI (aa.box 4 rfl) s rfl) ?_))))
        obtain ⟨x,⟨_,_,aM,rfl,a0⟩,hp⟩:=bdk hp fun _=>Zaw.ok (h:=a2)  (aa.rd0 s_l.rd)
        refine zU rfl rfl aM ?_
        have aQ:=aa.call a0 rfl
        refine zQ (aQ.stb (cs':=Zh.c x) 4 rfl s rfl rfl ⟨rfl,Nat.le_of_ble_eq_true rfl,rfl⟩ rfl) ?_
        rintro _ _ ⟨rfl,_,_,aR⟩
        refine Zj (Zam ?_)
        cases hp
        exact ⟨rfl,aw,ad,O,ap,aq,ar,rfl,s,(aR.pk [0,1,2,3,4])⟩
       ·refine Zb8 (zW ?_)
        cases hp
        exact ⟨nofun,rfl,Q,ad,O,ap,aq,ar,au,(q.pk [0,1,2,3])⟩
      rintro ⟨met4,f1⟩ hp _ _ _ ⟨rfl,A,ba,bb,bc,bd,be,bf,W⟩
      refine Za9 (Zt (Zaf (Zb _ bc (Zb _ bf (zQ (W.bsl (E:=eV) (l:=[A]) W.fr (by rw [(zf (v:=A) rfl Zbb)];simp only [fill,(W.sl 3 rfl).cells];simp [over]) rfl) ?_)))))
      rintro _ _ ⟨_,_,C⟩
      refine ckk hp fun aF hp=>zQ (C.appV (bytes:=24) 1 C.fr rfl (C.sl 4 rfl) rfl rfl (by simp only [List.all_cons,List.all_nil,Bool.and_true];exact (C.sl 3 rfl).oneV) (by rw [(C.allLen 2 rfl:(i).length=(out2).length)];exact aF) (by decide)) ?_
      rintro ax _ ⟨_,aS⟩
      have aU:=aS.absorb 2 3 rfl rfl (by decide)
      refine Zb ax rfl (Zj (Zam (Zt (Zaf (Zb _ be (ckk hp fun aG hp=>Zc (ZV rfl rfl aG) (Zb (.n (e_+1)) rfl (Zj ?_))))))))
      cases hp
      exact ⟨rfl,ax,i++[A],ba,bb,rfl,bd,rfl,(aU.pk [0,1,2])⟩
    ·refine Zb8 (zW ?_)
     cases hp
     exact ⟨nofun,rfl,m,i,M,N,ac,D,(j.pk [0,1,2])⟩
   rintro ⟨met2,out3⟩ hp _ _ _ ⟨rfl,P,S,a6,a7,a8,a9,aX⟩
   refine Za9 (Zam (Zt (Zaf (Zb _ a9 (ckk hp fun aH hp=>Zc (ZV rfl rfl aH) (Zb (.n (v+1)) rfl (Zj ?_)))))))
   cases hp
   exact ⟨rfl,P,S,a6,a7,a8,rfl,(aX.pk [0,1,2])⟩
  ·refine Zb8 (zW ?_)
   cases hp
   exact ⟨nofun,rfl,H,J,an,(ab.pk [1,2])⟩
 rintro out1 hp _ _ _ ⟨rfl,I,R,a4,aT⟩
 refine Za9 (Zt (Zg (Zb _ a4 (Zb I rfl (Ze (zK (ZN (ZY rfl Z6) ?_)))))))
 cases hp
 exact ⟨I,R,rfl,(aT.pk [0,1])⟩

theorem ZbJ.ok {h:Hp}{d:Int}   {r:Bool}(hp:ZbJ d=some r) :
  ∃ u k',Is G 223 [.n d] h u k'∧V.b r=u∧Own (fun r=>r<h.n) h k' []:=by
 refine WC.is (ZaD ZeB ?_)
 unfold ZbJ at hp
 let B:Nat→Prop:=(fun r=>r<h.n)
 have hO:Own B h h []:=Own.start0 h
 refine Zg (Zb (.b false) rfl (Ze (Zg (Zb (.n d) rfl (Zc (Zda rfl rfl) (Zb (.b (decide (0≤d))) rfl (zN 3 (fun f k=>h=k∧f 8=.b ((decide (0≤d))&&(decide (d≤3)))) ?_ ?_)))))))
 ·rcases bc (decide (0≤d)) with a|a
  ·refine Zq rfl a (Zb (.n d) rfl (Zq rfl a (Zc (Zkw rfl rfl) (Zc (ZcU rfl a rfl) (Zj ?_)))))
   exact ⟨rfl,rfl⟩
  ·refine Zl rfl a (Zl rfl a (Zc (ZcT (w:=(decide (0≤d))&&(decide (d≤3))) rfl a rfl) (Zj ?_)))
   exact ⟨rfl,rfl⟩
 rintro _ _ ⟨rfl,c⟩
 refine Zb _ c (Ze (zK (ZN (ZY rfl Z6) ?_)))
 cases hp
 exact ⟨rfl,(hO.pk [])⟩

theorem Zcp.ok {h:Hp}{d:Int}{times:Int}   {r:Int}(hp:Zcp d times=some r) :
  ∃ u k',Is G 224 [.n d,.n times] h u k'∧V.n r=u∧Own (fun r=>r<h.n) h k' []:=by
 refine WC.is (ZaD ZeC ?_)
 unfold Zcp at hp
 let B:Nat→Prop:=(fun r=>r<h.n)
 have hO:Own B h h []:=Own.start0 h
 refine Zg (Zb (.n 0) rfl (Ze (Zg (Zb (.n d) rfl ?_))))
 obtain ⟨x,⟨_,_,j,rfl,k⟩,hp⟩:=bdk hp fun _=>ZbJ.ok (h:=h)  
 refine zU rfl rfl j ?_
 have a:=hO.call k rfl
 refine Zb (.b x) rfl (Ze (Z9 (Zg (Zb (.b x) rfl (Zc (ZcJ rfl) (Ze (zu hp rfl (fun c hp=>?_) (fun c hp=>?_))))))))
 ·refine Zg (Zb (.n 0) rfl (Ze (zK (ZI (ZN (ZY rfl Z6) ?_)))))
  cases hp
  exact ⟨rfl,(a.pk [])⟩
 ·refine Zak (Zg (Zb (.n times) rfl (Zc (ZcO rfl rfl (by decide)) (Zb (.n (times.tmod 4)) rfl (Ze (Z9 (Zg (Zb (.n (times.tmod 4)) rfl (Zc (zA rfl rfl) ?_)))))))))
  refine Ze (zu hp rfl (fun e hp=>?_) (fun e hp=>?_))
  ·refine Zaf (Zb (.n (times.tmod 4)) rfl (ckk hp fun f hp=>Zc (ZV rfl rfl f) (Zb (.n ((times.tmod 4)+4)) rfl (Ze (Zg (Zb (.n d) rfl (Zb (.n ((times.tmod 4)+4)) rfl (ckk hp fun g hp=>Zc (ZV rfl rfl g) (Zc (ZcO rfl rfl (by decide)) ?_)))))))))
   refine Zb (.n ((d+((times.tmod 4)+4)).tmod 4)) rfl (Ze (zK (ZN (ZY rfl Z6) ?_)))
   cases hp
   exact ⟨rfl,(a.pk [])⟩
  ·refine Zak (Zg (Zb (.n d) rfl (Zb (.n (times.tmod 4)) rfl (ckk hp fun i hp=>Zc (ZV rfl rfl i) (Zc (ZcO rfl rfl (by decide)) (Zb (.n ((d+(times.tmod 4)).tmod 4)) rfl (Ze (zK (ZN (ZY rfl Z6) ?_)))))))))
   cases hp
   exact ⟨rfl,(a.pk [])⟩

theorem Zcq.ok {h:Hp}{d:Int}{e_:Int}   {r:Int}(hp:Zcq d e_=some r) :
  ∃ u k',Is G 207 [.n d,.n e_] h u k'∧V.n r=u∧Own (fun r=>r<h.n) h k' []:=by
 refine WC.is (ZaD ZeD ?_)
 unfold Zcq at hp
 let B:Nat→Prop:=(fun r=>r<h.n)
 have hO:Own B h h []:=Own.start0 h
 refine Zg (Zb (.n 0) rfl (Ze (Zg (Zb (.n d) rfl ?_))))
 obtain ⟨x,⟨_,L,v,rfl,H⟩,hp⟩:=bdk hp fun _=>ZbJ.ok (h:=h)  
 refine zU rfl rfl v ?_
 have F:=hO.call H rfl
 refine Zb (.b x) rfl (Ze (Zg (Zb (.n e_) rfl ?_)))
 obtain ⟨x1,⟨_,i,y,rfl,I⟩,hp⟩:=bdk hp fun _=>ZbJ.ok (h:=L)  
 refine zU rfl rfl y ?_
 have m:=F.call I rfl
 refine Zb (.b x1) rfl (Ze (Z9 (Zg (Zb (.b x) rfl (Zc (ZcJ rfl) (Zb (.b (!x)) rfl (zN 3 (fun f k=>i=k∧f 17=.b ((!x)||(!x1))∧f 0=.n d∧f 1=.n e_) ?_ ?_)))))))
 ·rcases bc (!x) with c|c
  ·refine Zl rfl c (Zl rfl c (Zc (Zct (w:=(!x)||(!x1)) rfl c rfl) (Zj ?_)))
   exact ⟨rfl,rfl,rfl,rfl⟩
  ·refine Zq rfl c (Zb (.b x1) rfl (Zq rfl c (Zc (ZcJ rfl) (Zc (Zcu rfl c rfl) (Zj ?_)))))
   exact ⟨rfl,rfl,rfl,rfl⟩
 rintro _ _ ⟨rfl,D,e,g⟩
 refine Zb _ D (zN 4 (fun f k=>i=k∧f 22=.b (((!x)||(!x1))||(decide (d=e_)))∧f 0=.n d∧f 1=.n e_) ?_ ?_)
 ·rcases bc ((!x)||(!x1)) with a|a
  ·refine Zl rfl a (Zl rfl a (Zl rfl a (Zc (Zct (w:=((!x)||(!x1))||(decide (d=e_))) rfl a rfl) (Zj ?_))))
   exact ⟨rfl,rfl,e,g⟩
  ·refine Zq rfl a (Zb _ e (Zq rfl a (Zb _ g (Zq rfl a (Zc (Zb7 rfl rfl) (Zc (Zcu rfl a rfl) (Zj ?_)))))))
   exact ⟨rfl,rfl,e,g⟩
 rintro _ _ ⟨rfl,E,j,l⟩
 refine Ze (zu hp E (fun q hp=>?_) (fun q hp=>?_))
 ·refine Zg (Zb (.n 0) rfl (Ze (zK (ZI (ZN (ZY rfl Z6) ?_)))))
  cases hp
  exact ⟨rfl,(m.pk [])⟩
 ·refine Zak (Zg (Zb _ j ?_))
  obtain ⟨x2,⟨_,M,A,rfl,J⟩,hp⟩:=bdk hp fun _=>Zcp.ok (h:=i)  
  refine zU rfl rfl A ?_
  have o:=m.call J rfl
  refine Zb (.n x2) rfl (Ze (Z9 (Zg (Zb (.n x2) rfl (Zb _ l (Zc (Zb7 rfl rfl) (Ze (zu hp rfl (fun s hp=>?_) (fun s hp=>?_)))))))))
  ·refine Zg (Zb (.n 1) rfl (Ze (zK (ZI (ZN (ZY rfl Z6) ?_)))))
   cases hp
   exact ⟨rfl,(o.pk [])⟩
  ·refine Zak (Zg (Zb _ j ?_))
   obtain ⟨x3,⟨_,_,C,rfl,K⟩,hp⟩:=bdk hp fun _=>Zcp.ok (h:=M)  
   refine zU rfl rfl C ?_
   have p:=o.call K rfl
   refine Zb (.n x3) rfl (Ze (Z9 (Zg (Zb (.n x3) rfl (Zb _ l (Zc (Zb7 rfl rfl) (Ze (zu hp rfl (fun t hp=>?_) (fun t hp=>?_)))))))))
   ·refine Zg (Zb (.n (-1)) rfl (Ze (zK (ZI (ZN (ZY rfl Z6) ?_)))))
    cases hp
    exact ⟨rfl,(p.pk [])⟩
   ·refine Zak (Zg (Zb (.n (-2)) rfl (Ze (zK (ZN (ZY rfl Z6) ?_)))))
    cases hp
    exact ⟨rfl,(p.pk [])⟩

theorem zZ.ok {h:Hp}{l:List Za}{f:List Z2}{v_l:V}{v_f:V}(s_l:Sl Zd h v_l l) (s_f:Sl Zh h v_f f) {r:(List Int)}(hp:zZ l f=some r) :
  ∃ u k',Is G 182 [v_l,v_f] h u k'∧∃ C,C=u∧Own (fun r=>r<h.n) h k' [eSl Zad C r]:=by
 refine WC.is (ZaD Zes ?_)
 unfold zZ at hp
 let B:Nat→Prop:=(fun r=>r<h.n)
 have hO:Own B h h []:=Own.start0 h
 refine Zg (Zb (.sn) rfl (Ze (Zg (Zb (.sn) rfl (Ze (Z9 (Zg (Zb (.n 0) rfl ?_))))))))
 refine Ze (Zai ?_)
 have N:=hO.nil Zad
 refine ZbM hp (fun|(out,i),fr,k=>∃ p,fr 0=v_l∧fr 1=v_f∧fr 5=p∧fr 6=.n i∧Own B h k [eSl Zad p out]) (fun out1 e fr k=>e=(.exit 0)∧∃ g,fr 5=g∧Own B h k [eSl Zad g out1]) ⟨V.sn,rfl,rfl,rfl,rfl,(N.pk [0])⟩ ?_ ?_
 ·rintro ⟨out,i⟩ _ S ⟨p,y,j,A,m,a⟩ _ hp
  dsimp only [zZ.s0] at hp
  refine Z9 (Zg (Zb _ m (Zb _ j (Zc (Zap (a.rd0 s_f.rd) rfl) (Zc (zA rfl rfl) (Ze (zu hp rfl (fun F hp=>?_) (fun F hp=>?_))))))))
  ·refine Zak (Z9 (Zai (Zg (Zb _ y (Zb _ j (Zb _ m (ckk hp fun b hp=>Zc (ZP (a.rd0 s_f.rd) rfl rfl b) (Zc (Zfm (a.rd0 s_f.rd) rfl (Zf b)) ?_))))))))
   obtain ⟨x,⟨_,_,J,rfl,Q⟩,hp⟩:=bdk hp fun _=>Zaw.ok (h:=S)  (a.rd0 s_l.rd)
   refine zU rfl rfl J ?_
   have t:=a.call Q rfl
   refine zQ (t.alloc (cs:=Zh.c (⟨0,0⟩:Z2)) t.fr) ?_
   rintro _ _ ⟨W,rfl,_,_,O⟩
   refine zQ (O.stb (cs':=Zh.c x) 1 rfl rfl rfl rfl ⟨rfl,Nat.le_of_ble_eq_true rfl,rfl⟩ rfl) ?_
   rintro _ T ⟨rfl,_,_,P⟩
   refine Ze (Z9 (Zgp ?_))
   have d:=P.bump 9
   refine Zbl _ j (Zbl _ m (z8 (ZP (d.rd0 s_f.rd) rfl rfl b) (z8 (ZaR (d.rd0 s_f.rd) (Zf b) rfl rfl) (z8 (zw (d.rd0 s_f.rd) rfl (Zf b) rfl) (z8 (Zal (r:=W) (o:=0) rfl rfl) (z8 (zy (d.box 1 rfl) rfl rfl) ?_))))))
   obtain ⟨x1,⟨_,_,K,rfl,R⟩,hp⟩:=bdk hp fun _=>Zcq.ok (h:=(T.bump 9))  
   refine ZiM rfl rfl K ?_
   have w:=d.call R rfl
   refine Zbl (.n x1) rfl (ZcW ?_)
   refine And.intro ?_ ?_
   ·intro q hq
    simp only [List.mem_cons,List.not_mem_nil,or_false] at hq
    rcases hq with rfl
    ·refine ZaX ?_ ?_
     ·exact (fun h=>nomatch h)
     ·exact (fun h=>nomatch h)
   refine Zt (Zaf (Zb _ A (Zb (.n x1) rfl (zQ (w.bsl (E:=Zad) (l:=[x1]) w.fr (by rw [(zf (v:=.n x1) rfl Zbb)];rfl) rfl) ?_))))
   rintro _ _ ⟨_,_,s⟩
   refine ckk hp fun H hp=>zQ (s.app (bytes:=8) 0 s.fr rfl (s.sl 2 rfl) rfl rfl (fun _=>rfl) H (by decide)) ?_
   rintro D _ ⟨_,M⟩
   refine Zb D rfl (Zj (Zam (Zt (Zaf (Zb _ m (ckk hp fun I hp=>Zc (ZV rfl rfl I) (Zb (.n (i+1)) rfl (Zj ?_))))))))
   cases hp
   exact ⟨rfl,D,y,j,rfl,rfl,(M.pk [0])⟩
  ·refine Zb8 (zW ?_)
   cases hp
   exact ⟨nofun,rfl,p,A,(a.pk [0])⟩
 rintro out1 hp _ _ _ ⟨rfl,g,U,L⟩
 refine Za9 (Zt (Zg (Zb _ U (Zb g rfl (Ze (zK (ZN (ZY rfl Z6) ?_)))))))
 cases hp
 exact ⟨g,rfl,(L.pk [0])⟩

theorem Za7.ok {h:Hp}{t:List Int}{v_t:V}(s_t:Sl Zad h v_t t) {r:Int}(hp:Za7 t=some r) :
  ∃ u k',Is G 206 [v_t] h u k'∧V.n r=u∧Own (fun r=>r<h.n) h k' []:=by
 refine WC.is (ZaD ZdL ?_)
 unfold Za7 at hp
 let B:Nat→Prop:=(fun r=>r<h.n)
 have hO:Own B h h []:=Own.start0 h
 refine Zg (Zb (.n 0) rfl (Ze (Zg (Zb (.n 0) rfl (Ze (Z9 (Zg (Zb (.n 0) rfl ?_))))))))
 refine Ze (Zai (ZbM hp (fun|(n,i),fr,k=>fr 0=v_t∧fr 3=.n n∧fr 4=.n i∧Own B h k []) (fun n1 e fr k=>e=(.exit 0)∧fr 3=.n n1∧Own B h k []) ⟨rfl,rfl,rfl,(hO.pk [])⟩ ?_ ?_))
 ·rintro ⟨n,i⟩ _ D ⟨g,o,j,c⟩ _ hp
  dsimp only [Za7.s0] at hp
  refine Z9 (Zg (Zb _ j (Zb _ g (Zc (Zap (c.rd0 s_t.rd) rfl) (Zc (zA rfl rfl) (Ze (zu hp rfl (fun q hp=>?_) (fun q hp=>?_))))))))
  ·refine Zak (Z9 (Zai (Zg (Zb _ g (Zb _ j (ckk hp fun d hp=>Zc (ZP (c.rd0 s_t.rd) rfl rfl d) (Zc (zw (c.rd0 s_t.rd) rfl (Zf d) rfl) (Zc (Zda rfl rfl) (Zb (.b (decide ((-2)≤(gi t i.toNat)))) rfl (zN 6 (fun f k=>D=k∧f 22=.b ((decide ((-2)≤(gi t i.toNat)))&&(decide ((gi t i.toNat)≤1)))∧f 0=v_t∧f 3=.n n∧f 4=.n i) ?_ ?_))))))))))
   ·rcases bc (decide ((-2)≤(gi t i.toNat))) with a|a
    ·refine Zq rfl a (Zb _ g (Zq rfl a (Zb _ j (Zq rfl a (Zc (ZP (c.rd0 s_t.rd) rfl rfl d) (Zq rfl a (Zc (zw (c.rd0 s_t.rd) rfl (Zf d) rfl) (Zq rfl a (Zc (Zkw rfl rfl) (Zc (ZcU rfl a rfl) (Zj ?_)))))))))))
     exact ⟨rfl,rfl,g,o,j⟩
    ·refine Zl rfl a (Zl rfl a (Zl rfl a (Zl rfl a (Zl rfl a (Zc (ZcT (w:=(decide ((-2)≤(gi t i.toNat)))&&(decide ((gi t i.toNat)≤1))) rfl a rfl) (Zj ?_))))))
     exact ⟨rfl,rfl,g,o,j⟩
   rintro _ _ ⟨rfl,A,l,p,m⟩
   refine Ze (zu hp A (fun s hp=>?_) (fun s hp=>?_))
   ·refine Zaf (Zb _ p (Zb _ l (Zb _ m (Zc (ZP (c.rd0 s_t.rd) rfl rfl d) (Zc (zw (c.rd0 s_t.rd) rfl (Zf d) rfl) (ckk hp fun v hp=>Zc (ZV rfl rfl v) (Zb (.n (n+(gi t i.toNat))) rfl (Zj (Zam (Zt (Zaf (Zb _ m ?_))))))))))))
    refine ckk hp fun x hp=>Zc (ZV rfl rfl x) (Zb (.n (i+1)) rfl (Zj ?_))
    cases hp
    exact ⟨rfl,l,rfl,rfl,(c.pk [])⟩
   ·refine ZcB (Zam (Zt (Zaf (Zb _ m (ckk hp fun y hp=>Zc (ZV rfl rfl y) (Zb (.n (i+1)) rfl (Zj ?_)))))))
    cases hp
    exact ⟨rfl,l,p,rfl,(c.pk [])⟩
  ·refine Zb8 (zW ?_)
   cases hp
   exact ⟨nofun,rfl,o,(c.pk [])⟩
 rintro n1 hp _ _ _ ⟨rfl,E,C⟩
 refine Za9 (Zt (Zg (Zb _ E (Zb (.n n1) rfl (Ze (zK (ZN (ZY rfl Z6) ?_)))))))
 cases hp
 exact ⟨rfl,(C.pk [])⟩

theorem zJ.ok {h:Hp}{l:List Za}{v_l:V}(s_l:Sl Zd h v_l l) {r:Int×Int}(hp:zJ l=some r) :
  ∃ u k',Is G 181 [v_l] h u k'∧V.tu [.n r.1,.n r.2]=u∧Own (fun r=>r<h.n) h k' []:=by
 refine WC.is (ZaD Zeu ?_)
 unfold zJ at hp
 let B:Nat→Prop:=(fun r=>r<h.n)
 have hO:Own B h h []:=Own.start0 h
 refine Zg (Zb (.n 0) rfl (Zb (.n 0) rfl (Ze (Zg (Zb v_l rfl ?_)))))
 obtain ⟨x,⟨_,aC,ae,rfl,ax⟩,hp⟩:=bdk hp fun _=>zI.ok (h:=h)  (hO.rd0 s_l.rd)
 refine zU rfl rfl ae ?_
 have F:=hO.call ax rfl
 refine Zb (.n x) rfl (Ze (Z9 (Zg (Zb (.n x) rfl (Zc (Zca rfl rfl) (Ze (zu hp rfl (fun T hp=>?_) (fun T hp=>?_))))))))
 ·refine Zg (Zb (.n x) rfl (Zb (.n (-1)) rfl (Zb (.n x) rfl (Ze (zK (ZI (ZN (ZY rfl (ZY rfl Z6)) ?_)))))))
  cases hp
  exact ⟨rfl,(F.pk [])⟩
 ·refine Zak (Zg (Zb v_l rfl ?_))
  obtain ⟨x1,⟨_,aD,af,R,aH,rfl,ay⟩,hp⟩:=bdk hp fun _=>Zaa.ok (h:=aC)  (F.rd0 s_l.rd)
  refine zU rfl rfl af ?_
  have j:=F.call ay rfl
  refine Zb R rfl (Ze (Z9 (Zg (Zb R rfl (Zc (Zh8 (n:=(x1).length) (j.sl 0 rfl) (j.allLen 1 rfl:(aH).length=(x1).length) rfl) (Zc (Zca rfl rfl) (Ze (zu hp rfl (fun W hp=>?_) (fun W hp=>?_)))))))))
  ·refine Zg (Zb (.n (-1)) rfl (Zb (.n 13) rfl (Ze (zK (ZI (ZN (ZY rfl (ZY rfl Z6)) ?_))))))
   cases hp
   exact ⟨rfl,(j.pk [])⟩
  ·refine Zak (Z9 (Zg (Zb v_l rfl (Zc (Zap (j.rd0 s_l.rd) rfl) (Zc (Zb7 rfl rfl) (Ze (zu hp rfl (fun X hp=>?_) (fun X hp=>?_))))))))
   ·refine Zg (Zb (.n (-1)) rfl (Zb (.n 0) rfl (Ze (zK (ZI (ZN (ZY rfl (ZY rfl Z6)) ?_))))))
    cases hp
    exact ⟨rfl,(j.pk [])⟩
   ·refine Zak (Zg (Zb v_l rfl ?_))
    obtain ⟨x2,⟨_,_,ag,m,o,rfl,az⟩,hp⟩:=bdk hp fun _=>ZG.ok (h:=aD)  (j.rd0 s_l.rd)
    refine zU rfl rfl ag ?_
    have aw:=j.call az rfl
    refine Zb m rfl (Ze (Zg (Zb (.n (-1)) rfl (Ze (Z9 (Zg (Zb (.n 0) rfl (Ze ?_))))))))
    refine Zai (ZbM hp (fun|(at_,i),fr,k=>fr 0=v_l∧fr 6=m∧fr 7=.n at_∧fr 8=.n i∧Own B h k [eSl eV m o,Zci Zh o x2]) (fun|.inl at_1,e,fr,k=>e=(.exit 0)∧fr 7=.n at_1∧Own B h k []|.inr _,e,fr,k=>e=.ret∧fr 2=.n (-1)∧fr 3=.n 10∧Own B h k []) ⟨rfl,rfl,rfl,rfl,(aw.pk [2,3])⟩ ?_ ?_)
    ·rintro ⟨at_,i⟩ _ P ⟨J,t,K,v,c⟩ _ hp
     dsimp only [zJ.s0] at hp
     refine Z9 (Zg (Zb _ v (Zb _ t (Zc (Zh8 (n:=(x2).length) (c.sl 0 rfl) (c.allLen 1 rfl:(o).length=(x2).length) rfl) (Zc (zA rfl rfl) (Ze (zu hp rfl (fun Y hp=>?_) (fun Y hp=>?_))))))))
     ·refine Zak (Z9 (Zai (Zg (Zb _ J (Zb _ t (Zb _ v (ckk hp fun y hp=>Zc (ZP (c.sl 0 rfl) rfl rfl (by rw [(c.allLen 1 rfl:(o).length=(x2).length)];exact y)) (Zc (zw (c.sl 0 rfl) rfl (by rw [(c.allLen 1 rfl:(o).length=(x2).length)];exact Zf y) rfl) ?_))))))))
      obtain ⟨x3,⟨_,aE,ah,S,rfl,aA⟩,hp⟩:=bdk hp fun _=>zZ.ok (h:=P)  (c.rd0 s_l.rd) (c.inn 1 rfl (Zf y):Sl Zh P (gi o i.toNat) (gi x2 i.toNat))
      refine zU rfl rfl ah ?_
      have O:=c.call aA rfl
      refine Zb S rfl (Ze (Zg (Zb S rfl ?_)))
      obtain ⟨x4,⟨_,I,ai,rfl,aB⟩,hp⟩:=bdk hp fun _=>Za7.ok (h:=aE)  (O.sl 2 rfl)
      refine zU rfl rfl ai ?_
      have H:=O.call aB rfl
      refine Zb (.n x4) rfl (Ze (Z9 (Zg (Zb (.n x4) rfl (Zc (Zca rfl rfl) (Zb (.b (!(decide (x4=4)))) rfl (zN 3 (fun f k=>I=k∧f 45=.b ((!(decide (x4=4)))&&(!(decide (x4=(-4)))))∧f 0=v_l∧f 10=.n x4∧f 6=m∧f 7=.n at_∧f 8=.n i) ?_ ?_)))))))
      ·rcases bc (!(decide (x4=4))) with d|d
       ·refine Zq rfl d (Zb (.n x4) rfl (Zq rfl d (Zc (Zca rfl rfl) (Zc (ZcU rfl d rfl) (Zj ?_)))))
        exact ⟨rfl,rfl,J,rfl,t,K,v⟩
       ·refine Zl rfl d (Zl rfl d (Zc (ZcT (w:=(!(decide (x4=4)))&&(!(decide (x4=(-4))))) rfl d rfl) (Zj ?_)))
        exact ⟨rfl,rfl,J,rfl,t,K,v⟩
      rintro _ _ ⟨rfl,aj,A,p,C,q,D⟩
      refine Zb _ aj (zN 7 (fun f k=>I=k∧f 53=.b (((!(decide (x4=4)))&&(!(decide (x4=(-4)))))||((decide (x4=(-4)))&&(decide (0≤at_))))∧f 0=v_l∧f 10=.n x4∧f 6=m∧f 7=.n at_∧f 8=.n i) ?_ ?_)
      ·rcases bc ((!(decide (x4=4)))&&(!(decide (x4=(-4))))) with a|a
       ·refine Zl rfl a (Zl rfl a (Zl rfl a (Zl8 rfl (Zl8 rfl (Zl rfl a (Zc (Zct (w:=((!(decide (x4=4)))&&(!(decide (x4=(-4)))))||((decide (x4=(-4)))&&(decide (0≤at_)))) rfl a rfl) (Zj ?_)))))))
        exact ⟨rfl,rfl,A,p,C,q,D⟩
       ·refine Zq rfl a (Zb _ p (Zq rfl a (Zc (Zb7 rfl rfl) (Zq rfl a (Zb (.b (decide (x4=(-4)))) rfl (zN 3 (fun f k=>I=k∧f 52=.b ((decide (x4=(-4)))&&(decide (0≤at_)))∧f 0=v_l∧f 10=.n x4∧f 46=.b ((!(decide (x4=4)))&&(!(decide (x4=(-4)))))∧f 6=m∧f 7=.n at_∧f 8=.n i) ?_ ?_))))))
        ·rcases bc (decide (x4=(-4))) with g|g
         ·refine Zq rfl g (Zb _ q (Zq rfl g (Zc (Zda rfl rfl) (Zq rfl a (Zc (ZcU rfl g rfl) (Zj ?_))))))
          exact ⟨rfl,rfl,A,p,rfl,C,q,D⟩
         ·refine Zl rfl g (Zl rfl g (Zq rfl a (Zc (ZcT (w:=(decide (x4=(-4)))&&(decide (0≤at_))) rfl g rfl) (Zj ?_))))
          exact ⟨rfl,rfl,A,p,rfl,C,q,D⟩
        rintro _ _ ⟨rfl,an,ak,al,am,ao,ap,aq⟩
        refine Zc (Zcu am a an) (Zj ?_)
        exact ⟨rfl,rfl,ak,al,ao,ap,aq⟩
      rintro _ _ ⟨rfl,au,L,ar,M,av,E⟩
      refine Ze (zu hp au (fun aa hp=>?_) (fun aa hp=>?_))
      ·refine Zg (Zb (.n (-1)) rfl (Zb (.n 10) rfl (Ze (zK (ZI (ZaZ (ZI ?_)))))))
       cases hp
       exact ⟨nofun,rfl,rfl,rfl,(H.pk [])⟩
      ·refine Zak (Zg (Zb _ ar (Zc (Zb7 rfl rfl) (Ze (zu hp rfl (fun ab hp=>?_) (fun ab hp=>?_))))))
       ·refine Zaf (Zb _ E (Zb (.n i) rfl (Zj (Zam (Zt (Zaf (Zb _ E (ckk hp fun ac hp=>Zc (ZV rfl rfl ac) (Zb (.n (i+1)) rfl (Zj ?_))))))))))
        cases hp
        exact ⟨rfl,L,M,rfl,rfl,(H.pk [0,1])⟩
       ·refine ZcB (Zam (Zt (Zaf (Zb _ E (ckk hp fun ad hp=>Zc (ZV rfl rfl ad) (Zb (.n (i+1)) rfl (Zj ?_)))))))
        cases hp
        exact ⟨rfl,L,M,av,rfl,(H.pk [0,1])⟩
     ·refine Zb8 (zW ?_)
      cases hp
      exact ⟨nofun,rfl,K,(c.pk [])⟩
    rintro (at_1|_) hp _ _ _ N
    ·obtain ⟨rfl,Q,s⟩:=N
     refine Za9 (Zt (Z9 (Zg (Zb _ Q (Zc (zA rfl rfl) (Ze (zu hp rfl (fun U hp=>?_) (fun U hp=>?_))))))))
     ·refine Zg (Zb (.n (-1)) rfl (Zb (.n 10) rfl (Ze (zK (ZI (ZN (ZY rfl (ZY rfl Z6)) ?_))))))
      cases hp
      exact ⟨rfl,(s.pk [])⟩
     ·refine Zak (Zg (Zb _ Q (Zb (.n at_1) rfl (Zb (.n 0) rfl (Ze (zK (ZN (ZY rfl (ZY rfl Z6)) ?_)))))))
      cases hp
      exact ⟨rfl,(s.pk [])⟩
    ·obtain ⟨rfl,aF,aG,s⟩:=N
     refine ZaZ (ZI (ZN (ZY aF (ZY aG Z6)) ?_))
     cases hp
     exact ⟨rfl,(s.pk [])⟩

theorem ZaN.ok {h:Hp}{t:List Int}{v_t:V}(s_t:Sl Zad h v_t t) {r:Bool}(hp:ZaN t=some r) :
  ∃ u k',Is G 21 [v_t] h u k'∧V.b r=u∧Own (fun r=>r<h.n) h k' []:=by
 refine WC.is (ZaD ZeL ?_)
 unfold ZaN at hp
 let B:Nat→Prop:=(fun r=>r<h.n)
 have hO:Own B h h []:=Own.start0 h
 refine Zg (Zb (.b false) rfl (Ze (Z9 (Zg (Zb (.n 0) rfl (Ze (Zai (ZbM hp (fun i fr k=>fr 0=v_t∧fr 3=.n i∧Own B h k []) (fun|.inl _,e,fr,k=>e=(.exit 0)∧Own B h k []|.inr _,e,fr,k=>e=.ret∧fr 2=.b false∧Own B h k []) ⟨rfl,rfl,(hO.pk [])⟩ ?_ ?_))))))))
 ·rintro i _ y ⟨d,g,c⟩ _ hp
  dsimp only [ZaN.s0] at hp
  refine Z9 (Zg (Zb _ g (Zb _ d (Zc (Zap (c.rd0 s_t.rd) rfl) (Zc (zA rfl rfl) (Ze (zu hp rfl (fun o hp=>?_) (fun o hp=>?_))))))))
  ·refine Zak (Z9 (Zai (Zg (Zb _ d (Zb _ g (ckk hp fun j hp=>Zc (ZP (c.rd0 s_t.rd) rfl rfl j) (Zc (zw (c.rd0 s_t.rd) rfl (Zf j) rfl) (Zc (zA rfl rfl) (Zb (.b (decide ((gi t i.toNat)<(-2)))) rfl (zN 6 (fun f k=>y=k∧f 21=.b ((decide ((gi t i.toNat)<(-2)))||(decide (1<(gi t i.toNat))))∧f 0=v_t∧f 3=.n i) ?_ ?_))))))))))
   ·rcases bc (decide ((gi t i.toNat)<(-2))) with a|a
    ·refine Zl rfl a (Zl rfl a (Zl rfl a (Zl rfl a (Zl rfl a (Zc (Zct (w:=(decide ((gi t i.toNat)<(-2)))||(decide (1<(gi t i.toNat)))) rfl a rfl) (Zj ?_))))))
     exact ⟨rfl,rfl,d,g⟩
    ·refine Zq rfl a (Zb _ d (Zq rfl a (Zb _ g (Zq rfl a (Zc (ZP (c.rd0 s_t.rd) rfl rfl j) (Zq rfl a (Zc (zw (c.rd0 s_t.rd) rfl (Zf j) rfl) (Zq rfl a (Zc (Zd1 rfl rfl) (Zc (Zcu rfl a rfl) (Zj ?_)))))))))))
     exact ⟨rfl,rfl,d,g⟩
   rintro _ _ ⟨rfl,v,s,x⟩
   refine Ze (zu hp v (fun p hp=>?_) (fun p hp=>?_))
   ·refine Zg (Zb (.b false) rfl (Ze (zK (ZaZ (ZI ?_)))))
    cases hp
    exact ⟨nofun,rfl,rfl,(c.pk [])⟩
   ·refine ZcB (Zam (Zt (Zaf (Zb _ x (ckk hp fun q hp=>Zc (ZV rfl rfl q) (Zb (.n (i+1)) rfl (Zj ?_)))))))
    cases hp
    exact ⟨rfl,s,rfl,(c.pk [])⟩
  ·refine Zb8 (zW ?_)
   cases hp
   exact ⟨nofun,rfl,(c.pk [])⟩
 rintro (_|_) hp _ _ _ m
 ·obtain ⟨rfl,l⟩:=m
  refine Za9 (Zt (Zg (Zb (.b true) rfl (Ze (zK (ZN (ZY rfl Z6) ?_))))))
  cases hp
  exact ⟨rfl,(l.pk [])⟩
 ·obtain ⟨rfl,A,l⟩:=m
  refine ZaZ (ZI (ZN (ZY A Z6) ?_))
  cases hp
  exact ⟨rfl,(l.pk [])⟩

theorem zV.ok {h:Hp}{t:List Int}{i:Int}{v_t:V}(s_t:Sl Zad h v_t t) {r:Int}(hp:zV t i=some r) :
  ∃ u k',Is G 14 [v_t,.n i] h u k'∧V.n r=u∧Own (fun r=>r<h.n) h k' []:=by
 refine WC.is (ZaD Zfl ?_)
 unfold zV at hp
 let B:Nat→Prop:=(fun r=>r<h.n)
 have hO:Own B h h []:=Own.start0 h
 refine Zg (Zb (.n 0) rfl (Ze (Zg (Zb v_t rfl ?_))))
 obtain ⟨x,⟨_,I,ad,rfl,ag⟩,hp⟩:=bdk hp fun _=>ZaN.ok (h:=h)  (hO.rd0 s_t.rd)
 refine zU rfl rfl ad ?_
 have d:=hO.call ag rfl
 refine Zb (.b x) rfl (Ze (Z9 (Zg (Zb (.b x) rfl (Zc (ZcJ rfl) (Zb (.b (!x)) rfl (zN 3 (fun f k=>I=k∧f 17=.b ((!x)||(decide (i<0)))∧f 0=v_t∧f 1=.n i) ?_ ?_)))))))
 ·rcases bc (!x) with c|c
  ·refine Zl rfl c (Zl rfl c (Zc (Zct (w:=(!x)||(decide (i<0))) rfl c rfl) (Zj ?_)))
   exact ⟨rfl,rfl,rfl,rfl⟩
  ·refine Zq rfl c (Zb (.n i) rfl (Zq rfl c (Zc (zA rfl rfl) (Zc (Zcu rfl c rfl) (Zj ?_)))))
   exact ⟨rfl,rfl,rfl,rfl⟩
 rintro _ _ ⟨rfl,ae,j,l⟩
 refine Zb _ ae (zN 5 (fun f k=>I=k∧f 23=.b (((!x)||(decide (i<0)))||(decide ((t.length:Int)≤i)))∧f 0=v_t∧f 1=.n i) ?_ ?_)
 ·rcases bc ((!x)||(decide (i<0))) with a|a
  ·refine Zl rfl a (Zl rfl a (Zl rfl a (Zl rfl a (Zc (Zct (w:=((!x)||(decide (i<0)))||(decide ((t.length:Int)≤i))) rfl a rfl) (Zj ?_)))))
   exact ⟨rfl,rfl,j,l⟩
  ·refine Zq rfl a (Zb _ l (Zq rfl a (Zb _ j (Zq rfl a (Zc (Zap (d.rd0 s_t.rd) rfl) (Zq rfl a (Zc (Zda rfl rfl) (Zc (Zcu rfl a rfl) (Zj ?_)))))))))
   exact ⟨rfl,rfl,j,l⟩
 rintro _ _ ⟨rfl,af,m,o⟩
 refine Ze (zu hp af (fun P hp=>?_) (fun P hp=>?_))
 ·refine Zg (Zb (.n (-1)) rfl (Ze (zK (ZI (ZN (ZY rfl Z6) ?_)))))
  cases hp
  exact ⟨rfl,(d.pk [])⟩
 ·refine Zak (Z9 (Zg (Zb _ m (Zb _ o (ckk hp fun C hp=>Zc (ZP (d.rd0 s_t.rd) rfl rfl C) (Zc (zw (d.rd0 s_t.rd) rfl (Zf C) rfl) (Zc (Zda rfl rfl) (Ze (zu hp rfl (fun Q hp=>?_) (fun Q hp=>?_))))))))))
  ·refine Zg (Zb (.n (-1)) rfl (Ze (zK (ZI (ZN (ZY rfl Z6) ?_)))))
   cases hp
   exact ⟨rfl,(d.pk [])⟩
  ·refine Zak (Zg (Zb _ m (Zc (Zap (d.rd0 s_t.rd) rfl) (Zb (.n (t.length:Int)) rfl (Ze (Z9 (Zg (Zb _ o (ckk hp fun U hp=>?_)))))))))
   refine Zc (ZV rfl rfl U) (Zb (.n (i+1)) rfl (Ze (Zai (ZbM hp (fun to_ fr k=>fr 0=v_t∧fr 1=.n i∧fr 6=.n (t.length:Int)∧fr 7=.n to_∧Own B h k []) (fun|.inl _,e,fr,k=>e=(.exit 0)∧Own B h k []|.inr x1,e,fr,k=>e=.ret∧fr 4=.n x1∧Own B h k []) ⟨m,o,rfl,rfl,(d.pk [])⟩ ?_ ?_))))
   ·rintro to_ _ _ ⟨ai,q,J,K,F⟩ _ hp
    dsimp only [zV.s0] at hp
    refine Z9 (Zg (Zb _ K (Zb _ q (Zb _ J (ckk hp fun W hp=>Zc (ZV rfl rfl W) (Zc (Zkw rfl rfl) (Ze (zu hp rfl (fun R hp=>?_) (fun R hp=>?_)))))))))
    ·refine Zak (Z9 (Zai (Zg (Zb (.n 0) rfl (Ze (Z9 (Zg (Zb _ q (Zb (.n i) rfl ?_)))))))))
     refine Ze (Zai (ZbM hp (fun|(sum,k_),fr,k=>fr 0=v_t∧fr 1=.n i∧fr 6=.n (t.length:Int)∧fr 7=.n to_∧fr 8=.n sum∧fr 9=.n k_∧Own B h k []) (fun sum1 e fr k=>e=(.exit 2)∧fr 0=v_t∧fr 1=.n i∧fr 6=.n (t.length:Int)∧fr 7=.n to_∧fr 8=.n sum1∧Own B h k []) ⟨ai,q,J,K,rfl,rfl,(F.pk [])⟩ ?_ ?_))
     ·rintro ⟨sum,k_⟩ _ _ ⟨s,N,v,y,O,A,g⟩ _ hp
      dsimp only [zV.s1] at hp
      refine Z9 (Zg (Zb _ A (Zb _ y (Zc (zA rfl rfl) (Ze (zu hp rfl (fun S hp=>?_) (fun S hp=>?_)))))))
      ·refine Zak (Z9 (Zai (Zaf (Zb _ O (Zb _ s (Zb _ A (Zb _ v (ckk hp fun X hp=>Zc (ZcO rfl rfl X) (ckk hp fun D hp=>Zc (ZP (g.rd0 s_t.rd) rfl rfl D) (Zc (zw (g.rd0 s_t.rd) rfl (Zf D) rfl) ?_))))))))))
       refine ckk hp fun Y hp=>Zc (ZV rfl rfl Y) (Zb (.n (sum+(gi t (k_.tmod (t.length:Int):Int).toNat))) rfl (Zj (Zam (Zt (Zaf (Zb _ A (ckk hp fun aa hp=>Zc (ZV rfl rfl aa) (Zb (.n (k_+1)) rfl (Zj ?_)))))))))
       cases hp
       exact ⟨rfl,s,N,v,y,rfl,rfl,(g.pk [])⟩
      ·refine Zb8 (zW ?_)
       cases hp
       exact ⟨nofun,rfl,s,N,v,y,O,(g.pk [])⟩
     rintro sum1 hp _ _ _ ⟨rfl,aj,ak,L,M,al,H⟩
     refine Za9 (Zt (Zg (Zb _ al (Zc (Zb7 rfl rfl) (Ze (zu hp rfl (fun T hp=>?_) (fun T hp=>?_)))))))
     ·refine Zg (Zb _ M (Zb _ L (ckk hp fun ab hp=>Zc (ZcO rfl rfl ab) (Zb (.n (to_.tmod (t.length:Int))) rfl (Ze (zK (ZaZ (ZI ?_))))))))
      cases hp
      exact ⟨nofun,rfl,rfl,(H.pk [])⟩
     ·refine ZcB (Zam (Zt (Zaf (Zb _ M (ckk hp fun ac hp=>Zc (ZV rfl rfl ac) (Zb (.n (to_+1)) rfl (Zj ?_)))))))
      cases hp
      exact ⟨rfl,aj,ak,L,rfl,(H.pk [])⟩
    ·refine Zb8 (zW ?_)
     cases hp
     exact ⟨nofun,rfl,(F.pk [])⟩
   rintro (_|x1) hp _ _ _ E
   ·obtain ⟨rfl,p⟩:=E
    refine Za9 (Zt (Zg (Zb (.n (-1)) rfl (Ze (zK (ZN (ZY rfl Z6) ?_))))))
    cases hp
    exact ⟨rfl,(p.pk [])⟩
   ·obtain ⟨rfl,ah,p⟩:=E
    refine ZaZ (ZI (ZN (ZY ah Z6) ?_))
    cases hp
    exact ⟨rfl,(p.pk [])⟩

theorem ZaW.ok {h:Hp}{t:List Int}{v_t:V}(s_t:Sl Zad h v_t t) {r:Int}(hp:ZaW t=some r) :
  ∃ u k',Is G 16 [v_t] h u k'∧V.n r=u∧Own (fun r=>r<h.n) h k' []:=by
 refine WC.is (ZaD ZeM ?_)
 unfold ZaW at hp
 let B:Nat→Prop:=(fun r=>r<h.n)
 have hO:Own B h h []:=Own.start0 h
 refine Zg (Zb (.n 0) rfl (Ze (Zg (Zb v_t rfl ?_))))
 obtain ⟨x,⟨_,_,C,rfl,H⟩,hp⟩:=bdk hp fun _=>ZaN.ok (h:=h)  (hO.rd0 s_t.rd)
 refine zU rfl rfl C ?_
 have q:=hO.call H rfl
 refine Zb (.b x) rfl (Ze (Z9 (Zg (Zb (.b x) rfl (Zc (ZcJ rfl) (Ze (zu hp rfl (fun s hp=>?_) (fun s hp=>?_))))))))
 ·refine Zg (Zb (.n (-1)) rfl (Ze (zK (ZI (ZN (ZY rfl Z6) ?_)))))
  cases hp
  exact ⟨rfl,(q.pk [])⟩
 ·refine Zak (Z9 (Zg (Zb (.n 0) rfl (Ze (Zai (ZbM hp (fun i fr k=>fr 0=v_t∧fr 4=.n i∧Own B h k []) (fun|.inl _,e,fr,k=>e=(.exit 0)∧Own B h k []|.inr x1,e,fr,k=>e=.ret∧fr 2=.n x1∧Own B h k []) ⟨rfl,rfl,(q.pk [])⟩ ?_ ?_))))))
  ·rintro i _ J ⟨c,d,g⟩ _ hp
   dsimp only [ZaW.s0] at hp
   refine Z9 (Zg (Zb _ d (Zb _ c (Zc (Zap (g.rd0 s_t.rd) rfl) (Zc (zA rfl rfl) (Ze (zu hp rfl (fun v hp=>?_) (fun v hp=>?_))))))))
   ·refine Zak (Z9 (Zai (Zg (Zb _ c (Zb _ d ?_)))))
    obtain ⟨x2,⟨_,K,D,rfl,I⟩,hp⟩:=bdk hp fun _=>zV.ok (h:=J)  (g.rd0 s_t.rd)
    refine zU rfl rfl D ?_
    have j:=g.call I rfl
    refine Zb (.n x2) rfl (Ze (Zg (Zb _ c (Zb _ d (ckk hp fun m hp=>Zc (ZP (j.rd0 s_t.rd) rfl rfl m) (Zc (zw (j.rd0 s_t.rd) rfl (Zf m) rfl) (Zc (zA rfl rfl) (Zb (.b (decide ((gi t i.toNat)<0))) rfl (zN 3 (fun f k=>K=k∧f 27=.b ((decide ((gi t i.toNat)<0))&&(decide (x2<0)))∧f 0=v_t∧f 4=.n i) ?_ ?_)))))))))
    ·rcases bc (decide ((gi t i.toNat)<0)) with a|a
     ·refine Zq rfl a (Zb (.n x2) rfl (Zq rfl a (Zc (zA rfl rfl) (Zc (ZcU rfl a rfl) (Zj ?_)))))
      exact ⟨rfl,rfl,c,d⟩
     ·refine Zl rfl a (Zl rfl a (Zc (ZcT (w:=(decide ((gi t i.toNat)<0))&&(decide (x2<0))) rfl a rfl) (Zj ?_)))
      exact ⟨rfl,rfl,c,d⟩
    rintro _ _ ⟨rfl,F,E,o⟩
    refine Ze (zu hp F (fun y hp=>?_) (fun y hp=>?_))
    ·refine Zg (Zb _ o (Zb (.n i) rfl (Ze (zK (ZaZ (ZI ?_))))))
     cases hp
     exact ⟨nofun,rfl,rfl,(j.pk [])⟩
    ·refine ZcB (Zam (Zt (Zaf (Zb _ o (ckk hp fun A hp=>Zc (ZV rfl rfl A) (Zb (.n (i+1)) rfl (Zj ?_)))))))
     cases hp
     exact ⟨rfl,E,rfl,(j.pk [])⟩
   ·refine Zb8 (zW ?_)
    cases hp
    exact ⟨nofun,rfl,(g.pk [])⟩
  rintro (_|x1) hp _ _ _ p
  ·obtain ⟨rfl,l⟩:=p
   refine Za9 (Zt (Zg (Zb (.n (-1)) rfl (Ze (zK (ZN (ZY rfl Z6) ?_))))))
   cases hp
   exact ⟨rfl,(l.pk [])⟩
  ·obtain ⟨rfl,L,l⟩:=p
   refine ZaZ (ZI (ZN (ZY L Z6) ?_))
   cases hp
   exact ⟨rfl,(l.pk [])⟩

theorem zP.ok {h:Hp}{l:List Za}{v_l:V}(s_l:Sl Zd h v_l l) {r:(List Za)×Int}(hp:zP l=some r) :
  ∃ u k',Is G 273 [v_l] h u k'∧∃ ar,V.tu [ar,.n r.2]=u∧Own (fun r=>r<h.n) h k' [eSl Zd ar r.1]:=by
 refine WC.is (ZaD Zew ?_)
 unfold zP at hp
 let B:Nat→Prop:=(fun r=>r<h.n)
 have hO:Own B h h []:=Own.start0 h
 refine Zg (Zb (.sn) rfl (Zb (.n 0) rfl (Ze (Zg (Zb v_l rfl ?_)))))
 obtain ⟨⟨x,x1⟩,⟨_,a9,aI,rfl,aZ⟩,hp⟩:=bdk hp fun _=>zJ.ok (h:=h)  (hO.rd0 s_l.rd)
 refine zU rfl rfl aI ?_
 have p:=hO.call aZ rfl
 refine Zb (.tu [.n x,.n x1]) rfl (Zc (zC rfl rfl) (Zc (zC rfl rfl) (Zb (.n x) rfl (Zb (.n x1) rfl (Ze (Z9 (Zg (Zb (.n x1) rfl (Zc (Zca rfl rfl) (Ze (zu hp rfl (fun ay hp=>?_) (fun ay hp=>?_))))))))))))
 ·refine Zg (Zb (.n x1) rfl (Zb (.sn) rfl (Zb (.n x1) rfl (Ze (zK (ZI ?_))))))
  have aS:=p.nil Zd
  refine ZN (ZY rfl (ZY rfl Z6)) ?_
  cases hp
  exact ⟨V.sn,rfl,(aS.pk [0])⟩
 ·refine Zak (Z9 (Zg (Zb (.n x) rfl (Zc (zA rfl rfl) (Ze (zu hp rfl (fun az hp=>?_) (fun az hp=>?_)))))))
  ·refine Zg (Zb (.sn) rfl (Zb (.n 2) rfl (Ze (zK (ZI ?_)))))
   have aV:=p.nil Zd
   refine ZN (ZY rfl (ZY rfl Z6)) ?_
   cases hp
   exact ⟨V.sn,rfl,(aV.pk [0])⟩
  ·refine Zak (Z9 (Zg (Zb v_l rfl (Zc (Zap (p.rd0 s_l.rd) rfl) (ckk hp fun aD hp=>Zc (ZV rfl rfl aD) (Zc (Zd1 rfl rfl) (Ze (zu hp rfl (fun aA hp=>?_) (fun aA hp=>?_)))))))))
   ·refine Zg (Zb (.sn) rfl (Zb (.n 6) rfl (Ze (zK (ZI ?_)))))
    have aW:=p.nil Zd
    refine ZN (ZY rfl (ZY rfl Z6)) ?_
    cases hp
    exact ⟨V.sn,rfl,(aW.pk [0])⟩
   ·refine Zak (Zg (Zb v_l rfl ?_))
    obtain ⟨x2,⟨_,ap,aK,_,a,rfl,a1⟩,hp⟩:=bdk hp fun _=>ZG.ok (h:=a9)  (p.rd0 s_l.rd)
    refine zU rfl rfl aK ?_
    have j:=p.call a1 rfl
    refine Zb (.n x) rfl (ckk hp fun c hp=>Zc (ZP (j.sl 0 rfl) rfl rfl (by rw [(j.allLen 1 rfl:(a).length=(x2).length)];exact c)) (Zc (zw (j.sl 0 rfl) rfl (by rw [(j.allLen 1 rfl:(a).length=(x2).length)];exact Zf c) rfl) (Zb ((gi a x.toNat)) rfl (Ze (Zg (Zb v_l rfl (Zb ((gi a x.toNat)) rfl ?_)))))))
    obtain ⟨x3,⟨_,be,aL,au,rfl,a2⟩,hp⟩:=bdk hp fun _=>zZ.ok (h:=ap)  (j.rd0 s_l.rd) (j.inn 1 rfl (Zf c):Sl Zh ap (gi a x.toNat) (gi x2 x.toNat))
    refine zU rfl rfl aL ?_
    have ao:=j.call a2 rfl
    refine Zb au rfl (Ze (Zg (Zb au rfl ?_)))
    obtain ⟨x4,⟨_,g,aM,rfl,a3⟩,hp⟩:=bdk hp fun _=>ZaW.ok (h:=be)  (ao.sl 2 rfl)
    refine zU rfl rfl aM ?_
    have aX:=ao.call a3 rfl
    refine Zb (.n x4) rfl (Ze (Z9 (Zhl ?_)))
    have b:=aX.bump 16
    refine ZaK v_l rfl (ZaK ((gi a x.toNat)) rfl (ZaK (.n x4) rfl (ckk hp fun i hp=>za rfl (ZP (b.inn 1 rfl (Zf c):Sl Zh (g.bump 16) (gi a x.toNat) (gi x2 x.toNat)) rfl rfl i) (za rfl (ZaR (b.inn 1 rfl (Zf c):Sl Zh (g.bump 16) (gi a x.toNat) (gi x2 x.toNat)) (Zf i) rfl rfl) (za rfl (zw (b.inn 1 rfl (Zf c):Sl Zh (g.bump 16) (gi a x.toNat) (gi x2 x.toNat)) rfl (Zf i) rfl) (ZaK ((gi a x.toNat)) rfl (ZaK (.n x4) rfl (za rfl (ZP (b.inn 1 rfl (Zf c):Sl Zh (g.bump 16) (gi a x.toNat) (gi x2 x.toNat)) rfl rfl i) (za rfl (ZaR (b.inn 1 rfl (Zf c):Sl Zh (g.bump 16) (gi a x.toNat) (gi x2 x.toNat)) (Zf i) rfl rfl) (za rfl (zw (b.inn 1 rfl (Zf c):Sl Zh (g.bump 16) (gi a x.toNat) (gi x2 x.toNat)) rfl (Zf i) rfl) (ckk hp fun C hp=>za rfl (ZP (b.rd0 s_l.rd) rfl rfl C) ?_)))))))))))
    refine za rfl (ZaR (b.rd0 s_l.rd) (Zf C) rfl rfl) (ckk hp fun aj hp=>za rfl (Zbd (b.rd0 s_l.rd) (Zf C) rfl rfl aj rfl) (za rfl (zw (b.rd0 s_l.rd) rfl (Zf C) (zL aj)) (ZaK (.n (((gi l ((gi (gi x2 x.toNat) x4.toNat).Cell:Int).toNat).Next).get ((gi (gi x2 x.toNat) x4.toNat).Dir))) rfl (Zba (Zt (Zg (Zb ((gi a x.toNat)) rfl (Zb (.n x4) rfl (Zc (ZP (b.inn 1 rfl (Zf c):Sl Zh (g.bump 16) (gi a x.toNat) (gi x2 x.toNat)) rfl rfl i) (Zc (ZaR (b.inn 1 rfl (Zf c):Sl Zh (g.bump 16) (gi a x.toNat) (gi x2 x.toNat)) (Zf i) rfl rfl) (Zc (zw (b.inn 1 rfl (Zf c):Sl Zh (g.bump 16) (gi a x.toNat) (gi x2 x.toNat)) rfl (Zf i) rfl) ?_)))))))))))
    refine Zb (.n ((gi (gi x2 x.toNat) x4.toNat).Dir)) rfl (Ze (Zg (Zb v_l rfl (Zc (Zap (b.rd0 s_l.rd) rfl) (Zb (.n (l.length:Int)) rfl (Ze (Zg ?_)))))))
    obtain ⟨x5,⟨_,bf,aN,av,rfl,a4⟩,hp⟩:=bdk hp fun _=>ZO.ok (h:=(g.bump 16))  
    refine zU rfl rfl aN ?_
    have aY:=b.call a4 rfl
    refine Zb av rfl (Ze (Zg ?_))
    obtain ⟨x6,⟨_,_,aO,_,rfl,a5⟩,hp⟩:=bdk hp fun _=>ZO.ok (h:=bf)  
    refine zU rfl rfl aO ?_
    have N:=aY.call a5 rfl
    refine Zb v_l rfl (ckk hp fun aG hp=>zQ (N.app (bytes:=64) 4 N.fr rfl (N.rd0 s_l.rd) rfl rfl (fun _=>rfl) aG (by decide)) ?_)
    rintro aw _ ⟨_,O⟩
    refine Zb aw rfl (Ze (Zg (Zb aw rfl (Zb av rfl (ckk hp fun aH hp=>zQ (O.app (bytes:=64) 4 O.fr rfl (O.sl 3 rfl) rfl rfl (fun _=>rfl) aH (by decide)) ?_)))))
    rintro ax _ ⟨_,ak⟩
    refine Zb ax rfl (Ze (Zg (Zb (.n (l.length:Int)) rfl (ckk hp fun D hp=>Zc (ZV rfl rfl D) (Zb (.n (l.length:Int)) rfl (ckk hp fun F hp=>Zc (ZV rfl rfl F) (Zb (.n (l.length:Int)) rfl (Zb (.n (l.length:Int)) rfl (zQ (ak.bsl (E:=Zad) (l:=[(l.length:Int)+1,(l.length:Int)+3,(l.length:Int),(l.length:Int)]) ak.fr (by rw [(zf (v:=.n ((l.length:Int)+1)) rfl (zf (v:=.n ((l.length:Int)+3)) rfl (zf (v:=.n (l.length:Int)) rfl (zf (v:=.n (l.length:Int)) rfl Zbb))))];rfl) rfl) ?_)))))))))
    rintro _ _ ⟨_,_,H⟩
    refine Zb (.n ((gi (gi x2 x.toNat) x4.toNat).Dir)) rfl (ckk hp fun ad hp=>Zc (ZP (H.sl 5 rfl) rfl rfl ad) (Zc (zw (H.sl 5 rfl) rfl (Zf ad) rfl) (Zb (.n (gi [(l.length:Int)+1,(l.length:Int)+3,(l.length:Int),(l.length:Int)] ((gi (gi x2 x.toNat) x4.toNat).Dir:Int).toNat)) rfl (Ze (Zg (Zb (.n (l.length:Int)) rfl (ckk hp fun A hp=>Zc (ZV rfl rfl A) (Zb (.n (l.length:Int)) rfl (Zc (ZV rfl rfl A) ?_)))))))))
    refine Zb (.n (l.length:Int)) rfl (Zc (ZV rfl rfl F) (Zb (.n (l.length:Int)) rfl (Zc (ZV rfl rfl D) (zQ (H.bsl (E:=Zad) (l:=[(l.length:Int)+2,(l.length:Int)+2,(l.length:Int)+3,(l.length:Int)+1]) H.fr (by rw [(zf (v:=.n ((l.length:Int)+2)) rfl (zf (v:=.n ((l.length:Int)+2)) rfl (zf (v:=.n ((l.length:Int)+3)) rfl (zf (v:=.n ((l.length:Int)+1)) rfl Zbb))))];rfl) rfl) ?_))))
    rintro _ _ ⟨_,_,I⟩
    refine Zb (.n ((gi (gi x2 x.toNat) x4.toNat).Dir)) rfl (ckk hp fun ae hp=>Zc (ZP (I.sl 6 rfl) rfl rfl ae) (Zc (zw (I.sl 6 rfl) rfl (Zf ae) rfl) (Zb (.n (gi [(l.length:Int)+2,(l.length:Int)+2,(l.length:Int)+3,(l.length:Int)+1] ((gi (gi x2 x.toNat) x4.toNat).Dir:Int).toNat)) rfl (Ze (Zg (zQ (I.bsl (E:=Zad) (l:=([1,0,1,0]:List Int)) I.fr (by rw [(zf (v:=.n 1) rfl (zf (v:=.n 0) rfl (zf (v:=.n 1) rfl (zf (v:=.n 0) rfl Zbb))))];rfl) rfl) ?_))))))
    rintro _ _ ⟨_,_,P⟩
    refine Zb (.n ((gi (gi x2 x.toNat) x4.toNat).Dir)) rfl (ckk hp fun af hp=>Zc (ZP (P.sl 7 rfl) rfl rfl af) (Zc (zw (P.sl 7 rfl) rfl (Zf af) rfl) (Zb (.n (gi ([1,0,1,0]:List Int) ((gi (gi x2 x.toNat) x4.toNat).Dir:Int).toNat)) rfl (Ze (Z9 (Zg (Zb (.n 0) rfl (Ze (Zai (ZbM hp (fun|(out,s),fr,k=>∃ t,fr 9=.n (((gi l ((gi (gi x2 x.toNat) x4.toNat).Cell:Int).toNat).Next).get ((gi (gi x2 x.toNat) x4.toNat).Dir))∧fr 10=.n ((gi (gi x2 x.toNat) x4.toNat).Dir)∧fr 11=.n (l.length:Int)∧fr 13=t∧fr 14=.n (gi [(l.length:Int)+1,(l.length:Int)+3,(l.length:Int),(l.length:Int)] ((gi (gi x2 x.toNat) x4.toNat).Dir:Int).toNat)∧fr 15=.n (gi [(l.length:Int)+2,(l.length:Int)+2,(l.length:Int)+3,(l.length:Int)+1] ((gi (gi x2 x.toNat) x4.toNat).Dir:Int).toNat)∧fr 16=.n (gi ([1,0,1,0]:List Int) ((gi (gi x2 x.toNat) x4.toNat).Dir:Int).toNat)∧fr 17=.n s∧Own B h k [eSl Zd t out]) (fun out1 e fr k=>e=(.exit 0)∧∃ Y,fr 9=.n (((gi l ((gi (gi x2 x.toNat) x4.toNat).Cell:Int).toNat).Next).get ((gi (gi x2 x.toNat) x4.toNat).Dir))∧fr 10=.n ((gi (gi x2 x.toNat) x4.toNat).Dir)∧fr 11=.n (l.length:Int)∧fr 13=Y∧fr 14=.n (gi [(l.length:Int)+1,(l.length:Int)+3,(l.length:Int),(l.length:Int)] ((gi (gi x2 x.toNat) x4.toNat).Dir:Int).toNat)∧fr 15=.n (gi [(l.length:Int)+2,(l.length:Int)+2,(l.length:Int)+3,(l.length:Int)+1] ((gi (gi x2 x.toNat) x4.toNat).Dir:Int).toNat)∧fr 16=.n (gi ([1,0,1,0]:List Int) ((gi (gi x2 x.toNat) x4.toNat).Dir:Int).toNat)∧Own B h k [eSl Zd Y out1]) ⟨ax,rfl,rfl,rfl,rfl,rfl,rfl,rfl,rfl,(P.pk [4])⟩ ?_ ?_))))))))))
    ·rintro ⟨out,s⟩ _ _ ⟨t,X,L,f,S,T,U,W,m,Q⟩ _ hp
     dsimp only [zP.s0] at hp
     refine Z9 (Zg (Zb _ m (Zc (zA rfl rfl) (Ze (zu hp rfl (fun aB hp=>?_) (fun aB hp=>?_))))))
     ·refine Zak (Z9 (Zai (Zg (Zb _ f (Zc (ZV rfl rfl D) (Zb _ f (Zc (ZV rfl rfl F) (Zb _ f (Zb _ f (zQ (Q.bsl (E:=Zad) (l:=[(l.length:Int)+1,(l.length:Int)+3,(l.length:Int),(l.length:Int)]) Q.fr (by rw [(zf (v:=.n ((l.length:Int)+1)) rfl (zf (v:=.n ((l.length:Int)+3)) rfl (zf (v:=.n (l.length:Int)) rfl (zf (v:=.n (l.length:Int)) rfl Zbb))))];rfl) rfl) ?_))))))))))
      rintro _ _ ⟨_,_,J⟩
      refine Zb _ m (ckk hp fun ag hp=>Zc (ZP (J.sl 1 rfl) rfl rfl ag) (Zc (zw (J.sl 1 rfl) rfl (Zf ag) rfl) (Zb (.n (gi [(l.length:Int)+1,(l.length:Int)+3,(l.length:Int),(l.length:Int)] s.toNat)) rfl (Ze (Zg (Zb _ f (Zc (ZV rfl rfl A) (Zb _ f (Zc (ZV rfl rfl A) (Zb _ f ?_))))))))))
      refine Zc (ZV rfl rfl F) (Zb _ f (Zc (ZV rfl rfl D) (zQ (J.bsl (E:=Zad) (l:=[(l.length:Int)+2,(l.length:Int)+2,(l.length:Int)+3,(l.length:Int)+1]) J.fr (by rw [(zf (v:=.n ((l.length:Int)+2)) rfl (zf (v:=.n ((l.length:Int)+2)) rfl (zf (v:=.n ((l.length:Int)+3)) rfl (zf (v:=.n ((l.length:Int)+1)) rfl Zbb))))];rfl) rfl) ?_)))
      rintro _ _ ⟨_,_,K⟩
      refine Zb _ m (ckk hp fun ah hp=>Zc (ZP (K.sl 2 rfl) rfl rfl ah) (Zc (zw (K.sl 2 rfl) rfl (Zf ah) rfl) (Zb (.n (gi [(l.length:Int)+2,(l.length:Int)+2,(l.length:Int)+3,(l.length:Int)+1] s.toNat)) rfl (Ze (Zg (zQ (K.bsl (E:=Zad) (l:=([1,0,1,0]:List Int)) K.fr (by rw [(zf (v:=.n 1) rfl (zf (v:=.n 0) rfl (zf (v:=.n 1) rfl (zf (v:=.n 0) rfl Zbb))))];rfl) rfl) ?_))))))
      rintro _ bb ⟨_,_,q⟩
      refine Zb _ m (ckk hp fun ai hp=>Zc (ZP (q.sl 3 rfl) rfl rfl ai) (Zc (zw (q.sl 3 rfl) rfl (Zf ai) rfl) (Zb (.n (gi ([1,0,1,0]:List Int) s.toNat)) rfl (Ze (Zg (Zb _ m (Zb _ L (Zc (Zca rfl rfl) (Ze (zu hp rfl (fun aC hp=>?_) (fun aC hp=>?_)))))))))))
      ·refine Zaf (Zb _ S (Zb (.n (gi [(l.length:Int)+1,(l.length:Int)+3,(l.length:Int),(l.length:Int)] s.toNat)) rfl (Zb (.n (gi ([1,0,1,0]:List Int) s.toNat)) rfl (Zb (.n (gi [(l.length:Int)+2,(l.length:Int)+2,(l.length:Int)+3,(l.length:Int)+1] s.toNat)) rfl ?_))))
       obtain ⟨⟨x7,x8⟩,⟨_,_,aP,aa,rfl,a6⟩,hp⟩:=bdk hp fun _=>ZQ.ok (h:=bb) (l:=out) (v:=(gi [(l.length:Int)+1,(l.length:Int)+3,(l.length:Int),(l.length:Int)] s.toNat)) (d:=(gi ([1,0,1,0]:List Int) s.toNat)) (w:=(gi [(l.length:Int)+2,(l.length:Int)+2,(l.length:Int)+3,(l.length:Int)+1] s.toNat)) (o:=(-2)) (q.toM [0] rfl (by decide)) 
       refine zU rfl rfl aP ?_
       have aT:=(q.callM [0] [1,2,3] rfl rfl (by decide) a6 rfl).pick [900,0,1,2,3] rfl (by decide)
       refine Zb (.tu [aa,.n x8]) rfl (Zc (zC rfl rfl) (Zc (zC rfl rfl) (Zb aa rfl (Zj (Zam (Zt (Zaf (Zb _ m (ckk hp fun aE hp=>Zc (ZV rfl rfl aE) (Zb (.n (s+1)) rfl (Zj ?_)))))))))))
       cases hp
       exact ⟨rfl,aa,X,L,f,rfl,T,U,W,rfl,(aT.pk [4])⟩
      ·refine ZcB (Zam (Zt (Zaf (Zb _ m (ckk hp fun aF hp=>Zc (ZV rfl rfl aF) (Zb (.n (s+1)) rfl (Zj ?_)))))))
       cases hp
       exact ⟨rfl,t,X,L,f,S,T,U,W,rfl,(q.pk [0])⟩
     ·refine Zb8 (zW ?_)
      cases hp
      exact ⟨nofun,rfl,t,X,L,f,S,T,U,W,(Q.pk [0])⟩
    rintro out1 hp _ _ ba ⟨rfl,Y,bk,bg,R,bh,bi,bj,aq,al⟩
    refine Za9 (Zt (Zg (Zb _ bh (Zb _ bi (Zb _ aq (Zb _ R (ckk hp fun M hp=>Zc (ZV rfl rfl M) ?_)))))))
    obtain ⟨⟨x9,x10⟩,⟨_,bc,aQ,ab,rfl,a7⟩,hp⟩:=bdk hp fun _=>ZQ.ok (h:=ba) (l:=out1) (v:=(gi [(l.length:Int)+1,(l.length:Int)+3,(l.length:Int),(l.length:Int)] ((gi (gi x2 x.toNat) x4.toNat).Dir:Int).toNat)) (d:=(gi ([1,0,1,0]:List Int) ((gi (gi x2 x.toNat) x4.toNat).Dir:Int).toNat)) (w:=((l.length:Int)+4)) (o:=(-2)) (al.toM [0] rfl (by decide)) 
    refine zU rfl rfl aQ ?_
    have am:=(al.callM [0] [] rfl rfl (by decide) a7 rfl).pick [900,0] rfl (by decide)
    refine Zb (.tu [ab,.n x10]) rfl (Zc (zC rfl rfl) (Zc (zC rfl rfl) (Zb ab rfl (Ze (Zg (Zb ab rfl (Zb _ R (Zc (ZV rfl rfl M) (Zb _ aq (Zb _ bj ?_))))))))))
    obtain ⟨⟨x11,x12⟩,⟨_,bd,aR,ac,rfl,a8⟩,hp⟩:=bdk hp fun _=>ZQ.ok (h:=bc) (l:=x9) (v:=((l.length:Int)+4)) (d:=(gi ([1,0,1,0]:List Int) ((gi (gi x2 x.toNat) x4.toNat).Dir:Int).toNat)) (w:=(gi [(l.length:Int)+2,(l.length:Int)+2,(l.length:Int)+3,(l.length:Int)+1] ((gi (gi x2 x.toNat) x4.toNat).Dir:Int).toNat)) (o:=(-2)) (am.toM [1] rfl (by decide)) 
    refine zU rfl rfl aR ?_
    have an:=(am.callM [1] [] rfl rfl (by decide) a8 rfl).pick [900,901,0] rfl (by decide)
    refine Zb (.tu [ac,.n x12]) rfl (Zc (zC rfl rfl) (Zc (zC rfl rfl) (Zb ac rfl (Ze (Zg (Zb ac rfl (Zb _ bk (Zb _ bg (Zb _ R (Zc (ZV rfl rfl M) ?_))))))))))
    obtain ⟨⟨x13,x14⟩,⟨_,_,aJ,y,rfl,a0⟩,hp⟩:=bdk hp fun _=>ZQ.ok (h:=bd) (l:=x11) (v:=(((gi l ((gi (gi x2 x.toNat) x4.toNat).Cell:Int).toNat).Next).get ((gi (gi x2 x.toNat) x4.toNat).Dir))) (d:=((gi (gi x2 x.toNat) x4.toNat).Dir)) (w:=((l.length:Int)+4)) (o:=(-2)) (an.toM [2] rfl (by decide)) 
    refine zU rfl rfl aJ ?_
    have aU:=(an.callM [2] [] rfl rfl (by decide) a0 rfl).pick [900,901,902,0] rfl (by decide)
    refine Zb (.tu [y,.n x14]) rfl (Zc (zC rfl rfl) (Zc (zC rfl rfl) (Zb y rfl (Ze (Zg (Zb y rfl (Zb y rfl (Zb (.n 0) rfl (Ze (zK ?_))))))))))
    refine ZN (ZY rfl (ZY rfl Z6)) ?_
    cases hp
    exact ⟨y,rfl,(aU.pk [3])⟩

end Mu
