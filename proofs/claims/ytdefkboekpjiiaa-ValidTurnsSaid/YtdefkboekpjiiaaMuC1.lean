/- The code comes to what was worked out. -/
import Derived.Test.YtdefkboekpjiiaaMuDf
import Derived.Test.YtdefkboekpjiiaaMuPa
import Derived.Test.YtdefkboekpjiiaaMuC0
set_option linter.unusedVariables false
set_option linter.unnecessarySimpa false
set_option linter.unusedSimpArgs false
set_option maxHeartbeats 2000000
set_option maxRecDepth 10000
namespace Mu
open Go (IntKind BinOp UnOp)
theorem zf.ok {h:Hp} {s:zc} {v_s_Boxes:V} {v_s_Edges:V} (s_s_Boxes:Sl e_bool h v_s_Boxes s.Boxes) (s_s_Edges:Sl ZP h v_s_Edges s.Edges) {r:Int} (hp:zf s=some r) :
  ∃ u k',Is G 197 [.ag [v_s_Boxes,v_s_Edges]] h u k'∧V.n r=u∧Own (fun r=>r < h.n) h k' []:=by
 refine WC.is (ZaI Zcl ?_)
 unfold zf at hp
 let B:Nat→Prop:=(fun r=>r < h.n)
 have hO:Own B h h []:=Own.start0 h
 refine Zl (zq (hO.boxd (cs:=[v_s_Boxes,v_s_Edges]) hO.fr rfl rfl) ?_)
 rintro _ aU ⟨a,rfl,a0,aK,aG⟩
 refine Zb (.n 0) rfl (Zg (Zl (Zb (.n 0) rfl (Zg (ZN ?_)))))
 refine Zl (Zb (.n 0) rfl (Zg (zW (Zbf hp (fun | (n,i),fr,k=>fr 1=.p a 0∧fr 3=.n n∧fr 4=.n i∧Own B h k [zI a [v_s_Boxes,v_s_Edges]]) (fun n1 e fr k=>e=(.exit 0)∧fr 1=.p a 0∧fr 3=.n n1∧Own B h k [zI a [v_s_Boxes,v_s_Edges]]) ⟨rfl,rfl,rfl,(aG.pk [0])⟩ ?_ ?_))))
 ·rintro ⟨n,i⟩ a5 aV ⟨J,ai,R,v⟩ a2 hp
  dsimp only [zf.s0] at hp
  refine ZN (Zl (Zb _ R (Zc (zy (r:=a) (o:=0) J rfl) (Zc (zd (v.box 0 rfl) rfl rfl) (Zc (zP (v.rd0 s_s_Edges.rd) rfl) (Zc (z3 rfl rfl) (Zj ?_)))))))
  refine Zs (zB hp rfl (fun aj hp=>?_) (fun aj hp=>?_))
  ·refine Zal (ZN (zW (zF (Zb _ ai (Zc (zy (r:=a) (o:=0) J rfl) (Zc (zd (v.box 0 rfl) rfl rfl) (Zb _ R ?_)))))))
   refine ckk hp fun L hp=>Zc (zm (v.rd0 s_s_Edges.rd) rfl rfl L) (Zc (Za9 (v.rd0 s_s_Edges.rd) (Zh L) rfl rfl) (Zc (zE (v.rd0 s_s_Edges.rd) rfl (Zh L) rfl) (Zc (Zfz rfl) (ckk hp fun ao hp=>Zc (zn rfl rfl ao) (Zb (.n (n + (((gi s.Edges i.toNat).Bends).size:Int))) rfl (Zj ?_))))))
   refine zV (Zs (zF (Zb _ R (ckk hp fun ap hp=>Zc (zn rfl rfl ap) (Zb (.n (i + 1)) rfl (Zj ?_))))))
   cases hp
   exact ⟨rfl,J,rfl,rfl,(v.pk [0])⟩
  ·refine ZaZ (zM ?_)
   cases hp
   exact ⟨nofun,rfl,J,ai,(v.pk [0])⟩
 rintro n1 hp _ a4 ae ⟨rfl,I,ah,D⟩
 refine Zav (Zs (ZN (Zl (Zc (zy (r:=a) (o:=0) I rfl) (Zc (zd (D.box 0 rfl) rfl rfl) (Zc (zP (D.rd0 s_s_Boxes.rd) rfl) (Zc (Zc6 rfl rfl) ?_)))))))
 refine Zb (.b (decide (4096 < (s.Boxes.length:Int)))) rfl (zO 5 (fun f k=>ae=k∧f 33=.b ((decide (4096 < (s.Boxes.length:Int))) || (decide (4096 < (s.Edges.length:Int))))∧f 1=.p a 0∧f 3=.n n1) ?_ ?_)
 ·rcases bc (decide (4096 < (s.Boxes.length:Int))) with j | j
  ·refine Zr rfl j (Zr rfl j (Zr rfl j (Zr rfl j (Zc (Zbt (w:=(decide (4096 < (s.Boxes.length:Int))) || (decide (4096 < (s.Edges.length:Int)))) rfl j rfl) (Zj ?_)))))
   exact ⟨rfl,rfl,I,ah⟩
  ·refine Z5 rfl j (Zc (zy (r:=a) (o:=0) I rfl) (Z5 rfl j (Zc (zd (D.box 0 rfl) rfl rfl) (Z5 rfl j (Zc (zP (D.rd0 s_s_Edges.rd) rfl) (Z5 rfl j (Zc (Zc6 rfl rfl) (Zc (Zbu rfl j rfl) ?_))))))))
   refine Zj ?_
   exact ⟨rfl,rfl,I,ah⟩
 rintro aN _ ⟨rfl,av,T,au⟩
 refine Zb _ av (zO 3 (fun f k=>ae=k∧f 37=.b (((decide (4096 < (s.Boxes.length:Int))) || (decide (4096 < (s.Edges.length:Int)))) || (decide (4096 < n1)))∧f 1=.p a 0) ?_ ?_)
 ·rcases bc ((decide (4096 < (s.Boxes.length:Int))) || (decide (4096 < (s.Edges.length:Int)))) with C | C
  ·refine Zr rfl C (Zr rfl C (Zc (Zbt (w:=((decide (4096 < (s.Boxes.length:Int))) || (decide (4096 < (s.Edges.length:Int)))) || (decide (4096 < n1))) rfl C rfl) (Zj ?_)))
   exact ⟨rfl,rfl,T⟩
  ·refine Z5 rfl C (Zb _ au (Z5 rfl C (Zc (Zc6 rfl rfl) (Zc (Zbu rfl C rfl) (Zj ?_)))))
   exact ⟨rfl,rfl,T⟩
 rintro aO _ ⟨rfl,ax,aw⟩
 refine Zg (zB hp ax (fun al hp=>?_) (fun al hp=>?_))
 ·refine Zl (Zb (.n 6) rfl (Zg (Zak (zG (z6 (zJ rfl ze) ?_)))))
  cases hp
  exact ⟨rfl,(D.pk [])⟩
 ·refine Zal (ZN (Zl (Zb (.n 0) rfl (Zg (zW (Zbf hp (fun i1 fr k=>fr 1=.p a 0∧fr 5=.n i1∧Own B h k [zI a [v_s_Boxes,v_s_Edges]]) (fun | .inl _,e,fr,k=>e=(.exit 2)∧Own B h k [] | .inr x,e,fr,k=>e=.ret∧fr 2=.n x∧Own B h k []) ⟨aw,rfl,(D.pk [0])⟩ ?_ ?_))))))
  ·rintro i1 a7 aX ⟨E,K,y⟩ a3 hp
   dsimp only [zf.s1] at hp
   refine ZN (Zl (Zb _ K (Zc (zy (r:=a) (o:=0) E rfl) (Zc (zd (y.box 0 rfl) rfl rfl) (Zc (zP (y.rd0 s_s_Edges.rd) rfl) (Zc (z3 rfl rfl) (Zj ?_)))))))
   refine Zs (zB hp rfl (fun am hp=>?_) (fun am hp=>?_))
   ·refine Zal (ZN (zW (Zl (Zc (zy (r:=a) (o:=0) E rfl) (Zc (zd (y.box 0 rfl) rfl rfl) (Zb _ K ?_))))))
    refine ckk hp fun S hp=>Zc (zm (y.rd0 s_s_Edges.rd) rfl rfl S) (Zc (ZdQ (y.rd0 s_s_Edges.rd) rfl (Zh S)) (zq (y.alloc (cs:=ZP.c (⟨0,0,0,(⟨#[]⟩:ByteArray)⟩:zH)) y.fr) ?_))
    rintro _ aY ⟨m,rfl,a1,aL,aH⟩
    refine zq (aH.stb (cs':=ZP.c (gi s.Edges i1.toNat)) 1 rfl rfl rfl rfl ⟨rfl,Nat.le_of_ble_eq_true rfl,rfl⟩ rfl) ?_
    rintro _ H ⟨rfl,aM,aZ,l⟩
    refine Zg (ZN (Zl (Zc (zy (r:=m) (o:=0) rfl rfl) (Zc (zd (l.box 1 rfl) rfl rfl) (Zc (z3 rfl rfl) (Zb (.b (decide (((gi s.Edges i1.toNat).From) < 0))) rfl (zO 7 (fun f k=>H=k∧f 60=.b ((decide (((gi s.Edges i1.toNat).From) < 0)) || (decide ((s.Boxes.length:Int)≤((gi s.Edges i1.toNat).From))))∧f 1=.p a 0∧f 5=.n i1∧f 6=.p m 0) ?_ ?_)))))))
    ·rcases bc (decide (((gi s.Edges i1.toNat).From) < 0)) with d | d
     ·refine Zr rfl d (Zr rfl d (Zr rfl d (Zr rfl d (Zr rfl d (Zr rfl d (Zc (Zbt (w:=(decide (((gi s.Edges i1.toNat).From) < 0)) || (decide ((s.Boxes.length:Int)≤((gi s.Edges i1.toNat).From)))) rfl d rfl) (Zj ?_)))))))
      exact ⟨rfl,rfl,E,K,rfl⟩
     ·refine Z5 rfl d (Zc (zy (r:=m) (o:=0) rfl rfl) (Z5 rfl d (Zc (zd (l.box 1 rfl) rfl rfl) (Z5 rfl d (Zc (zy (r:=a) (o:=0) E rfl) (Z5 rfl d (Zc (zd (l.box 0 rfl) rfl rfl) (Z5 rfl d ?_))))))))
      refine Zc (zP (l.rd0 s_s_Boxes.rd) rfl) (Z5 rfl d (Zc (Zcr rfl rfl) (Zc (Zbu rfl d rfl) (Zj ?_))))
      exact ⟨rfl,rfl,E,K,rfl⟩
    rintro aP _ ⟨rfl,ay,U,W,M⟩
    refine Zb _ ay (zO 4 (fun f k=>H=k∧f 65=.b (((decide (((gi s.Edges i1.toNat).From) < 0)) || (decide ((s.Boxes.length:Int)≤((gi s.Edges i1.toNat).From)))) || (decide (((gi s.Edges i1.toNat).To) < 0)))∧f 1=.p a 0∧f 5=.n i1∧f 6=.p m 0) ?_ ?_)
    ·rcases bc ((decide (((gi s.Edges i1.toNat).From) < 0)) || (decide ((s.Boxes.length:Int)≤((gi s.Edges i1.toNat).From)))) with t | t
     ·refine Zr rfl t (Zr rfl t (Zr rfl t (Zc (Zbt (w:=((decide (((gi s.Edges i1.toNat).From) < 0)) || (decide ((s.Boxes.length:Int)≤((gi s.Edges i1.toNat).From)))) || (decide (((gi s.Edges i1.toNat).To) < 0))) rfl t rfl) (Zj ?_))))
      exact ⟨rfl,rfl,U,W,M⟩
     ·refine Z5 rfl t (Zc (zy (r:=m) (o:=0) M rfl) (Z5 rfl t (Zc (zd (l.box 1 rfl) rfl rfl) (Z5 rfl t (Zc (z3 rfl rfl) (Zc (Zbu rfl t rfl) (Zj ?_)))))))
      exact ⟨rfl,rfl,U,W,M⟩
    rintro aQ _ ⟨rfl,az,N,X,O⟩
    refine Zb _ az (zO 7 (fun f k=>H=k∧f 73=.b ((((decide (((gi s.Edges i1.toNat).From) < 0)) || (decide ((s.Boxes.length:Int)≤((gi s.Edges i1.toNat).From)))) || (decide (((gi s.Edges i1.toNat).To) < 0))) || (decide ((s.Boxes.length:Int)≤((gi s.Edges i1.toNat).To))))∧f 1=.p a 0∧f 5=.n i1∧f 6=.p m 0) ?_ ?_)
    ·rcases bc (((decide (((gi s.Edges i1.toNat).From) < 0)) || (decide ((s.Boxes.length:Int)≤((gi s.Edges i1.toNat).From)))) || (decide (((gi s.Edges i1.toNat).To) < 0))) with g | g
     ·refine Zr rfl g (Zr rfl g (Zr rfl g (Zr rfl g (Zr rfl g (Zr rfl g (Zc (Zbt (w:=(((decide (((gi s.Edges i1.toNat).From) < 0)) || (decide ((s.Boxes.length:Int)≤((gi s.Edges i1.toNat).From)))) || (decide (((gi s.Edges i1.toNat).To) < 0))) || (decide ((s.Boxes.length:Int)≤((gi s.Edges i1.toNat).To)))) rfl g rfl) (Zj ?_)))))))
      exact ⟨rfl,rfl,N,X,O⟩
     ·refine Z5 rfl g (Zc (zy (r:=m) (o:=0) O rfl) (Z5 rfl g (Zc (zd (l.box 1 rfl) rfl rfl) (Z5 rfl g (Zc (zy (r:=a) (o:=0) N rfl) (Z5 rfl g (Zc (zd (l.box 0 rfl) rfl rfl) (Z5 rfl g ?_))))))))
      refine Zc (zP (l.rd0 s_s_Boxes.rd) rfl) (Z5 rfl g (Zc (Zcr rfl rfl) (Zc (Zbu rfl g rfl) (Zj ?_))))
      exact ⟨rfl,rfl,N,X,O⟩
    rintro aR _ ⟨rfl,aA,Y,aa,P⟩
    refine Zg (zB hp aA (fun an hp=>?_) (fun an hp=>?_))
    ·refine Zl (Zb (.n 3) rfl (Zg (Zak (zG (Zbh (zG ?_))))))
     cases hp
     exact ⟨nofun,rfl,rfl,(l.pk [])⟩
    ·refine Zal (Zl (Zc (zy (r:=m) (o:=0) P rfl) (Zc (zd (l.box 1 rfl) rfl rfl) ?_)))
     obtain ⟨x1,⟨a8,af,ar,rfl,aI⟩,hp⟩:=bdk hp fun _=>zD.ok (h:=H)  
     refine Zat rfl rfl ar ?_
     have F:=l.call aI rfl
     refine Zb (.b x1) rfl (Zg (Zl (Zc (zy (r:=m) (o:=0) P rfl) (Zc (zd (F.box 1 rfl) rfl rfl) (Zc (z3 rfl rfl) (Zb (.b (decide (((gi s.Edges i1.toNat).Dir) < 0))) rfl (zO 4 (fun f k=>af=k∧f 84=.b ((decide (((gi s.Edges i1.toNat).Dir) < 0)) || (decide (3 < ((gi s.Edges i1.toNat).Dir))))∧f 1=.p a 0∧f 5=.n i1∧f 7=.b x1) ?_ ?_)))))))
     ·rcases bc (decide (((gi s.Edges i1.toNat).Dir) < 0)) with q | q
      ·refine Zr rfl q (Zr rfl q (Zr rfl q (Zc (Zbt (w:=(decide (((gi s.Edges i1.toNat).Dir) < 0)) || (decide (3 < ((gi s.Edges i1.toNat).Dir)))) rfl q rfl) (Zj ?_))))
       exact ⟨rfl,rfl,Y,aa,rfl⟩
      ·refine Z5 rfl q (Zc (zy (r:=m) (o:=0) P rfl) (Z5 rfl q (Zc (zd (F.box 1 rfl) rfl rfl) (Z5 rfl q (Zc (Zc6 rfl rfl) (Zc (Zbu rfl q rfl) (Zj ?_)))))))
       exact ⟨rfl,rfl,Y,aa,rfl⟩
     rintro aS _ ⟨rfl,aC,ab,ac,aB⟩
     refine Zb _ aC (zO 3 (fun f k=>af=k∧f 88=.b (((decide (((gi s.Edges i1.toNat).Dir) < 0)) || (decide (3 < ((gi s.Edges i1.toNat).Dir)))) || (!x1))∧f 1=.p a 0∧f 5=.n i1) ?_ ?_)
     ·rcases bc ((decide (((gi s.Edges i1.toNat).Dir) < 0)) || (decide (3 < ((gi s.Edges i1.toNat).Dir)))) with A | A
      ·refine Zr rfl A (Zr rfl A (Zc (Zbt (w:=((decide (((gi s.Edges i1.toNat).Dir) < 0)) || (decide (3 < ((gi s.Edges i1.toNat).Dir)))) || (!x1)) rfl A rfl) (Zj ?_)))
       exact ⟨rfl,rfl,ab,ac⟩
      ·refine Z5 rfl A (Zb _ aB (Z5 rfl A (Zc (Zdd rfl) (Zc (Zbu rfl A rfl) (Zj ?_)))))
       exact ⟨rfl,rfl,ab,ac⟩
     rintro aT _ ⟨rfl,aF,aD,aE⟩
     refine Zg (zB hp aF (fun ak hp=>?_) (fun ak hp=>?_))
     ·refine Zl (Zb (.n 2) rfl (Zg (Zak (Zbh (zG ?_)))))
      cases hp
      exact ⟨nofun,rfl,rfl,(F.pk [])⟩
     ·refine ZbN (zV (Zs (zF (Zb _ aE (ckk hp fun aq hp=>Zc (zn rfl rfl aq) (Zb (.n (i1 + 1)) rfl (Zj ?_)))))))
      cases hp
      exact ⟨rfl,aD,rfl,(F.pk [0])⟩
   ·refine ZaZ (zM ?_)
    cases hp
    exact ⟨nofun,rfl,(y.pk [])⟩
  rintro (_ | x) hp _ a6 aW ad
  ·obtain ⟨rfl,Q⟩:=ad
   refine Zav (Zs (Zl (Zb (.n 0) rfl (Zg (Zak (z6 (zJ rfl ze) ?_))))))
   cases hp
   exact ⟨rfl,(Q.pk [])⟩
  ·obtain ⟨rfl,aJ,Q⟩:=ad
   refine Zbh (zG (z6 (zJ aJ ze) ?_))
   cases hp
   exact ⟨rfl,(Q.pk [])⟩

theorem zT.ok {h:Hp} {e_:zH}   {r:Int} (hp:zT e_=some r) :
  ∃ u k',Is G 230 [.ag (ZP.c e_)] h u k'∧V.n r=u∧Own (fun r=>r < h.n) h k' []:=by
 refine WC.is (ZaI Zc0 ?_)
 unfold zT at hp
 let B:Nat→Prop:=(fun r=>r < h.n)
 have hO:Own B h h []:=Own.start0 h
 refine Zl (zq (hO.boxd (cs:=ZP.c e_) hO.fr rfl rfl) ?_)
 rintro _ E ⟨f,rfl,I,D,m⟩
 refine Zb (.n 0) rfl (Zg (Zl (Zc (zy (r:=f) (o:=0) rfl rfl) (Zc (zd (m.box 0 rfl) rfl rfl) (Zb (.n e_.Dir) rfl (Zj ?_))))))
 refine Zs (ZN (Zl (Zb (.n 0) rfl (Zg (zW (Zbf hp (fun | (d,i),fr,k=>fr 1=.p f 0∧fr 3=.n d∧fr 4=.n i∧Own B h k [zI f (ZP.c e_)]) (fun d1 e fr k=>e=(.exit 0)∧fr 3=.n d1∧Own B h k []) ⟨rfl,rfl,rfl,(m.pk [0])⟩ ?_ ?_))))))
 ·rintro ⟨d,i⟩ L H ⟨g,l,j,b⟩ J hp
  dsimp only [zT.s0] at hp
  refine ZN (Zl (Zb _ j (Zc (zy (r:=f) (o:=0) g rfl) (Zc (zd (b.box 0 rfl) rfl rfl) (Zc (Zfz rfl) (Zc (z3 rfl rfl) (Zj ?_)))))))
  refine Zs (zB hp rfl (fun q hp=>?_) (fun q hp=>?_))
  ·refine Zal (ZN (zW (Zl (Zc (zy (r:=f) (o:=0) g rfl) (Zc (zd (b.box 0 rfl) rfl rfl) (Zb _ j ?_))))))
   refine ckk hp fun t hp=>Zc (ZhW (a:=e_.Bends) (z:=i) rfl rfl t) (Zc (ZaX rfl rfl) (Zg (zB hp rfl (fun s hp=>?_) (fun s hp=>?_))))
   ·refine zF (Zb _ l (ckk hp fun v hp=>Zc (zn rfl rfl v) (Zc (Zbx rfl rfl (by decide)) (Zb (.n ((d + 1).tmod 4)) rfl (Zj (zV (Zs ?_)))))))
    refine zF (Zb _ j (ckk hp fun w hp=>Zc (zn rfl rfl w) (Zb (.n (i + 1)) rfl (Zj ?_))))
    cases hp
    exact ⟨rfl,g,rfl,rfl,(b.pk [0])⟩
   ·refine zF (Zb _ l (ckk hp fun x hp=>Zc (zn rfl rfl x) (Zc (Zbx rfl rfl (by decide)) (Zb (.n ((d + 3).tmod 4)) rfl (Zj (zV (Zs ?_)))))))
    refine zF (Zb _ j (ckk hp fun y hp=>Zc (zn rfl rfl y) (Zb (.n (i + 1)) rfl (Zj ?_))))
    cases hp
    exact ⟨rfl,g,rfl,rfl,(b.pk [0])⟩
  ·refine ZaZ (zM ?_)
   cases hp
   exact ⟨nofun,rfl,l,(b.pk [])⟩
 rintro d1 hp _ K F ⟨rfl,C,A⟩
 refine Zav (Zs (Zl (Zb _ C (Zb (.n d1) rfl (Zg (Zak ?_))))))
 refine z6 (zJ rfl ze) ?_
 cases hp
 exact ⟨rfl,(A.pk [])⟩

theorem ZaM.ok {h:Hp} {e_:zH}   {r:Int} (hp:ZaM e_=some r) :
  ∃ u k',Is G 218 [.ag (ZP.c e_)] h u k'∧V.n r=u∧Own (fun r=>r < h.n) h k' []:=by
 refine WC.is (ZaI Zc5 ?_)
 unfold ZaM at hp
 let B:Nat→Prop:=(fun r=>r < h.n)
 have hO:Own B h h []:=Own.start0 h
 refine Zl (zq (hO.boxd (cs:=ZP.c e_) hO.fr rfl rfl) ?_)
 rintro _ g ⟨l,rfl,k,i,a⟩
 refine Zb (.n 0) rfl (Zg (Zl (Zc (Za7 (a.box 0 rfl) rfl rfl) ?_)))
 obtain ⟨x,⟨m,j,d,rfl,f⟩,hp⟩:=bdk hp fun _=>zT.ok (h:=g)  
 refine Zat rfl rfl d ?_
 have e:=a.call f rfl
 refine Zb (.n x) rfl (Zg (Zl (Zb (.n x) rfl (ckk hp fun b hp=>Zc (zn rfl rfl b) (Zc (Zbx rfl rfl (by decide)) ?_)))))
 refine Zb (.n ((x + 2).tmod 4)) rfl (Zg (Zak (z6 (zJ rfl ze) ?_)))
 cases hp
 exact ⟨rfl,(e.pk [])⟩

theorem zx.ok {h:Hp} {s:zc} {v:Int} {d:Int} {v_s_Boxes:V} {v_s_Edges:V} (s_s_Boxes:Sl e_bool h v_s_Boxes s.Boxes) (s_s_Edges:Sl ZP h v_s_Edges s.Edges) {r:(List Int)} (hp:zx s v d=some r) :
  ∃ u k',Is G 199 [.ag [v_s_Boxes,v_s_Edges],.n v,.n d] h u k'∧∃ aj,aj=u∧Own (fun r=>r < h.n) h k' [eSl z7 aj r]:=by
 refine WC.is (ZaI ZcM ?_)
 unfold zx at hp
 let B:Nat→Prop:=(fun r=>r < h.n)
 have hO:Own B h h []:=Own.start0 h
 refine Zl (zq (hO.boxd (cs:=[v_s_Boxes,v_s_Edges]) hO.fr rfl rfl) ?_)
 rintro _ aV ⟨m,rfl,a4,aM,aB⟩
 refine Zb (.sn) rfl (Zg (Zl (Zb (.sn) rfl (Zg (ZN ?_)))))
 refine Zl (Zb (.n 0) rfl (Zg (zW ?_)))
 have aE:=aB.nil z7
 refine Zbf hp (fun | (l,i),fr,k=>∃ t,fr 1=.n v∧fr 2=.n d∧fr 3=.p m 0∧fr 7=t∧fr 8=.n i∧Own B h k [zI m [v_s_Boxes,v_s_Edges],eSl z7 t l]) (fun l1 e fr k=>e=(.exit 0)∧∃ A,fr 7=A∧Own B h k [eSl z7 A l1]) ⟨V.sn,rfl,rfl,rfl,rfl,rfl,(aE.pk [0,1])⟩ ?_ ?_
 ·rintro ⟨l,i⟩ a8 aZ ⟨t,M,N,F,O,H,j⟩ a6 hp
  dsimp only [zx.s0] at hp
  refine ZN (Zl (Zb _ H (Zc (zy (r:=m) (o:=0) F rfl) (Zc (zd (j.box 0 rfl) rfl rfl) (Zc (zP (j.rd0 s_s_Edges.rd) rfl) (Zc (z3 rfl rfl) (Zj ?_)))))))
  refine Zs (zB hp rfl (fun am hp=>?_) (fun am hp=>?_))
  ·refine Zal (ZN (zW (Zl (Zc (zy (r:=m) (o:=0) F rfl) (Zc (zd (j.box 0 rfl) rfl rfl) (Zb _ H ?_))))))
   refine ckk hp fun R hp=>Zc (zm (j.rd0 s_s_Edges.rd) rfl rfl R) (Zc (ZdQ (j.rd0 s_s_Edges.rd) rfl (Zh R)) (zq (j.alloc (cs:=ZP.c (⟨0,0,0,(⟨#[]⟩:ByteArray)⟩:zH)) j.fr) ?_))
   rintro _ a0 ⟨q,rfl,a5,aN,aF⟩
   refine zq (aF.stb (cs':=ZP.c (gi s.Edges i.toNat)) 2 rfl rfl rfl rfl ⟨rfl,Nat.le_of_ble_eq_true rfl,rfl⟩ rfl) ?_
   rintro _ aI ⟨rfl,aO,a3,y⟩
   refine Zg (ZN (Zl (Zc (zy (r:=q) (o:=0) rfl rfl) (Zc (zd (y.box 2 rfl) rfl rfl) (Zb _ M (Zc (ZaX rfl rfl) ?_))))))
   refine Zb (.b (decide ((gi s.Edges i.toNat).From=v))) rfl (zO 5 (fun f k=>aI=k∧f 32=.b ((decide ((gi s.Edges i.toNat).From=v)) && (decide ((gi s.Edges i.toNat).Dir=d)))∧f 1=.n v∧f 2=.n d∧f 3=.p m 0∧f 7=t∧f 8=.n i∧f 9=.p q 0) ?_ ?_)
   ·rcases bc (decide ((gi s.Edges i.toNat).From=v)) with a | a
    ·refine Z5 rfl a (Zc (zy (r:=q) (o:=0) rfl rfl) (Z5 rfl a (Zc (zd (y.box 2 rfl) rfl rfl) (Z5 rfl a (Zb _ N (Z5 rfl a (Zc (ZaX rfl rfl) (Zc (Zda rfl a rfl) ?_))))))))
     refine Zj ?_
     exact ⟨rfl,rfl,M,N,F,O,H,rfl⟩
    ·refine Zr rfl a (Zr rfl a (Zr rfl a (Zr rfl a (Zc (ZcZ (w:=(decide ((gi s.Edges i.toNat).From=v)) && (decide ((gi s.Edges i.toNat).Dir=d))) rfl a rfl) (Zj ?_)))))
     exact ⟨rfl,rfl,M,N,F,O,H,rfl⟩
   rintro aT _ ⟨rfl,az,S,T,U,W,I,X⟩
   refine Zg (Zgw hp (fun l2 e fr k=>e=.normal∧∃ C,fr 1=.n v∧fr 2=.n d∧fr 3=.p m 0∧fr 7=C∧fr 8=.n i∧fr 9=.p q 0∧Own B h k [zI m [v_s_Boxes,v_s_Edges],eSl z7 C l2,zI q (ZP.c (gi s.Edges i.toNat))]) (fun _ hp=>?_) ?_)
   ·refine zB hp az (fun an hp=>?_) (fun an hp=>?_)
    ·refine zF (Zb _ W (Zb _ I (ckk hp fun ap hp=>Zc (Zgb rfl rfl ap) (zq (y.bsl (E:=z7) (l:=[2 * i]) y.fr (by rw [(zp (v:=.n (2 * i)) rfl Za3)]; rfl) rfl) ?_))))
     rintro be a1 ⟨ba,aP,L⟩
     refine ckk hp fun aq hp=>zq (L.app (bytes:=8) 1 L.fr rfl (L.sl 3 rfl) rfl rfl (fun _=>rfl) aq (by decide)) ?_
     rintro ak a2 ⟨aQ,aG⟩
     refine Zb ak rfl (Zj ?_)
     cases hp
     exact ⟨rfl,ak,S,T,U,rfl,I,X,(aG.pk [0,1,2])⟩
    ·refine ZbN ?_
     cases hp
     exact ⟨rfl,t,S,T,U,W,I,X,(y.pk [0,1,2])⟩
   rintro l2 hp _ a9 aJ ⟨rfl,C,P,Q,ae,af,ah,ai,ad⟩
   refine Zs (Zl (Zc (Za7 (ad.box 2 rfl) ai rfl) ?_))
   obtain ⟨x,⟨bd,aK,ay,rfl,aH⟩,hp⟩:=bdk hp fun _=>ZaM.ok (h:=aJ)  
   refine Zat rfl rfl ay ?_
   have D:=ad.call aH rfl
   refine Zb (.n x) rfl (Zg (Zl (Zc (zy (r:=q) (o:=0) ai rfl) (Zc (zd (D.box 2 rfl) rfl rfl) (Zb _ P (Zc (ZaX rfl rfl) ?_))))))
   refine Zb (.b (decide ((gi s.Edges i.toNat).To=v))) rfl (zO 4 (fun f k=>aK=k∧f 48=.b ((decide ((gi s.Edges i.toNat).To=v)) && (decide (x=d)))∧f 1=.n v∧f 2=.n d∧f 3=.p m 0∧f 7=C∧f 8=.n i) ?_ ?_)
   ·rcases bc (decide ((gi s.Edges i.toNat).To=v)) with g | g
    ·refine Z5 rfl g (Zb (.n x) rfl (Z5 rfl g (Zb _ Q (Z5 rfl g (Zc (ZaX rfl rfl) (Zc (Zda rfl g rfl) (Zj ?_)))))))
     exact ⟨rfl,rfl,P,Q,ae,af,ah⟩
    ·refine Zr rfl g (Zr rfl g (Zr rfl g (Zc (ZcZ (w:=(decide ((gi s.Edges i.toNat).To=v)) && (decide (x=d))) rfl g rfl) (Zj ?_))))
     exact ⟨rfl,rfl,P,Q,ae,af,ah⟩
   rintro aU _ ⟨rfl,aA,Y,aa,ab,ac,J⟩
   refine Zg (zB hp aA (fun ao hp=>?_) (fun ao hp=>?_))
   ·refine zF (Zb _ ac (Zb _ J (ckk hp fun ar hp=>Zc (Zgb rfl rfl ar) (ckk hp fun au hp=>Zc (zn rfl rfl au) (zq (D.bsl (E:=z7) (l:=[(2 * i) + 1]) D.fr (by rw [(zp (v:=.n ((2 * i) + 1)) rfl Za3)]; rfl) rfl) ?_)))))
    rintro bf aW ⟨bb,aR,K⟩
    refine ckk hp fun av hp=>zq (K.app (bytes:=8) 1 K.fr rfl (K.sl 3 rfl) rfl rfl (fun _=>rfl) av (by decide)) ?_
    rintro al aX ⟨aS,aC⟩
    refine Zb al rfl (Zj (zV (Zs (zF (Zb _ J (ckk hp fun aw hp=>Zc (zn rfl rfl aw) (Zb (.n (i + 1)) rfl ?_)))))))
    refine Zj ?_
    cases hp
    exact ⟨rfl,al,Y,aa,ab,rfl,rfl,(aC.pk [0,1])⟩
   ·refine ZbN (zV (Zs (zF (Zb _ J (ckk hp fun ax hp=>Zc (zn rfl rfl ax) (Zb (.n (i + 1)) rfl (Zj ?_)))))))
    cases hp
    exact ⟨rfl,C,Y,aa,ab,ac,rfl,(D.pk [0,1])⟩
  ·refine ZaZ (zM ?_)
   cases hp
   exact ⟨nofun,rfl,t,O,(j.pk [1])⟩
 rintro l1 hp _ a7 aY ⟨rfl,A,aL,aD⟩
 refine Zav (Zs (Zl (Zb _ aL (Zb A rfl (Zg (Zak ?_))))))
 refine z6 (zJ rfl ze) ?_
 cases hp
 exact ⟨A,rfl,(aD.pk [0])⟩

theorem ZQ.ok {h:Hp} {s:zc} {v_s_Boxes:V} {v_s_Edges:V} (s_s_Boxes:Sl e_bool h v_s_Boxes s.Boxes) (s_s_Edges:Sl ZP h v_s_Edges s.Edges) {r:Int} (hp:ZQ s=some r) :
  ∃ u k',Is G 198 [.ag [v_s_Boxes,v_s_Edges]] h u k'∧V.n r=u∧Own (fun r=>r < h.n) h k' []:=by
 refine WC.is (ZaI Zcn ?_)
 unfold ZQ at hp
 let B:Nat→Prop:=(fun r=>r < h.n)
 have hO:Own B h h []:=Own.start0 h
 refine Zl (zq (hO.boxd (cs:=[v_s_Boxes,v_s_Edges]) hO.fr rfl rfl) ?_)
 rintro _ az ⟨a,rfl,aG,ax,an⟩
 refine Zb (.n 0) rfl (Zg (Zl (Zb (.n 0) rfl (Zg (ZN ?_)))))
 refine Zl (Zb (.n 0) rfl (Zg (zW (Zbf hp (fun | (n,v),fr,k=>fr 1=.p a 0∧fr 3=.n n∧fr 4=.n v∧Own B h k [zI a [v_s_Boxes,v_s_Edges]]) (fun n1 e fr k=>e=(.exit 0)∧fr 1=.p a 0∧fr 3=.n n1∧Own B h k [zI a [v_s_Boxes,v_s_Edges]]) ⟨rfl,rfl,rfl,(an.pk [0])⟩ ?_ ?_))))
 ·rintro ⟨n,v⟩ aL aB ⟨A,Q,R,m⟩ aH hp
  dsimp only [ZQ.s0] at hp
  refine ZN (Zl (Zb _ R (Zc (zy (r:=a) (o:=0) A rfl) (Zc (zd (m.box 0 rfl) rfl rfl) (Zc (zP (m.rd0 s_s_Boxes.rd) rfl) (Zc (z3 rfl rfl) (Zj ?_)))))))
  refine Zs (zB hp rfl (fun X hp=>?_) (fun X hp=>?_))
  ·refine Zal (ZN (zW (Zl (Zb _ Q (ckk hp fun ac hp=>Zc (zn rfl rfl ac) ?_)))))
   refine Zb (.n (n + 1)) rfl (Zg (ZN (Zl (Zb (.n 0) rfl (Zg ?_)))))
   refine zW (Zbf hp (fun | (n2,d),fr,k=>fr 1=.p a 0∧fr 3=.n n2∧fr 4=.n v∧fr 5=.n d∧Own B h k [zI a [v_s_Boxes,v_s_Edges]]) (fun n3 e fr k=>e=(.exit 2)∧fr 1=.p a 0∧fr 3=.n n3∧fr 4=.n v∧Own B h k [zI a [v_s_Boxes,v_s_Edges]]) ⟨A,rfl,R,rfl,(m.pk [0])⟩ ?_ ?_)
   ·rintro ⟨n2,d⟩ aN P ⟨E,T,F,H,g⟩ aI hp
    dsimp only [ZQ.s1] at hp
    refine ZN (Zl (Zb _ H (Zc (z3 rfl rfl) (Zb (.b (decide (d < 4))) rfl ?_))))
    obtain ⟨t,ar,hp⟩:=Zan hp
    refine zO 6 (fun f k=>P=k∧f 25=.b t∧f 1=.p a 0∧f 3=.n n2∧f 4=.n v∧f 5=.n d) ?_ ?_
    ·clear hp; rcases Zaw ar with ⟨c,hp⟩ | ⟨c,hp⟩
     ·refine Z5 rfl c (Zc (zy (r:=a) (o:=0) E rfl) (Z5 rfl c (Zc (zd (g.box 0 rfl) rfl rfl) (Z5 rfl c (Zb _ F (Z5 rfl c (ckk hp fun K hp=>Zc (zm (g.rd0 s_s_Boxes.rd) rfl rfl K) ?_)))))))
      refine Z5 rfl c (Zc (zE (g.rd0 s_s_Boxes.rd) rfl (Zh K) rfl) (Zc (Zag (v:=.b t) rfl c (Eq.trans (b:=V.b (gi s.Boxes v.toNat)) rfl (congrArg V.b (Option.some.inj hp)))) (Zj ?_)))
      exact ⟨rfl,rfl,E,T,F,H⟩
     ·refine Zr rfl c (Zr rfl c (Zr rfl c (Zr rfl c (Zr rfl c (Zc (Zab (v:=.b t) rfl c (Eq.trans (b:=V.b false) rfl (congrArg V.b (Option.some.inj hp)))) (Zj ?_))))))
      exact ⟨rfl,rfl,E,T,F,H⟩
    rintro ay _ ⟨rfl,am,w,M,y,N⟩
    refine Zg (zB hp am (fun Y hp=>?_) (fun Y hp=>?_))
    ·refine Zal (ZN (zW (Zl (Zc (Za7 (g.box 0 rfl) w rfl) (Zb _ y (Zb _ N ?_))))))
     obtain ⟨x,⟨aQ,aD,al,W,rfl,aq⟩,hp⟩:=bdk hp fun _=>zx.ok (h:=P)  (g.rd0 s_s_Boxes.rd) (g.rd0 s_s_Edges.rd)
     refine Zat rfl rfl al ?_
     have O:=g.call aq rfl
     refine Zb W rfl (Zg (zF (Zb _ M (Zb W rfl (Zc (zP (O.sl 1 rfl) rfl) (ckk hp fun af hp=>Zc (zn rfl rfl af) ?_))))))
     refine Zb (.n (n2 + (x.length:Int))) rfl (Zj (zV (Zs (zF (Zb _ N (ckk hp fun ah hp=>Zc (zn rfl rfl ah) (Zb (.n (d + 1)) rfl ?_)))))))
     refine Zj ?_
     cases hp
     exact ⟨rfl,w,rfl,y,rfl,(O.pk [0])⟩
    ·refine ZaZ (zM ?_)
     cases hp
     exact ⟨nofun,rfl,w,M,y,(g.pk [0])⟩
   rintro n3 hp _ aM aC ⟨rfl,C,S,D,l⟩
   refine Zav (Zs (Zl (Zc (zy (r:=a) (o:=0) C rfl) (Zc (zd (l.box 0 rfl) rfl rfl) (Zb _ D (ckk hp fun L hp=>Zc (zm (l.rd0 s_s_Boxes.rd) rfl rfl L) ?_))))))
   refine Zc (zE (l.rd0 s_s_Boxes.rd) rfl (Zh L) rfl) (Zg (zB hp rfl (fun aa hp=>?_) (fun aa hp=>?_)))
   ·refine zF (Zb _ S (ckk hp fun ai hp=>Zc (zn rfl rfl ai) (Zb (.n (n3 + 3)) rfl (Zj (zV (Zs (zF ?_)))))))
    refine Zb _ D (ckk hp fun aj hp=>Zc (zn rfl rfl aj) (Zb (.n (v + 1)) rfl (Zj ?_)))
    cases hp
    exact ⟨rfl,C,rfl,rfl,(l.pk [0])⟩
   ·refine ZbN (zV (Zs (zF (Zb _ D (ckk hp fun ak hp=>Zc (zn rfl rfl ak) (Zb (.n (v + 1)) rfl (Zj ?_)))))))
    cases hp
    exact ⟨rfl,C,S,rfl,(l.pk [0])⟩
  ·refine ZaZ (zM ?_)
   cases hp
   exact ⟨nofun,rfl,A,Q,(m.pk [0])⟩
 rintro n1 hp _ aK aA ⟨rfl,au,av,ao⟩
 refine Zav (Zs (ZN (Zl (Zb (.n 0) rfl (Zg (zW (Zbf hp (fun | (n4,i),fr,k=>fr 1=.p a 0∧fr 3=.n n4∧fr 7=.n i∧Own B h k [zI a [v_s_Boxes,v_s_Edges]]) (fun n5 e fr k=>e=(.exit 4)∧fr 3=.n n5∧Own B h k []) ⟨au,av,rfl,(ao.pk [0])⟩ ?_ ?_)))))))
 ·rintro ⟨n4,i⟩ aP aF ⟨I,U,J,j⟩ aJ hp
  dsimp only [ZQ.s2] at hp
  refine ZN (Zl (Zb _ J (Zc (zy (r:=a) (o:=0) I rfl) (Zc (zd (j.box 0 rfl) rfl rfl) (Zc (zP (j.rd0 s_s_Edges.rd) rfl) (Zc (z3 rfl rfl) (Zj ?_)))))))
  refine Zs (zB hp rfl (fun ab hp=>?_) (fun ab hp=>?_))
  ·refine Zal (ZN (zW (zF (Zb _ U (Zc (zy (r:=a) (o:=0) I rfl) (Zc (zd (j.box 0 rfl) rfl rfl) (Zb _ J ?_)))))))
   refine ckk hp fun q hp=>Zc (zm (j.rd0 s_s_Edges.rd) rfl rfl q) (Zc (Za9 (j.rd0 s_s_Edges.rd) (Zh q) rfl rfl) (Zc (zE (j.rd0 s_s_Edges.rd) rfl (Zh q) rfl) (Zc (Zfz rfl) (ckk hp fun ad hp=>Zc (zn rfl rfl ad) (Zb (.n (n4 + (((gi s.Edges i.toNat).Bends).size:Int))) rfl (Zj ?_))))))
   refine zV (Zs (zF (Zb _ J (ckk hp fun ae hp=>Zc (zn rfl rfl ae) (Zb (.n (i + 1)) rfl (Zj ?_))))))
   cases hp
   exact ⟨rfl,I,rfl,rfl,(j.pk [0])⟩
  ·refine ZaZ (zM ?_)
   cases hp
   exact ⟨nofun,rfl,U,(j.pk [])⟩
 rintro n5 hp _ aO aE ⟨rfl,aw,ap⟩
 refine Zav (Zs (Zl (Zb _ aw (Zb (.n n5) rfl (Zg (Zak ?_))))))
 refine z6 (zJ rfl ze) ?_
 cases hp
 exact ⟨rfl,(ap.pk [])⟩

theorem ZJ.ok {h:Hp} {s:zc} {v_s_Boxes:V} {v_s_Edges:V} (s_s_Boxes:Sl e_bool h v_s_Boxes s.Boxes) (s_s_Edges:Sl ZP h v_s_Edges s.Edges) {r:Int} (hp:ZJ s=some r) :
  ∃ u k',Is G 174 [.ag [v_s_Boxes,v_s_Edges]] h u k'∧V.n r=u∧Own (fun r=>r < h.n) h k' []:=by
 refine WC.is (ZaI Zco ?_)
 unfold ZJ at hp
 let B:Nat→Prop:=(fun r=>r < h.n)
 have hO:Own B h h []:=Own.start0 h
 refine Zl (zq (hO.boxd (cs:=[v_s_Boxes,v_s_Edges]) hO.fr rfl rfl) ?_)
 rintro _ aK ⟨a,rfl,a7,aS,D⟩
 refine Zb (.n 0) rfl (Zg (Zl (Zc (Za7 (D.box 0 rfl) rfl rfl) ?_)))
 obtain ⟨x,⟨bj,aL,av,rfl,aF⟩,hp⟩:=bdk hp fun _=>zf.ok (h:=aK)  (D.rd0 s_s_Boxes.rd) (D.rd0 s_s_Edges.rd)
 refine Zat rfl rfl av ?_
 have A:=D.call aF rfl
 refine Zb (.n x) rfl (Zg (ZN (Zl (Zb (.n x) rfl (Zc (ZcH rfl rfl) (Zj ?_))))))
 refine Zs (zB hp rfl (fun aj hp=>?_) (fun aj hp=>?_))
 ·refine Zl (Zb (.n x) rfl (Zb (.n x) rfl (Zg (Zak (zG (z6 (zJ rfl ze) ?_))))))
  cases hp
  exact ⟨rfl,(A.pk [])⟩
 ·refine Zal (Zl (Zc (Za7 (A.box 0 rfl) rfl rfl) ?_))
  obtain ⟨x1,⟨bk,a0,aw,rfl,aG⟩,hp⟩:=bdk hp fun _=>ZQ.ok (h:=aL)  (A.rd0 s_s_Boxes.rd) (A.rd0 s_s_Edges.rd)
  refine Zat rfl rfl aw ?_
  have ad:=A.call aG rfl
  refine Zb (.n x1) rfl (Zg (ZN (Zl (Zb (.n x1) rfl (Zc (Zc6 rfl rfl) (Zj ?_))))))
  refine Zs (zB hp rfl (fun al hp=>?_) (fun al hp=>?_))
  ·refine Zl (Zb (.n 6) rfl (Zg (Zak (zG (z6 (zJ rfl ze) ?_)))))
   cases hp
   exact ⟨rfl,(ad.pk [])⟩
  ·refine Zal (ZN (Zl (Zb (.n 0) rfl (Zg (zW (Zbf hp (fun v fr k=>fr 1=.p a 0∧fr 5=.n v∧Own B h k [zI a [v_s_Boxes,v_s_Edges]]) (fun | .inl _,e,fr,k=>e=(.exit 0)∧fr 1=.p a 0∧Own B h k [zI a [v_s_Boxes,v_s_Edges]] | .inr _,e,fr,k=>e=.ret∧fr 2=.n 8∧Own B h k []) ⟨rfl,rfl,(ad.pk [0])⟩ ?_ ?_))))))
   ·rintro v be a2 ⟨P,ah,E⟩ a9 hp
    dsimp only [ZJ.s0] at hp
    refine ZN (Zl (Zb _ ah (Zc (zy (r:=a) (o:=0) P rfl) (Zc (zd (E.box 0 rfl) rfl rfl) (Zc (zP (E.rd0 s_s_Boxes.rd) rfl) (Zc (z3 rfl rfl) (Zj ?_)))))))
    refine Zs (zB hp rfl (fun am hp=>?_) (fun am hp=>?_))
    ·refine Zal (ZN (zW (Zl (Zb (.n 0) rfl (Zg ?_)))))
     refine zW (Zbf hp (fun d fr k=>fr 1=.p a 0∧fr 5=.n v∧fr 6=.n d∧Own B h k [zI a [v_s_Boxes,v_s_Edges]]) (fun | .inl _,e,fr,k=>e=(.exit 2)∧fr 1=.p a 0∧fr 5=.n v∧Own B h k [zI a [v_s_Boxes,v_s_Edges]] | .inr _,e,fr,k=>e=.ret∧fr 2=.n 8∧Own B h k []) ⟨P,ah,rfl,(E.pk [0])⟩ ?_ ?_)
     ·rintro d bg af ⟨Q,R,S,y⟩ ba hp
      dsimp only [ZJ.s1] at hp
      refine ZN (Zl (Zb _ S (Zc (z3 rfl rfl) (Zb (.b (decide (d < 4))) rfl ?_))))
      obtain ⟨t,aI,hp⟩:=Zan hp
      refine zO 7 (fun f k=>af=k∧f 35=.b t∧f 1=.p a 0∧f 5=.n v∧f 6=.n d) ?_ ?_
      ·clear hp; rcases Zaw aI with ⟨j,hp⟩ | ⟨j,hp⟩
       ·refine Z5 rfl j (Zc (zy (r:=a) (o:=0) Q rfl) (Z5 rfl j (Zc (zd (y.box 0 rfl) rfl rfl) (Z5 rfl j (Zb _ R (Z5 rfl j (ckk hp fun T hp=>Zc (zm (y.rd0 s_s_Boxes.rd) rfl rfl T) ?_)))))))
        refine Z5 rfl j (Zc (zE (y.rd0 s_s_Boxes.rd) rfl (Zh T) rfl) (Z5 rfl j (Zc (Zdd rfl) (Zc (Zag (v:=.b t) rfl j (Eq.trans (b:=V.b (!(gi s.Boxes v.toNat))) rfl (congrArg V.b (Option.some.inj hp)))) (Zj ?_)))))
        exact ⟨rfl,rfl,Q,R,S⟩
       ·refine Zr rfl j (Zr rfl j (Zr rfl j (Zr rfl j (Zr rfl j (Zr rfl j (Zc (Zab (v:=.b t) rfl j (Eq.trans (b:=V.b false) rfl (congrArg V.b (Option.some.inj hp)))) (Zj ?_)))))))
        exact ⟨rfl,rfl,Q,R,S⟩
      rintro aV _ ⟨rfl,ay,I,J,X⟩
      refine Zg (zB hp ay (fun an hp=>?_) (fun an hp=>?_))
      ·refine Zal (ZN (zW (Zl (Zc (Za7 (y.box 0 rfl) I rfl) (Zb _ J (Zb _ X ?_))))))
       obtain ⟨x2,⟨bl,a4,ax,ai,rfl,aH⟩,hp⟩:=bdk hp fun _=>zx.ok (h:=af)  (y.rd0 s_s_Boxes.rd) (y.rd0 s_s_Edges.rd)
       refine Zat rfl rfl ax ?_
       have N:=y.call aH rfl
       refine Zb ai rfl (Zg (Zl (Zb ai rfl (Zc (zP (N.sl 1 rfl) rfl) (Zc (Zc6 rfl rfl) (Zj ?_))))))
       refine Zs (zB hp rfl (fun ao hp=>?_) (fun ao hp=>?_))
       ·refine Zl (Zb (.n 8) rfl (Zg (Zak (Zbh (zG ?_)))))
        cases hp
        exact ⟨nofun,rfl,rfl,(N.pk [])⟩
       ·refine ZbN (zV (Zs (zF (Zb _ X (ckk hp fun aq hp=>Zc (zn rfl rfl aq) (Zb (.n (d + 1)) rfl (Zj ?_)))))))
        cases hp
        exact ⟨rfl,I,J,rfl,(N.pk [0])⟩
      ·refine ZaZ (zM ?_)
       cases hp
       exact ⟨nofun,rfl,I,J,(y.pk [0])⟩
     rintro (_ | _) hp _ bf a3 ab
     ·obtain ⟨rfl,aO,aQ,M⟩:=ab
      refine Zav (zV (Zs (zF (Zb _ aQ (ckk hp fun ar hp=>Zc (zn rfl rfl ar) (Zb (.n (v + 1)) rfl (Zj ?_)))))))
      cases hp
      exact ⟨rfl,aO,rfl,(M.pk [0])⟩
     ·obtain ⟨rfl,aP,M⟩:=ab
      refine Zbh (Zbh (zG ?_))
      cases hp
      exact ⟨nofun,rfl,aP,(M.pk [])⟩
    ·refine ZaZ (zM ?_)
     cases hp
     exact ⟨nofun,rfl,P,(E.pk [0])⟩
   rintro (_ | _) hp _ bd a1 aa
   ·obtain ⟨rfl,aM,L⟩:=aa
    refine Zav (Zs (ZN (Zl (Zb (.n 0) rfl (Zg (zW (Zbf hp (fun i fr k=>fr 1=.p a 0∧fr 8=.n i∧Own B h k [zI a [v_s_Boxes,v_s_Edges]]) (fun | .inl _,e,fr,k=>e=(.exit 4)∧Own B h k [] | .inr _,e,fr,k=>e=.ret∧fr 2=.n 10∧Own B h k []) ⟨aM,rfl,(L.pk [0])⟩ ?_ ?_)))))))
    ·rintro i bi aY ⟨F,H,q⟩ bb hp
     dsimp only [ZJ.s2] at hp
     refine ZN (Zl (Zb _ H (Zc (zy (r:=a) (o:=0) F rfl) (Zc (zd (q.box 0 rfl) rfl rfl) (Zc (zP (q.rd0 s_s_Edges.rd) rfl) (Zc (z3 rfl rfl) (Zj ?_)))))))
     refine Zs (zB hp rfl (fun ap hp=>?_) (fun ap hp=>?_))
     ·refine Zal (ZN (zW (Zl (Zc (zy (r:=a) (o:=0) F rfl) (Zc (zd (q.box 0 rfl) rfl rfl) (Zb _ H ?_))))))
      refine ckk hp fun U hp=>Zc (zm (q.rd0 s_s_Edges.rd) rfl rfl U) (Zc (ZdQ (q.rd0 s_s_Edges.rd) rfl (Zh U)) (zq (q.alloc (cs:=ZP.c (⟨0,0,0,(⟨#[]⟩:ByteArray)⟩:zH)) q.fr) ?_))
      rintro _ aZ ⟨C,rfl,a8,aT,aE⟩
      refine zq (aE.stb (cs':=ZP.c (gi s.Edges i.toNat)) 1 rfl rfl rfl rfl ⟨rfl,Nat.le_of_ble_eq_true rfl,rfl⟩ rfl) ?_
      rintro _ ae ⟨rfl,aU,a6,m⟩
      refine Zg (Zl (Zc (zy (r:=C) (o:=0) rfl rfl) (Zc (zd (m.box 1 rfl) rfl rfl) (Zc (zy (r:=C) (o:=0) rfl rfl) (Zc (zd (m.box 1 rfl) rfl rfl) (Zc (ZaX rfl rfl) ?_))))))
      refine Zb (.b (decide ((gi s.Edges i.toNat).From=(gi s.Edges i.toNat).To))) rfl (zO 4 (fun f k=>ae=k∧f 66=.b ((decide ((gi s.Edges i.toNat).From=(gi s.Edges i.toNat).To)) && (((gi s.Edges i.toNat).Bends).toList == (⟨#[]⟩:ByteArray).toList))∧f 1=.p a 0∧f 8=.n i∧f 9=.p C 0) ?_ ?_)
      ·rcases bc (decide ((gi s.Edges i.toNat).From=(gi s.Edges i.toNat).To)) with l | l
       ·refine Z5 rfl l (Zc (zy (r:=C) (o:=0) rfl rfl) (Z5 rfl l (Zc (zd (m.box 1 rfl) rfl rfl) (Z5 rfl l (Zc (Zmx rfl rfl) (Zc (Zda rfl l rfl) (Zj ?_)))))))
        exact ⟨rfl,rfl,F,H,rfl⟩
       ·refine Zr rfl l (Zr rfl l (Zr rfl l (Zc (ZcZ (w:=(decide ((gi s.Edges i.toNat).From=(gi s.Edges i.toNat).To)) && (((gi s.Edges i.toNat).Bends).toList == (⟨#[]⟩:ByteArray).toList)) rfl l rfl) (Zj ?_))))
        exact ⟨rfl,rfl,F,H,rfl⟩
      rintro aW _ ⟨rfl,az,K,Y,aA⟩
      refine Zb _ az ?_
      obtain ⟨t1,aJ,hp⟩:=Zan hp
      refine zO 8 (fun f k=>ae=k∧f 75=.b t1∧f 1=.p a 0∧f 8=.n i) ?_ ?_
      ·clear hp; rcases Zaw aJ with ⟨g,hp⟩ | ⟨g,hp⟩
       ·refine Z5 rfl g (Zc (zy (r:=a) (o:=0) K rfl) (Z5 rfl g (Zc (zd (m.box 0 rfl) rfl rfl) (Z5 rfl g (Zc (zy (r:=C) (o:=0) aA rfl) (Z5 rfl g (Zc (zd (m.box 1 rfl) rfl rfl) (Z5 rfl g ?_))))))))
        refine ckk hp fun W hp=>Zc (zm (m.rd0 s_s_Boxes.rd) rfl rfl W) (Z5 rfl g (Zc (zE (m.rd0 s_s_Boxes.rd) rfl (Zh W) rfl) (Z5 rfl g (Zc (Zdd rfl) (Zc (Zag (v:=.b t1) rfl g (Eq.trans (b:=V.b (!(gi s.Boxes ((gi s.Edges i.toNat).From:Int).toNat))) rfl (congrArg V.b (Option.some.inj hp)))) (Zj ?_))))))
        exact ⟨rfl,rfl,K,Y⟩
       ·refine Zr rfl g (Zr rfl g (Zr rfl g (Zr rfl g (Zr rfl g (Zr rfl g (Zr rfl g (Zc (Zab (v:=.b t1) rfl g (Eq.trans (b:=V.b false) rfl (congrArg V.b (Option.some.inj hp)))) (Zj ?_))))))))
        exact ⟨rfl,rfl,K,Y⟩
      rintro aX _ ⟨rfl,aC,aB,aD⟩
      refine Zg (zB hp aC (fun ak hp=>?_) (fun ak hp=>?_))
      ·refine Zl (Zb (.n 10) rfl (Zg (Zak (Zbh (zG ?_)))))
       cases hp
       exact ⟨nofun,rfl,rfl,(m.pk [])⟩
      ·refine ZbN (zV (Zs (zF (Zb _ aD (ckk hp fun au hp=>Zc (zn rfl rfl au) (Zb (.n (i + 1)) rfl (Zj ?_)))))))
       cases hp
       exact ⟨rfl,aB,rfl,(m.pk [0])⟩
     ·refine ZaZ (zM ?_)
      cases hp
      exact ⟨nofun,rfl,(q.pk [])⟩
    rintro (_ | _) hp _ bh a5 ac
    ·obtain ⟨rfl,O⟩:=ac
     refine Zav (Zs (Zl (Zb (.n 0) rfl (Zg (Zak (z6 (zJ rfl ze) ?_))))))
     cases hp
     exact ⟨rfl,(O.pk [])⟩
    ·obtain ⟨rfl,aR,O⟩:=ac
     refine Zbh (zG (z6 (zJ aR ze) ?_))
     cases hp
     exact ⟨rfl,(O.pk [])⟩
   ·obtain ⟨rfl,aN,L⟩:=aa
    refine Zbh (zG (z6 (zJ aN ze) ?_))
    cases hp
    exact ⟨rfl,(L.pk [])⟩

theorem ZZ.ok {h:Hp} {l:List Za} {v:Int} {d:Int} {w:Int} {o:Int} {v_l:V} (H:Own (Bm h [eSl Zd v_l l]) h h [eSl Zd v_l l]) {r:(List Za) × Int} (hp:ZZ l v d w o=some r) :
  ∃ u k',Is G 53 [v_l,.n v,.n d,.n w,.n o] h u k'∧∃ ar,V.tu [ar,.n r.2]=u∧Own (Bm h [eSl Zd v_l l]) h k' [eSl Zd ar r.1]:=by
 refine WC.is (ZaI Zc2 ?_)
 unfold ZZ at hp
 let B:Nat→Prop:=(Bm h [eSl Zd v_l l])
 have hO:Own B h h [eSl Zd v_l l]:=H
 refine Zl (Zb (.sn) rfl (Zb (.n 0) rfl (Zg (ZN (Zl ?_)))))
 refine Zb (.n v) rfl (Zc (z3 rfl rfl) (Zb (.b (decide (v < 0))) rfl (zO 5 (fun f k=>h=k∧f 20=.b ((decide (v < 0)) || (decide ((l.length:Int)≤v)))∧f 0=v_l∧f 1=.n v∧f 2=.n d∧f 3=.n w∧f 4=.n o) ?_ ?_)))
 ·rcases bc (decide (v < 0)) with c | c
  ·refine Zr rfl c (Zr rfl c (Zr rfl c (Zr rfl c (Zc (Zbt (w:=(decide (v < 0)) || (decide ((l.length:Int)≤v))) rfl c rfl) (Zj ?_)))))
   exact ⟨rfl,rfl,rfl,rfl,rfl,rfl,rfl⟩
  ·refine Z5 rfl c (Zb (.n v) rfl (Z5 rfl c (Zb v_l rfl (Z5 rfl c (Zc (zP (hO.sl 0 rfl) rfl) (Z5 rfl c (Zc (Zcr rfl rfl) (Zc (Zbu rfl c rfl) ?_))))))))
   refine Zj ?_
   exact ⟨rfl,rfl,rfl,rfl,rfl,rfl,rfl⟩
 rintro aN _ ⟨rfl,ay,R,S,T,D,U⟩
 refine Zb _ ay (zO 3 (fun f k=>h=k∧f 24=.b (((decide (v < 0)) || (decide ((l.length:Int)≤v))) || (decide (w < 0)))∧f 0=v_l∧f 1=.n v∧f 2=.n d∧f 3=.n w∧f 4=.n o) ?_ ?_)
 ·rcases bc ((decide (v < 0)) || (decide ((l.length:Int)≤v))) with i | i
  ·refine Zr rfl i (Zr rfl i (Zc (Zbt (w:=((decide (v < 0)) || (decide ((l.length:Int)≤v))) || (decide (w < 0))) rfl i rfl) (Zj ?_)))
   exact ⟨rfl,rfl,R,S,T,D,U⟩
  ·refine Z5 rfl i (Zb _ D (Z5 rfl i (Zc (z3 rfl rfl) (Zc (Zbu rfl i rfl) (Zj ?_)))))
   exact ⟨rfl,rfl,R,S,T,D,U⟩
 rintro aO _ ⟨rfl,az,E,W,X,F,Y⟩
 refine Zb _ az (zO 5 (fun f k=>h=k∧f 30=.b ((((decide (v < 0)) || (decide ((l.length:Int)≤v))) || (decide (w < 0))) || (decide ((l.length:Int)≤w)))∧f 0=v_l∧f 1=.n v∧f 2=.n d∧f 3=.n w∧f 4=.n o) ?_ ?_)
 ·rcases bc (((decide (v < 0)) || (decide ((l.length:Int)≤v))) || (decide (w < 0))) with e | e
  ·refine Zr rfl e (Zr rfl e (Zr rfl e (Zr rfl e (Zc (Zbt (w:=(((decide (v < 0)) || (decide ((l.length:Int)≤v))) || (decide (w < 0))) || (decide ((l.length:Int)≤w))) rfl e rfl) (Zj ?_)))))
   exact ⟨rfl,rfl,E,W,X,F,Y⟩
  ·refine Z5 rfl e (Zb _ F (Z5 rfl e (Zb _ E (Z5 rfl e (Zc (zP (hO.sl 0 rfl) rfl) (Z5 rfl e (Zc (Zcr rfl rfl) (Zc (Zbu rfl e rfl) ?_))))))))
   refine Zj ?_
   exact ⟨rfl,rfl,E,W,X,F,Y⟩
 rintro aP _ ⟨rfl,aA,aa,I,ab,J,ac⟩
 refine Zb _ aA (zO 4 (fun f k=>h=k∧f 35=.b (((((decide (v < 0)) || (decide ((l.length:Int)≤v))) || (decide (w < 0))) || (decide ((l.length:Int)≤w))) || (decide (v=w)))∧f 0=v_l∧f 1=.n v∧f 2=.n d∧f 3=.n w∧f 4=.n o) ?_ ?_)
 ·rcases bc ((((decide (v < 0)) || (decide ((l.length:Int)≤v))) || (decide (w < 0))) || (decide ((l.length:Int)≤w))) with g | g
  ·refine Zr rfl g (Zr rfl g (Zr rfl g (Zc (Zbt (w:=((((decide (v < 0)) || (decide ((l.length:Int)≤v))) || (decide (w < 0))) || (decide ((l.length:Int)≤w))) || (decide (v=w))) rfl g rfl) (Zj ?_))))
   exact ⟨rfl,rfl,aa,I,ab,J,ac⟩
  ·refine Z5 rfl g (Zb _ I (Z5 rfl g (Zb _ J (Z5 rfl g (Zc (ZaX rfl rfl) (Zc (Zbu rfl g rfl) (Zj ?_)))))))
   exact ⟨rfl,rfl,aa,I,ab,J,ac⟩
 rintro aQ _ ⟨rfl,aB,ad,ae,K,af,ag⟩
 refine Zb _ aB (zO 3 (fun f k=>h=k∧f 39=.b ((((((decide (v < 0)) || (decide ((l.length:Int)≤v))) || (decide (w < 0))) || (decide ((l.length:Int)≤w))) || (decide (v=w))) || (decide (d < 0)))∧f 0=v_l∧f 1=.n v∧f 2=.n d∧f 3=.n w∧f 4=.n o) ?_ ?_)
 ·rcases bc (((((decide (v < 0)) || (decide ((l.length:Int)≤v))) || (decide (w < 0))) || (decide ((l.length:Int)≤w))) || (decide (v=w))) with j | j
  ·refine Zr rfl j (Zr rfl j (Zc (Zbt (w:=(((((decide (v < 0)) || (decide ((l.length:Int)≤v))) || (decide (w < 0))) || (decide ((l.length:Int)≤w))) || (decide (v=w))) || (decide (d < 0))) rfl j rfl) (Zj ?_)))
   exact ⟨rfl,rfl,ad,ae,K,af,ag⟩
  ·refine Z5 rfl j (Zb _ K (Z5 rfl j (Zc (z3 rfl rfl) (Zc (Zbu rfl j rfl) (Zj ?_)))))
   exact ⟨rfl,rfl,ad,ae,K,af,ag⟩
 rintro aR _ ⟨rfl,aC,ah,ai,L,aj,ak⟩
 refine Zb _ aC (zO 3 (fun f k=>h=k∧f 43=.b (((((((decide (v < 0)) || (decide ((l.length:Int)≤v))) || (decide (w < 0))) || (decide ((l.length:Int)≤w))) || (decide (v=w))) || (decide (d < 0))) || (decide (3 < d)))∧f 0=v_l∧f 1=.n v∧f 2=.n d∧f 3=.n w∧f 4=.n o) ?_ ?_)
 ·rcases bc ((((((decide (v < 0)) || (decide ((l.length:Int)≤v))) || (decide (w < 0))) || (decide ((l.length:Int)≤w))) || (decide (v=w))) || (decide (d < 0))) with m | m
  ·refine Zr rfl m (Zr rfl m (Zc (Zbt (w:=((((((decide (v < 0)) || (decide ((l.length:Int)≤v))) || (decide (w < 0))) || (decide ((l.length:Int)≤w))) || (decide (v=w))) || (decide (d < 0))) || (decide (3 < d))) rfl m rfl) (Zj ?_)))
   exact ⟨rfl,rfl,ah,ai,L,aj,ak⟩
  ·refine Z5 rfl m (Zb _ L (Z5 rfl m (Zc (Zc6 rfl rfl) (Zc (Zbu rfl m rfl) (Zj ?_)))))
   exact ⟨rfl,rfl,ah,ai,L,aj,ak⟩
 rintro aS _ ⟨rfl,aD,al,am,an,ao,M⟩
 refine Zb _ aD (zO 3 (fun f k=>h=k∧f 47=.b ((((((((decide (v < 0)) || (decide ((l.length:Int)≤v))) || (decide (w < 0))) || (decide ((l.length:Int)≤w))) || (decide (v=w))) || (decide (d < 0))) || (decide (3 < d))) || (decide (o < (-2))))∧f 0=v_l∧f 1=.n v∧f 2=.n d∧f 3=.n w∧f 4=.n o) ?_ ?_)
 ·rcases bc (((((((decide (v < 0)) || (decide ((l.length:Int)≤v))) || (decide (w < 0))) || (decide ((l.length:Int)≤w))) || (decide (v=w))) || (decide (d < 0))) || (decide (3 < d))) with p | p
  ·refine Zr rfl p (Zr rfl p (Zc (Zbt (w:=(((((((decide (v < 0)) || (decide ((l.length:Int)≤v))) || (decide (w < 0))) || (decide ((l.length:Int)≤w))) || (decide (v=w))) || (decide (d < 0))) || (decide (3 < d))) || (decide (o < (-2)))) rfl p rfl) (Zj ?_)))
   exact ⟨rfl,rfl,al,am,an,ao,M⟩
  ·refine Z5 rfl p (Zb _ M (Z5 rfl p (Zc (z3 rfl rfl) (Zc (Zbu rfl p rfl) (Zj ?_)))))
   exact ⟨rfl,rfl,al,am,an,ao,M⟩
 rintro aT _ ⟨rfl,aE,q,N,A,O,ap⟩
 refine Zg (zB hp aE (fun av hp=>?_) (fun av hp=>?_))
 ·refine Zl (Zb _ q (Zb v_l rfl (Zb (.n 2) rfl (Zg (Zak (zG ?_))))))
  refine z6 (zJ rfl (zJ rfl ze)) ?_
  cases hp
  exact ⟨v_l,rfl,(hO.pk [0])⟩
 ·refine Zal (ZN (Zl (Zb _ q (Zb _ N (Zb _ A (ckk hp fun s hp=>?_))))))
  refine Zc (zm (hO.sl 0 rfl) rfl rfl s) (Zc (Za9 (hO.sl 0 rfl) (Zh s) rfl rfl) (ckk hp fun P hp=>Zc (ZaE (hO.sl 0 rfl) (Zh s) rfl rfl P rfl) (Zc (zE (hO.sl 0 rfl) rfl (Zh s) (zS P)) (Zc (ZcH rfl rfl) (Zb (.b (!(decide (((gi l v.toNat).Next).get d=(-1))))) rfl ?_)))))
  obtain ⟨t,aM,hp⟩:=Zan hp
  refine zO 11 (fun f k=>h=k∧f 68=.b t∧f 0=v_l∧f 1=.n v∧f 2=.n d∧f 3=.n w∧f 4=.n o) ?_ ?_
  ·clear hp; rcases Zaw aM with ⟨a,hp⟩ | ⟨a,hp⟩
   ·refine Zr rfl a (Zr rfl a (Zr rfl a (Zr rfl a (Zr rfl a (Zr rfl a (Zr rfl a (Zr rfl a (Zr rfl a ?_))))))))
    refine Zr rfl a (Zc (Zag (v:=.b t) rfl a (Eq.trans (b:=V.b true) rfl (congrArg V.b (Option.some.inj hp)))) (Zj ?_))
    exact ⟨rfl,rfl,q,N,A,O,ap⟩
   ·refine Z5 rfl a (Zb _ q (Z5 rfl a (Zb _ O (Z5 rfl a (Zb _ A (Z5 rfl a (ckk hp fun aw hp=>Zc (zn rfl rfl aw) ?_)))))))
    refine Z5 rfl a (Zc (Zbx rfl rfl (by decide)) (Z5 rfl a (ckk hp fun y hp=>Zc (zm (hO.sl 0 rfl) rfl rfl y) (Z5 rfl a (Zc (Za9 (hO.sl 0 rfl) (Zh y) rfl rfl) (Z5 rfl a (ckk hp fun Q hp=>?_)))))))
    refine Zc (ZaE (hO.sl 0 rfl) (Zh y) rfl rfl Q rfl) (Z5 rfl a (Zc (zE (hO.sl 0 rfl) rfl (Zh y) (zS Q)) (Z5 rfl a (Zc (ZcH rfl rfl) (Zc (Zab (v:=.b t) rfl a (Eq.trans (b:=V.b (!(decide (((gi l w.toNat).Next).get ((d + 2).tmod 4)=(-1))))) rfl (congrArg V.b (Option.some.inj hp)))) (Zj ?_))))))
    exact ⟨rfl,rfl,q,N,A,O,ap⟩
  rintro aU _ ⟨rfl,aJ,aq,aF,aG,aH,aI⟩
  refine Zg (zB hp aJ (fun au hp=>?_) (fun au hp=>?_))
  ·refine Zl (Zb _ aq (Zb v_l rfl (Zb (.n 9) rfl (Zg (Zak (zG ?_))))))
   refine z6 (zJ rfl (zJ rfl ze)) ?_
   cases hp
   exact ⟨v_l,rfl,(hO.pk [0])⟩
  ·refine Zal (Zl (Zb _ aq (Zb _ aF (Zb _ aG (Zb _ aH (Zb _ aI ?_))))))
   obtain ⟨x,⟨aW,aV,ax,C,rfl,aL⟩,hp⟩:=bdk hp fun _=>ZS.ok (h:=h)  (hO.sl 0 rfl)
   refine Zat rfl rfl ax ?_
   have aK:=hO.call aL rfl
   refine Zb C rfl (Zg (Zl (Zb C rfl (Zb C rfl (Zb (.n 0) rfl (Zj ?_))))))
   refine Zs (Zak (z6 (zJ rfl (zJ rfl ze)) ?_))
   cases hp
   exact ⟨C,rfl,(aK.pk [1])⟩

theorem zw.ok {h:Hp} {n:zR} {s:zc} {v:Int} {v_n_Cells:V} {v_n_First:V} {v_n_Ends:V} {v_n_Ways:V} {vs_n_Ways:List V} {v_s_Boxes:V} {v_s_Edges:V} (H:Own (Bm h [eSl Zd v_n_Cells n.Cells,eSl z7 v_n_First n.First,eSl zZ v_n_Ends n.Ends,eSl eV v_n_Ways vs_n_Ways,Zbj z7 vs_n_Ways n.Ways]) h h [eSl Zd v_n_Cells n.Cells,eSl z7 v_n_First n.First,eSl zZ v_n_Ends n.Ends,eSl eV v_n_Ways vs_n_Ways,Zbj z7 vs_n_Ways n.Ways]) (s_s_Boxes:Rd (Bm h [eSl Zd v_n_Cells n.Cells,eSl z7 v_n_First n.First,eSl zZ v_n_Ends n.Ends,eSl eV v_n_Ways vs_n_Ways,Zbj z7 vs_n_Ways n.Ways]) h e_bool v_s_Boxes s.Boxes) (s_s_Edges:Rd (Bm h [eSl Zd v_n_Cells n.Cells,eSl z7 v_n_First n.First,eSl zZ v_n_Ends n.Ends,eSl eV v_n_Ways vs_n_Ways,Zbj z7 vs_n_Ways n.Ways]) h ZP v_s_Edges s.Edges) {r:zR} (hp:zw n s v=some r) :
  ∃ u k',Is G 200 [.ag [v_n_Cells,v_n_First,v_n_Ends,v_n_Ways],.ag [v_s_Boxes,v_s_Edges],.n v] h u k'∧∃ aI aK aL aM aP,V.ag [aI,aK,aL,aM]=u∧Own (Bm h [eSl Zd v_n_Cells n.Cells,eSl z7 v_n_First n.First,eSl zZ v_n_Ends n.Ends,eSl eV v_n_Ways vs_n_Ways,Zbj z7 vs_n_Ways n.Ways]) h k' [eSl Zd aI r.Cells,eSl z7 aK r.First,eSl zZ aL r.Ends,eSl eV aM aP,Zbj z7 aP r.Ways]:=by
 refine WC.is (ZaI ZcG ?_)
 unfold zw at hp
 let B:Nat→Prop:=(Bm h [eSl Zd v_n_Cells n.Cells,eSl z7 v_n_First n.First,eSl zZ v_n_Ends n.Ends,eSl eV v_n_Ways vs_n_Ways,Zbj z7 vs_n_Ways n.Ways])
 have hO:Own B h h [eSl Zd v_n_Cells n.Cells,eSl z7 v_n_First n.First,eSl zZ v_n_Ends n.Ends,eSl eV v_n_Ways vs_n_Ways,Zbj z7 vs_n_Ways n.Ways]:=H
 refine Zl (zq (hO.boxd (cs:=[v_n_Cells,v_n_First,v_n_Ends,v_n_Ways]) hO.fr rfl rfl) ?_)
 rintro _ bH ⟨a,rfl,b4,bs,ap⟩
 refine zq (ap.boxd (cs:=[v_s_Boxes,v_s_Edges]) ap.fr rfl rfl) ?_
 rintro _ bM ⟨A,rfl,b5,bx,ar⟩
 refine zq (ar.alloc (cs:=[.sn,.sn,.sn,.sn]) ar.fr) ?_
 rintro _ bh ⟨g,rfl,b6,bz,Y⟩
 refine Zg (Zl (Zc (zy (r:=a) (o:=0) rfl rfl) (Zc (zd (Y.box 5 rfl) rfl rfl) (Zc (zP (Y.sl 0 rfl) rfl) (Zb (.n (n.Cells.length:Int)) rfl (Zj ?_))))))
 refine Zs (Zl ?_)
 obtain ⟨x,⟨ch,bS,aX,aN,rfl,a8⟩,hp⟩:=bdk hp fun _=>Z3.ok (h:=bh)  
 refine Zat rfl rfl aX ?_
 have L:=Y.call a8 rfl
 refine Zb aN rfl (Zg (Zl (Zc (zy (r:=a) (o:=0) rfl rfl) (Zc (zd (L.box 5 rfl) rfl rfl) (Zb aN rfl (ckk hp fun aS hp=>?_))))))
 refine zq (L.app (bytes:=64) 0 L.fr rfl (L.sl 8 rfl) rfl rfl (fun _=>rfl) aS (by decide)) ?_
 rintro aO bT ⟨bA,aa⟩
 refine Zc (zy (r:=a) (o:=0) rfl rfl) (zq (aa.stb (cs':=[aO,v_n_First,v_n_Ends,v_n_Ways]) 5 rfl rfl rfl (aa.sl 0 rfl).cells ⟨rfl,Nat.le_of_ble_eq_true rfl,(all_cons (aa.sl 0 rfl).oneV rfl)⟩ rfl) ?_)
 rintro _ bU ⟨rfl,bB,bY,a7⟩
 refine Zg (ZN (Zl (Zb (.n 0) rfl (Zg (zW (Zbf hp (fun | (n1,n2,d),fr,k=>∃ D,fr 2=.n v∧fr 3=.p a 0∧fr 4=.p A 0∧fr 6=.p g 0∧fr 7=.n (n.Cells.length:Int)∧fr 9=.n d∧Own B h k [zI a [D,v_n_First,v_n_Ends,v_n_Ways],eSl Zd D n1,eSl z7 v_n_First n.First,eSl zZ v_n_Ends n2,eSl eV v_n_Ways vs_n_Ways,Zbj z7 vs_n_Ways n.Ways,zI A [v_s_Boxes,v_s_Edges],zI g [.sn,.sn,.sn,.sn]]) (fun | (n3,n4),e,fr,k=>e=(.exit 0)∧∃ F,fr 3=.p a 0∧fr 6=.p g 0∧Own B h k [zI a [F,v_n_First,v_n_Ends,v_n_Ways],eSl Zd F n3,eSl z7 v_n_First n.First,eSl zZ v_n_Ends n4,eSl eV v_n_Ways vs_n_Ways,Zbj z7 vs_n_Ways n.Ways,zI g [.sn,.sn,.sn,.sn]]) ⟨aO,rfl,rfl,rfl,rfl,rfl,rfl,(a7.pk [5,0,1,2,3,4,6,7])⟩ ?_ ?_))))))
 ·rintro ⟨n1,n2,d⟩ cb bW ⟨D,ax,ay,az,aA,b,t,ab⟩ b8 hp
  dsimp only [zw.s0] at hp
  refine ZN (Zl (Zb _ t (Zc (z3 rfl rfl) (Zg (zB hp rfl (fun aQ hp=>?_) (fun aQ hp=>?_))))))
  ·refine Zal (ZN (zW (Zl (Zb _ b (ckk hp fun aj hp=>Zc (zn rfl rfl aj) ?_)))))
   refine Zb _ b (ckk hp fun ak hp=>Zc (zn rfl rfl ak) (Zb _ b (Zb _ b (zq (ab.bsl (E:=z7) (l:=[(n.Cells.length:Int) + 1,(n.Cells.length:Int) + 3,(n.Cells.length:Int),(n.Cells.length:Int)]) ab.fr (by rw [(zp (v:=.n ((n.Cells.length:Int) + 1)) rfl (zp (v:=.n ((n.Cells.length:Int) + 3)) rfl (zp (v:=.n (n.Cells.length:Int)) rfl (zp (v:=.n (n.Cells.length:Int)) rfl Za3))))]; rfl) rfl) ?_))))
   rintro co bX ⟨ce,bC,M⟩
   refine Zb _ t (ckk hp fun al hp=>Zc (zm (M.sl 8 rfl) rfl rfl al) (Zc (zE (M.sl 8 rfl) rfl (Zh al) rfl) (Zb (.n (gi [(n.Cells.length:Int) + 1,(n.Cells.length:Int) + 3,(n.Cells.length:Int),(n.Cells.length:Int)] d.toNat)) rfl (Zg (Zl ?_)))))
   refine Zb _ b (ckk hp fun am hp=>Zc (zn rfl rfl am) (Zb _ b (Zc (zn rfl rfl am) (Zb _ b (Zc (zn rfl rfl ak) (Zb _ b (Zc (zn rfl rfl aj) ?_)))))))
   refine zq (M.bsl (E:=z7) (l:=[(n.Cells.length:Int) + 2,(n.Cells.length:Int) + 2,(n.Cells.length:Int) + 3,(n.Cells.length:Int) + 1]) M.fr (by rw [(zp (v:=.n ((n.Cells.length:Int) + 2)) rfl (zp (v:=.n ((n.Cells.length:Int) + 2)) rfl (zp (v:=.n ((n.Cells.length:Int) + 3)) rfl (zp (v:=.n ((n.Cells.length:Int) + 1)) rfl Za3))))]; rfl) rfl) ?_
   rintro cm bI ⟨cf,bD,J⟩
   refine Zb _ t (ckk hp fun an hp=>Zc (zm (J.sl 9 rfl) rfl rfl an) (Zc (zE (J.sl 9 rfl) rfl (Zh an) rfl) (Zb (.n (gi [(n.Cells.length:Int) + 2,(n.Cells.length:Int) + 2,(n.Cells.length:Int) + 3,(n.Cells.length:Int) + 1] d.toNat)) rfl (Zg (Zl ?_)))))
   refine zq (J.bsl (E:=z7) (l:=([1,0,1,0]:List Int)) J.fr (by rw [(zp (v:=.n 1) rfl (zp (v:=.n 0) rfl (zp (v:=.n 1) rfl (zp (v:=.n 0) rfl Za3))))]; rfl) rfl) ?_
   rintro cn bd ⟨cg,bE,j⟩
   refine Zb _ t (ckk hp fun ao hp=>Zc (zm (j.sl 10 rfl) rfl rfl ao) (Zc (zE (j.sl 10 rfl) rfl (Zh ao) rfl) (Zb (.n (gi ([1,0,1,0]:List Int) d.toNat)) rfl (Zg (Zl ?_)))))
   refine Zc (Za7 (j.box 6 rfl) az rfl) (Zb _ ax (Zb _ t ?_))
   obtain ⟨x1,⟨ci,bJ,aY,ae,rfl,a9⟩,hp⟩:=bdk hp fun _=>zx.ok (h:=bd)  (j.rd0 s_s_Boxes) (j.rd0 s_s_Edges)
   refine Zat rfl rfl aY ?_
   have a4:=j.call a9 rfl
   refine Zb ae rfl (Zg (ZN (Zl (Zb (.n 0) rfl (Zg ?_)))))
   refine zW (Zbf hp (fun | (n5,n6,from_,i),fr,k=>∃ P,fr 2=.n v∧fr 3=.p a 0∧fr 4=.p A 0∧fr 6=.p g 0∧fr 7=.n (n.Cells.length:Int)∧fr 9=.n d∧fr 10=.n from_∧fr 11=.n (gi [(n.Cells.length:Int) + 2,(n.Cells.length:Int) + 2,(n.Cells.length:Int) + 3,(n.Cells.length:Int) + 1] d.toNat)∧fr 12=.n (gi ([1,0,1,0]:List Int) d.toNat)∧fr 13=ae∧fr 14=.n i∧Own B h k [zI a [P,v_n_First,v_n_Ends,v_n_Ways],eSl Zd P n5,eSl z7 v_n_First n.First,eSl zZ v_n_Ends n6,eSl eV v_n_Ways vs_n_Ways,Zbj z7 vs_n_Ways n.Ways,zI A [v_s_Boxes,v_s_Edges],zI g [.sn,.sn,.sn,.sn],eSl z7 ae x1]) (fun | (n7,n8,from_1),e,fr,k=>e=(.exit 2)∧∃ af,fr 2=.n v∧fr 3=.p a 0∧fr 4=.p A 0∧fr 6=.p g 0∧fr 7=.n (n.Cells.length:Int)∧fr 9=.n d∧fr 10=.n from_1∧fr 11=.n (gi [(n.Cells.length:Int) + 2,(n.Cells.length:Int) + 2,(n.Cells.length:Int) + 3,(n.Cells.length:Int) + 1] d.toNat)∧fr 12=.n (gi ([1,0,1,0]:List Int) d.toNat)∧Own B h k [zI a [af,v_n_First,v_n_Ends,v_n_Ways],eSl Zd af n7,eSl z7 v_n_First n.First,eSl zZ v_n_Ends n8,eSl eV v_n_Ways vs_n_Ways,Zbj z7 vs_n_Ways n.Ways,zI A [v_s_Boxes,v_s_Edges],zI g [.sn,.sn,.sn,.sn]]) ⟨D,ax,ay,az,aA,b,t,rfl,rfl,rfl,rfl,rfl,(a4.pk [0,1,2,3,4,5,6,7,11])⟩ ?_ ?_)
   ·rintro ⟨n5,n6,from_,i⟩ cd bf ⟨P,aD,f,aE,aF,aG,aH,aB,aC,ad,N,O,C⟩ b9 hp
    dsimp only [zw.s1] at hp
    refine ZN (Zl (Zb _ O (Zb _ N (Zc (zP (C.sl 8 rfl) rfl) (Zc (z3 rfl rfl) (Zg (zB hp rfl (fun aR hp=>?_) (fun aR hp=>?_))))))))
    ·refine Zal (ZN (zW (Zl (Zc (zy (r:=a) (o:=0) f rfl) (Zc (zd (C.box 0 rfl) rfl rfl) (Zc (zP (C.sl 1 rfl) rfl) ?_))))))
     refine Zb (.n (n5.length:Int)) rfl (Zg (Zl ?_))
     obtain ⟨x2,⟨cj,bK,aZ,aJ,rfl,ba⟩,hp⟩:=bdk hp fun _=>Z3.ok (h:=bf)  
     refine Zat rfl rfl aZ ?_
     have K:=C.call ba rfl
     refine Zb aJ rfl (Zg (Zl (Zc (zy (r:=a) (o:=0) f rfl) (Zc (zd (K.box 0 rfl) rfl rfl) (Zb aJ rfl (ckk hp fun aW hp=>?_))))))
     refine zq (K.app (bytes:=64) 1 K.fr rfl (K.sl 9 rfl) rfl rfl (fun _=>rfl) aW (by decide)) ?_
     rintro br bL ⟨bF,T⟩
     refine Zc (zy (r:=a) (o:=0) f rfl) (zq (T.stb (cs':=[br,v_n_First,v_n_Ends,v_n_Ways]) 0 rfl rfl rfl (T.sl 1 rfl).cells ⟨rfl,Nat.le_of_ble_eq_true rfl,(all_cons (T.sl 1 rfl).oneV rfl)⟩ rfl) ?_)
     rintro _ av ⟨rfl,bt,bZ,aq⟩
     refine Zg (ZN (Zfy ?_))
     have c:=aq.bump 16
     have a3:=Fresh.start av 16
     have b7:∀ {i:Nat},h.n≤av.n + i:=Nat.le_trans aq.n (Nat.le_add_right _ _)
     refine zA (zy (r:=a) (o:=0) f rfl) (zA (zd (c.box 0 rfl) rfl rfl) (Zbi _ N (Zbi _ O (ckk hp fun I hp=>zA (zm (c.sl 8 rfl) rfl rfl I) (zA (zE (c.sl 8 rfl) rfl (Zh I) rfl) (ckk hp fun aT hp=>zA (ZgY rfl rfl aT) ?_))))))
     refine Zbi _ N (Zbi _ O (zA (zm (c.sl 8 rfl) rfl rfl I) (zA (zE (c.sl 8 rfl) rfl (Zh I) rfl) (zA (Zbx rfl rfl (by decide)) (Zbi (.n (n5.length:Int)) rfl (ckk hp fun Q hp=>zA (zm (c.sl 3 rfl) rfl rfl Q) (ckk hp fun R hp=>?_)))))))
     refine zA (ZaE (c.sl 3 rfl) (Zh Q) rfl rfl R rfl) (Zei (c.ste (y:=((gi n6 ((gi x1 i.toNat).tdiv 2:Int).toNat).set ((gi x1 i.toNat).tmod 2) (n5.length:Int))) 3 rfl rfl (Zh Q) rfl rfl ⟨rfl,(by have:=R; exact (show 0 + ((gi x1 i.toNat).tmod 2:Int).toNat * 1 + 1≤2 by omega)),rfl⟩ (Zgr R)) ?_)
     rintro _ bg cp ⟨rfl,a2,b0,U⟩
     have bG:=a3.kept a2 (by decide)
     refine Zcd ?_
     refine And.intro ?_ ?_
     ·intro q hq
      simp only [List.mem_cons,List.not_mem_nil,or_false] at hq
      rcases hq with rfl | rfl | rfl
      ·refine Zau ?_ ?_
       ·exact (fun h=>nomatch h)
       ·exact (fun h=>nomatch h)
      ·refine Zau ?_ ?_
       ·exact (fun h=>nomatch h)
       ·exact (fun h=>nomatch h)
      ·refine Zau ?_ ?_
       ·exact (fun h=>nomatch h)
       ·exact (fun h=>nomatch h)
     refine Zs (Zl (Zc (zy (r:=a) (o:=0) f rfl) (Zc (zd (U.box 0 rfl) rfl rfl) (Zb _ aB (Zb _ ad (Zb (.n (n5.length:Int)) rfl ?_))))))
     obtain ⟨⟨x3,x4⟩,⟨ck,bN,a0,ah,rfl,bb⟩,hp⟩:=bdk hp fun _=>ZZ.ok (h:=bg) (l:=(n5++x2)) (v:=from_) (d:=(gi ([1,0,1,0]:List Int) d.toNat)) (w:=(n5.length:Int)) (o:=(-1)) (U.toM [1] rfl (by decide)) 
     refine Zat rfl rfl a0 ?_
     have W:=(U.callM [1] [0,2,3,4,5,6,7,8,9] rfl rfl (by decide) bb rfl).pick [0,900,1,2,3,4,5,6,7,8,9] rfl (by decide)
     refine Zb (.tu [ah,.n x4]) rfl (Zc (ZaJ rfl rfl) (Zc (ZaJ rfl rfl) (Zc (zy (r:=a) (o:=0) f rfl) (zq (W.stb (cs':=[ah,v_n_First,v_n_Ends,v_n_Ways]) 0 rfl rfl rfl (W.sl 10 rfl).cells ⟨rfl,Nat.le_of_ble_eq_true rfl,(all_cons (W.sl 10 rfl).oneV rfl)⟩ rfl) ?_))))
     rintro _ bO ⟨rfl,bu,b1,a5⟩
     refine Zg (zF (Zb (.n (n5.length:Int)) rfl (Zb (.n (n5.length:Int)) rfl (Zj (zV (Zs (zF ?_)))))))
     refine Zb _ O (ckk hp fun aU hp=>Zc (zn rfl rfl aU) (Zb (.n (i + 1)) rfl (Zj ?_)))
     cases hp
     exact ⟨rfl,ah,aD,f,aE,aF,aG,aH,rfl,aC,ad,N,rfl,(a5.pk [0,10,2,3,4,5,6,7,8])⟩
    ·refine ZaZ (zM ?_)
     cases hp
     exact ⟨nofun,rfl,P,aD,f,aE,aF,aG,aH,aB,aC,ad,(C.pk [0,1,2,3,4,5,6,7])⟩
   rintro ⟨n7,n8,from_1⟩ hp _ cc be ⟨rfl,af,bm,ac,bn,bo,bp,bq,bj,bk,bl,S⟩
   refine Zav (Zs (zF (Zc (zy (r:=a) (o:=0) ac rfl) (Zc (zd (S.box 0 rfl) rfl rfl) (Zb _ bj (Zb _ bl (Zb _ bk ?_)))))))
   obtain ⟨⟨x5,x6⟩,⟨cl,bP,a1,ai,rfl,bc⟩,hp⟩:=bdk hp fun _=>ZZ.ok (h:=be) (l:=n7) (v:=from_1) (d:=(gi ([1,0,1,0]:List Int) d.toNat)) (w:=(gi [(n.Cells.length:Int) + 2,(n.Cells.length:Int) + 2,(n.Cells.length:Int) + 3,(n.Cells.length:Int) + 1] d.toNat)) (o:=(-1)) (S.toM [1] rfl (by decide)) 
   refine Zat rfl rfl a1 ?_
   have X:=(S.callM [1] [0,2,3,4,5,6,7] rfl rfl (by decide) bc rfl).pick [0,900,1,2,3,4,5,6,7] rfl (by decide)
   refine Zb (.tu [ai,.n x6]) rfl (Zc (ZaJ rfl rfl) (Zc (ZaJ rfl rfl) (Zc (zy (r:=a) (o:=0) ac rfl) (zq (X.stb (cs':=[ai,v_n_First,v_n_Ends,v_n_Ways]) 0 rfl rfl rfl (X.sl 8 rfl).cells ⟨rfl,Nat.le_of_ble_eq_true rfl,(all_cons (X.sl 8 rfl).oneV rfl)⟩ rfl) ?_))))
   rintro _ bQ ⟨rfl,bv,b2,a6⟩
   refine Zj (zV (Zs (zF (Zb _ bq (ckk hp fun aV hp=>Zc (zn rfl rfl aV) (Zb (.n (d + 1)) rfl (Zj ?_)))))))
   cases hp
   exact ⟨rfl,ai,bm,ac,bn,bo,bp,rfl,(a6.pk [0,8,2,3,4,5,6,7])⟩
  ·refine ZaZ (zM ?_)
   cases hp
   exact ⟨nofun,rfl,D,ay,aA,(ab.pk [0,1,2,3,4,5,7])⟩
 rintro ⟨n3,n4⟩ hp _ ca bV ⟨rfl,F,bi,aw,m⟩
 refine Zav (Zs (Zl (Zc (Za7 (m.box 0 rfl) bi rfl) (zq (m.stb (cs':=[F,v_n_First,v_n_Ends,v_n_Ways]) 6 rfl aw rfl rfl ⟨rfl,Nat.le_of_ble_eq_true rfl,(all_cons (m.sl 1 rfl).oneV (all_cons (m.sl 2 rfl).oneV (all_cons (m.sl 3 rfl).oneV (all_cons (m.sl 4 rfl).oneV all_nil))))⟩ rfl) ?_))))
 rintro _ bR ⟨rfl,bw,b3,au⟩
 refine Zg (Zak (z6 (ZjN aw (au.box 6 rfl) rfl ze) ?_))
 cases hp
 exact ⟨F,v_n_First,v_n_Ends,v_n_Ways,vs_n_Ways,rfl,(au.pk [1,2,3,4,5])⟩

theorem ZC.ok {h:Hp} {s:zc} {v_s_Boxes:V} {v_s_Edges:V} (s_s_Boxes:Sl e_bool h v_s_Boxes s.Boxes) (s_s_Edges:Sl ZP h v_s_Edges s.Edges) {r:zR} (hp:ZC s=some r) :
  ∃ u k',Is G 175 [.ag [v_s_Boxes,v_s_Edges]] h u k'∧∃ bx bD bG bI bK,V.ag [bx,bD,bG,bI]=u∧Own (fun r=>r < h.n) h k' [eSl Zd bx r.Cells,eSl z7 bD r.First,eSl zZ bG r.Ends,eSl eV bI bK,Zbj z7 bK r.Ways]:=by
 refine WC.is (ZaI ZcL ?_)
 unfold ZC at hp
 let B:Nat→Prop:=(fun r=>r < h.n)
 have hO:Own B h h []:=Own.start0 h
 refine Zl (zq (hO.boxd (cs:=[v_s_Boxes,v_s_Edges]) hO.fr rfl rfl) ?_)
 rintro _ dz ⟨c,rfl,ee,c9,be⟩
 refine zq (be.alloc (cs:=[.sn,.sn,.sn,.sn]) be.fr) ?_
 rintro _ dI ⟨f,rfl,ef,di,ap⟩
 refine Zg (Zl (Zc (zy (r:=c) (o:=0) rfl rfl) (Zc (zd (ap.box 0 rfl) rfl rfl) (Zc (zP (ap.rd0 s_s_Edges.rd) rfl) (ckk hp fun bS hp=>zq (ap.mks (E:=zZ) (y:=(⟨0,0⟩:A2 Int)) (bytes:=16) (z:=(s.Edges.length:Int)) ap.fr rfl rfl rfl bS (by decide)) ?_)))))
 rintro ac av ⟨ey,dq,aR⟩
 refine Zc (Zdc (cs:=[.sn,.sn,ac,.sn]) (by rw [(zp (v:=ac) rfl Za3)]; simp [fill,over,Zie,Zic,Zid,Zig,Zib,Zif,(Sl.nil:Sl Zd av .sn ([]:List Za)).cells,(Sl.nil:Sl z7 av .sn ([]:List Int)).cells,(aR.sl 2 rfl:Sl zZ av ac (List.replicate ((s.Edges.length:Int):Int).toNat (⟨0,0⟩:A2 Int))).cells,(Sl.nil:Sl eV av .sn []).cells])) (zq (aR.alloc (cs:=[.sn,.sn,.sn,.sn]) aR.fr) ?_)
 rintro _ aw ⟨b,rfl,eg,dr,bh⟩
 refine zq (bh.stb (cs':=[.sn,.sn,ac,.sn]) 3 rfl rfl rfl rfl ⟨rfl,Nat.le_of_ble_eq_true rfl,(all_cons (Sl.nil:Sl Zd aw .sn ([]:List Za)).oneV (all_cons (Sl.nil:Sl z7 aw .sn ([]:List Int)).oneV (all_cons (bh.sl 2 rfl:Sl zZ aw ac (List.replicate ((s.Edges.length:Int):Int).toNat (⟨0,0⟩:A2 Int))).oneV (all_cons (Sl.nil:Sl eV aw .sn []).oneV all_nil))))⟩ rfl) ?_
 rintro _ dY ⟨rfl,ds,d4,cw⟩
 refine Zg (ZN (Zl (Zb (.n 0) rfl (Zg (zW ?_)))))
 have cy:=cw.nil Zd
 have cz:=cy.nil z7
 have cA:=cz.nil eV
 have cl:=cA.allNil z7 0
 refine Zbf hp (fun | (n,n1,n2,n3,v),fr,k=>∃ am aJ m t D,fr 1=.p c 0∧fr 2=.p f 0∧fr 3=.p b 0∧fr 4=.n v∧Own B h k [zI c [v_s_Boxes,v_s_Edges],zI f [.sn,.sn,.sn,.sn],zI b [am,aJ,m,t],eSl Zd am n,eSl z7 aJ n1,eSl zZ m n2,eSl eV t D,Zbj z7 D n3]) (fun | (n4,n5,n6,n7),e,fr,k=>e=(.exit 0)∧∃ aD g j aE aK,fr 1=.p c 0∧fr 2=.p f 0∧fr 3=.p b 0∧Own B h k [zI c [v_s_Boxes,v_s_Edges],zI f [.sn,.sn,.sn,.sn],zI b [aD,g,j,aE],eSl Zd aD n4,eSl z7 g n5,eSl zZ j n6,eSl eV aE aK,Zbj z7 aK n7]) ⟨V.sn,V.sn,ac,V.sn,[],rfl,rfl,rfl,rfl,(cl.pk [0,1,3,4,5,2,6,7])⟩ ?_ ?_
 ·rintro ⟨n,n1,n2,n3,v⟩ eq d0 ⟨am,aJ,m,t,D,ab,a1,I,ai,N⟩ ek hp
  dsimp only [ZC.s0] at hp
  refine ZN (Zl (Zb _ ai (Zc (zy (r:=c) (o:=0) ab rfl) (Zc (zd (N.box 0 rfl) rfl rfl) (Zc (zP (N.rd0 s_s_Boxes.rd) rfl) (Zc (z3 rfl rfl) (Zj ?_)))))))
  refine Zs (zB hp rfl (fun bL hp=>?_) (fun bL hp=>?_))
  ·refine Zal (ZN (zW (Zl (Zc (zy (r:=b) (o:=0) I rfl) (Zc (zd (N.box 2 rfl) rfl rfl) (Zc (zP (N.sl 3 rfl) rfl) ?_))))))
   refine Zb (.n (n.length:Int)) rfl (Zg (Zl (Zc (zy (r:=b) (o:=0) I rfl) (Zc (zd (N.box 2 rfl) rfl rfl) (Zb (.n (n.length:Int)) rfl (zq (N.bsl (E:=z7) (l:=[(n.length:Int)]) N.fr (by rw [(zp (v:=.n (n.length:Int)) rfl Za3)]; rfl) rfl) ?_))))))
   rintro eK d3 ⟨ez,dt,aO⟩
   refine ckk hp fun b1 hp=>zq (aO.app (bytes:=8) 4 aO.fr rfl (aO.sl 8 rfl) rfl rfl (fun _=>rfl) b1 (by decide)) ?_
   rintro C bm ⟨du,aP⟩
   refine Zc (zy (r:=b) (o:=0) I rfl) (zq (aP.stb (cs':=[am,C,m,t]) 2 rfl rfl rfl (aP.sl 4 rfl:Sl z7 bm C (n1++[(n.length:Int)])).cells ⟨rfl,Nat.le_of_ble_eq_true rfl,(all_cons (aP.sl 4 rfl:Sl z7 bm C (n1++[(n.length:Int)])).oneV rfl)⟩ rfl) ?_)
   rintro _ bk ⟨rfl,dv,d6,H⟩
   refine Zg (ZN (Zl (Zc (zy (r:=c) (o:=0) ab rfl) (Zc (zd (H.box 0 rfl) rfl rfl) (Zb _ ai (ckk hp fun bd hp=>?_))))))
   refine Zc (zm (H.rd0 s_s_Boxes.rd) rfl rfl bd) (Zc (zE (H.rd0 s_s_Boxes.rd) rfl (Zh bd) rfl) (Zg (zB hp rfl (fun bM hp=>?_) (fun bM hp=>?_))))
   ·refine Zl (Zc (Za7 (H.box 2 rfl) I rfl) (Zc (Za7 (H.box 0 rfl) ab rfl) (Zb _ ai ?_)))
    obtain ⟨x,⟨eE,dA,ca,bz,bA,bB,bC,c8,rfl,cB⟩,hp⟩:=bdk hp fun _=>zw.ok (h:=bk) (n:=(⟨n,n1++[(n.length:Int)],n2,n3⟩:zR)) (s:=s) (v:=v) (H.toM [3,4,5,6,7] rfl (by decide)) (H.rdM [3,4,5,6,7] rfl s_s_Boxes.rd) (H.rdM [3,4,5,6,7] rfl s_s_Edges.rd)
    refine Zat rfl rfl ca ?_
    have ad:=(H.callM [3,4,5,6,7] [0,1,2,8] rfl rfl (by decide) cB rfl).pick [0,1,2,900,901,902,903,904,3,4,5,6,7,8] rfl (by decide)
    refine zq (ad.stb (cs':=[bz,bA,bB,bC]) 2 rfl I rfl rfl ⟨rfl,Nat.le_of_ble_eq_true rfl,(all_cons (ad.sl 9 rfl).oneV (all_cons (ad.sl 10 rfl).oneV (all_cons (ad.sl 11 rfl).oneV (all_cons (ad.sl 12 rfl).oneV all_nil))))⟩ rfl) ?_
    rintro _ dB ⟨rfl,dw,d7,cm⟩
    refine Zg (ZaZ (zM (Zav (Zs (zF (Zb _ ai (ckk hp fun b7 hp=>?_)))))))
    refine Zc (zn rfl rfl b7) (Zb (.n (v + 1)) rfl (Zj ?_))
    cases hp
    exact ⟨rfl,bz,bA,bB,bC,c8,ab,a1,I,rfl,(cm.pk [0,1,2,9,10,11,12,13])⟩
   ·refine Zal (Zl ?_)
    obtain ⟨x1,⟨eF,dC,cb,bE,rfl,cC⟩,hp⟩:=bdk hp fun _=>Z3.ok (h:=bk)  
    refine Zat rfl rfl cb ?_
    have ao:=H.call cC rfl
    refine Zb bE rfl (Zg (Zl (Zc (zy (r:=b) (o:=0) I rfl) (Zc (zd (ao.box 2 rfl) rfl rfl) (Zb bE rfl (ckk hp fun b8 hp=>?_))))))
    refine zq (ao.app (bytes:=64) 3 ao.fr rfl (ao.sl 9 rfl) rfl rfl (fun _=>rfl) b8 (by decide)) ?_
    rintro J dD ⟨da,aQ⟩
    refine Zc (zy (r:=b) (o:=0) I rfl) (zq (aQ.stb (cs':=[J,C,m,t]) 2 rfl rfl rfl (aQ.sl 3 rfl).cells ⟨rfl,Nat.le_of_ble_eq_true rfl,(all_cons (aQ.sl 3 rfl).oneV rfl)⟩ rfl) ?_)
    rintro _ dE ⟨rfl,db,d8,cn⟩
    refine Zg (Zl (Zb (.n 0) rfl (Zg (zW (Zbf hp (fun | (n8,d),fr,k=>fr 1=.p c 0∧fr 2=.p f 0∧fr 3=.p b 0∧fr 4=.n v∧fr 5=.n (n.length:Int)∧fr 7=.n d∧Own B h k [zI c [v_s_Boxes,v_s_Edges],zI f [.sn,.sn,.sn,.sn],zI b [J,C,m,t],eSl Zd J (n++x1),eSl z7 C (n1++[(n.length:Int)]),eSl zZ m n8,eSl eV t D,Zbj z7 D n3]) (fun n9 e fr k=>e=(.exit 2)∧fr 1=.p c 0∧fr 2=.p f 0∧fr 3=.p b 0∧fr 4=.n v∧Own B h k [zI c [v_s_Boxes,v_s_Edges],zI f [.sn,.sn,.sn,.sn],zI b [J,C,m,t],eSl Zd J (n++x1),eSl z7 C (n1++[(n.length:Int)]),eSl zZ m n9,eSl eV t D,Zbj z7 D n3]) ⟨ab,a1,I,ai,rfl,rfl,(cn.pk [0,1,2,3,4,5,6,7])⟩ ?_ ?_)))))
    ·rintro ⟨n8,d⟩ es cG ⟨a2,bp,bq,a3,cT,a4,ae⟩ el hp
     dsimp only [ZC.s1] at hp
     refine ZN (Zl (Zb _ a4 (Zc (z3 rfl rfl) (Zg (zB hp rfl (fun bN hp=>?_) (fun bN hp=>?_))))))
     ·refine Zal (ZN (zW (Zl (Zc (Za7 (ae.box 0 rfl) a2 rfl) (Zb _ a3 (Zb _ a4 ?_))))))
      obtain ⟨x2,⟨eG,dG,cc,a9,rfl,cD⟩,hp⟩:=bdk hp fun _=>zx.ok (h:=cG)  (ae.rd0 s_s_Boxes.rd) (ae.rd0 s_s_Edges.rd)
      refine Zat rfl rfl cc ?_
      have cp:=ae.call cD rfl
      refine Zb a9 rfl (Zg (Zl (Zb (.n 0) rfl (Zg (zW (Zbf hp (fun | (n10,i),fr,k=>fr 1=.p c 0∧fr 2=.p f 0∧fr 3=.p b 0∧fr 4=.n v∧fr 5=.n (n.length:Int)∧fr 7=.n d∧fr 8=a9∧fr 9=.n i∧Own B h k [zI c [v_s_Boxes,v_s_Edges],zI f [.sn,.sn,.sn,.sn],zI b [J,C,m,t],eSl Zd J (n++x1),eSl z7 C (n1++[(n.length:Int)]),eSl zZ m n10,eSl eV t D,Zbj z7 D n3,eSl z7 a9 x2]) (fun n11 e fr k=>e=(.exit 4)∧fr 1=.p c 0∧fr 2=.p f 0∧fr 3=.p b 0∧fr 4=.n v∧fr 5=.n (n.length:Int)∧fr 7=.n d∧Own B h k [zI c [v_s_Boxes,v_s_Edges],zI f [.sn,.sn,.sn,.sn],zI b [J,C,m,t],eSl Zd J (n++x1),eSl z7 C (n1++[(n.length:Int)]),eSl zZ m n11,eSl eV t D,Zbj z7 D n3]) ⟨a2,bp,bq,a3,cT,a4,rfl,rfl,(cp.pk [0,1,2,3,4,5,6,7,8])⟩ ?_ ?_))))))
      ·rintro ⟨n10,i⟩ eu bl ⟨br,bs,a5,bt,a6,bu,az,aA,aq⟩ em hp
       dsimp only [ZC.s2] at hp
       refine ZN (Zl (Zb _ aA (Zb _ az (Zc (zP (aq.sl 8 rfl) rfl) (Zc (z3 rfl rfl) (Zg (zB hp rfl (fun bO hp=>?_) (fun bO hp=>?_))))))))
       ·refine Zal (ZN (zW (Zfy ?_)))
        have O:=aq.bump 16
        have ci:=Fresh.start bl 16
        have eh:∀ {i:Nat},h.n≤bl.n + i:=Nat.le_trans aq.n (Nat.le_add_right _ _)
        refine zA (zy (r:=b) (o:=0) a5 rfl) (zA (zd (O.box 2 rfl) rfl rfl) (Zbi _ az (Zbi _ aA (ckk hp fun an hp=>zA (zm (O.sl 8 rfl) rfl rfl an) (zA (zE (O.sl 8 rfl) rfl (Zh an) rfl) (ckk hp fun b9 hp=>zA (ZgY rfl rfl b9) ?_))))))
        refine Zbi _ az (Zbi _ aA (zA (zm (O.sl 8 rfl) rfl rfl an) (zA (zE (O.sl 8 rfl) rfl (Zh an) rfl) (zA (Zbx rfl rfl (by decide)) (Zbi _ a6 (ckk hp fun aM hp=>zA (zm (O.sl 5 rfl) rfl rfl aM) (ckk hp fun aN hp=>?_)))))))
        refine zA (ZaE (O.sl 5 rfl) (Zh aM) rfl rfl aN rfl) (Zei (O.ste (y:=((gi n10 ((gi x2 i.toNat).tdiv 2:Int).toNat).set ((gi x2 i.toNat).tmod 2) (n.length:Int))) 5 rfl rfl (Zh aM) rfl rfl ⟨rfl,(by have:=aN; exact (show 0 + ((gi x2 i.toNat).tmod 2:Int).toNat * 1 + 1≤2 by omega)),rfl⟩ (Zgr aN)) ?_)
        rintro _ dJ eN ⟨rfl,cg,d9,cr⟩
        have dx:=ci.kept cg (by decide)
        refine Zcd ?_
        refine And.intro ?_ ?_
        ·intro q hq
         simp only [List.mem_cons,List.not_mem_nil,or_false] at hq
         rcases hq with rfl | rfl | rfl
         ·refine Zau ?_ ?_
          ·exact (fun h=>nomatch h)
          ·exact (fun h=>nomatch h)
         ·refine Zau ?_ ?_
          ·exact (fun h=>nomatch h)
          ·exact (fun h=>nomatch h)
         ·refine Zau ?_ ?_
          ·exact (fun h=>nomatch h)
          ·exact (fun h=>nomatch h)
        refine zV (Zs (zF (Zb _ aA (ckk hp fun bT hp=>Zc (zn rfl rfl bT) (Zb (.n (i + 1)) rfl (Zj ?_))))))
        cases hp
        exact ⟨rfl,br,bs,a5,bt,a6,bu,az,rfl,(cr.pk [0,1,2,3,4,5,6,7,8])⟩
       ·refine ZaZ (zM ?_)
        cases hp
        exact ⟨nofun,rfl,br,bs,a5,bt,a6,bu,(aq.pk [0,1,2,3,4,5,6,7])⟩
      rintro n11 hp _ et dH ⟨rfl,cU,cV,cW,cX,cY,cZ,cq⟩
      refine Zav (zV (Zs (zF (Zb _ cZ (ckk hp fun bU hp=>Zc (zn rfl rfl bU) (Zb (.n (d + 1)) rfl (Zj ?_)))))))
      cases hp
      exact ⟨rfl,cU,cV,cW,cX,cY,rfl,(cq.pk [0,1,2,3,4,5,6,7])⟩
     ·refine ZaZ (zM ?_)
      cases hp
      exact ⟨nofun,rfl,a2,bp,bq,a3,(ae.pk [0,1,2,3,4,5,6,7])⟩
    rintro n9 hp _ er dF ⟨rfl,cP,cQ,cR,cS,co⟩
    refine Zav (zV (Zs (zF (Zb _ cS (ckk hp fun bV hp=>Zc (zn rfl rfl bV) (Zb (.n (v + 1)) rfl (Zj ?_)))))))
    cases hp
    exact ⟨rfl,J,C,m,t,D,cP,cQ,cR,rfl,(co.pk [0,1,2,3,4,5,6,7])⟩
  ·refine ZaZ (zM ?_)
   cases hp
   exact ⟨nofun,rfl,am,aJ,m,t,D,ab,a1,I,(N.pk [0,1,2,3,4,5,6,7])⟩
 rintro ⟨n4,n5,n6,n7⟩ hp _ eo dZ ⟨rfl,aD,g,j,aE,aK,cM,cN,cO,cx⟩
 refine Zav (Zs (ZN (Zl (Zb (.n 0) rfl (Zg (zW (Zbf hp (fun | (n12,n13,i1),fr,k=>∃ aj F K,fr 1=.p c 0∧fr 2=.p f 0∧fr 3=.p b 0∧fr 10=.n i1∧Own B h k [zI c [v_s_Boxes,v_s_Edges],zI f [.sn,.sn,.sn,.sn],zI b [aj,g,j,F],eSl Zd aj n12,eSl z7 g n5,eSl zZ j n6,eSl eV F K,Zbj z7 K n13]) (fun | (n14,n15),e,fr,k=>e=(.exit 6)∧∃ ak al aL,fr 2=.p f 0∧fr 3=.p b 0∧Own B h k [zI f [.sn,.sn,.sn,.sn],zI b [ak,g,j,al],eSl Zd ak n14,eSl z7 g n5,eSl zZ j n6,eSl eV al aL,Zbj z7 aL n15]) ⟨aD,aE,aK,cM,cN,cO,rfl,(cx.pk [0,1,2,3,4,5,6,7])⟩ ?_ ?_)))))))
 ·rintro ⟨n12,n13,i1⟩ ew dL ⟨aj,F,K,a7,bw,a8,aB,A⟩ en hp
  dsimp only [ZC.s3] at hp
  refine ZN (Zl (Zb _ aB (Zc (zy (r:=c) (o:=0) a7 rfl) (Zc (zd (A.box 0 rfl) rfl rfl) (Zc (zP (A.rd0 s_s_Edges.rd) rfl) (Zc (z3 rfl rfl) (Zj ?_)))))))
  refine Zs (zB hp rfl (fun bP hp=>?_) (fun bP hp=>?_))
  ·refine Zal (ZN (zW (Zl (Zc (zy (r:=b) (o:=0) a8 rfl) (Zc (zd (A.box 2 rfl) rfl rfl) (Zb _ aB ?_))))))
   refine ckk hp fun L hp=>Zc (zm (A.sl 5 rfl) rfl rfl L) (Zc (ZaE (A.sl 5 rfl) (Zh L) rfl rfl (by decide) rfl) (Zc (zE (A.sl 5 rfl) rfl (Zh L) rfl) (Zb (.n ((gi n6 i1.toNat).get 0)) rfl (Zg (Zl ?_)))))
   refine Zc (zy (r:=c) (o:=0) a7 rfl) (Zc (zd (A.box 0 rfl) rfl rfl) (Zb _ aB (ckk hp fun M hp=>Zc (zm (A.rd0 s_s_Edges.rd) rfl rfl M) (Zc (Za9 (A.rd0 s_s_Edges.rd) (Zh M) rfl rfl) (Zc (zE (A.rd0 s_s_Edges.rd) rfl (Zh M) rfl) (Zb (.n ((gi s.Edges i1.toNat).Dir)) rfl (Zj ?_)))))))
   refine Zs (Zl (Zb (.n ((gi n6 i1.toNat).get 0)) rfl (zq (A.bsl (E:=z7) (l:=[(gi n6 i1.toNat).get 0]) A.fr (by rw [(zp (v:=.n ((gi n6 i1.toNat).get 0)) rfl Za3)]; rfl) rfl) ?_)))
   rintro bF dM ⟨eA,dc,ct⟩
   refine Zb bF rfl (Zg (ZN (Zl (Zb (.n 0) rfl (Zg ?_)))))
   refine zW (Zbf hp (fun | (n16,at_,d1,way,k_),fr,k=>∃ aF aG,fr 1=.p c 0∧fr 2=.p f 0∧fr 3=.p b 0∧fr 10=.n i1∧fr 11=.n at_∧fr 12=.n d1∧fr 13=aG∧fr 14=.n k_∧Own B h k [zI c [v_s_Boxes,v_s_Edges],zI f [.sn,.sn,.sn,.sn],zI b [aF,g,j,F],eSl Zd aF n16,eSl z7 g n5,eSl zZ j n6,eSl eV F K,Zbj z7 K n13,eSl z7 aG way]) (fun | (n17,at_1,d2,way1),e,fr,k=>e=(.exit 8)∧∃ ba bb,fr 1=.p c 0∧fr 2=.p f 0∧fr 3=.p b 0∧fr 10=.n i1∧fr 11=.n at_1∧fr 12=.n d2∧fr 13=bb∧Own B h k [zI c [v_s_Boxes,v_s_Edges],zI f [.sn,.sn,.sn,.sn],zI b [ba,g,j,F],eSl Zd ba n17,eSl z7 g n5,eSl zZ j n6,eSl eV F K,Zbj z7 K n13,eSl z7 bb way1]) ⟨aj,bF,a7,bw,a8,aB,rfl,rfl,rfl,rfl,(ct.pk [0,1,2,3,4,5,6,7,8])⟩ ?_ ?_)
   ·rintro ⟨n16,at_,d1,way,k_⟩ ep cH ⟨aF,aG,ah,a0,S,aa,bn,ax,bo,ay,Q⟩ ej hp
    dsimp only [ZC.s4] at hp
    refine ZN (Zl (Zb _ ay (Zc (zy (r:=c) (o:=0) ah rfl) (Zc (zd (Q.box 0 rfl) rfl rfl) (Zb _ aa (Zc (zm (Q.rd0 s_s_Edges.rd) rfl rfl M) (Zc (Za9 (Q.rd0 s_s_Edges.rd) (Zh M) rfl rfl) ?_)))))))
    refine Zc (zE (Q.rd0 s_s_Edges.rd) rfl (Zh M) rfl) (Zc (Zfz rfl) (Zc (z3 rfl rfl) (Zg (zB hp rfl (fun bQ hp=>?_) (fun bQ hp=>?_)))))
    ·refine Zal (ZN (zW (Zl (Zc (zy (r:=b) (o:=0) S rfl) (Zc (zd (Q.box 2 rfl) rfl rfl) (Zc (zP (Q.sl 3 rfl) rfl) ?_))))))
     refine Zb (.n (n16.length:Int)) rfl (Zg (Zl ?_))
     obtain ⟨x3,⟨eH,dN,cd,bH,rfl,cE⟩,hp⟩:=bdk hp fun _=>Z3.ok (h:=cH)  
     refine Zat rfl rfl cd ?_
     have ar:=Q.call cE rfl
     refine Zb bH rfl (Zg (Zl (Zc (zy (r:=b) (o:=0) S rfl) (Zc (zd (ar.box 2 rfl) rfl rfl) (Zb bH rfl (ckk hp fun bW hp=>?_))))))
     refine zq (ar.app (bytes:=64) 3 ar.fr rfl (ar.sl 9 rfl) rfl rfl (fun _=>rfl) bW (by decide)) ?_
     rintro c6 dO ⟨dd,aS⟩
     refine Zc (zy (r:=b) (o:=0) S rfl) (zq (aS.stb (cs':=[c6,g,j,F]) 2 rfl rfl rfl (aS.sl 3 rfl).cells ⟨rfl,Nat.le_of_ble_eq_true rfl,(all_cons (aS.sl 3 rfl).oneV rfl)⟩ rfl) ?_)
     rintro _ cI ⟨rfl,de,ea,aT⟩
     refine Zg (Zl (Zc (zy (r:=b) (o:=0) S rfl) (Zc (zd (aT.box 2 rfl) rfl rfl) (Zb _ bn (Zb _ ax (Zb (.n (n16.length:Int)) rfl ?_))))))
     refine Zb _ aa ?_
     obtain ⟨⟨x4,x5⟩,⟨eI,dP,ce,aH,rfl,cF⟩,hp⟩:=bdk hp fun _=>ZZ.ok (h:=cI) (l:=(n16++x3)) (v:=at_) (d:=d1) (w:=(n16.length:Int)) (o:=i1) (aT.toM [3] rfl (by decide)) 
     refine Zat rfl rfl ce ?_
     have aU:=(aT.callM [3] [0,1,2,4,5,6,7,8,9] rfl rfl (by decide) cF rfl).pick [0,1,2,900,3,4,5,6,7,8,9] rfl (by decide)
     refine Zb (.tu [aH,.n x5]) rfl (Zc (ZaJ rfl rfl) (Zc (ZaJ rfl rfl) (Zc (zy (r:=b) (o:=0) S rfl) (zq (aU.stb (cs':=[aH,g,j,F]) 2 rfl rfl rfl (aU.sl 10 rfl).cells ⟨rfl,Nat.le_of_ble_eq_true rfl,(all_cons (aU.sl 10 rfl).oneV rfl)⟩ rfl) ?_))))
     rintro _ dQ ⟨rfl,df,eb,bg⟩
     refine Zg (Zl (Zb (.n (n16.length:Int)) rfl (Zb (.n (n16.length:Int)) rfl (Zg (ZN ?_)))))
     refine zF (Zb _ bo (Zb (.n (n16.length:Int)) rfl (zq (bg.bsl (E:=z7) (l:=[(n16.length:Int)]) bg.fr (by rw [(zp (v:=.n (n16.length:Int)) rfl Za3)]; rfl) rfl) ?_)))
     rintro eL dR ⟨eB,dg,aV⟩
     refine ckk hp fun bX hp=>zq (aV.app (bytes:=8) 8 aV.fr rfl (aV.sl 11 rfl) rfl rfl (fun _=>rfl) bX (by decide)) ?_
     rintro bc dS ⟨dh,X⟩
     refine Zb bc rfl (Zg (Zl (Zc (zy (r:=c) (o:=0) ah rfl) (Zc (zd (X.box 0 rfl) rfl rfl) (Zb _ aa (Zc (zm (X.rd0 s_s_Edges.rd) rfl rfl M) ?_))))))
     refine Zc (Za9 (X.rd0 s_s_Edges.rd) (Zh M) rfl rfl) (Zc (zE (X.rd0 s_s_Edges.rd) rfl (Zh M) rfl) (Zb _ ay (ckk hp fun bY hp=>Zc (ZhW (a:=((gi s.Edges i1.toNat).Bends)) (z:=k_) rfl rfl bY) (Zc (ZaX rfl rfl) (Zg (zB hp rfl (fun bR hp=>?_) (fun bR hp=>?_)))))))
     ·refine zF (Zb _ ax (ckk hp fun bZ hp=>Zc (zn rfl rfl bZ) (Zc (Zbx rfl rfl (by decide)) (Zb (.n ((d1 + 1).tmod 4)) rfl (Zj (zV (Zs ?_)))))))
      refine zF (Zb _ ay (ckk hp fun b0 hp=>Zc (zn rfl rfl b0) (Zb (.n (k_ + 1)) rfl (Zj ?_))))
      cases hp
      exact ⟨rfl,aH,bc,ah,a0,S,aa,rfl,rfl,rfl,rfl,(X.pk [0,1,2,10,4,5,6,7,8])⟩
     ·refine zF (Zb _ ax (ckk hp fun b2 hp=>Zc (zn rfl rfl b2) (Zc (Zbx rfl rfl (by decide)) (Zb (.n ((d1 + 3).tmod 4)) rfl (Zj (zV (Zs ?_)))))))
      refine zF (Zb _ ay (ckk hp fun b3 hp=>Zc (zn rfl rfl b3) (Zb (.n (k_ + 1)) rfl (Zj ?_))))
      cases hp
      exact ⟨rfl,aH,bc,ah,a0,S,aa,rfl,rfl,rfl,rfl,(X.pk [0,1,2,10,4,5,6,7,8])⟩
    ·refine ZaZ (zM ?_)
     cases hp
     exact ⟨nofun,rfl,aF,aG,ah,a0,S,aa,bn,ax,bo,(Q.pk [0,1,2,3,4,5,6,7,8])⟩
   rintro ⟨n17,at_1,d2,way1⟩ hp _ ex aZ ⟨rfl,ba,bb,c1,c5,T,aC,c2,c3,c4,bf⟩
   refine Zav (Zs (ZN (Zfy ?_)))
   have R:=bf.bump 17
   have cj:=Fresh.start aZ 17
   have ei:∀ {i:Nat},h.n≤aZ.n + i:=Nat.le_trans bf.n (Nat.le_add_right _ _)
   refine zA (zy (r:=b) (o:=0) T rfl) (zA (zd (R.box 2 rfl) rfl rfl) (Zbi _ c2 (Zbi _ c3 (zA (zy (r:=b) (o:=0) T rfl) (zA (zd (R.box 2 rfl) rfl rfl) (Zbi _ aC (zA (zm (R.sl 5 rfl) rfl rfl L) (zA (ZaE (R.sl 5 rfl) (Zh L) rfl rfl (by decide) rfl) ?_))))))))
   refine zA (zE (R.sl 5 rfl) rfl (Zh L) rfl) (Zbi _ aC ?_)
   obtain ⟨⟨x6,x7⟩,⟨eJ,dT,cf,aI,rfl,bj⟩,hp⟩:=bdk hp fun _=>ZZ.ok (h:=(aZ.bump 17)) (l:=n17) (v:=at_1) (d:=d2) (w:=((gi n6 i1.toNat).get 1)) (o:=i1) (R.toM [3] rfl (by decide)) 
   refine Ziy rfl rfl cf ?_
   have ck:=cj.callM (R.pick [3] rfl (by decide)).P bj
   have aW:=(R.callM [3] [0,1,2,4,5,6,7,8] rfl rfl (by decide) bj rfl).pick [0,1,2,900,3,4,5,6,7,8] rfl (by decide)
   refine Zbi (.tu [aI,.n x7]) rfl (zA (ZaJ rfl rfl) (zA (ZaJ rfl rfl) (zA (zy (r:=b) (o:=0) T rfl) (Zei (aW.stb (cs':=[aI,g,j,F]) 2 rfl rfl rfl (aW.sl 9 rfl).cells ⟨rfl,Nat.le_of_ble_eq_true rfl,(all_cons (aW.sl 9 rfl).oneV rfl)⟩ rfl) ?_))))
   rintro _ dU eO ⟨rfl,ch,ec,Y⟩
   have dy:=ck.kept ch (by decide)
   refine Zcd ?_
   refine And.intro ?_ ?_
   ·intro q hq
    simp only [List.mem_cons,List.not_mem_nil,or_false] at hq
    rcases hq with rfl | rfl
    ·refine Zau ?_ ?_
     ·exact (fun h=>nomatch h)
     ·exact (fun h=>nomatch h)
    ·refine Zau ?_ ?_
     ·exact (fun h=>nomatch h)
     ·exact (fun h=>nomatch h)
   refine Zs (Zl (Zb _ c4 (Zc (zy (r:=b) (o:=0) T rfl) (Zc (zd (Y.box 2 rfl) rfl rfl) (Zb _ aC (Zc (zm (Y.sl 5 rfl) rfl rfl L) (Zc (ZaE (Y.sl 5 rfl) (Zh L) rfl rfl (by decide) rfl) ?_)))))))
   refine Zc (zE (Y.sl 5 rfl) rfl (Zh L) rfl) (zq (Y.bsl (E:=z7) (l:=[(gi n6 i1.toNat).get 1]) Y.fr (by rw [(zp (v:=.n ((gi n6 i1.toNat).get 1)) rfl Za3)]; rfl) rfl) ?_)
   rintro c7 cJ ⟨eC,dj,aX⟩
   refine ckk hp fun b4 hp=>zq (aX.app (bytes:=8) 8 aX.fr rfl (aX.sl 10 rfl:Sl z7 cJ c7 [(gi n6 i1.toNat).get 1]) rfl rfl (fun _=>rfl) b4 (by decide)) ?_
   rintro U cK ⟨dk,au⟩
   refine Zb U rfl (Zg (zF (Zc (zy (r:=b) (o:=0) T rfl) (Zc (zd (au.box 2 rfl) rfl rfl) (Zb U rfl (zq (au.bsl (E:=eV) (l:=[U]) au.fr (by rw [(zp (v:=U) rfl Za3)]; simp only [fill,(au.sl 8 rfl:Sl z7 cK U (way1++[(gi n6 i1.toNat).get 1])).cells]; simp [over]) rfl) ?_))))))
   rintro eM cL ⟨eD,dl,af⟩
   refine ckk hp fun b5 hp=>zq (af.appV (bytes:=24) 6 af.fr rfl (af.sl 11 rfl) rfl rfl (by simp only [List.all_cons,List.all_nil,Bool.and_true]; exact (af.sl 8 rfl:Sl z7 cL U (way1++[(gi n6 i1.toNat).get 1])).oneV) (by rw [(af.allLen 7 rfl:(K).length=(n13).length)]; exact b5) (by decide)) ?_
   rintro bJ dV ⟨dm,cu⟩
   have aY:=cu.absorb 7 8 rfl rfl (by decide)
   refine Zc (zy (r:=b) (o:=0) T rfl) (zq (aY.stb (cs':=[aI,g,j,bJ]) 2 rfl rfl rfl (aY.sl 6 rfl).cells ⟨rfl,Nat.le_of_ble_eq_true rfl,(all_cons (aY.sl 6 rfl).oneV rfl)⟩ rfl) ?_)
   rintro _ dW ⟨rfl,dn,ed,cv⟩
   refine Zj (zV (Zs (zF (Zb _ aC (ckk hp fun b6 hp=>Zc (zn rfl rfl b6) (Zb (.n (i1 + 1)) rfl (Zj ?_)))))))
   cases hp
   exact ⟨rfl,aI,bJ,K++[U],c1,c5,T,rfl,(cv.pk [0,1,2,9,4,5,6,7])⟩
  ·refine ZaZ (zM ?_)
   cases hp
   exact ⟨nofun,rfl,aj,F,K,bw,a8,(A.pk [1,2,3,4,5,6,7])⟩
 rintro ⟨n14,n15⟩ hp _ ev dK ⟨rfl,ak,al,aL,bv,c0,W⟩
 refine Zav (Zs (Zl (Zc (Za7 (W.box 1 rfl) c0 rfl) (zq (W.stb (cs':=[ak,g,j,al]) 0 rfl bv rfl rfl ⟨rfl,Nat.le_of_ble_eq_true rfl,(all_cons (W.sl 2 rfl).oneV (all_cons (W.sl 3 rfl).oneV (all_cons (W.sl 4 rfl).oneV (all_cons (W.sl 5 rfl).oneV all_nil))))⟩ rfl) ?_))))
 rintro _ dX ⟨rfl,dp,d5,bi⟩
 refine Zg (Zak (z6 (ZjN bv (bi.box 0 rfl) rfl ze) ?_))
 cases hp
 exact ⟨ak,g,j,al,aL,rfl,(bi.pk [2,3,4,5,6])⟩

end Mu
