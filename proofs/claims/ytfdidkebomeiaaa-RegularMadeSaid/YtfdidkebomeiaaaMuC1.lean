/- The code comes to what was worked out. -/
import Derived.Test.YtfdidkebomeiaaaMuDf
import Derived.Test.YtfdidkebomeiaaaMuPa
import Derived.Test.YtfdidkebomeiaaaMuC0
set_option linter.unusedVariables false
set_option linter.unnecessarySimpa false
set_option linter.unusedSimpArgs false
set_option maxHeartbeats 2000000
set_option maxRecDepth 10000
namespace Mu
open Go (IntKind BinOp UnOp)
theorem Zab.ok {h:Hp} {s:zY} {v_s_Boxes:V} {v_s_Edges:V} (s_s_Boxes:Sl e_bool h v_s_Boxes s.Boxes) (s_s_Edges:Sl z7 h v_s_Edges s.Edges) {r:Int} (hp:Zab s=some r) :
  ∃ u k',Is G 197 [.ag [v_s_Boxes,v_s_Edges]] h u k'∧V.n r=u∧Own (fun r=>r < h.n) h k' []:=by
 refine WC.is (ZaP ZdM ?_)
 unfold Zab at hp
 let B:Nat→Prop:=(fun r=>r < h.n)
 have hO:Own B h h []:=Own.start0 h
 refine Zk (zw (hO.boxd (cs:=[v_s_Boxes,v_s_Edges]) hO.fr rfl rfl) ?_)
 rintro _ aU ⟨a,rfl,a0,aK,aG⟩
 refine Zb (.n 0) rfl (Ze (Zk (Zb (.n 0) rfl (Ze (ZB ?_)))))
 refine Zk (Zb (.n 0) rfl (Ze (zX (Zb7 hp (fun | (n,i),fr,k=>fr 1=.p a 0∧fr 3=.n n∧fr 4=.n i∧Own B h k [zV a [v_s_Boxes,v_s_Edges]]) (fun n1 e fr k=>e=(.exit 0)∧fr 1=.p a 0∧fr 3=.n n1∧Own B h k [zV a [v_s_Boxes,v_s_Edges]]) ⟨rfl,rfl,rfl,(aG.pk [0])⟩ ?_ ?_))))
 ·rintro ⟨n,i⟩ a5 aV ⟨J,ai,R,v⟩ a2 hp
  dsimp only [Zab.s0] at hp
  refine ZB (Zk (Zb _ R (Zc (zR (r:=a) (o:=0) J rfl) (Zc (zn (v.box 0 rfl) rfl rfl) (Zc (Zak (v.rd0 s_s_Edges.rd) rfl) (Zc (zH rfl rfl) (Zh ?_)))))))
  refine Zo (zC hp rfl (fun aj hp=>?_) (fun aj hp=>?_))
  ·refine Zat (ZB (zX (zD (Zb _ ai (Zc (zR (r:=a) (o:=0) J rfl) (Zc (zn (v.box 0 rfl) rfl rfl) (Zb _ R ?_)))))))
   refine ckk hp fun L hp=>Zc (zi (v.rd0 s_s_Edges.rd) rfl rfl L) (Zc (Zbt (v.rd0 s_s_Edges.rd) (Zg L) rfl rfl) (Zc (zS (v.rd0 s_s_Edges.rd) rfl (Zg L) rfl) (Zc (ZhD rfl) (ckk hp fun ao hp=>Zc (zf rfl rfl ao) (Zb (.n (n + (((gi s.Edges i.toNat).Bends).size:Int))) rfl (Zh ?_))))))
   refine Zaa (Zo (zD (Zb _ R (ckk hp fun ap hp=>Zc (zf rfl rfl ap) (Zb (.n (i + 1)) rfl (Zh ?_))))))
   cases hp
   exact ⟨rfl,J,rfl,rfl,(v.pk [0])⟩
  ·refine Zbo (zK ?_)
   cases hp
   exact ⟨nofun,rfl,J,ai,(v.pk [0])⟩
 rintro n1 hp _ a4 ae ⟨rfl,I,ah,D⟩
 refine Zaw (Zo (ZB (Zk (Zc (zR (r:=a) (o:=0) I rfl) (Zc (zn (D.box 0 rfl) rfl rfl) (Zc (Zak (D.rd0 s_s_Boxes.rd) rfl) (Zc (ZdC rfl rfl) ?_)))))))
 refine Zb (.b (decide (4096 < (s.Boxes.length:Int)))) rfl (Zai 5 (fun f k=>ae=k∧f 33=.b ((decide (4096 < (s.Boxes.length:Int))) || (decide (4096 < (s.Edges.length:Int))))∧f 1=.p a 0∧f 3=.n n1) ?_ ?_)
 ·rcases bc (decide (4096 < (s.Boxes.length:Int))) with j | j
  ·refine Zl rfl j (Zl rfl j (Zl rfl j (Zl rfl j (Zc (Zcs (w:=(decide (4096 < (s.Boxes.length:Int))) || (decide (4096 < (s.Edges.length:Int)))) rfl j rfl) (Zh ?_)))))
   exact ⟨rfl,rfl,I,ah⟩
  ·refine Zu rfl j (Zc (zR (r:=a) (o:=0) I rfl) (Zu rfl j (Zc (zn (D.box 0 rfl) rfl rfl) (Zu rfl j (Zc (Zak (D.rd0 s_s_Edges.rd) rfl) (Zu rfl j (Zc (ZdC rfl rfl) (Zc (Zct rfl j rfl) ?_))))))))
   refine Zh ?_
   exact ⟨rfl,rfl,I,ah⟩
 rintro aN _ ⟨rfl,av,T,au⟩
 refine Zb _ av (Zai 3 (fun f k=>ae=k∧f 37=.b (((decide (4096 < (s.Boxes.length:Int))) || (decide (4096 < (s.Edges.length:Int)))) || (decide (4096 < n1)))∧f 1=.p a 0) ?_ ?_)
 ·rcases bc ((decide (4096 < (s.Boxes.length:Int))) || (decide (4096 < (s.Edges.length:Int)))) with C | C
  ·refine Zl rfl C (Zl rfl C (Zc (Zcs (w:=((decide (4096 < (s.Boxes.length:Int))) || (decide (4096 < (s.Edges.length:Int)))) || (decide (4096 < n1))) rfl C rfl) (Zh ?_)))
   exact ⟨rfl,rfl,T⟩
  ·refine Zu rfl C (Zb _ au (Zu rfl C (Zc (ZdC rfl rfl) (Zc (Zct rfl C rfl) (Zh ?_)))))
   exact ⟨rfl,rfl,T⟩
 rintro aO _ ⟨rfl,ax,aw⟩
 refine Ze (zC hp ax (fun al hp=>?_) (fun al hp=>?_))
 ·refine Zk (Zb (.n 6) rfl (Ze (Zav (zE (z8 (Zag rfl ZQ) ?_)))))
  cases hp
  exact ⟨rfl,(D.pk [])⟩
 ·refine Zat (ZB (Zk (Zb (.n 0) rfl (Ze (zX (Zb7 hp (fun i1 fr k=>fr 1=.p a 0∧fr 5=.n i1∧Own B h k [zV a [v_s_Boxes,v_s_Edges]]) (fun | .inl _,e,fr,k=>e=(.exit 2)∧Own B h k [] | .inr x,e,fr,k=>e=.ret∧fr 2=.n x∧Own B h k []) ⟨aw,rfl,(D.pk [0])⟩ ?_ ?_))))))
  ·rintro i1 a7 aX ⟨E,K,y⟩ a3 hp
   dsimp only [Zab.s1] at hp
   refine ZB (Zk (Zb _ K (Zc (zR (r:=a) (o:=0) E rfl) (Zc (zn (y.box 0 rfl) rfl rfl) (Zc (Zak (y.rd0 s_s_Edges.rd) rfl) (Zc (zH rfl rfl) (Zh ?_)))))))
   refine Zo (zC hp rfl (fun am hp=>?_) (fun am hp=>?_))
   ·refine Zat (ZB (zX (Zk (Zc (zR (r:=a) (o:=0) E rfl) (Zc (zn (y.box 0 rfl) rfl rfl) (Zb _ K ?_))))))
    refine ckk hp fun S hp=>Zc (zi (y.rd0 s_s_Edges.rd) rfl rfl S) (Zc (Zdu (y.rd0 s_s_Edges.rd) rfl (Zg S)) (zw (y.alloc (cs:=z7.c (⟨0,0,0,(⟨#[]⟩:ByteArray)⟩:ZaI)) y.fr) ?_))
    rintro _ aY ⟨m,rfl,a1,aL,aH⟩
    refine zw (aH.stb (cs':=z7.c (gi s.Edges i1.toNat)) 1 rfl rfl rfl rfl ⟨rfl,Nat.le_of_ble_eq_true rfl,rfl⟩ rfl) ?_
    rintro _ H ⟨rfl,aM,aZ,l⟩
    refine Ze (ZB (Zk (Zc (zR (r:=m) (o:=0) rfl rfl) (Zc (zn (l.box 1 rfl) rfl rfl) (Zc (zH rfl rfl) (Zb (.b (decide (((gi s.Edges i1.toNat).From) < 0))) rfl (Zai 7 (fun f k=>H=k∧f 60=.b ((decide (((gi s.Edges i1.toNat).From) < 0)) || (decide ((s.Boxes.length:Int)≤((gi s.Edges i1.toNat).From))))∧f 1=.p a 0∧f 5=.n i1∧f 6=.p m 0) ?_ ?_)))))))
    ·rcases bc (decide (((gi s.Edges i1.toNat).From) < 0)) with d | d
     ·refine Zl rfl d (Zl rfl d (Zl rfl d (Zl rfl d (Zl rfl d (Zl rfl d (Zc (Zcs (w:=(decide (((gi s.Edges i1.toNat).From) < 0)) || (decide ((s.Boxes.length:Int)≤((gi s.Edges i1.toNat).From)))) rfl d rfl) (Zh ?_)))))))
      exact ⟨rfl,rfl,E,K,rfl⟩
     ·refine Zu rfl d (Zc (zR (r:=m) (o:=0) rfl rfl) (Zu rfl d (Zc (zn (l.box 1 rfl) rfl rfl) (Zu rfl d (Zc (zR (r:=a) (o:=0) E rfl) (Zu rfl d (Zc (zn (l.box 0 rfl) rfl rfl) (Zu rfl d ?_))))))))
      refine Zc (Zak (l.rd0 s_s_Boxes.rd) rfl) (Zu rfl d (Zc (ZcZ rfl rfl) (Zc (Zct rfl d rfl) (Zh ?_))))
      exact ⟨rfl,rfl,E,K,rfl⟩
    rintro aP _ ⟨rfl,ay,U,W,M⟩
    refine Zb _ ay (Zai 4 (fun f k=>H=k∧f 65=.b (((decide (((gi s.Edges i1.toNat).From) < 0)) || (decide ((s.Boxes.length:Int)≤((gi s.Edges i1.toNat).From)))) || (decide (((gi s.Edges i1.toNat).To) < 0)))∧f 1=.p a 0∧f 5=.n i1∧f 6=.p m 0) ?_ ?_)
    ·rcases bc ((decide (((gi s.Edges i1.toNat).From) < 0)) || (decide ((s.Boxes.length:Int)≤((gi s.Edges i1.toNat).From)))) with t | t
     ·refine Zl rfl t (Zl rfl t (Zl rfl t (Zc (Zcs (w:=((decide (((gi s.Edges i1.toNat).From) < 0)) || (decide ((s.Boxes.length:Int)≤((gi s.Edges i1.toNat).From)))) || (decide (((gi s.Edges i1.toNat).To) < 0))) rfl t rfl) (Zh ?_))))
      exact ⟨rfl,rfl,U,W,M⟩
     ·refine Zu rfl t (Zc (zR (r:=m) (o:=0) M rfl) (Zu rfl t (Zc (zn (l.box 1 rfl) rfl rfl) (Zu rfl t (Zc (zH rfl rfl) (Zc (Zct rfl t rfl) (Zh ?_)))))))
      exact ⟨rfl,rfl,U,W,M⟩
    rintro aQ _ ⟨rfl,az,N,X,O⟩
    refine Zb _ az (Zai 7 (fun f k=>H=k∧f 73=.b ((((decide (((gi s.Edges i1.toNat).From) < 0)) || (decide ((s.Boxes.length:Int)≤((gi s.Edges i1.toNat).From)))) || (decide (((gi s.Edges i1.toNat).To) < 0))) || (decide ((s.Boxes.length:Int)≤((gi s.Edges i1.toNat).To))))∧f 1=.p a 0∧f 5=.n i1∧f 6=.p m 0) ?_ ?_)
    ·rcases bc (((decide (((gi s.Edges i1.toNat).From) < 0)) || (decide ((s.Boxes.length:Int)≤((gi s.Edges i1.toNat).From)))) || (decide (((gi s.Edges i1.toNat).To) < 0))) with g | g
     ·refine Zl rfl g (Zl rfl g (Zl rfl g (Zl rfl g (Zl rfl g (Zl rfl g (Zc (Zcs (w:=(((decide (((gi s.Edges i1.toNat).From) < 0)) || (decide ((s.Boxes.length:Int)≤((gi s.Edges i1.toNat).From)))) || (decide (((gi s.Edges i1.toNat).To) < 0))) || (decide ((s.Boxes.length:Int)≤((gi s.Edges i1.toNat).To)))) rfl g rfl) (Zh ?_)))))))
      exact ⟨rfl,rfl,N,X,O⟩
     ·refine Zu rfl g (Zc (zR (r:=m) (o:=0) O rfl) (Zu rfl g (Zc (zn (l.box 1 rfl) rfl rfl) (Zu rfl g (Zc (zR (r:=a) (o:=0) N rfl) (Zu rfl g (Zc (zn (l.box 0 rfl) rfl rfl) (Zu rfl g ?_))))))))
      refine Zc (Zak (l.rd0 s_s_Boxes.rd) rfl) (Zu rfl g (Zc (ZcZ rfl rfl) (Zc (Zct rfl g rfl) (Zh ?_))))
      exact ⟨rfl,rfl,N,X,O⟩
    rintro aR _ ⟨rfl,aA,Y,aa,P⟩
    refine Ze (zC hp aA (fun an hp=>?_) (fun an hp=>?_))
    ·refine Zk (Zb (.n 3) rfl (Ze (Zav (zE (Zbw (zE ?_))))))
     cases hp
     exact ⟨nofun,rfl,rfl,(l.pk [])⟩
    ·refine Zat (Zk (Zc (zR (r:=m) (o:=0) P rfl) (Zc (zn (l.box 1 rfl) rfl rfl) ?_)))
     obtain ⟨x1,⟨a8,af,ar,rfl,aI⟩,hp⟩:=bdk hp fun _=>ZaF.ok (h:=H)  
     refine ZaK rfl rfl ar ?_
     have F:=l.call aI rfl
     refine Zb (.b x1) rfl (Ze (Zk (Zc (zR (r:=m) (o:=0) P rfl) (Zc (zn (F.box 1 rfl) rfl rfl) (Zc (zH rfl rfl) (Zb (.b (decide (((gi s.Edges i1.toNat).Dir) < 0))) rfl (Zai 4 (fun f k=>af=k∧f 84=.b ((decide (((gi s.Edges i1.toNat).Dir) < 0)) || (decide (3 < ((gi s.Edges i1.toNat).Dir))))∧f 1=.p a 0∧f 5=.n i1∧f 7=.b x1) ?_ ?_)))))))
     ·rcases bc (decide (((gi s.Edges i1.toNat).Dir) < 0)) with q | q
      ·refine Zl rfl q (Zl rfl q (Zl rfl q (Zc (Zcs (w:=(decide (((gi s.Edges i1.toNat).Dir) < 0)) || (decide (3 < ((gi s.Edges i1.toNat).Dir)))) rfl q rfl) (Zh ?_))))
       exact ⟨rfl,rfl,Y,aa,rfl⟩
      ·refine Zu rfl q (Zc (zR (r:=m) (o:=0) P rfl) (Zu rfl q (Zc (zn (F.box 1 rfl) rfl rfl) (Zu rfl q (Zc (ZdC rfl rfl) (Zc (Zct rfl q rfl) (Zh ?_)))))))
       exact ⟨rfl,rfl,Y,aa,rfl⟩
     rintro aS _ ⟨rfl,aC,ab,ac,aB⟩
     refine Zb _ aC (Zai 3 (fun f k=>af=k∧f 88=.b (((decide (((gi s.Edges i1.toNat).Dir) < 0)) || (decide (3 < ((gi s.Edges i1.toNat).Dir)))) || (!x1))∧f 1=.p a 0∧f 5=.n i1) ?_ ?_)
     ·rcases bc ((decide (((gi s.Edges i1.toNat).Dir) < 0)) || (decide (3 < ((gi s.Edges i1.toNat).Dir)))) with A | A
      ·refine Zl rfl A (Zl rfl A (Zc (Zcs (w:=((decide (((gi s.Edges i1.toNat).Dir) < 0)) || (decide (3 < ((gi s.Edges i1.toNat).Dir)))) || (!x1)) rfl A rfl) (Zh ?_)))
       exact ⟨rfl,rfl,ab,ac⟩
      ·refine Zu rfl A (Zb _ aB (Zu rfl A (Zc (ZcR rfl) (Zc (Zct rfl A rfl) (Zh ?_)))))
       exact ⟨rfl,rfl,ab,ac⟩
     rintro aT _ ⟨rfl,aF,aD,aE⟩
     refine Ze (zC hp aF (fun ak hp=>?_) (fun ak hp=>?_))
     ·refine Zk (Zb (.n 2) rfl (Ze (Zav (Zbw (zE ?_)))))
      cases hp
      exact ⟨nofun,rfl,rfl,(F.pk [])⟩
     ·refine Zc1 (Zaa (Zo (zD (Zb _ aE (ckk hp fun aq hp=>Zc (zf rfl rfl aq) (Zb (.n (i1 + 1)) rfl (Zh ?_)))))))
      cases hp
      exact ⟨rfl,aD,rfl,(F.pk [0])⟩
   ·refine Zbo (zK ?_)
    cases hp
    exact ⟨nofun,rfl,(y.pk [])⟩
  rintro (_ | x) hp _ a6 aW ad
  ·obtain ⟨rfl,Q⟩:=ad
   refine Zaw (Zo (Zk (Zb (.n 0) rfl (Ze (Zav (z8 (Zag rfl ZQ) ?_))))))
   cases hp
   exact ⟨rfl,(Q.pk [])⟩
  ·obtain ⟨rfl,aJ,Q⟩:=ad
   refine Zbw (zE (z8 (Zag aJ ZQ) ?_))
   cases hp
   exact ⟨rfl,(Q.pk [])⟩

theorem ZaX.ok {h:Hp} {e_:ZaI}   {r:Int} (hp:ZaX e_=some r) :
  ∃ u k',Is G 230 [.ag (z7.c e_)] h u k'∧V.n r=u∧Own (fun r=>r < h.n) h k' []:=by
 refine WC.is (ZaP Zem ?_)
 unfold ZaX at hp
 let B:Nat→Prop:=(fun r=>r < h.n)
 have hO:Own B h h []:=Own.start0 h
 refine Zk (zw (hO.boxd (cs:=z7.c e_) hO.fr rfl rfl) ?_)
 rintro _ E ⟨f,rfl,I,D,m⟩
 refine Zb (.n 0) rfl (Ze (Zk (Zc (zR (r:=f) (o:=0) rfl rfl) (Zc (zn (m.box 0 rfl) rfl rfl) (Zb (.n e_.Dir) rfl (Zh ?_))))))
 refine Zo (ZB (Zk (Zb (.n 0) rfl (Ze (zX (Zb7 hp (fun | (d,i),fr,k=>fr 1=.p f 0∧fr 3=.n d∧fr 4=.n i∧Own B h k [zV f (z7.c e_)]) (fun d1 e fr k=>e=(.exit 0)∧fr 3=.n d1∧Own B h k []) ⟨rfl,rfl,rfl,(m.pk [0])⟩ ?_ ?_))))))
 ·rintro ⟨d,i⟩ L H ⟨g,l,j,b⟩ J hp
  dsimp only [ZaX.s0] at hp
  refine ZB (Zk (Zb _ j (Zc (zR (r:=f) (o:=0) g rfl) (Zc (zn (b.box 0 rfl) rfl rfl) (Zc (ZhD rfl) (Zc (zH rfl rfl) (Zh ?_)))))))
  refine Zo (zC hp rfl (fun q hp=>?_) (fun q hp=>?_))
  ·refine Zat (ZB (zX (Zk (Zc (zR (r:=f) (o:=0) g rfl) (Zc (zn (b.box 0 rfl) rfl rfl) (Zb _ j ?_))))))
   refine ckk hp fun t hp=>Zc (Zkz (a:=e_.Bends) (z:=i) rfl rfl t) (Zc (Zb0 rfl rfl) (Ze (zC hp rfl (fun s hp=>?_) (fun s hp=>?_))))
   ·refine zD (Zb _ l (ckk hp fun v hp=>Zc (zf rfl rfl v) (Zc (ZcL rfl rfl (by decide)) (Zb (.n ((d + 1).tmod 4)) rfl (Zh (Zaa (Zo ?_)))))))
    refine zD (Zb _ j (ckk hp fun w hp=>Zc (zf rfl rfl w) (Zb (.n (i + 1)) rfl (Zh ?_))))
    cases hp
    exact ⟨rfl,g,rfl,rfl,(b.pk [0])⟩
   ·refine zD (Zb _ l (ckk hp fun x hp=>Zc (zf rfl rfl x) (Zc (ZcL rfl rfl (by decide)) (Zb (.n ((d + 3).tmod 4)) rfl (Zh (Zaa (Zo ?_)))))))
    refine zD (Zb _ j (ckk hp fun y hp=>Zc (zf rfl rfl y) (Zb (.n (i + 1)) rfl (Zh ?_))))
    cases hp
    exact ⟨rfl,g,rfl,rfl,(b.pk [0])⟩
  ·refine Zbo (zK ?_)
   cases hp
   exact ⟨nofun,rfl,l,(b.pk [])⟩
 rintro d1 hp _ K F ⟨rfl,C,A⟩
 refine Zaw (Zo (Zk (Zb _ C (Zb (.n d1) rfl (Ze (Zav ?_))))))
 refine z8 (Zag rfl ZQ) ?_
 cases hp
 exact ⟨rfl,(A.pk [])⟩

theorem Zcb.ok {h:Hp} {e_:ZaI}   {r:Int} (hp:Zcb e_=some r) :
  ∃ u k',Is G 218 [.ag (z7.c e_)] h u k'∧V.n r=u∧Own (fun r=>r < h.n) h k' []:=by
 refine WC.is (ZaP Zer ?_)
 unfold Zcb at hp
 let B:Nat→Prop:=(fun r=>r < h.n)
 have hO:Own B h h []:=Own.start0 h
 refine Zk (zw (hO.boxd (cs:=z7.c e_) hO.fr rfl rfl) ?_)
 rintro _ g ⟨l,rfl,k,i,a⟩
 refine Zb (.n 0) rfl (Ze (Zk (Zc (Zbu (a.box 0 rfl) rfl rfl) ?_)))
 obtain ⟨x,⟨m,j,d,rfl,f⟩,hp⟩:=bdk hp fun _=>ZaX.ok (h:=g)  
 refine ZaK rfl rfl d ?_
 have e:=a.call f rfl
 refine Zb (.n x) rfl (Ze (Zk (Zb (.n x) rfl (ckk hp fun b hp=>Zc (zf rfl rfl b) (Zc (ZcL rfl rfl (by decide)) ?_)))))
 refine Zb (.n ((x + 2).tmod 4)) rfl (Ze (Zav (z8 (Zag rfl ZQ) ?_)))
 cases hp
 exact ⟨rfl,(e.pk [])⟩

theorem Za1.ok {h:Hp} {s:zY} {v:Int} {d:Int} {v_s_Boxes:V} {v_s_Edges:V} (s_s_Boxes:Sl e_bool h v_s_Boxes s.Boxes) (s_s_Edges:Sl z7 h v_s_Edges s.Edges) {r:(List Int)} (hp:Za1 s v d=some r) :
  ∃ u k',Is G 199 [.ag [v_s_Boxes,v_s_Edges],.n v,.n d] h u k'∧∃ aj,aj=u∧Own (fun r=>r < h.n) h k' [eSl zM aj r]:=by
 refine WC.is (ZaP ZeG ?_)
 unfold Za1 at hp
 let B:Nat→Prop:=(fun r=>r < h.n)
 have hO:Own B h h []:=Own.start0 h
 refine Zk (zw (hO.boxd (cs:=[v_s_Boxes,v_s_Edges]) hO.fr rfl rfl) ?_)
 rintro _ aV ⟨m,rfl,a4,aM,aB⟩
 refine Zb (.sn) rfl (Ze (Zk (Zb (.sn) rfl (Ze (ZB ?_)))))
 refine Zk (Zb (.n 0) rfl (Ze (zX ?_)))
 have aE:=aB.nil zM
 refine Zb7 hp (fun | (l,i),fr,k=>∃ t,fr 1=.n v∧fr 2=.n d∧fr 3=.p m 0∧fr 7=t∧fr 8=.n i∧Own B h k [zV m [v_s_Boxes,v_s_Edges],eSl zM t l]) (fun l1 e fr k=>e=(.exit 0)∧∃ A,fr 7=A∧Own B h k [eSl zM A l1]) ⟨V.sn,rfl,rfl,rfl,rfl,rfl,(aE.pk [0,1])⟩ ?_ ?_
 ·rintro ⟨l,i⟩ a8 aZ ⟨t,M,N,F,O,H,j⟩ a6 hp
  dsimp only [Za1.s0] at hp
  refine ZB (Zk (Zb _ H (Zc (zR (r:=m) (o:=0) F rfl) (Zc (zn (j.box 0 rfl) rfl rfl) (Zc (Zak (j.rd0 s_s_Edges.rd) rfl) (Zc (zH rfl rfl) (Zh ?_)))))))
  refine Zo (zC hp rfl (fun am hp=>?_) (fun am hp=>?_))
  ·refine Zat (ZB (zX (Zk (Zc (zR (r:=m) (o:=0) F rfl) (Zc (zn (j.box 0 rfl) rfl rfl) (Zb _ H ?_))))))
   refine ckk hp fun R hp=>Zc (zi (j.rd0 s_s_Edges.rd) rfl rfl R) (Zc (Zdu (j.rd0 s_s_Edges.rd) rfl (Zg R)) (zw (j.alloc (cs:=z7.c (⟨0,0,0,(⟨#[]⟩:ByteArray)⟩:ZaI)) j.fr) ?_))
   rintro _ a0 ⟨q,rfl,a5,aN,aF⟩
   refine zw (aF.stb (cs':=z7.c (gi s.Edges i.toNat)) 2 rfl rfl rfl rfl ⟨rfl,Nat.le_of_ble_eq_true rfl,rfl⟩ rfl) ?_
   rintro _ aI ⟨rfl,aO,a3,y⟩
   refine Ze (ZB (Zk (Zc (zR (r:=q) (o:=0) rfl rfl) (Zc (zn (y.box 2 rfl) rfl rfl) (Zb _ M (Zc (Zb0 rfl rfl) ?_))))))
   refine Zb (.b (decide ((gi s.Edges i.toNat).From=v))) rfl (Zai 5 (fun f k=>aI=k∧f 32=.b ((decide ((gi s.Edges i.toNat).From=v)) && (decide ((gi s.Edges i.toNat).Dir=d)))∧f 1=.n v∧f 2=.n d∧f 3=.p m 0∧f 7=t∧f 8=.n i∧f 9=.p q 0) ?_ ?_)
   ·rcases bc (decide ((gi s.Edges i.toNat).From=v)) with a | a
    ·refine Zu rfl a (Zc (zR (r:=q) (o:=0) rfl rfl) (Zu rfl a (Zc (zn (y.box 2 rfl) rfl rfl) (Zu rfl a (Zb _ N (Zu rfl a (Zc (Zb0 rfl rfl) (Zc (ZcY rfl a rfl) ?_))))))))
     refine Zh ?_
     exact ⟨rfl,rfl,M,N,F,O,H,rfl⟩
    ·refine Zl rfl a (Zl rfl a (Zl rfl a (Zl rfl a (Zc (ZcX (w:=(decide ((gi s.Edges i.toNat).From=v)) && (decide ((gi s.Edges i.toNat).Dir=d))) rfl a rfl) (Zh ?_)))))
     exact ⟨rfl,rfl,M,N,F,O,H,rfl⟩
   rintro aT _ ⟨rfl,az,S,T,U,W,I,X⟩
   refine Ze (Zg4 hp (fun l2 e fr k=>e=.normal∧∃ C,fr 1=.n v∧fr 2=.n d∧fr 3=.p m 0∧fr 7=C∧fr 8=.n i∧fr 9=.p q 0∧Own B h k [zV m [v_s_Boxes,v_s_Edges],eSl zM C l2,zV q (z7.c (gi s.Edges i.toNat))]) (fun _ hp=>?_) ?_)
   ·refine zC hp az (fun an hp=>?_) (fun an hp=>?_)
    ·refine zD (Zb _ W (Zb _ I (ckk hp fun ap hp=>Zc (Zhk rfl rfl ap) (zw (y.bsl (E:=zM) (l:=[2 * i]) y.fr (by rw [(zo (v:=.n (2 * i)) rfl ZaH)]; rfl) rfl) ?_))))
     rintro be a1 ⟨ba,aP,L⟩
     refine ckk hp fun aq hp=>zw (L.app (bytes:=8) 1 L.fr rfl (L.sl 3 rfl) rfl rfl (fun _=>rfl) aq (by decide)) ?_
     rintro ak a2 ⟨aQ,aG⟩
     refine Zb ak rfl (Zh ?_)
     cases hp
     exact ⟨rfl,ak,S,T,U,rfl,I,X,(aG.pk [0,1,2])⟩
    ·refine Zc1 ?_
     cases hp
     exact ⟨rfl,t,S,T,U,W,I,X,(y.pk [0,1,2])⟩
   rintro l2 hp _ a9 aJ ⟨rfl,C,P,Q,ae,af,ah,ai,ad⟩
   refine Zo (Zk (Zc (Zbu (ad.box 2 rfl) ai rfl) ?_))
   obtain ⟨x,⟨bd,aK,ay,rfl,aH⟩,hp⟩:=bdk hp fun _=>Zcb.ok (h:=aJ)  
   refine ZaK rfl rfl ay ?_
   have D:=ad.call aH rfl
   refine Zb (.n x) rfl (Ze (Zk (Zc (zR (r:=q) (o:=0) ai rfl) (Zc (zn (D.box 2 rfl) rfl rfl) (Zb _ P (Zc (Zb0 rfl rfl) ?_))))))
   refine Zb (.b (decide ((gi s.Edges i.toNat).To=v))) rfl (Zai 4 (fun f k=>aK=k∧f 48=.b ((decide ((gi s.Edges i.toNat).To=v)) && (decide (x=d)))∧f 1=.n v∧f 2=.n d∧f 3=.p m 0∧f 7=C∧f 8=.n i) ?_ ?_)
   ·rcases bc (decide ((gi s.Edges i.toNat).To=v)) with g | g
    ·refine Zu rfl g (Zb (.n x) rfl (Zu rfl g (Zb _ Q (Zu rfl g (Zc (Zb0 rfl rfl) (Zc (ZcY rfl g rfl) (Zh ?_)))))))
     exact ⟨rfl,rfl,P,Q,ae,af,ah⟩
    ·refine Zl rfl g (Zl rfl g (Zl rfl g (Zc (ZcX (w:=(decide ((gi s.Edges i.toNat).To=v)) && (decide (x=d))) rfl g rfl) (Zh ?_))))
     exact ⟨rfl,rfl,P,Q,ae,af,ah⟩
   rintro aU _ ⟨rfl,aA,Y,aa,ab,ac,J⟩
   refine Ze (zC hp aA (fun ao hp=>?_) (fun ao hp=>?_))
   ·refine zD (Zb _ ac (Zb _ J (ckk hp fun ar hp=>Zc (Zhk rfl rfl ar) (ckk hp fun au hp=>Zc (zf rfl rfl au) (zw (D.bsl (E:=zM) (l:=[(2 * i) + 1]) D.fr (by rw [(zo (v:=.n ((2 * i) + 1)) rfl ZaH)]; rfl) rfl) ?_)))))
    rintro bf aW ⟨bb,aR,K⟩
    refine ckk hp fun av hp=>zw (K.app (bytes:=8) 1 K.fr rfl (K.sl 3 rfl) rfl rfl (fun _=>rfl) av (by decide)) ?_
    rintro al aX ⟨aS,aC⟩
    refine Zb al rfl (Zh (Zaa (Zo (zD (Zb _ J (ckk hp fun aw hp=>Zc (zf rfl rfl aw) (Zb (.n (i + 1)) rfl ?_)))))))
    refine Zh ?_
    cases hp
    exact ⟨rfl,al,Y,aa,ab,rfl,rfl,(aC.pk [0,1])⟩
   ·refine Zc1 (Zaa (Zo (zD (Zb _ J (ckk hp fun ax hp=>Zc (zf rfl rfl ax) (Zb (.n (i + 1)) rfl (Zh ?_)))))))
    cases hp
    exact ⟨rfl,C,Y,aa,ab,ac,rfl,(D.pk [0,1])⟩
  ·refine Zbo (zK ?_)
   cases hp
   exact ⟨nofun,rfl,t,O,(j.pk [1])⟩
 rintro l1 hp _ a7 aY ⟨rfl,A,aL,aD⟩
 refine Zaw (Zo (Zk (Zb _ aL (Zb A rfl (Ze (Zav ?_))))))
 refine z8 (Zag rfl ZQ) ?_
 cases hp
 exact ⟨A,rfl,(aD.pk [0])⟩

theorem z9.ok {h:Hp} {s:zY} {v_s_Boxes:V} {v_s_Edges:V} (s_s_Boxes:Sl e_bool h v_s_Boxes s.Boxes) (s_s_Edges:Sl z7 h v_s_Edges s.Edges) {r:Int} (hp:z9 s=some r) :
  ∃ u k',Is G 198 [.ag [v_s_Boxes,v_s_Edges]] h u k'∧V.n r=u∧Own (fun r=>r < h.n) h k' []:=by
 refine WC.is (ZaP ZdP ?_)
 unfold z9 at hp
 let B:Nat→Prop:=(fun r=>r < h.n)
 have hO:Own B h h []:=Own.start0 h
 refine Zk (zw (hO.boxd (cs:=[v_s_Boxes,v_s_Edges]) hO.fr rfl rfl) ?_)
 rintro _ az ⟨a,rfl,aG,ax,an⟩
 refine Zb (.n 0) rfl (Ze (Zk (Zb (.n 0) rfl (Ze (ZB ?_)))))
 refine Zk (Zb (.n 0) rfl (Ze (zX (Zb7 hp (fun | (n,v),fr,k=>fr 1=.p a 0∧fr 3=.n n∧fr 4=.n v∧Own B h k [zV a [v_s_Boxes,v_s_Edges]]) (fun n1 e fr k=>e=(.exit 0)∧fr 1=.p a 0∧fr 3=.n n1∧Own B h k [zV a [v_s_Boxes,v_s_Edges]]) ⟨rfl,rfl,rfl,(an.pk [0])⟩ ?_ ?_))))
 ·rintro ⟨n,v⟩ aL aB ⟨A,Q,R,m⟩ aH hp
  dsimp only [z9.s0] at hp
  refine ZB (Zk (Zb _ R (Zc (zR (r:=a) (o:=0) A rfl) (Zc (zn (m.box 0 rfl) rfl rfl) (Zc (Zak (m.rd0 s_s_Boxes.rd) rfl) (Zc (zH rfl rfl) (Zh ?_)))))))
  refine Zo (zC hp rfl (fun X hp=>?_) (fun X hp=>?_))
  ·refine Zat (ZB (zX (Zk (Zb _ Q (ckk hp fun ac hp=>Zc (zf rfl rfl ac) ?_)))))
   refine Zb (.n (n + 1)) rfl (Ze (ZB (Zk (Zb (.n 0) rfl (Ze ?_)))))
   refine zX (Zb7 hp (fun | (n2,d),fr,k=>fr 1=.p a 0∧fr 3=.n n2∧fr 4=.n v∧fr 5=.n d∧Own B h k [zV a [v_s_Boxes,v_s_Edges]]) (fun n3 e fr k=>e=(.exit 2)∧fr 1=.p a 0∧fr 3=.n n3∧fr 4=.n v∧Own B h k [zV a [v_s_Boxes,v_s_Edges]]) ⟨A,rfl,R,rfl,(m.pk [0])⟩ ?_ ?_)
   ·rintro ⟨n2,d⟩ aN P ⟨E,T,F,H,g⟩ aI hp
    dsimp only [z9.s1] at hp
    refine ZB (Zk (Zb _ H (Zc (zH rfl rfl) (Zb (.b (decide (d < 4))) rfl ?_))))
    obtain ⟨t,ar,hp⟩:=ZaZ hp
    refine Zai 6 (fun f k=>P=k∧f 25=.b t∧f 1=.p a 0∧f 3=.n n2∧f 4=.n v∧f 5=.n d) ?_ ?_
    ·clear hp; rcases Zbn ar with ⟨c,hp⟩ | ⟨c,hp⟩
     ·refine Zu rfl c (Zc (zR (r:=a) (o:=0) E rfl) (Zu rfl c (Zc (zn (g.box 0 rfl) rfl rfl) (Zu rfl c (Zb _ F (Zu rfl c (ckk hp fun K hp=>Zc (zi (g.rd0 s_s_Boxes.rd) rfl rfl K) ?_)))))))
      refine Zu rfl c (Zc (zS (g.rd0 s_s_Boxes.rd) rfl (Zg K) rfl) (Zc (ZaS (v:=.b t) rfl c (Eq.trans (b:=V.b (gi s.Boxes v.toNat)) rfl (congrArg V.b (Option.some.inj hp)))) (Zh ?_)))
      exact ⟨rfl,rfl,E,T,F,H⟩
     ·refine Zl rfl c (Zl rfl c (Zl rfl c (Zl rfl c (Zl rfl c (Zc (ZaL (v:=.b t) rfl c (Eq.trans (b:=V.b false) rfl (congrArg V.b (Option.some.inj hp)))) (Zh ?_))))))
      exact ⟨rfl,rfl,E,T,F,H⟩
    rintro ay _ ⟨rfl,am,w,M,y,N⟩
    refine Ze (zC hp am (fun Y hp=>?_) (fun Y hp=>?_))
    ·refine Zat (ZB (zX (Zk (Zc (Zbu (g.box 0 rfl) w rfl) (Zb _ y (Zb _ N ?_))))))
     obtain ⟨x,⟨aQ,aD,al,W,rfl,aq⟩,hp⟩:=bdk hp fun _=>Za1.ok (h:=P)  (g.rd0 s_s_Boxes.rd) (g.rd0 s_s_Edges.rd)
     refine ZaK rfl rfl al ?_
     have O:=g.call aq rfl
     refine Zb W rfl (Ze (zD (Zb _ M (Zb W rfl (Zc (Zak (O.sl 1 rfl) rfl) (ckk hp fun af hp=>Zc (zf rfl rfl af) ?_))))))
     refine Zb (.n (n2 + (x.length:Int))) rfl (Zh (Zaa (Zo (zD (Zb _ N (ckk hp fun ah hp=>Zc (zf rfl rfl ah) (Zb (.n (d + 1)) rfl ?_)))))))
     refine Zh ?_
     cases hp
     exact ⟨rfl,w,rfl,y,rfl,(O.pk [0])⟩
    ·refine Zbo (zK ?_)
     cases hp
     exact ⟨nofun,rfl,w,M,y,(g.pk [0])⟩
   rintro n3 hp _ aM aC ⟨rfl,C,S,D,l⟩
   refine Zaw (Zo (Zk (Zc (zR (r:=a) (o:=0) C rfl) (Zc (zn (l.box 0 rfl) rfl rfl) (Zb _ D (ckk hp fun L hp=>Zc (zi (l.rd0 s_s_Boxes.rd) rfl rfl L) ?_))))))
   refine Zc (zS (l.rd0 s_s_Boxes.rd) rfl (Zg L) rfl) (Ze (zC hp rfl (fun aa hp=>?_) (fun aa hp=>?_)))
   ·refine zD (Zb _ S (ckk hp fun ai hp=>Zc (zf rfl rfl ai) (Zb (.n (n3 + 3)) rfl (Zh (Zaa (Zo (zD ?_)))))))
    refine Zb _ D (ckk hp fun aj hp=>Zc (zf rfl rfl aj) (Zb (.n (v + 1)) rfl (Zh ?_)))
    cases hp
    exact ⟨rfl,C,rfl,rfl,(l.pk [0])⟩
   ·refine Zc1 (Zaa (Zo (zD (Zb _ D (ckk hp fun ak hp=>Zc (zf rfl rfl ak) (Zb (.n (v + 1)) rfl (Zh ?_)))))))
    cases hp
    exact ⟨rfl,C,S,rfl,(l.pk [0])⟩
  ·refine Zbo (zK ?_)
   cases hp
   exact ⟨nofun,rfl,A,Q,(m.pk [0])⟩
 rintro n1 hp _ aK aA ⟨rfl,au,av,ao⟩
 refine Zaw (Zo (ZB (Zk (Zb (.n 0) rfl (Ze (zX (Zb7 hp (fun | (n4,i),fr,k=>fr 1=.p a 0∧fr 3=.n n4∧fr 7=.n i∧Own B h k [zV a [v_s_Boxes,v_s_Edges]]) (fun n5 e fr k=>e=(.exit 4)∧fr 3=.n n5∧Own B h k []) ⟨au,av,rfl,(ao.pk [0])⟩ ?_ ?_)))))))
 ·rintro ⟨n4,i⟩ aP aF ⟨I,U,J,j⟩ aJ hp
  dsimp only [z9.s2] at hp
  refine ZB (Zk (Zb _ J (Zc (zR (r:=a) (o:=0) I rfl) (Zc (zn (j.box 0 rfl) rfl rfl) (Zc (Zak (j.rd0 s_s_Edges.rd) rfl) (Zc (zH rfl rfl) (Zh ?_)))))))
  refine Zo (zC hp rfl (fun ab hp=>?_) (fun ab hp=>?_))
  ·refine Zat (ZB (zX (zD (Zb _ U (Zc (zR (r:=a) (o:=0) I rfl) (Zc (zn (j.box 0 rfl) rfl rfl) (Zb _ J ?_)))))))
   refine ckk hp fun q hp=>Zc (zi (j.rd0 s_s_Edges.rd) rfl rfl q) (Zc (Zbt (j.rd0 s_s_Edges.rd) (Zg q) rfl rfl) (Zc (zS (j.rd0 s_s_Edges.rd) rfl (Zg q) rfl) (Zc (ZhD rfl) (ckk hp fun ad hp=>Zc (zf rfl rfl ad) (Zb (.n (n4 + (((gi s.Edges i.toNat).Bends).size:Int))) rfl (Zh ?_))))))
   refine Zaa (Zo (zD (Zb _ J (ckk hp fun ae hp=>Zc (zf rfl rfl ae) (Zb (.n (i + 1)) rfl (Zh ?_))))))
   cases hp
   exact ⟨rfl,I,rfl,rfl,(j.pk [0])⟩
  ·refine Zbo (zK ?_)
   cases hp
   exact ⟨nofun,rfl,U,(j.pk [])⟩
 rintro n5 hp _ aO aE ⟨rfl,aw,ap⟩
 refine Zaw (Zo (Zk (Zb _ aw (Zb (.n n5) rfl (Ze (Zav ?_))))))
 refine z8 (Zag rfl ZQ) ?_
 cases hp
 exact ⟨rfl,(ap.pk [])⟩

theorem zu.ok {h:Hp} {s:zY} {v_s_Boxes:V} {v_s_Edges:V} (s_s_Boxes:Sl e_bool h v_s_Boxes s.Boxes) (s_s_Edges:Sl z7 h v_s_Edges s.Edges) {r:Int} (hp:zu s=some r) :
  ∃ u k',Is G 174 [.ag [v_s_Boxes,v_s_Edges]] h u k'∧V.n r=u∧Own (fun r=>r < h.n) h k' []:=by
 refine WC.is (ZaP ZdQ ?_)
 unfold zu at hp
 let B:Nat→Prop:=(fun r=>r < h.n)
 have hO:Own B h h []:=Own.start0 h
 refine Zk (zw (hO.boxd (cs:=[v_s_Boxes,v_s_Edges]) hO.fr rfl rfl) ?_)
 rintro _ aK ⟨a,rfl,a7,aS,D⟩
 refine Zb (.n 0) rfl (Ze (Zk (Zc (Zbu (D.box 0 rfl) rfl rfl) ?_)))
 obtain ⟨x,⟨bj,aL,av,rfl,aF⟩,hp⟩:=bdk hp fun _=>Zab.ok (h:=aK)  (D.rd0 s_s_Boxes.rd) (D.rd0 s_s_Edges.rd)
 refine ZaK rfl rfl av ?_
 have A:=D.call aF rfl
 refine Zb (.n x) rfl (Ze (ZB (Zk (Zb (.n x) rfl (Zc (Zc2 rfl rfl) (Zh ?_))))))
 refine Zo (zC hp rfl (fun aj hp=>?_) (fun aj hp=>?_))
 ·refine Zk (Zb (.n x) rfl (Zb (.n x) rfl (Ze (Zav (zE (z8 (Zag rfl ZQ) ?_))))))
  cases hp
  exact ⟨rfl,(A.pk [])⟩
 ·refine Zat (Zk (Zc (Zbu (A.box 0 rfl) rfl rfl) ?_))
  obtain ⟨x1,⟨bk,a0,aw,rfl,aG⟩,hp⟩:=bdk hp fun _=>z9.ok (h:=aL)  (A.rd0 s_s_Boxes.rd) (A.rd0 s_s_Edges.rd)
  refine ZaK rfl rfl aw ?_
  have ad:=A.call aG rfl
  refine Zb (.n x1) rfl (Ze (ZB (Zk (Zb (.n x1) rfl (Zc (ZdC rfl rfl) (Zh ?_))))))
  refine Zo (zC hp rfl (fun al hp=>?_) (fun al hp=>?_))
  ·refine Zk (Zb (.n 6) rfl (Ze (Zav (zE (z8 (Zag rfl ZQ) ?_)))))
   cases hp
   exact ⟨rfl,(ad.pk [])⟩
  ·refine Zat (ZB (Zk (Zb (.n 0) rfl (Ze (zX (Zb7 hp (fun v fr k=>fr 1=.p a 0∧fr 5=.n v∧Own B h k [zV a [v_s_Boxes,v_s_Edges]]) (fun | .inl _,e,fr,k=>e=(.exit 0)∧fr 1=.p a 0∧Own B h k [zV a [v_s_Boxes,v_s_Edges]] | .inr _,e,fr,k=>e=.ret∧fr 2=.n 8∧Own B h k []) ⟨rfl,rfl,(ad.pk [0])⟩ ?_ ?_))))))
   ·rintro v be a2 ⟨P,ah,E⟩ a9 hp
    dsimp only [zu.s0] at hp
    refine ZB (Zk (Zb _ ah (Zc (zR (r:=a) (o:=0) P rfl) (Zc (zn (E.box 0 rfl) rfl rfl) (Zc (Zak (E.rd0 s_s_Boxes.rd) rfl) (Zc (zH rfl rfl) (Zh ?_)))))))
    refine Zo (zC hp rfl (fun am hp=>?_) (fun am hp=>?_))
    ·refine Zat (ZB (zX (Zk (Zb (.n 0) rfl (Ze ?_)))))
     refine zX (Zb7 hp (fun d fr k=>fr 1=.p a 0∧fr 5=.n v∧fr 6=.n d∧Own B h k [zV a [v_s_Boxes,v_s_Edges]]) (fun | .inl _,e,fr,k=>e=(.exit 2)∧fr 1=.p a 0∧fr 5=.n v∧Own B h k [zV a [v_s_Boxes,v_s_Edges]] | .inr _,e,fr,k=>e=.ret∧fr 2=.n 8∧Own B h k []) ⟨P,ah,rfl,(E.pk [0])⟩ ?_ ?_)
     ·rintro d bg af ⟨Q,R,S,y⟩ ba hp
      dsimp only [zu.s1] at hp
      refine ZB (Zk (Zb _ S (Zc (zH rfl rfl) (Zb (.b (decide (d < 4))) rfl ?_))))
      obtain ⟨t,aI,hp⟩:=ZaZ hp
      refine Zai 7 (fun f k=>af=k∧f 35=.b t∧f 1=.p a 0∧f 5=.n v∧f 6=.n d) ?_ ?_
      ·clear hp; rcases Zbn aI with ⟨j,hp⟩ | ⟨j,hp⟩
       ·refine Zu rfl j (Zc (zR (r:=a) (o:=0) Q rfl) (Zu rfl j (Zc (zn (y.box 0 rfl) rfl rfl) (Zu rfl j (Zb _ R (Zu rfl j (ckk hp fun T hp=>Zc (zi (y.rd0 s_s_Boxes.rd) rfl rfl T) ?_)))))))
        refine Zu rfl j (Zc (zS (y.rd0 s_s_Boxes.rd) rfl (Zg T) rfl) (Zu rfl j (Zc (ZcR rfl) (Zc (ZaS (v:=.b t) rfl j (Eq.trans (b:=V.b (!(gi s.Boxes v.toNat))) rfl (congrArg V.b (Option.some.inj hp)))) (Zh ?_)))))
        exact ⟨rfl,rfl,Q,R,S⟩
       ·refine Zl rfl j (Zl rfl j (Zl rfl j (Zl rfl j (Zl rfl j (Zl rfl j (Zc (ZaL (v:=.b t) rfl j (Eq.trans (b:=V.b false) rfl (congrArg V.b (Option.some.inj hp)))) (Zh ?_)))))))
        exact ⟨rfl,rfl,Q,R,S⟩
      rintro aV _ ⟨rfl,ay,I,J,X⟩
      refine Ze (zC hp ay (fun an hp=>?_) (fun an hp=>?_))
      ·refine Zat (ZB (zX (Zk (Zc (Zbu (y.box 0 rfl) I rfl) (Zb _ J (Zb _ X ?_))))))
       obtain ⟨x2,⟨bl,a4,ax,ai,rfl,aH⟩,hp⟩:=bdk hp fun _=>Za1.ok (h:=af)  (y.rd0 s_s_Boxes.rd) (y.rd0 s_s_Edges.rd)
       refine ZaK rfl rfl ax ?_
       have N:=y.call aH rfl
       refine Zb ai rfl (Ze (Zk (Zb ai rfl (Zc (Zak (N.sl 1 rfl) rfl) (Zc (ZdC rfl rfl) (Zh ?_))))))
       refine Zo (zC hp rfl (fun ao hp=>?_) (fun ao hp=>?_))
       ·refine Zk (Zb (.n 8) rfl (Ze (Zav (Zbw (zE ?_)))))
        cases hp
        exact ⟨nofun,rfl,rfl,(N.pk [])⟩
       ·refine Zc1 (Zaa (Zo (zD (Zb _ X (ckk hp fun aq hp=>Zc (zf rfl rfl aq) (Zb (.n (d + 1)) rfl (Zh ?_)))))))
        cases hp
        exact ⟨rfl,I,J,rfl,(N.pk [0])⟩
      ·refine Zbo (zK ?_)
       cases hp
       exact ⟨nofun,rfl,I,J,(y.pk [0])⟩
     rintro (_ | _) hp _ bf a3 ab
     ·obtain ⟨rfl,aO,aQ,M⟩:=ab
      refine Zaw (Zaa (Zo (zD (Zb _ aQ (ckk hp fun ar hp=>Zc (zf rfl rfl ar) (Zb (.n (v + 1)) rfl (Zh ?_)))))))
      cases hp
      exact ⟨rfl,aO,rfl,(M.pk [0])⟩
     ·obtain ⟨rfl,aP,M⟩:=ab
      refine Zbw (Zbw (zE ?_))
      cases hp
      exact ⟨nofun,rfl,aP,(M.pk [])⟩
    ·refine Zbo (zK ?_)
     cases hp
     exact ⟨nofun,rfl,P,(E.pk [0])⟩
   rintro (_ | _) hp _ bd a1 aa
   ·obtain ⟨rfl,aM,L⟩:=aa
    refine Zaw (Zo (ZB (Zk (Zb (.n 0) rfl (Ze (zX (Zb7 hp (fun i fr k=>fr 1=.p a 0∧fr 8=.n i∧Own B h k [zV a [v_s_Boxes,v_s_Edges]]) (fun | .inl _,e,fr,k=>e=(.exit 4)∧Own B h k [] | .inr _,e,fr,k=>e=.ret∧fr 2=.n 10∧Own B h k []) ⟨aM,rfl,(L.pk [0])⟩ ?_ ?_)))))))
    ·rintro i bi aY ⟨F,H,q⟩ bb hp
     dsimp only [zu.s2] at hp
     refine ZB (Zk (Zb _ H (Zc (zR (r:=a) (o:=0) F rfl) (Zc (zn (q.box 0 rfl) rfl rfl) (Zc (Zak (q.rd0 s_s_Edges.rd) rfl) (Zc (zH rfl rfl) (Zh ?_)))))))
     refine Zo (zC hp rfl (fun ap hp=>?_) (fun ap hp=>?_))
     ·refine Zat (ZB (zX (Zk (Zc (zR (r:=a) (o:=0) F rfl) (Zc (zn (q.box 0 rfl) rfl rfl) (Zb _ H ?_))))))
      refine ckk hp fun U hp=>Zc (zi (q.rd0 s_s_Edges.rd) rfl rfl U) (Zc (Zdu (q.rd0 s_s_Edges.rd) rfl (Zg U)) (zw (q.alloc (cs:=z7.c (⟨0,0,0,(⟨#[]⟩:ByteArray)⟩:ZaI)) q.fr) ?_))
      rintro _ aZ ⟨C,rfl,a8,aT,aE⟩
      refine zw (aE.stb (cs':=z7.c (gi s.Edges i.toNat)) 1 rfl rfl rfl rfl ⟨rfl,Nat.le_of_ble_eq_true rfl,rfl⟩ rfl) ?_
      rintro _ ae ⟨rfl,aU,a6,m⟩
      refine Ze (Zk (Zc (zR (r:=C) (o:=0) rfl rfl) (Zc (zn (m.box 1 rfl) rfl rfl) (Zc (zR (r:=C) (o:=0) rfl rfl) (Zc (zn (m.box 1 rfl) rfl rfl) (Zc (Zb0 rfl rfl) ?_))))))
      refine Zb (.b (decide ((gi s.Edges i.toNat).From=(gi s.Edges i.toNat).To))) rfl (Zai 4 (fun f k=>ae=k∧f 66=.b ((decide ((gi s.Edges i.toNat).From=(gi s.Edges i.toNat).To)) && (((gi s.Edges i.toNat).Bends).toList == (⟨#[]⟩:ByteArray).toList))∧f 1=.p a 0∧f 8=.n i∧f 9=.p C 0) ?_ ?_)
      ·rcases bc (decide ((gi s.Edges i.toNat).From=(gi s.Edges i.toNat).To)) with l | l
       ·refine Zu rfl l (Zc (zR (r:=C) (o:=0) rfl rfl) (Zu rfl l (Zc (zn (m.box 1 rfl) rfl rfl) (Zu rfl l (Zc (Zpz rfl rfl) (Zc (ZcY rfl l rfl) (Zh ?_)))))))
        exact ⟨rfl,rfl,F,H,rfl⟩
       ·refine Zl rfl l (Zl rfl l (Zl rfl l (Zc (ZcX (w:=(decide ((gi s.Edges i.toNat).From=(gi s.Edges i.toNat).To)) && (((gi s.Edges i.toNat).Bends).toList == (⟨#[]⟩:ByteArray).toList)) rfl l rfl) (Zh ?_))))
        exact ⟨rfl,rfl,F,H,rfl⟩
      rintro aW _ ⟨rfl,az,K,Y,aA⟩
      refine Zb _ az ?_
      obtain ⟨t1,aJ,hp⟩:=ZaZ hp
      refine Zai 8 (fun f k=>ae=k∧f 75=.b t1∧f 1=.p a 0∧f 8=.n i) ?_ ?_
      ·clear hp; rcases Zbn aJ with ⟨g,hp⟩ | ⟨g,hp⟩
       ·refine Zu rfl g (Zc (zR (r:=a) (o:=0) K rfl) (Zu rfl g (Zc (zn (m.box 0 rfl) rfl rfl) (Zu rfl g (Zc (zR (r:=C) (o:=0) aA rfl) (Zu rfl g (Zc (zn (m.box 1 rfl) rfl rfl) (Zu rfl g ?_))))))))
        refine ckk hp fun W hp=>Zc (zi (m.rd0 s_s_Boxes.rd) rfl rfl W) (Zu rfl g (Zc (zS (m.rd0 s_s_Boxes.rd) rfl (Zg W) rfl) (Zu rfl g (Zc (ZcR rfl) (Zc (ZaS (v:=.b t1) rfl g (Eq.trans (b:=V.b (!(gi s.Boxes ((gi s.Edges i.toNat).From:Int).toNat))) rfl (congrArg V.b (Option.some.inj hp)))) (Zh ?_))))))
        exact ⟨rfl,rfl,K,Y⟩
       ·refine Zl rfl g (Zl rfl g (Zl rfl g (Zl rfl g (Zl rfl g (Zl rfl g (Zl rfl g (Zc (ZaL (v:=.b t1) rfl g (Eq.trans (b:=V.b false) rfl (congrArg V.b (Option.some.inj hp)))) (Zh ?_))))))))
        exact ⟨rfl,rfl,K,Y⟩
      rintro aX _ ⟨rfl,aC,aB,aD⟩
      refine Ze (zC hp aC (fun ak hp=>?_) (fun ak hp=>?_))
      ·refine Zk (Zb (.n 10) rfl (Ze (Zav (Zbw (zE ?_)))))
       cases hp
       exact ⟨nofun,rfl,rfl,(m.pk [])⟩
      ·refine Zc1 (Zaa (Zo (zD (Zb _ aD (ckk hp fun au hp=>Zc (zf rfl rfl au) (Zb (.n (i + 1)) rfl (Zh ?_)))))))
       cases hp
       exact ⟨rfl,aB,rfl,(m.pk [0])⟩
     ·refine Zbo (zK ?_)
      cases hp
      exact ⟨nofun,rfl,(q.pk [])⟩
    rintro (_ | _) hp _ bh a5 ac
    ·obtain ⟨rfl,O⟩:=ac
     refine Zaw (Zo (Zk (Zb (.n 0) rfl (Ze (Zav (z8 (Zag rfl ZQ) ?_))))))
     cases hp
     exact ⟨rfl,(O.pk [])⟩
    ·obtain ⟨rfl,aR,O⟩:=ac
     refine Zbw (zE (z8 (Zag aR ZQ) ?_))
     cases hp
     exact ⟨rfl,(O.pk [])⟩
   ·obtain ⟨rfl,aN,L⟩:=aa
    refine Zbw (zE (z8 (Zag aN ZQ) ?_))
    cases hp
    exact ⟨rfl,(L.pk [])⟩

theorem Zap.ok {h:Hp} {l:List Za} {v:Int} {d:Int} {w:Int} {o:Int} {v_l:V} (H:Own (Bm h [eSl Zd v_l l]) h h [eSl Zd v_l l]) {r:(List Za) × Int} (hp:Zap l v d w o=some r) :
  ∃ u k',Is G 53 [v_l,.n v,.n d,.n w,.n o] h u k'∧∃ ar,V.tu [ar,.n r.2]=u∧Own (Bm h [eSl Zd v_l l]) h k' [eSl Zd ar r.1]:=by
 refine WC.is (ZaP Zen ?_)
 unfold Zap at hp
 let B:Nat→Prop:=(Bm h [eSl Zd v_l l])
 have hO:Own B h h [eSl Zd v_l l]:=H
 refine Zk (Zb (.sn) rfl (Zb (.n 0) rfl (Ze (ZB (Zk ?_)))))
 refine Zb (.n v) rfl (Zc (zH rfl rfl) (Zb (.b (decide (v < 0))) rfl (Zai 5 (fun f k=>h=k∧f 20=.b ((decide (v < 0)) || (decide ((l.length:Int)≤v)))∧f 0=v_l∧f 1=.n v∧f 2=.n d∧f 3=.n w∧f 4=.n o) ?_ ?_)))
 ·rcases bc (decide (v < 0)) with c | c
  ·refine Zl rfl c (Zl rfl c (Zl rfl c (Zl rfl c (Zc (Zcs (w:=(decide (v < 0)) || (decide ((l.length:Int)≤v))) rfl c rfl) (Zh ?_)))))
   exact ⟨rfl,rfl,rfl,rfl,rfl,rfl,rfl⟩
  ·refine Zu rfl c (Zb (.n v) rfl (Zu rfl c (Zb v_l rfl (Zu rfl c (Zc (Zak (hO.sl 0 rfl) rfl) (Zu rfl c (Zc (ZcZ rfl rfl) (Zc (Zct rfl c rfl) ?_))))))))
   refine Zh ?_
   exact ⟨rfl,rfl,rfl,rfl,rfl,rfl,rfl⟩
 rintro aN _ ⟨rfl,ay,R,S,T,D,U⟩
 refine Zb _ ay (Zai 3 (fun f k=>h=k∧f 24=.b (((decide (v < 0)) || (decide ((l.length:Int)≤v))) || (decide (w < 0)))∧f 0=v_l∧f 1=.n v∧f 2=.n d∧f 3=.n w∧f 4=.n o) ?_ ?_)
 ·rcases bc ((decide (v < 0)) || (decide ((l.length:Int)≤v))) with i | i
  ·refine Zl rfl i (Zl rfl i (Zc (Zcs (w:=((decide (v < 0)) || (decide ((l.length:Int)≤v))) || (decide (w < 0))) rfl i rfl) (Zh ?_)))
   exact ⟨rfl,rfl,R,S,T,D,U⟩
  ·refine Zu rfl i (Zb _ D (Zu rfl i (Zc (zH rfl rfl) (Zc (Zct rfl i rfl) (Zh ?_)))))
   exact ⟨rfl,rfl,R,S,T,D,U⟩
 rintro aO _ ⟨rfl,az,E,W,X,F,Y⟩
 refine Zb _ az (Zai 5 (fun f k=>h=k∧f 30=.b ((((decide (v < 0)) || (decide ((l.length:Int)≤v))) || (decide (w < 0))) || (decide ((l.length:Int)≤w)))∧f 0=v_l∧f 1=.n v∧f 2=.n d∧f 3=.n w∧f 4=.n o) ?_ ?_)
 ·rcases bc (((decide (v < 0)) || (decide ((l.length:Int)≤v))) || (decide (w < 0))) with e | e
  ·refine Zl rfl e (Zl rfl e (Zl rfl e (Zl rfl e (Zc (Zcs (w:=(((decide (v < 0)) || (decide ((l.length:Int)≤v))) || (decide (w < 0))) || (decide ((l.length:Int)≤w))) rfl e rfl) (Zh ?_)))))
   exact ⟨rfl,rfl,E,W,X,F,Y⟩
  ·refine Zu rfl e (Zb _ F (Zu rfl e (Zb _ E (Zu rfl e (Zc (Zak (hO.sl 0 rfl) rfl) (Zu rfl e (Zc (ZcZ rfl rfl) (Zc (Zct rfl e rfl) ?_))))))))
   refine Zh ?_
   exact ⟨rfl,rfl,E,W,X,F,Y⟩
 rintro aP _ ⟨rfl,aA,aa,I,ab,J,ac⟩
 refine Zb _ aA (Zai 4 (fun f k=>h=k∧f 35=.b (((((decide (v < 0)) || (decide ((l.length:Int)≤v))) || (decide (w < 0))) || (decide ((l.length:Int)≤w))) || (decide (v=w)))∧f 0=v_l∧f 1=.n v∧f 2=.n d∧f 3=.n w∧f 4=.n o) ?_ ?_)
 ·rcases bc ((((decide (v < 0)) || (decide ((l.length:Int)≤v))) || (decide (w < 0))) || (decide ((l.length:Int)≤w))) with g | g
  ·refine Zl rfl g (Zl rfl g (Zl rfl g (Zc (Zcs (w:=((((decide (v < 0)) || (decide ((l.length:Int)≤v))) || (decide (w < 0))) || (decide ((l.length:Int)≤w))) || (decide (v=w))) rfl g rfl) (Zh ?_))))
   exact ⟨rfl,rfl,aa,I,ab,J,ac⟩
  ·refine Zu rfl g (Zb _ I (Zu rfl g (Zb _ J (Zu rfl g (Zc (Zb0 rfl rfl) (Zc (Zct rfl g rfl) (Zh ?_)))))))
   exact ⟨rfl,rfl,aa,I,ab,J,ac⟩
 rintro aQ _ ⟨rfl,aB,ad,ae,K,af,ag⟩
 refine Zb _ aB (Zai 3 (fun f k=>h=k∧f 39=.b ((((((decide (v < 0)) || (decide ((l.length:Int)≤v))) || (decide (w < 0))) || (decide ((l.length:Int)≤w))) || (decide (v=w))) || (decide (d < 0)))∧f 0=v_l∧f 1=.n v∧f 2=.n d∧f 3=.n w∧f 4=.n o) ?_ ?_)
 ·rcases bc (((((decide (v < 0)) || (decide ((l.length:Int)≤v))) || (decide (w < 0))) || (decide ((l.length:Int)≤w))) || (decide (v=w))) with j | j
  ·refine Zl rfl j (Zl rfl j (Zc (Zcs (w:=(((((decide (v < 0)) || (decide ((l.length:Int)≤v))) || (decide (w < 0))) || (decide ((l.length:Int)≤w))) || (decide (v=w))) || (decide (d < 0))) rfl j rfl) (Zh ?_)))
   exact ⟨rfl,rfl,ad,ae,K,af,ag⟩
  ·refine Zu rfl j (Zb _ K (Zu rfl j (Zc (zH rfl rfl) (Zc (Zct rfl j rfl) (Zh ?_)))))
   exact ⟨rfl,rfl,ad,ae,K,af,ag⟩
 rintro aR _ ⟨rfl,aC,ah,ai,L,aj,ak⟩
 refine Zb _ aC (Zai 3 (fun f k=>h=k∧f 43=.b (((((((decide (v < 0)) || (decide ((l.length:Int)≤v))) || (decide (w < 0))) || (decide ((l.length:Int)≤w))) || (decide (v=w))) || (decide (d < 0))) || (decide (3 < d)))∧f 0=v_l∧f 1=.n v∧f 2=.n d∧f 3=.n w∧f 4=.n o) ?_ ?_)
 ·rcases bc ((((((decide (v < 0)) || (decide ((l.length:Int)≤v))) || (decide (w < 0))) || (decide ((l.length:Int)≤w))) || (decide (v=w))) || (decide (d < 0))) with m | m
  ·refine Zl rfl m (Zl rfl m (Zc (Zcs (w:=((((((decide (v < 0)) || (decide ((l.length:Int)≤v))) || (decide (w < 0))) || (decide ((l.length:Int)≤w))) || (decide (v=w))) || (decide (d < 0))) || (decide (3 < d))) rfl m rfl) (Zh ?_)))
   exact ⟨rfl,rfl,ah,ai,L,aj,ak⟩
  ·refine Zu rfl m (Zb _ L (Zu rfl m (Zc (ZdC rfl rfl) (Zc (Zct rfl m rfl) (Zh ?_)))))
   exact ⟨rfl,rfl,ah,ai,L,aj,ak⟩
 rintro aS _ ⟨rfl,aD,al,am,an,ao,M⟩
 refine Zb _ aD (Zai 3 (fun f k=>h=k∧f 47=.b ((((((((decide (v < 0)) || (decide ((l.length:Int)≤v))) || (decide (w < 0))) || (decide ((l.length:Int)≤w))) || (decide (v=w))) || (decide (d < 0))) || (decide (3 < d))) || (decide (o < (-2))))∧f 0=v_l∧f 1=.n v∧f 2=.n d∧f 3=.n w∧f 4=.n o) ?_ ?_)
 ·rcases bc (((((((decide (v < 0)) || (decide ((l.length:Int)≤v))) || (decide (w < 0))) || (decide ((l.length:Int)≤w))) || (decide (v=w))) || (decide (d < 0))) || (decide (3 < d))) with p | p
  ·refine Zl rfl p (Zl rfl p (Zc (Zcs (w:=(((((((decide (v < 0)) || (decide ((l.length:Int)≤v))) || (decide (w < 0))) || (decide ((l.length:Int)≤w))) || (decide (v=w))) || (decide (d < 0))) || (decide (3 < d))) || (decide (o < (-2)))) rfl p rfl) (Zh ?_)))
   exact ⟨rfl,rfl,al,am,an,ao,M⟩
  ·refine Zu rfl p (Zb _ M (Zu rfl p (Zc (zH rfl rfl) (Zc (Zct rfl p rfl) (Zh ?_)))))
   exact ⟨rfl,rfl,al,am,an,ao,M⟩
 rintro aT _ ⟨rfl,aE,q,N,A,O,ap⟩
 refine Ze (zC hp aE (fun av hp=>?_) (fun av hp=>?_))
 ·refine Zk (Zb _ q (Zb v_l rfl (Zb (.n 2) rfl (Ze (Zav (zE ?_))))))
  refine z8 (Zag rfl (Zag rfl ZQ)) ?_
  cases hp
  exact ⟨v_l,rfl,(hO.pk [0])⟩
 ·refine Zat (ZB (Zk (Zb _ q (Zb _ N (Zb _ A (ckk hp fun s hp=>?_))))))
  refine Zc (zi (hO.sl 0 rfl) rfl rfl s) (Zc (Zbt (hO.sl 0 rfl) (Zg s) rfl rfl) (ckk hp fun P hp=>Zc (Zbj (hO.sl 0 rfl) (Zg s) rfl rfl P rfl) (Zc (zS (hO.sl 0 rfl) rfl (Zg s) (zI P)) (Zc (Zc2 rfl rfl) (Zb (.b (!(decide (((gi l v.toNat).Next).get d=(-1))))) rfl ?_)))))
  obtain ⟨t,aM,hp⟩:=ZaZ hp
  refine Zai 11 (fun f k=>h=k∧f 68=.b t∧f 0=v_l∧f 1=.n v∧f 2=.n d∧f 3=.n w∧f 4=.n o) ?_ ?_
  ·clear hp; rcases Zbn aM with ⟨a,hp⟩ | ⟨a,hp⟩
   ·refine Zl rfl a (Zl rfl a (Zl rfl a (Zl rfl a (Zl rfl a (Zl rfl a (Zl rfl a (Zl rfl a (Zl rfl a ?_))))))))
    refine Zl rfl a (Zc (ZaS (v:=.b t) rfl a (Eq.trans (b:=V.b true) rfl (congrArg V.b (Option.some.inj hp)))) (Zh ?_))
    exact ⟨rfl,rfl,q,N,A,O,ap⟩
   ·refine Zu rfl a (Zb _ q (Zu rfl a (Zb _ O (Zu rfl a (Zb _ A (Zu rfl a (ckk hp fun aw hp=>Zc (zf rfl rfl aw) ?_)))))))
    refine Zu rfl a (Zc (ZcL rfl rfl (by decide)) (Zu rfl a (ckk hp fun y hp=>Zc (zi (hO.sl 0 rfl) rfl rfl y) (Zu rfl a (Zc (Zbt (hO.sl 0 rfl) (Zg y) rfl rfl) (Zu rfl a (ckk hp fun Q hp=>?_)))))))
    refine Zc (Zbj (hO.sl 0 rfl) (Zg y) rfl rfl Q rfl) (Zu rfl a (Zc (zS (hO.sl 0 rfl) rfl (Zg y) (zI Q)) (Zu rfl a (Zc (Zc2 rfl rfl) (Zc (ZaL (v:=.b t) rfl a (Eq.trans (b:=V.b (!(decide (((gi l w.toNat).Next).get ((d + 2).tmod 4)=(-1))))) rfl (congrArg V.b (Option.some.inj hp)))) (Zh ?_))))))
    exact ⟨rfl,rfl,q,N,A,O,ap⟩
  rintro aU _ ⟨rfl,aJ,aq,aF,aG,aH,aI⟩
  refine Ze (zC hp aJ (fun au hp=>?_) (fun au hp=>?_))
  ·refine Zk (Zb _ aq (Zb v_l rfl (Zb (.n 9) rfl (Ze (Zav (zE ?_))))))
   refine z8 (Zag rfl (Zag rfl ZQ)) ?_
   cases hp
   exact ⟨v_l,rfl,(hO.pk [0])⟩
  ·refine Zat (Zk (Zb _ aq (Zb _ aF (Zb _ aG (Zb _ aH (Zb _ aI ?_))))))
   obtain ⟨x,⟨aW,aV,ax,C,rfl,aL⟩,hp⟩:=bdk hp fun _=>ZaC.ok (h:=h)  (hO.sl 0 rfl)
   refine ZaK rfl rfl ax ?_
   have aK:=hO.call aL rfl
   refine Zb C rfl (Ze (Zk (Zb C rfl (Zb C rfl (Zb (.n 0) rfl (Zh ?_))))))
   refine Zo (Zav (z8 (Zag rfl (Zag rfl ZQ)) ?_))
   cases hp
   exact ⟨C,rfl,(aK.pk [1])⟩

theorem Za0.ok {h:Hp} {n:ZaU} {s:zY} {v:Int} {v_n_Cells:V} {v_n_First:V} {v_n_Ends:V} {v_n_Ways:V} {vs_n_Ways:List V} {v_s_Boxes:V} {v_s_Edges:V} (H:Own (Bm h [eSl Zd v_n_Cells n.Cells,eSl zM v_n_First n.First,eSl Zbd v_n_Ends n.Ends,eSl eV v_n_Ways vs_n_Ways,Zce zM vs_n_Ways n.Ways]) h h [eSl Zd v_n_Cells n.Cells,eSl zM v_n_First n.First,eSl Zbd v_n_Ends n.Ends,eSl eV v_n_Ways vs_n_Ways,Zce zM vs_n_Ways n.Ways]) (s_s_Boxes:Rd (Bm h [eSl Zd v_n_Cells n.Cells,eSl zM v_n_First n.First,eSl Zbd v_n_Ends n.Ends,eSl eV v_n_Ways vs_n_Ways,Zce zM vs_n_Ways n.Ways]) h e_bool v_s_Boxes s.Boxes) (s_s_Edges:Rd (Bm h [eSl Zd v_n_Cells n.Cells,eSl zM v_n_First n.First,eSl Zbd v_n_Ends n.Ends,eSl eV v_n_Ways vs_n_Ways,Zce zM vs_n_Ways n.Ways]) h z7 v_s_Edges s.Edges) {r:ZaU} (hp:Za0 n s v=some r) :
  ∃ u k',Is G 200 [.ag [v_n_Cells,v_n_First,v_n_Ends,v_n_Ways],.ag [v_s_Boxes,v_s_Edges],.n v] h u k'∧∃ aI aK aL aM aP,V.ag [aI,aK,aL,aM]=u∧Own (Bm h [eSl Zd v_n_Cells n.Cells,eSl zM v_n_First n.First,eSl Zbd v_n_Ends n.Ends,eSl eV v_n_Ways vs_n_Ways,Zce zM vs_n_Ways n.Ways]) h k' [eSl Zd aI r.Cells,eSl zM aK r.First,eSl Zbd aL r.Ends,eSl eV aM aP,Zce zM aP r.Ways]:=by
 refine WC.is (ZaP Ze3 ?_)
 unfold Za0 at hp
 let B:Nat→Prop:=(Bm h [eSl Zd v_n_Cells n.Cells,eSl zM v_n_First n.First,eSl Zbd v_n_Ends n.Ends,eSl eV v_n_Ways vs_n_Ways,Zce zM vs_n_Ways n.Ways])
 have hO:Own B h h [eSl Zd v_n_Cells n.Cells,eSl zM v_n_First n.First,eSl Zbd v_n_Ends n.Ends,eSl eV v_n_Ways vs_n_Ways,Zce zM vs_n_Ways n.Ways]:=H
 refine Zk (zw (hO.boxd (cs:=[v_n_Cells,v_n_First,v_n_Ends,v_n_Ways]) hO.fr rfl rfl) ?_)
 rintro _ bH ⟨a,rfl,b4,bs,ap⟩
 refine zw (ap.boxd (cs:=[v_s_Boxes,v_s_Edges]) ap.fr rfl rfl) ?_
 rintro _ bM ⟨A,rfl,b5,bx,ar⟩
 refine zw (ar.alloc (cs:=[.sn,.sn,.sn,.sn]) ar.fr) ?_
 rintro _ bh ⟨g,rfl,b6,bz,Y⟩
 refine Ze (Zk (Zc (zR (r:=a) (o:=0) rfl rfl) (Zc (zn (Y.box 5 rfl) rfl rfl) (Zc (Zak (Y.sl 0 rfl) rfl) (Zb (.n (n.Cells.length:Int)) rfl (Zh ?_))))))
 refine Zo (Zk ?_)
 obtain ⟨x,⟨ch,bS,aX,aN,rfl,a8⟩,hp⟩:=bdk hp fun _=>zh.ok (h:=bh)  
 refine ZaK rfl rfl aX ?_
 have L:=Y.call a8 rfl
 refine Zb aN rfl (Ze (Zk (Zc (zR (r:=a) (o:=0) rfl rfl) (Zc (zn (L.box 5 rfl) rfl rfl) (Zb aN rfl (ckk hp fun aS hp=>?_))))))
 refine zw (L.app (bytes:=64) 0 L.fr rfl (L.sl 8 rfl) rfl rfl (fun _=>rfl) aS (by decide)) ?_
 rintro aO bT ⟨bA,aa⟩
 refine Zc (zR (r:=a) (o:=0) rfl rfl) (zw (aa.stb (cs':=[aO,v_n_First,v_n_Ends,v_n_Ways]) 5 rfl rfl rfl (aa.sl 0 rfl).cells ⟨rfl,Nat.le_of_ble_eq_true rfl,(all_cons (aa.sl 0 rfl).oneV rfl)⟩ rfl) ?_)
 rintro _ bU ⟨rfl,bB,bY,a7⟩
 refine Ze (ZB (Zk (Zb (.n 0) rfl (Ze (zX (Zb7 hp (fun | (n1,n2,d),fr,k=>∃ D,fr 2=.n v∧fr 3=.p a 0∧fr 4=.p A 0∧fr 6=.p g 0∧fr 7=.n (n.Cells.length:Int)∧fr 9=.n d∧Own B h k [zV a [D,v_n_First,v_n_Ends,v_n_Ways],eSl Zd D n1,eSl zM v_n_First n.First,eSl Zbd v_n_Ends n2,eSl eV v_n_Ways vs_n_Ways,Zce zM vs_n_Ways n.Ways,zV A [v_s_Boxes,v_s_Edges],zV g [.sn,.sn,.sn,.sn]]) (fun | (n3,n4),e,fr,k=>e=(.exit 0)∧∃ F,fr 3=.p a 0∧fr 6=.p g 0∧Own B h k [zV a [F,v_n_First,v_n_Ends,v_n_Ways],eSl Zd F n3,eSl zM v_n_First n.First,eSl Zbd v_n_Ends n4,eSl eV v_n_Ways vs_n_Ways,Zce zM vs_n_Ways n.Ways,zV g [.sn,.sn,.sn,.sn]]) ⟨aO,rfl,rfl,rfl,rfl,rfl,rfl,(a7.pk [5,0,1,2,3,4,6,7])⟩ ?_ ?_))))))
 ·rintro ⟨n1,n2,d⟩ cb bW ⟨D,ax,ay,az,aA,b,t,ab⟩ b8 hp
  dsimp only [Za0.s0] at hp
  refine ZB (Zk (Zb _ t (Zc (zH rfl rfl) (Ze (zC hp rfl (fun aQ hp=>?_) (fun aQ hp=>?_))))))
  ·refine Zat (ZB (zX (Zk (Zb _ b (ckk hp fun aj hp=>Zc (zf rfl rfl aj) ?_)))))
   refine Zb _ b (ckk hp fun ak hp=>Zc (zf rfl rfl ak) (Zb _ b (Zb _ b (zw (ab.bsl (E:=zM) (l:=[(n.Cells.length:Int) + 1,(n.Cells.length:Int) + 3,(n.Cells.length:Int),(n.Cells.length:Int)]) ab.fr (by rw [(zo (v:=.n ((n.Cells.length:Int) + 1)) rfl (zo (v:=.n ((n.Cells.length:Int) + 3)) rfl (zo (v:=.n (n.Cells.length:Int)) rfl (zo (v:=.n (n.Cells.length:Int)) rfl ZaH))))]; rfl) rfl) ?_))))
   rintro co bX ⟨ce,bC,M⟩
   refine Zb _ t (ckk hp fun al hp=>Zc (zi (M.sl 8 rfl) rfl rfl al) (Zc (zS (M.sl 8 rfl) rfl (Zg al) rfl) (Zb (.n (gi [(n.Cells.length:Int) + 1,(n.Cells.length:Int) + 3,(n.Cells.length:Int),(n.Cells.length:Int)] d.toNat)) rfl (Ze (Zk ?_)))))
   refine Zb _ b (ckk hp fun am hp=>Zc (zf rfl rfl am) (Zb _ b (Zc (zf rfl rfl am) (Zb _ b (Zc (zf rfl rfl ak) (Zb _ b (Zc (zf rfl rfl aj) ?_)))))))
   refine zw (M.bsl (E:=zM) (l:=[(n.Cells.length:Int) + 2,(n.Cells.length:Int) + 2,(n.Cells.length:Int) + 3,(n.Cells.length:Int) + 1]) M.fr (by rw [(zo (v:=.n ((n.Cells.length:Int) + 2)) rfl (zo (v:=.n ((n.Cells.length:Int) + 2)) rfl (zo (v:=.n ((n.Cells.length:Int) + 3)) rfl (zo (v:=.n ((n.Cells.length:Int) + 1)) rfl ZaH))))]; rfl) rfl) ?_
   rintro cm bI ⟨cf,bD,J⟩
   refine Zb _ t (ckk hp fun an hp=>Zc (zi (J.sl 9 rfl) rfl rfl an) (Zc (zS (J.sl 9 rfl) rfl (Zg an) rfl) (Zb (.n (gi [(n.Cells.length:Int) + 2,(n.Cells.length:Int) + 2,(n.Cells.length:Int) + 3,(n.Cells.length:Int) + 1] d.toNat)) rfl (Ze (Zk ?_)))))
   refine zw (J.bsl (E:=zM) (l:=([1,0,1,0]:List Int)) J.fr (by rw [(zo (v:=.n 1) rfl (zo (v:=.n 0) rfl (zo (v:=.n 1) rfl (zo (v:=.n 0) rfl ZaH))))]; rfl) rfl) ?_
   rintro cn bd ⟨cg,bE,j⟩
   refine Zb _ t (ckk hp fun ao hp=>Zc (zi (j.sl 10 rfl) rfl rfl ao) (Zc (zS (j.sl 10 rfl) rfl (Zg ao) rfl) (Zb (.n (gi ([1,0,1,0]:List Int) d.toNat)) rfl (Ze (Zk ?_)))))
   refine Zc (Zbu (j.box 6 rfl) az rfl) (Zb _ ax (Zb _ t ?_))
   obtain ⟨x1,⟨ci,bJ,aY,ae,rfl,a9⟩,hp⟩:=bdk hp fun _=>Za1.ok (h:=bd)  (j.rd0 s_s_Boxes) (j.rd0 s_s_Edges)
   refine ZaK rfl rfl aY ?_
   have a4:=j.call a9 rfl
   refine Zb ae rfl (Ze (ZB (Zk (Zb (.n 0) rfl (Ze ?_)))))
   refine zX (Zb7 hp (fun | (n5,n6,from_,i),fr,k=>∃ P,fr 2=.n v∧fr 3=.p a 0∧fr 4=.p A 0∧fr 6=.p g 0∧fr 7=.n (n.Cells.length:Int)∧fr 9=.n d∧fr 10=.n from_∧fr 11=.n (gi [(n.Cells.length:Int) + 2,(n.Cells.length:Int) + 2,(n.Cells.length:Int) + 3,(n.Cells.length:Int) + 1] d.toNat)∧fr 12=.n (gi ([1,0,1,0]:List Int) d.toNat)∧fr 13=ae∧fr 14=.n i∧Own B h k [zV a [P,v_n_First,v_n_Ends,v_n_Ways],eSl Zd P n5,eSl zM v_n_First n.First,eSl Zbd v_n_Ends n6,eSl eV v_n_Ways vs_n_Ways,Zce zM vs_n_Ways n.Ways,zV A [v_s_Boxes,v_s_Edges],zV g [.sn,.sn,.sn,.sn],eSl zM ae x1]) (fun | (n7,n8,from_1),e,fr,k=>e=(.exit 2)∧∃ af,fr 2=.n v∧fr 3=.p a 0∧fr 4=.p A 0∧fr 6=.p g 0∧fr 7=.n (n.Cells.length:Int)∧fr 9=.n d∧fr 10=.n from_1∧fr 11=.n (gi [(n.Cells.length:Int) + 2,(n.Cells.length:Int) + 2,(n.Cells.length:Int) + 3,(n.Cells.length:Int) + 1] d.toNat)∧fr 12=.n (gi ([1,0,1,0]:List Int) d.toNat)∧Own B h k [zV a [af,v_n_First,v_n_Ends,v_n_Ways],eSl Zd af n7,eSl zM v_n_First n.First,eSl Zbd v_n_Ends n8,eSl eV v_n_Ways vs_n_Ways,Zce zM vs_n_Ways n.Ways,zV A [v_s_Boxes,v_s_Edges],zV g [.sn,.sn,.sn,.sn]]) ⟨D,ax,ay,az,aA,b,t,rfl,rfl,rfl,rfl,rfl,(a4.pk [0,1,2,3,4,5,6,7,11])⟩ ?_ ?_)
   ·rintro ⟨n5,n6,from_,i⟩ cd bf ⟨P,aD,f,aE,aF,aG,aH,aB,aC,ad,N,O,C⟩ b9 hp
    dsimp only [Za0.s1] at hp
    refine ZB (Zk (Zb _ O (Zb _ N (Zc (Zak (C.sl 8 rfl) rfl) (Zc (zH rfl rfl) (Ze (zC hp rfl (fun aR hp=>?_) (fun aR hp=>?_))))))))
    ·refine Zat (ZB (zX (Zk (Zc (zR (r:=a) (o:=0) f rfl) (Zc (zn (C.box 0 rfl) rfl rfl) (Zc (Zak (C.sl 1 rfl) rfl) ?_))))))
     refine Zb (.n (n5.length:Int)) rfl (Ze (Zk ?_))
     obtain ⟨x2,⟨cj,bK,aZ,aJ,rfl,ba⟩,hp⟩:=bdk hp fun _=>zh.ok (h:=bf)  
     refine ZaK rfl rfl aZ ?_
     have K:=C.call ba rfl
     refine Zb aJ rfl (Ze (Zk (Zc (zR (r:=a) (o:=0) f rfl) (Zc (zn (K.box 0 rfl) rfl rfl) (Zb aJ rfl (ckk hp fun aW hp=>?_))))))
     refine zw (K.app (bytes:=64) 1 K.fr rfl (K.sl 9 rfl) rfl rfl (fun _=>rfl) aW (by decide)) ?_
     rintro br bL ⟨bF,T⟩
     refine Zc (zR (r:=a) (o:=0) f rfl) (zw (T.stb (cs':=[br,v_n_First,v_n_Ends,v_n_Ways]) 0 rfl rfl rfl (T.sl 1 rfl).cells ⟨rfl,Nat.le_of_ble_eq_true rfl,(all_cons (T.sl 1 rfl).oneV rfl)⟩ rfl) ?_)
     rintro _ av ⟨rfl,bt,bZ,aq⟩
     refine Ze (ZB (ZfG ?_))
     have c:=aq.bump 16
     have a3:=Fresh.start av 16
     have b7:∀ {i:Nat},h.n≤av.n + i:=Nat.le_trans aq.n (Nat.le_add_right _ _)
     refine z4 (zR (r:=a) (o:=0) f rfl) (z4 (zn (c.box 0 rfl) rfl rfl) (Zbr _ N (Zbr _ O (ckk hp fun I hp=>z4 (zi (c.sl 8 rfl) rfl rfl I) (z4 (zS (c.sl 8 rfl) rfl (Zg I) rfl) (ckk hp fun aT hp=>z4 (Zlz rfl rfl aT) ?_))))))
     refine Zbr _ N (Zbr _ O (z4 (zi (c.sl 8 rfl) rfl rfl I) (z4 (zS (c.sl 8 rfl) rfl (Zg I) rfl) (z4 (ZcL rfl rfl (by decide)) (Zbr (.n (n5.length:Int)) rfl (ckk hp fun Q hp=>z4 (zi (c.sl 3 rfl) rfl rfl Q) (ckk hp fun R hp=>?_)))))))
     refine z4 (Zbj (c.sl 3 rfl) (Zg Q) rfl rfl R rfl) (Ze8 (c.ste (y:=((gi n6 ((gi x1 i.toNat).tdiv 2:Int).toNat).set ((gi x1 i.toNat).tmod 2) (n5.length:Int))) 3 rfl rfl (Zg Q) rfl rfl ⟨rfl,(by have:=R; exact (show 0 + ((gi x1 i.toNat).tmod 2:Int).toNat * 1 + 1≤2 by omega)),rfl⟩ (ZiG R)) ?_)
     rintro _ bg cp ⟨rfl,a2,b0,U⟩
     have bG:=a3.kept a2 (by decide)
     refine ZcA ?_
     refine And.intro ?_ ?_
     ·intro q hq
      simp only [List.mem_cons,List.not_mem_nil,or_false] at hq
      rcases hq with rfl | rfl | rfl
      ·refine Zao ?_ ?_
       ·exact (fun h=>nomatch h)
       ·exact (fun h=>nomatch h)
      ·refine Zao ?_ ?_
       ·exact (fun h=>nomatch h)
       ·exact (fun h=>nomatch h)
      ·refine Zao ?_ ?_
       ·exact (fun h=>nomatch h)
       ·exact (fun h=>nomatch h)
     refine Zo (Zk (Zc (zR (r:=a) (o:=0) f rfl) (Zc (zn (U.box 0 rfl) rfl rfl) (Zb _ aB (Zb _ ad (Zb (.n (n5.length:Int)) rfl ?_))))))
     obtain ⟨⟨x3,x4⟩,⟨ck,bN,a0,ah,rfl,bb⟩,hp⟩:=bdk hp fun _=>Zap.ok (h:=bg) (l:=(n5++x2)) (v:=from_) (d:=(gi ([1,0,1,0]:List Int) d.toNat)) (w:=(n5.length:Int)) (o:=(-1)) (U.toM [1] rfl (by decide)) 
     refine ZaK rfl rfl a0 ?_
     have W:=(U.callM [1] [0,2,3,4,5,6,7,8,9] rfl rfl (by decide) bb rfl).pick [0,900,1,2,3,4,5,6,7,8,9] rfl (by decide)
     refine Zb (.tu [ah,.n x4]) rfl (Zc (ZbF rfl rfl) (Zc (ZbF rfl rfl) (Zc (zR (r:=a) (o:=0) f rfl) (zw (W.stb (cs':=[ah,v_n_First,v_n_Ends,v_n_Ways]) 0 rfl rfl rfl (W.sl 10 rfl).cells ⟨rfl,Nat.le_of_ble_eq_true rfl,(all_cons (W.sl 10 rfl).oneV rfl)⟩ rfl) ?_))))
     rintro _ bO ⟨rfl,bu,b1,a5⟩
     refine Ze (zD (Zb (.n (n5.length:Int)) rfl (Zb (.n (n5.length:Int)) rfl (Zh (Zaa (Zo (zD ?_)))))))
     refine Zb _ O (ckk hp fun aU hp=>Zc (zf rfl rfl aU) (Zb (.n (i + 1)) rfl (Zh ?_)))
     cases hp
     exact ⟨rfl,ah,aD,f,aE,aF,aG,aH,rfl,aC,ad,N,rfl,(a5.pk [0,10,2,3,4,5,6,7,8])⟩
    ·refine Zbo (zK ?_)
     cases hp
     exact ⟨nofun,rfl,P,aD,f,aE,aF,aG,aH,aB,aC,ad,(C.pk [0,1,2,3,4,5,6,7])⟩
   rintro ⟨n7,n8,from_1⟩ hp _ cc be ⟨rfl,af,bm,ac,bn,bo,bp,bq,bj,bk,bl,S⟩
   refine Zaw (Zo (zD (Zc (zR (r:=a) (o:=0) ac rfl) (Zc (zn (S.box 0 rfl) rfl rfl) (Zb _ bj (Zb _ bl (Zb _ bk ?_)))))))
   obtain ⟨⟨x5,x6⟩,⟨cl,bP,a1,ai,rfl,bc⟩,hp⟩:=bdk hp fun _=>Zap.ok (h:=be) (l:=n7) (v:=from_1) (d:=(gi ([1,0,1,0]:List Int) d.toNat)) (w:=(gi [(n.Cells.length:Int) + 2,(n.Cells.length:Int) + 2,(n.Cells.length:Int) + 3,(n.Cells.length:Int) + 1] d.toNat)) (o:=(-1)) (S.toM [1] rfl (by decide)) 
   refine ZaK rfl rfl a1 ?_
   have X:=(S.callM [1] [0,2,3,4,5,6,7] rfl rfl (by decide) bc rfl).pick [0,900,1,2,3,4,5,6,7] rfl (by decide)
   refine Zb (.tu [ai,.n x6]) rfl (Zc (ZbF rfl rfl) (Zc (ZbF rfl rfl) (Zc (zR (r:=a) (o:=0) ac rfl) (zw (X.stb (cs':=[ai,v_n_First,v_n_Ends,v_n_Ways]) 0 rfl rfl rfl (X.sl 8 rfl).cells ⟨rfl,Nat.le_of_ble_eq_true rfl,(all_cons (X.sl 8 rfl).oneV rfl)⟩ rfl) ?_))))
   rintro _ bQ ⟨rfl,bv,b2,a6⟩
   refine Zh (Zaa (Zo (zD (Zb _ bq (ckk hp fun aV hp=>Zc (zf rfl rfl aV) (Zb (.n (d + 1)) rfl (Zh ?_)))))))
   cases hp
   exact ⟨rfl,ai,bm,ac,bn,bo,bp,rfl,(a6.pk [0,8,2,3,4,5,6,7])⟩
  ·refine Zbo (zK ?_)
   cases hp
   exact ⟨nofun,rfl,D,ay,aA,(ab.pk [0,1,2,3,4,5,7])⟩
 rintro ⟨n3,n4⟩ hp _ ca bV ⟨rfl,F,bi,aw,m⟩
 refine Zaw (Zo (Zk (Zc (Zbu (m.box 0 rfl) bi rfl) (zw (m.stb (cs':=[F,v_n_First,v_n_Ends,v_n_Ways]) 6 rfl aw rfl rfl ⟨rfl,Nat.le_of_ble_eq_true rfl,(all_cons (m.sl 1 rfl).oneV (all_cons (m.sl 2 rfl).oneV (all_cons (m.sl 3 rfl).oneV (all_cons (m.sl 4 rfl).oneV all_nil))))⟩ rfl) ?_))))
 rintro _ bR ⟨rfl,bw,b3,au⟩
 refine Ze (Zav (z8 (Zgb aw (au.box 6 rfl) rfl ZQ) ?_))
 cases hp
 exact ⟨F,v_n_First,v_n_Ends,v_n_Ways,vs_n_Ways,rfl,(au.pk [1,2,3,4,5])⟩

theorem zj.ok {h:Hp} {s:zY} {v_s_Boxes:V} {v_s_Edges:V} (s_s_Boxes:Sl e_bool h v_s_Boxes s.Boxes) (s_s_Edges:Sl z7 h v_s_Edges s.Edges) {r:ZaU} (hp:zj s=some r) :
  ∃ u k',Is G 175 [.ag [v_s_Boxes,v_s_Edges]] h u k'∧∃ bx bD bG bI bK,V.ag [bx,bD,bG,bI]=u∧Own (fun r=>r < h.n) h k' [eSl Zd bx r.Cells,eSl zM bD r.First,eSl Zbd bG r.Ends,eSl eV bI bK,Zce zM bK r.Ways]:=by
 refine WC.is (ZaP ZeF ?_)
 unfold zj at hp
 let B:Nat→Prop:=(fun r=>r < h.n)
 have hO:Own B h h []:=Own.start0 h
 refine Zk (zw (hO.boxd (cs:=[v_s_Boxes,v_s_Edges]) hO.fr rfl rfl) ?_)
 rintro _ dz ⟨c,rfl,ee,c9,be⟩
 refine zw (be.alloc (cs:=[.sn,.sn,.sn,.sn]) be.fr) ?_
 rintro _ dI ⟨f,rfl,ef,di,ap⟩
 refine Ze (Zk (Zc (zR (r:=c) (o:=0) rfl rfl) (Zc (zn (ap.box 0 rfl) rfl rfl) (Zc (Zak (ap.rd0 s_s_Edges.rd) rfl) (ckk hp fun bS hp=>zw (ap.mks (E:=Zbd) (y:=(⟨0,0⟩:A2 Int)) (bytes:=16) (z:=(s.Edges.length:Int)) ap.fr rfl rfl rfl bS (by decide)) ?_)))))
 rintro ac av ⟨ey,dq,aR⟩
 refine Zc (Zcx (cs:=[.sn,.sn,ac,.sn]) (by rw [(zo (v:=ac) rfl ZaH)]; simp [fill,over,ZiP,ZiN,ZiO,ZiR,ZiM,ZiQ,(Sl.nil:Sl Zd av .sn ([]:List Za)).cells,(Sl.nil:Sl zM av .sn ([]:List Int)).cells,(aR.sl 2 rfl:Sl Zbd av ac (List.replicate ((s.Edges.length:Int):Int).toNat (⟨0,0⟩:A2 Int))).cells,(Sl.nil:Sl eV av .sn []).cells])) (zw (aR.alloc (cs:=[.sn,.sn,.sn,.sn]) aR.fr) ?_)
 rintro _ aw ⟨b,rfl,eg,dr,bh⟩
 refine zw (bh.stb (cs':=[.sn,.sn,ac,.sn]) 3 rfl rfl rfl rfl ⟨rfl,Nat.le_of_ble_eq_true rfl,(all_cons (Sl.nil:Sl Zd aw .sn ([]:List Za)).oneV (all_cons (Sl.nil:Sl zM aw .sn ([]:List Int)).oneV (all_cons (bh.sl 2 rfl:Sl Zbd aw ac (List.replicate ((s.Edges.length:Int):Int).toNat (⟨0,0⟩:A2 Int))).oneV (all_cons (Sl.nil:Sl eV aw .sn []).oneV all_nil))))⟩ rfl) ?_
 rintro _ dY ⟨rfl,ds,d4,cw⟩
 refine Ze (ZB (Zk (Zb (.n 0) rfl (Ze (zX ?_)))))
 have cy:=cw.nil Zd
 have cz:=cy.nil zM
 have cA:=cz.nil eV
 have cl:=cA.allNil zM 0
 refine Zb7 hp (fun | (n,n1,n2,n3,v),fr,k=>∃ am aJ m t D,fr 1=.p c 0∧fr 2=.p f 0∧fr 3=.p b 0∧fr 4=.n v∧Own B h k [zV c [v_s_Boxes,v_s_Edges],zV f [.sn,.sn,.sn,.sn],zV b [am,aJ,m,t],eSl Zd am n,eSl zM aJ n1,eSl Zbd m n2,eSl eV t D,Zce zM D n3]) (fun | (n4,n5,n6,n7),e,fr,k=>e=(.exit 0)∧∃ aD g j aE aK,fr 1=.p c 0∧fr 2=.p f 0∧fr 3=.p b 0∧Own B h k [zV c [v_s_Boxes,v_s_Edges],zV f [.sn,.sn,.sn,.sn],zV b [aD,g,j,aE],eSl Zd aD n4,eSl zM g n5,eSl Zbd j n6,eSl eV aE aK,Zce zM aK n7]) ⟨V.sn,V.sn,ac,V.sn,[],rfl,rfl,rfl,rfl,(cl.pk [0,1,3,4,5,2,6,7])⟩ ?_ ?_
 ·rintro ⟨n,n1,n2,n3,v⟩ eq d0 ⟨am,aJ,m,t,D,ab,a1,I,ai,N⟩ ek hp
  dsimp only [zj.s0] at hp
  refine ZB (Zk (Zb _ ai (Zc (zR (r:=c) (o:=0) ab rfl) (Zc (zn (N.box 0 rfl) rfl rfl) (Zc (Zak (N.rd0 s_s_Boxes.rd) rfl) (Zc (zH rfl rfl) (Zh ?_)))))))
  refine Zo (zC hp rfl (fun bL hp=>?_) (fun bL hp=>?_))
  ·refine Zat (ZB (zX (Zk (Zc (zR (r:=b) (o:=0) I rfl) (Zc (zn (N.box 2 rfl) rfl rfl) (Zc (Zak (N.sl 3 rfl) rfl) ?_))))))
   refine Zb (.n (n.length:Int)) rfl (Ze (Zk (Zc (zR (r:=b) (o:=0) I rfl) (Zc (zn (N.box 2 rfl) rfl rfl) (Zb (.n (n.length:Int)) rfl (zw (N.bsl (E:=zM) (l:=[(n.length:Int)]) N.fr (by rw [(zo (v:=.n (n.length:Int)) rfl ZaH)]; rfl) rfl) ?_))))))
   rintro eK d3 ⟨ez,dt,aO⟩
   refine ckk hp fun b1 hp=>zw (aO.app (bytes:=8) 4 aO.fr rfl (aO.sl 8 rfl) rfl rfl (fun _=>rfl) b1 (by decide)) ?_
   rintro C bm ⟨du,aP⟩
   refine Zc (zR (r:=b) (o:=0) I rfl) (zw (aP.stb (cs':=[am,C,m,t]) 2 rfl rfl rfl (aP.sl 4 rfl:Sl zM bm C (n1++[(n.length:Int)])).cells ⟨rfl,Nat.le_of_ble_eq_true rfl,(all_cons (aP.sl 4 rfl:Sl zM bm C (n1++[(n.length:Int)])).oneV rfl)⟩ rfl) ?_)
   rintro _ bk ⟨rfl,dv,d6,H⟩
   refine Ze (ZB (Zk (Zc (zR (r:=c) (o:=0) ab rfl) (Zc (zn (H.box 0 rfl) rfl rfl) (Zb _ ai (ckk hp fun bd hp=>?_))))))
   refine Zc (zi (H.rd0 s_s_Boxes.rd) rfl rfl bd) (Zc (zS (H.rd0 s_s_Boxes.rd) rfl (Zg bd) rfl) (Ze (zC hp rfl (fun bM hp=>?_) (fun bM hp=>?_))))
   ·refine Zk (Zc (Zbu (H.box 2 rfl) I rfl) (Zc (Zbu (H.box 0 rfl) ab rfl) (Zb _ ai ?_)))
    obtain ⟨x,⟨eE,dA,ca,bz,bA,bB,bC,c8,rfl,cB⟩,hp⟩:=bdk hp fun _=>Za0.ok (h:=bk) (n:=(⟨n,n1++[(n.length:Int)],n2,n3⟩:ZaU)) (s:=s) (v:=v) (H.toM [3,4,5,6,7] rfl (by decide)) (H.rdM [3,4,5,6,7] rfl s_s_Boxes.rd) (H.rdM [3,4,5,6,7] rfl s_s_Edges.rd)
    refine ZaK rfl rfl ca ?_
    have ad:=(H.callM [3,4,5,6,7] [0,1,2,8] rfl rfl (by decide) cB rfl).pick [0,1,2,900,901,902,903,904,3,4,5,6,7,8] rfl (by decide)
    refine zw (ad.stb (cs':=[bz,bA,bB,bC]) 2 rfl I rfl rfl ⟨rfl,Nat.le_of_ble_eq_true rfl,(all_cons (ad.sl 9 rfl).oneV (all_cons (ad.sl 10 rfl).oneV (all_cons (ad.sl 11 rfl).oneV (all_cons (ad.sl 12 rfl).oneV all_nil))))⟩ rfl) ?_
    rintro _ dB ⟨rfl,dw,d7,cm⟩
    refine Ze (Zbo (zK (Zaw (Zo (zD (Zb _ ai (ckk hp fun b7 hp=>?_)))))))
    refine Zc (zf rfl rfl b7) (Zb (.n (v + 1)) rfl (Zh ?_))
    cases hp
    exact ⟨rfl,bz,bA,bB,bC,c8,ab,a1,I,rfl,(cm.pk [0,1,2,9,10,11,12,13])⟩
   ·refine Zat (Zk ?_)
    obtain ⟨x1,⟨eF,dC,cb,bE,rfl,cC⟩,hp⟩:=bdk hp fun _=>zh.ok (h:=bk)  
    refine ZaK rfl rfl cb ?_
    have ao:=H.call cC rfl
    refine Zb bE rfl (Ze (Zk (Zc (zR (r:=b) (o:=0) I rfl) (Zc (zn (ao.box 2 rfl) rfl rfl) (Zb bE rfl (ckk hp fun b8 hp=>?_))))))
    refine zw (ao.app (bytes:=64) 3 ao.fr rfl (ao.sl 9 rfl) rfl rfl (fun _=>rfl) b8 (by decide)) ?_
    rintro J dD ⟨da,aQ⟩
    refine Zc (zR (r:=b) (o:=0) I rfl) (zw (aQ.stb (cs':=[J,C,m,t]) 2 rfl rfl rfl (aQ.sl 3 rfl).cells ⟨rfl,Nat.le_of_ble_eq_true rfl,(all_cons (aQ.sl 3 rfl).oneV rfl)⟩ rfl) ?_)
    rintro _ dE ⟨rfl,db,d8,cn⟩
    refine Ze (Zk (Zb (.n 0) rfl (Ze (zX (Zb7 hp (fun | (n8,d),fr,k=>fr 1=.p c 0∧fr 2=.p f 0∧fr 3=.p b 0∧fr 4=.n v∧fr 5=.n (n.length:Int)∧fr 7=.n d∧Own B h k [zV c [v_s_Boxes,v_s_Edges],zV f [.sn,.sn,.sn,.sn],zV b [J,C,m,t],eSl Zd J (n++x1),eSl zM C (n1++[(n.length:Int)]),eSl Zbd m n8,eSl eV t D,Zce zM D n3]) (fun n9 e fr k=>e=(.exit 2)∧fr 1=.p c 0∧fr 2=.p f 0∧fr 3=.p b 0∧fr 4=.n v∧Own B h k [zV c [v_s_Boxes,v_s_Edges],zV f [.sn,.sn,.sn,.sn],zV b [J,C,m,t],eSl Zd J (n++x1),eSl zM C (n1++[(n.length:Int)]),eSl Zbd m n9,eSl eV t D,Zce zM D n3]) ⟨ab,a1,I,ai,rfl,rfl,(cn.pk [0,1,2,3,4,5,6,7])⟩ ?_ ?_)))))
    ·rintro ⟨n8,d⟩ es cG ⟨a2,bp,bq,a3,cT,a4,ae⟩ el hp
     dsimp only [zj.s1] at hp
     refine ZB (Zk (Zb _ a4 (Zc (zH rfl rfl) (Ze (zC hp rfl (fun bN hp=>?_) (fun bN hp=>?_))))))
     ·refine Zat (ZB (zX (Zk (Zc (Zbu (ae.box 0 rfl) a2 rfl) (Zb _ a3 (Zb _ a4 ?_))))))
      obtain ⟨x2,⟨eG,dG,cc,a9,rfl,cD⟩,hp⟩:=bdk hp fun _=>Za1.ok (h:=cG)  (ae.rd0 s_s_Boxes.rd) (ae.rd0 s_s_Edges.rd)
      refine ZaK rfl rfl cc ?_
      have cp:=ae.call cD rfl
      refine Zb a9 rfl (Ze (Zk (Zb (.n 0) rfl (Ze (zX (Zb7 hp (fun | (n10,i),fr,k=>fr 1=.p c 0∧fr 2=.p f 0∧fr 3=.p b 0∧fr 4=.n v∧fr 5=.n (n.length:Int)∧fr 7=.n d∧fr 8=a9∧fr 9=.n i∧Own B h k [zV c [v_s_Boxes,v_s_Edges],zV f [.sn,.sn,.sn,.sn],zV b [J,C,m,t],eSl Zd J (n++x1),eSl zM C (n1++[(n.length:Int)]),eSl Zbd m n10,eSl eV t D,Zce zM D n3,eSl zM a9 x2]) (fun n11 e fr k=>e=(.exit 4)∧fr 1=.p c 0∧fr 2=.p f 0∧fr 3=.p b 0∧fr 4=.n v∧fr 5=.n (n.length:Int)∧fr 7=.n d∧Own B h k [zV c [v_s_Boxes,v_s_Edges],zV f [.sn,.sn,.sn,.sn],zV b [J,C,m,t],eSl Zd J (n++x1),eSl zM C (n1++[(n.length:Int)]),eSl Zbd m n11,eSl eV t D,Zce zM D n3]) ⟨a2,bp,bq,a3,cT,a4,rfl,rfl,(cp.pk [0,1,2,3,4,5,6,7,8])⟩ ?_ ?_))))))
      ·rintro ⟨n10,i⟩ eu bl ⟨br,bs,a5,bt,a6,bu,az,aA,aq⟩ em hp
       dsimp only [zj.s2] at hp
       refine ZB (Zk (Zb _ aA (Zb _ az (Zc (Zak (aq.sl 8 rfl) rfl) (Zc (zH rfl rfl) (Ze (zC hp rfl (fun bO hp=>?_) (fun bO hp=>?_))))))))
       ·refine Zat (ZB (zX (ZfG ?_)))
        have O:=aq.bump 16
        have ci:=Fresh.start bl 16
        have eh:∀ {i:Nat},h.n≤bl.n + i:=Nat.le_trans aq.n (Nat.le_add_right _ _)
        refine z4 (zR (r:=b) (o:=0) a5 rfl) (z4 (zn (O.box 2 rfl) rfl rfl) (Zbr _ az (Zbr _ aA (ckk hp fun an hp=>z4 (zi (O.sl 8 rfl) rfl rfl an) (z4 (zS (O.sl 8 rfl) rfl (Zg an) rfl) (ckk hp fun b9 hp=>z4 (Zlz rfl rfl b9) ?_))))))
        refine Zbr _ az (Zbr _ aA (z4 (zi (O.sl 8 rfl) rfl rfl an) (z4 (zS (O.sl 8 rfl) rfl (Zg an) rfl) (z4 (ZcL rfl rfl (by decide)) (Zbr _ a6 (ckk hp fun aM hp=>z4 (zi (O.sl 5 rfl) rfl rfl aM) (ckk hp fun aN hp=>?_)))))))
        refine z4 (Zbj (O.sl 5 rfl) (Zg aM) rfl rfl aN rfl) (Ze8 (O.ste (y:=((gi n10 ((gi x2 i.toNat).tdiv 2:Int).toNat).set ((gi x2 i.toNat).tmod 2) (n.length:Int))) 5 rfl rfl (Zg aM) rfl rfl ⟨rfl,(by have:=aN; exact (show 0 + ((gi x2 i.toNat).tmod 2:Int).toNat * 1 + 1≤2 by omega)),rfl⟩ (ZiG aN)) ?_)
        rintro _ dJ eN ⟨rfl,cg,d9,cr⟩
        have dx:=ci.kept cg (by decide)
        refine ZcA ?_
        refine And.intro ?_ ?_
        ·intro q hq
         simp only [List.mem_cons,List.not_mem_nil,or_false] at hq
         rcases hq with rfl | rfl | rfl
         ·refine Zao ?_ ?_
          ·exact (fun h=>nomatch h)
          ·exact (fun h=>nomatch h)
         ·refine Zao ?_ ?_
          ·exact (fun h=>nomatch h)
          ·exact (fun h=>nomatch h)
         ·refine Zao ?_ ?_
          ·exact (fun h=>nomatch h)
          ·exact (fun h=>nomatch h)
        refine Zaa (Zo (zD (Zb _ aA (ckk hp fun bT hp=>Zc (zf rfl rfl bT) (Zb (.n (i + 1)) rfl (Zh ?_))))))
        cases hp
        exact ⟨rfl,br,bs,a5,bt,a6,bu,az,rfl,(cr.pk [0,1,2,3,4,5,6,7,8])⟩
       ·refine Zbo (zK ?_)
        cases hp
        exact ⟨nofun,rfl,br,bs,a5,bt,a6,bu,(aq.pk [0,1,2,3,4,5,6,7])⟩
      rintro n11 hp _ et dH ⟨rfl,cU,cV,cW,cX,cY,cZ,cq⟩
      refine Zaw (Zaa (Zo (zD (Zb _ cZ (ckk hp fun bU hp=>Zc (zf rfl rfl bU) (Zb (.n (d + 1)) rfl (Zh ?_)))))))
      cases hp
      exact ⟨rfl,cU,cV,cW,cX,cY,rfl,(cq.pk [0,1,2,3,4,5,6,7])⟩
     ·refine Zbo (zK ?_)
      cases hp
      exact ⟨nofun,rfl,a2,bp,bq,a3,(ae.pk [0,1,2,3,4,5,6,7])⟩
    rintro n9 hp _ er dF ⟨rfl,cP,cQ,cR,cS,co⟩
    refine Zaw (Zaa (Zo (zD (Zb _ cS (ckk hp fun bV hp=>Zc (zf rfl rfl bV) (Zb (.n (v + 1)) rfl (Zh ?_)))))))
    cases hp
    exact ⟨rfl,J,C,m,t,D,cP,cQ,cR,rfl,(co.pk [0,1,2,3,4,5,6,7])⟩
  ·refine Zbo (zK ?_)
   cases hp
   exact ⟨nofun,rfl,am,aJ,m,t,D,ab,a1,I,(N.pk [0,1,2,3,4,5,6,7])⟩
 rintro ⟨n4,n5,n6,n7⟩ hp _ eo dZ ⟨rfl,aD,g,j,aE,aK,cM,cN,cO,cx⟩
 refine Zaw (Zo (ZB (Zk (Zb (.n 0) rfl (Ze (zX (Zb7 hp (fun | (n12,n13,i1),fr,k=>∃ aj F K,fr 1=.p c 0∧fr 2=.p f 0∧fr 3=.p b 0∧fr 10=.n i1∧Own B h k [zV c [v_s_Boxes,v_s_Edges],zV f [.sn,.sn,.sn,.sn],zV b [aj,g,j,F],eSl Zd aj n12,eSl zM g n5,eSl Zbd j n6,eSl eV F K,Zce zM K n13]) (fun | (n14,n15),e,fr,k=>e=(.exit 6)∧∃ ak al aL,fr 2=.p f 0∧fr 3=.p b 0∧Own B h k [zV f [.sn,.sn,.sn,.sn],zV b [ak,g,j,al],eSl Zd ak n14,eSl zM g n5,eSl Zbd j n6,eSl eV al aL,Zce zM aL n15]) ⟨aD,aE,aK,cM,cN,cO,rfl,(cx.pk [0,1,2,3,4,5,6,7])⟩ ?_ ?_)))))))
 ·rintro ⟨n12,n13,i1⟩ ew dL ⟨aj,F,K,a7,bw,a8,aB,A⟩ en hp
  dsimp only [zj.s3] at hp
  refine ZB (Zk (Zb _ aB (Zc (zR (r:=c) (o:=0) a7 rfl) (Zc (zn (A.box 0 rfl) rfl rfl) (Zc (Zak (A.rd0 s_s_Edges.rd) rfl) (Zc (zH rfl rfl) (Zh ?_)))))))
  refine Zo (zC hp rfl (fun bP hp=>?_) (fun bP hp=>?_))
  ·refine Zat (ZB (zX (Zk (Zc (zR (r:=b) (o:=0) a8 rfl) (Zc (zn (A.box 2 rfl) rfl rfl) (Zb _ aB ?_))))))
   refine ckk hp fun L hp=>Zc (zi (A.sl 5 rfl) rfl rfl L) (Zc (Zbj (A.sl 5 rfl) (Zg L) rfl rfl (by decide) rfl) (Zc (zS (A.sl 5 rfl) rfl (Zg L) rfl) (Zb (.n ((gi n6 i1.toNat).get 0)) rfl (Ze (Zk ?_)))))
   refine Zc (zR (r:=c) (o:=0) a7 rfl) (Zc (zn (A.box 0 rfl) rfl rfl) (Zb _ aB (ckk hp fun M hp=>Zc (zi (A.rd0 s_s_Edges.rd) rfl rfl M) (Zc (Zbt (A.rd0 s_s_Edges.rd) (Zg M) rfl rfl) (Zc (zS (A.rd0 s_s_Edges.rd) rfl (Zg M) rfl) (Zb (.n ((gi s.Edges i1.toNat).Dir)) rfl (Zh ?_)))))))
   refine Zo (Zk (Zb (.n ((gi n6 i1.toNat).get 0)) rfl (zw (A.bsl (E:=zM) (l:=[(gi n6 i1.toNat).get 0]) A.fr (by rw [(zo (v:=.n ((gi n6 i1.toNat).get 0)) rfl ZaH)]; rfl) rfl) ?_)))
   rintro bF dM ⟨eA,dc,ct⟩
   refine Zb bF rfl (Ze (ZB (Zk (Zb (.n 0) rfl (Ze ?_)))))
   refine zX (Zb7 hp (fun | (n16,at_,d1,way,k_),fr,k=>∃ aF aG,fr 1=.p c 0∧fr 2=.p f 0∧fr 3=.p b 0∧fr 10=.n i1∧fr 11=.n at_∧fr 12=.n d1∧fr 13=aG∧fr 14=.n k_∧Own B h k [zV c [v_s_Boxes,v_s_Edges],zV f [.sn,.sn,.sn,.sn],zV b [aF,g,j,F],eSl Zd aF n16,eSl zM g n5,eSl Zbd j n6,eSl eV F K,Zce zM K n13,eSl zM aG way]) (fun | (n17,at_1,d2,way1),e,fr,k=>e=(.exit 8)∧∃ ba bb,fr 1=.p c 0∧fr 2=.p f 0∧fr 3=.p b 0∧fr 10=.n i1∧fr 11=.n at_1∧fr 12=.n d2∧fr 13=bb∧Own B h k [zV c [v_s_Boxes,v_s_Edges],zV f [.sn,.sn,.sn,.sn],zV b [ba,g,j,F],eSl Zd ba n17,eSl zM g n5,eSl Zbd j n6,eSl eV F K,Zce zM K n13,eSl zM bb way1]) ⟨aj,bF,a7,bw,a8,aB,rfl,rfl,rfl,rfl,(ct.pk [0,1,2,3,4,5,6,7,8])⟩ ?_ ?_)
   ·rintro ⟨n16,at_,d1,way,k_⟩ ep cH ⟨aF,aG,ah,a0,S,aa,bn,ax,bo,ay,Q⟩ ej hp
    dsimp only [zj.s4] at hp
    refine ZB (Zk (Zb _ ay (Zc (zR (r:=c) (o:=0) ah rfl) (Zc (zn (Q.box 0 rfl) rfl rfl) (Zb _ aa (Zc (zi (Q.rd0 s_s_Edges.rd) rfl rfl M) (Zc (Zbt (Q.rd0 s_s_Edges.rd) (Zg M) rfl rfl) ?_)))))))
    refine Zc (zS (Q.rd0 s_s_Edges.rd) rfl (Zg M) rfl) (Zc (ZhD rfl) (Zc (zH rfl rfl) (Ze (zC hp rfl (fun bQ hp=>?_) (fun bQ hp=>?_)))))
    ·refine Zat (ZB (zX (Zk (Zc (zR (r:=b) (o:=0) S rfl) (Zc (zn (Q.box 2 rfl) rfl rfl) (Zc (Zak (Q.sl 3 rfl) rfl) ?_))))))
     refine Zb (.n (n16.length:Int)) rfl (Ze (Zk ?_))
     obtain ⟨x3,⟨eH,dN,cd,bH,rfl,cE⟩,hp⟩:=bdk hp fun _=>zh.ok (h:=cH)  
     refine ZaK rfl rfl cd ?_
     have ar:=Q.call cE rfl
     refine Zb bH rfl (Ze (Zk (Zc (zR (r:=b) (o:=0) S rfl) (Zc (zn (ar.box 2 rfl) rfl rfl) (Zb bH rfl (ckk hp fun bW hp=>?_))))))
     refine zw (ar.app (bytes:=64) 3 ar.fr rfl (ar.sl 9 rfl) rfl rfl (fun _=>rfl) bW (by decide)) ?_
     rintro c6 dO ⟨dd,aS⟩
     refine Zc (zR (r:=b) (o:=0) S rfl) (zw (aS.stb (cs':=[c6,g,j,F]) 2 rfl rfl rfl (aS.sl 3 rfl).cells ⟨rfl,Nat.le_of_ble_eq_true rfl,(all_cons (aS.sl 3 rfl).oneV rfl)⟩ rfl) ?_)
     rintro _ cI ⟨rfl,de,ea,aT⟩
     refine Ze (Zk (Zc (zR (r:=b) (o:=0) S rfl) (Zc (zn (aT.box 2 rfl) rfl rfl) (Zb _ bn (Zb _ ax (Zb (.n (n16.length:Int)) rfl ?_))))))
     refine Zb _ aa ?_
     obtain ⟨⟨x4,x5⟩,⟨eI,dP,ce,aH,rfl,cF⟩,hp⟩:=bdk hp fun _=>Zap.ok (h:=cI) (l:=(n16++x3)) (v:=at_) (d:=d1) (w:=(n16.length:Int)) (o:=i1) (aT.toM [3] rfl (by decide)) 
     refine ZaK rfl rfl ce ?_
     have aU:=(aT.callM [3] [0,1,2,4,5,6,7,8,9] rfl rfl (by decide) cF rfl).pick [0,1,2,900,3,4,5,6,7,8,9] rfl (by decide)
     refine Zb (.tu [aH,.n x5]) rfl (Zc (ZbF rfl rfl) (Zc (ZbF rfl rfl) (Zc (zR (r:=b) (o:=0) S rfl) (zw (aU.stb (cs':=[aH,g,j,F]) 2 rfl rfl rfl (aU.sl 10 rfl).cells ⟨rfl,Nat.le_of_ble_eq_true rfl,(all_cons (aU.sl 10 rfl).oneV rfl)⟩ rfl) ?_))))
     rintro _ dQ ⟨rfl,df,eb,bg⟩
     refine Ze (Zk (Zb (.n (n16.length:Int)) rfl (Zb (.n (n16.length:Int)) rfl (Ze (ZB ?_)))))
     refine zD (Zb _ bo (Zb (.n (n16.length:Int)) rfl (zw (bg.bsl (E:=zM) (l:=[(n16.length:Int)]) bg.fr (by rw [(zo (v:=.n (n16.length:Int)) rfl ZaH)]; rfl) rfl) ?_)))
     rintro eL dR ⟨eB,dg,aV⟩
     refine ckk hp fun bX hp=>zw (aV.app (bytes:=8) 8 aV.fr rfl (aV.sl 11 rfl) rfl rfl (fun _=>rfl) bX (by decide)) ?_
     rintro bc dS ⟨dh,X⟩
     refine Zb bc rfl (Ze (Zk (Zc (zR (r:=c) (o:=0) ah rfl) (Zc (zn (X.box 0 rfl) rfl rfl) (Zb _ aa (Zc (zi (X.rd0 s_s_Edges.rd) rfl rfl M) ?_))))))
     refine Zc (Zbt (X.rd0 s_s_Edges.rd) (Zg M) rfl rfl) (Zc (zS (X.rd0 s_s_Edges.rd) rfl (Zg M) rfl) (Zb _ ay (ckk hp fun bY hp=>Zc (Zkz (a:=((gi s.Edges i1.toNat).Bends)) (z:=k_) rfl rfl bY) (Zc (Zb0 rfl rfl) (Ze (zC hp rfl (fun bR hp=>?_) (fun bR hp=>?_)))))))
     ·refine zD (Zb _ ax (ckk hp fun bZ hp=>Zc (zf rfl rfl bZ) (Zc (ZcL rfl rfl (by decide)) (Zb (.n ((d1 + 1).tmod 4)) rfl (Zh (Zaa (Zo ?_)))))))
      refine zD (Zb _ ay (ckk hp fun b0 hp=>Zc (zf rfl rfl b0) (Zb (.n (k_ + 1)) rfl (Zh ?_))))
      cases hp
      exact ⟨rfl,aH,bc,ah,a0,S,aa,rfl,rfl,rfl,rfl,(X.pk [0,1,2,10,4,5,6,7,8])⟩
     ·refine zD (Zb _ ax (ckk hp fun b2 hp=>Zc (zf rfl rfl b2) (Zc (ZcL rfl rfl (by decide)) (Zb (.n ((d1 + 3).tmod 4)) rfl (Zh (Zaa (Zo ?_)))))))
      refine zD (Zb _ ay (ckk hp fun b3 hp=>Zc (zf rfl rfl b3) (Zb (.n (k_ + 1)) rfl (Zh ?_))))
      cases hp
      exact ⟨rfl,aH,bc,ah,a0,S,aa,rfl,rfl,rfl,rfl,(X.pk [0,1,2,10,4,5,6,7,8])⟩
    ·refine Zbo (zK ?_)
     cases hp
     exact ⟨nofun,rfl,aF,aG,ah,a0,S,aa,bn,ax,bo,(Q.pk [0,1,2,3,4,5,6,7,8])⟩
   rintro ⟨n17,at_1,d2,way1⟩ hp _ ex aZ ⟨rfl,ba,bb,c1,c5,T,aC,c2,c3,c4,bf⟩
   refine Zaw (Zo (ZB (ZfG ?_)))
   have R:=bf.bump 17
   have cj:=Fresh.start aZ 17
   have ei:∀ {i:Nat},h.n≤aZ.n + i:=Nat.le_trans bf.n (Nat.le_add_right _ _)
   refine z4 (zR (r:=b) (o:=0) T rfl) (z4 (zn (R.box 2 rfl) rfl rfl) (Zbr _ c2 (Zbr _ c3 (z4 (zR (r:=b) (o:=0) T rfl) (z4 (zn (R.box 2 rfl) rfl rfl) (Zbr _ aC (z4 (zi (R.sl 5 rfl) rfl rfl L) (z4 (Zbj (R.sl 5 rfl) (Zg L) rfl rfl (by decide) rfl) ?_))))))))
   refine z4 (zS (R.sl 5 rfl) rfl (Zg L) rfl) (Zbr _ aC ?_)
   obtain ⟨⟨x6,x7⟩,⟨eJ,dT,cf,aI,rfl,bj⟩,hp⟩:=bdk hp fun _=>Zap.ok (h:=(aZ.bump 17)) (l:=n17) (v:=at_1) (d:=d2) (w:=((gi n6 i1.toNat).get 1)) (o:=i1) (R.toM [3] rfl (by decide)) 
   refine Zjv rfl rfl cf ?_
   have ck:=cj.callM (R.pick [3] rfl (by decide)).P bj
   have aW:=(R.callM [3] [0,1,2,4,5,6,7,8] rfl rfl (by decide) bj rfl).pick [0,1,2,900,3,4,5,6,7,8] rfl (by decide)
   refine Zbr (.tu [aI,.n x7]) rfl (z4 (ZbF rfl rfl) (z4 (ZbF rfl rfl) (z4 (zR (r:=b) (o:=0) T rfl) (Ze8 (aW.stb (cs':=[aI,g,j,F]) 2 rfl rfl rfl (aW.sl 9 rfl).cells ⟨rfl,Nat.le_of_ble_eq_true rfl,(all_cons (aW.sl 9 rfl).oneV rfl)⟩ rfl) ?_))))
   rintro _ dU eO ⟨rfl,ch,ec,Y⟩
   have dy:=ck.kept ch (by decide)
   refine ZcA ?_
   refine And.intro ?_ ?_
   ·intro q hq
    simp only [List.mem_cons,List.not_mem_nil,or_false] at hq
    rcases hq with rfl | rfl
    ·refine Zao ?_ ?_
     ·exact (fun h=>nomatch h)
     ·exact (fun h=>nomatch h)
    ·refine Zao ?_ ?_
     ·exact (fun h=>nomatch h)
     ·exact (fun h=>nomatch h)
   refine Zo (Zk (Zb _ c4 (Zc (zR (r:=b) (o:=0) T rfl) (Zc (zn (Y.box 2 rfl) rfl rfl) (Zb _ aC (Zc (zi (Y.sl 5 rfl) rfl rfl L) (Zc (Zbj (Y.sl 5 rfl) (Zg L) rfl rfl (by decide) rfl) ?_)))))))
   refine Zc (zS (Y.sl 5 rfl) rfl (Zg L) rfl) (zw (Y.bsl (E:=zM) (l:=[(gi n6 i1.toNat).get 1]) Y.fr (by rw [(zo (v:=.n ((gi n6 i1.toNat).get 1)) rfl ZaH)]; rfl) rfl) ?_)
   rintro c7 cJ ⟨eC,dj,aX⟩
   refine ckk hp fun b4 hp=>zw (aX.app (bytes:=8) 8 aX.fr rfl (aX.sl 10 rfl:Sl zM cJ c7 [(gi n6 i1.toNat).get 1]) rfl rfl (fun _=>rfl) b4 (by decide)) ?_
   rintro U cK ⟨dk,au⟩
   refine Zb U rfl (Ze (zD (Zc (zR (r:=b) (o:=0) T rfl) (Zc (zn (au.box 2 rfl) rfl rfl) (Zb U rfl (zw (au.bsl (E:=eV) (l:=[U]) au.fr (by rw [(zo (v:=U) rfl ZaH)]; simp only [fill,(au.sl 8 rfl:Sl zM cK U (way1++[(gi n6 i1.toNat).get 1])).cells]; simp [over]) rfl) ?_))))))
   rintro eM cL ⟨eD,dl,af⟩
   refine ckk hp fun b5 hp=>zw (af.appV (bytes:=24) 6 af.fr rfl (af.sl 11 rfl) rfl rfl (by simp only [List.all_cons,List.all_nil,Bool.and_true]; exact (af.sl 8 rfl:Sl zM cL U (way1++[(gi n6 i1.toNat).get 1])).oneV) (by rw [(af.allLen 7 rfl:(K).length=(n13).length)]; exact b5) (by decide)) ?_
   rintro bJ dV ⟨dm,cu⟩
   have aY:=cu.absorb 7 8 rfl rfl (by decide)
   refine Zc (zR (r:=b) (o:=0) T rfl) (zw (aY.stb (cs':=[aI,g,j,bJ]) 2 rfl rfl rfl (aY.sl 6 rfl).cells ⟨rfl,Nat.le_of_ble_eq_true rfl,(all_cons (aY.sl 6 rfl).oneV rfl)⟩ rfl) ?_)
   rintro _ dW ⟨rfl,dn,ed,cv⟩
   refine Zh (Zaa (Zo (zD (Zb _ aC (ckk hp fun b6 hp=>Zc (zf rfl rfl b6) (Zb (.n (i1 + 1)) rfl (Zh ?_)))))))
   cases hp
   exact ⟨rfl,aI,bJ,K++[U],c1,c5,T,rfl,(cv.pk [0,1,2,9,4,5,6,7])⟩
  ·refine Zbo (zK ?_)
   cases hp
   exact ⟨nofun,rfl,aj,F,K,bw,a8,(A.pk [1,2,3,4,5,6,7])⟩
 rintro ⟨n14,n15⟩ hp _ ev dK ⟨rfl,ak,al,aL,bv,c0,W⟩
 refine Zaw (Zo (Zk (Zc (Zbu (W.box 1 rfl) c0 rfl) (zw (W.stb (cs':=[ak,g,j,al]) 0 rfl bv rfl rfl ⟨rfl,Nat.le_of_ble_eq_true rfl,(all_cons (W.sl 2 rfl).oneV (all_cons (W.sl 3 rfl).oneV (all_cons (W.sl 4 rfl).oneV (all_cons (W.sl 5 rfl).oneV all_nil))))⟩ rfl) ?_))))
 rintro _ dX ⟨rfl,dp,d5,bi⟩
 refine Ze (Zav (z8 (Zgb bv (bi.box 0 rfl) rfl ZQ) ?_))
 cases hp
 exact ⟨ak,g,j,al,aL,rfl,(bi.pk [2,3,4,5,6])⟩

end Mu
