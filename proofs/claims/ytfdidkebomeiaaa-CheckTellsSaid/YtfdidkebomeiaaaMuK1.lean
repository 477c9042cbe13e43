/- The law, plainly: what is worked out. -/
import Derived.Test.YtfdidkebomeiaaaMuV
import Derived.Test.YtfdidkebomeiaaaMuDf
import Derived.Test.YtfdidkebomeiaaaMuK0
/- Layer 26: CheckTells. -/
set_option linter.unusedVariables false
set_option linter.unusedSimpArgs false
set_option maxRecDepth 10000
namespace Mu
theorem Zio:ZbW = some true:=by decide +kernel
theorem Ziq {F:Int→Option (Int ⊕ (Unit ⊕ Unit))} {n:Nat} {P:Nat→Bool} (hn:n≤1000000) (he:F n = some (.inr (.inl ()))):∀ (m s:Nat),s + m = n→(∀ i:Nat,s≤i→i < n→F i = some (if P i = true then .inr (.inr ()) else .inl ((i:Int) + 1)))→∃ r,ZT F (m + 1) (s:Int) = some r∧(r = .inr ()↔∃ i,s≤i∧i < n∧P i = true)
 | 0,s,hs,h=>by
  have:s = n:=by omega
  subst this
  refine ⟨.inl (),by rw [ZT,he],?_⟩
  constructor
  ·intro h; cases h
  ·rintro ⟨i,h1,h2,_⟩; omega
 | m + 1,s,hs,h=>by
  rw [ZT,h s (Nat.le_refl _) (by omega)]
  by_cases c:P s = true
  ·rw [if_pos c]
   exact ⟨_,rfl,fun _=>⟨s,Nat.le_refl _,by omega,c⟩,fun _=>rfl⟩
  ·rw [if_neg c]
   dsimp only
   obtain ⟨r,e1,e2⟩:=Ziq hn he m (s + 1) (by omega) (fun i h1 h2=>h i (by omega) h2)
   rw [show ((s + 1:Nat):Int) = (s:Int) + 1 by omega] at e1
   refine ⟨r,e1,e2.trans ⟨?_,?_⟩⟩
   ·rintro ⟨i,h1,h2,h3⟩; exact ⟨i,by omega,h2,h3⟩
   ·rintro ⟨i,h1,h2,h3⟩
    by_cases q:i = s
    ·subst q; exact absurd h3 c
    ·exact ⟨i,by omega,h2,h3⟩
theorem ZeB {F:Int→Option (Int ⊕ (Unit ⊕ Unit))} {n s:Nat} {P:Nat→Bool} (hn:n≤1000000) (hs:s≤n) (he:F n = some (.inr (.inl ()))) (h:∀ i:Nat,s≤i→i < n→F i = some (if P i = true then .inr (.inr ()) else .inl ((i:Int) + 1))):∃ r,ZT F big (s:Int) = some r∧(r = .inr ()↔∃ i,s≤i∧i < n∧P i = true):=by
 obtain ⟨r,e1,e2⟩:=Ziq hn he (n - s) s (by omega) h
 exact ⟨r,ZcI e1 (by unfold big; omega),e2⟩
def LNo (b:Bool) (L:List (List Int)) (n:Nat):List (Bool × Nat):=((List.range n).filter fun i=>decide (1 < (gi L i).length)).map fun i=>(b,i)
def LN (V H:List (List Int)):List (Bool × Nat):=LNo true V V.length++LNo false H H.length
def Zc7 (p:Bool × Nat):Zai:=⟨p.1,p.2⟩
def ZcW (p:Bool × Nat):ZY:=⟨p.1,p.2⟩
theorem Zev {b:Bool} {L:List (List Int)} {n:Nat}:(LNo b L n).length≤n:=by
 unfold LNo
 rw [List.length_map]
 have:=List.length_filter_le (fun i=>decide (1 < (gi L i).length)) (List.range n)
 simpa using this
theorem ZfG {b:Bool} {L:List (List Int)} {n:Nat}:LNo b L (n + 1) = if 1 < (gi L n).length then LNo b L n++[(b,n)] else LNo b L n:=by
 unfold LNo
 rw [List.range_succ,List.filter_append,List.map_append]
 by_cases c:1 < (gi L n).length
 ·rw [if_pos c,List.filter_cons,if_pos (by simpa using c)]; rfl
 ·rw [if_neg c,List.filter_cons,if_neg (by simpa using c)]; simp
theorem Zmc {X Y:List Int} {V H:List (List Int)} (hV:V.length≤1000) (hH:H.length≤1000):Zbc ⟨X,Y,V,H⟩ = some ((LN V H).map Zc7):=by
 have l0:ZT (Zbc.s0 ⟨X,Y,V,H⟩) big (([]:List Zai),0) = some ((LNo true V V.length).map Zc7):=by
  refine ZbJ (fun n:Nat=>((LNo true V n).map Zc7,(n:Int))) (n:=V.length) (ZaI (by omega)) rfl (fun n hn=>?_) ?_
  ·have:=Zev (b:=true) (L:=V) (n:=n)
   simp only [Zbc.s0,Int.toNat_natCast]
   rw [ZA (by omega),Z4 (by omega),ZfG]
   by_cases c:1 < (gi V n).length
   ·rw [ZA (by omega),Z4 (by simp; omega),zE (by omega),if_pos c,show ((n + 1:Nat):Int) = (n:Int) + 1 by omega,List.map_append]; rfl
   ·rw [ZC (by omega),zE (by omega),if_neg c,show ((n + 1:Nat):Int) = (n:Int) + 1 by omega]
  ·simp only [Zbc.s0]
   rw [ZC (by omega)]
 have l1:ZT (Zbc.s1 ⟨X,Y,V,H⟩) big ((LNo true V V.length).map Zc7,0) = some ((LN V H).map Zc7):=by
  refine ZbJ (fun n:Nat=>((LNo true V V.length++LNo false H n).map Zc7,(n:Int))) (n:=H.length) (ZaI (by omega)) (by simp [LNo]) (fun n hn=>?_) ?_
  ·have a:=Zev (b:=false) (L:=H) (n:=n)
   have b:=Zev (b:=true) (L:=V) (n:=V.length)
   simp only [Zbc.s1,Int.toNat_natCast]
   rw [ZA (by omega),Z4 (by omega),ZfG]
   by_cases c:1 < (gi H n).length
   ·rw [ZA (by omega),Z4 (by simp; omega),zE (by omega),if_pos c,show ((n + 1:Nat):Int) = (n:Int) + 1 by omega,← List.append_assoc,List.map_append (l₂:=[(false,n)])]; rfl
   ·rw [ZC (by omega),zE (by omega),if_neg c,show ((n + 1:Nat):Int) = (n:Int) + 1 by omega]
  ·simp only [Zbc.s1]
   rw [ZC (by omega)]
   rfl
 unfold Zbc
 rw [l0,Option.bind_some,l1,Option.bind_some]
theorem Zmv {X Y:List Int} {V H:List (List Int)} (hV:V.length≤1000) (hH:H.length≤1000):zJ ⟨X,Y,V,H⟩ = some ((LN V H).map ZcW):=by
 have l0:ZT (zJ.s0 ⟨X,Y,V,H⟩) big (([]:List ZY),0) = some ((LNo true V V.length).map ZcW):=by
  refine ZbJ (fun n:Nat=>((LNo true V n).map ZcW,(n:Int))) (n:=V.length) (ZaI (by omega)) rfl (fun n hn=>?_) ?_
  ·have:=Zev (b:=true) (L:=V) (n:=n)
   simp only [zJ.s0,Int.toNat_natCast]
   rw [ZA (by omega),Z4 (by omega),ZfG]
   by_cases c:1 < (gi V n).length
   ·rw [ZA (by omega),Z4 (by simp; omega),zE (by omega),if_pos c,show ((n + 1:Nat):Int) = (n:Int) + 1 by omega,List.map_append]; rfl
   ·rw [ZC (by omega),zE (by omega),if_neg c,show ((n + 1:Nat):Int) = (n:Int) + 1 by omega]
  ·simp only [zJ.s0]
   rw [ZC (by omega)]
 have l1:ZT (zJ.s1 ⟨X,Y,V,H⟩) big ((LNo true V V.length).map ZcW,0) = some ((LN V H).map ZcW):=by
  refine ZbJ (fun n:Nat=>((LNo true V V.length++LNo false H n).map ZcW,(n:Int))) (n:=H.length) (ZaI (by omega)) (by simp [LNo]) (fun n hn=>?_) ?_
  ·have a:=Zev (b:=false) (L:=H) (n:=n)
   have b:=Zev (b:=true) (L:=V) (n:=V.length)
   simp only [zJ.s1,Int.toNat_natCast]
   rw [ZA (by omega),Z4 (by omega),ZfG]
   by_cases c:1 < (gi H n).length
   ·rw [ZA (by omega),Z4 (by simp; omega),zE (by omega),if_pos c,show ((n + 1:Nat):Int) = (n:Int) + 1 by omega,← List.append_assoc,List.map_append (l₂:=[(false,n)])]; rfl
   ·rw [ZC (by omega),zE (by omega),if_neg c,show ((n + 1:Nat):Int) = (n:Int) + 1 by omega]
  ·simp only [zJ.s1]
   rw [ZC (by omega)]
   rfl
 unfold zJ
 rw [l0,Option.bind_some,l1,Option.bind_some]
theorem Zkm {V H:List (List Int)} {p:Bool × Nat} (h:p∈LN V H):p.2 < (if p.1 = true then V else H).length:=by
 unfold LN LNo at h
 rcases List.mem_append.1 h with q | q
 ·obtain ⟨i,hi,rfl⟩:=List.mem_map.1 q
  have:=List.mem_range.1 (List.mem_filter.1 hi).1
  simpa using this
 ·obtain ⟨i,hi,rfl⟩:=List.mem_map.1 q
  have:=List.mem_range.1 (List.mem_filter.1 hi).1
  simpa using this
def ZeX (V H:List (List Int)) (p:List Zf) (a:Bool × Nat):Zf:=gi p (gi (gi (if a.1 = true then V else H) a.2) 0).toNat
def ZeY (V H:List (List Int)) (p:List Zf) (a:Bool × Nat):Zf:=gi p (gi (gi (if a.1 = true then V else H) a.2) ((gi (if a.1 = true then V else H) a.2).length - 1)).toNat
structure Zi3 (n:Nat) (L:List (List Int)):Prop where
 ne:∀ i,i < L.length→0 < (gi L i).length∧(gi L i).length≤1000000
 lt:∀ i,i < L.length→∀ k,k < (gi L i).length→0≤gi (gi L i) k∧gi (gi L i) k < n
theorem CH.ok {l:List Ze} (hc:Ck l) (hl:l.length≤1000) {d:Nat} (hd:d < 4) {a:List Int} {L:List (List Int)} (h:CH l d a L):Zi3 l.length L:=⟨fun i hi=>⟨(h.ch i hi).ne,by have:=(h.ch i hi).len hc hd; omega⟩,fun i hi=>(h.ch i hi).lt⟩
theorem Zkk {n:Nat} {X Y:List Int} {V H:List (List Int)} (hV:Zi3 n V) (hH:Zi3 n H) {p:List Zf} (hp:p.length = n) {a:Bool × Nat} (ha:a∈LN V H):Zch ⟨X,Y,V,H⟩ (Zc7 a) p = some ⟨ZeX V H p a,ZeY V H p a⟩:=by
 have hm:=Zkm ha
 unfold Zch ZeX ZeY Zc7
 have e:(if a.1 = true then some V else some H) = some (if a.1 = true then V else H):=by cases a.1 <;> rfl
 have hL:Zi3 n (if a.1 = true then V else H):=by split <;> assumption
 dsimp only
 rw [e,Option.bind_some]
 generalize (if a.1 = true then V else H) = L at *
 have h1:=hL.ne a.2 hm
 have h2:=hL.lt a.2 hm 0 h1.1
 have h3:=hL.lt a.2 hm ((gi L a.2).length - 1) (by omega)
 rw [Int.toNat_natCast,show (0:Int).toNat = 0 from rfl,show (((gi L a.2).length:Int) - 1).toNat = (gi L a.2).length - 1 by omega,Z4 (by omega),Z4 (by omega),Z4 (by omega),zE (by omega),Z4 (by omega),Z4 (by omega)]
theorem Zlz {n:Nat} {X Y:List Int} {V H:List (List Int)} (hV:Zi3 n V) (hH:Zi3 n H) {p:List Zf} (hp:p.length = n) {a:Bool × Nat} (ha:a∈LN V H):Zbo ⟨X,Y,V,H⟩ (ZcW a) p = some (ZeX V H p a,ZeY V H p a):=by
 have hm:=Zkm ha
 unfold Zbo ZeX ZeY ZcW
 have e:(if a.1 = true then some V else some H) = some (if a.1 = true then V else H):=by cases a.1 <;> rfl
 have hL:Zi3 n (if a.1 = true then V else H):=by split <;> assumption
 dsimp only
 rw [e,Option.bind_some]
 generalize (if a.1 = true then V else H) = L at *
 have h1:=hL.ne a.2 hm
 have h2:=hL.lt a.2 hm 0 h1.1
 have h3:=hL.lt a.2 hm ((gi L a.2).length - 1) (by omega)
 rw [Int.toNat_natCast,show (0:Int).toNat = 0 from rfl,show (((gi L a.2).length:Int) - 1).toNat = (gi L a.2).length - 1 by omega,Z4 (by omega),Z4 (by omega),Z4 (by omega),zE (by omega),Z4 (by omega),Z4 (by omega)]
def ZgL (a b c d:Zf):Bool:=(((decide (b.X < c.X)) || (decide (d.X < a.X))) || (decide (b.Y < c.Y))) || (decide (d.Y < a.Y))
theorem Zkd {α:Type} [Inhabited α] {l:List α} {n i:Nat}:gi (l.drop n) i = gi l (n + i):=by
 unfold gi; simp
theorem Zma {l:List Ze} (hc:Ck l) (hl:l.length≤64) {X Y:List Int} {V H:List (List Int)} (cx:CH l 1 X V) (cy:CH l 0 Y H) {p:List Zf} (hp:p.length = l.length) (hs:Zcg l = some (⟨X,Y,V,H⟩,0)) (hr:ZaW l = some (⟨X,Y,V,H⟩,true)) (hst:∀ v,v < l.length→okE l p v 0∧okE l p v 1):∃ b,Zab l p = some b∧z8 l p = some (!b):=by
 have oV:=cx.ok hc (by omega) (by omega)
 have oH:=cy.ok hc (by omega) (by omega)
 have x3:=cx.Ll
 have y3:=cy.Ll
 have ll:(LN V H).length≤2000:=by
  unfold LN
  rw [List.length_append]
  have a:=Zev (b:=true) (L:=V) (n:=V.length)
  have b:=Zev (b:=false) (L:=H) (n:=H.length)
  omega
 obtain ⟨M,hM⟩:∃ M:Bool × Nat→Bool × Nat→Bool,∀ a b,Zbb ⟨X,Y,V,H⟩ a.1 a.2 b.1 b.2 = some (M a b)∧Zao ⟨X,Y,V,H⟩ a.1 a.2 b.1 b.2 = some (M a b):=by
  have:∀ q:(Bool × Nat) × (Bool × Nat),∃ m:Bool,Zbb ⟨X,Y,V,H⟩ q.1.1 q.1.2 q.2.1 q.2.2 = some m∧Zao ⟨X,Y,V,H⟩ q.1.1 q.1.2 q.2.1 q.2.2 = some m:=fun q=>Zni hc hl cx cy q.1.1 q.2.1 q.1.2 q.2.2
  exact ⟨fun a b=>(this (a,b)).choose,fun a b=>(this (a,b)).choose_spec⟩
 have n1:((LN V H).map Zc7).length = (LN V H).length:=by simp
 have n2:((LN V H).map ZcW).length = (LN V H).length:=by simp
 obtain ⟨P,hP⟩:∃ P:Nat→Nat→Bool,P = fun i k=>!ZgL (ZeX V H p (gi (LN V H) i)) (ZeY V H p (gi (LN V H) i)) (ZeX V H p (gi (LN V H) k)) (ZeY V H p (gi (LN V H) k)) && !M (gi (LN V H) i) (gi (LN V H) k):=⟨_,rfl⟩
 -- the code
 have inner:∀ i,i < (LN V H).length→∃ r,ZT (Zab.s1 p ⟨X,Y,V,H⟩ ((LN V H).map Zc7) i ⟨ZeX V H p (gi (LN V H) i),ZeY V H p (gi (LN V H) i)⟩) big 0 = some r∧(r = .inr ()↔∃ k,i < k∧k < (LN V H).length∧P i k = true):=by
  intro i hi
  have dl:(((LN V H).map Zc7).drop (i + 1)).length = (LN V H).length - (i + 1):=by rw [List.length_drop,n1]
  obtain ⟨r,e1,e2⟩:=ZeB (F:=Zab.s1 p ⟨X,Y,V,H⟩ ((LN V H).map Zc7) i ⟨ZeX V H p (gi (LN V H) i),ZeY V H p (gi (LN V H) i)⟩) (n:=(LN V H).length - (i + 1)) (s:=0) (P:=fun j=>P i (i + 1 + j)) (by omega) (by omega) (by
   simp only [Zab.s1]
   rw [show ((i:Int) + 1).toNat = i + 1 by omega,ZC (by rw [dl]; omega)]) (fun j _ hj=>by
   have hk:i + 1 + j < (LN V H).length:=by omega
   have sp:=Zkk (X:=X) (Y:=Y) oV oH hp (Zcp hk)
   have g1:gi (((LN V H).map Zc7).drop (i + 1)) j = Zc7 (gi (LN V H) (i + 1 + j)):=by rw [Zkd,Zdr hk]
   have g2:gi ((LN V H).map Zc7) i = Zc7 (gi (LN V H) i):=Zdr hi
   have me:=(hM (gi (LN V H) i) (gi (LN V H) (i + 1 + j))).1
   simp only [Zab.s1,Int.toNat_natCast]
   rw [show ((i:Int) + 1).toNat = i + 1 by omega,ZA (by rw [dl]; omega),Z4 (by rw [dl]; omega),g1,g2,sp,Option.bind_some]
   have ap:Zci ⟨ZeX V H p (gi (LN V H) i),ZeY V H p (gi (LN V H) i)⟩ ⟨ZeX V H p (gi (LN V H) (i + 1 + j)),ZeY V H p (gi (LN V H) (i + 1 + j))⟩ = some (ZgL (ZeX V H p (gi (LN V H) i)) (ZeY V H p (gi (LN V H) i)) (ZeX V H p (gi (LN V H) (i + 1 + j))) (ZeY V H p (gi (LN V H) (i + 1 + j)))):=rfl
   have me':Zbb ⟨X,Y,V,H⟩ (Zc7 (gi (LN V H) i)).Vertical (Zc7 (gi (LN V H) i)).Place (Zc7 (gi (LN V H) (i + 1 + j))).Vertical (Zc7 (gi (LN V H) (i + 1 + j))).Place = some (M (gi (LN V H) i) (gi (LN V H) (i + 1 + j))):=me
   have pv:P i (i + 1 + j) = (!ZgL (ZeX V H p (gi (LN V H) i)) (ZeY V H p (gi (LN V H) i)) (ZeX V H p (gi (LN V H) (i + 1 + j))) (ZeY V H p (gi (LN V H) (i + 1 + j))) && !M (gi (LN V H) i) (gi (LN V H) (i + 1 + j))):=by rw [hP]
   obtain ⟨ab,hab⟩:∃ ab,ZgL (ZeX V H p (gi (LN V H) i)) (ZeY V H p (gi (LN V H) i)) (ZeX V H p (gi (LN V H) (i + 1 + j))) (ZeY V H p (gi (LN V H) (i + 1 + j))) = ab:=⟨_,rfl⟩
   obtain ⟨mb,hmb⟩:∃ mb,M (gi (LN V H) i) (gi (LN V H) (i + 1 + j)) = mb:=⟨_,rfl⟩
   rw [hab,hmb] at pv
   rw [hmb] at me'
   rw [ap,Option.bind_some,hab,pv,me']
   cases ab with
   | true=>rw [if_neg (by decide),zE (by omega)]; rfl
   | false =>
    rw [if_pos (by decide),Option.bind_some]
    cases mb with
    | true=>rw [if_neg (by decide),zE (by omega)]; rfl
    | false=>rfl)
  refine ⟨r,e1,e2.trans ⟨?_,?_⟩⟩
  ·rintro ⟨j,_,h1,h2⟩; exact ⟨i + 1 + j,by omega,by omega,h2⟩
  ·rintro ⟨k,h1,h2,h3⟩; exact ⟨k - (i + 1),by omega,by omega,by rw [show i + 1 + (k - (i + 1)) = k by omega]; exact h3⟩
 have outer:∃ r,ZT (Zab.s0 p ⟨X,Y,V,H⟩ ((LN V H).map Zc7)) big 0 = some r∧(r = .inr ()↔∃ i k,i < k∧k < (LN V H).length∧P i k = true):=by
  have hdec:∀ i,∃ b:Bool,(b = true↔∃ k,i < k∧k < (LN V H).length∧P i k = true):=fun i=>⟨@decide (∃ k,i < k∧k < (LN V H).length∧P i k = true) (Classical.propDecidable _),by simp⟩
  obtain ⟨Q,hQ⟩:∃ Q:Nat→Bool,∀ i,(Q i = true↔∃ k,i < k∧k < (LN V H).length∧P i k = true):=⟨fun i=>(hdec i).choose,fun i=>(hdec i).choose_spec⟩
  obtain ⟨r,e1,e2⟩:=ZeB (F:=Zab.s0 p ⟨X,Y,V,H⟩ ((LN V H).map Zc7)) (n:=(LN V H).length) (s:=0) (P:=Q) (by omega) (by omega) (by
   simp only [Zab.s0]
   rw [ZC (by rw [n1]; omega)]) (fun i _ hi=>by
   have sp:=Zkk (X:=X) (Y:=Y) oV oH hp (Zcp hi)
   have g2:gi ((LN V H).map Zc7) i = Zc7 (gi (LN V H) i):=Zdr hi
   obtain ⟨r,r1,r2⟩:=inner i hi
   simp only [Zab.s0,Int.toNat_natCast]
   rw [ZA (by rw [n1]; omega),Z4 (by rw [n1]; omega),g2,sp,Option.bind_some,zE (by omega),Z4 (by rw [n1]; omega),r1,Option.bind_some]
   cases r with
   | inl u =>
    rw [if_neg]
    intro q
    have:=r2.2 ((hQ i).1 q)
    cases this
   | inr u =>
    rw [if_pos ((hQ i).2 (r2.1 rfl))])
  refine ⟨r,e1,e2.trans ⟨?_,?_⟩⟩
  ·rintro ⟨i,_,h1,h2⟩
   obtain ⟨k,k1,k2,k3⟩:=(hQ i).1 h2
   exact ⟨i,k,k1,k2,k3⟩
  ·rintro ⟨i,k,k1,k2,k3⟩
   exact ⟨i,by omega,by omega,(hQ i).2 ⟨k,k1,k2,k3⟩⟩
 -- the document
 have innerR:∀ i,i < (LN V H).length→∃ r,ZT (z8.s1 p ⟨X,Y,V,H⟩ ((LN V H).map ZcW) i) big ((i:Int) + 1) = some r∧(r = .inr ()↔∃ k,i < k∧k < (LN V H).length∧P i k = true):=by
  intro i hi
  obtain ⟨r,e1,e2⟩:=ZeB (F:=z8.s1 p ⟨X,Y,V,H⟩ ((LN V H).map ZcW) i) (n:=(LN V H).length) (s:=i + 1) (P:=P i) (by omega) (by omega) (by
   simp only [z8.s1]
   rw [ZC (by rw [n2]; omega)]) (fun k _ hk=>by
   have s1:=Zlz (X:=X) (Y:=Y) oV oH hp (Zcp hi)
   have s2:=Zlz (X:=X) (Y:=Y) oV oH hp (Zcp hk)
   have g1:gi ((LN V H).map ZcW) k = ZcW (gi (LN V H) k):=Zdr hk
   have g2:gi ((LN V H).map ZcW) i = ZcW (gi (LN V H) i):=Zdr hi
   have me:=(hM (gi (LN V H) i) (gi (LN V H) k)).2
   have me':Zao ⟨X,Y,V,H⟩ (ZcW (gi (LN V H) i)).Vertical (ZcW (gi (LN V H) i)).Place (ZcW (gi (LN V H) k)).Vertical (ZcW (gi (LN V H) k)).Place = some (M (gi (LN V H) i) (gi (LN V H) k)):=me
   simp only [z8.s1,Int.toNat_natCast]
   rw [ZA (by rw [n2]; omega),Z4 (by rw [n2]; omega),Z4 (by rw [n2]; omega),g1,g2,me',Option.bind_some,s1,Option.bind_some]
   dsimp only
   rw [s2,Option.bind_some]
   dsimp only
   show (if ((!M (gi (LN V H) i) (gi (LN V H) k)) && (!ZgL (ZeX V H p (gi (LN V H) i)) (ZeY V H p (gi (LN V H) i)) (ZeX V H p (gi (LN V H) k)) (ZeY V H p (gi (LN V H) k)))) = true then _ else _) = _
   rw [hP,zE (by omega)]
   dsimp only
   rw [Bool.and_comm]
   split <;> rfl)
  rw [show ((i + 1:Nat):Int) = (i:Int) + 1 by omega] at e1
  exact ⟨r,e1,e2.trans ⟨fun ⟨k,a,b,c⟩=>⟨k,by omega,b,c⟩,fun ⟨k,a,b,c⟩=>⟨k,by omega,b,c⟩⟩⟩
 have outerR:∃ r,ZT (z8.s0 p ⟨X,Y,V,H⟩ ((LN V H).map ZcW)) big 0 = some r∧(r = .inr ()↔∃ i k,i < k∧k < (LN V H).length∧P i k = true):=by
  have hdec:∀ i,∃ b:Bool,(b = true↔∃ k,i < k∧k < (LN V H).length∧P i k = true):=fun i=>⟨@decide (∃ k,i < k∧k < (LN V H).length∧P i k = true) (Classical.propDecidable _),by simp⟩
  obtain ⟨Q,hQ⟩:∃ Q:Nat→Bool,∀ i,(Q i = true↔∃ k,i < k∧k < (LN V H).length∧P i k = true):=⟨fun i=>(hdec i).choose,fun i=>(hdec i).choose_spec⟩
  obtain ⟨r,e1,e2⟩:=ZeB (F:=z8.s0 p ⟨X,Y,V,H⟩ ((LN V H).map ZcW)) (n:=(LN V H).length) (s:=0) (P:=Q) (by omega) (by omega) (by
   simp only [z8.s0]
   rw [ZC (by rw [n2]; omega)]) (fun i _ hi=>by
   obtain ⟨r,r1,r2⟩:=innerR i hi
   simp only [z8.s0]
   rw [ZA (by rw [n2]; omega),zE (by omega),r1,Option.bind_some]
   cases r with
   | inl u =>
    rw [if_neg]
    intro q
    have:=r2.2 ((hQ i).1 q)
    cases this
   | inr u =>
    rw [if_pos ((hQ i).2 (r2.1 rfl))])
  refine ⟨r,e1,e2.trans ⟨?_,?_⟩⟩
  ·rintro ⟨i,_,h1,h2⟩
   obtain ⟨k,k1,k2,k3⟩:=(hQ i).1 h2
   exact ⟨i,k,k1,k2,k3⟩
  ·rintro ⟨i,k,k1,k2,k3⟩
   exact ⟨i,by omega,by omega,(hQ i).2 ⟨k,k1,k2,k3⟩⟩
 obtain ⟨r,a1,a2⟩:=outer
 obtain ⟨r',b1,b2⟩:=outerR
 have rr:r = .inr ()↔r' = .inr ():=a2.trans b2.symm
 have c1:Zab l p = some r.isRight:=by
  unfold Zab
  have sl:ZcL l = some ((LN V H).map Zc7,0):=by
   unfold ZcL
   rw [hs,Option.bind_some]
   dsimp only
   rw [Za3 rfl,Zmc (by omega) (by omega),Option.bind_some]
  rw [hs,Option.bind_some]
  dsimp only
  rw [sl,Option.bind_some]
  dsimp only
  rw [a1,Option.bind_some]
  cases r <;> rfl
 have c2:z8 l p = some r'.isLeft:=by
  unfold z8
  rw [Za3 (by omega),ZhG hc hl hp,Option.bind_some,Zbz hst,if_neg (by decide),hr,Option.bind_some]
  dsimp only
  rw [Zmv (by omega) (by omega),Option.bind_some,b1,Option.bind_some]
  cases r' <;> rfl
 refine ⟨_,c1,?_⟩
 rw [c2]
 cases r with
 | inl u =>
  cases r' with
  | inl u'=>rfl
  | inr u'=>exact absurd (rr.2 rfl) (by simp)
 | inr u =>
  cases r' with
  | inl u'=>exact absurd (rr.1 rfl) (by simp)
  | inr u'=>rfl
def ZgP (q:Zf):Bool:=(((decide (1000000 < q.X)) || (decide (q.X < (-1000000)))) || (decide (1000000 < q.Y))) || (decide (q.Y < (-1000000)))
theorem ZmX {p:List Zf} (hp:p.length≤1000000):∃ r,ZT (Za5.s0 p) big 0 = some r∧(r = .inr ()↔¬ ZfH p):=by
 obtain ⟨r,e1,e2⟩:=ZeB (F:=Za5.s0 p) (n:=p.length) (s:=0) (P:=fun i=>ZgP (gi p i)) hp (by omega) (by
  simp only [Za5.s0]
  rw [ZC (by omega)]) (fun i _ hi=>by
  simp only [Za5.s0,Int.toNat_natCast]
  rw [ZA (by omega),Z4 (by omega),zE (by omega)]
  show (if ZgP (gi p i) = true then _ else _) = _
  split <;> rfl)
 refine ⟨r,e1,e2.trans ⟨?_,?_⟩⟩
 ·rintro ⟨i,_,h1,h2⟩ hn
  have:=hn i h1
  simp [ZgP] at h2
  omega
 ·intro hn
  refine Classical.byContradiction fun hh=>hn fun i hi=>?_
  have:¬ ZgP (gi p i) = true:=fun q=>hh ⟨i,by omega,hi,q⟩
  simp [ZgP] at this
  omega
theorem Znl {l:List Ze} {pts:List Zf} (hM:Made l pts) (hl:l.length≤64) {p:List Zf} (hp:p.length≤1000):∃ e,Zb8 l p = some e∧Za5 l p = some e:=by
 have hc:=hM.ck
 have hA:AllCh l 1∧AllCh l 0:=⟨hM.allCh (by omega),hM.allCh (by omega)⟩
 obtain ⟨X,Y,V,H,s1,s2,cx,cy⟩:=((Zmh (l:=l) (by omega)).2 (Zd6.2 ⟨by omega,hc⟩)).1 hA
 unfold Zb8 Za5
 rw [Zla (by omega),Option.bind_some,Zmw (by omega),Option.bind_some]
 dsimp only
 by_cases e:Zfu l = 0
 ·rw [Za3 e,Za3 e]
  by_cases n:p.length = l.length
  ·rw [Za3 (show (p.length:Int) = (l.length:Int) by omega)]
   obtain ⟨r,f1,f2⟩:=ZmX (p:=p) (by omega)
   rw [f1]
   by_cases q:ZfH p
   ·have:r = .inl ():=by
     cases r with
     | inl u=>rfl
     | inr u=>exact absurd q (f2.1 rfl)
    rw [this,ZkX hc hl n q,ZhG hc hl n]
    by_cases st:∀ v,v < l.length→okE l p v 0∧okE l p v 1
    ·obtain ⟨b,k1,k2⟩:=Zma hc hl cx cy n s1 s2 st
     rw [if_pos st,Zbz st,Option.bind_some,Option.bind_some]
     dsimp only
     rw [Za3 rfl,k1,Option.bind_some,Option.bind_some,if_neg (show ¬ (!true) = true by decide),k2,Option.bind_some]
     cases b <;> exact ⟨_,rfl,rfl⟩
    ·rw [if_neg st,ZbD st,Option.bind_some,Option.bind_some]
     exact ⟨15,rfl,rfl⟩
   ·have:r = .inr ():=f2.2 q
    rw [this,Zh8 hc hl hp (.inr q)]
    exact ⟨2,rfl,rfl⟩
  ·rw [Zba (show ¬ (p.length:Int) = (l.length:Int) by omega),Zh8 hc hl hp (.inl n)]
   exact ⟨2,rfl,rfl⟩
 ·rw [Zba e,Zba e]
  exact ⟨_,rfl,rfl⟩
/-! Stretched. -/
def All10 (P:Int→Prop) (x:A10 Int):Prop:=P x.a∧P x.b∧P x.c∧P x.d∧P x.e∧P x.f∧P x.g∧P x.h∧P x.i∧P x.j
theorem All10.get {P:Int→Prop} {x:A10 Int} (h:All10 P x) (i:Int):P (x.get i):=by
 obtain ⟨h0,h1,h2,h3,h4,h5,h6,h7,h8,h9⟩:=h
 unfold A10.get
 repeat' split
 all_goals assumption
theorem All10.set {P:Int→Prop} {x:A10 Int} (h:All10 P x) (i:Int) {v:Int} (hv:P v):All10 P (x.set i v):=by
 obtain ⟨h0,h1,h2,h3,h4,h5,h6,h7,h8,h9⟩:=h
 unfold A10.set
 repeat' split
 all_goals exact ⟨by assumption,by assumption,by assumption,by assumption,by assumption,by assumption,by assumption,by assumption,by assumption,by assumption⟩
theorem All10.mono {P Q:Int→Prop} {x:A10 Int} (h:All10 P x) (hq:∀ v,P v→Q v):All10 Q x:=by
 obtain ⟨h0,h1,h2,h3,h4,h5,h6,h7,h8,h9⟩:=h
 exact ⟨hq _ h0,hq _ h1,hq _ h2,hq _ h3,hq _ h4,hq _ h5,hq _ h6,hq _ h7,hq _ h8,hq _ h9⟩
theorem Zgl {a n:Int} (ha:0≤a) (hn:0 < n):0≤a.tmod n∧a.tmod n < n:=by
 rw [Int.tmod_eq_emod_of_nonneg ha]
 exact ⟨Int.emod_nonneg _ (by omega),Int.emod_lt_of_pos _ hn⟩
theorem ZiK {pts:List Zf} (h:Pts pts) (hl:pts.length≤1000) {steps:List Int} (hs:∀ y∈steps,ZfI y):∃ r,zz pts steps = some r∧r.length = pts.length:=by
 have val:∀ k:Int,0≤k→k≤100→∃ s,(if decide (k < (steps.length:Int)) = true then ck ((0:Int)≤k∧k < (steps.length:Int)) <| ck (inK .i64 (gi steps k.toNat)) <| ck (Zal (1 + ((gi steps k.toNat).tmod 5))) <| some (1 + ((gi steps k.toNat).tmod 5)) else some 1) = some s∧0≤s∧s≤5:=by
  intro k h0 h1
  by_cases c:k < (steps.length:Int)
  ·have b:0≤gi steps k.toNat∧gi steps k.toNat≤255:=(hs _ (Zcp (by omega))).u8
   have t:=Zgl (a:=gi steps k.toNat) (n:=5) (by omega) (by omega)
   rw [ZA c,Z4 (by omega),ZcB (by omega),zE (by omega)]
   exact ⟨_,rfl,by omega,by omega⟩
  ·rw [ZC c]
   exact ⟨_,rfl,by omega,by omega⟩
 have L0:∃ r,ZT (zz.s0 steps) big ((⟨0,0,0,0,0,0,0,0,0,0⟩:A10 Int),(⟨0,0,0,0,0,0,0,0,0,0⟩:A10 Int),1) = some r∧True:=by
  refine ZdA (μ:=fun s=>(10 - s.2.2).toNat) (I:=fun s=>(1≤s.2.2∧s.2.2≤10)∧All10 (fun v=>0≤v∧v≤5 * s.2.2) s.1∧All10 (fun v=>0≤v∧v≤5 * s.2.2) s.2.1) (by dsimp only; unfold big; omega) ⟨by dsimp only; omega,by unfold All10; dsimp only; omega,by unfold All10; dsimp only; omega⟩ ?_
  rintro ⟨x,y,i⟩ ⟨h1,h2,h3⟩
  dsimp only at h1 h2 h3 ⊢
  simp only [zz.s0]
  by_cases c:i < 10
  ·refine .inl ?_
   obtain ⟨s,s1,s2⟩:=val (2 * i) (by omega) (by omega)
   obtain ⟨t,t1,t2⟩:=val (2 * i + 1) (by omega) (by omega)
   have gx:=h2.get (i - 1)
   have gy:=h3.get (i - 1)
   rw [ZA c,zE (by omega),s1,Option.bind_some,zE (by omega),t1,Option.bind_some,zE (by omega),Z4 (by omega),zE (by omega),Z4 (by omega),zE (by omega),zE (by omega)]
   refine ⟨_,rfl,⟨by dsimp only; omega,?_,?_⟩,by dsimp only; omega⟩
   ·exact (h2.mono (fun v hv=>by dsimp only at hv ⊢; omega)).set i (by dsimp only; omega)
   ·exact (h3.mono (fun v hv=>by dsimp only at hv ⊢; omega)).set i (by dsimp only; omega)
  ·refine .inr ?_
   rw [ZC c]
   exact ⟨_,rfl,trivial⟩
 obtain ⟨⟨x,y⟩,e0,_⟩:=L0
 have L1:∃ r,ZT (zz.s1 pts x y) big (([]:List Zf),0) = some r∧r.length = pts.length:=by
  refine Zcf (fun (k:Nat) (s:List Zf × Int)=>s.1.length = k∧s.2 = k) (n:=pts.length) (ZaI (by omega)) ⟨rfl,rfl⟩ ?_ ?_
  ·rintro k ⟨r,j⟩ hk ⟨h1,h3⟩
   dsimp only at h1 h3 ⊢
   subst h3
   have b:=h.b k hk
   have t1:=Zgl (a:=(gi pts k).X) (n:=10) (by omega) (by omega)
   have t2:=Zgl (a:=(gi pts k).Y) (n:=10) (by omega) (by omega)
   simp only [zz.s1,Int.toNat_natCast]
   rw [ZA (by omega),Z4 (by omega),Z4 (by omega),Z4 (by omega),Z4 (by simp; omega),zE (by omega)]
   exact ⟨_,rfl,by simp [h1],by dsimp only; omega⟩
  ·rintro ⟨r,j⟩ ⟨h1,h3⟩
   dsimp only at h1 h3 ⊢
   subst h3
   simp only [zz.s1]
   rw [ZC (by omega)]
   exact ⟨_,rfl,h1⟩
 obtain ⟨r,e1,e2⟩:=L1
 refine ⟨r,?_,e2⟩
 unfold zz
 rw [e0,Option.bind_some]
 dsimp only
 rw [e1,Option.bind_some]
theorem Zl3 {x:Int}:-4 < x.tmod 4∧x.tmod 4 < 4:=by
 by_cases c:0≤x
 ·rw [Int.tmod_eq_emod_of_nonneg c]; omega
 ·have e:x = -(-x):=by omega
  rw [e,Int.neg_tmod,Int.tmod_eq_emod_of_nonneg (by omega)]; omega
theorem Zno {pts:List Zf} (h:Pts pts) (hl:pts.length≤1000) {raw:List Zf}:∃ r,ZT (zq.s0 raw pts) big (pts,0) = some r∧r.length = pts.length:=by
 have:∃ r,ZT (zq.s0 raw pts) big (pts,0) = some r∧(r.length = pts.length∧True):=by
  refine Zcf (fun (k:Nat) (s:List Zf × Int)=>(s.1.length = pts.length∧∀ i,i < pts.length→-10≤(gi s.1 i).X∧(gi s.1 i).X≤20∧-10≤(gi s.1 i).Y∧(gi s.1 i).Y≤20∧(k≤i→gi s.1 i = gi pts i))∧s.2 = k) (n:=pts.length) (ZaI (by omega)) ⟨⟨rfl,fun i hi=>by have:=h.b i hi; dsimp only; exact ⟨by omega,by omega,by omega,by omega,fun _=>rfl⟩⟩,rfl⟩ ?_ ?_
  ·rintro k ⟨r,j⟩ hk ⟨⟨h1,h2⟩,h3⟩
   dsimp only at h1 h2 h3 ⊢
   subst h3
   have b:=h.b k hk
   have g:=(h2 k hk).2.2.2.2 (Nat.le_refl _)
   have t1:=Zl3 (x:=(gi raw k).X)
   have t2:=Zl3 (x:=(gi raw k).Y)
   simp only [zq.s0,Int.toNat_natCast]
   rw [ZA (by omega)]
   by_cases c:(k:Int) < (raw.length:Int)
   ·have gs:∀ A:Zf,gi (r.set k A) k = A:=fun A=>by rw [Zc1 (by omega),if_pos rfl]
    rw [ZA c,Z4 (by omega),Z4 (by omega),zE (by rw [g]; omega),Z4 (by rw [List.length_set]; omega),zE (by rw [gs,g]; dsimp only; omega),zE (by omega)]
    refine ⟨_,rfl,⟨by simp [h1],fun i hi=>?_⟩,by dsimp only; omega⟩
    dsimp only
    rw [Zc1 (by rw [List.length_set]; omega)]
    by_cases q:i = k
    ·rw [if_pos q,gs,g]
     dsimp only
     exact ⟨by omega,by omega,by omega,by omega,fun hh=>by omega⟩
    ·rw [if_neg q,Zc1 (by omega),if_neg q]
     have:=h2 i hi
     exact ⟨this.1,this.2.1,this.2.2.1,this.2.2.2.1,fun hh=>this.2.2.2.2 (by omega)⟩
   ·rw [ZC c,zE (by omega)]
    refine ⟨_,rfl,⟨h1,fun i hi=>?_⟩,by dsimp only; omega⟩
    have:=h2 i hi
    exact ⟨this.1,this.2.1,this.2.2.1,this.2.2.2.1,fun hh=>this.2.2.2.2 (by omega)⟩
  ·rintro ⟨r,j⟩ ⟨⟨h1,h2⟩,h3⟩
   dsimp only at h1 h2 h3 ⊢
   subst h3
   simp only [zq.s0]
   rw [ZC (by omega)]
   exact ⟨_,rfl,h1,trivial⟩
 obtain ⟨r,e,h1,_⟩:=this
 exact ⟨r,e,h1⟩
theorem Zgz (z:zX) (steps:List Int) (raw:List Zf) (m1:z.At.length≤Go.maxLen) (b1:∀ y∈z.At,ZfI y) (m2:z.Bits.length≤Go.maxLen) (b2:∀ y∈z.Bits,ZfI y) (m3:z.Own.length≤Go.maxLen) (b3:∀ y∈z.Own,ZiY y) (ms:steps.length≤Go.maxLen) (bs:∀ y∈steps,ZfI y) (mr:raw.length≤Go.maxLen) (br:∀ y∈raw,Zei y):zq z steps raw = some true:=by
 obtain ⟨l,pts,e1,hM,hlen⟩:=Znh (z:=z) (most:=14) (okZ m1 b1 b3) (by omega)
 have hpl:=hM.len
 obtain ⟨w,w1,w2⟩:=Zno hM.pts (by omega) (raw:=raw)
 obtain ⟨t,t1,t2⟩:=ZiK hM.pts (by omega) bs
 unfold zq
 rw [e1,Option.bind_some]
 dsimp only
 unfold ZbH
 have hd:0≤(pts.length:Int).tdiv 2∧(pts.length:Int).tdiv 2≤pts.length:=by
  rw [Int.tdiv_eq_ediv_of_nonneg (by omega)]; omega
 rw [Z4 (by omega),Option.bind_some,w1,Option.bind_some,t1,Option.bind_some,Z4 (by omega),Z4 ⟨by decide,by unfold Zal; omega⟩,Z4 (by omega)]
 have L:ZT (zq.s1 raw l pts w t) big 0 = some (.inl ()):=by
  refine ZbJ (fun n:Nat=>(n:Int)) (n:=5) (ZaI (by omega)) rfl (fun n hn=>?_) ?_
  ·obtain ⟨e,h1,h2⟩:=Znl hM (by omega) (p:=gi [pts,t,w,raw.take (min (raw.length:Int) 20).toNat,pts.take ((pts.length:Int).tdiv 2).toNat] n) (by
    match n,hn with
    | 0,_=>show pts.length≤1000; omega
    | 1,_=>show t.length≤1000; omega
    | 2,_=>show w.length≤1000; omega
    | 3,_=>show (raw.take (min (raw.length:Int) 20).toNat).length≤1000; rw [List.length_take]; omega
    | 4,_=>show (pts.take ((pts.length:Int).tdiv 2).toNat).length≤1000; rw [List.length_take]; omega)
   simp only [zq.s1,Int.toNat_natCast]
   rw [ZA (by simp; omega),Z4 (by simp; omega),h1,Option.bind_some,h2,Option.bind_some,Za3 rfl,zE (by omega),show ((n + 1:Nat):Int) = (n:Int) + 1 by omega]
  ·simp only [zq.s1]
   rw [ZC (by simp)]
 rw [L,Option.bind_some]
 dsimp only
 rw [Zio,Option.bind_some]
end Mu
