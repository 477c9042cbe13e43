/- The law, plainly: what is worked out. -/
import Derived.Test.YtdefkboekpjiiaaMuV
import Derived.Test.YtdefkboekpjiiaaMuDf
import Derived.Test.YtdefkboekpjiiaaMuK0
/- Cells that lie on a plane can be drawn,if they hang together. -/
set_option linter.unusedVariables false
set_option linter.unusedSimpArgs false
set_option maxRecDepth 10000
namespace Mu
def dx (d:Nat):Int:=if d = 0 then 1 else if d = 2 then -1 else 0
def dy (d:Nat):Int:=if d = 1 then 1 else if d = 3 then -1 else 0
structure Geo (l:List Za) (at_:List Zk):Prop where
 ck:Ck l
 len:l.length = at_.length
 in8:∀ i,i < l.length→0≤(gi at_ i).X∧(gi at_ i).X < 8∧0≤(gi at_ i).Y∧(gi at_ i).Y < 8
 inj:∀ i j,i < l.length→j < l.length→(gi at_ i).X = (gi at_ j).X→(gi at_ i).Y = (gi at_ j).Y→i = j
 str:∀ p,isD l p→∃ n:Nat,1≤n∧(gi at_ (nx l p.1 p.2).toNat).X = (gi at_ p.1).X + n * dx p.2∧(gi at_ (nx l p.1 p.2).toNat).Y = (gi at_ p.1).Y + n * dy p.2 ∧
  ∀ u,u < l.length→∀ i:Nat,0 < i→i < n→(gi at_ u).X = (gi at_ p.1).X + i * dx p.2→(gi at_ u).Y = (gi at_ p.1).Y + i * dy p.2→False
 nc:NX at_ l
theorem Made.geo {l:List Za} {at_:List Zk} (h:Made l at_):Geo l at_:=by
 have pos:∀ v e,v < l.length→e < 2→0≤nx l v e→∃ n:Nat,1≤n∧(gi at_ (nx l v e).toNat).X = (gi at_ v).X + n * dx e∧(gi at_ (nx l v e).toNat).Y = (gi at_ v).Y + n * dy e ∧
   ∀ u,u < l.length→∀ i:Nat,0 < i→i < n→(gi at_ u).X = (gi at_ v).X + i * dx e→(gi at_ u).Y = (gi at_ v).Y + i * dy e→False:=by
  intro v e hv he h0
  rcases h.near v e hv he with q | q
  ·omega
  ·rcases q with ⟨q,_⟩ | ⟨j,q,j1,j2,j3⟩
   ·omega
   ·rw [q,Int.toNat_natCast]
    have hl:=h.len
    have:e = 0∨e = 1:=by omega
    rcases this with rfl | rfl
    ·obtain ⟨_,c⟩:=j2
     rw [if_pos rfl] at c
     refine ⟨((gi at_ j).X - (gi at_ v).X).toNat,by omega,by simp [dx]; omega,by simp [dy]; omega,fun u hu i i0 i1 hx hy=>?_⟩
     simp [dx,dy] at hx hy
     have:=j3 u (by omega) ⟨by omega,by rw [if_pos rfl]; omega⟩
     unfold ZaO at this
     rw [if_pos rfl] at this
     omega
    ·obtain ⟨_,c⟩:=j2
     rw [if_neg (by omega)] at c
     refine ⟨((gi at_ j).Y - (gi at_ v).Y).toNat,by omega,by simp [dx]; omega,by simp [dy]; omega,fun u hu i i0 i1 hx hy=>?_⟩
     simp [dx,dy] at hx hy
     have:=j3 u (by omega) ⟨by omega,by rw [if_neg (by omega)]; omega⟩
     unfold ZaO at this
     rw [if_neg (by omega)] at this
     omega
 refine ⟨h.ck,h.len,fun i hi=>h.pts.b i (by rw [← h.len]; exact hi),fun i j hi hj hx hy=>h.pts.d i j (by rw [← h.len]; exact hi) (by rw [← h.len]; exact hj) ?_,fun p hp=>?_,h.nc⟩
 ·generalize gi at_ i = a at *
  generalize gi at_ j = b at *
  obtain ⟨a1,a2⟩:=a
  obtain ⟨b1,b2⟩:=b
  dsimp only at hx hy
  rw [hx,hy]
 ·obtain ⟨v,d⟩:=p
  have f:=hp.fwd h.ck
  obtain ⟨v1,d1,n1⟩:=hp
  dsimp only at v1 d1 n1 f ⊢
  by_cases c:d < 2
  ·exact pos v d v1 c n1
  ·have hw:(((nx l v d).toNat:Nat):Int) = nx l v d:=by omega
   generalize (nx l v d).toNat = w at *
   obtain ⟨n,a1,a2,a3,a4⟩:=pos w ((d + 2) % 4) f.1 (by omega) (by rw [f.2]; omega)
   rw [f.2,Int.toNat_natCast] at a2 a3
   have sx:dx ((d + 2) % 4) = - dx d:=by
    have:d = 2∨d = 3:=by omega
    rcases this with rfl | rfl <;> rfl
   have sy:dy ((d + 2) % 4) = - dy d:=by
    have:d = 2∨d = 3:=by omega
    rcases this with rfl | rfl <;> rfl
   rw [sx] at a2 a4
   rw [sy] at a3 a4
   rw [Int.mul_neg] at a2 a3
   refine ⟨n,a1,by omega,by omega,fun u hu i i0 i1 hx hy=>a4 u hu (n - i) (by omega) (by omega) ?_ ?_⟩
   ·rw [Int.mul_neg,Int.natCast_sub (by omega),Int.sub_mul]; omega
   ·rw [Int.mul_neg,Int.natCast_sub (by omega),Int.sub_mul]; omega
section geo
variable {l:List Za} {at_:List Zk}
def eL (l:List Za) (at_:List Zk) (p:Da):Nat:=(((gi at_ (nx l p.1 p.2).toNat).X - (gi at_ p.1).X) * dx p.2 + ((gi at_ (nx l p.1 p.2).toNat).Y - (gi at_ p.1).Y) * dy p.2).toNat
def pX (at_:List Zk) (p:Da) (i:Int):Int:=(gi at_ p.1).X + i * dx p.2
def pY (at_:List Zk) (p:Da) (i:Int):Int:=(gi at_ p.1).Y + i * dy p.2
theorem dxy {d:Nat} (h:d < 4):(d = 0∧dx d = 1∧dy d = 0)∨(d = 1∧dx d = 0∧dy d = 1)∨(d = 2∧dx d = -1∧dy d = 0)∨(d = 3∧dx d = 0∧dy d = -1):=by
 have:d = 0∨d = 1∨d = 2∨d = 3:=by omega
 rcases this with rfl | rfl | rfl | rfl
 ·exact .inl ⟨rfl,rfl,rfl⟩
 ·exact .inr (.inl ⟨rfl,rfl,rfl⟩)
 ·exact .inr (.inr (.inl ⟨rfl,rfl,rfl⟩))
 ·exact .inr (.inr (.inr ⟨rfl,rfl,rfl⟩))
theorem Geo.e (G:Geo l at_) {p:Da} (hp:isD l p):1≤eL l at_ p∧(gi at_ (nx l p.1 p.2).toNat).X = pX at_ p (eL l at_ p)∧(gi at_ (nx l p.1 p.2).toNat).Y = pY at_ p (eL l at_ p) ∧
  ∀ u,u < l.length→∀ i:Nat,0 < i→i < eL l at_ p→(gi at_ u).X = pX at_ p i→(gi at_ u).Y = pY at_ p i→False:=by
 obtain ⟨n,a1,a2,a3,a4⟩:=G.str p hp
 have:eL l at_ p = n:=by
  unfold eL
  rw [a2,a3]
  rcases dxy hp.2.1 with ⟨_,h1,h2⟩ | ⟨_,h1,h2⟩ | ⟨_,h1,h2⟩ | ⟨_,h1,h2⟩ <;> rw [h1,h2] <;> omega
 rw [this]
 exact ⟨a1,a2,a3,a4⟩
theorem Zkg {d:Nat} (h:d < 4):dx ((d + 2) % 4) = - dx d∧dy ((d + 2) % 4) = - dy d:=by
 have:d = 0∨d = 1∨d = 2∨d = 3:=by omega
 rcases this with rfl | rfl | rfl | rfl <;> exact ⟨rfl,rfl⟩
theorem Geo.opp (G:Geo l at_) {p:Da} (hp:isD l p):eL l at_ (opp l p) = eL l at_ p∧∀ i:Int,pX at_ (Mu.opp l p) i = pX at_ p (eL l at_ p - i)∧pY at_ (Mu.opp l p) i = pY at_ p (eL l at_ p - i):=by
 obtain ⟨a1,a2,a3,_⟩:=G.e hp
 have f:=hp.fwd G.ck
 have o:=Zkg hp.2.1
 have h:∀ i:Int,pX at_ (Mu.opp l p) i = pX at_ p (eL l at_ p - i)∧pY at_ (Mu.opp l p) i = pY at_ p (eL l at_ p - i):=by
  intro i
  constructor
  ·show (gi at_ (nx l p.1 p.2).toNat).X + i * dx ((p.2 + 2) % 4) = _
   rw [a2,o.1]
   unfold pX
   rw [Int.mul_neg,Int.sub_mul]; omega
  ·show (gi at_ (nx l p.1 p.2).toNat).Y + i * dy ((p.2 + 2) % 4) = _
   rw [a3,o.2]
   unfold pY
   rw [Int.mul_neg,Int.sub_mul]; omega
 refine ⟨?_,h⟩
 obtain ⟨b1,b2,b3,_⟩:=G.e (hp.opp G.ck)
 have e:(nx l (Mu.opp l p).1 (Mu.opp l p).2).toNat = p.1:=by
  show (nx l (nx l p.1 p.2).toNat ((p.2 + 2) % 4)).toNat = _
  rw [f.2]; omega
 rw [e,(h _).1] at b2
 rw [e,(h _).2] at b3
 unfold pX at b2
 unfold pY at b3
 rcases dxy hp.2.1 with ⟨_,h1,h2⟩ | ⟨_,h1,h2⟩ | ⟨_,h1,h2⟩ | ⟨_,h1,h2⟩ <;> rw [h1] at b2 <;> rw [h2] at b3 <;> omega
theorem Geo.uniq (G:Geo l at_) {p q:Da} (hp:isD l p) (hq:isD l q) (hd:p.2 = q.2) {i j:Nat} (hi:i < eL l at_ p) (hj:j < eL l at_ q) (h1:pX at_ p i = pX at_ q j) (h2:pY at_ p i = pY at_ q j):p = q∧i = j:=by
 have key:∀ {p q:Da},isD l p→isD l q→p.2 = q.2→∀ {i j:Nat},i < eL l at_ p→pX at_ p i = pX at_ q j→pY at_ p i = pY at_ q j→i ≥ j→p = q∧i = j:=by
  intro p q hp hq hd i j hi h1 h2 hij
  have e:=G.e hp
  have x:(gi at_ q.1).X = pX at_ p ((i - j:Nat):Int):=by unfold pX at h1 ⊢; rw [hd] at h1 ⊢; rw [Int.natCast_sub hij,Int.sub_mul]; omega
  have y:(gi at_ q.1).Y = pY at_ p ((i - j:Nat):Int):=by unfold pY at h2 ⊢; rw [hd] at h2 ⊢; rw [Int.natCast_sub hij,Int.sub_mul]; omega
  by_cases c:i = j
  ·subst c
   rw [Nat.sub_self] at x y
   unfold pX at x
   unfold pY at y
   have:=G.inj q.1 p.1 hq.1 hp.1 (by omega) (by omega)
   exact ⟨Prod.ext this.symm hd,rfl⟩
  ·exact (e.2.2.2 q.1 hq.1 (i - j) (by omega) (by omega) x y).elim
 by_cases c:i ≥ j
 ·exact key hp hq hd hi h1 h2 c
 ·obtain ⟨a,b⟩:=key hq hp hd.symm hj h1.symm h2.symm (by omega)
  exact ⟨a.symm,b.symm⟩
theorem Geo.inner (G:Geo l at_) {p q:Da} (hp:isD l p) (hq:isD l q) {i j:Nat} (i0:0 < i) (hi:i < eL l at_ p) (hj:j < eL l at_ q) (h1:pX at_ p i = pX at_ q j) (h2:pY at_ p i = pY at_ q j):q.2 = p.2∨q.2 = (p.2 + 2) % 4:=by
 have e:=G.e hp
 have e':=G.e hq
 by_cases j0:j = 0
 ·subst j0
  have x:(gi at_ q.1).X = pX at_ p i:=by rw [h1]; unfold pX; omega
  have y:(gi at_ q.1).Y = pY at_ p i:=by rw [h2]; unfold pY; omega
  exact (e.2.2.2 q.1 hq.1 i i0 hi x y).elim
 ·-- both within: one across,the other up
  have o:=G.opp hp
  have o':=G.opp hq
  have f:=hp.fwd G.ck
  have f':=hq.fwd G.ck
  have nc:=G.nc
  have hp2:=hp.2.1
  have hq2:=hq.2.1
  refine Classical.byContradiction fun hne=>?_
  -- the lower end of each
  have low:∀ {p:Da},isD l p→∃ a:Nat,a < l.length∧0≤nx l a (p.2 % 2)∧∀ k:Nat,0 < k→k < eL l at_ p →
    (p.2 % 2 = 0→(gi at_ a).X < pX at_ p k∧pX at_ p k < (gi at_ (nx l a 0).toNat).X∧(gi at_ a).Y = pY at_ p k) ∧
    (p.2 % 2 = 1→(gi at_ a).Y < pY at_ p k∧pY at_ p k < (gi at_ (nx l a 1).toNat).Y∧(gi at_ a).X = pX at_ p k):=by
   intro p hp
   have e:=G.e hp
   have f:=hp.fwd G.ck
   rcases dxy hp.2.1 with ⟨d,x,y⟩ | ⟨d,x,y⟩ | ⟨d,x,y⟩ | ⟨d,x,y⟩
   ·refine ⟨p.1,hp.1,by rw [d]; have:=hp.2.2; rw [d] at this; exact this,fun k k0 k1=>⟨fun _=>?_,fun h=>by rw [d] at h; omega⟩⟩
    have a:=e.2.1
    rw [d] at a
    rw [a]
    unfold pX pY
    rw [x,y]; omega
   ·refine ⟨p.1,hp.1,by rw [d]; have:=hp.2.2; rw [d] at this; exact this,fun k k0 k1=>⟨fun h=>by rw [d] at h; omega,fun _=>?_⟩⟩
    have a:=e.2.2.1
    rw [d] at a
    rw [a]
    unfold pX pY
    rw [x,y]; omega
   ·have b:=f.2
    rw [d] at b
    refine ⟨(nx l p.1 p.2).toNat,f.1,by rw [d]; show 0≤nx l (nx l p.1 2).toNat 0; rw [b]; omega,fun k k0 k1=>⟨fun _=>?_,fun h=>by rw [d] at h; omega⟩⟩
    have a:=e.2.1
    have a':=e.2.2.1
    have b':(nx l (nx l p.1 p.2).toNat 0).toNat = p.1:=by rw [d]; show (nx l (nx l p.1 2).toNat 0).toNat = _; rw [b]; omega
    rw [b',a,a']
    unfold pX pY
    rw [x,y]; omega
   ·have b:=f.2
    rw [d] at b
    refine ⟨(nx l p.1 p.2).toNat,f.1,by rw [d]; show 0≤nx l (nx l p.1 3).toNat 1; rw [b]; omega,fun k k0 k1=>⟨fun h=>by rw [d] at h; omega,fun _=>?_⟩⟩
    have a:=e.2.1
    have a':=e.2.2.1
    have b':(nx l (nx l p.1 p.2).toNat 1).toNat = p.1:=by rw [d]; show (nx l (nx l p.1 3).toNat 1).toNat = _; rw [b]; omega
    rw [b',a,a']
    unfold pX pY
    rw [x,y]; omega
  obtain ⟨a,a1,a2,a3⟩:=low hp
  obtain ⟨b,b1,b2,b3⟩:=low hq
  have A:=a3 i i0 hi
  have B:=b3 j (by omega) hj
  by_cases c:p.2 % 2 = 0
  ·have c':q.2 % 2 = 1:=by omega
   rw [c] at a2
   rw [c'] at b2
   have A:=A.1 c
   have B:=B.2 c'
   exact nc a b a1 b1 a2 b2 ⟨by omega,by omega,by omega,by omega⟩
  ·have c1:p.2 % 2 = 1:=by omega
   have c':q.2 % 2 = 0:=by omega
   rw [c1] at a2
   rw [c'] at b2
   have A:=A.2 c1
   have B:=B.1 c'
   exact nc b a b1 a1 b2 a2 ⟨by omega,by omega,by omega,by omega⟩
theorem Geo.vert (G:Geo l at_) {q:Da} (hq:isD l q) {u j:Nat} (hu:u < l.length) (hj:j < eL l at_ q) (h1:(gi at_ u).X = pX at_ q j) (h2:(gi at_ u).Y = pY at_ q j):q.1 = u∧j = 0:=by
 by_cases j0:j = 0
 ·subst j0
  unfold pX at h1
  unfold pY at h2
  exact ⟨G.inj q.1 u hq.1 hu (by omega) (by omega),rfl⟩
 ·exact ((G.e hq).2.2.2 u hu j (by omega) hj h1 h2).elim
end geo
end Mu
/- Layer 14: ValidPlane: the board's cells that lie under cells on a plane. -/
set_option linter.unusedVariables false
set_option linter.unusedSimpArgs false
set_option maxRecDepth 10000
namespace Mu
def ps (x y:Int):Nat:=(8 * y + x).toNat
theorem ZbM {x y:Int} (hx:0≤x∧x < 8) (hy:0≤y∧y < 8):ps x y < 64∧((ps x y % 8:Nat):Int) = x∧((ps x y / 8:Nat):Int) = y:=by
 unfold ps; omega
theorem Zk2 {x y x' y':Int} (hx:0≤x∧x < 8) (hy:0≤y∧y < 8) (hx':0≤x'∧x' < 8) (hy':0≤y'∧y' < 8) (h:ps x y = ps x' y'):x = x'∧y = y':=by
 have a:=ZbM hx hy
 have b:=ZbM hx' hy'
 rw [h] at a
 omega
theorem ZkZ {x y:Int} {e:Nat} (he:e < 4) (hx:0≤x∧x < 8) (hy:0≤y∧y < 8) (hx':0≤x + dx e∧x + dx e < 8) (hy':0≤y + dy e∧y + dy e < 8):gN (ps x y) e = (ps (x + dx e) (y + dy e):Nat):=by
 have a:=ZbM hx hy
 have b:=ZbM hx' hy'
 rcases dxy he with ⟨rfl,h1,h2⟩ | ⟨rfl,h1,h2⟩ | ⟨rfl,h1,h2⟩ | ⟨rfl,h1,h2⟩ <;> rw [h1] at hx' b ⊢ <;> rw [h2] at hy' b ⊢
 ·rw [(ZcZ a.1).2.2.1 (by omega)]; unfold ps; omega
 ·rw [(ZcZ a.1).2.2.2 (by omega)]; unfold ps; omega
 ·rw [(ZcZ a.1).1 (by omega)]; unfold ps; omega
 ·rw [(ZcZ a.1).2.1 (by omega)]; unfold ps; omega
section geo
variable {l:List Za} {at_:List Zk}
def cov (l:List Za) (at_:List Zk) (k e:Nat):Bool:=(ZbY l).any fun p=>decide (p.2 = e) && (List.range (eL l at_ p)).any fun i=>decide (pX at_ p i = (k % 8:Nat)) && decide (pY at_ p i = (k / 8:Nat))
theorem Zck {k e:Nat}:cov l at_ k e = true↔∃ p,isD l p∧p.2 = e∧∃ i,i < eL l at_ p∧pX at_ p i = (k % 8:Nat)∧pY at_ p i = (k / 8:Nat):=by
 unfold cov
 simp only [List.any_eq_true,Bool.and_eq_true,decide_eq_true_eq,List.mem_range,Zfm]
theorem Geo.box (G:Geo l at_) {p:Da} (hp:isD l p) {i:Nat} (hi:i≤eL l at_ p):(0≤pX at_ p i∧pX at_ p i < 8)∧0≤pY at_ p i∧pY at_ p i < 8:=by
 have e:=G.e hp
 have a:=G.in8 p.1 hp.1
 have b:=G.in8 _ (hp.fwd G.ck).1
 rw [e.2.1,e.2.2.1] at b
 unfold pX pY at b ⊢
 rcases dxy hp.2.1 with ⟨_,h1,h2⟩ | ⟨_,h1,h2⟩ | ⟨_,h1,h2⟩ | ⟨_,h1,h2⟩ <;> rw [h1,h2] at b ⊢ <;> omega
def un (at_:List Zk) (p:Da) (i:Nat):Da:=(ps (pX at_ p i) (pY at_ p i),p.2)
theorem Geo.un_cov (G:Geo l at_) {p:Da} (hp:isD l p) {i:Nat} (hi:i < eL l at_ p):cov l at_ (ps (pX at_ p i) (pY at_ p i)) p.2 = true:=by
 have b:=G.box hp (i:=i) (by omega)
 have c:=ZbM b.1 b.2
 exact Zck.2 ⟨p,hp,rfl,i,hi,c.2.1.symm,c.2.2.symm⟩
theorem Zjw {p:Da} {i:Nat}:pX at_ p i + dx p.2 = pX at_ p ((i + 1:Nat):Int)∧pY at_ p i + dy p.2 = pY at_ p ((i + 1:Nat):Int):=by
 unfold pX pY
 rw [Int.natCast_add,Int.add_mul,Int.add_mul]
 constructor <;> omega
theorem Geo.gN_un (G:Geo l at_) {p:Da} (hp:isD l p) {i:Nat} (hi:i < eL l at_ p):gN (ps (pX at_ p i) (pY at_ p i)) p.2 = (ps (pX at_ p ((i + 1:Nat):Int)) (pY at_ p ((i + 1:Nat):Int)):Nat):=by
 have b:=G.box hp (i:=i) (by omega)
 have b':=G.box hp (i:=i + 1) (by omega)
 have s:=Zjw (at_:=at_) (p:=p) (i:=i)
 rw [ZkZ hp.2.1 b.1 b.2 (by rw [s.1]; exact b'.1) (by rw [s.2]; exact b'.2),s.1,s.2]
theorem Geo.cov_cl (G:Geo l at_) {k e:Nat} (hk:k < 64) (he:e < 4) (h:cov l at_ k e = true):0≤gN k e∧cov l at_ (gN k e).toNat ((e + 2) % 4) = true:=by
 obtain ⟨p,hp,rfl,i,hi,hx,hy⟩:=Zck.1 h
 have b:=G.box hp (i:=i) (by omega)
 have ek:k = ps (pX at_ p i) (pY at_ p i):=by rw [hx,hy]; unfold ps; omega
 rw [ek,G.gN_un hp hi,Int.toNat_natCast]
 have o:=G.opp hp
 have b':=G.box hp (i:=i + 1) (by omega)
 have c':=ZbM b'.1 b'.2
 refine ⟨by omega,Zck.2 ⟨Mu.opp l p,hp.opp G.ck,rfl,eL l at_ p - 1 - i,by rw [o.1]; omega,?_,?_⟩⟩
 ·rw [(o.2 _).1,c'.2.1]; congr 1; omega
 ·rw [(o.2 _).2,c'.2.2]; congr 1; omega
theorem Geo.bck (G:Geo l at_):Ck (brd (cov l at_)):=Zg4 fun _ _ hk he h=>G.cov_cl hk he h
theorem Geo.nx_cov (G:Geo l at_) {k e:Nat} (hk:k < 64) (he:e < 4):0≤nx (brd (cov l at_)) k e↔cov l at_ k e = true:=by
 rw [(Zd1 hk he).1]
 constructor
 ·intro h
  refine Classical.byContradiction fun q=>?_
  rw [if_neg q] at h; omega
 ·intro h
  rw [if_pos h]; exact (G.cov_cl hk he h).1
theorem Geo.un_is (G:Geo l at_) {p:Da} (hp:isD l p) {i:Nat} (hi:i < eL l at_ p):isD (brd (cov l at_)) (un at_ p i):=by
 have b:=G.box hp (i:=i) (by omega)
 have c:=ZbM b.1 b.2
 exact ⟨by rw [Zcj]; exact c.1,hp.2.1,(G.nx_cov c.1 hp.2.1).2 (G.un_cov hp hi)⟩
theorem Geo.un_nx (G:Geo l at_) {p:Da} (hp:isD l p) {i:Nat} (hi:i < eL l at_ p):nx (brd (cov l at_)) (un at_ p i).1 (un at_ p i).2 = (ps (pX at_ p ((i + 1:Nat):Int)) (pY at_ p ((i + 1:Nat):Int)):Nat):=by
 have b:=G.box hp (i:=i) (by omega)
 have c:=ZbM b.1 b.2
 show nx _ (ps _ _) p.2 = _
 rw [(Zd1 c.1 hp.2.1).1,if_pos (G.un_cov hp hi),G.gN_un hp hi]
theorem Geo.at_inner (G:Geo l at_) {p:Da} (hp:isD l p) {i e:Nat} (he:e < 4) (i0:0 < i) (hi:i < eL l at_ p):cov l at_ (ps (pX at_ p i) (pY at_ p i)) e = true↔e = p.2∨e = (p.2 + 2) % 4:=by
 have b:=G.box hp (i:=i) (by omega)
 have c:=ZbM b.1 b.2
 constructor
 ·intro h
  obtain ⟨q,hq,rfl,j,hj,hx,hy⟩:=Zck.1 h
  rw [c.2.1] at hx
  rw [c.2.2] at hy
  exact G.inner hp hq i0 hi hj hx.symm hy.symm
 ·rintro (rfl | rfl)
  ·exact G.un_cov hp hi
  ·have o:=G.opp hp
   refine Zck.2 ⟨Mu.opp l p,hp.opp G.ck,rfl,eL l at_ p - i,by rw [o.1]; omega,?_,?_⟩
   ·rw [(o.2 _).1,c.2.1]; congr 1; omega
   ·rw [(o.2 _).2,c.2.2]; congr 1; omega
theorem Geo.at_vert (G:Geo l at_) {u e:Nat} (hu:u < l.length) (he:e < 4):cov l at_ (ps (gi at_ u).X (gi at_ u).Y) e = true↔0≤nx l u e:=by
 have b:=G.in8 u hu
 have c:=ZbM (x:=(gi at_ u).X) (y:=(gi at_ u).Y) ⟨b.1,b.2.1⟩ ⟨b.2.2.1,b.2.2.2⟩
 constructor
 ·intro h
  obtain ⟨q,hq,rfl,j,hj,hx,hy⟩:=Zck.1 h
  rw [c.2.1] at hx
  rw [c.2.2] at hy
  have:=(G.vert hq hu hj hx.symm hy.symm).1
  rw [← this]; exact hq.2.2
 ·intro h
  have hp:isD l (u,e):=⟨hu,he,h⟩
  have e1:=(G.e hp).1
  refine Zck.2 ⟨(u,e),hp,rfl,0,by omega,?_,?_⟩
  ·rw [c.2.1]; unfold pX; dsimp only; omega
  ·rw [c.2.2]; unfold pY; dsimp only; omega
theorem Geo.un_bh (G:Geo l at_) {p:Da} (hp:isD l p) {i:Nat} (hi:i < eL l at_ p):bh (brd (cov l at_)) (un at_ p i) = if i + 1 < eL l at_ p then un at_ p (i + 1) else un at_ (bh l p) 0:=by
 rw [ZbL,G.un_nx hp hi,Int.toNat_natCast]
 have d4:=hp.2.1
 by_cases c:i + 1 < eL l at_ p
 ·rw [if_pos c]
  have b:=G.box hp (i:=i + 1) (by omega)
  have k:=(ZbM b.1 b.2).1
  have A:∀ e,e < 4→decide (0≤nx (brd (cov l at_)) (ps (pX at_ p ((i + 1:Nat):Int)) (pY at_ p ((i + 1:Nat):Int))) e) = decide (e = p.2∨e = (p.2 + 2) % 4):=by
   intro e he
   rw [decide_eq_decide,G.nx_cov k he,G.at_inner hp he (by omega) c]
  unfold un
  refine Prod.ext rfl ?_
  dsimp only
  rw [Zdl A d4]
  unfold prv
  rw [if_neg (by simp; omega),if_pos (by simp)]
 ·rw [if_neg c]
  have e:=G.e hp
  have f:=hp.fwd G.ck
  have ei:i + 1 = eL l at_ p:=by omega
  rw [ei,← e.2.1,← e.2.2.1]
  have b:=G.in8 _ f.1
  have k:=(ZbM (x:=(gi at_ (nx l p.1 p.2).toNat).X) (y:=(gi at_ (nx l p.1 p.2).toNat).Y) ⟨b.1,b.2.1⟩ ⟨b.2.2.1,b.2.2.2⟩).1
  unfold un
  rw [ZbL (l:=l)]
  refine Prod.ext ?_ ?_
  ·dsimp only
   unfold pX pY
   dsimp only
   congr 1 <;> omega
  ·dsimp only
   refine Zdl (fun e he=>?_) d4
   rw [decide_eq_decide,G.nx_cov k he,G.at_vert f.1 he]
def ZgA (l:List Za) (at_:List Zk) (p:Da):List Da:=(List.range (eL l at_ p)).map (un at_ p)
theorem ZaJ {p x:Da}:x∈ZgA l at_ p↔∃ i,i < eL l at_ p∧un at_ p i = x:=by
 unfold ZgA
 simp [List.mem_map,List.mem_range]
theorem Geo.un_inj (G:Geo l at_) {p q:Da} (hp:isD l p) (hq:isD l q) {i j:Nat} (hi:i < eL l at_ p) (hj:j < eL l at_ q) (h:un at_ p i = un at_ q j):p = q∧i = j:=by
 have b:=G.box hp (i:=i) (by omega)
 have b':=G.box hq (i:=j) (by omega)
 injection h with h1 h2
 obtain ⟨x,y⟩:=Zk2 b.1 b.2 b'.1 b'.2 h1
 exact G.uniq hp hq h2 hi hj x y
theorem Zi6 {f:Nat→Int} {m:Nat} (h:∀ i,i < m→f i = 0):((List.range (m + 1)).map f).sum = f m:=by
 rw [List.range_succ,List.map_append,List.sum_append]
 have:((List.range m).map f).sum = 0:=by
  have:(List.range m).map f = (List.range m).map fun _=>0:=List.map_congr_left fun i hi=>h i (List.mem_range.1 hi)
  rw [this]
  have z:∀ n,((List.range n).map fun _=>(0:Int)).sum = 0:=by
   intro n
   induction n with
   | zero=>rfl
   | succ n ih=>rw [List.range_succ,List.map_append,List.sum_append,ih]; rfl
  exact z m
 rw [this]
 simp
theorem Geo.ins (G:Geo l at_):Ins l (brd (cov l at_)) (ZgA l at_):=by
 refine ⟨fun p hp=>?_,fun p hp=>?_,fun p hp x hx=>?_,fun p q hp hq x h1 h2=>?_,fun p hp=>?_,fun p hp x hx=>?_,fun C hC p hp hx y hy=>?_,fun x hx=>?_⟩
 ·intro e
  have:un at_ p 0∈ZgA l at_ p:=ZaJ.2 ⟨0,(G.e hp).1,rfl⟩
  rw [e] at this; simp at this
 ·unfold ZgA
  refine List.pairwise_map.2 (List.nodup_range.imp_of_mem fun {a b} ha hb hne he=>hne (G.un_inj hp hp (List.mem_range.1 ha) (List.mem_range.1 hb) he).2)
 ·obtain ⟨i,hi,rfl⟩:=ZaJ.1 hx
  exact G.un_is hp hi
 ·obtain ⟨i,hi,rfl⟩:=ZaJ.1 h1
  obtain ⟨j,hj,e⟩:=ZaJ.1 h2
  exact (G.un_inj hp hq hi hj e.symm).1
 ·have e1:=(G.e hp).1
  obtain ⟨m,hm⟩:∃ m,eL l at_ p = m + 1:=⟨eL l at_ p - 1,by omega⟩
  unfold ZgA
  rw [List.map_map,hm,Zi6]
  ·show tn (un at_ p m).2 (bh _ (un at_ p m)).2 = _
   rw [G.un_bh hp (by omega),if_neg (by omega)]
   rfl
  ·intro i hi
   show tn (un at_ p i).2 (bh _ (un at_ p i)).2 = _
   rw [G.un_bh hp (by omega),if_pos (by omega)]
   show tn p.2 p.2 = 0
   unfold tn; rw [if_pos rfl]
 ·obtain ⟨i,hi,rfl⟩:=ZaJ.1 hx
  rw [G.un_bh hp hi]
  by_cases c:i + 1 < eL l at_ p
  ·rw [if_pos c]; exact .inl (ZaJ.2 ⟨i + 1,c,rfl⟩)
  ·rw [if_neg c]; exact .inr (ZaJ.2 ⟨0,(G.e (hp.bh G.ck)).1,rfl⟩)
 ·obtain ⟨x,hx,hCx⟩:=hx
  obtain ⟨i,hi,rfl⟩:=ZaJ.1 hx
  have up:∀ {p:Da},isD l p→∀ {i:Nat},i < eL l at_ p→C (un at_ p i)→∀ m,i + m < eL l at_ p→C (un at_ p (i + m)):=by
   intro p hp i hi hC0 m
   induction m with
   | zero=>intro _; exact hC0
   | succ m ih =>
    intro hm
    have:=hC _ (G.un_is hp (i:=i + m) (by omega)) (ih (by omega))
    rw [G.un_bh hp (by omega),if_pos (by omega)] at this
    exact this
  have l1:=up hp hi hCx (eL l at_ p - 1 - i) (by omega)
  rw [show i + (eL l at_ p - 1 - i) = eL l at_ p - 1 by omega] at l1
  have n1:=hC _ (G.un_is hp (by omega)) l1
  rw [G.un_bh hp (by omega),if_neg (by omega)] at n1
  obtain ⟨j,hj,rfl⟩:=ZaJ.1 hy
  have:=up (hp.bh G.ck) (i:=0) (by omega) n1 j (by omega)
  rwa [Nat.zero_add] at this
 ·have h1:=hx.1
  rw [Zcj] at h1
  obtain ⟨p,hp,hd,i,hi,hX,hY⟩:=Zck.1 ((G.nx_cov h1 hx.2.1).1 hx.2.2)
  refine ⟨p,hp,ZaJ.2 ⟨i,hi,Prod.ext ?_ hd⟩⟩
  show ps _ _ = _
  rw [hX,hY]; unfold ps; omega
theorem Geo.cn (G:Geo l at_) (Cl:Cn l):Cn (brd (cov l at_)):=by
 intro C hC x y hx hy hCx
 have I:=G.ins
 obtain ⟨p,hp,hxp⟩:=I.al x hx
 obtain ⟨q,hq,hyq⟩:=I.al y hy
 have C1:∀ x,isD (brd (cov l at_)) x→C x→C (bh (brd (cov l at_)) x):=fun x hx h=>(hC x hx h).1
 have h1:=I.on C C1 p hp ⟨x,hxp,hCx⟩
 refine Cl (fun p=>∀ x∈ZgA l at_ p,C x) (fun z hz h=>⟨fun w hw=>?_,fun w hw=>?_⟩) _ q (hp.bh G.ck) hq h1 y hyq
 ·have e1:=(G.e hz).1
  exact I.on C C1 z hz ⟨un at_ z 0,ZaJ.2 ⟨0,e1,rfl⟩,h _ (ZaJ.2 ⟨0,e1,rfl⟩)⟩ w hw
 ·obtain ⟨j,hj,rfl⟩:=ZaJ.1 hw
  have o:=G.opp hz
  rw [o.1] at hj
  have u1:=G.un_is hz (i:=eL l at_ z - 1 - j) (by omega)
  have:=(hC _ u1 (h _ (ZaJ.2 ⟨_,by omega,rfl⟩))).2
  have e:Mu.opp (brd (cov l at_)) (un at_ z (eL l at_ z - 1 - j)) = un at_ (Mu.opp l z) j:=by
   unfold Mu.opp
   rw [G.un_nx hz (by omega),Int.toNat_natCast]
   refine Prod.ext ?_ rfl
   show ps _ _ = ps _ _
   have a:=(o.2 j).1
   have b:=(o.2 j).2
   unfold Mu.opp at a b
   rw [a,b]
   congr 2 <;> omega
  rwa [e] at this
theorem Geo.val (G:Geo l at_) (Cl:Cn l) {p:Da} (hp:isD l p):Val l:=by
 have u:=G.un_is hp (i:=0) (by have:=(G.e hp).1; omega)
 exact (G.ins.val G.ck G.bck (Zg3 G.ck) (Zg3 G.bck)).2 (ZiV (fun _ _ hk he h=>G.cov_cl hk he h) (G.cn Cl) u)
end geo
theorem Zh1 {l:List Za} {at_:List Zk} (h:Made l at_) (hw:Zbo l) (h2:l.length≠1):Val l:=by
 have:=Zfv hw
 obtain ⟨d,hd,h0⟩:=ZgU h.ck hw (by omega) (show 0 < l.length by omega)
 exact h.geo.val (ZhZ h.ck hw) (p:=(0,d)) ⟨by omega,hd,h0⟩
theorem ZgL {l:List Za} {at_:List Zk} (h:Made l at_) (hl:l.length≤4096):Zgw l = if Zbo l then 0 else 13:=by
 have k:Zdr l = 0:=ZdO.2 ⟨hl,h.ck⟩
 by_cases w:Zbo l
 ·rw [if_pos w]
  exact Zi8.2 ⟨k,w,fun h2=>Zh1 h w h2⟩
 ·rw [if_neg w]
  unfold Zgw
  rw [if_pos k,if_neg w]
theorem Zen (z:ZQ) (m1:z.At.length≤Go.maxLen) (b1:∀ y∈z.At,Zfc y) (m2:z.Bits.length≤Go.maxLen) (b2:∀ y∈z.Bits,Zfc y) (m3:z.Own.length≤Go.maxLen) (b3:∀ y∈z.Own,ZgW y):zF z = some true:=by
 obtain ⟨l,pts,e1,hM,hlen⟩:=Zll (z:=z) (most:=20) (ZlH m1 b1 b3) (by omega)
 unfold zF
 rw [e1,Option.bind_some]
 dsimp only
 rw [Zk3 hM.ck (by omega),Option.bind_some,Zge,Zjr (by omega),ZgL hM (by omega)]
 by_cases w:Zbo l
 ·rw [zL (show ((PS l l.length).1.length:Int) = 1 from w),if_pos w]
  rfl
 ·rw [zZ (show ¬ ((PS l l.length).1.length:Int) = 1 from w),if_neg w]
  rfl
end Mu
