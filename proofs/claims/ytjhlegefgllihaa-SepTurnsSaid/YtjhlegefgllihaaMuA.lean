/- Arrays of few. -/
import Derived.Test.YtjhlegefgllihaaMuQ
set_option linter.unusedVariables false
set_option linter.unusedSimpArgs false
namespace Mu
structure A2 (α:Type) where
 (a b:α)
 deriving DecidableEq,Inhabited
structure A3 (α:Type) where
 (a b c:α)
 deriving DecidableEq,Inhabited
structure A4 (α:Type) where
 (a b c d:α)
 deriving DecidableEq,Inhabited
structure A10 (α:Type) where
 (a b c d e f g h i j:α)
 deriving DecidableEq,Inhabited
variable {α:Type}
def A2.get (x:A2 α) (i:Int):α:=if i=0 then x.a else x.b
def A3.get (x:A3 α) (i:Int):α:=if i=0 then x.a else if i=1 then x.b else x.c
def A4.get (x:A4 α) (i:Int):α:=if i=0 then x.a else if i=1 then x.b else if i=2 then x.c else x.d
def A10.get (x:A10 α) (i:Int):α:=if i=0 then x.a else if i=1 then x.b else if i=2 then x.c else if i=3 then x.d else if i=4 then x.e else if i=5 then x.f else if i=6 then x.g else if i=7 then x.h else if i=8 then x.i else x.j
def A10.set (x:A10 α) (i:Int) (v:α):A10 α:=if i=0 then { x with a:=v } else if i=1 then { x with b:=v } else if i=2 then { x with c:=v } else if i=3 then { x with d:=v } else if i=4 then { x with e:=v } else if i=5 then { x with f:=v } else if i=6 then { x with g:=v } else if i=7 then { x with h:=v } else if i=8 then { x with i:=v } else { x with j:=v }
def A2.set (x:A2 α) (i:Int) (v:α):A2 α:=if i=0 then { x with a:=v } else { x with b:=v }
def A3.set (x:A3 α) (i:Int) (v:α):A3 α:=if i=0 then { x with a:=v } else if i=1 then { x with b:=v } else { x with c:=v }
def A4.set (x:A4 α) (i:Int) (v:α):A4 α:=if i=0 then { x with a:=v } else if i=1 then { x with b:=v } else if i=2 then { x with c:=v } else { x with d:=v }

theorem fin {σ:Type}{P:σ→Prop}{a o:σ}(hp:some a=some o) (h:P a):P o:=(Option.some.inj hp) ▸ h
theorem Zfk {e:Opd→V}{caps:List V}:([]:List Opd).map e++caps=caps:=rfl
theorem Zcn {e:Opd→V}{caps vs:List V}{x:Opd}{l:List Opd}{v:V}(hx:e x=v) (ht:l.map e++caps=vs):(x::l).map e++caps=v::vs:=by simp [hx,ht]
theorem Zkm {e:Opd→V}:([]:List Opd).map e=[]:=rfl
theorem ZiW {e:Opd→V}{vs:List V}{x:Opd}{l:List Opd}{v:V}(hx:e x=v) (ht:l.map e=vs):(x::l).map e=v::vs:=by simp [hx,ht]
theorem zZ {e:Opd→V}:evs e []=[]:=rfl
theorem Z8 {e:Opd→V}{o sz:Nat}{x:Opd}{l:List (Nat×Nat×Opd)}{v:V}{vs:List (Nat×Nat×V)}(hx:e x=v) (ht:evs e l=vs):evs e ((o,sz,x)::l)=(o,sz,v)::vs:=by rw [Zms,hx,ht]

theorem ZqI {a b:Bool}(h:a=true):V.b b=V.b (a&&b):=by rw [h];rfl
theorem ZqD {a b:Bool}(h:a=false):V.b false=V.b (a&&b):=by rw [h];rfl
theorem ZqV {a b:Bool}(h:a=false):V.b b=V.b (a||b):=by rw [h];rfl
theorem ZqQ {a b:Bool}(h:a=true):V.b true=V.b (a||b):=by rw [h];rfl
theorem bc (b:Bool):b=true∨b=false:=by cases b<;>simp

section cut
variable {N:Prog}{fr:Fr}{k:Hp}
theorem ZaZ {l:List Oper}{Q:Fr→Hp→Prop}(n:Nat) (Q':Fr→Hp→Prop) (h1:WO N (l.take n) Q' fr k) (h2:∀ fr' k',Q' fr' k'→WO N (l.drop n) Q fr' k'):WO N l Q fr k:=by
 have app:∀ (a b:List Oper) (fr:Fr) (k:Hp),WO N a (fun fr' k'=>WO N b Q fr' k') fr k→WO N (a++b) Q fr k:=by
  intro a b fr k hw;obtain ⟨m,fr',k',he,m2,fr2,k2,he2,q⟩:=hw;refine ⟨max m m2,fr2,k2,?_,q⟩;have he':=Ze4 (ZcE N (Nat.le_max_left m m2)) he;have he2':=Ze4 (ZcE N (Nat.le_max_right m m2)) he2;clear he he2
  induction a generalizing fr k with
  | nil =>
   simp only [ZbA,Option.some.injEq,Prod.mk.injEq] at he';obtain ⟨rfl,rfl⟩:=he';exact he2'
  | cons o a ih =>
   simp only [List.cons_append,ZbA] at he' ⊢;split at he'
   ·exact ih _ _ he'
   ·cases he'
 have:=app (l.take n) (l.drop n) fr k (h1.mono h2);rwa [List.take_append_drop] at this
theorem WDQ.mono {base:Nat}{l:List (Nat×Oper)}{Q Q':Fr→Hp→Prop}(h1:WDQ N base l Q fr k) (h2:∀ fr' k',Q fr' k'→Q' fr' k'):WDQ N base l Q' fr k:=by
 obtain ⟨m,fr',k',ts,he,a,b⟩:=h1;exact ⟨m,fr',k',ts,he,a,h2 _ _ b⟩
theorem Zc3 {base:Nat}{l:List (Nat×Oper)}{Q:Fr→Hp→Prop}(n:Nat) (Q':Fr→Hp→Prop) (h1:WDQ N base (l.take n) Q' fr k) (h2:∀ fr' k',Q' fr' k'→WDQ N base (l.drop n) Q fr' k'):WDQ N base l Q fr k:=by
 have app:∀ (a b:List (Nat×Oper)) (fr:Fr) (k:Hp),WDQ N base a (fun fr' k'=>WDQ N base b Q fr' k') fr k→WDQ N base (a++b) Q fr k:=by
  intro a b fr k hw;obtain ⟨m,fr',k',ts,he,qa,m2,fr2,k2,ts2,he2,qb,q⟩:=hw;refine ⟨max m m2,fr2,k2,ts++ts2,?_,fun p hp=>?_,q⟩
  ·have he':=ZdW (ZcE N (Nat.le_max_left m m2)) he;have he2':=ZdW (ZcE N (Nat.le_max_right m m2)) he2;clear he he2 qa
   induction a generalizing fr k ts with
   | nil =>
    simp only [Zad,Option.some.injEq,Prod.mk.injEq] at he';obtain ⟨rfl,rfl,rfl⟩:=he';exact he2'
   | cons o a ih =>
    obtain ⟨j,o⟩:=o;simp only [List.cons_append,Zad] at he' ⊢;split at he'
    ·split at he'
     ·rename_i hr;simp only [Option.some.injEq,Prod.mk.injEq] at he';obtain ⟨rfl,rfl,rfl⟩:=he';rw [ih _ _ _ hr];rfl
     ·cases he'
    ·cases he'
  ·rcases List.mem_append.1 hp with h|h
   ·exact qa p h
   ·exact qb p h
 have:=app (l.take n) (l.drop n) fr k (h1.mono h2);rwa [List.take_append_drop] at this
end cut

/-! More of what is one's own. -/
section own
variable {B:Nat→Prop}{h k:Hp}{Ω:List Ent}{nr:Nat}{e:Opd→V}
theorem Own.nil (H:Own B h k Ω) {α:Type}(E:Enc α):Own B h k (Ω++[eSl E .sn []]):=H.add [] rfl .nil (fun _ _=>rfl) (by simp) (Nat.le_refl _) (by simp [eSl,Zbe])
theorem Own.allNil (H:Own B h k Ω) {α:Type}(E:Enc α) (n:Nat):Own B h k (Ω++[Z5 E (List.replicate n .sn) (List.replicate n [])]):=by
 refine H.add [] rfl ⟨by simp,fun i hi=>?_,?_⟩ (fun _ _=>rfl) (by simp) (Nat.le_refl _) ?_
 ·have h1:i<n:=by simpa using hi
  simp only [gi,List.getD_eq_getElem?_getD,List.getElem?_replicate,h1,if_true,Option.getD_some];exact .nil
 ·rw [List.pairwise_replicate];right;simp [Zbe]
 ·intro r hr;simp only [Z5,List.mem_flatMap] at hr;obtain ⟨v,hv,hq⟩:=hr;rw [List.eq_of_mem_replicate hv] at hq;simp [Zbe] at hq
theorem Own.absorb (H:Own B h k Ω) {α:Type}{E:Enc α}{vs:List V}{ll:List (List α)}{v:V}{l:List α}(i j:Nat) (hi:ent Ω i=Z5 E vs ll) (hj:ent Ω j=eSl E v l) (hij:i≠j):Own B h k (Mu.upd (Mu.upd Ω i (Z5 E (vs++[v]) (ll++[l]))) j Zd2):=by
 refine H.join i j hi hj hij rfl (fun ha hb hab=>?_) (fun r hr=>?_)
 ·obtain ⟨h1,h2,h3⟩:=ha;refine ⟨by simp [h1],fun q hq=>?_,?_⟩
  ·by_cases c:q<vs.length
   ·have e1:gi (vs++[v]) q=gi vs q:=by simp [gi,List.getElem?_append,c]
    have e2:gi (ll++[l]) q=gi ll q:=by simp [gi,List.getElem?_append,show q<ll.length by omega]
    rw [e1,e2];exact h2 q c
   ·have c2:q=vs.length:=by simp at hq;omega
    subst c2;have e1:gi (vs++[v]) vs.length=v:=by simp [gi]
    have e2:gi (ll++[l]) vs.length=l:=by simp [gi,h1]
    rw [e1,e2];exact hb
  ·rw [List.pairwise_append];refine ⟨h3,by simp,fun a ha b hb r hr hq=>?_⟩;simp only [List.mem_singleton] at hb;subst hb;exact hab r (List.mem_flatMap.2 ⟨a,ha,hr⟩) hq
 ·simp only [Z5,List.mem_flatMap,List.mem_append,List.mem_singleton] at hr ⊢;obtain ⟨w,hw|rfl,hq⟩:=hr
  ·exact .inl ⟨w,hw,hq⟩
  ·exact .inr hq
theorem Own.cutE (H:Own B h k Ω) {α:Type}{E:Enc α}{v:V}{l:List α}(i:Nat) (hi:ent Ω i=eSl E v l) {a b:Nat}(hab:a≤b) (hb:b≤l.length):Own B h k (Mu.upd Ω i (eSl E (v.cut a b) ((l.drop a).take (b-a)))) :=
 H.upd i [] hi rfl ((H.slN i hi).cut hab hb) (fun _ _ _=>rfl) (by simp) (Nat.le_refl _) (fun r hr=>.inl (by simpa [eSl,ZmO] using hr))
theorem Own.cutF (H:Own B h k Ω) {α:Type}{E:Enc α}{v:V}{l:List α}(i:Nat) (hi:ent Ω i=eSl E v l) {z:Int}(hz:0≤z∧z≤(l.length:Int)):Own B h k (Mu.upd Ω i (eSl E (v.cut z.toNat l.length) (l.drop z.toNat))):=by
 have:=H.cutE i hi (a:=z.toNat) (b:=l.length) (by omega) (Nat.le_refl _);rwa [List.take_of_length_le (by simp)] at this
theorem Own.cutU (H:Own B h k Ω) {α:Type}{E:Enc α}{v:V}{l:List α}(i:Nat) (hi:ent Ω i=eSl E v l) {z:Int}(hz:0≤z∧z≤(l.length:Int)):Own B h k (Mu.upd Ω i (eSl E (v.cut 0 z.toNat) (l.take z.toNat))):=by
 have:=H.cutE i hi (a:=0) (b:=z.toNat) (by omega) (by omega);simpa using this
theorem Zcg {α:Type} [Inhabited α] {l:List α}{i j:Nat}{x:α}(hi:i<l.length):gi (l.set i x) j=if j=i then x else gi l j:=by
 unfold gi;simp only [List.getD_eq_getElem?_getD,List.getElem?_set];by_cases hij:i=j
 ·subst hij;simp [hi]
 ·rw [if_neg hij,if_neg (fun h=>hij h.symm)]
theorem Own.inner (H:Own B h k Ω) {α:Type}{E:Enc α}{vs:List V}{ll:List (List α)}(i:Nat) (hi:ent Ω i=Z5 E vs ll) {j:Nat}(hj:j<ll.length) {v':V}{l':List α}{k':Hp}(nw:List Nat)
  (hP:SlN E 0 k' v' l') (hs:∀ r,r ∉ Zbe (gi vs j)→r ∉ nw→k'.m r=k.m r) (hw:∀ r∈nw,k.m r=none∧h.n≤r) (hn:k.n≤k'.n) (hr:∀ r∈Zbe v',r∈Zbe (gi vs j)∨r∈nw):Own B h k' (Mu.upd Ω i (Z5 E (vs.set j v') (ll.set j l'))):=by
 obtain ⟨h1,h2,h3⟩:=H.at i hi;have hjv:j<vs.length:=by omega
 have hmem:gi vs j∈vs:=by rw [Zaz hjv];simp
 have hold:∀ q,q<vs.length→∀ r∈Zbe (gi vs q),k.m r≠none:=fun q hq r hr=>(h2 q hq).lt r hr;have hap:∀ q,q<vs.length→q≠j→∀ r∈Zbe (gi vs q),r ∉ Zbe (gi vs j):=by
  intro q hq hqj r hr hr';rw [List.pairwise_iff_getElem] at h3;rw [Zaz hq] at hr;rw [Zaz hjv] at hr';rcases Nat.lt_or_gt_of_ne hqj with c|c
  ·exact h3 q j hq hjv c r hr hr'
  ·exact h3 j q hjv hq c r hr' hr
 have hnew:∀ q,q<vs.length→q≠j→∀ r∈Zbe (gi vs q),r ∉ Zbe v':=by
  intro q hq hqj r hr' hv';rcases hr r hv' with c|c
  ·exact hap q hq hqj r hr' c
  ·exact hold q hq r hr' (hw r c).1
 refine H.upd i nw hi rfl ⟨by simp [h1],fun q hq=>?_,?_⟩ (fun r hr' hq=>hs r (fun hm=>hr' (List.mem_flatMap.2 ⟨_,hmem,hm⟩)) hq) hw hn ?_
 ·rw [Zcg hjv,Zcg (by omega)];by_cases c:q=j
  ·rw [if_pos c,if_pos c];exact hP
  ·rw [if_neg c,if_neg c];have hq':q<vs.length:=by simpa using hq
   exact (h2 q hq').loc fun r hr'=>hs r (hap q hq' c r hr') fun hm=>hold q hq' r hr' (hw r hm).1
 ·rw [List.pairwise_iff_getElem];intro a b ha hb hab r hra hrb;have ha':a<vs.length:=by simpa using ha
  have hb':b<vs.length:=by simpa using hb
  have ga:(vs.set j v')[a]=gi (vs.set j v') a:=(Zaz ha).symm;have gb:(vs.set j v')[b]=gi (vs.set j v') b:=(Zaz hb).symm;rw [ga,Zcg hjv] at hra;rw [gb,Zcg hjv] at hrb;by_cases c1:a=j
  ·rw [if_pos c1] at hra;rw [if_neg (by omega)] at hrb;exact hnew b hb' (by omega) r hrb hra
  ·rw [if_neg c1] at hra;by_cases c2:b=j
   ·rw [if_pos c2] at hrb;exact hnew a ha' c1 r hra hrb
   ·rw [if_neg c2] at hrb;rw [List.pairwise_iff_getElem] at h3;rw [Zaz ha'] at hra;rw [Zaz hb'] at hrb;exact h3 a b ha' hb' hab r hra hrb
 ·intro r hr';simp only [Z5,List.mem_flatMap] at hr' ⊢;obtain ⟨w,hw',hq⟩:=hr';rcases List.mem_or_eq_of_mem_set hw' with c|rfl
  ·exact .inl ⟨w,c,hq⟩
  ·rcases hr r hq with c|c
   ·exact .inl ⟨_,hmem,c⟩
   ·exact .inr c
end own
inductive Lit {α:Type}(E:Enc α) (k:Hp):List V→List (List α)→Prop
 | nil:Lit E k [] []
 | cons {v:V}{l:List α}{vs:List V}{ll:List (List α)}(hs:Sl E k v l) (ht:Lit E k vs ll):Lit E k (v::vs) (l::ll)
theorem Lit.at {α:Type}{E:Enc α}{k:Hp}{vs:List V}{ll:List (List α)}(hl:Lit E k vs ll):∀ {j:Nat},j<ll.length→Sl E k (gi vs j) (gi ll j):=by
 induction hl with
 | nil=>intro j hj;simp at hj
 | cons hs ht ih =>
  intro j hj
  cases j with
  | zero=>exact hs
  | succ j=>exact ih (by simpa using hj)
theorem Rd.cutF {α:Type}{B:Nat→Prop}{h:Hp}{E:Enc α}{v:V}{l:List α}(s:Rd B h E v l) {z:Int}(hz:0≤z∧z≤(l.length:Int)):Rd B h E (v.cut z.toNat l.length) (l.drop z.toNat):=fun k hk=>(s k hk).cutF hz
theorem Rd.cutU {α:Type}{B:Nat→Prop}{h:Hp}{E:Enc α}{v:V}{l:List α}(s:Rd B h E v l) {z:Int}(hz:0≤z∧z≤(l.length:Int)):Rd B h E (v.cut 0 z.toNat) (l.take z.toNat):=fun k hk=>(s k hk).cutU hz
theorem Zh {z:Int}{n:Nat}(h:0≤z∧z<(n:Int)):z.toNat<n:=by omega
end Mu
namespace Mu
theorem Sl.oneV {α:Type}{E:Enc α}{k:Hp}{v:V}{l:List α}(hs:Sl E k v l):v.one=true:=by cases hs<;>rfl
theorem all_nil:([]:List V).all V.one=true:=rfl
theorem all_cons {v:V}{l:List V}(h:v.one=true) (ht:l.all V.one=true):(v::l).all V.one=true:=by simp [h,ht]
theorem Zhb:Zax [] [] []=some true:=rfl
theorem ZfV {k:Go.IntKind}{a b:Int}{ks:List FK}{xs ys:List V}{t:Bool}(h:Zax ks xs ys=some t):Zax (.i::ks) (.i k a::xs) (.i k b::ys)=some (decide (a=b)&&t):=by
 simp only [Zax,V.same,if_true,h];by_cases c:a=b
 ·simp [c]
 ·have:(a == b)=false:=by simp [c]
  simp [c,this]
theorem Zdl {rd:Nat→Option Obj}{nr:Nat}{e:Opd→V}{α:Type}{E:Enc α}{k:Hp}{v:V}{l:List α}{n:Nat}{x:Opd}(hs:Sl E k v l) (hn:l.length=n) (hx:e x=v):act rd nr e (.len x)=some (.i .i64 (n:Int),[]):=by rw [← hn];exact ZaM hs hx
section wr
variable {Q:Ex→Fr→Hp→Prop}{next:Fr→Hp→Prop}{fr:Fr}{h:Hp}{i id:Nat}
theorem Zw (hk:next fr h):Ex.then next Q .normal fr h:=hk
theorem zS (hk:Q .ret fr h):Ex.then next Q .ret fr h:=hk
theorem Zaf (hk:Q (.exit i) fr h):Ex.then next Q (.exit i) fr h:=hk
theorem Zau (hk:Q .normal fr h):Ex.blk id Q .normal fr h:=hk
theorem ZbW (hk:Q .ret fr h):Ex.blk id Q .ret fr h:=hk
theorem ZaJ (hk:Q .normal fr h):Ex.blk id Q (.exit id) fr h:=by rw [Ex.blk_exit,if_pos rfl];exact hk
end wr
/-! Regions in which an order is drawn. -/
structure Fresh (base n J:Nat) (k:Hp):Prop where
 m:∀ i,i<n→J≤i→k.m (base+i)=none
 n:base+n≤k.n
theorem Fresh.start (k:Hp) (n:Nat):Fresh k.n n 0 (k.bump n):=⟨fun _ _ _=>Zme,Nat.le_refl _⟩
theorem Fresh.kept {base n J j:Nat}{k k':Hp}(F:Fresh base n J k) (K:Zfz k k' (base+j)) (hJ:J≤j):Fresh base n (j+1) k':=⟨fun i h1 h2=>K.2 _ (by omega) (F.m i h1 (by omega)),Nat.le_trans F.n K.1⟩
theorem Fresh.call {base n J:Nat}{k k':Hp}{Ω:List Ent}(F:Fresh base n J k) (H:Own (fun r=>r<k.n) k k' Ω):Fresh base n J k':=⟨fun i h1 h2=>(H.base _ (Nat.lt_of_lt_of_le (Nat.add_lt_add_left h1 base) F.n)).trans (F.m i h1 h2),Nat.le_trans F.n H.n⟩
theorem Fresh.callM {base n J:Nat}{k k':Hp}{Ωi Ω:List Ent}(F:Fresh base n J k) (hP:∀ e∈Ωi,e.P k) (H:Own (Bm k Ωi) k k' Ω):Fresh base n J k':=⟨fun i h1 h2=>(H.base _ ⟨Nat.lt_of_lt_of_le (Nat.add_lt_add_left h1 base) F.n,fun e he hr=>e.lt (hP e he) _ hr (F.m i h1 h2)⟩).trans (F.m i h1 h2),Nat.le_trans F.n H.n⟩
theorem Zdg {v:V}{j off r:Nat}(h:r∈Zbe (v.elt j off)):r∈Zbe v:=by
 cases v<;>simp_all [V.elt,Zbe]
theorem Rd.B {α:Type}{B:Nat→Prop}{h:Hp}{E:Enc α}{v:V}{l:List α}(s:Rd B h E v l) (hB:∀ r,B r→r<h.n) {j:Nat}(hj:j<l.length):∀ r∈Zbe v,B r:=by
 intro r hr;refine Classical.byContradiction fun hb=>?_;have h0:=s h ⟨Nat.le_refl _,fun _ _=>rfl⟩;have:=s (h.put r .dead) ⟨by simp only [Hp.put_n];omega,fun q hq=>by
  have:q≠r:=by rintro rfl;exact hb hq
  simp [this]⟩
 cases h0 with
 | nil=>simp at hj
 | emp=>simp at hj
 | sl hm hl hc hn he =>
  simp only [Zbe,List.mem_singleton] at hr;subst hr
  cases this with
  | emp=>simp at hj
  | sl hm'=>simp at hm'
theorem RdB.B {B:Nat→Prop}{h:Hp}{r:Nat}{cs:List V}(s:RdB B h r cs):B r:=by
 refine Classical.byContradiction fun hb=>?_;obtain ⟨w,hw⟩:=s (h.put r .dead) ⟨by simp only [Hp.put_n];omega,fun q hq=>by
  have:q≠r:=by rintro rfl;exact hb hq
  simp [this]⟩
 simp at hw
end Mu
namespace Mu
theorem ZkT {r n:Nat}(h:r=n) {q:Nat}(hq:q∈Zbe (.p r 0)):q=n:=by simp [Zbe] at hq;omega
end Mu
namespace Mu
open Go (IntKind)
def ZC (k:IntKind) (x y:Int):Int:=k.wrap ((BitVec.ofInt k.bits x &&& BitVec.ofInt k.bits y).toNat:Nat)
def ZbH (k:IntKind) (x y:Int):Int:=k.wrap ((BitVec.ofInt k.bits x ||| BitVec.ofInt k.bits y).toNat:Nat)
def ZaT (k:IntKind) (x y:Int):Int:=k.wrap (x+y)
def zE (k:IntKind) (x y:Int):Int:=k.wrap (x*y)
def ZbZ (k:IntKind) (x y:Int):Int:=k.wrap (x*2 ^ (min y.toNat k.bits))
def zj (k:IntKind) (x y:Int):Int:=x.fdiv (2 ^ (min y.toNat k.bits))
theorem Zl5 {k:IntKind}{x y:Int}(h:0≤y):shift .shl k x y=some (.i k (ZbZ k x y)):=by
 have:¬y<0:=by omega
 simp [shift,this,ZbZ]
theorem ZdI {k:IntKind}{x y:Int}(h:0≤y):shift .shr k x y=some (.i k (zj k x y)):=by
 have:¬y<0:=by omega
 simp [shift,this,zj]
end Mu
namespace Mu
theorem ZoR {B:Nat→Prop}{h k0 k:Hp}{Ω:List Ent}(H:Own B h k0 Ω) (hk:Ex' (fun r=>r<k0.n) k0 k):Ex' B h k:=⟨Nat.le_trans H.n hk.1,fun r hr=>(hk.2 r (Nat.lt_of_lt_of_le (H.lo r hr) H.n)).trans (H.base r hr)⟩
end Mu
namespace Mu
theorem tch {e:Opd→V}{a:Opd}{v:V}{r:Nat}(hm:r∈Zbe (e a)) (h:e a=v):r∈Zbe v:=h ▸ hm
section cpy
variable {B:Nat→Prop}{h k:Hp}{Ω:List Ent}{nr:Nat}{e:Opd→V}
theorem Znc {α:Type}{E:Enc α}{nr b:Nat}{h:Hp}{x y:V}{l m:List α}{bytes:Nat}{K:V→List (Nat×Obj)→Prop}(hx:SlN E b h x l) (hnr:h.m nr=none) (hy:Sl E h y m) (hb:b≤nr) (hallm:((m.map E.c).flatten).all V.one=true) (hl:(l.length+m.length)*bytes≤140737488355328) 
  (hk:∀ v up,SlN E b (h.puts up) v (l++m)→Ext b h (h.puts up)→(∀ q,q≠nr→h.m q=none→(h.puts up).m q=none)→K v up):WA (ZfC h.m nr E.sz bytes x y) K:=by
 cases hx with
 | nil =>
  cases hy with
  | nil=>exact hk _ _ .nil .refl (fun _ _ hq=>hq)
  | emp =>
   simp only [ZfC,act,Zcm,if_true];exact hk _ _ .nil .refl (fun _ _ hq=>hq)
  | @sl r' o' n' c' ex' w' cs' _ hm' hl' hc' hn' he' =>
   simp only [ZfC,act,Zcm,if_true];by_cases h0:n'=0
   ·subst h0;rw [if_pos rfl];have:m=[]:=List.length_eq_zero_iff.mp hl';subst this;exact hk _ _ .nil .refl (fun _ _ hq=>hq)
   ·rw [if_neg h0];subst hl';simp only [hm',Zcm];rw [if_pos ⟨hn',by simpa using hl⟩];refine hk _ _ ?_ ?_ (fun q hq hq'=>by simp [hq,hq'])
    ·rw [he'];exact .sl hb (by simp;rfl) (by simp) (Nat.le_refl _) (by rw [Zae];simp) (by
      rw [piece,List.drop_zero,List.take_of_length_le (by rw [Zae];simp)];simp)
    ·exact Ext.put hb
 | @sl r o n c ex cs _ hrb hm hln hc hn he =>
  cases hy with
  | nil =>
   simp only [ZfC,act,Zcm,if_true];have:=hk (.sl E.sz r o n c ex) [] (by simpa using SlN.sl hrb hm hln hc hn he) .refl (fun _ _ hq=>hq);exact this
  | emp =>
   simp only [ZfC,act,Zcm,if_true];exact hk (.sl E.sz r o n c ex) [] (by simpa using SlN.sl hrb hm hln hc hn he) .refl (fun _ _ hq=>hq)
  | @sl r' o' n' c' ex' w' cs' _ hm' hl' hc' hn' he' =>
   simp only [ZfC,act,Zcm,if_true];by_cases h0:n'=0
   ·subst h0;rw [if_pos rfl];have:m=[]:=List.length_eq_zero_iff.mp hl';subst this;exact hk (.sl E.sz r o n c ex) [] (by simpa using SlN.sl hrb hm hln hc hn he) .refl (fun _ _ hq=>hq)
   ·rw [if_neg h0];subst hln hl';by_cases hg:l.length=0∧ex=true∧c<m.length
    ·rw [if_pos hg];simp only [hm',Zcm];rw [if_pos ⟨hn',by rw [hg.1,Nat.zero_add] at hl;exact hl⟩];have hz:l=[]:=List.length_eq_zero_iff.mp hg.1;subst hz;refine hk _ _ ?_ (Ext.put hb) (fun q hq hq'=>by simp [hq,hq']);rw [he'];exact .sl hb (by simp;rfl) (by simp) (Nat.le_refl _) (by rw [Zae];simp) (by
      rw [piece,List.drop_zero,List.take_of_length_le (by rw [Zae];simp)];simp)
    rw [if_neg hg];simp only [hm,hm',Zcm];rw [if_pos ⟨hn,hn',hl⟩];have hlen:(piece cs o (l.length*E.sz)++piece cs' o' (m.length*E.sz))=((l++m).map E.c).flatten:=by
     rw [he,he'];simp
    have hnew:∀ h':Hp,h'.m nr=some (.cells true (((l++m).map E.c).flatten))→SlN E b h' (.sl E.sz nr 0 (l.length+m.length) (l.length+m.length) false) (l++m):=by
     intro h' hh;exact .sl hb hh (by simp) (Nat.le_refl _) (by rw [Zae];simp) (by
      rw [piece,List.drop_zero,List.take_of_length_le (by rw [Zae];simp)])
    rw [hlen];split
    ·refine hk _ _ (hnew _ (by simp)) ?_ (fun q hq hq'=>by simp [hq,hq']);exact Ext.put hb
    ·rw [if_pos ⟨trivial,by rw [he'];exact hallm⟩];have hrn:nr≠r:=by
      rintro rfl;rw [hnr] at hm;cases hm
     refine hk _ _ (hnew _ ?_) ?_ (fun q hq hq'=>by
      have:q≠r:=by
       rintro rfl;rw [hq'] at hm;cases hm
      simp [hq,hq',this])
     ·simp [hrn]
     ·exact (Ext.put hb).trans (Ext.put (n:=b) hrb) (Nat.le_refl _)
theorem Own.appV (H:Own B h k Ω) (i:Nat) (hn:k.m nr=none∧h.n≤nr) {v w:V}{l m:List V}{bytes:Nat}{x y:Opd}(hi:ent Ω i=eSl eV v l) (hy:Sl eV k w m) (hx:e x=v) (hy':e y=w) (h1:m.all V.one=true) (hl:l.length+m.length≤1000000000) (hb:bytes≤100000) :
  ∃ v' k' up,act k.m nr e (.app 1 bytes x y)=some (v',up)∧k.puts up=k'∧Zfz k k' nr∧Own B h k' (Mu.upd Ω i (eSl eV v' (l++m))):=by
 have hs:=H.slN i hi;have hl2:(l.length+m.length)*bytes≤140737488355328:=by
  have:(l.length+m.length)*bytes≤1000000000*100000:=Nat.mul_le_mul hl hb;omega
 have hflat:∀ (m:List V),(m.map eV.c).flatten=m:=by
  intro m
  induction m with
  | nil=>rfl
  | cons a m ih=>simp only [List.map_cons,List.flatten_cons,ih,ZqJ,List.singleton_append]
 obtain ⟨v',up,ha,k4,k5⟩:=ZlI (Znc (E:=eV) (K:=fun v' up=>SlN eV 0 (k.puts up) v' (l++m)∧(∀ q,q≠nr→k.m q=none→(k.puts up).m q=none)) (b:=0) hs hn.1 hy (Nat.zero_le _) (by rw [hflat];exact h1) hl2 fun v' up a b c=>⟨a,c⟩);obtain ⟨k6,k7⟩:=Zjv ha;refine ⟨v',_,up,?_,rfl,⟨ZeX _ _,k5⟩,H.upd i [nr] hi rfl k4 (fun r hr hq=>Hp.puts_m fun z hz=>?_) (fun r hr=>?_) (ZeX _ _) (fun r hr=>?_)⟩
 ·rw [ZkF,hx,hy'];exact ha
 ·rintro rfl;rcases k6 z hz with h2|h2
  ·exact hq (by simp [h2])
  ·exact hr h2
 ·have:r=nr:=by simpa using hr
  subst this;exact hn
 ·rcases k7 r hr with h2|h2
  ·exact .inr (by simp [h2])
  ·exact .inl h2
end cpy
end Mu
namespace Mu
def eIf (c:Bool) (e:Ent):Ent:=if c=true then e else Zd2
end Mu
namespace Mu
end Mu
namespace Mu
section cp
variable {B:Nat→Prop}{h k:Hp}{Ω:List Ent}{nr:Nat}{e:Opd→V}
theorem Own.cpyA {α:Type}{E:Enc α}(H:Own B h k Ω) (i:Nat) {v w d:V}{l m:List α}{x y:Opd}{a:Nat}(hi:ent Ω i=eSl E v l) (hal:a≤l.length) (hd:(d=v∧a=0)∨d=v.cut a l.length) (hy:Sl E k w m) (hx:e x=d) (hy':e y=w) (h1:∀ a,(E.c a).all V.one=true) :
  ∃ u k' up,act k.m nr e (.cpy E.sz x y)=some (u,up)∧k.puts up=k'∧u=.i .i64 ((min m.length (l.length-a):Nat):Int)∧Zfz k k' nr∧Own B h k' (Mu.upd Ω i (eSl E v (l.take a++(m.take (l.length-a)++(l.drop a).drop m.length)))):=by
 have hs:=H.slN i hi
 -- the places
 have hdl:d.len=some (l.length-a):=by
  rcases hd with ⟨rfl,rfl⟩|rfl
  ·have:=hs.to.len;unfold Zkf at this
   cases hh:d.len with
   | none=>simp [hh] at this
   | some n=>simp [hh] at this;simp;omega
  ·have:=(hs.to.cut (a:=a) (b:=l.length) hal (Nat.le_refl _)).len;unfold Zkf at this
   cases hh:(v.cut a l.length).len with
   | none=>simp [hh] at this
   | some n=>simp [hh] at this;simp;omega
 have hwl:w.len=some m.length:=by
  have:=hy.len;unfold Zkf at this
  cases hh:w.len with
  | none=>simp [hh] at this
  | some n=>simp [hh] at this;simp;omega
 by_cases h0:min m.length (l.length-a)=0
 ·have hl:l.take a++(m.take (l.length-a)++(l.drop a).drop m.length)=l:=by
   by_cases hm0:m.length=0
   ·have:m=[]:=List.length_eq_zero_iff.mp hm0;subst this;simp
   ·have hla:l.length-a=0:=by omega
    have:a=l.length:=by omega
    subst this;simp
  refine ⟨.n 0,k,[],?_,rfl,by rw [h0];rfl,⟨Nat.le_refl _,fun _ _ hq=>hq⟩,?_⟩
  ·simp only [act,hx,hy',hdl,hwl];rw [if_pos h0]
  ·rw [hl];exact H.upd i [] hi rfl hs (fun _ _ _=>rfl) (by simp) (Nat.le_refl _) (fun r hr=>.inl hr)
 ·cases hs with
  | nil=>simp at h0
  | @sl r o n c ex cs _ hb hm hln hc hn he =>
   subst hln;have hdv:∃ n2 c2 ex2,d=.sl E.sz r (o+a*E.sz) n2 c2 ex2:=by
    rcases hd with ⟨rfl,rfl⟩|rfl
    ·exact ⟨_,_,_,by rw [Nat.zero_mul,Nat.add_zero]⟩
    ·refine ⟨l.length-a,c-a,ex,?_⟩;simp only [V.cut];rw [if_neg (by omega)]
   obtain ⟨n2,c2,ex2,hdv⟩:=hdv
   cases hy with
   | nil=>simp at h0
   | emp=>simp at h0
   | @sl r' o' n' c' ex' w' cs' _ hm' hl' hc' hn' he' =>
    subst hl';generalize hq:min m.length (l.length-a)=q at h0 ⊢;have hqm:q*E.sz≤m.length*E.sz:=Nat.mul_le_mul_right _ (by omega);have hql:a*E.sz+q*E.sz≤l.length*E.sz:=by rw [← Nat.add_mul];exact Nat.mul_le_mul_right _ (by omega)
    have hp:piece cs' o' (q*E.sz)=((m.take q).map E.c).flatten:=by
     have:=Zec (cs:=cs') (o:=o') (n:=m.length*E.sz) (o':=0) (n':=q*E.sz) (by omega);rw [Nat.add_zero] at this;rw [← this,he',piece,List.drop_zero,Zdw]
    have hlen:(piece cs' o' (q*E.sz)).length=q*E.sz:=by rw [hp,Zae,List.length_take];congr 1;omega
    have hall:(piece cs' o' (q*E.sz)).all V.one=true:=by
     rw [hp];simp only [List.all_eq_true,List.mem_flatten,List.mem_map];rintro x ⟨_,⟨a,_,rfl⟩,hx⟩;have:=h1 a;rw [List.all_eq_true] at this;exact this x hx
    have hlt:=Hp.lt hm;refine ⟨.n (q:Nat),_,[(r,.cells true (over cs (o+a*E.sz) (piece cs' o' (q*E.sz))))],?_,rfl,rfl,⟨by simp only [Hp.puts_cons,Hp.puts_nil,Hp.put_n];omega,fun z hz hm2=>?_⟩,H.upd i [] hi rfl ?_ (fun z hz _=>?_) (by simp) ?_ (fun z hz=>.inl hz)⟩
    ·simp only [act,hx,hy',hdl,hwl,hq];rw [if_neg h0,hdv];simp only [and_self,if_true,hm,hm'];rw [if_pos ⟨by omega,by omega,hall⟩]
    ·have:z≠r:=by rintro rfl;rw [hm2] at hm;cases hm
     simp [this,hm2]
    ·have hlist:l.take a++(m.take (l.length-a)++(l.drop a).drop m.length)=l.take a++(m.take q++(l.drop a).drop q):=by
      congr 1;by_cases c1:m.length≤l.length-a
      ·have:q=m.length:=by omega
       subst this;rw [List.take_of_length_le c1,List.take_of_length_le (Nat.le_refl _)]
      ·have:q=l.length-a:=by omega
       subst this;rw [List.drop_of_length_le (l:=l.drop a) (i:=m.length) (by simp;omega),List.drop_of_length_le (l:=l.drop a) (i:=l.length-a) (by simp)]
     have hll:(l.take a++(m.take q++(l.drop a).drop q)).length=l.length:=by
      simp only [List.length_append,List.length_take,List.length_drop];omega
     rw [hlist];refine SlN.sl (cs:=over cs (o+a*E.sz) (piece cs' o' (q*E.sz))) hb (by simp) hll hc ?_ ?_
     ·unfold over;simp only [List.length_append,List.length_take,List.length_drop,hlen];omega
     ·rw [Zgn hn (by rw [hlen];exact hql),he];unfold over;rw [hlen,Zdw,hp,← Nat.add_mul,Zez];simp [List.drop_drop]
    ·have:z≠r:=by simpa [eSl,Zbe] using hz
     simp [this]
    ·simp only [Hp.puts_cons,Hp.puts_nil,Hp.put_n];omega
theorem Own.cpy {α:Type}{E:Enc α}(H:Own B h k Ω) (i:Nat) {v w:V}{l m:List α}{x y:Opd}(hi:ent Ω i=eSl E v l) (hy:Sl E k w m) (hx:e x=v) (hy':e y=w) (h1:∀ a,(E.c a).all V.one=true) :
  ∃ u k' up,act k.m nr e (.cpy E.sz x y)=some (u,up)∧k.puts up=k'∧u=.i .i64 ((min m.length l.length:Nat):Int)∧Zfz k k' nr∧Own B h k' (Mu.upd Ω i (eSl E v (m.take l.length++l.drop m.length))):=by
 have:=H.cpyA (nr:=nr) i hi (a:=0) (Nat.zero_le _) (.inl ⟨rfl,rfl⟩) hy hx hy' h1;simpa using this
theorem Own.cpyF {α:Type}{E:Enc α}(H:Own B h k Ω) (i:Nat) {v w:V}{l m:List α}{x y:Opd}{z:Int}(hi:ent Ω i=eSl E v l) (hz:0≤z∧z≤(l.length:Int)) (hy:Sl E k w m) (hx:e x=v.cut z.toNat l.length) (hy':e y=w) (h1:∀ a,(E.c a).all V.one=true) :
  ∃ u k' up,act k.m nr e (.cpy E.sz x y)=some (u,up)∧k.puts up=k'∧u=.i .i64 ((min m.length (l.drop z.toNat).length:Nat):Int)∧Zfz k k' nr∧Own B h k' (Mu.upd Ω i (eSl E v (l.take z.toNat++(m.take (l.drop z.toNat).length++(l.drop z.toNat).drop m.length)))):=by
 have:=H.cpyA (nr:=nr) i hi (a:=z.toNat) (by omega) (.inr rfl) hy hx hy' h1;simpa only [List.length_drop] using this
end cp
end Mu
namespace Mu
theorem RdB.mem {B:Nat→Prop}{h:Hp}{r o q:Nat}{cs:List V}(s:RdB B h r cs) (hq:q∈Zbe (.p r o)):B q:=by
 have:q=r:=by simpa [Zbe] using hq
 subst this;exact s.B
end Mu
namespace Mu
theorem Zby {e:Opd→V}{agg:Bool}{sz r:Nat}{a:Opd}(hm:r∈ZbB e (.ld agg sz a)):r∈Zbe (e a):=hm
theorem Zoy {e:Opd→V}{sz r:Nat}{a x:Opd}(hm:r∈ZbB e (.st sz a x)):r∈Zbe (e a):=hm
end Mu
namespace Mu
open Go (IntKind)
theorem Zev {k:IntKind}{n:Int}:(V.i k n).cells=[V.i k n]:=rfl
theorem Zet {x:Bool}:(V.b x).cells=[V.b x]:=rfl
theorem Zeu {id:Nat}{caps:List V}:(V.f id caps).cells=[V.f id caps]:=rfl
theorem Zex {r o:Nat}:(V.p r o).cells=[V.p r o]:=rfl
theorem Zes {l:List V}:(V.ag l).cells=l:=rfl
theorem Zew:V.sn.cells=[V.sn]:=rfl
end Mu
namespace Mu
theorem Zp0 {α:Type}{E:Enc α}{h:Hp}{v:V}{l:List α}(hs:Sl E h v l):(v=.sn∧l=[])∨∃ es r o n c ex,v=.sl es r o n c ex:=by
 cases hs with
 | nil=>exact .inl ⟨rfl,rfl⟩
 | emp=>exact .inr ⟨_,_,_,_,_,_,rfl⟩
 | sl=>exact .inr ⟨_,_,_,_,_,_,rfl⟩
theorem ZpR {rd:Nat→Option Obj}{nr:Nat}{e:Opd→V}{x y:Opd}{v:V}(hn:∃ es r o n c ex,v=.sl es r o n c ex) (hx:e x=v) (hy:e y=.sn):act rd nr e (.eq false .sl x y)=some (.b false,[]):=by
 obtain ⟨es,r,o,n,c,ex,rfl⟩:=hn;rw [Zge,hx,hy];rfl
end Mu
namespace Mu
theorem unw {α:Type}{x:Option α}{g:α}{r:Nat}(h:x=some g):(if x.isSome=true then V.p r 0 else V.pn)=V.p r 0:=by rw [h];rfl

/-! Strings. -/
section strings
theorem ZoC {a b:ByteArray}(h:a.data=b.data):a=b:=by cases a;cases b;simp_all
instance:DecidableEq ByteArray:=fun a b=>decidable_of_iff (a.data=b.data) ⟨ZoC,fun h=>by rw [h]⟩
variable {rd:Nat→Option Obj}{nr:Nat}{e:Opd→V}{x y:Opd}{a b:ByteArray}
end strings

/-! Maps to bools. -/
section maps
set_option linter.unusedSectionVars false
variable {κ:Type} [DecidableEq κ]
def mpV (E:Enc κ) (m:List (κ×Bool)):List (V×V):=m.map fun p=>(.ag (E.c p.1),.b p.2)
def eMp (E:Enc κ) (r:Nat) (m:List (κ×Bool)):Ent:=⟨[r],fun k=>k.m r=some (.mp (mpV E m)),fun hp hr=>(hr r (by simp)).trans hp,fun hp q hq=>by simp at hq;subst hq;rw [hp];simp⟩
theorem Ziy {ks:List FK}{E:Enc κ}(hE:∀ x y,Zax ks (E.c x) (E.c y)=some (decide (x=y))) (q:κ):∀ m:List (κ×Bool),∃ r,lookup ks (.ag (E.c q)) (mpV E m)=some r∧(r=some (.b (Zfy false q m))∨(r=none∧Zfy false q m=false))
 | []=>⟨none,by simp [mpV,lookup,eqv,hE],.inr ⟨rfl,rfl⟩⟩
 | p::m=>by
  have e:mpV E (p::m)=(.ag (E.c p.1),.b p.2)::mpV E m:=rfl;by_cases c:q=p.1
  ·refine ⟨some (.b p.2),by simp [e,lookup,eqv,hE,c],.inl ?_⟩;simp [Zfy,c]
  ·obtain ⟨r,h1,h2⟩:=Ziy hE q m;refine ⟨r,by simp [e,lookup,eqv,hE,c,h1],?_⟩;simpa [Zfy,c] using h2
theorem Zi7 {ks:List FK}{E:Enc κ}(hE:∀ x y,Zax ks (E.c x) (E.c y)=some (decide (x=y))) (q:κ) (v:Bool):∀ m:List (κ×Bool),Zeg ks (.ag (E.c q)) (.b v) (mpV E m)=some (mpV E (ZeW q v m))
 | []=>by simp [mpV,Zeg,eqv,hE,ZeW]
 | p::m=>by
  have e:mpV E (p::m)=(.ag (E.c p.1),.b p.2)::mpV E m:=rfl;have ih:=Zi7 hE q v m;by_cases c:q=p.1
  ·simp [e,Zeg,eqv,hE,c,ZeW,mpV]
  ·have e2:ZeW q v (p::m)=p::ZeW q v m:=by simp [ZeW,c]
   rw [e2,e];simp only [Zeg,eqv,hE,decide_eq_false c,ih];rfl
variable {B:Nat→Prop}{h k:Hp}{Ω:List Ent}{nr:Nat}{e:Opd→V}{E:Enc κ}{r:Nat}{m:List (κ×Bool)}
theorem Own.mpP (H:Own B h k Ω) (i:Nat) (hi:ent Ω i=eMp E r m):k.m r=some (.mp (mpV E m)):=H.at i hi
theorem Zol {x y:Opd}{q:κ}{ks:List FK}(hm:k.m r=some (.mp (mpV E m))) (hx:e x=.mp r) (hy:e y=.ag (E.c q)) (hE:∀ x y,Zax ks (E.c x) (E.c y)=some (decide (x=y))):act k.m nr e (.mlk ks false (.b false) x y)=some (.b (Zfy false q m),[]):=by
 obtain ⟨w,h1,h2⟩:=Ziy hE q m;simp only [act,hx,hm,hy,h1];rcases h2 with rfl|⟨rfl,h2⟩
 ·rfl
 ·rw [h2];rfl
theorem Own.mkm (E:Enc κ) (H:Own B h k Ω) (hn:k.m nr=none∧h.n≤nr):∃ v k' up,act k.m nr e .mkm=some (v,up)∧k.puts up=k'∧∃ r,v=.mp r∧r=nr∧Zfz k k' nr∧Own B h k' (Ω++[eMp E r []]):=by
 refine ⟨.mp nr,_,[(nr,.mp [])],rfl,rfl,nr,rfl,rfl,ZeT,?_⟩;refine H.add [nr] rfl (by simp [eMp,mpV]) (fun r hr=>?_) (fun r hr=>?_) ?_ (fun r hq=>by simpa [eMp] using hq)
 ·have:r≠nr:=by simpa using hr
  simp [this]
 ·have:r=nr:=by simpa using hr
  subst this;exact hn
 ·simp only [Hp.puts_cons,Hp.puts_nil,Hp.put_n];omega
theorem Own.mup (H:Own B h k Ω) (i:Nat) {x y u:Opd}{q:κ}{v:Bool}{ks:List FK}(hi:ent Ω i=eMp E r m) (hx:e x=.mp r) (hy:e y=.ag (E.c q)) (hu:e u=.b v) (hE:∀ x y,Zax ks (E.c x) (E.c y)=some (decide (x=y))) :
  ∃ w k' up,act k.m nr e (.mup ks x y u)=some (w,up)∧k.puts up=k'∧w=.un∧Zfz k k' nr∧k'.n=k.n∧Own B h k' (Mu.upd Ω i (eMp E r (ZeW q v m))):=by
 have hb:=H.mpP i hi;have hlt:r<k.n:=H.ltAt i hi r (by simp [eMp]);refine ⟨.un,_,[(r,.mp (mpV E (ZeW q v m)))],?_,rfl,rfl,?_,?_,H.upd i [] hi rfl ?_ (fun q hq _=>?_) (by simp) ?_ (fun q hq=>.inl hq)⟩
 ·simp only [act,hx,hb,hy,hu,Zi7 hE]
 ·refine ⟨by simp only [Hp.puts_cons,Hp.puts_nil,Hp.put_n];omega,fun q hq hm=>?_⟩;have:q≠r:=by rintro rfl;rw [hm] at hb;cases hb
  simp [this,hm]
 ·simp only [Hp.puts_cons,Hp.puts_nil,Hp.put_n];omega
 ·simp [eMp]
 ·have:q≠r:=by simpa [eMp] using hq
  simp [this]
 ·simp only [Hp.puts_cons,Hp.puts_nil,Hp.put_n];omega
end maps
end Mu
namespace Mu
def V.capd (v:V) (n:Nat):V:=match v with
 | .sl es r o _ _ _=>.sl es r o n n true
 | v=>v
section capd
open Go (IntKind)
variable {nr:Nat}{e:Opd→V}{rd:Nat→Option Obj}{α:Type}{E:Enc α}
theorem SlN.capd {k:Hp}{v:V}{l:List α}(hs:SlN E 0 k v l) {n:Nat}(hb:n≤l.length):SlN E 0 k (v.capd n) (l.take n):=by
 have t:=hs.cut (Nat.zero_le n) hb;simp only [List.drop_zero,Nat.sub_zero] at t
 cases v with
 | sl es r o m c ex =>
  simp only [V.cut,Nat.zero_mul,Nat.add_zero,ite_self,Nat.sub_zero] at t;simp only [V.capd];generalize l.take n=q at t
  cases t with
  | sl h0 hm' hl' hc' hn' he'=>exact .sl h0 hm' hl' (Nat.le_refl _) hn' he'
 | _=>exact t
end capd
end Mu
/-! An array's memory as a slice;inner slices turned or laid;what is cleared. -/
namespace Mu
open Go (IntKind BinOp UnOp)
section own
variable {B:Nat→Prop}{h k:Hp}{Ω:List Ent}{nr:Nat}{e:Opd→V}
theorem Own.boxSl (H:Own B h k Ω) {α:Type}{E:Enc α}(i:Nat) {r n:Nat}{cs:List V}{l:List α}(hi:ent Ω i=ZU r cs) (hc:cs=(l.map E.c).flatten) (hn:l.length=n):Own B h k (Mu.upd Ω i (eSl E (.sl E.sz r 0 n n true) l)):=by
 subst hc;refine H.upd i [] hi rfl ?_ (fun _ _ _=>rfl) (by simp) (Nat.le_refl _) (fun q hq=>.inl (by simpa [eSl,ZU,Zbe] using hq));exact .sl (Nat.zero_le _) (H.box i hi) hn (Nat.le_refl _) (by rw [Zae,hn];omega) (by rw [piece,List.drop_zero,List.take_of_length_le (by rw [Zae,hn];exact Nat.le_refl _)])
theorem ZlR {α:Type}{E:Enc α}{l:List α}{r n:Nat}{x:Opd}(hs:SlN E 0 k (.sl E.sz r 0 n n true) l) (hx:e x=.p r 0) (h0:n≠0):act k.m nr e (.slca E.sz n x none none none)=some (.sl E.sz r 0 n n true,[]):=by
 generalize hv:V.sl E.sz r 0 n n true=v at hs
 cases hs with
 | nil=>cases hv
 | @sl r o m c ex cs _ hb hm hl hc hn he =>
  cases hv;simp only [act,hx,Zdd,hm];rw [if_pos hn,if_neg h0];simp
theorem Zpy {c:Bool}{a b:V}(h:c=true):(if c=true then a else b)=a:=if_pos h
theorem Zpx {c:Bool}{a b:V}(h:c=false):(if c=true then a else b)=b:=if_neg (by rw [h];decide)
theorem Own.growz {α:Type}{E:Enc α}{y:α}(H:Own B h k Ω) (hn:k.m nr=none∧h.n≤nr) {bytes:Nat}{K':IntKind}{z:Int}{zero:List V}{x x':Opd}(hx:e x=.sn) (hx':e x'=.i K' z) (hz:E.c y=zero) (h0:0<z∧z≤1000000000) (hb:bytes≤100000) :
  ∃ v k' up,act k.m nr e (.growz E.sz bytes zero x x')=some (v,up)∧k.puts up=k'∧Zbe v=[nr]∧Zfz k k' nr∧Own B h k' (Ω++[eSl E v (List.replicate z.toNat y)]):=by
 subst hz;have hf:(List.replicate z.toNat (E.c y)).flatten=((List.replicate z.toNat y).map E.c).flatten:=by rw [List.map_replicate]
 refine ⟨.sl E.sz nr 0 z.toNat z.toNat false,_,[(nr,.cells true (List.replicate z.toNat (E.c y)).flatten)],?_,rfl,rfl,ZeT,H.news hn ?_ (by simp [eSl,Zbe])⟩
 ·simp only [act,hx,hx'];rw [if_pos];refine ⟨h0.1,?_⟩;have h1:z.toNat*bytes≤z.toNat*100000:=Nat.mul_le_mul_left _ hb;omega
 ·rw [hf];refine .sl (cs:=((List.replicate z.toNat y).map E.c).flatten) (Nat.zero_le _) (by simp) (by simp) (Nat.le_refl _) (by rw [Zae];simp) (by rw [piece,List.drop_zero,List.take_of_length_le (by rw [Zae];simp)])
theorem Own.steInn {α:Type} [Inhabited α] {E:Enc α}(H:Own B h k Ω) (i:Nat) {vs:List V}{ll:List (List α)}{y:α}{j q off sz:Nat}{a x:Opd}{w:V}{ws:List V}(hi:ent Ω i=Z5 E vs ll) (hj:j<ll.length) (ha:e a=(gi vs j).elt q off) (hq:q<(gi ll j).length) (hx:e x=w) (hw:w.cells=ws) (h1:ws.length=sz∧off+sz≤E.sz∧ws.all V.one=true) (ho:over (E.c (gi (gi ll j) q)) off ws=E.c y) :
  ∃ u k' up,act k.m nr e (.st sz a x)=some (u,up)∧k.puts up=k'∧u=.un∧Zfz k k' nr∧k'.n=k.n∧Own B h k' (Mu.upd Ω i (Z5 E vs (ll.set j ((gi ll j).set q y)))):=by
 obtain ⟨h2,h3,h4⟩:=H.at i hi;have hjv:j<vs.length:=by omega
 have hs:=h3 j hjv;have H1:Own (fun r=>r<k.n∧r ∉ Zbe (gi vs j)) k k [eSl E (gi vs j) (gi ll j)]:=⟨Nat.le_refl _,fun _ _=>rfl,fun _ hr=>hr.1,fun e he=>by simp only [List.mem_singleton] at he;subst he;exact hs,fun e he r hr hb=>by simp only [List.mem_singleton] at he;subst he;exact hb.2 hr,by simp⟩;obtain ⟨u,k',up,g1,g2,g3,g4,g5,g6⟩:=H1.ste (nr:=nr) 0 rfl ha hq hx hw h1 ho;refine ⟨u,k',up,g1,g2,g3,g4,g5,?_⟩;have hv:vs.set j (gi vs j)=vs:=by rw [Zaz hjv];simp
 have:=H.inner i hi hj (v':=gi vs j) (l':=(gi ll j).set q y) (k':=k') [] (g6.slN 0 rfl) (fun r hr _=>?_) (by simp) (by omega) (fun r hr=>.inl hr)
 ·rwa [hv] at this
 ·by_cases hlt:r<k.n
  ·exact g6.base r ⟨hlt,hr⟩
  ·rw [k.wf r (by omega),k'.wf r (by omega)]
theorem Own.absorbAt (H:Own B h k Ω) {α:Type}{E:Enc α}{vs:List V}{ll:List (List α)}{v:V}{l:List α}(i j:Nat) {q:Nat}(hi:ent Ω i=Z5 E vs ll) (hj:ent Ω j=eSl E v l) (hij:i≠j) (hq:q<ll.length):Own B h k (Mu.upd (Mu.upd Ω i (Z5 E (vs.set q v) (ll.set q l))) j Zd2):=by
 refine H.join i j hi hj hij rfl (fun ha hb hab=>?_) (fun r hr=>?_)
 ·obtain ⟨h1,h2,h3⟩:=ha;have hqv:q<vs.length:=by omega
  have hab':∀ p,p<vs.length→∀ r∈Zbe (gi vs p),r ∉ Zbe v:=fun p hp r hr=>hab r (List.mem_flatMap.2 ⟨_,by rw [Zaz hp];simp,hr⟩);refine ⟨by simp [h1],fun p hp=>?_,?_⟩
  ·rw [Zcg hqv,Zcg hq];by_cases c:p=q
   ·rw [if_pos c,if_pos c];exact hb
   ·rw [if_neg c,if_neg c];exact h2 p (by simpa using hp)
  ·rw [List.pairwise_iff_getElem] at h3 ⊢;intro a b ha hb hlt r hra hrb;have ha':a<vs.length:=by simpa using ha
   have hb':b<vs.length:=by simpa using hb
   rw [(Zaz ha).symm,Zcg hqv] at hra;rw [(Zaz hb).symm,Zcg hqv] at hrb;by_cases c1:a=q
   ·rw [if_pos c1] at hra;rw [if_neg (by omega)] at hrb;exact hab' b hb' r hrb hra
   ·rw [if_neg c1] at hra;by_cases c2:b=q
    ·rw [if_pos c2] at hrb;exact hab' a ha' r hra hrb
    ·rw [if_neg c2] at hrb;rw [Zaz ha'] at hra;rw [Zaz hb'] at hrb;exact h3 a b ha' hb' hlt r hra hrb
 ·simp only [Z5,List.mem_flatMap] at hr ⊢;obtain ⟨w,hw,hr⟩:=hr;rcases List.mem_or_eq_of_mem_set hw with c|rfl
  ·exact .inl ⟨w,c,hr⟩
  ·exact .inr hr
theorem Own.clrF {α:Type}{E:Enc α}(H:Own B h k Ω) (i:Nat) {v:V}{l:List α}{y:α}{zero:List V}{x:Opd}{z:Int}(hi:ent Ω i=eSl E v l) (hz:0≤z∧z≤(l.length:Int)) (hx:e x=v.cut z.toNat l.length) (hy:E.c y=zero) (h1:∀ a,(E.c a).all V.one=true) :
  ∃ u k' up,act k.m nr e (.clr zero x)=some (u,up)∧k.puts up=k'∧u=.un∧Zfz k k' nr∧Own B h k' (Mu.upd Ω i (eSl E v (l.take z.toNat++List.replicate (l.length-z.toNat) y))):=by
 subst hy;have hs:=H.slN i hi;have nop:z.toNat=l.length→Own B h k (Mu.upd Ω i (eSl E v (l.take z.toNat++List.replicate (l.length-z.toNat) y))):=by
  intro e0;have:l.take z.toNat++List.replicate (l.length-z.toNat) y=l:=by rw [e0];simp
  rw [this];exact H.upd i [] hi rfl hs (fun _ _ _=>rfl) (by simp) (Nat.le_refl _) (fun r hr=>.inl hr)
 generalize ha:z.toNat=a at hx nop ⊢;have hal:a≤l.length:=by omega
 cases hs with
 | nil =>
  refine ⟨.un,k,[],?_,rfl,rfl,⟨Nat.le_refl _,fun _ _ hq=>hq⟩,nop (by simpa using hal)⟩;simp [act,hx,V.cut]
 | @sl r o n c ex cs _ hb hm hl hc hn he =>
  subst hl;by_cases h0:l.length-a=0
  ·refine ⟨.un,k,[],?_,rfl,rfl,⟨Nat.le_refl _,fun _ _ hq=>hq⟩,nop (by omega)⟩;simp [act,hx,V.cut,h0]
  ·have hsz:a*E.sz+(l.length-a)*E.sz=l.length*E.sz:=by rw [← Nat.add_mul];congr 1;omega
   have hfl:(List.replicate (l.length-a) (E.c y)).flatten=((List.replicate (l.length-a) y).map E.c).flatten:=by rw [List.map_replicate]
   have hlen:(List.replicate (l.length-a) (E.c y)).flatten.length=(l.length-a)*E.sz:=by rw [hfl,Zae];simp
   refine ⟨.un,_,[(r,.cells true (over cs (o+a*E.sz) (List.replicate (l.length-a) (E.c y)).flatten))],?_,rfl,rfl,⟨by simp only [Hp.puts_cons,Hp.puts_nil,Hp.put_n];omega,fun q hq hm2=>?_⟩,H.upd i [] hi rfl ?_ (fun q hq _=>?_) (by simp) (by simp only [Hp.puts_cons,Hp.puts_nil,Hp.put_n];omega) (fun q hq=>.inl hq)⟩
   ·simp only [act,hx,V.cut];have hc0:¬ (c-a=0∧ex=true):=by omega
    simp only [if_neg h0,E.hc,if_true,hm];split
    ·omega
    ·rw [if_pos ⟨by omega,h1 y⟩]
   ·have:q≠r:=by rintro rfl;rw [hm2] at hm;cases hm
    simp [this,hm2]
   ·refine SlN.sl (cs:=over cs (o+a*E.sz) (List.replicate (l.length-a) (E.c y)).flatten) hb (by simp) (by simp;omega) hc ?_ ?_
    ·unfold over;simp only [List.length_append,List.length_take,List.length_drop,hlen];omega
    ·rw [Zgn hn (by rw [hlen];omega),he];unfold over;rw [hlen,Zdw,hfl,← Nat.add_mul,Zez,← List.flatten_append,← List.flatten_append,← List.map_append,← List.map_append];rw [List.drop_of_length_le (l:=l) (by omega)];simp
   ·have:q≠r:=by simpa [eSl,Zbe] using hq
    simp [this]
theorem Own.boxK (H:Own B h k Ω) (is:List Nat) {Ωi:List Ent}(hi:is.map (ent Ω)=Ωi) (j:Nat) (hj:j ∉ is) {r:Nat}{cs:List V}(he:ent Ω j=ZU r cs) {k':Hp}(hk:Ex' (Bm k Ωi) k k'):k'.m r=some (.cells true cs):=by
 subst hi;refine (hk.2 r ⟨H.ltAt j he r (by simp [ZU]),fun e hm hq=>?_⟩).trans (H.box j he);obtain ⟨i,hi,rfl⟩:=List.mem_map.1 hm;exact H.apartAt (i:=i) (j:=j) rfl he (fun hij=>hj (hij ▸ hi)) r hq (by simp [ZU])
theorem Own.innK (H:Own B h k Ω) (is:List Nat) {Ωi:List Ent}(hi:is.map (ent Ω)=Ωi) (j:Nat) (hj:j ∉ is) {α:Type}{E:Enc α}{vs:List V}{ll:List (List α)}(he:ent Ω j=Z5 E vs ll) {q:Nat}(hq:q<ll.length):Rd (Bm k Ωi) k E (gi vs q) (gi ll q):=by
 subst hi;intro k' hk;obtain ⟨h1,h2,-⟩:=H.at j he;have hqv:q<vs.length:=by omega
 refine ((h2 q hqv).loc fun r hr=>hk.2 r ?_).to;have hm:r∈(Z5 E vs ll).rs:=List.mem_flatMap.2 ⟨_,by rw [Zaz hqv];simp,hr⟩;refine ⟨H.ltAt j he r hm,fun e he' hq'=>?_⟩;obtain ⟨i,hi,rfl⟩:=List.mem_map.1 he';exact H.apartAt (i:=i) (j:=j) rfl he (fun hij=>hj (hij ▸ hi)) r hq' hm
end own
end Mu
namespace Mu
theorem Zb {N:Prog}{l:List Oper}{Q:Fr→Hp→Prop}{fr:Fr}{h:Hp}{d:Option Nat}{x:Opd}(v:V) (hx:fr.ev x=v) (hk:WO N l Q (fr.put d v) h):WO N (⟨d,.mv x,none⟩::l) Q fr h:=Zd (Zo6 hx) hk
theorem Zay {N:Prog}{l:List (Nat×Oper)}{Q:Fr→Hp→Prop}{fr:Fr}{h:Hp}{d:Option Nat}{x:Opd}{base j:Nat}(v:V) (hx:fr.ev x=v) (hk:WDQ N base l Q (fr.put d v) h):WDQ N base ((j,⟨d,.mv x,none⟩)::l) Q fr h:=ZV rfl (Zo6 hx) hk
theorem Zbf {N:Prog}{l:List (Nat×Oper)}{Q:Fr→Hp→List (Nat×Tr)→Prop}{fr:Fr}{h:Hp}{d:Option Nat}{x:Opd}{base j:Nat}(v:V) (hx:fr.ev x=v) (hk:WD N base l (fun fr' h' ts=>Q fr' h' ((j,.op (Op.mv x).looks true (ZbB fr.ev (.mv x)) (base+j))::ts)) (fr.put d v) h):WD N base ((j,⟨d,.mv x,none⟩)::l) Q fr h:=ZP (Zo6 hx) hk
theorem Zk {N:Prog}{Q:Ex→Fr→Hp→Prop}{fr:Fr}{h:Hp}{ops:List Oper}{b:Code}(hk:WO N ops (Ex.then (W N b Q) Q .normal) fr h):W N (.seq (.region ops) b) Q fr h:=ZO (Zap hk)
theorem Zf {N:Prog}{Q:Ex→Fr→Hp→Prop}{fr:Fr}{h:Hp}{b:Code}(hk:W N b Q fr h):WO N [] (Ex.then (W N b Q) Q .normal) fr h:=Zq (Zw hk)
theorem Za5 {N:Prog}{Q:Ex→Fr→Hp→Prop}{fr:Fr}{h:Hp}{b:Code}(hk:W N b Q fr h):W N .skip (Ex.then (W N b Q) Q) fr h:=ZcO (Zw hk)
theorem ZfB {rd:Nat→Option Obj}{nr:Nat}{e:Opd→V}{c x z:Opd}{t y:Bool}(hc:e c=.b t) (ht:t=true) (ha:e x=.b y):act rd nr e (.pick c x z)=some (.b (t&&y),[]):=by subst ht;exact ZaH hc rfl ha
theorem ZfA {rd:Nat→Option Obj}{nr:Nat}{e:Opd→V}{c x z:Opd}{t y:Bool}{w:Bool}(hc:e c=.b t) (ht:t=false) (hb:e z=.b false) (hw:w=(t&&y):=by rfl):act rd nr e (.pick c x z)=some (.b w,[]):=by subst hw;subst ht;exact ZaC hc rfl hb
theorem Zds {rd:Nat→Option Obj}{nr:Nat}{e:Opd→V}{c x z:Opd}{t y:Bool}(hc:e c=.b t) (ht:t=false) (ha:e z=.b y):act rd nr e (.pick c x z)=some (.b (t||y),[]):=by subst ht;exact ZaC hc rfl ha
theorem Zdr {rd:Nat→Option Obj}{nr:Nat}{e:Opd→V}{c x z:Opd}{t y:Bool}{w:Bool}(hc:e c=.b t) (ht:t=true) (hb:e x=.b true) (hw:w=(t||y):=by rfl):act rd nr e (.pick c x z)=some (.b w,[]):=by subst hw;subst ht;exact ZaH hc rfl hb
end Mu
