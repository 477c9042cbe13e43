/- Arrays of few. -/
import Derived.Test.YtdefkboekpjiiaaMuQ
set_option linter.unusedVariables false
set_option linter.unusedSimpArgs false
namespace Mu
structure A2 (α:Type) where
 (a b:α)
 deriving DecidableEq,Inhabited
structure A3 (α:Type) where
 (a b c:α)
 deriving DecidableEq,Inhabited
structure A4 (α:Type) where
 (a b c d:α)
 deriving DecidableEq,Inhabited
structure A10 (α:Type) where
 (a b c d e f g h i j:α)
 deriving DecidableEq,Inhabited
variable {α:Type}
def A2.get (x:A2 α) (i:Int):α:=if i=0 then x.a else x.b
def A3.get (x:A3 α) (i:Int):α:=if i=0 then x.a else if i=1 then x.b else x.c
def A4.get (x:A4 α) (i:Int):α:=if i=0 then x.a else if i=1 then x.b else if i=2 then x.c else x.d
def A10.get (x:A10 α) (i:Int):α:=if i=0 then x.a else if i=1 then x.b else if i=2 then x.c else if i=3 then x.d else if i=4 then x.e else if i=5 then x.f else if i=6 then x.g else if i=7 then x.h else if i=8 then x.i else x.j
def A10.set (x:A10 α) (i:Int) (v:α):A10 α:=if i=0 then { x with a:=v } else if i=1 then { x with b:=v } else if i=2 then { x with c:=v } else if i=3 then { x with d:=v } else if i=4 then { x with e:=v } else if i=5 then { x with f:=v } else if i=6 then { x with g:=v } else if i=7 then { x with h:=v } else if i=8 then { x with i:=v } else { x with j:=v }
def A2.set (x:A2 α) (i:Int) (v:α):A2 α:=if i=0 then { x with a:=v } else { x with b:=v }
def A3.set (x:A3 α) (i:Int) (v:α):A3 α:=if i=0 then { x with a:=v } else if i=1 then { x with b:=v } else { x with c:=v }
def A4.set (x:A4 α) (i:Int) (v:α):A4 α:=if i=0 then { x with a:=v } else if i=1 then { x with b:=v } else if i=2 then { x with c:=v } else { x with d:=v }

theorem fin {σ:Type}{P:σ→Prop}{a o:σ}(hp:some a=some o) (h:P a):P o:=(Option.some.inj hp) ▸ h
theorem ZkZ {e:Opd→V}{caps:List V}:([]:List Opd).map e++caps=caps:=rfl
theorem Zml {e:Opd→V}{caps vs:List V}{x:Opd}{l:List Opd}{v:V}(hx:e x=v) (ht:l.map e++caps=vs):(x::l).map e++caps=v::vs:=by simp [hx,ht]
theorem ZaL {e:Opd→V}:evs e []=[]:=rfl
theorem zW {e:Opd→V}{o sz:Nat}{x:Opd}{l:List (Nat×Nat×Opd)}{v:V}{vs:List (Nat×Nat×V)}(hx:e x=v) (ht:evs e l=vs):evs e ((o,sz,x)::l)=(o,sz,v)::vs:=by rw [Zi9,hx,ht]

theorem Zmq {a b:Bool}(h:a=true):V.b b=V.b (a&&b):=by rw [h];rfl
theorem Zmj {a b:Bool}(h:a=false):V.b false=V.b (a&&b):=by rw [h];rfl
theorem ZmA {a b:Bool}(h:a=false):V.b b=V.b (a||b):=by rw [h];rfl
theorem Zm8 {a b:Bool}(h:a=true):V.b true=V.b (a||b):=by rw [h];rfl
theorem bc (b:Bool):b=true∨b=false:=by cases b<;>simp

section cut
variable {N:Prog}{fr:Fr}{k:Hp}
theorem Zbc {l:List Oper}{Q:Fr→Hp→Prop}(n:Nat) (Q':Fr→Hp→Prop) (h1:WO N (l.take n) Q' fr k) (h2:∀ fr' k',Q' fr' k'→WO N (l.drop n) Q fr' k'):WO N l Q fr k:=by
 have app:∀ (a b:List Oper) (fr:Fr) (k:Hp),WO N a (fun fr' k'=>WO N b Q fr' k') fr k→WO N (a++b) Q fr k:=by
  intro a b fr k hw;obtain ⟨m,fr',k',he,m2,fr2,k2,he2,q⟩:=hw;refine ⟨max m m2,fr2,k2,?_,q⟩;have he':=Zcd (Zbf N (Nat.le_max_left m m2)) he;have he2':=Zcd (Zbf N (Nat.le_max_right m m2)) he2;clear he he2
  induction a generalizing fr k with
  | nil =>
   simp only [Zaj,Option.some.injEq,Prod.mk.injEq] at he';obtain ⟨rfl,rfl⟩:=he';exact he2'
  | cons o a ih =>
   simp only [List.cons_append,Zaj] at he' ⊢;split at he'
   ·exact ih _ _ he'
   ·cases he'
 have:=app (l.take n) (l.drop n) fr k (h1.mono h2);rwa [List.take_append_drop] at this
theorem WDQ.mono {base:Nat}{l:List (Nat×Oper)}{Q Q':Fr→Hp→Prop}(h1:WDQ N base l Q fr k) (h2:∀ fr' k',Q fr' k'→Q' fr' k'):WDQ N base l Q' fr k:=by
 obtain ⟨m,fr',k',ts,he,a,b⟩:=h1;exact ⟨m,fr',k',ts,he,a,h2 _ _ b⟩
theorem ZaV {base:Nat}{l:List (Nat×Oper)}{Q:Fr→Hp→Prop}(n:Nat) (Q':Fr→Hp→Prop) (h1:WDQ N base (l.take n) Q' fr k) (h2:∀ fr' k',Q' fr' k'→WDQ N base (l.drop n) Q fr' k'):WDQ N base l Q fr k:=by
 have app:∀ (a b:List (Nat×Oper)) (fr:Fr) (k:Hp),WDQ N base a (fun fr' k'=>WDQ N base b Q fr' k') fr k→WDQ N base (a++b) Q fr k:=by
  intro a b fr k hw;obtain ⟨m,fr',k',ts,he,qa,m2,fr2,k2,ts2,he2,qb,q⟩:=hw;refine ⟨max m m2,fr2,k2,ts++ts2,?_,fun p hp=>?_,q⟩
  ·have he':=ZbJ (Zbf N (Nat.le_max_left m m2)) he;have he2':=ZbJ (Zbf N (Nat.le_max_right m m2)) he2;clear he he2 qa
   induction a generalizing fr k ts with
   | nil =>
    simp only [zt,Option.some.injEq,Prod.mk.injEq] at he';obtain ⟨rfl,rfl,rfl⟩:=he';exact he2'
   | cons o a ih =>
    obtain ⟨j,o⟩:=o;simp only [List.cons_append,zt] at he' ⊢;split at he'
    ·split at he'
     ·rename_i hr;simp only [Option.some.injEq,Prod.mk.injEq] at he';obtain ⟨rfl,rfl,rfl⟩:=he';rw [ih _ _ _ hr];rfl
     ·cases he'
    ·cases he'
  ·rcases List.mem_append.1 hp with h|h
   ·exact qa p h
   ·exact qb p h
 have:=app (l.take n) (l.drop n) fr k (h1.mono h2);rwa [List.take_append_drop] at this
end cut

/-! More of what is one's own. -/
section own
variable {B:Nat→Prop}{h k:Hp}{Ω:List Ent}{nr:Nat}{e:Opd→V}
theorem Own.nil (H:Own B h k Ω) {α:Type}(E:Enc α):Own B h k (Ω++[eSl E .sn []]):=H.add [] rfl .nil (fun _ _=>rfl) (by simp) (Nat.le_refl _) (by simp [eSl,Zak])
theorem Own.allNil (H:Own B h k Ω) {α:Type}(E:Enc α) (n:Nat):Own B h k (Ω++[Zb8 E (List.replicate n .sn) (List.replicate n [])]):=by
 refine H.add [] rfl ⟨by simp,fun i hi=>?_,?_⟩ (fun _ _=>rfl) (by simp) (Nat.le_refl _) ?_
 ·have h1:i<n:=by simpa using hi
  simp only [gi,List.getD_eq_getElem?_getD,List.getElem?_replicate,h1,if_true,Option.getD_some];exact .nil
 ·rw [List.pairwise_replicate];right;simp [Zak]
 ·intro r hr;simp only [Zb8,List.mem_flatMap] at hr;obtain ⟨v,hv,hq⟩:=hr;rw [List.eq_of_mem_replicate hv] at hq;simp [Zak] at hq
theorem Own.absorb (H:Own B h k Ω) {α:Type}{E:Enc α}{vs:List V}{ll:List (List α)}{v:V}{l:List α}(i j:Nat) (hi:ent Ω i=Zb8 E vs ll) (hj:ent Ω j=eSl E v l) (hij:i≠j):Own B h k (Mu.upd (Mu.upd Ω i (Zb8 E (vs++[v]) (ll++[l]))) j ZbI):=by
 refine H.join i j hi hj hij rfl (fun ha hb hab=>?_) (fun r hr=>?_)
 ·obtain ⟨h1,h2,h3⟩:=ha;refine ⟨by simp [h1],fun q hq=>?_,?_⟩
  ·by_cases c:q<vs.length
   ·have e1:gi (vs++[v]) q=gi vs q:=by simp [gi,List.getElem?_append,c]
    have e2:gi (ll++[l]) q=gi ll q:=by simp [gi,List.getElem?_append,show q<ll.length by omega]
    rw [e1,e2];exact h2 q c
   ·have c2:q=vs.length:=by simp at hq;omega
    subst c2;have e1:gi (vs++[v]) vs.length=v:=by simp [gi]
    have e2:gi (ll++[l]) vs.length=l:=by simp [gi,h1]
    rw [e1,e2];exact hb
  ·rw [List.pairwise_append];refine ⟨h3,by simp,fun a ha b hb r hr hq=>?_⟩;simp only [List.mem_singleton] at hb;subst hb;exact hab r (List.mem_flatMap.2 ⟨a,ha,hr⟩) hq
 ·simp only [Zb8,List.mem_flatMap,List.mem_append,List.mem_singleton] at hr ⊢;obtain ⟨w,hw|rfl,hq⟩:=hr
  ·exact .inl ⟨w,hw,hq⟩
  ·exact .inr hq
theorem Own.cutE (H:Own B h k Ω) {α:Type}{E:Enc α}{v:V}{l:List α}(i:Nat) (hi:ent Ω i=eSl E v l) {a b:Nat}(hab:a≤b) (hb:b≤l.length):Own B h k (Mu.upd Ω i (eSl E (v.cut a b) ((l.drop a).take (b-a)))) :=
 H.upd i [] hi rfl ((H.slN i hi).cut hab hb) (fun _ _ _=>rfl) (by simp) (Nat.le_refl _) (fun r hr=>.inl (by simpa [eSl,ZiO] using hr))
theorem Own.cutU (H:Own B h k Ω) {α:Type}{E:Enc α}{v:V}{l:List α}(i:Nat) (hi:ent Ω i=eSl E v l) {z:Int}(hz:0≤z∧z≤(l.length:Int)):Own B h k (Mu.upd Ω i (eSl E (v.cut 0 z.toNat) (l.take z.toNat))):=by
 have:=H.cutE i hi (a:=0) (b:=z.toNat) (by omega) (by omega);simpa using this
theorem Zdh {α:Type} [Inhabited α] {l:List α}{i j:Nat}{x:α}(hi:i<l.length):gi (l.set i x) j=if j=i then x else gi l j:=by
 unfold gi;simp only [List.getD_eq_getElem?_getD,List.getElem?_set];by_cases hij:i=j
 ·subst hij;simp [hi]
 ·rw [if_neg hij,if_neg (fun h=>hij h.symm)]
theorem Own.inner (H:Own B h k Ω) {α:Type}{E:Enc α}{vs:List V}{ll:List (List α)}(i:Nat) (hi:ent Ω i=Zb8 E vs ll) {j:Nat}(hj:j<ll.length) {v':V}{l':List α}{k':Hp}(nw:List Nat)
  (hP:SlN E 0 k' v' l') (hs:∀ r,r ∉ Zak (gi vs j)→r ∉ nw→k'.m r=k.m r) (hw:∀ r∈nw,k.m r=none∧h.n≤r) (hn:k.n≤k'.n) (hr:∀ r∈Zak v',r∈Zak (gi vs j)∨r∈nw):Own B h k' (Mu.upd Ω i (Zb8 E (vs.set j v') (ll.set j l'))):=by
 obtain ⟨h1,h2,h3⟩:=H.at i hi;have hjv:j<vs.length:=by omega
 have hmem:gi vs j∈vs:=by rw [ZaJ hjv];simp
 have hold:∀ q,q<vs.length→∀ r∈Zak (gi vs q),k.m r≠none:=fun q hq r hr=>(h2 q hq).lt r hr;have hap:∀ q,q<vs.length→q≠j→∀ r∈Zak (gi vs q),r ∉ Zak (gi vs j):=by
  intro q hq hqj r hr hr';rw [List.pairwise_iff_getElem] at h3;rw [ZaJ hq] at hr;rw [ZaJ hjv] at hr';rcases Nat.lt_or_gt_of_ne hqj with c|c
  ·exact h3 q j hq hjv c r hr hr'
  ·exact h3 j q hjv hq c r hr' hr
 have hnew:∀ q,q<vs.length→q≠j→∀ r∈Zak (gi vs q),r ∉ Zak v':=by
  intro q hq hqj r hr' hv';rcases hr r hv' with c|c
  ·exact hap q hq hqj r hr' c
  ·exact hold q hq r hr' (hw r c).1
 refine H.upd i nw hi rfl ⟨by simp [h1],fun q hq=>?_,?_⟩ (fun r hr' hq=>hs r (fun hm=>hr' (List.mem_flatMap.2 ⟨_,hmem,hm⟩)) hq) hw hn ?_
 ·rw [Zdh hjv,Zdh (by omega)];by_cases c:q=j
  ·rw [if_pos c,if_pos c];exact hP
  ·rw [if_neg c,if_neg c];have hq':q<vs.length:=by simpa using hq
   exact (h2 q hq').loc fun r hr'=>hs r (hap q hq' c r hr') fun hm=>hold q hq' r hr' (hw r hm).1
 ·rw [List.pairwise_iff_getElem];intro a b ha hb hab r hra hrb;have ha':a<vs.length:=by simpa using ha
  have hb':b<vs.length:=by simpa using hb
  have ga:(vs.set j v')[a]=gi (vs.set j v') a:=(ZaJ ha).symm;have gb:(vs.set j v')[b]=gi (vs.set j v') b:=(ZaJ hb).symm;rw [ga,Zdh hjv] at hra;rw [gb,Zdh hjv] at hrb;by_cases c1:a=j
  ·rw [if_pos c1] at hra;rw [if_neg (by omega)] at hrb;exact hnew b hb' (by omega) r hrb hra
  ·rw [if_neg c1] at hra;by_cases c2:b=j
   ·rw [if_pos c2] at hrb;exact hnew a ha' c1 r hra hrb
   ·rw [if_neg c2] at hrb;rw [List.pairwise_iff_getElem] at h3;rw [ZaJ ha'] at hra;rw [ZaJ hb'] at hrb;exact h3 a b ha' hb' hab r hra hrb
 ·intro r hr';simp only [Zb8,List.mem_flatMap] at hr' ⊢;obtain ⟨w,hw',hq⟩:=hr';rcases List.mem_or_eq_of_mem_set hw' with c|rfl
  ·exact .inl ⟨w,c,hq⟩
  ·rcases hr r hq with c|c
   ·exact .inl ⟨_,hmem,c⟩
   ·exact .inr c
end own
inductive Lit {α:Type}(E:Enc α) (k:Hp):List V→List (List α)→Prop
 | nil:Lit E k [] []
 | cons {v:V}{l:List α}{vs:List V}{ll:List (List α)}(hs:Sl E k v l) (ht:Lit E k vs ll):Lit E k (v::vs) (l::ll)
theorem Lit.at {α:Type}{E:Enc α}{k:Hp}{vs:List V}{ll:List (List α)}(hl:Lit E k vs ll):∀ {j:Nat},j<ll.length→Sl E k (gi vs j) (gi ll j):=by
 induction hl with
 | nil=>intro j hj;simp at hj
 | cons hs ht ih =>
  intro j hj
  cases j with
  | zero=>exact hs
  | succ j=>exact ih (by simpa using hj)
theorem Rd.cutU {α:Type}{B:Nat→Prop}{h:Hp}{E:Enc α}{v:V}{l:List α}(s:Rd B h E v l) {z:Int}(hz:0≤z∧z≤(l.length:Int)):Rd B h E (v.cut 0 z.toNat) (l.take z.toNat):=fun k hk=>(s k hk).cutU hz
theorem Zj {z:Int}{n:Nat}(h:0≤z∧z<(n:Int)):z.toNat<n:=by omega
end Mu
namespace Mu
theorem Sl.oneV {α:Type}{E:Enc α}{k:Hp}{v:V}{l:List α}(hs:Sl E k v l):v.one=true:=by cases hs<;>rfl
theorem all_nil:([]:List V).all V.one=true:=rfl
theorem all_cons {v:V}{l:List V}(h:v.one=true) (ht:l.all V.one=true):(v::l).all V.one=true:=by simp [h,ht]
theorem Zg7:zC [] [] []=some true:=rfl
theorem Zfw {k:Go.IntKind}{a b:Int}{ks:List FK}{xs ys:List V}{t:Bool}(h:zC ks xs ys=some t):zC (.i::ks) (.i k a::xs) (.i k b::ys)=some (decide (a=b)&&t):=by
 simp only [zC,V.same,if_true,h];by_cases c:a=b
 ·simp [c]
 ·have:(a == b)=false:=by simp [c]
  simp [c,this]
theorem ZdC {rd:Nat→Option Obj}{nr:Nat}{e:Opd→V}{α:Type}{E:Enc α}{k:Hp}{v:V}{l:List α}{n:Nat}{x:Opd}(hs:Sl E k v l) (hn:l.length=n) (hx:e x=v):act rd nr e (.len x)=some (.i .i64 (n:Int),[]):=by rw [← hn];exact Za5 hs hx
section wr
variable {Q:Ex→Fr→Hp→Prop}{next:Fr→Hp→Prop}{fr:Fr}{h:Hp}{i id:Nat}
theorem ZT (hk:next fr h):Ex.then next Q .normal fr h:=hk
theorem zB (hk:Q .ret fr h):Ex.then next Q .ret fr h:=hk
theorem Zal (hk:Q (.exit i) fr h):Ex.then next Q (.exit i) fr h:=hk
theorem Za6 (hk:Q .normal fr h):Ex.blk id Q .normal fr h:=hk
theorem ZaP (hk:Q .ret fr h):Ex.blk id Q .ret fr h:=hk
theorem ZaH (hk:Q .normal fr h):Ex.blk id Q (.exit id) fr h:=by rw [Ex.blk_exit,if_pos rfl];exact hk
end wr
/-! Regions in which an order is drawn. -/
structure Fresh (base n J:Nat) (k:Hp):Prop where
 m:∀ i,i<n→J≤i→k.m (base+i)=none
 n:base+n≤k.n
theorem Fresh.start (k:Hp) (n:Nat):Fresh k.n n 0 (k.bump n):=⟨fun _ _ _=>Ziy,Nat.le_refl _⟩
theorem Fresh.kept {base n J j:Nat}{k k':Hp}(F:Fresh base n J k) (K:Zdd k k' (base+j)) (hJ:J≤j):Fresh base n (j+1) k':=⟨fun i h1 h2=>K.2 _ (by omega) (F.m i h1 (by omega)),Nat.le_trans F.n K.1⟩
theorem Fresh.call {base n J:Nat}{k k':Hp}{Ω:List Ent}(F:Fresh base n J k) (H:Own (fun r=>r<k.n) k k' Ω):Fresh base n J k':=⟨fun i h1 h2=>(H.base _ (Nat.lt_of_lt_of_le (Nat.add_lt_add_left h1 base) F.n)).trans (F.m i h1 h2),Nat.le_trans F.n H.n⟩
theorem Zg2 {v:V}{j off r:Nat}(h:r∈Zak (v.elt j off)):r∈Zak v:=by
 cases v<;>simp_all [V.elt,Zak]
theorem Rd.B {α:Type}{B:Nat→Prop}{h:Hp}{E:Enc α}{v:V}{l:List α}(s:Rd B h E v l) (hB:∀ r,B r→r<h.n) {j:Nat}(hj:j<l.length):∀ r∈Zak v,B r:=by
 intro r hr;refine Classical.byContradiction fun hb=>?_;have h0:=s h ⟨Nat.le_refl _,fun _ _=>rfl⟩;have:=s (h.put r .dead) ⟨by simp only [Hp.put_n];omega,fun q hq=>by
  have:q≠r:=by rintro rfl;exact hb hq
  simp [this]⟩
 cases h0 with
 | nil=>simp at hj
 | emp=>simp at hj
 | sl hm hl hc hn he =>
  simp only [Zak,List.mem_singleton] at hr;subst hr
  cases this with
  | emp=>simp at hj
  | sl hm'=>simp at hm'
theorem RdB.B {B:Nat→Prop}{h:Hp}{r:Nat}{cs:List V}(s:RdB B h r cs):B r:=by
 refine Classical.byContradiction fun hb=>?_;obtain ⟨w,hw⟩:=s (h.put r .dead) ⟨by simp only [Hp.put_n];omega,fun q hq=>by
  have:q≠r:=by rintro rfl;exact hb hq
  simp [this]⟩
 simp at hw
end Mu
namespace Mu
end Mu
namespace Mu
open Go (IntKind)
def Z2 (k:IntKind) (x y:Int):Int:=k.wrap ((BitVec.ofInt k.bits x &&& BitVec.ofInt k.bits y).toNat:Nat)
def zM (k:IntKind) (x y:Int):Int:=k.wrap (x+y)
def ZX (k:IntKind) (x y:Int):Int:=k.wrap (x*y)
def ZN (k:IntKind) (x y:Int):Int:=x.fdiv (2 ^ (min y.toNat k.bits))
theorem ZbY {k:IntKind}{x y:Int}(h:0≤y):shift .shr k x y=some (.i k (ZN k x y)):=by
 have:¬y<0:=by omega
 simp [shift,this,ZN]
end Mu
namespace Mu
end Mu
namespace Mu
theorem tch {e:Opd→V}{a:Opd}{v:V}{r:Nat}(hm:r∈Zak (e a)) (h:e a=v):r∈Zak v:=h ▸ hm
section cpy
variable {B:Nat→Prop}{h k:Hp}{Ω:List Ent}{nr:Nat}{e:Opd→V}
theorem Zjb {α:Type}{E:Enc α}{nr b:Nat}{h:Hp}{x y:V}{l m:List α}{bytes:Nat}{K:V→List (Nat×Obj)→Prop}(hx:SlN E b h x l) (hnr:h.m nr=none) (hy:Sl E h y m) (hb:b≤nr) (hallm:((m.map E.c).flatten).all V.one=true) (hl:(l.length+m.length)*bytes≤140737488355328) 
  (hk:∀ v up,SlN E b (h.puts up) v (l++m)→Ext b h (h.puts up)→(∀ q,q≠nr→h.m q=none→(h.puts up).m q=none)→K v up):WA (ZcN h.m nr E.sz bytes x y) K:=by
 cases hx with
 | nil =>
  cases hy with
  | nil=>exact hk _ _ .nil .refl (fun _ _ hq=>hq)
  | emp =>
   simp only [ZcN,act,ZaO,if_true];exact hk _ _ .nil .refl (fun _ _ hq=>hq)
  | @sl r' o' n' c' ex' w' cs' _ hm' hl' hc' hn' he' =>
   simp only [ZcN,act,ZaO,if_true];by_cases h0:n'=0
   ·subst h0;rw [if_pos rfl];have:m=[]:=List.length_eq_zero_iff.mp hl';subst this;exact hk _ _ .nil .refl (fun _ _ hq=>hq)
   ·rw [if_neg h0];subst hl';simp only [hm',ZaO];rw [if_pos ⟨hn',by simpa using hl⟩];refine hk _ _ ?_ ?_ (fun q hq hq'=>by simp [hq,hq'])
    ·rw [he'];exact .sl hb (by simp;rfl) (by simp) (Nat.le_refl _) (by rw [zA];simp) (by
      rw [piece,List.drop_zero,List.take_of_length_le (by rw [zA];simp)];simp)
    ·exact Ext.put hb
 | @sl r o n c ex cs _ hrb hm hln hc hn he =>
  cases hy with
  | nil =>
   simp only [ZcN,act,ZaO,if_true];have:=hk (.sl E.sz r o n c ex) [] (by simpa using SlN.sl hrb hm hln hc hn he) .refl (fun _ _ hq=>hq);exact this
  | emp =>
   simp only [ZcN,act,ZaO,if_true];exact hk (.sl E.sz r o n c ex) [] (by simpa using SlN.sl hrb hm hln hc hn he) .refl (fun _ _ hq=>hq)
  | @sl r' o' n' c' ex' w' cs' _ hm' hl' hc' hn' he' =>
   simp only [ZcN,act,ZaO,if_true];by_cases h0:n'=0
   ·subst h0;rw [if_pos rfl];have:m=[]:=List.length_eq_zero_iff.mp hl';subst this;exact hk (.sl E.sz r o n c ex) [] (by simpa using SlN.sl hrb hm hln hc hn he) .refl (fun _ _ hq=>hq)
   ·rw [if_neg h0];subst hln hl';by_cases hg:l.length=0∧ex=true∧c<m.length
    ·rw [if_pos hg];simp only [hm',ZaO];rw [if_pos ⟨hn',by rw [hg.1,Nat.zero_add] at hl;exact hl⟩];have hz:l=[]:=List.length_eq_zero_iff.mp hg.1;subst hz;refine hk _ _ ?_ (Ext.put hb) (fun q hq hq'=>by simp [hq,hq']);rw [he'];exact .sl hb (by simp;rfl) (by simp) (Nat.le_refl _) (by rw [zA];simp) (by
      rw [piece,List.drop_zero,List.take_of_length_le (by rw [zA];simp)];simp)
    rw [if_neg hg];simp only [hm,hm',ZaO];rw [if_pos ⟨hn,hn',hl⟩];have hlen:(piece cs o (l.length*E.sz)++piece cs' o' (m.length*E.sz))=((l++m).map E.c).flatten:=by
     rw [he,he'];simp
    have hnew:∀ h':Hp,h'.m nr=some (.cells true (((l++m).map E.c).flatten))→SlN E b h' (.sl E.sz nr 0 (l.length+m.length) (l.length+m.length) false) (l++m):=by
     intro h' hh;exact .sl hb hh (by simp) (Nat.le_refl _) (by rw [zA];simp) (by
      rw [piece,List.drop_zero,List.take_of_length_le (by rw [zA];simp)])
    rw [hlen];split
    ·refine hk _ _ (hnew _ (by simp)) ?_ (fun q hq hq'=>by simp [hq,hq']);exact Ext.put hb
    ·rw [if_pos ⟨trivial,by rw [he'];exact hallm⟩];have hrn:nr≠r:=by
      rintro rfl;rw [hnr] at hm;cases hm
     refine hk _ _ (hnew _ ?_) ?_ (fun q hq hq'=>by
      have:q≠r:=by
       rintro rfl;rw [hq'] at hm;cases hm
      simp [hq,hq',this])
     ·simp [hrn]
     ·exact (Ext.put hb).trans (Ext.put (n:=b) hrb) (Nat.le_refl _)
theorem Own.appV (H:Own B h k Ω) (i:Nat) (hn:k.m nr=none∧h.n≤nr) {v w:V}{l m:List V}{bytes:Nat}{x y:Opd}(hi:ent Ω i=eSl eV v l) (hy:Sl eV k w m) (hx:e x=v) (hy':e y=w) (h1:m.all V.one=true) (hl:l.length+m.length≤1000000000) (hb:bytes≤100000) :
  ∃ v' k' up,act k.m nr e (.app 1 bytes x y)=some (v',up)∧k.puts up=k'∧Zdd k k' nr∧Own B h k' (Mu.upd Ω i (eSl eV v' (l++m))):=by
 have hs:=H.slN i hi;have hl2:(l.length+m.length)*bytes≤140737488355328:=by
  have:(l.length+m.length)*bytes≤1000000000*100000:=Nat.mul_le_mul hl hb;omega
 have hflat:∀ (m:List V),(m.map eV.c).flatten=m:=by
  intro m
  induction m with
  | nil=>rfl
  | cons a m ih=>simp only [List.map_cons,List.flatten_cons,ih,Zmr,List.singleton_append]
 obtain ⟨v',up,ha,k4,k5⟩:=Zif (Zjb (E:=eV) (K:=fun v' up=>SlN eV 0 (k.puts up) v' (l++m)∧(∀ q,q≠nr→k.m q=none→(k.puts up).m q=none)) (b:=0) hs hn.1 hy (Nat.zero_le _) (by rw [hflat];exact h1) hl2 fun v' up a b c=>⟨a,c⟩);obtain ⟨k6,k7⟩:=Zgm ha;refine ⟨v',_,up,?_,rfl,⟨Zcz _ _,k5⟩,H.upd i [nr] hi rfl k4 (fun r hr hq=>Hp.puts_m fun z hz=>?_) (fun r hr=>?_) (Zcz _ _) (fun r hr=>?_)⟩
 ·rw [Zhu,hx,hy'];exact ha
 ·rintro rfl;rcases k6 z hz with h2|h2
  ·exact hq (by simp [h2])
  ·exact hr h2
 ·have:r=nr:=by simpa using hr
  subst this;exact hn
 ·rcases k7 r hr with h2|h2
  ·exact .inr (by simp [h2])
  ·exact .inl h2
end cpy
end Mu
namespace Mu
end Mu
namespace Mu
end Mu
namespace Mu
section cp
variable {B:Nat→Prop}{h k:Hp}{Ω:List Ent}{nr:Nat}{e:Opd→V}
theorem Own.cpyA {α:Type}{E:Enc α}(H:Own B h k Ω) (i:Nat) {v w d:V}{l m:List α}{x y:Opd}{a:Nat}(hi:ent Ω i=eSl E v l) (hal:a≤l.length) (hd:(d=v∧a=0)∨d=v.cut a l.length) (hy:Sl E k w m) (hx:e x=d) (hy':e y=w) (h1:∀ a,(E.c a).all V.one=true) :
  ∃ u k' up,act k.m nr e (.cpy E.sz x y)=some (u,up)∧k.puts up=k'∧u=.i .i64 ((min m.length (l.length-a):Nat):Int)∧Zdd k k' nr∧Own B h k' (Mu.upd Ω i (eSl E v (l.take a++(m.take (l.length-a)++(l.drop a).drop m.length)))):=by
 have hs:=H.slN i hi
 -- the places
 have hdl:d.len=some (l.length-a):=by
  rcases hd with ⟨rfl,rfl⟩|rfl
  ·have:=hs.to.len;unfold ZgV at this
   cases hh:d.len with
   | none=>simp [hh] at this
   | some n=>simp [hh] at this;simp;omega
  ·have:=(hs.to.cut (a:=a) (b:=l.length) hal (Nat.le_refl _)).len;unfold ZgV at this
   cases hh:(v.cut a l.length).len with
   | none=>simp [hh] at this
   | some n=>simp [hh] at this;simp;omega
 have hwl:w.len=some m.length:=by
  have:=hy.len;unfold ZgV at this
  cases hh:w.len with
  | none=>simp [hh] at this
  | some n=>simp [hh] at this;simp;omega
 by_cases h0:min m.length (l.length-a)=0
 ·have hl:l.take a++(m.take (l.length-a)++(l.drop a).drop m.length)=l:=by
   by_cases hm0:m.length=0
   ·have:m=[]:=List.length_eq_zero_iff.mp hm0;subst this;simp
   ·have hla:l.length-a=0:=by omega
    have:a=l.length:=by omega
    subst this;simp
  refine ⟨.n 0,k,[],?_,rfl,by rw [h0];rfl,⟨Nat.le_refl _,fun _ _ hq=>hq⟩,?_⟩
  ·simp only [act,hx,hy',hdl,hwl];rw [if_pos h0]
  ·rw [hl];exact H.upd i [] hi rfl hs (fun _ _ _=>rfl) (by simp) (Nat.le_refl _) (fun r hr=>.inl hr)
 ·cases hs with
  | nil=>simp at h0
  | @sl r o n c ex cs _ hb hm hln hc hn he =>
   subst hln;have hdv:∃ n2 c2 ex2,d=.sl E.sz r (o+a*E.sz) n2 c2 ex2:=by
    rcases hd with ⟨rfl,rfl⟩|rfl
    ·exact ⟨_,_,_,by rw [Nat.zero_mul,Nat.add_zero]⟩
    ·refine ⟨l.length-a,c-a,ex,?_⟩;simp only [V.cut];rw [if_neg (by omega)]
   obtain ⟨n2,c2,ex2,hdv⟩:=hdv
   cases hy with
   | nil=>simp at h0
   | emp=>simp at h0
   | @sl r' o' n' c' ex' w' cs' _ hm' hl' hc' hn' he' =>
    subst hl';generalize hq:min m.length (l.length-a)=q at h0 ⊢;have hqm:q*E.sz≤m.length*E.sz:=Nat.mul_le_mul_right _ (by omega);have hql:a*E.sz+q*E.sz≤l.length*E.sz:=by rw [← Nat.add_mul];exact Nat.mul_le_mul_right _ (by omega)
    have hp:piece cs' o' (q*E.sz)=((m.take q).map E.c).flatten:=by
     have:=ZbK (cs:=cs') (o:=o') (n:=m.length*E.sz) (o':=0) (n':=q*E.sz) (by omega);rw [Nat.add_zero] at this;rw [← this,he',piece,List.drop_zero,ZbB]
    have hlen:(piece cs' o' (q*E.sz)).length=q*E.sz:=by rw [hp,zA,List.length_take];congr 1;omega
    have hall:(piece cs' o' (q*E.sz)).all V.one=true:=by
     rw [hp];simp only [List.all_eq_true,List.mem_flatten,List.mem_map];rintro x ⟨_,⟨a,_,rfl⟩,hx⟩;have:=h1 a;rw [List.all_eq_true] at this;exact this x hx
    have hlt:=Hp.lt hm;refine ⟨.n (q:Nat),_,[(r,.cells true (over cs (o+a*E.sz) (piece cs' o' (q*E.sz))))],?_,rfl,rfl,⟨by simp only [Hp.puts_cons,Hp.puts_nil,Hp.put_n];omega,fun z hz hm2=>?_⟩,H.upd i [] hi rfl ?_ (fun z hz _=>?_) (by simp) ?_ (fun z hz=>.inl hz)⟩
    ·simp only [act,hx,hy',hdl,hwl,hq];rw [if_neg h0,hdv];simp only [and_self,if_true,hm,hm'];rw [if_pos ⟨by omega,by omega,hall⟩]
    ·have:z≠r:=by rintro rfl;rw [hm2] at hm;cases hm
     simp [this,hm2]
    ·have hlist:l.take a++(m.take (l.length-a)++(l.drop a).drop m.length)=l.take a++(m.take q++(l.drop a).drop q):=by
      congr 1;by_cases c1:m.length≤l.length-a
      ·have:q=m.length:=by omega
       subst this;rw [List.take_of_length_le c1,List.take_of_length_le (Nat.le_refl _)]
      ·have:q=l.length-a:=by omega
       subst this;rw [List.drop_of_length_le (l:=l.drop a) (i:=m.length) (by simp;omega),List.drop_of_length_le (l:=l.drop a) (i:=l.length-a) (by simp)]
     have hll:(l.take a++(m.take q++(l.drop a).drop q)).length=l.length:=by
      simp only [List.length_append,List.length_take,List.length_drop];omega
     rw [hlist];refine SlN.sl (cs:=over cs (o+a*E.sz) (piece cs' o' (q*E.sz))) hb (by simp) hll hc ?_ ?_
     ·unfold over;simp only [List.length_append,List.length_take,List.length_drop,hlen];omega
     ·rw [ZeA hn (by rw [hlen];exact hql),he];unfold over;rw [hlen,ZbB,hp,← Nat.add_mul,Zcv];simp [List.drop_drop]
    ·have:z≠r:=by simpa [eSl,Zak] using hz
     simp [this]
    ·simp only [Hp.puts_cons,Hp.puts_nil,Hp.put_n];omega
theorem Own.cpy {α:Type}{E:Enc α}(H:Own B h k Ω) (i:Nat) {v w:V}{l m:List α}{x y:Opd}(hi:ent Ω i=eSl E v l) (hy:Sl E k w m) (hx:e x=v) (hy':e y=w) (h1:∀ a,(E.c a).all V.one=true) :
  ∃ u k' up,act k.m nr e (.cpy E.sz x y)=some (u,up)∧k.puts up=k'∧u=.i .i64 ((min m.length l.length:Nat):Int)∧Zdd k k' nr∧Own B h k' (Mu.upd Ω i (eSl E v (m.take l.length++l.drop m.length))):=by
 have:=H.cpyA (nr:=nr) i hi (a:=0) (Nat.zero_le _) (.inl ⟨rfl,rfl⟩) hy hx hy' h1;simpa using this
theorem Own.cpyF {α:Type}{E:Enc α}(H:Own B h k Ω) (i:Nat) {v w:V}{l m:List α}{x y:Opd}{z:Int}(hi:ent Ω i=eSl E v l) (hz:0≤z∧z≤(l.length:Int)) (hy:Sl E k w m) (hx:e x=v.cut z.toNat l.length) (hy':e y=w) (h1:∀ a,(E.c a).all V.one=true) :
  ∃ u k' up,act k.m nr e (.cpy E.sz x y)=some (u,up)∧k.puts up=k'∧u=.i .i64 ((min m.length (l.drop z.toNat).length:Nat):Int)∧Zdd k k' nr∧Own B h k' (Mu.upd Ω i (eSl E v (l.take z.toNat++(m.take (l.drop z.toNat).length++(l.drop z.toNat).drop m.length)))):=by
 have:=H.cpyA (nr:=nr) i hi (a:=z.toNat) (by omega) (.inr rfl) hy hx hy' h1;simpa only [List.length_drop] using this
end cp
end Mu
namespace Mu
theorem RdB.mem {B:Nat→Prop}{h:Hp}{r o q:Nat}{cs:List V}(s:RdB B h r cs) (hq:q∈Zak (.p r o)):B q:=by
 have:q=r:=by simpa [Zak] using hq
 subst this;exact s.B
end Mu
namespace Mu
theorem Zh0 {e:Opd→V}{agg:Bool}{sz r:Nat}{a:Opd}(hm:r∈Zap e (.ld agg sz a)):r∈Zak (e a):=hm
end Mu
namespace Mu
open Go (IntKind)
theorem Zds {k:IntKind}{n:Int}:(V.i k n).cells=[V.i k n]:=rfl
theorem Zdq {x:Bool}:(V.b x).cells=[V.b x]:=rfl
theorem Zdr {id:Nat}{caps:List V}:(V.f id caps).cells=[V.f id caps]:=rfl
theorem Zdu {r o:Nat}:(V.p r o).cells=[V.p r o]:=rfl
theorem Zdp {l:List V}:(V.ag l).cells=l:=rfl
theorem Zdt:V.sn.cells=[V.sn]:=rfl
end Mu
namespace Mu
end Mu
namespace Mu
/-! Strings. -/
section strings
theorem Zk6 {a b:ByteArray}(h:a.data=b.data):a=b:=by cases a;cases b;simp_all
instance:DecidableEq ByteArray:=fun a b=>decidable_of_iff (a.data=b.data) ⟨Zk6,fun h=>by rw [h]⟩
variable {rd:Nat→Option Obj}{nr:Nat}{e:Opd→V}{x y:Opd}{a b:ByteArray}
end strings

/-! Maps to bools. -/
section maps
set_option linter.unusedSectionVars false
variable {κ:Type} [DecidableEq κ]
def mpV (E:Enc κ) (m:List (κ×Bool)):List (V×V):=m.map fun p=>(.ag (E.c p.1),.b p.2)
def eMp (E:Enc κ) (r:Nat) (m:List (κ×Bool)):Ent:=⟨[r],fun k=>k.m r=some (.mp (mpV E m)),fun hp hr=>(hr r (by simp)).trans hp,fun hp q hq=>by simp at hq;subst hq;rw [hp];simp⟩
theorem Zfy {ks:List FK}{E:Enc κ}(hE:∀ x y,zC ks (E.c x) (E.c y)=some (decide (x=y))) (q:κ) (v:Bool):∀ m:List (κ×Bool),ZbD ks (.ag (E.c q)) (.b v) (mpV E m)=some (mpV E (Zd1 q v m))
 | []=>by simp [mpV,ZbD,eqv,hE,Zd1]
 | p::m=>by
  have e:mpV E (p::m)=(.ag (E.c p.1),.b p.2)::mpV E m:=rfl;have ih:=Zfy hE q v m;by_cases c:q=p.1
  ·simp [e,ZbD,eqv,hE,c,Zd1,mpV]
  ·have e2:Zd1 q v (p::m)=p::Zd1 q v m:=by simp [Zd1,c]
   rw [e2,e];simp only [ZbD,eqv,hE,decide_eq_false c,ih];rfl
variable {B:Nat→Prop}{h k:Hp}{Ω:List Ent}{nr:Nat}{e:Opd→V}{E:Enc κ}{r:Nat}{m:List (κ×Bool)}
theorem Own.mpP (H:Own B h k Ω) (i:Nat) (hi:ent Ω i=eMp E r m):k.m r=some (.mp (mpV E m)):=H.at i hi
theorem Own.mkm (E:Enc κ) (H:Own B h k Ω) (hn:k.m nr=none∧h.n≤nr):∃ v k' up,act k.m nr e .mkm=some (v,up)∧k.puts up=k'∧∃ r,v=.mp r∧r=nr∧Zdd k k' nr∧Own B h k' (Ω++[eMp E r []]):=by
 refine ⟨.mp nr,_,[(nr,.mp [])],rfl,rfl,nr,rfl,rfl,ZcP,?_⟩;refine H.add [nr] rfl (by simp [eMp,mpV]) (fun r hr=>?_) (fun r hr=>?_) ?_ (fun r hq=>by simpa [eMp] using hq)
 ·have:r≠nr:=by simpa using hr
  simp [this]
 ·have:r=nr:=by simpa using hr
  subst this;exact hn
 ·simp only [Hp.puts_cons,Hp.puts_nil,Hp.put_n];omega
theorem Own.mup (H:Own B h k Ω) (i:Nat) {x y u:Opd}{q:κ}{v:Bool}{ks:List FK}(hi:ent Ω i=eMp E r m) (hx:e x=.mp r) (hy:e y=.ag (E.c q)) (hu:e u=.b v) (hE:∀ x y,zC ks (E.c x) (E.c y)=some (decide (x=y))) :
  ∃ w k' up,act k.m nr e (.mup ks x y u)=some (w,up)∧k.puts up=k'∧w=.un∧Zdd k k' nr∧k'.n=k.n∧Own B h k' (Mu.upd Ω i (eMp E r (Zd1 q v m))):=by
 have hb:=H.mpP i hi;have hlt:r<k.n:=H.ltAt i hi r (by simp [eMp]);refine ⟨.un,_,[(r,.mp (mpV E (Zd1 q v m)))],?_,rfl,rfl,?_,?_,H.upd i [] hi rfl ?_ (fun q hq _=>?_) (by simp) ?_ (fun q hq=>.inl hq)⟩
 ·simp only [act,hx,hb,hy,hu,Zfy hE]
 ·refine ⟨by simp only [Hp.puts_cons,Hp.puts_nil,Hp.put_n];omega,fun q hq hm=>?_⟩;have:q≠r:=by rintro rfl;rw [hm] at hb;cases hb
  simp [this,hm]
 ·simp only [Hp.puts_cons,Hp.puts_nil,Hp.put_n];omega
 ·simp [eMp]
 ·have:q≠r:=by simpa [eMp] using hq
  simp [this]
 ·simp only [Hp.puts_cons,Hp.puts_nil,Hp.put_n];omega
end maps
end Mu
namespace Mu
def V.capd (v:V) (n:Nat):V:=match v with
 | .sl es r o _ _ _=>.sl es r o n n true
 | v=>v
section capd
open Go (IntKind)
variable {nr:Nat}{e:Opd→V}{rd:Nat→Option Obj}{α:Type}{E:Enc α}
end capd
end Mu
namespace Mu
theorem Zd {N:Prog}{l:List Oper}{Q:Fr→Hp→Prop}{fr:Fr}{h:Hp}{d:Option Nat}{x:Opd}(v:V) (hx:fr.ev x=v) (hk:WO N l Q (fr.put d v) h):WO N (⟨d,.mv x,none⟩::l) Q fr h:=Zi (Zkj hx) hk
theorem zH {N:Prog}{l:List (Nat×Oper)}{Q:Fr→Hp→Prop}{fr:Fr}{h:Hp}{d:Option Nat}{x:Opd}{base j:Nat}(v:V) (hx:fr.ev x=v) (hk:WDQ N base l Q (fr.put d v) h):WDQ N base ((j,⟨d,.mv x,none⟩)::l) Q fr h:=ZL rfl (Zkj hx) hk
theorem Zgj {N:Prog}{l:List (Nat×Oper)}{Q:Fr→Hp→List (Nat×Tr)→Prop}{fr:Fr}{h:Hp}{d:Option Nat}{x:Opd}{base j:Nat}(v:V) (hx:fr.ev x=v) (hk:WD N base l (fun fr' h' ts=>Q fr' h' ((j,.op (Op.mv x).looks true (Zap fr.ev (.mv x)) (base+j))::ts)) (fr.put d v) h):WD N base ((j,⟨d,.mv x,none⟩)::l) Q fr h:=ZcJ (Zkj hx) hk
theorem Z9 {N:Prog}{Q:Ex→Fr→Hp→Prop}{fr:Fr}{h:Hp}{ops:List Oper}{b:Code}(hk:WO N ops (Ex.then (W N b Q) Q .normal) fr h):W N (.seq (.region ops) b) Q fr h:=zu (Zan hk)
theorem Zo {N:Prog}{Q:Ex→Fr→Hp→Prop}{fr:Fr}{h:Hp}{b:Code}(hk:W N b Q fr h):WO N [] (Ex.then (W N b Q) Q .normal) fr h:=ZF (ZT hk)
theorem Za4 {N:Prog}{Q:Ex→Fr→Hp→Prop}{fr:Fr}{h:Hp}{b:Code}(hk:W N b Q fr h):W N .skip (Ex.then (W N b Q) Q) fr h:=Zcs (ZT hk)
theorem ZjT {rd:Nat→Option Obj}{nr:Nat}{e:Opd→V}{c x z:Opd}{t y:Bool}(hc:e c=.b t) (ht:t=true) (ha:e x=.b y):act rd nr e (.pick c x z)=some (.b (t&&y),[]):=by subst ht;exact Za2 hc rfl ha
theorem ZjS {rd:Nat→Option Obj}{nr:Nat}{e:Opd→V}{c x z:Opd}{t y:Bool}{w:Bool}(hc:e c=.b t) (ht:t=false) (hb:e z=.b false) (hw:w=(t&&y):=by rfl):act rd nr e (.pick c x z)=some (.b w,[]):=by subst hw;subst ht;exact Za1 hc rfl hb
theorem ZbP {rd:Nat→Option Obj}{nr:Nat}{e:Opd→V}{c x z:Opd}{t y:Bool}(hc:e c=.b t) (ht:t=false) (ha:e z=.b y):act rd nr e (.pick c x z)=some (.b (t||y),[]):=by subst ht;exact Za1 hc rfl ha
theorem ZbO {rd:Nat→Option Obj}{nr:Nat}{e:Opd→V}{c x z:Opd}{t y:Bool}{w:Bool}(hc:e c=.b t) (ht:t=true) (hb:e x=.b true) (hw:w=(t||y):=by rfl):act rd nr e (.pick c x z)=some (.b w,[]):=by subst hw;subst ht;exact Za2 hc rfl hb
end Mu
