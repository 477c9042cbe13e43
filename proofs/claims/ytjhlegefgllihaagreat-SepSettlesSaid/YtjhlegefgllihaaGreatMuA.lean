/- Arrays of few. -/
import Derived.Test.YtjhlegefgllihaaGreatMuQ
set_option linter.unusedVariables false
set_option linter.unusedSimpArgs false
namespace Mu
structure A2(α:Type) where
 (a b:α)
 deriving DecidableEq,Inhabited
structure A3(α:Type) where
 (a b c:α)
 deriving DecidableEq,Inhabited
structure A4(α:Type) where
 (a b c d:α)
 deriving DecidableEq,Inhabited
structure A10(α:Type) where
 (a b c d e f g h i j:α)
 deriving DecidableEq,Inhabited
variable{α:Type}
def A2.get(x:A2 α)(i:Int):α:=if i=0 then x.a else x.b
def A3.get(x:A3 α)(i:Int):α:=if i=0 then x.a else if i=1 then x.b else x.c
def A4.get(x:A4 α)(i:Int):α:=if i=0 then x.a else if i=1 then x.b else if i=2 then x.c else x.d
def A10.get(x:A10 α)(i:Int):α:=if i=0 then x.a else if i=1 then x.b else if i=2 then x.c else if i=3 then x.d else if i=4 then x.e else if i=5 then x.f else if i=6 then x.g else if i=7 then x.h else if i=8 then x.i else x.j
def A10.set(x:A10 α)(i:Int)(v:α):A10 α:=if i=0 then { x with a:=v }else if i=1 then { x with b:=v }else if i=2 then { x with c:=v }else if i=3 then { x with d:=v }else if i=4 then { x with e:=v }else if i=5 then { x with f:=v }else if i=6 then { x with g:=v }else if i=7 then { x with h:=v }else if i=8 then { x with i:=v }else { x with j:=v }
def A2.set(x:A2 α)(i:Int)(v:α):A2 α:=if i=0 then { x with a:=v }else { x with b:=v }
def A3.set(x:A3 α)(i:Int)(v:α):A3 α:=if i=0 then { x with a:=v }else if i=1 then { x with b:=v }else { x with c:=v }
def A4.set(x:A4 α)(i:Int)(v:α):A4 α:=if i=0 then { x with a:=v }else if i=1 then { x with b:=v }else if i=2 then { x with c:=v }else { x with d:=v }

theorem fin{σ:Type}{P:σ->Prop}{a o:σ}(hp:some a=some o)(h:P a):P o:=(Option.some.inj hp)▸h
theorem ZuB{e:Opd->V}{caps:List V}:([]:List Opd).map e++caps=caps:=rfl
theorem Zub{e:Opd->V}{caps vs:List V}{x:Opd}{l:List Opd}{v:V}(hx:e x=v)(ht:l.map e++caps=vs):(x::l).map e++caps=v::vs:=by simp[hx,ht]
theorem Znm{e:Opd->V}:([]:List Opd).map e=[]:=rfl
theorem Zlq{e:Opd->V}{vs:List V}{x:Opd}{l:List Opd}{v:V}(hx:e x=v)(ht:l.map e=vs):(x::l).map e=v::vs:=by simp[hx,ht]
theorem Zas{e:Opd->V}:evs e []=[]:=rfl
theorem ZZ{e:Opd->V}{o sz:Nat}{x:Opd}{l:List (Nat×Nat×Opd)}{v:V}{vs:List (Nat×Nat×V)}(hx:e x=v)(ht:evs e l=vs):evs e ((o,sz,x)::l)=(o,sz,v)::vs:=by rw[ZjF,hx,ht]

theorem Zus{a b:Bool}(h:a=true):V.b b=V.b (a&&b):=by rw[h];rfl
theorem ZtZ{a b:Bool}(h:a=false):V.b false=V.b (a&&b):=by rw[h];rfl
theorem Zvb{a b:Bool}(h:a=false):V.b b=V.b (a||b):=by rw[h];rfl
theorem ZuN{a b:Bool}(h:a=true):V.b true=V.b (a||b):=by rw[h];rfl
theorem bc(b:Bool):b=true\/b=false:=by cases b<;>simp

section cut
variable {N:Prog}{fr:Fr}{k:Hp}
theorem Zcn{l:List Oper}{Q:Fr->Hp->Prop}(n:Nat)(Q':Fr->Hp->Prop)(h1:WO N (l.take n) Q' fr k)(h2:∀fr' k',Q' fr' k'->WO N (l.drop n) Q fr' k'):WO N l Q fr k:=by
 have app:∀(a b:List Oper)(fr:Fr)(k:Hp),WO N a (λfr' k'=>WO N b Q fr' k') fr k->WO N (a++b) Q fr k:=by
  intro a b fr k hw;obtain⟨m,fr',k',he,m2,fr2,k2,he2,q⟩:=hw;refine⟨max m m2,fr2,k2,?_,q⟩;have he':=ZdZ (Zcs N (Nat.le_max_left m m2)) he;have he2':=ZdZ (Zcs N (Nat.le_max_right m m2)) he2;clear he he2
  induction a generalizing fr k with
  |nil=>
   simp only[ZaS,Option.some.injEq,Prod.mk.injEq]at he';obtain⟨rfl,rfl⟩:=he';exact he2'
  |cons o a ih=>
   simp only[List.cons_append,ZaS]at he'⊢;split at he'
   .exact ih _ _ he'
   .cases he'
 have:=app (l.take n) (l.drop n) fr k (h1.mono h2);rwa[List.take_append_drop]at this
theorem WDQ.mono{base:Nat}{l:List (Nat×Oper)}{Q Q':Fr->Hp->Prop}(h1:WDQ N base l Q fr k)(h2:∀fr' k',Q fr' k'->Q' fr' k'):WDQ N base l Q' fr k:=by
 obtain⟨m,fr',k',ts,he,a,b⟩:=h1;exact⟨m,fr',k',ts,he,a,h2 _ _ b⟩
theorem Zmt{base:Nat}{l:List (Nat×Oper)}{Q:Fr->Hp->Prop}(n:Nat)(Q':Fr->Hp->Prop)(h1:WDQ N base (l.take n) Q' fr k)(h2:∀fr' k',Q' fr' k'->WDQ N base (l.drop n) Q fr' k'):WDQ N base l Q fr k:=by
 have app:∀(a b:List (Nat×Oper))(fr:Fr)(k:Hp),WDQ N base a (λfr' k'=>WDQ N base b Q fr' k') fr k->WDQ N base (a++b) Q fr k:=by
  intro a b fr k hw;obtain⟨m,fr',k',ts,he,qa,m2,fr2,k2,ts2,he2,qb,q⟩:=hw;refine⟨max m m2,fr2,k2,ts++ts2,?_,λp hp=>?_,q⟩
  .have he':=ZcC (Zcs N (Nat.le_max_left m m2)) he;have he2':=ZcC (Zcs N (Nat.le_max_right m m2)) he2;clear he he2 qa
   induction a generalizing fr k ts with
   |nil=>
    simp only[zB,Option.some.injEq,Prod.mk.injEq]at he';obtain⟨rfl,rfl,rfl⟩:=he';exact he2'
   | cons o a ih=>
    obtain⟨j,o⟩:=o;simp only[List.cons_append,zB]at he'⊢;split at he'
    .split at he'
     .rename_i hr;simp only[Option.some.injEq,Prod.mk.injEq]at he';obtain⟨rfl,rfl,rfl⟩:=he';rw[ih _ _ _ hr];rfl
     .cases he'
    .cases he'
  .rcases List.mem_append.1 hp with h|h
   .exact qa p h
   .exact qb p h
 have:=app (l.take n) (l.drop n) fr k (h1.mono h2);rwa[List.take_append_drop]at this
end cut

/-! More of what is one's own. -/
section own
variable {B:Nat->Prop}{h k:Hp}{Ω:List Ent}{nr:Nat}{e:Opd->V}
theorem Own.nil(H:Own B h k Ω){α:Type}(E:Enc α):Own B h k (Ω++[eSl E .sn []]):=H.add [] rfl .nil (λ_ _=>rfl) (by simp) (Nat.le_refl _) (by simp[eSl,Za0])
theorem Own.allNil(H:Own B h k Ω){α:Type}(E:Enc α)(n:Nat):Own B h k (Ω++[Zx E (List.replicate n .sn) (List.replicate n [])]):=by
 refine H.add [] rfl ⟨by simp,λi hi=>?_,?_⟩ (λ_ _=>rfl) (by simp) (Nat.le_refl _) ?_
 .have h1:i<n:=by simpa using hi
  simp only[gi,List.getD_eq_getElem?_getD,List.getElem?_replicate,h1,if_true,Option.getD_some];exact .nil
 .rw[List.pairwise_replicate];right;simp[Za0]
 .intro r hr;simp only[Zx,List.mem_flatMap]at hr;obtain⟨v,hv,hq⟩:=hr;rw[List.eq_of_mem_replicate hv]at hq;simp[Za0]at hq
theorem Own.absorb(H:Own B h k Ω){α:Type}{E:Enc α}{vs:List V}{ll:List (List α)}{v:V}{l:List α}(i j:Nat)(hi:ent Ω i=Zx E vs ll)(hj:ent Ω j=eSl E v l)(hij:i≠j):Own B h k (Mu.upd (Mu.upd Ω i (Zx E (vs++[v]) (ll++[l]))) j Zcu):=by
 refine H.join i j hi hj hij rfl (λha hb hab=>?_) (λr hr=>?_)
 .obtain⟨h1,h2,h3⟩:=ha;refine⟨by simp[h1],λq hq=>?_,?_⟩
  .by_cases c:q<vs.length
   .have e1:gi (vs++[v]) q=gi vs q:=by simp[gi,List.getElem?_append,c]
    have e2:gi (ll++[l]) q=gi ll q:=by simp[gi,List.getElem?_append,show q<ll.length by omega]
    rw[e1,e2];exact h2 q c
   .have c2:q=vs.length:=by simp at hq;omega
    subst c2;have e1:gi (vs++[v]) vs.length=v:=by simp[gi]
    have e2:gi (ll++[l]) vs.length=l:=by simp[gi,h1]
    rw[e1,e2];exact hb
  .rw[List.pairwise_append];refine⟨h3,by simp,λa ha b hb r hr hq=>?_⟩;simp only[List.mem_singleton]at hb;subst hb;exact hab r (List.mem_flatMap.2 ⟨a,ha,hr⟩) hq
 .simp only[Zx,List.mem_flatMap,List.mem_append,List.mem_singleton]at hr⊢;obtain⟨w,hw|rfl,hq⟩:=hr
  .exact .inl ⟨w,hw,hq⟩
  .exact .inr hq
theorem Own.cutE(H:Own B h k Ω){α:Type}{E:Enc α}{v:V}{l:List α}(i:Nat)(hi:ent Ω i=eSl E v l){a b:Nat}(hab:a<=b)(hb:b<=l.length):Own B h k (Mu.upd Ω i (eSl E (v.cut a b) ((l.drop a).take (b-a)))) :=
 H.upd i [] hi rfl ((H.slN i hi).cut hab hb) (λ_ _ _=>rfl) (by simp) (Nat.le_refl _) (λr hr=>.inl (by simpa[eSl,Zn4]using hr))
theorem Own.cutF(H:Own B h k Ω){α:Type}{E:Enc α}{v:V}{l:List α}(i:Nat)(hi:ent Ω i=eSl E v l){z:Int}(hz:0<=z/\z<=(l.length:Int)):Own B h k (Mu.upd Ω i (eSl E (v.cut z.toNat l.length) (l.drop z.toNat))):=by
 have:=H.cutE i hi (a:=z.toNat) (b:=l.length) (by omega) (Nat.le_refl _);rwa[List.take_of_length_le (by simp)]at this
theorem Own.cutU(H:Own B h k Ω){α:Type}{E:Enc α}{v:V}{l:List α}(i:Nat)(hi:ent Ω i=eSl E v l){z:Int}(hz:0<=z/\z<=(l.length:Int)):Own B h k (Mu.upd Ω i (eSl E (v.cut 0 z.toNat) (l.take z.toNat))):=by
 have:=H.cutE i hi (a:=0) (b:=z.toNat) (by omega) (by omega);simpa using this
theorem Zb1{α:Type}[Inhabited α]{l:List α}{i j:Nat}{x:α}(hi:i<l.length):gi (l.set i x) j=if j=i then x else gi l j:=by
 unfold gi;simp only[List.getD_eq_getElem?_getD,List.getElem?_set];by_cases hij:i=j
 .subst hij;simp[hi]
 .rw[if_neg hij,if_neg (λh=>hij h.symm)]
theorem Own.inner(H:Own B h k Ω){α:Type}{E:Enc α}{vs:List V}{ll:List (List α)}(i:Nat)(hi:ent Ω i=Zx E vs ll){j:Nat}(hj:j<ll.length){v':V}{l':List α}{k':Hp}(nw:List Nat)
  (hP:SlN E 0 k' v' l')(hs:∀r,r∉Za0 (gi vs j)->r∉nw->k'.m r=k.m r)(hw:∀r∈nw,k.m r=none/\h.n<=r)(hn:k.n<=k'.n)(hr:∀r∈Za0 v',r∈Za0 (gi vs j)\/r∈nw):Own B h k' (Mu.upd Ω i (Zx E (vs.set j v') (ll.set j l'))):=by
 obtain⟨h1,h2,h3⟩:=H.at i hi;have hjv:j<vs.length:=by omega
 have hmem:gi vs j∈vs:=by rw[zO hjv];simp
 have hold:∀q,q<vs.length->∀r∈Za0 (gi vs q),k.m r≠none:=λq hq r hr=>(h2 q hq).lt r hr;have hap:∀q,q<vs.length->q≠j->∀r∈Za0 (gi vs q),r∉Za0 (gi vs j):=by
  intro q hq hqj r hr hr';rw[List.pairwise_iff_getElem]at h3;rw[zO hq]at hr;rw[zO hjv]at hr';rcases Nat.lt_or_gt_of_ne hqj with c|c
  .exact h3 q j hq hjv c r hr hr'
  .exact h3 j q hjv hq c r hr' hr
 have hnew:∀q,q<vs.length->q≠j->∀r∈Za0 (gi vs q),r∉Za0 v':=by
  intro q hq hqj r hr' hv';rcases hr r hv' with c|c
  .exact hap q hq hqj r hr' c
  .exact hold q hq r hr' (hw r c).1
 refine H.upd i nw hi rfl ⟨by simp[h1],λq hq=>?_,?_⟩ (λr hr' hq=>hs r (λhm=>hr' (List.mem_flatMap.2 ⟨_,hmem,hm⟩)) hq) hw hn ?_
 .rw[Zb1 hjv,Zb1 (by omega)];by_cases c:q=j
  .rw[if_pos c,if_pos c];exact hP
  .rw[if_neg c,if_neg c];have hq':q<vs.length:=by simpa using hq
   exact(h2 q hq').loc λr hr'=>hs r (hap q hq' c r hr') λhm=>hold q hq' r hr' (hw r hm).1
 .rw[List.pairwise_iff_getElem];intro a b ha hb hab r hra hrb;have ha':a<vs.length:=by simpa using ha
  have hb':b<vs.length:=by simpa using hb
  have ga:(vs.set j v')[a]=gi (vs.set j v') a:=(zO ha).symm;have gb:(vs.set j v')[b]=gi (vs.set j v') b:=(zO hb).symm;rw[ga,Zb1 hjv]at hra;rw[gb,Zb1 hjv]at hrb;by_cases c1:a=j
  .rw[if_pos c1]at hra;rw[if_neg (by omega)]at hrb;exact hnew b hb' (by omega) r hrb hra
  .rw[if_neg c1]at hra;by_cases c2:b=j
   .rw[if_pos c2]at hrb;exact hnew a ha' c1 r hra hrb
   .rw[if_neg c2]at hrb;rw[List.pairwise_iff_getElem]at h3;rw[zO ha']at hra;rw[zO hb']at hrb;exact h3 a b ha' hb' hab r hra hrb
 .intro r hr';simp only[Zx,List.mem_flatMap]at hr'⊢;obtain⟨w,hw',hq⟩:=hr';rcases List.mem_or_eq_of_mem_set hw' with c|rfl
  .exact .inl ⟨w,c,hq⟩
  .rcases hr r hq with c|c
   .exact .inl ⟨_,hmem,c⟩
   .exact .inr c
end own
inductive Lit{α:Type}(E:Enc α)(k:Hp):List V->List (List α)->Prop
 |nil:Lit E k [] []
 |cons {v:V}{l:List α}{vs:List V}{ll:List (List α)}(hs:Sl E k v l) (ht:Lit E k vs ll):Lit E k (v::vs) (l::ll)
theorem Lit.at{α:Type}{E:Enc α}{k:Hp}{vs:List V}{ll:List (List α)}(hl:Lit E k vs ll):∀{j:Nat},j<ll.length->Sl E k (gi vs j) (gi ll j):=by
 induction hl with
 |nil=>intro j hj;simp at hj
 |cons hs ht ih=>
  intro j hj
  cases j with
  |zero=>exact hs
  |succ j=>exact ih (by simpa using hj)
theorem Rd.cutF{α:Type}{B:Nat->Prop}{h:Hp}{E:Enc α}{v:V}{l:List α}(s:Rd B h E v l){z:Int}(hz:0<=z/\z<=(l.length:Int)):Rd B h E (v.cut z.toNat l.length) (l.drop z.toNat):=λk hk=>(s k hk).cutF hz
theorem Rd.cutU{α:Type}{B:Nat->Prop}{h:Hp}{E:Enc α}{v:V}{l:List α}(s:Rd B h E v l){z:Int}(hz:0<=z/\z<=(l.length:Int)):Rd B h E (v.cut 0 z.toNat) (l.take z.toNat):=λk hk=>(s k hk).cutU hz
theorem Zu{z:Int}{n:Nat}(h:0<=z/\z<(n:Int)):z.toNat<n:=by omega
end Mu
namespace Mu
theorem Sl.oneV{α:Type}{E:Enc α}{k:Hp}{v:V}{l:List α}(hs:Sl E k v l):v.one=true:=by cases hs<;>rfl
theorem all_nil:([]:List V).all V.one=true:=rfl
theorem all_cons{v:V}{l:List V}(h:v.one=true)(ht:l.all V.one=true):(v::l).all V.one=true:=by simp[h,ht]
theorem Zfl:zZ [] [] []=some true:=rfl
theorem Zd5{k:Go.IntKind}{a b:Int}{ks:List FK}{xs ys:List V}{t:Bool}(h:zZ ks xs ys=some t):zZ (.i::ks) (.i k a::xs) (.i k b::ys)=some (decide (a=b)&&t):=by
 simp only[zZ,V.same,if_true,h];by_cases c:a=b
 .simp[c]
 .have:(a==b)=false:=by simp[c]
  simp[c,this]
theorem Zgs{rd:Nat->Option Obj}{nr:Nat}{e:Opd->V}{α:Type}{E:Enc α}{k:Hp}{v:V}{l:List α}{n:Nat}{x:Opd}(hs:Sl E k v l)(hn:l.length=n)(hx:e x=v):act rd nr e (.len x)=some (.i .i64 (n:Int),[]):=by rw[<-hn];exact Za4 hs hx
section wr
variable {Q:Ex->Fr->Hp->Prop}{next:Fr->Hp->Prop}{fr:Fr}{h:Hp}{i id:Nat}
theorem ZC(hk:next fr h):Ex.then next Q .normal fr h:=hk
theorem Zcp(hk:Q .ret fr h):Ex.then next Q .ret fr h:=hk
theorem Zaz(hk:Q (.exit i) fr h):Ex.then next Q (.exit i) fr h:=hk
theorem ZaI(hk:Q .normal fr h):Ex.blk id Q .normal fr h:=hk
theorem ZeV(hk:Q .ret fr h):Ex.blk id Q .ret fr h:=hk
theorem ZaU(hk:Q .normal fr h):Ex.blk id Q (.exit id) fr h:=by rw[Ex.blk_exit,if_pos rfl];exact hk
theorem Zs8(hi:i≠id)(hk:Q (.exit i) fr h):Ex.blk id Q (.exit i) fr h:=by rw[Ex.blk_exit,if_neg hi];exact hk
end wr
/-! Regions in which an order is Zep. -/
structure Fresh(base n J:Nat)(k:Hp):Prop where
 m:∀i,i<n->J<=i->k.m (base+i)=none
 n:base+n<=k.n
theorem Fresh.start(k:Hp)(n:Nat):Fresh k.n n 0 (k.bump n):=⟨λ_ _ _=>ZmE,Nat.le_refl _⟩
theorem Fresh.kept{base n J j:Nat}{k k':Hp}(F:Fresh base n J k)(K:ZeA k k' (base+j))(hJ:J<=j):Fresh base n (j+1) k':=⟨λi h1 h2=>K.2 _ (by omega) (F.m i h1 (by omega)),Nat.le_trans F.n K.1⟩
theorem Fresh.call{base n J:Nat}{k k':Hp}{Ω:List Ent}(F:Fresh base n J k)(H:Own (λr=>r<k.n) k k' Ω):Fresh base n J k':=⟨λi h1 h2=>(H.base _ (Nat.lt_of_lt_of_le (Nat.add_lt_add_left h1 base) F.n)).trans (F.m i h1 h2),Nat.le_trans F.n H.n⟩
theorem Fresh.callM{base n J:Nat}{k k':Hp}{Ωi Ω:List Ent}(F:Fresh base n J k)(hP:∀e∈Ωi,e.P k)(H:Own (Bm k Ωi) k k' Ω):Fresh base n J k':=⟨λi h1 h2=>(H.base _ ⟨Nat.lt_of_lt_of_le (Nat.add_lt_add_left h1 base) F.n,λe he hr=>e.lt (hP e he) _ hr (F.m i h1 h2)⟩).trans (F.m i h1 h2),Nat.le_trans F.n H.n⟩
theorem ZbS{v:V}{j off r:Nat}(h:r∈Za0 (v.elt j off)):r∈Za0 v:=by
 cases v<;>simp_all[V.elt,Za0]
theorem Rd.B{α:Type}{B:Nat->Prop}{h:Hp}{E:Enc α}{v:V}{l:List α}(s:Rd B h E v l)(hB:∀r,B r->r<h.n){j:Nat}(hj:j<l.length):∀r∈Za0 v,B r:=by
 intro r hr;refine Classical.byContradiction λhb=>?_;have h0:=s h ⟨Nat.le_refl _,λ_ _=>rfl⟩;have:=s (h.put r .dead) ⟨by simp only[Hp.put_n];omega,λq hq=>by
  have:q≠r:=by rintro rfl;exact hb hq
  simp[this]⟩
 cases h0 with
 |nil=>simp at hj
 |emp=>simp at hj
 |sl hm hl hc hn he=>
  simp only[Za0,List.mem_singleton]at hr;subst hr
  cases this with
  |emp=>simp at hj
  |sl hm'=>simp at hm'
theorem RdB.B{B:Nat->Prop}{h:Hp}{r:Nat}{cs:List V}(s:RdB B h r cs):B r:=by
 refine Classical.byContradiction λhb=>?_;obtain⟨w,hw⟩:=s (h.put r .dead) ⟨by simp only[Hp.put_n];omega,λq hq=>by
  have:q≠r:=by rintro rfl;exact hb hq
  simp[this]⟩
 simp at hw
end Mu
namespace Mu
theorem Zlv{r n:Nat}(h:r=n){q:Nat}(hq:q∈Za0 (.p r 0)):q=n:=by simp[Za0]at hq;omega
end Mu
namespace Mu
open Go (IntKind)
def Zb9(k:IntKind)(x y:Int):Int:=k.wrap ((BitVec.ofInt k.bits x&&&BitVec.ofInt k.bits y).toNat:Nat)
def Zd0(k:IntKind)(x y:Int):Int:=k.wrap ((BitVec.ofInt k.bits x ||| BitVec.ofInt k.bits y).toNat:Nat)
def Zog(k:IntKind)(x y:Int):Int:=k.wrap ((BitVec.ofInt k.bits x^^^BitVec.ofInt k.bits y).toNat:Nat)
def Zkt(k:IntKind)(x y:Int):Int:=k.wrap ((BitVec.ofInt k.bits x&&& ~~~ BitVec.ofInt k.bits y).toNat:Nat)
def Zfp(k:IntKind)(x y:Int):Int:=k.wrap (x+y)
def Zof(k:IntKind)(x y:Int):Int:=k.wrap (x-y)
def Zeo(k:IntKind)(x y:Int):Int:=k.wrap (x*y)
def Zeh(k:IntKind)(x y:Int):Int:=k.wrap (x*2^(min y.toNat k.bits))
def ZbH(k:IntKind)(x y:Int):Int:=x.fdiv (2^(min y.toNat k.bits))
theorem Zmh{k:IntKind}{x y:Int}(h:0<=y):shift .shl k x y=some (.i k (Zeh k x y)):=by
 have:¬y<0:=by omega
 simp[shift,this,Zeh]
theorem Zg6{k:IntKind}{x y:Int}(h:0<=y):shift .shr k x y=some (.i k (ZbH k x y)):=by
 have:¬y<0:=by omega
 simp[shift,this,ZbH]
end Mu
namespace Mu
theorem ZsF{B:Nat->Prop}{h k0 k:Hp}{Ω:List Ent}(H:Own B h k0 Ω)(hk:Ex' (λr=>r<k0.n) k0 k):Ex' B h k:=⟨Nat.le_trans H.n hk.1,λr hr=>(hk.2 r (Nat.lt_of_lt_of_le (H.lo r hr) H.n)).trans (H.base r hr)⟩
end Mu
namespace Mu
theorem tch{e:Opd->V}{a:Opd}{v:V}{r:Nat}(hm:r∈Za0 (e a))(h:e a=v):r∈Za0 v:=h▸hm
section cpy
variable {B:Nat->Prop}{h k:Hp}{Ω:List Ent}{nr:Nat}{e:Opd->V}
theorem ZnR{α:Type}{E:Enc α}{nr b:Nat}{h:Hp}{x y:V}{l m:List α}{bytes:Nat}{K:V->List (Nat×Obj)->Prop}(hx:SlN E b h x l)(hnr:h.m nr=none)(hy:Sl E h y m)(hb:b<=nr)(hallm:((m.map E.c).flatten).all V.one=true)(hl:(l.length+m.length)*bytes<=140737488355328) 
  (hk:∀v up,SlN E b (h.puts up) v (l++m)->Ext b h (h.puts up)->(∀q,q≠nr->h.m q=none->(h.puts up).m q=none)->K v up):WA (Zfb h.m nr E.sz bytes x y) K:=by
 cases hx with
 | nil=>
  cases hy with
  |nil=>exact hk _ _ .nil .refl (λ_ _ hq=>hq)
  |emp=>
   simp only[Zfb,act,Zcb,if_true];exact hk _ _ .nil .refl (λ_ _ hq=>hq)
  | @sl r' o' n' c' ex' w' cs' _ hm' hl' hc' hn' he'=>
   simp only[Zfb,act,Zcb,if_true];by_cases h0:n'=0
   .subst h0;rw[if_pos rfl];have:m=[]:=List.length_eq_zero_iff.mp hl';subst this;exact hk _ _ .nil .refl (λ_ _ hq=>hq)
   .rw[if_neg h0];subst hl';simp only[hm',Zcb];rw[if_pos ⟨hn',by simpa using hl⟩];refine hk _ _ ?_ ?_ (λq hq hq'=>by simp[hq,hq'])
    .rw[he'];exact .sl hb (by simp;rfl) (by simp) (Nat.le_refl _) (by rw[zN];simp) (by
      rw[piece,List.drop_zero,List.take_of_length_le (by rw[zN];simp)];simp)
    .exact Ext.put hb
 | @sl r o n c ex cs _ hrb hm hln hc hn he=>
  cases hy with
  |nil=>
   simp only[Zfb,act,Zcb,if_true];have:=hk (.sl E.sz r o n c ex) [] (by simpa using SlN.sl hrb hm hln hc hn he) .refl (λ_ _ hq=>hq);exact this
  |emp=>
   simp only[Zfb,act,Zcb,if_true];exact hk (.sl E.sz r o n c ex) [] (by simpa using SlN.sl hrb hm hln hc hn he) .refl (λ_ _ hq=>hq)
  | @sl r' o' n' c' ex' w' cs' _ hm' hl' hc' hn' he'=>
   simp only[Zfb,act,Zcb,if_true];by_cases h0:n'=0
   .subst h0;rw[if_pos rfl];have:m=[]:=List.length_eq_zero_iff.mp hl';subst this;exact hk (.sl E.sz r o n c ex) [] (by simpa using SlN.sl hrb hm hln hc hn he) .refl (λ_ _ hq=>hq)
   .rw [if_neg h0];subst hln hl';by_cases hg:l.length=0/\ex=true/\c<m.length
    .rw[if_pos hg];simp only[hm',Zcb];rw[if_pos ⟨hn',by rw[hg.1,Nat.zero_add]at hl;exact hl⟩];have hz:l=[]:=List.length_eq_zero_iff.mp hg.1;subst hz;refine hk _ _ ?_ (Ext.put hb) (λq hq hq'=>by simp[hq,hq']);rw[he'];exact .sl hb (by simp;rfl) (by simp) (Nat.le_refl _) (by rw[zN];simp) (by
      rw[piece,List.drop_zero,List.take_of_length_le (by rw[zN];simp)];simp)
    rw[if_neg hg];simp only[hm,hm',Zcb];rw[if_pos ⟨hn,hn',hl⟩];have hlen:(piece cs o (l.length*E.sz)++piece cs' o' (m.length*E.sz))=((l++m).map E.c).flatten:=by
     rw[he,he'];simp
    have hnew:∀h':Hp,h'.m nr=some (.cells true (((l++m).map E.c).flatten))->SlN E b h' (.sl E.sz nr 0 (l.length+m.length) (l.length+m.length) false) (l++m):=by
     intro h' hh;exact .sl hb hh (by simp) (Nat.le_refl _) (by rw[zN];simp) (by
      rw[piece,List.drop_zero,List.take_of_length_le (by rw[zN];simp)])
    rw[hlen];split
    .refine hk _ _ (hnew _ (by simp)) ?_ (λq hq hq'=>by simp[hq,hq']);exact Ext.put hb
    .rw[if_pos ⟨trivial,by rw[he'];exact hallm⟩];have hrn:nr≠r:=by
      rintro rfl;rw[hnr]at hm;cases hm
     refine hk _ _ (hnew _ ?_) ?_ (λq hq hq'=>by
      have:q≠r:=by
       rintro rfl;rw[hq']at hm;cases hm
      simp[hq,hq',this])
     .simp[hrn]
     .exact(Ext.put hb).trans (Ext.put (n:=b) hrb) (Nat.le_refl _)
theorem Own.appV(H:Own B h k Ω)(i:Nat)(hn:k.m nr=none/\h.n<=nr){v w:V}{l m:List V}{bytes:Nat}{x y:Opd}(hi:ent Ω i=eSl eV v l)(hy:Sl eV k w m)(hx:e x=v)(hy':e y=w)(h1:m.all V.one=true)(hl:l.length+m.length<=1000000000)(hb:bytes<=100000) :
  ∃v' k' up,act k.m nr e (.app 1 bytes x y)=some (v',up)/\k.puts up=k'/\ZeA k k' nr/\Own B h k' (Mu.upd Ω i (eSl eV v' (l++m))):=by
 have hs:=H.slN i hi;have hl2:(l.length+m.length)*bytes<=140737488355328:=by
  have:(l.length+m.length)*bytes<=1000000000*100000:=Nat.mul_le_mul hl hb;omega
 have hflat:∀(m:List V),(m.map eV.c).flatten=m:=by
  intro m
  induction m with
  |nil=>rfl
  |cons a m ih=>simp only[List.map_cons,List.flatten_cons,ih,Zu1,List.singleton_append]
 obtain⟨v',up,ha,k4,k5⟩:=Zmn (ZnR (E:=eV) (K:=λv' up=>SlN eV 0 (k.puts up) v' (l++m)/\(∀q,q≠nr->k.m q=none->(k.puts up).m q=none)) (b:=0) hs hn.1 hy (Nat.zero_le _) (by rw[hflat];exact h1) hl2 λv' up a b c=>⟨a,c⟩);obtain⟨k6,k7⟩:=Zj7 ha;refine⟨v',_,up,?_,rfl,⟨Ze5 _ _,k5⟩,H.upd i [nr] hi rfl k4 (λr hr hq=>Hp.puts_m λz hz=>?_) (λr hr=>?_) (Ze5 _ _) (λr hr=>?_)⟩
 .rw[Zlf,hx,hy'];exact ha
 .rintro rfl;rcases k6 z hz with h2|h2
  .exact hq (by simp[h2])
  .exact hr h2
 .have:r=nr:=by simpa using hr
  subst this;exact hn
 .rcases k7 r hr with h2|h2
  .exact .inr (by simp[h2])
  .exact .inl h2
end cpy
end Mu
namespace Mu
def eIf(c:Bool)(e:Ent):Ent:=if c=true then e else Zcu
end Mu
namespace Mu
end Mu
namespace Mu
section cp
variable {B:Nat->Prop}{h k:Hp}{Ω:List Ent}{nr:Nat}{e:Opd->V}
theorem Own.cpyA{α:Type}{E:Enc α}(H:Own B h k Ω)(i:Nat){v w d:V}{l m:List α}{x y:Opd}{a:Nat}(hi:ent Ω i=eSl E v l)(hal:a<=l.length)(hd:(d=v/\a=0)\/d=v.cut a l.length)(hy:Sl E k w m)(hx:e x=d)(hy':e y=w)(h1:∀a,(E.c a).all V.one=true) :
  ∃u k' up,act k.m nr e (.cpy E.sz x y)=some (u,up)/\k.puts up=k'/\u=.i .i64 ((min m.length (l.length-a):Nat):Int)/\ZeA k k' nr/\Own B h k' (Mu.upd Ω i (eSl E v (l.take a++(m.take (l.length-a)++(l.drop a).drop m.length)))):=by
 have hs:=H.slN i hi
 -- the places
 have hdl:d.len=some (l.length-a):=by
  rcases hd with⟨rfl,rfl⟩|rfl
  .have:=hs.to.len;unfold Zk6 at this
   cases hh:d.len with
   |none=>simp[hh]at this
   |some n=>simp[hh]at this;simp;omega
  .have:=(hs.to.cut (a:=a) (b:=l.length) hal (Nat.le_refl _)).len;unfold Zk6 at this
   cases hh:(v.cut a l.length).len with
   |none=>simp[hh]at this
   |some n=>simp[hh]at this;simp;omega
 have hwl:w.len=some m.length:=by
  have:=hy.len;unfold Zk6 at this
  cases hh:w.len with
  |none=>simp[hh]at this
  |some n=>simp[hh]at this;simp;omega
 by_cases h0:min m.length (l.length-a)=0
 .have hl:l.take a++(m.take (l.length-a)++(l.drop a).drop m.length)=l:=by
   by_cases hm0:m.length=0
   .have:m=[]:=List.length_eq_zero_iff.mp hm0;subst this;simp
   .have hla:l.length-a=0:=by omega
    have:a=l.length:=by omega
    subst this;simp
  refine⟨.n 0,k,[],?_,rfl,by rw[h0];rfl,⟨Nat.le_refl _,λ_ _ hq=>hq⟩,?_⟩
  .simp only[act,hx,hy',hdl,hwl];rw[if_pos h0]
  .rw[hl];exact H.upd i [] hi rfl hs (λ_ _ _=>rfl) (by simp) (Nat.le_refl _) (λr hr=>.inl hr)
 .cases hs with
  |nil=>simp at h0
  | @sl r o n c ex cs _ hb hm hln hc hn he=>
   subst hln;have hdv:∃n2 c2 ex2,d=.sl E.sz r (o+a*E.sz) n2 c2 ex2:=by
    rcases hd with⟨rfl,rfl⟩|rfl
    .exact⟨_,_,_,by rw[Nat.zero_mul,Nat.add_zero]⟩
    .refine⟨l.length-a,c-a,ex,?_⟩;simp only[V.cut];rw[if_neg (by omega)]
   obtain⟨n2,c2,ex2,hdv⟩:=hdv
   cases hy with
   |nil=>simp at h0
   |emp=>simp at h0
   | @sl r' o' n' c' ex' w' cs' _ hm' hl' hc' hn' he'=>
    subst hl';generalize hq:min m.length (l.length-a)=q at h0⊢;have hqm:q*E.sz<=m.length*E.sz:=Nat.mul_le_mul_right _ (by omega);have hql:a*E.sz+q*E.sz<=l.length*E.sz:=by rw[<-Nat.add_mul];exact Nat.mul_le_mul_right _ (by omega)
    have hp:piece cs' o' (q*E.sz)=((m.take q).map E.c).flatten:=by
     have:=Zdm (cs:=cs') (o:=o') (n:=m.length*E.sz) (o':=0) (n':=q*E.sz) (by omega);rw[Nat.add_zero]at this;rw[<-this,he',piece,List.drop_zero,Zdj]
    have hlen:(piece cs' o' (q*E.sz)).length=q*E.sz:=by rw[hp,zN,List.length_take];congr 1;omega
    have hall:(piece cs' o' (q*E.sz)).all V.one=true:=by
     rw[hp];simp only[List.all_eq_true,List.mem_flatten,List.mem_map];rintro x ⟨_,⟨a,_,rfl⟩,hx⟩;have:=h1 a;rw[List.all_eq_true]at this;exact this x hx
    have hlt:=Hp.lt hm;refine⟨.n (q:Nat),_,[(r,.cells true (over cs (o+a*E.sz) (piece cs' o' (q*E.sz))))],?_,rfl,rfl,⟨by simp only[Hp.puts_cons,Hp.puts_nil,Hp.put_n];omega,λz hz hm2=>?_⟩,H.upd i [] hi rfl ?_ (λz hz _=>?_) (by simp) ?_ (λz hz=>.inl hz)⟩
    .simp only[act,hx,hy',hdl,hwl,hq];rw[if_neg h0,hdv];simp only[and_self,if_true,hm,hm'];rw[if_pos ⟨by omega,by omega,hall⟩]
    .have:z≠r:=by rintro rfl;rw[hm2]at hm;cases hm
     simp[this,hm2]
    .have hlist:l.take a++(m.take (l.length-a)++(l.drop a).drop m.length)=l.take a++(m.take q++(l.drop a).drop q):=by
      congr 1;by_cases c1:m.length<=l.length-a
      .have:q=m.length:=by omega
       subst this;rw[List.take_of_length_le c1,List.take_of_length_le (Nat.le_refl _)]
      .have:q=l.length-a:=by omega
       subst this;rw[List.drop_of_length_le (l:=l.drop a) (i:=m.length) (by simp;omega),List.drop_of_length_le (l:=l.drop a) (i:=l.length-a) (by simp)]
     have hll:(l.take a++(m.take q++(l.drop a).drop q)).length=l.length:=by
      simp only[List.length_append,List.length_take,List.length_drop];omega
     rw[hlist];refine SlN.sl (cs:=over cs (o+a*E.sz) (piece cs' o' (q*E.sz))) hb (by simp) hll hc ?_ ?_
     .unfold over;simp only[List.length_append,List.length_take,List.length_drop,hlen];omega
     .rw[ZfD hn (by rw[hlen];exact hql),he];unfold over;rw[hlen,Zdj,hp,<-Nat.add_mul,ZdV];simp[List.drop_drop]
    .have:z≠r:=by simpa[eSl,Za0]using hz
     simp[this]
    .simp only[Hp.puts_cons,Hp.puts_nil,Hp.put_n];omega
theorem Own.cpy{α:Type}{E:Enc α}(H:Own B h k Ω)(i:Nat){v w:V}{l m:List α}{x y:Opd}(hi:ent Ω i=eSl E v l)(hy:Sl E k w m)(hx:e x=v)(hy':e y=w)(h1:∀a,(E.c a).all V.one=true) :
  ∃u k' up,act k.m nr e (.cpy E.sz x y)=some (u,up)/\k.puts up=k'/\u=.i .i64 ((min m.length l.length:Nat):Int)/\ZeA k k' nr/\Own B h k' (Mu.upd Ω i (eSl E v (m.take l.length++l.drop m.length))):=by
 have:=H.cpyA (nr:=nr) i hi (a:=0) (Nat.zero_le _) (.inl ⟨rfl,rfl⟩) hy hx hy' h1;simpa using this
theorem Own.cpyF{α:Type}{E:Enc α}(H:Own B h k Ω)(i:Nat){v w:V}{l m:List α}{x y:Opd}{z:Int}(hi:ent Ω i=eSl E v l)(hz:0<=z/\z<=(l.length:Int))(hy:Sl E k w m)(hx:e x=v.cut z.toNat l.length)(hy':e y=w)(h1:∀a,(E.c a).all V.one=true) :
  ∃u k' up,act k.m nr e (.cpy E.sz x y)=some (u,up)/\k.puts up=k'/\u=.i .i64 ((min m.length (l.drop z.toNat).length:Nat):Int)/\ZeA k k' nr/\Own B h k' (Mu.upd Ω i (eSl E v (l.take z.toNat++(m.take (l.drop z.toNat).length++(l.drop z.toNat).drop m.length)))):=by
 have:=H.cpyA (nr:=nr) i hi (a:=z.toNat) (by omega) (.inr rfl) hy hx hy' h1;simpa only[List.length_drop]using this
end cp
end Mu
namespace Mu
theorem RdB.mem{B:Nat->Prop}{h:Hp}{r o q:Nat}{cs:List V}(s:RdB B h r cs)(hq:q∈Za0 (.p r o)):B q:=by
 have:q=r:=by simpa[Za0]using hq
 subst this;exact s.B
end Mu
namespace Mu
theorem Zbc{e:Opd->V}{agg:Bool}{sz r:Nat}{a:Opd}(hm:r∈ZaZ e (.ld agg sz a)):r∈Za0 (e a):=hm
theorem ZpR{e:Opd->V}{sz r:Nat}{a x:Opd}(hm:r∈ZaZ e (.st sz a x)):r∈Za0 (e a):=hm
end Mu
namespace Mu
open Go (IntKind)
theorem ZeF{k:IntKind}{n:Int}:(V.i k n).cells=[V.i k n]:=rfl
theorem ZeD{x:Bool}:(V.b x).cells=[V.b x]:=rfl
theorem ZeE{id:Nat}{caps:List V}:(V.f id caps).cells=[V.f id caps]:=rfl
theorem ZeH{r o:Nat}:(V.p r o).cells=[V.p r o]:=rfl
theorem ZeC{l:List V}:(V.ag l).cells=l:=rfl
theorem ZeG:V.sn.cells=[V.sn]:=rfl
end Mu
namespace Mu
theorem Zr0{α:Type}{E:Enc α}{h:Hp}{v:V}{l:List α}(hs:Sl E h v l):(v=.sn/\l=[])\/∃es r o n c ex,v=.sl es r o n c ex:=by
 cases hs with
 |nil=>exact .inl ⟨rfl,rfl⟩
 |emp=>exact .inr ⟨_,_,_,_,_,_,rfl⟩
 |sl=>exact .inr ⟨_,_,_,_,_,_,rfl⟩
theorem Zsz{rd:Nat->Option Obj}{nr:Nat}{e:Opd->V}{x y:Opd}{v:V}(hn:∃es r o n c ex,v=.sl es r o n c ex)(hx:e x=v)(hy:e y=.sn):act rd nr e (.eq false .sl x y)=some (.b false,[]):=by
 obtain⟨es,r,o,n,c,ex,rfl⟩:=hn;rw[Zdy,hx,hy];rfl
end Mu
namespace Mu
theorem unw{α:Type}{x:Option α}{g:α}{r:Nat}(h:x=some g):(if x.isSome=true then V.p r 0 else V.pn)=V.p r 0:=by rw[h];rfl

/-! Strings. -/
section strings
theorem Zqq{a b:ByteArray}(h:a.data=b.data):a=b:=by cases a;cases b;simp_all
instance:DecidableEq ByteArray:=λa b=>decidable_of_iff (a.data=b.data) ⟨Zqq,λh=>by rw[h]⟩
def sAt(x:ByteArray)(i:Nat):Int:=((x.data[i]?.getD 0).toNat:Nat)
variable {rd:Nat->Option Obj}{nr:Nat}{e:Opd->V}{x y:Opd}{a b:ByteArray}
theorem Zmz(hx:e x=.s a)(hy:e y=.s b)(h:a.size+b.size<=1000000000000):act rd nr e (.bin .add x y)=some (.s (a++b),[]):=by
 simp[act,bin,hx,hy,h]
theorem Zs0(hx:e x=.s a)(hy:e y=.s b):act rd nr e (.eq false .sc x y)=some (.b (a.toList==b.toList),[]):=by
 rw[Zdy,hx,hy];rfl
theorem Zs5(hx:e x=.s a)(hy:e y=.s b):act rd nr e (.eq true .sc x y)=some (.b (!(a.toList==b.toList)),[]):=by
 rw[Zdy,hx,hy];rfl
theorem Zp0{k:Go.IntKind}{i:Opd}{z:Int}(hx:e x=.s a)(hi:e i=.i k z)(h:0<=z/\z<(a.size:Int)):act rd nr e (.ixs x i)=some (.i .u8 (sAt a z.toNat),[]):=by
 simp[act,hx,hi,idx,h,sAt]
theorem Zm2(hx:e x=.s a):act rd nr e (.slen x)=some (.i .i64 (a.size:Int),[]):=by
 simp[act,hx]
end strings

/-! Maps to bools. -/
section maps
set_option linter.unusedSectionVars false
variable {κ:Type} [DecidableEq κ]
def mpV(E:Enc κ)(m:List (κ×Bool)):List (V×V):=m.map λp=>(.ag (E.c p.1),.b p.2)
def eMp(E:Enc κ)(r:Nat)(m:List (κ×Bool)):Ent:=⟨[r],λk=>k.m r=some (.mp (mpV E m)),λhp hr=>(hr r (by simp)).trans hp,λhp q hq=>by simp at hq;subst hq;rw[hp];simp⟩
theorem Ziq{ks:List FK}{E:Enc κ}(hE:∀x y,zZ ks (E.c x) (E.c y)=some (decide (x=y)))(q:κ):∀m:List (κ×Bool),∃r,lookup ks (.ag (E.c q)) (mpV E m)=some r/\(r=some (.b (ZeW false q m))\/(r=none/\ZeW false q m=false))
 |[]=>⟨none,by simp[mpV,lookup,eqv,hE],.inr ⟨rfl,rfl⟩⟩
 |p::m=>by
  have e:mpV E (p::m)=(.ag (E.c p.1),.b p.2)::mpV E m:=rfl;by_cases c:q=p.1
  .refine⟨some (.b p.2),by simp[e,lookup,eqv,hE,c],.inl ?_⟩;simp[ZeW,c]
  .obtain⟨r,h1,h2⟩:=Ziq hE q m;refine⟨r,by simp[e,lookup,eqv,hE,c,h1],?_⟩;simpa[ZeW,c]using h2
theorem Zi4{ks:List FK}{E:Enc κ}(hE:∀x y,zZ ks (E.c x) (E.c y)=some (decide (x=y)))(q:κ)(v:Bool):∀m:List (κ×Bool),ZdL ks (.ag (E.c q)) (.b v) (mpV E m)=some (mpV E (Ze3 q v m))
 |[]=>by simp[mpV,ZdL,eqv,hE,Ze3]
 | p::m=>by
  have e:mpV E (p::m)=(.ag (E.c p.1),.b p.2)::mpV E m:=rfl;have ih:=Zi4 hE q v m;by_cases c:q=p.1
  .simp[e,ZdL,eqv,hE,c,Ze3,mpV]
  .have e2:Ze3 q v (p::m)=p::Ze3 q v m:=by simp[Ze3,c]
   rw[e2,e];simp only[ZdL,eqv,hE,decide_eq_false c,ih];rfl
variable {B:Nat->Prop}{h k:Hp}{Ω:List Ent}{nr:Nat}{e:Opd->V}{E:Enc κ}{r:Nat}{m:List (κ×Bool)}
theorem Own.mpP(H:Own B h k Ω)(i:Nat)(hi:ent Ω i=eMp E r m):k.m r=some (.mp (mpV E m)):=H.at i hi
theorem Zp1{x y:Opd}{q:κ}{ks:List FK}(hm:k.m r=some (.mp (mpV E m)))(hx:e x=.mp r)(hy:e y=.ag (E.c q))(hE:∀x y,zZ ks (E.c x) (E.c y)=some (decide (x=y))):act k.m nr e (.mlk ks false (.b false) x y)=some (.b (ZeW false q m),[]):=by
 obtain⟨w,h1,h2⟩:=Ziq hE q m;simp only[act,hx,hm,hy,h1];rcases h2 with rfl|⟨rfl,h2⟩
 .rfl
 .rw[h2];rfl
theorem Own.mkm(E:Enc κ)(H:Own B h k Ω)(hn:k.m nr=none/\h.n<=nr):∃v k' up,act k.m nr e .mkm=some (v,up)/\k.puts up=k'/\∃r,v=.mp r/\r=nr/\ZeA k k' nr/\Own B h k' (Ω++[eMp E r []]):=by
 refine⟨.mp nr,_,[(nr,.mp [])],rfl,rfl,nr,rfl,rfl,Ze1,?_⟩;refine H.add [nr] rfl (by simp[eMp,mpV]) (λr hr=>?_) (λr hr=>?_) ?_ (λr hq=>by simpa[eMp]using hq)
 .have:r≠nr:=by simpa using hr
  simp[this]
 .have:r=nr:=by simpa using hr
  subst this;exact hn
 .simp only[Hp.puts_cons,Hp.puts_nil,Hp.put_n];omega
theorem Own.mup(H:Own B h k Ω)(i:Nat){x y u:Opd}{q:κ}{v:Bool}{ks:List FK}(hi:ent Ω i=eMp E r m)(hx:e x=.mp r)(hy:e y=.ag (E.c q))(hu:e u=.b v)(hE:∀x y,zZ ks (E.c x) (E.c y)=some (decide (x=y))) :
  ∃w k' up,act k.m nr e (.mup ks x y u)=some (w,up)/\k.puts up=k'/\w=.un/\ZeA k k' nr/\k'.n=k.n/\Own B h k' (Mu.upd Ω i (eMp E r (Ze3 q v m))):=by
 have hb:=H.mpP i hi;have hlt:r<k.n:=H.ltAt i hi r (by simp[eMp]);refine⟨.un,_,[(r,.mp (mpV E (Ze3 q v m)))],?_,rfl,rfl,?_,?_,H.upd i [] hi rfl ?_ (λq hq _=>?_) (by simp) ?_ (λq hq=>.inl hq)⟩
 .simp only[act,hx,hb,hy,hu,Zi4 hE]
 .refine⟨by simp only[Hp.puts_cons,Hp.puts_nil,Hp.put_n];omega,λq hq hm=>?_⟩;have:q≠r:=by rintro rfl;rw[hm]at hb;cases hb
  simp[this,hm]
 .simp only[Hp.puts_cons,Hp.puts_nil,Hp.put_n];omega
 .simp[eMp]
 .have:q≠r:=by simpa[eMp]using hq
  simp[this]
 .simp only[Hp.puts_cons,Hp.puts_nil,Hp.put_n];omega
end maps
end Mu
namespace Mu
def V.capd(v:V)(n:Nat):V:=match v with
 |.sl es r o _ _ _=>.sl es r o n n true
 |v=>v
section capd
open Go (IntKind)
variable {nr:Nat}{e:Opd->V}{rd:Nat->Option Obj}{α:Type}{E:Enc α}
theorem SlN.capd{k:Hp}{v:V}{l:List α}(hs:SlN E 0 k v l){n:Nat}(hb:n<=l.length):SlN E 0 k (v.capd n) (l.take n):=by
 have t:=hs.cut (Nat.zero_le n) hb;simp only[List.drop_zero,Nat.sub_zero]at t
 cases v with
 |sl es r o m c ex=>
  simp only[V.cut,Nat.zero_mul,Nat.add_zero,ite_self,Nat.sub_zero]at t;simp only[V.capd];generalize l.take n=q at t
  cases t with
  |sl h0 hm' hl' hc' hn' he'=>exact .sl h0 hm' hl' (Nat.le_refl _) hn' he'
 |_=>exact t
end capd
end Mu
/-! An array's memory as a slice;inner slices turned or laid;what is cleared. -/
namespace Mu
open Go (IntKind BinOp UnOp)
section own
variable {B:Nat->Prop}{h k:Hp}{Ω:List Ent}{nr:Nat}{e:Opd->V}
theorem Own.boxSl(H:Own B h k Ω){α:Type}{E:Enc α}(i:Nat){r n:Nat}{cs:List V}{l:List α}(hi:ent Ω i=Z3 r cs)(hc:cs=(l.map E.c).flatten)(hn:l.length=n):Own B h k (Mu.upd Ω i (eSl E (.sl E.sz r 0 n n true) l)):=by
 subst hc;refine H.upd i [] hi rfl ?_ (λ_ _ _=>rfl) (by simp) (Nat.le_refl _) (λq hq=>.inl (by simpa[eSl,Z3,Za0]using hq));exact .sl (Nat.zero_le _) (H.box i hi) hn (Nat.le_refl _) (by rw[zN,hn];omega) (by rw[piece,List.drop_zero,List.take_of_length_le (by rw[zN,hn];exact Nat.le_refl _)])
theorem Zm1{α:Type}{E:Enc α}{l:List α}{r n:Nat}{x:Opd}(hs:SlN E 0 k (.sl E.sz r 0 n n true) l)(hx:e x=.p r 0)(h0:n≠0):act k.m nr e (.slca E.sz n x none none none)=some (.sl E.sz r 0 n n true,[]):=by
 generalize hv:V.sl E.sz r 0 n n true=v at hs
 cases hs with
 |nil=>cases hv
 |@sl r o m c ex cs _ hb hm hl hc hn he=>
  cases hv;simp only[act,hx,ZcM,hm];rw[if_pos hn,if_neg h0];simp
theorem Own.growz{α:Type}{E:Enc α}{y:α}(H:Own B h k Ω)(hn:k.m nr=none/\h.n<=nr){bytes:Nat}{K':IntKind}{z:Int}{zero:List V}{x x':Opd}(hx:e x=.sn)(hx':e x'=.i K' z)(hz:E.c y=zero)(h0:0<z/\z<=1000000000)(hb:bytes<=100000) :
  ∃v k' up,act k.m nr e (.growz E.sz bytes zero x x')=some (v,up)/\k.puts up=k'/\Za0 v=[nr]/\ZeA k k' nr/\Own B h k' (Ω++[eSl E v (List.replicate z.toNat y)]):=by
 subst hz;have hf:(List.replicate z.toNat (E.c y)).flatten=((List.replicate z.toNat y).map E.c).flatten:=by rw[List.map_replicate]
 refine⟨.sl E.sz nr 0 z.toNat z.toNat false,_,[(nr,.cells true (List.replicate z.toNat (E.c y)).flatten)],?_,rfl,rfl,Ze1,H.news hn ?_ (by simp[eSl,Za0])⟩
 .simp only[act,hx,hx'];rw[if_pos];refine⟨h0.1,?_⟩;have h1:z.toNat*bytes<=z.toNat*100000:=Nat.mul_le_mul_left _ hb;omega
 .rw[hf];refine .sl (cs:=((List.replicate z.toNat y).map E.c).flatten) (Nat.zero_le _) (by simp) (by simp) (Nat.le_refl _) (by rw[zN];simp) (by rw[piece,List.drop_zero,List.take_of_length_le (by rw[zN];simp)])
theorem Zm0{rd:Nat->Option Obj}{x y:Opd}{sz:Nat}{K:IntKind}(hx:e x=.sn)(hy:e y=.i K 0):act rd nr e (.slc sz x none (some y) none)=some (.sn,[]):=by simp[act,hx,hy,ZcM]
theorem Zmw{rd:Nat->Option Obj}{x:Opd}(hx:e x=.sn):act rd nr e (.capn x)=some (.i .i64 0,[]):=by simp[act,hx]
theorem Own.steInn{α:Type}[Inhabited α]{E:Enc α}(H:Own B h k Ω)(i:Nat){vs:List V}{ll:List (List α)}{y:α}{j q off sz:Nat}{a x:Opd}{w:V}{ws:List V}(hi:ent Ω i=Zx E vs ll)(hj:j<ll.length)(ha:e a=(gi vs j).elt q off)(hq:q<(gi ll j).length)(hx:e x=w)(hw:w.cells=ws)(h1:ws.length=sz/\off+sz<=E.sz/\ws.all V.one=true)(ho:over (E.c (gi (gi ll j) q)) off ws=E.c y) :
  ∃u k' up,act k.m nr e (.st sz a x)=some (u,up)/\k.puts up=k'/\u=.un/\ZeA k k' nr/\k'.n=k.n/\Own B h k' (Mu.upd Ω i (Zx E vs (ll.set j ((gi ll j).set q y)))):=by
 obtain⟨h2,h3,h4⟩:=H.at i hi;have hjv:j<vs.length:=by omega
 have hs:=h3 j hjv;have H1:Own (λr=>r<k.n/\r∉Za0 (gi vs j)) k k [eSl E (gi vs j) (gi ll j)]:=⟨Nat.le_refl _,λ_ _=>rfl,λ_ hr=>hr.1,λe he=>by simp only[List.mem_singleton]at he;subst he;exact hs,λe he r hr hb=>by simp only[List.mem_singleton]at he;subst he;exact hb.2 hr,by simp⟩;obtain⟨u,k',up,g1,g2,g3,g4,g5,g6⟩:=H1.ste (nr:=nr) 0 rfl ha hq hx hw h1 ho;refine⟨u,k',up,g1,g2,g3,g4,g5,?_⟩;have hv:vs.set j (gi vs j)=vs:=by rw[zO hjv];simp
 have:=H.inner i hi hj (v':=gi vs j) (l':=(gi ll j).set q y) (k':=k') [] (g6.slN 0 rfl) (λr hr _=>?_) (by simp) (by omega) (λr hr=>.inl hr)
 .rwa[hv]at this
 .by_cases hlt:r<k.n
  .exact g6.base r ⟨hlt,hr⟩
  .rw[k.wf r (by omega),k'.wf r (by omega)]
theorem Own.absorbAt(H:Own B h k Ω){α:Type}{E:Enc α}{vs:List V}{ll:List (List α)}{v:V}{l:List α}(i j:Nat){q:Nat}(hi:ent Ω i=Zx E vs ll)(hj:ent Ω j=eSl E v l)(hij:i≠j)(hq:q<ll.length):Own B h k (Mu.upd (Mu.upd Ω i (Zx E (vs.set q v) (ll.set q l))) j Zcu):=by
 refine H.join i j hi hj hij rfl (λha hb hab=>?_) (λr hr=>?_)
 .obtain⟨h1,h2,h3⟩:=ha;have hqv:q<vs.length:=by omega
  have hab':∀p,p<vs.length->∀r∈Za0 (gi vs p),r∉Za0 v:=λp hp r hr=>hab r (List.mem_flatMap.2 ⟨_,by rw[zO hp];simp,hr⟩);refine⟨by simp[h1],λp hp=>?_,?_⟩
  .rw[Zb1 hqv,Zb1 hq];by_cases c:p=q
   .rw[if_pos c,if_pos c];exact hb
   .rw[if_neg c,if_neg c];exact h2 p (by simpa using hp)
  .rw[List.pairwise_iff_getElem]at h3⊢;intro a b ha hb hlt r hra hrb;have ha':a<vs.length:=by simpa using ha
   have hb':b<vs.length:=by simpa using hb
   rw[(zO ha).symm,Zb1 hqv]at hra;rw[(zO hb).symm,Zb1 hqv]at hrb;by_cases c1:a=q
   .rw[if_pos c1]at hra;rw[if_neg (by omega)]at hrb;exact hab' b hb' r hrb hra
   .rw[if_neg c1]at hra;by_cases c2:b=q
    .rw[if_pos c2]at hrb;exact hab' a ha' r hra hrb
    .rw[if_neg c2]at hrb;rw[zO ha']at hra;rw[zO hb']at hrb;exact h3 a b ha' hb' hlt r hra hrb
 .simp only[Zx,List.mem_flatMap]at hr⊢;obtain⟨w,hw,hr⟩:=hr;rcases List.mem_or_eq_of_mem_set hw with c|rfl
  .exact .inl ⟨w,c,hr⟩
  .exact .inr hr
theorem Own.clrF{α:Type}{E:Enc α}(H:Own B h k Ω)(i:Nat){v:V}{l:List α}{y:α}{zero:List V}{x:Opd}{z:Int}(hi:ent Ω i=eSl E v l)(hz:0<=z/\z<=(l.length:Int))(hx:e x=v.cut z.toNat l.length)(hy:E.c y=zero)(h1:∀a,(E.c a).all V.one=true) :
  ∃u k' up,act k.m nr e (.clr zero x)=some (u,up)/\k.puts up=k'/\u=.un/\ZeA k k' nr/\Own B h k' (Mu.upd Ω i (eSl E v (l.take z.toNat++List.replicate (l.length-z.toNat) y))):=by
 subst hy;have hs:=H.slN i hi;have nop:z.toNat=l.length->Own B h k (Mu.upd Ω i (eSl E v (l.take z.toNat++List.replicate (l.length-z.toNat) y))):=by
  intro e0;have:l.take z.toNat++List.replicate (l.length-z.toNat) y=l:=by rw[e0];simp
  rw[this];exact H.upd i [] hi rfl hs (λ_ _ _=>rfl) (by simp) (Nat.le_refl _) (λr hr=>.inl hr)
 generalize ha:z.toNat=a at hx nop⊢;have hal:a<=l.length:=by omega
 cases hs with
 |nil=>
  refine⟨.un,k,[],?_,rfl,rfl,⟨Nat.le_refl _,λ_ _ hq=>hq⟩,nop (by simpa using hal)⟩;simp[act,hx,V.cut]
 | @sl r o n c ex cs _ hb hm hl hc hn he=>
  subst hl;by_cases h0:l.length-a=0
  .refine⟨.un,k,[],?_,rfl,rfl,⟨Nat.le_refl _,λ_ _ hq=>hq⟩,nop (by omega)⟩;simp[act,hx,V.cut,h0]
  .have hsz:a*E.sz+(l.length-a)*E.sz=l.length*E.sz:=by rw[<-Nat.add_mul];congr 1;omega
   have hfl:(List.replicate (l.length-a) (E.c y)).flatten=((List.replicate (l.length-a) y).map E.c).flatten:=by rw[List.map_replicate]
   have hlen:(List.replicate (l.length-a) (E.c y)).flatten.length=(l.length-a)*E.sz:=by rw[hfl,zN];simp
   refine⟨.un,_,[(r,.cells true (over cs (o+a*E.sz) (List.replicate (l.length-a) (E.c y)).flatten))],?_,rfl,rfl,⟨by simp only[Hp.puts_cons,Hp.puts_nil,Hp.put_n];omega,λq hq hm2=>?_⟩,H.upd i [] hi rfl ?_ (λq hq _=>?_) (by simp) (by simp only[Hp.puts_cons,Hp.puts_nil,Hp.put_n];omega) (λq hq=>.inl hq)⟩
   .simp only[act,hx,V.cut];have hc0:¬(c-a=0/\ex=true):=by omega
    simp only[if_neg h0,E.hc,if_true,hm];split
    .omega
    .rw[if_pos ⟨by omega,h1 y⟩]
   .have:q≠r:=by rintro rfl;rw[hm2]at hm;cases hm
    simp[this,hm2]
   .refine SlN.sl (cs:=over cs (o+a*E.sz) (List.replicate (l.length-a) (E.c y)).flatten) hb (by simp) (by simp;omega) hc ?_ ?_
    .unfold over;simp only[List.length_append,List.length_take,List.length_drop,hlen];omega
    .rw[ZfD hn (by rw[hlen];omega),he];unfold over;rw[hlen,Zdj,hfl,<-Nat.add_mul,ZdV,<-List.flatten_append,<-List.flatten_append,<-List.map_append,<-List.map_append];rw[List.drop_of_length_le (l:=l) (by omega)];simp
   .have:q≠r:=by simpa[eSl,Za0]using hq
    simp[this]
theorem Own.boxK(H:Own B h k Ω)(is:List Nat){Ωi:List Ent}(hi:is.map (ent Ω)=Ωi)(j:Nat)(hj:j∉is){r:Nat}{cs:List V}(he:ent Ω j=Z3 r cs){k':Hp}(hk:Ex' (Bm k Ωi) k k'):k'.m r=some (.cells true cs):=by
 subst hi;refine(hk.2 r ⟨H.ltAt j he r (by simp[Z3]),λe hm hq=>?_⟩).trans (H.box j he);obtain⟨i,hi,rfl⟩:=List.mem_map.1 hm;exact H.apartAt (i:=i) (j:=j) rfl he (λhij=>hj (hij▸hi)) r hq (by simp[Z3])
theorem Own.innK(H:Own B h k Ω)(is:List Nat){Ωi:List Ent}(hi:is.map (ent Ω)=Ωi)(j:Nat)(hj:j∉is){α:Type}{E:Enc α}{vs:List V}{ll:List (List α)}(he:ent Ω j=Zx E vs ll){q:Nat}(hq:q<ll.length):Rd (Bm k Ωi) k E (gi vs q) (gi ll q):=by
 subst hi;intro k' hk;obtain⟨h1,h2,-⟩:=H.at j he;have hqv:q<vs.length:=by omega
 refine((h2 q hqv).loc λr hr=>hk.2 r ?_).to;have hm:r∈(Zx E vs ll).rs:=List.mem_flatMap.2 ⟨_,by rw[zO hqv];simp,hr⟩;refine⟨H.ltAt j he r hm,λe he' hq'=>?_⟩;obtain⟨i,hi,rfl⟩:=List.mem_map.1 he';exact H.apartAt (i:=i) (j:=j) rfl he (λhij=>hj (hij▸hi)) r hq' hm
end own
end Mu
namespace Mu
theorem Zg{N:Prog}{l:List Oper}{Q:Fr->Hp->Prop}{fr:Fr}{h:Hp}{d:Option Nat}{x:Opd}(v:V)(hx:fr.ev x=v)(hk:WO N l Q (fr.put d v) h):WO N (⟨d,.mv x,none⟩::l) Q fr h:=Ze (ZnZ hx) hk
theorem ZfL{N:Prog}{l:List (Nat×Oper)}{Q:Fr->Hp->Prop}{fr:Fr}{h:Hp}{d:Option Nat}{x:Opd}{base j:Nat}(v:V)(hx:fr.ev x=v)(hk:WDQ N base l Q (fr.put d v) h):WDQ N base ((j,⟨d,.mv x,none⟩)::l) Q fr h:=ZdJ rfl (ZnZ hx) hk
theorem Za6{N:Prog}{l:List (Nat×Oper)}{Q:Fr->Hp->List (Nat×Tr)->Prop}{fr:Fr}{h:Hp}{d:Option Nat}{x:Opd}{base j:Nat}(v:V)(hx:fr.ev x=v)(hk:WD N base l (λfr' h' ts=>Q fr' h' ((j,.op (Op.mv x).looks true (ZaZ fr.ev (.mv x)) (base+j))::ts)) (fr.put d v) h):WD N base ((j,⟨d,.mv x,none⟩)::l) Q fr h:=Z7 (ZnZ hx) hk
theorem Z4{N:Prog}{Q:Ex->Fr->Hp->Prop}{fr:Fr}{h:Hp}{ops:List Oper}{b:Code}(hk:WO N ops (Ex.then (W N b Q) Q .normal) fr h):W N (.seq (.region ops) b) Q fr h:=zw (Za5 hk)
theorem Zp{N:Prog}{Q:Ex->Fr->Hp->Prop}{fr:Fr}{h:Hp}{b:Code}(hk:W N b Q fr h):WO N [] (Ex.then (W N b Q) Q .normal) fr h:=Z8 (ZC hk)
theorem Zb8{N:Prog}{Q:Ex->Fr->Hp->Prop}{fr:Fr}{h:Hp}{b:Code}(hk:W N b Q fr h):W N .skip (Ex.then (W N b Q) Q) fr h:=Zey (ZC hk)
theorem Zid{rd:Nat->Option Obj}{nr:Nat}{e:Opd->V}{c x z:Opd}{t y:Bool}(hc:e c=.b t)(ht:t=true)(ha:e x=.b y):act rd nr e (.pick c x z)=some (.b (t&&y),[]):=by subst ht;exact Zc7 hc rfl ha
theorem Zic{rd:Nat->Option Obj}{nr:Nat}{e:Opd->V}{c x z:Opd}{t y:Bool}{w:Bool}(hc:e c=.b t)(ht:t=false)(hb:e z=.b false)(hw:w=(t&&y):=by rfl):act rd nr e (.pick c x z)=some (.b w,[]):=by subst hw;subst ht;exact Zci hc rfl hb
theorem ZfO{rd:Nat->Option Obj}{nr:Nat}{e:Opd->V}{c x z:Opd}{t y:Bool}(hc:e c=.b t)(ht:t=false)(ha:e z=.b y):act rd nr e (.pick c x z)=some (.b (t||y),[]):=by subst ht;exact Zci hc rfl ha
theorem ZfN{rd:Nat->Option Obj}{nr:Nat}{e:Opd->V}{c x z:Opd}{t y:Bool}{w:Bool}(hc:e c=.b t)(ht:t=true)(hb:e x=.b true)(hw:w=(t||y):=by rfl):act rd nr e (.pick c x z)=some (.b w,[]):=by subst hw;subst ht;exact Zc7 hc rfl hb
end Mu
