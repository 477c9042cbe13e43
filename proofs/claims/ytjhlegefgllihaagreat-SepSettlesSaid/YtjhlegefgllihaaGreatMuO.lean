/- A function's own objects, and what is done with them: one rule for each operation. -/
import Derived.Test.YtjhlegefgllihaaGreatMuL
set_option linter.unusedSimpArgs false
set_option linter.unusedVariables false
namespace Mu
open Go (IntKind BinOp UnOp)

structure Ent where
 rs:List Nat
 P:Hp->Prop
 loc:∀{k k':Hp},P k->(∀r∈rs,k'.m r=k.m r)->P k'
 lt:∀{k:Hp},P k->∀r∈rs,k.m r≠none

def Zcu:Ent:=⟨[],λ_=>True,λ_ _=>trivial,λ_ r hr=>by simp at hr⟩
def Z3(r:Nat)(cs:List V):Ent:=⟨[r],λk=>k.m r=some (.cells true cs),λhp hr=>(hr r (by simp)).trans hp,λhp q hq=>by simp at hq;subst hq;rw[hp];simp⟩
theorem SlN.loc{α:Type}{E:Enc α}{b:Nat}{k k':Hp}{v:V}{l:List α}(hs:SlN E b k v l)(hr:∀r∈Za0 v,k'.m r=k.m r):SlN E b k' v l:=by
 cases hs with
 |nil=>exact .nil
 |sl hb hm hl hc hn he=>exact .sl hb ((hr _ (by simp[Za0])).trans hm) hl hc hn he
theorem SlN.lt{α:Type}{E:Enc α}{b:Nat}{k:Hp}{v:V}{l:List α}(hs:SlN E b k v l):∀r∈Za0 v,k.m r≠none:=by
 cases hs with
 |nil=>simp[Za0]
 |sl hb hm hl hc hn he=>intro q hq;simp[Za0]at hq;subst hq;rw[hm];simp
def eSl{α:Type}(E:Enc α)(v:V)(l:List α):Ent:=⟨Za0 v,λk=>SlN E 0 k v l,λhp hr=>hp.loc hr,λhp=>hp.lt⟩
def Zx{α:Type}(E:Enc α)(vs:List V)(ll:List (List α)):Ent where
 rs:=vs.flatMap Za0
 P:=λk=>vs.length=ll.length/\(∀i,i<vs.length->SlN E 0 k (gi vs i) (gi ll i))/\vs.Pairwise (λa b=>∀r∈Za0 a,r∉Za0 b)
 loc:=λhp hr=>⟨hp.1,λi hi=>(hp.2.1 i hi).loc λr hq=>hr r (List.mem_flatMap.2 ⟨gi vs i,by simp[gi,hi],hq⟩),hp.2.2⟩
 lt:=λhp r hr=>by
  obtain⟨v,hv,hq⟩:=List.mem_flatMap.1 hr;obtain⟨i,hi,rfl⟩:=List.getElem_of_mem hv;have:=hp.2.1 i hi;rw[zO hi]at this;exact this.lt r hq

def ent:List Ent->Nat->Ent
 |[],_=>Zcu
 |e::_,0=>e
 |_::l,i+1=>ent l i
def upd:List Ent->Nat->Ent->List Ent
 |[],_,_=>[]
 |_::l,0,e'=>e'::l
 |e::l,i+1,e'=>e::upd l i e'

def Ex'(B:Nat->Prop)(h k:Hp):Prop:=h.n<=k.n/\∀r,B r->k.m r=h.m r
def Rd{α:Type}(B:Nat->Prop)(h:Hp)(E:Enc α)(v:V)(l:List α):Prop:=∀k,Ex' B h k->Sl E k v l
def RdB(B:Nat->Prop)(h:Hp)(r:Nat)(cs:List V):Prop:=∀k,Ex' B h k->∃w,k.m r=some (.cells w cs)

structure Own(B:Nat->Prop)(h k:Hp)(Ω:List Ent):Prop where
 n:h.n<=k.n
 base:∀r,B r->k.m r=h.m r
 lo:∀r,B r->r<h.n
 P:∀e∈Ω,e.P k
 off:∀e∈Ω,∀r∈e.rs,¬B r
 sep:Ω.Pairwise (λa b=>∀r∈a.rs,r∉b.rs)

variable {B:Nat->Prop}{h k:Hp}{Ω:List Ent}

theorem Own.ext(H:Own B h k Ω):Ex' B h k:=⟨H.n,H.base⟩
theorem Own.start(B:Nat->Prop)(hB:∀r,B r->r<h.n):Own B h h []:=⟨Nat.le_refl _,λ_ _=>rfl,hB,by simp,by simp,.nil⟩
theorem Own.start0(h:Hp):Own (λr=>r<h.n) h h []:=Own.start _ λ_ hr=>hr
theorem ZcZ:∀{Ω:List Ent}{i:Nat}{e:Ent},ent Ω i=e->e=Zcu\/e∈Ω
 |[],_,_,h=>.inl h.symm
 |e::l,0,_,h=>by simp only[ent]at h;subst h;simp
 |e::l,i+1,_,h=>by
  rcases ZcZ (Ω:=l) (i:=i) h with h|h
  .exact .inl h
  .exact .inr (by simp[h])
theorem Own.at(H:Own B h k Ω)(i:Nat){e:Ent}(hi:ent Ω i=e):e.P k:=by
 rcases ZcZ hi with rfl|hm
 .trivial
 .exact H.P _ hm
theorem Own.offAt(H:Own B h k Ω)(i:Nat){e:Ent}(hi:ent Ω i=e):∀r∈e.rs,¬B r:=by
 rcases ZcZ hi with rfl|hm
 .simp[Zcu]
 .exact H.off _ hm
theorem Own.ltAt(H:Own B h k Ω)(i:Nat){e:Ent}(hi:ent Ω i=e):∀r∈e.rs,r<k.n:=by
 intro r hr;refine Nat.lt_of_not_le λhle=>?_;exact e.lt (H.at i hi) r hr (k.wf r hle)
theorem Own.sl(H:Own B h k Ω)(i:Nat){α:Type}{E:Enc α}{v:V}{l:List α}(hi:ent Ω i=eSl E v l):Sl E k v l:=SlN.to (b:=0) (H.at i hi)
theorem Own.slN(H:Own B h k Ω)(i:Nat){α:Type}{E:Enc α}{v:V}{l:List α}(hi:ent Ω i=eSl E v l):SlN E 0 k v l:=H.at i hi
theorem Own.box(H:Own B h k Ω)(i:Nat){r:Nat}{cs:List V}(hi:ent Ω i=Z3 r cs):k.m r=some (.cells true cs):=H.at i hi
theorem Own.inn(H:Own B h k Ω)(i:Nat){α:Type}{E:Enc α}{vs:List V}{ll:List (List α)}(hi:ent Ω i=Zx E vs ll){j:Nat}(hj:j<ll.length):Sl E k (gi vs j) (gi ll j):=by
 obtain⟨h1,h2,_⟩:=H.at i hi;exact(h2 j (by omega)).to
theorem Own.allLen(H:Own B h k Ω)(i:Nat){α:Type}{E:Enc α}{vs:List V}{ll:List (List α)}(hi:ent Ω i=Zx E vs ll):vs.length=ll.length:=(H.at i hi).1

theorem Zjl{R:Ent->Ent->Prop}(hs:∀a b,R a b->R b a)(hN:∀a,R Zcu a):∀{Ω:List Ent}{i:Nat}{e e':Ent},ent Ω i=e->Ω.Pairwise R->(∀x∈Ω,R e x->R e' x)->(upd Ω i e').Pairwise R
 |[],_,_,_,_,_,_=>.nil
 |a::l,0,e,e',hi,hp,hr=>by
  simp only[ent]at hi;subst hi;rw[List.pairwise_cons]at hp;simp only[upd];rw[List.pairwise_cons];exact⟨λx hx=>hr x (by simp[hx]) (hp.1 x hx),hp.2⟩
 | a::l,i+1,e,e',hi,hp,hr=>by
  rw [List.pairwise_cons]at hp;simp only[upd];rw[List.pairwise_cons];refine⟨?_,Zjl hs hN (i:=i) hi hp.2 λx hx=>hr x (by simp[hx])⟩;intro x hx;have hmem:∀{Ω:List Ent}{i:Nat},x∈upd Ω i e'->x∈Ω\/x=e':=by
   intro Ω
   induction Ω with
   |nil=>intro i hx;simp[upd]at hx
   | cons b m ih=>
    intro i hx
    cases i with
    |zero=>simp only[upd,List.mem_cons]at hx;rcases hx with rfl|hx<;>simp_all
    |succ i=>
     simp only[upd,List.mem_cons]at hx;rcases hx with rfl|hx
     .simp
     .rcases ih hx with h|h<;>simp_all
  rcases hmem hx with hx|rfl
  .exact hp.1 x hx
  .refine hs _ _ (hr a (by simp) ?_);rcases ZcZ (Ω:=l) (i:=i) hi with rfl|hm
   .exact hN _
   .exact hs _ _ (hp.1 _ hm)
theorem Zhd{e' x:Ent}:∀{Ω:List Ent}{i:Nat},x∈upd Ω i e'->x∈Ω\/x=e'
 |[],i,hx=>by simp[upd]at hx
 |b::m,0,hx=>by simp only[upd,List.mem_cons]at hx;rcases hx with rfl|hx<;>simp_all
 |b::m,i+1,hx=>by
  simp only[upd,List.mem_cons]at hx;rcases hx with rfl|hx
  .simp
  .rcases Zhd hx with h|h<;>simp_all
theorem Zfg{e e' x:Ent}(R:Ent->Ent->Prop)(hs:∀a b,R a b->R b a)(hN:∀a,R Zcu a):∀{Ω:List Ent}{i:Nat},ent Ω i=e->Ω.Pairwise R->x∈upd Ω i e'->x=e'\/(x∈Ω/\R e x)
 |[],i,_,_,hx=>by simp[upd]at hx
 |b::m,0,hi,hp,hx=>by
  simp only[ent]at hi;subst hi;rw[List.pairwise_cons]at hp;simp only[upd,List.mem_cons]at hx;rcases hx with rfl|hx
  .simp
  .exact .inr ⟨by simp[hx],hp.1 x hx⟩
 | b::m,i+1,hi,hp,hx=>by
  rw[List.pairwise_cons]at hp;simp only[upd,List.mem_cons]at hx;rcases hx with rfl|hx
  .refine .inr ⟨by simp,?_⟩;rcases ZcZ (Ω:=m) (i:=i) hi with rfl|hm
   .exact hN _
   .exact hs _ _ (hp.1 _ hm)
  .rcases Zfg (Ω:=m) (i:=i) R hs hN hi hp.2 hx with h|h
   .exact .inl h
   .exact .inr ⟨by simp[h.1],h.2⟩

def apart(a b:Ent):Prop:=∀r∈a.rs,r∉b.rs
theorem ZaT(a b:Ent)(h:apart a b):apart b a:=λr hr hq=>h r hq hr
theorem ZaO(a:Ent):apart Zcu a:=λr hr=>by simp[Zcu]at hr

theorem Own.upd(H:Own B h k Ω)(i:Nat){e e':Ent}{k':Hp}{Ω':List Ent}(nw:List Nat)(hi:ent Ω i=e)(hΩ:Mu.upd Ω i e'=Ω')(hP:e'.P k')(hs:∀r,r∉e.rs->r∉nw->k'.m r=k.m r)(hw:∀r∈nw,k.m r=none/\h.n<=r)(hn:k.n<=k'.n)(hr:∀r∈e'.rs,r∈e.rs\/r∈nw):Own B h k' Ω':=by
 subst hΩ;have hBn:∀r,B r->r∉nw:=λr hb hm=>by have:=(hw r hm).2;have:=H.lo r hb;omega
 have hfr:∀x∈Ω,∀r∈x.rs,r∉nw:=λx hx r hr hm=>x.lt (H.P x hx) r hr (hw r hm).1;refine⟨Nat.le_trans H.n hn,λr hb=>?_,H.lo,λx hx=>?_,λx hx r hxr=>?_,?_⟩
 .rw[hs r (λhm=>H.offAt i hi r hm hb) (hBn r hb)];exact H.base r hb
 .rcases Zfg apart ZaT ZaO hi H.sep hx with rfl|⟨hm,ha⟩
  .exact hP
  .exact x.loc (H.P x hm) λr hr=>hs r (λhq=>ha r hq hr) (hfr x hm r hr)
 .rcases Zhd hx with hm|rfl
  .exact H.off x hm r hxr
  .rcases hr r hxr with h1|h1
   .exact H.offAt i hi r h1
   .exact λhb=>hBn r hb h1
 .refine Zjl ZaT ZaO hi H.sep λx hx ha r hq hxr=>?_;rcases hr r hq with h1|h1
  .exact ha r h1 hxr
  .exact hfr x hx r hxr h1

theorem Own.add(H:Own B h k Ω){e':Ent}{k':Hp}{Ω':List Ent}(nw:List Nat)(hΩ:Ω++[e']=Ω')(hP:e'.P k')(hs:∀r,r∉nw->k'.m r=k.m r)(hw:∀r∈nw,k.m r=none/\h.n<=r)(hn:k.n<=k'.n)(hr:∀r∈e'.rs,r∈nw):Own B h k' Ω':=by
 subst hΩ;have hBn:∀r,B r->r∉nw:=λr hb hm=>by have:=(hw r hm).2;have:=H.lo r hb;omega
 have hfr:∀x∈Ω,∀r∈x.rs,r∉nw:=λx hx r hr hm=>x.lt (H.P x hx) r hr (hw r hm).1;refine⟨Nat.le_trans H.n hn,λr hb=>?_,H.lo,λx hx=>?_,λx hx r hxr=>?_,?_⟩
 .rw[hs r (hBn r hb)];exact H.base r hb
 .simp only[List.mem_append,List.mem_singleton]at hx;rcases hx with hm|rfl
  .exact x.loc (H.P x hm) λr hr=>hs r (hfr x hm r hr)
  .exact hP
 .simp only[List.mem_append,List.mem_singleton]at hx;rcases hx with hm|rfl
  .exact H.off x hm r hxr
  .exact λhb=>hBn r hb (hr r hxr)
 .rw[List.pairwise_append];refine⟨H.sep,by simp,λx hx y hy r hr1 hr2=>?_⟩;simp only[List.mem_singleton]at hy;subst hy;exact hfr x hx r hr1 (hr r hr2)

theorem Own.pick(H:Own B h k Ω)(is:List Nat){Ω':List Ent}(hΩ:is.map (ent Ω)=Ω')(hn:is.Nodup):Own B h k Ω':=by
 subst hΩ;have hm:∀e∈is.map (ent Ω),e=Zcu\/e∈Ω:=by
  intro e he;obtain⟨i,_,rfl⟩:=List.mem_map.1 he;exact ZcZ rfl
 refine⟨H.n,H.base,H.lo,λe he=>?_,λe he=>?_,?_⟩
 .rcases hm e he with rfl|h1
  .trivial
  .exact H.P e h1
 .rcases hm e he with rfl|h1
  .simp[Zcu]
  .exact H.off e h1
 .rw [List.pairwise_map];refine List.Pairwise.imp ?_ hn;intro i j hij;have key:∀{Ω:List Ent},Ω.Pairwise apart->∀{i j:Nat},i≠j->apart (ent Ω i) (ent Ω j):=by
   intro Ω
   induction Ω with
   |nil=>intro _ i j _;exact ZaO _
   | cons a l ih=>
    intro hp i j hij;rw[List.pairwise_cons]at hp
    cases i with
    | zero=>
     cases j with
     |zero=>exact absurd rfl hij
     |succ j=>
      simp only[ent];rcases ZcZ (Ω:=l) (i:=j) rfl with h1|h1
      .rw[h1];exact ZaT _ _ (ZaO _)
      .exact hp.1 _ h1
    | succ i=>
     cases j with
     |zero=>
      simp only[ent];rcases ZcZ (Ω:=l) (i:=i) rfl with h1|h1
      .rw[h1];exact ZaO _
      .exact ZaT _ _ (hp.1 _ h1)
     |succ j=>exact ih hp.2 (λh=>hij (by rw[h]))
  exact key H.sep hij
theorem Own.apartAt(H:Own B h k Ω){i j:Nat}{a b:Ent}(hi:ent Ω i=a)(hj:ent Ω j=b)(hij:i≠j):∀r∈a.rs,r∉b.rs:=by
 have:=(H.pick [i,j] (Ω':=[a,b]) (by simp[hi,hj]) (by simp[hij])).sep;rw[List.pairwise_cons]at this;exact this.1 b (by simp)
theorem Own.pk(H:Own B h k Ω)(is:List Nat){Ω':List Ent}(hΩ:is.map (ent Ω)=Ω':=by exact rfl)(hn:is.Nodup:=by decide):Own B h k Ω':=H.pick is hΩ hn

theorem Own.call(H:Own B h k Ω){k':Hp}{Ω1 Ω':List Ent}(H1:Own (λr=>r<k.n) k k' Ω1)(hΩ:Ω++Ω1=Ω'):Own B h k' Ω':=by
 subst hΩ;have hold:∀x∈Ω,∀r∈x.rs,r<k.n:=by
  intro x hx r hr;refine Nat.lt_of_not_le λhle=>?_;exact x.lt (H.P x hx) r hr (k.wf r hle)
 have hBk:∀r,B r->r<k.n:=λr hb=>Nat.lt_of_lt_of_le (H.lo r hb) H.n;refine⟨Nat.le_trans H.n H1.n,λr hb=>(H1.base r (hBk r hb)).trans (H.base r hb),H.lo,λx hx=>?_,λx hx r hxr=>?_,?_⟩
 .rcases List.mem_append.1 hx with hm|hm
  .exact x.loc (H.P x hm) λr hr=>H1.base r (hold x hm r hr)
  .exact H1.P x hm
 .rcases List.mem_append.1 hx with hm|hm
  .exact H.off x hm r hxr
  .exact λhb=>H1.off x hm r hxr (hBk r hb)
 .rw[List.pairwise_append];exact⟨H.sep,H1.sep,λx hx y hy r hr1 hr2=>H1.off y hy r hr2 (hold x hx r hr1)⟩

theorem Own.callM(H:Own B h k Ω)(is js:List Nat){k':Hp}{Ωi Ωj Ω1 Ω':List Ent}(hi:is.map (ent Ω)=Ωi)(hj:js.map (ent Ω)=Ωj)(hn:(is++js).Nodup)
  (H1:Own (λr=>r<k.n/\∀e∈Ωi,r∉e.rs) k k' Ω1)(hΩ:Ωj++Ω1=Ω'):Own B h k' Ω':=by
 subst hΩ;have Hp:=H.pick (is++js) (Ω':=Ωi++Ωj) (by simp[hi,hj]) hn;have hold:∀x∈Ωi++Ωj,∀r∈x.rs,r<k.n:=by
  intro x hx r hr;refine Nat.lt_of_not_le λhle=>?_;exact x.lt (Hp.P x hx) r hr (k.wf r hle)
 have hsep:=Hp.sep;rw[List.pairwise_append]at hsep;have hkeep:∀x∈Ωj,∀r∈x.rs,r<k.n/\∀e∈Ωi,r∉e.rs:=λx hx r hr=>⟨hold x (by simp[hx]) r hr,λe he hq=>hsep.2.2 e he x hx r hq hr⟩;have hBk:∀r,B r->r<k.n/\∀e∈Ωi,r∉e.rs:=λr hb=>⟨Nat.lt_of_lt_of_le (H.lo r hb) H.n,λe he hr=>Hp.off e (by simp[he]) r hr hb⟩;refine⟨Nat.le_trans H.n H1.n,λr hb=>(H1.base r (hBk r hb)).trans (H.base r hb),H.lo,λx hx=>?_,λx hx r hxr=>?_,?_⟩
 .rcases List.mem_append.1 hx with hm|hm
  .exact x.loc (Hp.P x (by simp[hm])) λr hr=>H1.base r (hkeep x hm r hr)
  .exact H1.P x hm
 .rcases List.mem_append.1 hx with hm|hm
  .exact Hp.off x (by simp[hm]) r hxr
  .exact λhb=>H1.off x hm r hxr (hBk r hb)
 .rw[List.pairwise_append];exact⟨hsep.2.1,H1.sep,λx hx y hy r hr1 hr2=>H1.off y hy r hr2 (hkeep x hx r hr1)⟩

theorem Own.bump(H:Own B h k Ω)(n:Nat):Own B h (k.bump n) Ω:=⟨by simp only[Hp.bump_n];have:=H.n;omega,H.base,H.lo,λe he=>e.loc (H.P e he) λ_ _=>rfl,H.off,H.sep⟩

theorem Own.join(H:Own B h k Ω)(i j:Nat){a b e':Ent}{Ω':List Ent}(hi:ent Ω i=a)(hj:ent Ω j=b)(hij:i≠j)(hΩ:Mu.upd (Mu.upd Ω i e') j Zcu=Ω')(hP:a.P k->b.P k->apart a b->e'.P k)(hr:∀r∈e'.rs,r∈a.rs\/r∈b.rs):Own B h k Ω':=by
 subst hΩ;have ha:=H.apartAt hi hj hij;have hab:∀x∈Mu.upd (Mu.upd Ω i e') j Zcu,x=Zcu\/x=e'\/(x∈Ω/\apart a x/\apart b x):=by
  intro x hx;have hj':ent (Mu.upd Ω i e') j=b:=by
   have:∀{Ω:List Ent}{i j:Nat},i≠j->ent (Mu.upd Ω i e') j=ent Ω j:=by
    intro Ω
    induction Ω with
    |nil=>intro i j _;rfl
    | cons c l ih=>
     intro i j hij
     cases i with
     |zero=>cases j with
      |zero=>exact absurd rfl hij
      |succ j=>rfl
     |succ i=>cases j with
      |zero=>rfl
      |succ j=>exact ih (λh=>hij (by rw[h]))
   rw[this hij,hj]
  -- positions
  have key:∀{Ω:List Ent}{i j:Nat},i≠j->ent Ω i=a->ent Ω j=b->Ω.Pairwise apart->x∈Mu.upd (Mu.upd Ω i e') j Zcu->x=Zcu\/x=e'\/(x∈Ω/\apart a x/\apart b x):=by
   intro Ω
   induction Ω with
   |nil=>intro i j _ _ _ _ hx;simp[Mu.upd]at hx
   | cons c l ih=>
    intro i j hij h1 h2 hp hx;rw[List.pairwise_cons]at hp
    cases i with
    | zero=>cases j with
     |zero=>exact absurd rfl hij
     | succ j=>
      simp only[Mu.upd,List.mem_cons,ent]at hx h1 h2;subst h1;rcases hx with rfl|hx
      .exact .inr (.inl rfl)
      .rcases Zfg apart ZaT ZaO h2 hp.2 hx with h3|h3
       .exact .inl h3
       .exact .inr (.inr ⟨by simp[h3.1],hp.1 x h3.1,h3.2⟩)
    | succ i=>cases j with
     | zero=>
      simp only[Mu.upd,List.mem_cons,ent]at hx h1 h2;subst h2;rcases hx with rfl|hx
      .exact .inl rfl
      .rcases Zfg apart ZaT ZaO h1 hp.2 hx with h3|h3
       .exact .inr (.inl h3)
       .exact .inr (.inr ⟨by simp[h3.1],h3.2,hp.1 x h3.1⟩)
     | succ j=>
      simp only[Mu.upd,List.mem_cons,ent]at hx h1 h2;rcases hx with rfl|hx
      .refine .inr (.inr ⟨by simp,?_,?_⟩)
       .rcases ZcZ h1 with h3|h3
        .rw[h3];exact ZaO _
        .exact ZaT _ _ (hp.1 _ h3)
       .rcases ZcZ h2 with h3|h3
        .rw[h3];exact ZaO _
        .exact ZaT _ _ (hp.1 _ h3)
      .rcases ih (λh=>hij (by rw[h])) h1 h2 hp.2 hx with h3|h3|h3
       .exact .inl h3
       .exact .inr (.inl h3)
       .exact .inr (.inr ⟨by simp[h3.1],h3.2⟩)
  exact key hij hi hj H.sep hx
 refine⟨H.n,H.base,H.lo,λx hx=>?_,λx hx r hxr=>?_,?_⟩
 .rcases hab x hx with rfl|rfl|h1
  .trivial
  .exact hP (H.at i hi) (H.at j hj) ha
  .exact H.P x h1.1
 .rcases hab x hx with rfl|rfl|h1
  .simp[Zcu]at hxr
  .rcases hr r hxr with h1|h1
   .exact H.offAt i hi r h1
   .exact H.offAt j hj r h1
  .exact H.off x h1.1 r hxr
 .have key:∀{Ω:List Ent}{i j:Nat},i≠j->ent Ω i=a->ent Ω j=b->Ω.Pairwise apart->(Mu.upd (Mu.upd Ω i e') j Zcu).Pairwise apart:=by
   have one:∀x,apart a x->apart b x->apart e' x:=λx h1 h2 r hq hx=>by
    rcases hr r hq with h3|h3
    .exact h1 r h3 hx
    .exact h2 r h3 hx
   intro Ω
   induction Ω with
   |nil=>intro i j _ _ _ _;exact .nil
   | cons c l ih=>
    intro i j hij h1 h2 hp;rw[List.pairwise_cons]at hp
    cases i with
    | zero=>cases j with
     |zero=>exact absurd rfl hij
     |succ j=>
      simp only[Mu.upd,ent]at h1 h2⊢;subst h1;rw[List.pairwise_cons];refine⟨λx hx=>?_,Zjl ZaT ZaO h2 hp.2 λx _ _=>ZaO x⟩;rcases Zfg apart ZaT ZaO h2 hp.2 hx with rfl|h3
      .exact ZaT _ _ (ZaO _)
      .exact one x (hp.1 x h3.1) h3.2
    | succ i=>cases j with
     |zero=>
      simp only[Mu.upd,ent]at h1 h2⊢;subst h2;rw[List.pairwise_cons];refine⟨λx _=>ZaO x,?_⟩;have:∀x∈l,apart c x:=hp.1;exact Zjl ZaT ZaO h1 hp.2 λx hx h3=>one x h3 (this x hx)
     | succ j=>
      simp only[Mu.upd,ent]at h1 h2⊢;rw[List.pairwise_cons];refine⟨λx hx=>?_,ih (λh=>hij (by rw[h])) h1 h2 hp.2⟩;rcases Zhd hx with hx|rfl
      .rcases Zhd hx with hx|rfl
       .exact hp.1 x hx
       .refine ZaT _ _ (one c ?_ ?_)
        .rcases ZcZ h1 with h3|h3
         .rw[h3];exact ZaO _
         .exact ZaT _ _ (hp.1 _ h3)
        .rcases ZcZ h2 with h3|h3
         .rw[h3];exact ZaO _
         .exact ZaT _ _ (hp.1 _ h3)
      .exact ZaT _ _ (ZaO _)
  exact key hij hi hj H.sep
end Mu
