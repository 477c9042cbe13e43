/- Slices in the heap, and what is done with them. -/
import Derived.Test.YtjhlegefgllihaaGreatMuX
set_option linter.unusedSimpArgs false
namespace Mu
open Go (IntKind BinOp UnOp)

structure Enc(α:Type) where
 sz:Nat
 c:α->List V
 hc:∀x,(c x).length=sz

abbrev Zm:Enc Int:=⟨1,λx=>[.n x],λ_=>rfl⟩
abbrev eV:Enc V:=⟨1,λx=>[x],λ_=>rfl⟩

def Ext(n:Nat)(h h':Hp):Prop:=h.n<=h'.n/\∀r,r<n->h'.m r=h.m r
theorem Ext.refl{n:Nat}{h:Hp}:Ext n h h:=⟨Nat.le_refl _,λ_ _=>rfl⟩
theorem Ext.trans{n n':Nat}{h h' h'':Hp}(a:Ext n h h')(b:Ext n' h' h'')(hn:n<=n'):Ext n h h'' :=
 ⟨Nat.le_trans a.1 b.1,λr hr=>(b.2 r (by omega)).trans (a.2 r hr)⟩
theorem Ext.low{n n':Nat}{h h':Hp}(a:Ext n h h')(hn:n'<=n):Ext n' h h':=⟨a.1,λr hr=>a.2 r (by omega)⟩
theorem Ext.put{n r:Nat}{h:Hp}{o:Obj}(hr:n<=r):Ext n h (h.put r o) :=
 ⟨by simp only[Hp.put_n];omega,λq hq=>by
  have:q≠r:=by omega
  simp[this]⟩
theorem Ext.bump{n k:Nat}{h:Hp}:Ext n h (h.bump k):=⟨Nat.le_add_right _ _,λ_ _=>rfl⟩
@[simp] theorem Hp.put_new{h:Hp}{o:Obj}:(h.put h.n o).n=h.n+1:=by simp only[Hp.put_n];omega
theorem Hp.fresh{h:Hp}:h.m h.n=none:=h.wf _ (Nat.le_refl _)
theorem Hp.lt{h:Hp}{r:Nat}{o:Obj}(hm:h.m r=some o):r<h.n:=by
 refine Nat.lt_of_not_le λhle=>?_;rw[h.wf r hle]at hm;cases hm

section sl
variable {α:Type}(E:Enc α)

inductive Sl(h:Hp):V->List α->Prop
 |nil:Sl h .sn []
 |emp {r o c:Nat}{ex:Bool}:Sl h (.sl E.sz r o 0 c ex) []
 |sl {r o n c:Nat}{ex w:Bool}{cs:List V}{l:List α}(hm:h.m r=some (.cells w cs)) (hl:l.length=n) (hc:n<=c) (hn:o+n*E.sz<=cs.length) (he:piece cs o (n*E.sz)=(l.map E.c).flatten):Sl h (.sl E.sz r o n c ex) l

inductive SlN(b:Nat)(h:Hp):V->List α->Prop
 |nil:SlN b h .sn []
 |sl {r o n c:Nat}{ex:Bool}{cs:List V}{l:List α}(hb:b<=r) (hm:h.m r=some (.cells true cs)) (hl:l.length=n) (hc:n<=c) (hn:o+n*E.sz<=cs.length) (he:piece cs o (n*E.sz)=(l.map E.c).flatten):SlN b h (.sl E.sz r o n c ex) l

end sl
variable {α:Type}{E:Enc α}

theorem SlN.to{b:Nat}{h:Hp}{v:V}{l:List α}(hs:SlN E b h v l):Sl E h v l:=by
 cases hs with
 |nil=>exact .nil
 |sl hb hm hl hc hn he=>exact .sl hm hl hc hn he
theorem Sl.cells{h:Hp}{v:V}{l:List α}(hs:Sl E h v l):v.cells=[v]:=by
 cases hs<;>rfl
theorem SlN.low{b b':Nat}{h:Hp}{v:V}{l:List α}(hs:SlN E b h v l)(hb':b'<=b):SlN E b' h v l:=by
 cases hs with
 |nil=>exact .nil
 |sl hb hm hl hc hn he=>exact .sl (by omega) hm hl hc hn he
theorem Sl.ext{h h':Hp}{v:V}{l:List α}(hs:Sl E h v l)(he:Ext h.n h h'):Sl E h' v l:=by
 cases hs with
 |nil=>exact .nil
 |emp=>exact .emp
 |sl hm hl hc hn h1=>exact .sl ((he.2 _ (Hp.lt hm)).trans hm) hl hc hn h1
theorem SlN.ext{b:Nat}{h h':Hp}{v:V}{l:List α}(hs:SlN E b h v l)(he:Ext h.n h h'):SlN E b h' v l:=by
 cases hs with
 |nil=>exact .nil
 |sl hb hm hl hc hn h1=>exact .sl hb ((he.2 _ (Hp.lt hm)).trans hm) hl hc hn h1
theorem SlN.keep{b n:Nat}{h h':Hp}{v:V}{l:List α}(hs:SlN E b h v l)(he:Ext n h h')(hn:h.n<=n):SlN E b h' v l:=by
 cases hs with
 |nil=>exact .nil
 |sl hb hm hl hc hn' h1=>exact .sl hb ((he.2 _ (Nat.lt_of_lt_of_le (Hp.lt hm) hn)).trans hm) hl hc hn' h1
theorem Sl.put{h:Hp}{v:V}{l:List α}(hs:Sl E h v l){o:Obj}:Sl E (h.put h.n o) v l:=hs.ext (Ext.put (Nat.le_refl _))
theorem SlN.put{b:Nat}{h:Hp}{v:V}{l:List α}(hs:SlN E b h v l){o:Obj}:SlN E b (h.put h.n o) v l:=hs.ext (Ext.put (Nat.le_refl _))

theorem zN(l:List α):((l.map E.c).flatten).length=l.length*E.sz:=by
 induction l with
 |nil=>simp
 |cons x l ih=>simp[ih,E.hc,Nat.add_mul];omega
theorem ZiP(l:List α)(j i:Nat)(hi:i<E.sz)(hj:j<l.length):((l.map E.c).flatten)[j*E.sz+i]?=(E.c l[j])[i]?:=by
 induction l generalizing j with
 |nil=>simp at hj
 | cons x l ih=>
  simp only[List.map_cons,List.flatten_cons]
  cases j with
  |zero=>simp[List.getElem?_append,E.hc,hi]
  |succ j=>
   rw[List.getElem?_append_right (by rw[E.hc,Nat.add_mul];omega)];rw[E.hc,show(j+1)*E.sz+i-E.sz=j*E.sz+i by rw[Nat.add_mul];omega];simpa using ih j (by simpa using hj)
theorem ZdV(l:List α)(j:Nat):((l.map E.c).flatten).drop (j*E.sz)=((l.drop j).map E.c).flatten:=by
 induction l generalizing j with
 |nil=>simp
 | cons x l ih=>
  cases j with
  |zero=>simp
  |succ j=>
   simp only[List.map_cons,List.flatten_cons,List.drop_succ_cons];rw[List.drop_append,show(j+1)*E.sz-(E.c x).length=j*E.sz by rw[E.hc,Nat.add_mul];omega,ih];rw[List.drop_of_length_le (by rw[E.hc,Nat.add_mul];omega)];rfl
theorem Zdj(l:List α)(j:Nat):((l.map E.c).flatten).take (j*E.sz)=((l.take j).map E.c).flatten:=by
 induction l generalizing j with
 |nil=>simp
 | cons x l ih=>
  cases j with
  |zero=>simp
  |succ j=>
   simp only[List.map_cons,List.flatten_cons,List.take_succ_cons];rw[List.take_append,show(j+1)*E.sz-(E.c x).length=j*E.sz by rw[E.hc,Nat.add_mul];omega,ih];rw[List.take_of_length_le (by rw[E.hc,Nat.add_mul];omega)]

def gi[Inhabited α](l:List α)(j:Nat):α:=l.getD j default
theorem zO[Inhabited α]{l:List α}{j:Nat}(hj:j<l.length):gi l j=l[j]:=by simp[gi,hj]
theorem Zov[Inhabited α]{l:List α}{j:Nat}(hj:j<l.length):l.drop j=gi l j::l.drop (j+1):=by
 rw[List.drop_eq_getElem_cons hj,zO hj]

def V.elt(v:V)(j off:Nat):V:=match v with|.sl sz r o _ _ _=>.p r (o+j*sz+off)|_=>.pn

theorem Sl.len{h:Hp}{v:V}{l:List α}(hs:Sl E h v l):Zk6 v=some (.n l.length):=by
 cases hs with
 |nil=>rfl
 |emp=>rfl
 |sl hm hl hc hn he=>simp[Zk6,V.len,hl]

theorem Sl.at{h:Hp}{v:V}{l:List α}(hs:Sl E h v l){k:IntKind}{z:Int}(h0:0<=z)(h1:z<l.length):Zo6 E.sz v (.i k z)=some (v.elt z.toNat 0):=by
 cases hs with
 |nil=>simp at h1;omega
 |emp=>simp at h1;omega
 |sl hm hl hc hn he=>
  simp only[Zo6,idx,if_true];rw[if_pos (by omega)];simp[V.elt]

def faV(off:Nat)(x:V):Option V:=match x with|.p r o=>some (.p r (o+off))|_=>none
theorem Zm4{rd:Nat->Option Obj}{nr:Nat}{e:Opd->V}{off:Nat}{x:Opd}:act rd nr e (.fa off x)=opt (faV off (e x)):=by
 simp only[act,faV,opt];cases e x<;>rfl
theorem Sl.fa{h:Hp}{v:V}{l:List α}(hs:Sl E h v l){j off off':Nat}(h1:j<l.length):faV off (v.elt j off')=some (v.elt j (off'+off)):=by
 cases hs with
 |nil=>simp at h1
 |emp=>simp at h1
 |sl hm hl hc hn he=>simp[faV,V.elt,Nat.add_assoc]

theorem ZhD{cs:List V}{o n i:Nat}(hi:i<n):(piece cs o n)[i]?=cs[o+i]?:=by
 simp[piece,List.getElem?_take,hi]
theorem Zdm{cs:List V}{o n o' n':Nat}(hi:o'+n'<=n):piece (piece cs o n) o' n'=piece cs (o+o') n':=by
 simp only[piece,List.drop_take,List.drop_drop,List.take_take];rw[Nat.min_eq_left (by omega)]

theorem Sl.ld[Inhabited α]{h:Hp}{v:V}{l:List α}(hs:Sl E h v l){j off:Nat}(h1:j<l.length)(h2:off<E.sz):ldV h.m false 1 (v.elt j off)=(E.c (gi l j))[off]?:=by
 cases hs with
 |nil=>simp at h1
 |emp=>simp at h1
 | sl hm hl hc hn he=>
  subst hl;have h3:j*E.sz+off<l.length*E.sz:=by
   have:=Nat.mul_le_mul_right E.sz (show j+1<=l.length by omega);rw[Nat.add_mul]at this;omega
  have h4:=ZiP (E:=E) l j off h2 h1;rw[<-he,ZhD h3]at h4;rw[zO h1];simp only[ldV,V.elt,hm,ZbG];rw[if_pos (by omega),Nat.add_assoc,<-h4];simp
theorem Sl.ldA[Inhabited α]{h:Hp}{v:V}{l:List α}(hs:Sl E h v l){j:Nat}(h1:j<l.length):ldV h.m true E.sz (v.elt j 0)=some (.ag (E.c (gi l j))):=by
 cases hs with
 |nil=>simp at h1
 |emp=>simp at h1
 | @sl r o n c ex w cs _ hm hl hc hn he=>
  subst hl;have h3:j*E.sz+E.sz<=l.length*E.sz:=by
   have:=Nat.mul_le_mul_right E.sz (show j+1<=l.length by omega);rw[Nat.add_mul]at this;omega
  rw[zO h1];simp only[ldV,V.elt,hm,ZbG];rw[if_pos (by omega),Nat.add_zero,if_pos trivial,<-Zdm (cs:=cs) (o:=o) (n:=l.length*E.sz) h3,he,piece,ZdV];have:=Zdj (E:=E) (l.drop j) 1;rw[Nat.one_mul]at this;rw[this,List.drop_eq_getElem_cons h1];simp only[List.take_succ_cons,List.take_zero,List.map_cons,List.map_nil,List.flatten_cons,List.flatten_nil,List.append_nil]

/-! Appending. -/
def Zfb(rd:Nat->Option Obj)(nr:Nat)(sz bytes:Nat)(x y:V):Option (V×List (Nat×Obj)):=act rd nr (λo=>match o with|.t 0=>x|_=>y) (.app sz bytes (.t 0) (.t 1))
theorem Zlf{rd:Nat->Option Obj}{nr:Nat}{e:Opd->V}{sz bytes:Nat}{x y:Opd}:act rd nr e (.app sz bytes x y)=Zfb rd nr sz bytes (e x) (e y):=rfl

theorem ZnQ{nr b:Nat}{h:Hp}{x y:V}{l m:List α}{bytes:Nat}{K:V->List (Nat×Obj)->Prop}(hx:SlN E b h x l)(hnr:h.m nr=none)(hy:Sl E h y m)(hb:b<=nr)(h1:∀a,(E.c a).all V.one=true)(hl:(l.length+m.length)*bytes<=140737488355328) 
  (hk:∀v up,SlN E b (h.puts up) v (l++m)->Ext b h (h.puts up)->(∀q,q≠nr->h.m q=none->(h.puts up).m q=none)->K v up):WA (Zfb h.m nr E.sz bytes x y) K:=by
 have hall:∀(m:List α),((m.map E.c).flatten).all V.one=true:=by
  intro m;simp only[List.all_eq_true,List.mem_flatten,List.mem_map];rintro x ⟨_,⟨a,_,rfl⟩,hx⟩;have:=h1 a;rw[List.all_eq_true]at this;exact this x hx
 cases hx with
 | nil=>
  cases hy with
  |nil=>exact hk _ _ .nil .refl (λ_ _ hq=>hq)
  |emp=>
   simp only[Zfb,act,Zcb,if_true];exact hk _ _ .nil .refl (λ_ _ hq=>hq)
  | @sl r' o' n' c' ex' w' cs' _ hm' hl' hc' hn' he'=>
   simp only[Zfb,act,Zcb,if_true];by_cases h0:n'=0
   .subst h0;rw[if_pos rfl];have:m=[]:=List.length_eq_zero_iff.mp hl';subst this;exact hk _ _ .nil .refl (λ_ _ hq=>hq)
   .rw[if_neg h0];subst hl';simp only[hm',Zcb];rw[if_pos ⟨hn',by simpa using hl⟩];refine hk _ _ ?_ ?_ (λq hq hq'=>by simp[hq,hq'])
    .rw[he'];exact .sl hb (by simp;rfl) (by simp) (Nat.le_refl _) (by rw[zN];simp) (by
      rw[piece,List.drop_zero,List.take_of_length_le (by rw[zN];simp)];simp)
    .exact Ext.put hb
 | @sl r o n c ex cs _ hrb hm hln hc hn he=>
  cases hy with
  |nil=>
   simp only[Zfb,act,Zcb,if_true];have:=hk (.sl E.sz r o n c ex) [] (by simpa using SlN.sl hrb hm hln hc hn he) .refl (λ_ _ hq=>hq);exact this
  |emp=>
   simp only[Zfb,act,Zcb,if_true];exact hk (.sl E.sz r o n c ex) [] (by simpa using SlN.sl hrb hm hln hc hn he) .refl (λ_ _ hq=>hq)
  | @sl r' o' n' c' ex' w' cs' _ hm' hl' hc' hn' he'=>
   simp only[Zfb,act,Zcb,if_true];by_cases h0:n'=0
   .subst h0;rw[if_pos rfl];have:m=[]:=List.length_eq_zero_iff.mp hl';subst this;exact hk (.sl E.sz r o n c ex) [] (by simpa using SlN.sl hrb hm hln hc hn he) .refl (λ_ _ hq=>hq)
   .rw [if_neg h0];subst hln hl';by_cases hg:l.length=0/\ex=true/\c<m.length
    .rw[if_pos hg];simp only[hm',Zcb];rw[if_pos ⟨hn',by rw[hg.1,Nat.zero_add]at hl;exact hl⟩];have hz:l=[]:=List.length_eq_zero_iff.mp hg.1;subst hz;refine hk _ _ ?_ (Ext.put hb) (λq hq hq'=>by simp[hq,hq']);rw[he'];exact .sl hb (by simp;rfl) (by simp) (Nat.le_refl _) (by rw[zN];simp) (by
      rw[piece,List.drop_zero,List.take_of_length_le (by rw[zN];simp)];simp)
    rw[if_neg hg];simp only[hm,hm',Zcb];rw[if_pos ⟨hn,hn',hl⟩];have hlen:(piece cs o (l.length*E.sz)++piece cs' o' (m.length*E.sz))=((l++m).map E.c).flatten:=by
     rw[he,he'];simp
    have hnew:∀h':Hp,h'.m nr=some (.cells true (((l++m).map E.c).flatten))->SlN E b h' (.sl E.sz nr 0 (l.length+m.length) (l.length+m.length) false) (l++m):=by
     intro h' hh;exact .sl hb hh (by simp) (Nat.le_refl _) (by rw[zN];simp) (by
      rw[piece,List.drop_zero,List.take_of_length_le (by rw[zN];simp)])
    rw[hlen];split
    .refine hk _ _ (hnew _ (by simp)) ?_ (λq hq hq'=>by simp[hq,hq']);exact Ext.put hb
    .rw[if_pos ⟨trivial,by rw[he'];exact hall m⟩];have hrn:nr≠r:=by
      rintro rfl;rw[hnr]at hm;cases hm
     refine hk _ _ (hnew _ ?_) ?_ (λq hq hq'=>by
      have:q≠r:=by
       rintro rfl;rw[hq']at hm;cases hm
      simp[hq,hq',this])
     .simp[hrn]
     .exact(Ext.put hb).trans (Ext.put (n:=b) hrb) (Nat.le_refl _)

/-! A slice of these. -/
theorem Sl.new{h:Hp}{l:List α}{n:Nat}(hn:l.length=n):Sl E (h.put h.n (Obj.cells true ((l.map E.c).flatten))) (.sl E.sz h.n 0 n n true) l:=by
 refine .sl (w:=true) (cs:=(l.map E.c).flatten) (by simp) hn (Nat.le_refl _) (by rw[zN,hn];omega) ?_;rw[piece,List.drop_zero,List.take_of_length_le (by rw[zN,hn];omega)]
theorem Sl.one{h:Hp}{r:Nat}{z:Int}:Sl Zm (h.put r (Obj.cells true [.n z])) (.sl 1 r 0 1 1 true) [z]:=by
 refine .sl (w:=true) (cs:=[.n z]) (by simp) rfl (Nat.le_refl _) (by simp) rfl
theorem SlN.new{b:Nat}{h:Hp}{l:List α}{n:Nat}(hb:b<=h.n)(hn:l.length=n):SlN E b (h.put h.n (Obj.cells true ((l.map E.c).flatten))) (.sl E.sz h.n 0 n n true) l:=by
 refine .sl (cs:=(l.map E.c).flatten) hb (by simp) hn (Nat.le_refl _) (by rw[zN,hn];omega) ?_;rw[piece,List.drop_zero,List.take_of_length_le (by rw[zN,hn];omega)]

theorem ZjF{e:Opd->V}{o sz:Nat}{x:Opd}{l:List (Nat×Nat×Opd)}:evs e ((o,sz,x)::l)=(o,sz,e x)::evs e l:=rfl
theorem Zu1{x:V}:eV.c x=[x]:=rfl

/-! A slice's part. -/
def bnd(x:Option V)(d n:Nat):Option Nat:=match x with|none=>some d|some (.i _ x)=>if 0<=x/\x<=(n:Int)then some x.toNat else none|_=>none
def Zkj(sz:Nat)(x:V)(lo hi:Option V):Option V:=match x with
  | .sn=>(match bnd hi 0 0 with
    |some h=>match bnd lo 0 h with|some _=>some .sn|none=>none
    |none=>none)
  | .sl es r o n c ex=>if es=sz then(match bnd hi n c with
    |some h=>match bnd lo 0 h with
     |some l=>some (.sl es r (if c=l/\ex=true then o else o+l*sz) (h-l) (c-l) ex)
     |none=>none
    |none=>none)else none
  |_=>none
theorem ZmD{e:Opd->V}{x:Option Opd}{d n:Nat}:ZcM e x d n=bnd (x.map e) d n:=by
 cases x with
 |none=>rfl
 |some x=>
  simp only[ZcM,bnd,Option.map_some];cases e x<;>rfl
theorem ZiC{rd:Nat->Option Obj}{nr:Nat}{e:Opd->V}{sz:Nat}{x:Opd}{lo hi:Option Opd}:act rd nr e (.slc sz x lo hi none)=opt (Zkj sz (e x) (lo.map e) (hi.map e)):=by
 simp only[act,Zkj,opt,ZmD,Option.map_none];cases e x<;>try rfl
 .rename_i es r o n c ex;dsimp only;by_cases hes:es=sz
  .rw[if_pos hes,if_pos hes,show bnd none c c=some c from rfl];simp only
   cases hh:bnd (hi.map e) n c with
   |none=>simp only
   |some h=>
    simp only;cases bnd (lo.map e) 0 h<;>simp
  .rw[if_neg hes,if_neg hes]
 .dsimp only;rw[show bnd none 0 0=some 0 from rfl]
  cases hh:bnd (hi.map e) 0 0 with
  |none=>simp only[hh]
  |some h=>
   simp only[hh];cases bnd (lo.map e) 0 h<;>simp
def V.cut(v:V)(lo hi:Nat):V:=match v with
 |.sl es r o _ c ex=>.sl es r (if c=lo/\ex=true then o else o+lo*es) (hi-lo) (c-lo) ex
 |v=>v
theorem Zkx{α:Type}{E:Enc α}{h:Hp}{v:V}{l:List α}(hs:Sl E h v l){lo hi:Option V}{a b:Nat}(ha:bnd lo 0 b=some a)(hb:∀n,l.length<=n->bnd hi l.length n=some b):Zkj E.sz v lo hi=some (v.cut a b):=by
 cases hs with
 |nil=>
  simp only[Zkj];have:=hb 0 (Nat.le_refl _);simp only[List.length_nil]at this;simp only[this,ha];rfl
 |@emp r o c ex=>
  have:=hb c (Nat.zero_le _);simp only[List.length_nil]at this;simp only[Zkj,if_true,this,ha,V.cut]
 |sl hm hl hc hn he=>
  have:=hb _ (by rw[hl];exact hc);rw[hl]at this;simp only[Zkj,if_true,this,ha,V.cut]
theorem Zih{α:Type}{E:Enc α}{l:List α}{a b:Nat}:piece ((l.map E.c).flatten) (a*E.sz) ((b-a)*E.sz)=(((l.drop a).take (b-a)).map E.c).flatten:=by
 rw[piece,ZdV,Zdj]
theorem Sl.cut{α:Type}{E:Enc α}{h:Hp}{v:V}{l:List α}(hs:Sl E h v l){a b:Nat}(hab:a<=b)(hb:b<=l.length):Sl E h (v.cut a b) ((l.drop a).take (b-a)):=by
 cases hs with
 |nil=>simp only[V.cut,List.drop_nil,List.take_nil];exact .nil
 |emp=>
  have:b-a=0:=by simp at hb;omega
  simp only[V.cut,List.drop_nil,List.take_nil,this];exact .emp
 | @sl r o n c ex w cs _ hm hl hc hn he=>
  subst hl;have h3:a*E.sz+(b-a)*E.sz<=l.length*E.sz:=by
   rw[<-Nat.add_mul];exact Nat.mul_le_mul_right _ (by omega)
  simp only[V.cut];split
  .rename_i hca;have h0:b-a=0:=by omega
   have hx:(l.drop a).take (b-a)=[]:=by simp[h0]
   rw[hx,h0];exact .sl hm rfl (by omega) (by omega) (by simp[piece])
  .refine .sl hm (by simp;omega) (by omega) (by omega) ?_;rw[<-Zdm (cs:=cs) (o:=o) h3,he,Zih]
theorem SlN.cut{α:Type}{E:Enc α}{k:Nat}{h:Hp}{v:V}{l:List α}(hs:SlN E k h v l){a b:Nat}(hab:a<=b)(hb:b<=l.length):SlN E k h (v.cut a b) ((l.drop a).take (b-a)):=by
 cases hs with
 |nil=>simp only[V.cut,List.drop_nil,List.take_nil];exact .nil
 | @sl r o n c ex cs _ hr hm hl hc hn he=>
  subst hl;have h3:a*E.sz+(b-a)*E.sz<=l.length*E.sz:=by
   rw[<-Nat.add_mul];exact Nat.mul_le_mul_right _ (by omega)
  simp only[V.cut];split
  .rename_i hca;have h0:b-a=0:=by omega
   have hx:(l.drop a).take (b-a)=[]:=by simp[h0]
   rw[hx,h0];exact .sl hr hm rfl (by omega) (by omega) (by simp[piece])
  .refine .sl hr hm (by simp;omega) (by omega) (by omega) ?_;rw[<-Zdm (cs:=cs) (o:=o) h3,he,Zih]
theorem Sl.from{α:Type}{E:Enc α}{h:Hp}{v:V}{l:List α}(hs:Sl E h v l){k:IntKind}{z:Int}(h0:0<=z)(h1:z<=l.length):Zkj E.sz v (some (.i k z)) none=some (v.cut z.toNat l.length):=by
 refine Zkx hs ?_ (λn _=>rfl);simp only[bnd];rw[if_pos ⟨h0,h1⟩]
theorem Sl.upto{α:Type}{E:Enc α}{h:Hp}{v:V}{l:List α}(hs:Sl E h v l){k:IntKind}{z:Int}(h0:0<=z)(h1:z<=l.length):Zkj E.sz v none (some (.i k z))=some (v.cut 0 z.toNat):=by
 refine Zkx hs rfl (λn hn=>?_);simp only[bnd];rw[if_pos ⟨h0,by omega⟩]
/-! Least and greatest. -/
def mnV(x y:V):Option V:=match x,y with|.i k a,.i k' b=>if k=k' then some (.i k (min a b))else none|_,_=>none
def mxV(x y:V):Option V:=match x,y with|.i k a,.i k' b=>if k=k' then some (.i k (max a b))else none|_,_=>none
@[simp] theorem Zte{k:IntKind}{a b:Int}:mnV (.i k a) (.i k b)=some (.i k (min a b)):=by simp[mnV]
@[simp] theorem mxV_i{k:IntKind}{a b:Int}:mxV (.i k a) (.i k b)=some (.i k (max a b)):=by simp[mxV]
theorem Zqk{rd:Nat->Option Obj}{nr:Nat}{e:Opd->V}{x y:Opd}:act rd nr e (.mn [x,y])=opt (mnV (e x) (e y)):=by
 simp only[act,V.ints,mnV,opt];cases e x<;>cases e y<;>try rfl
 rename_i k a k' b;by_cases hk:k=k'
 .subst hk;simp only[if_true,List.foldl];congr 3;split<;>omega
 .simp only[if_neg hk]
theorem Zql{rd:Nat->Option Obj}{nr:Nat}{e:Opd->V}{x y:Opd}:act rd nr e (.mx [x,y])=opt (mxV (e x) (e y)):=by
 simp only[act,V.ints,mxV,opt];cases e x<;>cases e y<;>try rfl
 rename_i k a k' b;by_cases hk:k=k'
 .subst hk;simp only[if_true,List.foldl];congr 3;split<;>omega
 .simp only[if_neg hk]

/-! Boxes. -/
@[simp] theorem ZsG{off r o:Nat}:faV off (.p r o)=some (.p r (o+off)):=rfl
/-! Regions in which all do but look. -/
def Tr.quiet:Tr->Bool
 |.no=>true
 |.op l z _ _=>l&&z
 |.call _=>false
theorem ZhF:∀{ts:List (Nat×Tr)},(∀p∈ts,p.2.quiet=true)->∀i,(Zf2 ts i).quiet=true
 |[],_,i=>rfl
 |(j,t)::ts,h,i=>by
  rw[Zi3];split
  .exact h (j,t) (by simp)
  .exact ZhF (λp hp=>h p (by simp[hp])) i
theorem ZgH{t t':Tr}(h:t.quiet=true)(h':t'.quiet=true):t.apart t':=by
 cases t<;>cases t'<;>simp_all[Tr.quiet,Tr.apart]
theorem Zma{ts:List (Nat×Tr)}{prs:List (Nat×Nat)}(h:∀p∈ts,p.2.quiet=true):∀q∈prs,(Zf2 ts q.1).apart (Zf2 ts q.2):=λq _=>ZgH (ZhF h q.1) (ZhF h q.2)
/-! Structs of two whole numbers. -/
/-! Turning an element. -/
def stA(rd:Nat->Option Obj)(sz:Nat)(a x:V):Option (V×List (Nat×Obj)):=match a with
  |.p r o=>match rd r with
   |some (.cells true cs)=>if x.cells.length=sz/\o+sz<=cs.length/\x.cells.all V.one then some (.un,[(r,.cells true (over cs o x.cells))])else none
   |_=>none
  |_=>none
theorem Zm7{rd:Nat->Option Obj}{nr:Nat}{e:Opd->V}{sz:Nat}{a x:Opd}:act rd nr e (.st sz a x)=stA rd sz (e a) (e x):=by
 simp only[act,stA];rfl
theorem ZmS{α:Type}{E:Enc α}{l:List α}{j:Nat}{x:α}(hj:j<l.length):over ((l.map E.c).flatten) (j*E.sz) (E.c x)=((l.set j x).map E.c).flatten:=by
 unfold over;rw[Zdj,E.hc,show j*E.sz+E.sz=(j+1)*E.sz by rw[Nat.add_mul,Nat.one_mul],ZdV];have:l.set j x=l.take j++x::l.drop (j+1):=by
  rw[List.set_eq_take_append_cons_drop,if_pos hj]
 rw[this];simp
theorem ZfD{cs vs:List V}{o n p:Nat}(hn:o+n<=cs.length)(hp:p+vs.length<=n):piece (over cs (o+p) vs) o n=over (piece cs o n) p vs:=by
 refine List.ext_getElem? λi=>?_;unfold piece over;simp only[List.getElem?_take,List.getElem?_drop,List.getElem?_append,List.length_take,List.length_append,List.length_drop];have h1:min (o+p) cs.length=o+p:=by omega
 have h2:min p (min n (cs.length-o))=p:=by omega
 simp only[h1,h2];by_cases hin:i<n
 .simp only[hin,if_true];by_cases hip:i<p
  .rw[if_pos (show o+i<o+p+vs.length by omega),if_pos (show o+i<o+p by omega),if_pos (show o+i<o+p by omega),if_pos (show i<p+vs.length by omega),if_pos hip,if_pos hip]
  .by_cases hiv:i<p+vs.length
   .rw[if_pos (show o+i<o+p+vs.length by omega),if_neg (show¬o+i<o+p by omega),if_pos hiv,if_neg hip,show o+i-(o+p)=i-p by omega]
   .rw[if_neg (show¬o+i<o+p+vs.length by omega),if_neg hiv,show o+p+vs.length+(o+i-(o+p+vs.length))=o+i by omega,show p+vs.length+(i-(p+vs.length))=i by omega,if_pos hin]
 .simp only[hin,if_false];by_cases hiv:i<p+vs.length
  .omega
  .rw[if_neg hiv,show p+vs.length+(i-(p+vs.length))=i by omega,if_neg hin]
/-! A new row of zeros. -/
def Ztd(nr sz bytes:Nat)(zero:List V)(l c:V):Option (V×List (Nat×Obj)):=match l,c with
  | .i _ l,.i _ c=>if 0<=l/\l<=c/\(bytes:Int)*c<=140737488355328 then
    some (.sl sz nr 0 l.toNat c.toNat true,[(nr,.cells true (List.replicate c.toNat zero).flatten)])else none
  |_,_=>none
theorem Zod{rd:Nat->Option Obj}{nr:Nat}{e:Opd->V}{sz bytes:Nat}{zero:List V}{l c:Opd}:act rd nr e (.mks sz bytes zero l c)=Ztd nr sz bytes zero (e l) (e c):=rfl
def WDQ(N:Prog)(base:Nat)(l:List (Nat×Oper))(Q:Fr->Hp->Prop)(fr:Fr)(h:Hp):Prop:=WD N base l (λfr' h' ts=>(∀p∈ts,p.2.quiet=true)/\Q fr' h') fr h
@[congr] theorem ZrQ{N:Prog}{base:Nat}{c c':List (Nat×Oper)}{Q:Fr->Hp->Prop}{fr:Fr}{h h':Hp}(hc:c=c')(hh:Zhy h=h'):WDQ N base c Q fr h=WDQ N base c' Q fr h':=by rw[hc,<-hh];rfl
theorem ZnX{N:Prog}{Q:Ex->Fr->Hp->Prop}{fr:Fr}{h:Hp}{ops:List Oper}{prs:List (Nat×Nat)}(hq:WDQ N h.n (ZjU 0 ops) (Q .normal) fr (h.bump ops.length)):W N (.draw ops prs) Q fr h:=by
 rw[Zi9];obtain⟨k,fr',h',ts,he,a,b⟩:=hq;exact⟨k,fr',h',ts,he,Zma a,b⟩
theorem ZnT{N:Prog}{base:Nat}{Q:Fr->Hp->Prop}{fr:Fr}{h:Hp}:WDQ N base [] Q fr h↔Q fr h:=by
 unfold WDQ;rw[Zmp];simp
def Zj0(N:Prog)(base j:Nat)(d:Option Nat)(op:Op)(l:List (Nat×Oper))(Q:Fr->Hp->Prop)(fr:Fr)(h:Hp):Prop :=
 WA (act h.m (base+j) fr.ev op) λv up=>WB (.b (op.looks&&up.isEmpty)) (WDQ N base l Q (fr.put d v) h) False
@[congr] theorem ZpV{N:Prog}{base j:Nat}{d:Option Nat}{o:Op}{l:List (Nat×Oper)}{Q:Fr->Hp->Prop}{fr:Fr}{h h':Hp}(hh:Zhy h=h'):Zj0 N base j d o l Q fr h=Zj0 N base j d o l Q fr h':=by rw[<-hh];rfl
theorem ZlF{N:Prog}{base j:Nat}{Q:Fr->Hp->Prop}{fr:Fr}{h:Hp}{d:Option Nat}{op:Op}{l:List (Nat×Oper)}(hop:∀f args,op≠.call f args) :
  WDQ N base ((j,⟨d,op,none⟩)::l) Q fr h↔Zj0 N base j d op l Q fr h:=by
 unfold WDQ;rw[Zkp hop];unfold Zj0
 cases ha:act h.m (base+j) fr.ev op with
 |none=>simp
 | some r=>
  obtain⟨v,up⟩:=r;simp only[ZkW,ZrX,Zcb];by_cases hc:(op.looks&&up.isEmpty)=true
  .rw[if_pos hc];have hup:up=[]:=by simp at hc;exact hc.2
   subst hup;unfold WDQ;constructor
   .rintro⟨k,fr',h',ts,he,a,b⟩;exact⟨k,fr',h',ts,he,λp hp=>a p (by simp[hp]),b⟩
   .rintro⟨k,fr',h',ts,he,a,b⟩;refine⟨k,fr',h',ts,he,?_,b⟩;intro p hp;simp only[List.mem_cons]at hp;rcases hp with rfl|hp
    .simpa[Tr.quiet]using hc
    .exact a p hp
  .rw[if_neg hc];simp only[iff_false];rintro⟨k,fr',h',ts,he,a,b⟩;have:=a (j,.op op.looks up.isEmpty (ZaZ fr.ev op) (base+j)) (by simp);exact hc (by simpa[Tr.quiet]using this)
theorem Zhi{N:Prog}{base j:Nat}{Q:Fr->Hp->Prop}{fr:Fr}{h:Hp}{d:Option Nat}{op:Op}{l:List (Nat×Oper)} :
  WDQ N base ((j,⟨d,op,none⟩)::l) Q fr h↔Zj0 N base j d op l Q fr h:=by
 cases op
 case call f args=>
  unfold WDQ Zj0;simp only[act,Zcb,ZnS,iff_false];rintro⟨k,fr',h',ts,he,a,b⟩;simp only[zB]at he;unfold Zav at he;simp only[Zb5,if_true]at he
  cases hf:fr.ev f with
  | f id caps=>
   simp only[hf]at he
   cases hc:Zbl N k (fid id) (ZdD id (args.map fr.ev) caps) h with
   |none=>simp[hc]at he
   |some r=>
    obtain⟨v,h1⟩:=r;simp only[hc]at he;split at he
    .simp only[Option.some.injEq,Prod.mk.injEq]at he;obtain⟨_,_,rfl⟩:=he;have:=a _ (List.mem_cons_self);simp[Tr.quiet]at this
    .cases he
  |_=>simp[hf]at he
 all_goals exact ZlF (by intro f args hh;cases hh)
theorem Zj1{N:Prog}{fr:Fr}{h:Hp}{base i:Nat}{Q:Fr->Hp->Prop}{d:Option Nat}{op:Op}{j:Nat}{w:Bool}{l:List (Nat×Oper)} :
  WDQ N base ((i,⟨d,op,some (j,w)⟩)::l) Q fr h↔if Zb5 (some (j,w)) fr=true then Zj0 N base i d op l Q fr h else WDQ N base l Q (fr.put d .un) h:=by
 rw[<-Zhi];unfold WDQ;rw[ZkY];split
 .rw[<-ZkX]
 .constructor
  .rintro⟨k,fr',h',ts,he,a,b⟩;exact⟨k,fr',h',ts,he,λp hp=>a p (by simp[hp]),b⟩
  .rintro⟨k,fr',h',ts,he,a,b⟩;refine⟨k,fr',h',ts,he,?_,b⟩;intro p hp;simp only[List.mem_cons]at hp;rcases hp with rfl|hp
   .rfl
   .exact a p hp
end Mu
