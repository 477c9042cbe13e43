/- One rule for each operation. -/
import Derived.Test.YtjhlegefgllihaaMuO
set_option linter.unusedSimpArgs false
set_option linter.unusedVariables false
namespace Mu
open Go (IntKind BinOp UnOp)
variable {rd:Nat→Option Obj}{nr:Nat}{e:Opd→V}

/-! Values alone. -/
theorem Zo6 {x:Opd}{v:V}(hx:e x=v):act rd nr e (.mv x)=some (v,[]):=by rw [← hx];rfl
theorem ZaH {c a b:Opd}{t:Bool}{v:V}(hc:e c=.b t) (ht:t=true) (ha:e a=v):act rd nr e (.pick c a b)=some (v,[]):=by simp [act,hc,ht,ha]
theorem ZaC {c a b:Opd}{t:Bool}{v:V}(hc:e c=.b t) (ht:t=false) (hb:e b=v):act rd nr e (.pick c a b)=some (v,[]):=by simp [act,hc,ht,hb]
abbrev Za6 (x:Int):Prop:=-9223372036854775808≤x∧x≤9223372036854775807
theorem zY {x y:Opd}{a b:Int}(hx:e x=.i .i64 a) (hy:e y=.i .i64 b) (h:Za6 (a+b)):act rd nr e (.bin .add x y)=some (.i .i64 (a+b),[]):=by
 rw [ZdJ,hx,hy,Znp h.1 h.2];rfl
theorem ZlS {x y:Opd}{a b:Int}(hx:e x=.i .i64 a) (hy:e y=.i .i64 b) (h:Za6 (a-b)):act rd nr e (.bin .sub x y)=some (.i .i64 (a-b),[]):=by
 rw [ZdJ,hx,hy,Znu h.1 h.2];rfl
theorem Zfw {k:IntKind}{x y:Opd}{a b:Int}(hx:e x=.i k a) (hy:e y=.i k b) (h:b≠0):act rd nr e (.bin .rem x y)=some (.i k (a.tmod b),[]):=by
 rw [ZdJ,hx,hy];simp [bin,ZeP,h]
theorem ZkE {x y:Opd}{a b:Int}(hx:e x=.i .i64 a) (hy:e y=.i .i64 b) (h:b≠0∧Za6 (a.tdiv b)):act rd nr e (.bin .quo x y)=some (.i .i64 (a.tdiv b),[]):=by
 rw [ZdJ,hx,hy];simp [bin,ZeP,h.1,ZhW h.2.1 h.2.2]
theorem Zeo {k:IntKind}{op:BinOp}{x y:Opd}{a b:Int}{v:V}(hx:e x=.i k a) (hy:e y=.i k b) (h1:op≠.shl∧op≠.shr) (hv:ZeP op k a b=some v):act rd nr e (.bin op x y)=some (v,[]):=by
 rw [ZdJ,hx,hy];simp [bin,h1,hv]
theorem ZeD {k k':IntKind}{op:BinOp}{x y:Opd}{a b:Int}{v:V}(hx:e x=.i k a) (hy:e y=.i k' b) (h1:op=.shl∨op=.shr) (hv:shift op k a b=some v):act rd nr e (.bin op x y)=some (v,[]):=by
 rw [ZdJ,hx,hy];simp [bin,h1,hv]
theorem Zal {k:IntKind}{x y:Opd}{a b:Int}(hx:e x=.i k a) (hy:e y=.i k b):act rd nr e (.bin .lss x y)=some (.b (decide (a<b)),[]):=by rw [ZdJ,hx,hy,Znt];rfl
theorem ZlP {k:IntKind}{x y:Opd}{a b:Int}(hx:e x=.i k a) (hy:e y=.i k b):act rd nr e (.bin .leq x y)=some (.b (decide (a≤b)),[]):=by rw [ZdJ,hx,hy,Zns];rfl
theorem Zfv {k:IntKind}{x y:Opd}{a b:Int}(hx:e x=.i k a) (hy:e y=.i k b):act rd nr e (.bin .gtr x y)=some (.b (decide (b<a)),[]):=by rw [ZdJ,hx,hy,Znr];rfl
theorem Zdc {k:IntKind}{x y:Opd}{a b:Int}(hx:e x=.i k a) (hy:e y=.i k b):act rd nr e (.bin .geq x y)=some (.b (decide (b≤a)),[]):=by rw [ZdJ,hx,hy,Znq];rfl
theorem Zcp {k:IntKind}{x y:Opd}{a b:Int}(hx:e x=.i k a) (hy:e y=.i k b):act rd nr e (.eq false .sc x y)=some (.b (decide (a=b)),[]):=by
 rw [Zge,hx,hy,Zmr];by_cases h:a=b<;>simp [h]
theorem ZcT {k:IntKind}{x y:Opd}{a b:Int}(hx:e x=.i k a) (hy:e y=.i k b):act rd nr e (.eq true .sc x y)=some (.b (!decide (a=b)),[]):=by
 rw [Zge,hx,hy,Zmr];by_cases h:a=b<;>simp [h]
theorem Zom {x y:Opd}{a b:Bool}(hx:e x=.b a) (hy:e y=.b b):act rd nr e (.eq true .bl x y)=some (.b (!decide (a=b)),[]):=by
 rw [Zge,hx,hy,ZoQ];cases a<;>cases b<;>rfl
theorem ZpP {ks:List FK}{x y:Opd}{as bs:List V}{t:Bool}(hx:e x=.ag as) (hy:e y=.ag bs) (h:Zax ks as bs=some t):act rd nr e (.eq false (.fl ks) x y)=some (.b t,[]):=by
 rw [Zge,hx,hy];simp [eqV,eqv,h]
theorem ZpQ {x y:Opd}{r o:Nat}(hx:e x=.p r o) (hy:e y=.pn):act rd nr e (.eq false .pt x y)=some (.b false,[]):=by rw [Zge,hx,hy];rfl
theorem ZpU {x y:Opd}{r o:Nat}(hx:e x=.p r o) (hy:e y=.pn):act rd nr e (.eq true .pt x y)=some (.b true,[]):=by rw [Zge,hx,hy];rfl
theorem ZcU {x:Opd}{t:Bool}(hx:e x=.b t):act rd nr e (.un .not x)=some (.b !t,[]):=by rw [ZlY,hx];rfl
theorem ZpV {x:Opd}{a:Int}(hx:e x=.i .i64 a) (h:Za6 (-a)):act rd nr e (.un .neg x)=some (.i .i64 (-a),[]):=by
 obtain ⟨h1,h2⟩:=h;rw [ZlY,hx,Zp5 (by omega) (by omega)];rfl
def inK (k:IntKind) (x:Int):Prop:=k.wrap x=x
instance {k:IntKind}{x:Int}:Decidable (inK k x):=by unfold inK;infer_instance
theorem Zqd {x:Int}(h1:-9223372036854775808≤x) (h2:x≤9223372036854775807):inK .i64 x:=ZhW h1 h2
theorem ZqL {x:Int}(h1:0≤x) (h2:x≤255):inK .u8 x:=by
 simp only [inK,IntKind.wrap,IntKind.bits,IntKind.signed];simp;omega
theorem ZgG {k k':IntKind}{x:Opd}{a:Int}(hx:e x=.i k a) (h:inK k' a):act rd nr e (.conv k' x)=some (.i k' a,[]):=by rw [ZlT,hx,Zn0,h];rfl
theorem Zbu {x:Opd}{j:Nat}{vs:List V}{v:V}(hx:e x=.tu vs) (hv:vs[j]?=some v):act rd nr e (.ext x j)=some (v,[]):=by simp [act,hx,hv]
theorem ZlO {id:Nat}{caps:List Opd}{vs:List V}(hv:caps.map e=vs):act rd nr e (.clo id caps)=some (.f id vs,[]):=by simp [act,hv]
theorem Zb2 {x:Opd}{r o:Nat}(hx:e x=.p r o):act rd nr e (.nilck x)=some (.p r o,[]):=by simp [act,hx]
theorem ZaS {zero cs:List V}{ps:List (Nat×Nat×Opd)}(h:fill zero (evs e ps)=some cs):act rd nr e (.build zero ps)=some (.ag cs,[]):=by simp [act,h]
theorem ZpS {off sz:Nat}{x:Opd}{cs:List V}{v:V}{agg:Bool}(hx:e x=.ag cs) (h:ZcK agg cs off sz=some v):act rd nr e (.fld agg off sz x)=some (v,[]):=by simp [act,hx,h]
theorem ZpT {agg:Bool}{sz n:Nat}{x i:Opd}{cs:List V}{k:IntKind}{z:Int}{v:V}(hx:e x=.ag cs) (hi:e i=.i k z) (h0:0≤z∧z<(n:Int)) (h:ZcK agg cs (z.toNat*sz) sz=some v):act rd nr e (.ix agg sz n x i)=some (v,[]):=by
 simp [act,hx,hi,idx,h0,h]

/-! Slices. -/
section sl
variable {α:Type}{E:Enc α}{k:Hp}{v:V}{l:List α}
theorem ZaM {x:Opd}(hs:Sl E k v l) (hx:e x=v):act rd nr e (.len x)=some (.i .i64 (l.length:Int),[]):=by rw [Znm,hx,hs.len];rfl
theorem zq {x i:Opd}{K:IntKind}{z:Int}(hs:Sl E k v l) (hx:e x=v) (hi:e i=.i K z) (h:0≤z∧z<(l.length:Int)):act rd nr e (.ixa E.sz x i)=some (v.elt z.toNat 0,[]):=by rw [Znl,hx,hi,hs.at h.1 h.2];rfl
theorem ZbF {x:Opd}{j off off' off2:Nat}(hs:Sl E k v l) (hj:j<l.length) (hx:e x=v.elt j off') (ho:off'+off=off2):act rd nr e (.fa off x)=some (v.elt j off2,[]):=by rw [ZlU,hx,hs.fa hj,ho];rfl
theorem Zcf {x i:Opd}{K:IntKind}{z:Int}{j off sz n off2:Nat}(hs:Sl E k v l) (hj:j<l.length) (hx:e x=v.elt j off) (hi:e i=.i K z) (h:0≤z∧z<(n:Int)) (ho:off+z.toNat*sz=off2):act rd nr e (.ixaa sz n x i)=some (v.elt j off2,[]):=by
 subst ho
 cases hs with
 | nil=>simp at hj
 | emp=>simp at hj
 | sl hm hl hc hn he=>simp [act,hx,hi,idx,h,V.elt,Nat.add_assoc]
theorem Sl.ldw [Inhabited α] (hs:Sl E k v l) {j off:Nat}(h1:j<l.length) {w:V}(ho:(E.c (gi l j))[off]?=some w):ldV k.m false 1 (v.elt j off)=some w:=by
 rw [hs.ld h1 (by
  have:=(List.getElem?_eq_some_iff.1 ho).1;rw [E.hc] at this;exact this),ho]
theorem Zah [Inhabited α] {x:Opd}{j off:Nat}{w:V}(hs:Sl E k v l) (hx:e x=v.elt j off) (hj:j<l.length) (ho:(E.c (gi l j))[off]?=some w):act k.m nr e (.ld false 1 x)=some (w,[]):=by rw [ZiB,hx,hs.ldw hj ho];rfl
theorem ZcD [Inhabited α] {x:Opd}{j:Nat}(hs:Sl E k v l) (hx:e x=v.elt j 0) (hj:j<l.length):act k.m nr e (.ld true E.sz x)=some (.ag (E.c (gi l j)),[]):=by rw [ZiB,hx,hs.ldA hj];rfl
theorem ZjT {x i:Opd}{K:IntKind}{z:Int}(hs:Sl E k v l) (hx:e x=v) (hi:e i=.i K z) (h:0≤z∧z≤(l.length:Int)):act rd nr e (.slc E.sz x (some i) none none)=some (v.cut z.toNat l.length,[]):=by
 rw [ZkG,Option.map_some,Option.map_none,hx,hi,hs.from h.1 h.2];rfl
theorem ZlQ {x i:Opd}{K:IntKind}{z:Int}(hs:Sl E k v l) (hx:e x=v) (hi:e i=.i K z) (h:0≤z∧z≤(l.length:Int)):act rd nr e (.slc E.sz x none (some i) none)=some (v.cut 0 z.toNat,[]):=by
 rw [ZkG,Option.map_some,Option.map_none,hx,hi,hs.upto h.1 h.2];rfl
theorem Sl.cutF (hs:Sl E k v l) {z:Int}(h:0≤z∧z≤(l.length:Int)):Sl E k (v.cut z.toNat l.length) (l.drop z.toNat):=by
 have:=hs.cut (a:=z.toNat) (b:=l.length) (by omega) (Nat.le_refl _);rwa [List.take_of_length_le (by simp)] at this
theorem Sl.cutU (hs:Sl E k v l) {z:Int}(h:0≤z∧z≤(l.length:Int)):Sl E k (v.cut 0 z.toNat) (l.take z.toNat):=by
 have:=hs.cut (a:=0) (b:=z.toNat) (by omega) (by omega);simpa using this
theorem ZmO {v:V}{a b:Nat}:Zbe (v.cut a b)=Zbe v:=by
 cases v<;>rfl
end sl

/-! Boxes. -/
theorem zp {off r o o':Nat}{x:Opd}(hx:e x=.p r o) (ho:o+off=o'):act rd nr e (.fa off x)=some (.p r o',[]):=by rw [ZlU,hx,ZpZ,ho];rfl
theorem Zdk {x i:Opd}{K:IntKind}{z:Int}{r o sz n o':Nat}(hx:e x=.p r o) (hi:e i=.i K z) (h:0≤z∧z<(n:Int)) (ho:o+z.toNat*sz=o'):act rd nr e (.ixaa sz n x i)=some (.p r o',[]):=by
 subst ho;simp [act,hx,hi,idx,h]
theorem ZZ {k:Hp}{w:Bool}{cs:List V}{x:Opd}{r o:Nat}{v:V}(hb:k.m r=some (.cells w cs)) (hx:e x=.p r o) (ho:cs[o]?=some v):act k.m nr e (.ld false 1 x)=some (v,[]):=by
 have:=(List.getElem?_eq_some_iff.1 ho).1;rw [ZiB,hx];simp only [ldV,hb,ZcK];rw [if_pos (by omega)];simp [ho]
theorem ZaU {k:Hp}{w:Bool}{cs ws:List V}{x:Opd}{r o sz:Nat}(hb:k.m r=some (.cells w cs)) (hx:e x=.p r o) (ho:ZcK true cs o sz=some (.ag ws)):act k.m nr e (.ld true sz x)=some (.ag ws,[]):=by
 rw [ZiB,hx];simp only [ldV,hb,ho];rfl

/-! What makes or turns something. -/
section own
variable {B:Nat→Prop}{h k:Hp}{Ω:List Ent}
theorem Own.fr (H:Own B h k Ω):k.m k.n=none∧h.n≤k.n:=⟨Hp.fresh,H.n⟩

def Zfz (k k':Hp) (nr:Nat):Prop:=k.n≤k'.n∧∀ q,q≠nr→k.m q=none→k'.m q=none
theorem Own.news (H:Own B h k Ω) {ent':Ent}{cs:List V}(hn:k.m nr=none∧h.n≤nr) (hP:ent'.P (k.put nr (.cells true cs))) (hr:∀ r∈ent'.rs,r=nr):Own B h (k.put nr (.cells true cs)) (Ω++[ent']):=by
 refine H.add [nr] rfl hP (fun r hr=>?_) (fun r hr=>?_) ?_ (fun r hq=>by simp [hr r hq])
 ·have:r≠nr:=by simpa using hr
  simp [this]
 ·have:r=nr:=by simpa using hr
  subst this;exact hn
 ·simp only [Hp.put_n];omega
theorem ZeT {o:Obj}:Zfz k (k.put nr o) nr:=⟨by simp only [Hp.put_n];omega,fun q hq hm=>by simp [hq,hm]⟩
theorem Own.alloc (H:Own B h k Ω) (hn:k.m nr=none∧h.n≤nr) {cs:List V}:∃ v k' up,act k.m nr e (.alloc cs)=some (v,up)∧k.puts up=k'∧∃ r,v=.p r 0∧r=nr∧Zfz k k' nr∧Own B h k' (Ω++[ZU r cs]) :=
 ⟨_,_,_,rfl,rfl,nr,rfl,rfl,ZeT,H.news hn (by simp [ZU]) (by simp [ZU])⟩
theorem Own.boxd (H:Own B h k Ω) (hn:k.m nr=none∧h.n≤nr) {cs:List V}{x:Opd}{v:V}(hx:e x=v) (hv:v.cells=cs):∃ v' k' up,act k.m nr e (.box x)=some (v',up)∧k.puts up=k'∧∃ r,v'=.p r 0∧r=nr∧Zfz k k' nr∧Own B h k' (Ω++[ZU r cs]):=by
 refine ⟨.p nr 0,_,[(nr,.cells true cs)],?_,rfl,nr,rfl,rfl,ZeT,H.news hn (by simp [ZU]) (by simp [ZU])⟩;rw [Znk,hx,hv]
theorem Own.bsl {α:Type}{E:Enc α}{l:List α}(H:Own B h k Ω) (hn:k.m nr=none∧h.n≤nr) {len:Nat}{zero:List V}{ps:List (Nat×Nat×Opd)}(hf:fill ((List.replicate len zero).flatten) (evs e ps)=some ((l.map E.c).flatten)) (hl:l.length=len) :
  ∃ v k' up,act k.m nr e (.bsl E.sz len zero ps)=some (v,up)∧k.puts up=k'∧Zbe v=[nr]∧Zfz k k' nr∧Own B h k' (Ω++[eSl E v l]):=by
 refine ⟨.sl E.sz nr 0 len len true,_,[(nr,.cells true ((l.map E.c).flatten))],?_,rfl,rfl,ZeT,H.news hn ?_ (by simp [eSl,Zbe])⟩
 ·simp only [act,hf]
 ·exact .sl (Nat.zero_le _) (by simp;rfl) hl (Nat.le_refl _) (by rw [Zae,hl];omega) (by rw [piece,List.drop_zero,List.take_of_length_le (by rw [Zae,hl];exact Nat.le_refl _)])
theorem Own.mks {α:Type}{E:Enc α}{y:α}(H:Own B h k Ω) (hn:k.m nr=none∧h.n≤nr) {bytes:Nat}{K K':IntKind}{z:Int}{zero:List V}{x x':Opd}(hx:e x=.i K z) (hx':e x'=.i K' z) (hz:E.c y=zero) (h0:0≤z∧z≤1000000000) (hb:bytes≤100000) :
  ∃ v k' up,act k.m nr e (.mks E.sz bytes zero x x')=some (v,up)∧k.puts up=k'∧Zbe v=[nr]∧Zfz k k' nr∧Own B h k' (Ω++[eSl E v (List.replicate z.toNat y)]):=by
 subst hz;have hf:(List.replicate z.toNat (E.c y)).flatten=((List.replicate z.toNat y).map E.c).flatten:=by rw [List.map_replicate]
 refine ⟨.sl E.sz nr 0 z.toNat z.toNat true,_,[(nr,.cells true (List.replicate z.toNat (E.c y)).flatten)],?_,rfl,rfl,ZeT,H.news hn ?_ (by simp [eSl,Zbe])⟩
 ·rw [Znn,hx,hx'];simp only [Zqt];rw [if_pos];refine ⟨h0.1,Int.le_refl _,?_⟩;have h1:(bytes:Int)*z≤100000*z:=Int.mul_le_mul_of_nonneg_right (by omega) h0.1;omega
 ·rw [hf];refine .sl (cs:=((List.replicate z.toNat y).map E.c).flatten) (Nat.zero_le _) (by simp) (by simp) (Nat.le_refl _) (by rw [Zae];simp) (by rw [piece,List.drop_zero,List.take_of_length_le (by rw [Zae];simp)])
theorem Own.stb (H:Own B h k Ω) (i:Nat) {r o sz:Nat}{cs ws cs':List V}{a x:Opd}{v:V}(hi:ent Ω i=ZU r cs) (ha:e a=.p r o) (hx:e x=v) (hv:v.cells=ws) (h1:ws.length=sz∧o+sz≤cs.length∧ws.all V.one=true) (ho:over cs o ws=cs') :
  ∃ u k' up,act k.m nr e (.st sz a x)=some (u,up)∧k.puts up=k'∧u=.un∧Zfz k k' nr∧k'.n=k.n∧Own B h k' (Mu.upd Ω i (ZU r cs')):=by
 have hb:=H.box i hi;have hlt:=Hp.lt hb;refine ⟨.un,_,[(r,.cells true cs')],?_,rfl,rfl,?_,?_,H.upd i [] hi rfl ?_ (fun q hq _=>?_) (by simp) ?_ (fun q hq=>.inl hq)⟩
 ·rw [ZlX,ha,hx];simp only [stA,hb,hv];rw [if_pos h1,ho]
 ·refine ⟨by simp only [Hp.puts_cons,Hp.puts_nil,Hp.put_n];omega,fun q hq hm=>?_⟩;have:q≠r:=by rintro rfl;rw [hm] at hb;cases hb
  simp [this,hm]
 ·simp only [Hp.puts_cons,Hp.puts_nil,Hp.put_n];omega
 ·simp [ZU]
 ·have:q≠r:=by simpa [ZU] using hq
  simp [this]
 ·simp only [Hp.puts_cons,Hp.puts_nil,Hp.put_n];omega
theorem Own.ste {α:Type} [Inhabited α] {E:Enc α}(H:Own B h k Ω) (i:Nat) {v:V}{l:List α}{y:α}{j off sz:Nat}{a x:Opd}{w:V}{ws:List V}(hi:ent Ω i=eSl E v l) (ha:e a=v.elt j off) (hj:j<l.length) (hx:e x=w) (hw:w.cells=ws) (h1:ws.length=sz∧off+sz≤E.sz∧ws.all V.one=true) (ho:over (E.c (gi l j)) off ws=E.c y) :
  ∃ u k' up,act k.m nr e (.st sz a x)=some (u,up)∧k.puts up=k'∧u=.un∧Zfz k k' nr∧k'.n=k.n∧Own B h k' (Mu.upd Ω i (eSl E v (l.set j y))):=by
 have hs:=H.slN i hi
 cases hs with
 | nil=>simp at hj
 | @sl r o n c ex cs _ hb hm hl hc hn he =>
  subst hl;have hlt:=Hp.lt hm;have h3:j*E.sz+E.sz≤l.length*E.sz:=by
   have:=Nat.mul_le_mul_right E.sz (show j+1≤l.length by omega);rw [Nat.add_mul] at this;omega
  have hgi:piece cs (o+j*E.sz) E.sz=E.c (gi l j):=by
   rw [Zaz hj,← Zec (cs:=cs) (o:=o) (n:=l.length*E.sz) h3,he,piece,Zez];have:=Zdw (E:=E) (l.drop j) 1;rw [Nat.one_mul] at this;rw [this,List.drop_eq_getElem_cons hj];simp only [List.take_succ_cons,List.take_zero,List.map_cons,List.map_nil,List.flatten_cons,List.flatten_nil,List.append_nil]
  have hsz:ws.length=sz:=h1.1;have hov:over cs (o+j*E.sz+off) ws=over cs (o+j*E.sz) (E.c y):=by
   rw [← ho,← hgi];have hlen:(over (piece cs (o+j*E.sz) E.sz) off ws).length=E.sz:=by
    rw [hgi,ho,E.hc]
   refine List.ext_getElem? fun q=>?_;have e1:(piece cs (o+j*E.sz) E.sz).length=E.sz:=by rw [hgi,E.hc]
   unfold over at hlen ⊢;rw [hlen];simp only [List.getElem?_append,List.length_append,List.length_take,List.getElem?_take,List.getElem?_drop,e1,List.length_drop];have m1:min (o+j*E.sz+off) cs.length=o+j*E.sz+off:=by omega
   have m2:min (o+j*E.sz) cs.length=o+j*E.sz:=by omega
   have m3:min off E.sz=off:=by omega
   rw [m1,m2,m3,hsz];have e2:off+sz+(E.sz-(off+sz))=E.sz:=by omega
   rw [e2];by_cases c1:q<o+j*E.sz
   ·have c2:q<o+j*E.sz+off:=by omega
    have c3:q<o+j*E.sz+off+sz:=by omega
    have c4:q<o+j*E.sz+E.sz:=by omega
    simp only [c1,c2,c3,c4,if_true]
   ·by_cases c2:q<o+j*E.sz+off
    ·have c3:q<o+j*E.sz+off+sz:=by omega
     have c4:q<o+j*E.sz+E.sz:=by omega
     have c5:q-(o+j*E.sz)<off:=by omega
     have c6:q-(o+j*E.sz)<off+sz:=by omega
     simp only [c1,c2,c3,c4,c5,c6,if_true,if_false];rw [ZhN (by omega),show o+j*E.sz+(q-(o+j*E.sz))=q by omega]
    ·by_cases c3:q<o+j*E.sz+off+sz
     ·have c4:q<o+j*E.sz+E.sz:=by omega
      have c5:¬q-(o+j*E.sz)<off:=by omega
      have c6:q-(o+j*E.sz)<off+sz:=by omega
      simp only [c1,c2,c3,c4,c5,c6,if_true,if_false];rw [show q-(o+j*E.sz+off)=q-(o+j*E.sz)-off by omega]
     ·by_cases c4:q<o+j*E.sz+E.sz
      ·have c6:¬q-(o+j*E.sz)<off+sz:=by omega
       simp only [c1,c2,c3,c4,c6,if_true,if_false];rw [ZhN (by omega),show o+j*E.sz+(off+sz+(q-(o+j*E.sz)-(off+sz)))=o+j*E.sz+off+sz+(q-(o+j*E.sz+off+sz)) by omega]
      ·simp only [c1,c2,c3,c4,if_true,if_false];rw [show o+j*E.sz+off+sz+(q-(o+j*E.sz+off+sz))=o+j*E.sz+E.sz+(q-(o+j*E.sz+E.sz)) by omega]
  refine ⟨.un,_,[(r,.cells true (over cs (o+j*E.sz) (E.c y)))],?_,rfl,rfl,?_,?_,H.upd i [] hi rfl ?_ (fun q hq _=>?_) (by simp) ?_ (fun q hq=>.inl (by simpa [eSl] using hq))⟩
  ·rw [ZlX,ha,hx];simp only [stA,V.elt,hm,hw];rw [if_pos ⟨h1.1,by omega,h1.2.2⟩,hov]
  ·refine ⟨by simp only [Hp.puts_cons,Hp.puts_nil,Hp.put_n];omega,fun q hq hm'=>?_⟩;have:q≠r:=by rintro rfl;rw [hm'] at hm;cases hm
   simp [this,hm']
  ·simp only [Hp.puts_cons,Hp.puts_nil,Hp.put_n];omega
  ·refine .sl (cs:=over cs (o+j*E.sz) (E.c y)) hb (by simp) (by simp) hc ?_ ?_
   ·unfold over;simp only [List.length_append,List.length_take,List.length_drop,E.hc];omega
   ·rw [Zgn hn (by rw [E.hc];exact h3),he,Zmu hj]
  ·have:q≠r:=by simpa [eSl,Zbe] using hq
   simp [this]
  ·simp only [Hp.puts_cons,Hp.puts_nil,Hp.put_n];omega
theorem ZlI {o:Option (V×List (Nat×Obj))}{K:V→List (Nat×Obj)→Prop}(h:WA o K):∃ v up,o=some (v,up)∧K v up:=by
 cases o with
 | none=>exact h.elim
 | some r=>exact ⟨_,_,rfl,h⟩
theorem Zjv {rd:Nat→Option Obj}{nr sz bytes:Nat}{x y v:V}{up:List (Nat×Obj)}(h:ZfC rd nr sz bytes x y=some (v,up)):(∀ q∈up,q.1=nr∨q.1∈Zbe x)∧(∀ r∈Zbe v,r=nr∨r∈Zbe x):=by
 unfold ZfC at h;simp only [act] at h;cases x<;>simp only [reduceCtorEq] at h<;>cases y<;>simp only [reduceCtorEq] at h<;>(repeat' split at h) <;>
  (first
   | (simp only [Option.some.injEq,Prod.mk.injEq,reduceCtorEq] at h;obtain ⟨rfl,rfl⟩:=h;simp_all [Zbe])
   | (simp only [reduceCtorEq] at h))
theorem ZeX:∀ (up:List (Nat×Obj)) (k:Hp),k.n≤(k.puts up).n
 | [],k=>Nat.le_refl _
 | (r,o)::l,k=>Nat.le_trans (by simp only [Hp.put_n];omega) (ZeX l (k.put r o))
theorem Own.app {α:Type}{E:Enc α}(H:Own B h k Ω) (i:Nat) (hn:k.m nr=none∧h.n≤nr) {v w:V}{l m:List α}{bytes:Nat}{x y:Opd}(hi:ent Ω i=eSl E v l) (hy:Sl E k w m) (hx:e x=v) (hy':e y=w) (h1:∀ a,(E.c a).all V.one=true) (hl:l.length+m.length≤1000000000) (hb:bytes≤100000) :
  ∃ v' k' up,act k.m nr e (.app E.sz bytes x y)=some (v',up)∧k.puts up=k'∧Zfz k k' nr∧Own B h k' (Mu.upd Ω i (eSl E v' (l++m))):=by
 have hs:=H.slN i hi;have hl2:(l.length+m.length)*bytes≤140737488355328:=by
  have:(l.length+m.length)*bytes≤1000000000*100000:=Nat.mul_le_mul hl hb;omega
 have key:WA (ZfC k.m nr E.sz bytes v w) fun v' up=>ZfC k.m nr E.sz bytes v w=some (v',up)∧SlN E 0 (k.puts up) v' (l++m)∧(∀ q,q≠nr→k.m q=none→(k.puts up).m q=none):=by
  obtain ⟨v',up,ha,a,c⟩:=ZlI (Znb (K:=fun v' up=>SlN E 0 (k.puts up) v' (l++m)∧(∀ q,q≠nr→k.m q=none→(k.puts up).m q=none)) (b:=0) hs hn.1 hy (Nat.zero_le _) h1 hl2 fun v' up a b c=>⟨a,c⟩);rw [ha];exact ⟨rfl,a,c⟩
 obtain ⟨v',up,ha,-,k4,k5⟩:=ZlI key;obtain ⟨k6,k7⟩:=Zjv ha;refine ⟨v',_,up,?_,rfl,⟨ZeX _ _,k5⟩,H.upd i [nr] hi rfl k4 (fun r hr hq=>Hp.puts_m fun z hz=>?_) (fun r hr=>?_) (ZeX _ _) (fun r hr=>?_)⟩
 ·rw [ZkF,hx,hy',ha]
 ·rintro rfl;rcases k6 z hz with h2|h2
  ·exact hq (by simp [h2])
  ·exact hr h2
 ·have:r=nr:=by simpa using hr
  subst this;exact hn
 ·rcases k7 r hr with h2|h2
  ·exact .inr (by simp [h2])
  ·exact .inl h2
end own
end Mu
