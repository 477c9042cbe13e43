/- One rule for each operation. -/
import Derived.Test.YtjhlegefgllihaaGreatMuO
set_option linter.unusedSimpArgs false
set_option linter.unusedVariables false
namespace Mu
open Go (IntKind BinOp UnOp)
variable {rd:Nat->Option Obj}{nr:Nat}{e:Opd->V}

/-! Values alone. -/
theorem ZnZ{x:Opd}{v:V}(hx:e x=v):act rd nr e (.mv x)=some (v,[]):=by rw[<-hx];rfl
theorem Zc7{c a b:Opd}{t:Bool}{v:V}(hc:e c=.b t)(ht:t=true)(ha:e a=v):act rd nr e (.pick c a b)=some (v,[]):=by simp[act,hc,ht,ha]
theorem Zci{c a b:Opd}{t:Bool}{v:V}(hc:e c=.b t)(ht:t=false)(hb:e b=v):act rd nr e (.pick c a b)=some (v,[]):=by simp[act,hc,ht,hb]
abbrev ZJ(x:Int):Prop:=-9223372036854775808<=x/\x<=9223372036854775807
theorem Zam{x y:Opd}{a b:Int}(hx:e x=.i .i64 a)(hy:e y=.i .i64 b)(h:ZJ (a+b)):act rd nr e (.bin .add x y)=some (.i .i64 (a+b),[]):=by
 rw[ZcY,hx,hy,Zoh h.1 h.2];rfl
theorem Zle{x y:Opd}{a b:Int}(hx:e x=.i .i64 a)(hy:e y=.i .i64 b)(h:ZJ (a-b)):act rd nr e (.bin .sub x y)=some (.i .i64 (a-b),[]):=by
 rw[ZcY,hx,hy,Zon h.1 h.2];rfl
theorem Zie{x y:Opd}{a b:Int}(hx:e x=.i .i64 a)(hy:e y=.i .i64 b)(h:ZJ (a*b)):act rd nr e (.bin .mul x y)=some (.i .i64 (a*b),[]):=by
 rw[ZcY,hx,hy,Zom h.1 h.2];rfl
theorem Zf5{k:IntKind}{x y:Opd}{a b:Int}(hx:e x=.i k a)(hy:e y=.i k b)(h:b≠0):act rd nr e (.bin .rem x y)=some (.i k (a.tmod b),[]):=by
 rw[ZcY,hx,hy];simp[bin,ZdW,h]
theorem Zld{x y:Opd}{a b:Int}(hx:e x=.i .i64 a)(hy:e y=.i .i64 b)(h:b≠0/\ZJ (a.tdiv b)):act rd nr e (.bin .quo x y)=some (.i .i64 (a.tdiv b),[]):=by
 rw[ZcY,hx,hy];simp[bin,ZdW,h.1,Zg8 h.2.1 h.2.2]
theorem Zqh{x y:Opd}{a b:Int}(hx:e x=.i .u8 a)(hy:e y=.i .u8 b)(h:b≠0/\0<=a.tdiv b/\a.tdiv b<=255):act rd nr e (.bin .quo x y)=some (.i .u8 (a.tdiv b),[]):=by
 rw[ZcY,hx,hy];have:IntKind.u8.wrap (a.tdiv b)=a.tdiv b:=by
  simp only[IntKind.wrap,IntKind.bits,IntKind.signed];simp;omega
 simp[bin,ZdW,h.1,this]
theorem ZfM{k:IntKind}{op:BinOp}{x y:Opd}{a b:Int}{v:V}(hx:e x=.i k a)(hy:e y=.i k b)(h1:op≠.shl/\op≠.shr)(hv:ZdW op k a b=some v):act rd nr e (.bin op x y)=some (v,[]):=by
 rw[ZcY,hx,hy];simp[bin,h1,hv]
theorem ZgV{k k':IntKind}{op:BinOp}{x y:Opd}{a b:Int}{v:V}(hx:e x=.i k a)(hy:e y=.i k' b)(h1:op=.shl\/op=.shr)(hv:shift op k a b=some v):act rd nr e (.bin op x y)=some (v,[]):=by
 rw[ZcY,hx,hy];simp[bin,h1,hv]
theorem ZaH{k:IntKind}{x y:Opd}{a b:Int}(hx:e x=.i k a)(hy:e y=.i k b):act rd nr e (.bin .lss x y)=some (.b (decide (a<b)),[]):=by rw[ZcY,hx,hy,Zol];rfl
theorem Zs3{k:IntKind}{x y:Opd}{a b:Int}(hx:e x=.i k a)(hy:e y=.i k b):act rd nr e (.bin .leq x y)=some (.b (decide (a<=b)),[]):=by rw[ZcY,hx,hy,Zok];rfl
theorem Zlc{k:IntKind}{x y:Opd}{a b:Int}(hx:e x=.i k a)(hy:e y=.i k b):act rd nr e (.bin .gtr x y)=some (.b (decide (b<a)),[]):=by rw[ZcY,hx,hy,Zoj];rfl
theorem Zlb{k:IntKind}{x y:Opd}{a b:Int}(hx:e x=.i k a)(hy:e y=.i k b):act rd nr e (.bin .geq x y)=some (.b (decide (b<=a)),[]):=by rw[ZcY,hx,hy,Zoi];rfl
theorem Zem{k:IntKind}{x y:Opd}{a b:Int}(hx:e x=.i k a)(hy:e y=.i k b):act rd nr e (.eq false .sc x y)=some (.b (decide (a=b)),[]):=by
 rw[Zdy,hx,hy,ZmR];by_cases h:a=b<;>simp[h]
theorem Zf4{k:IntKind}{x y:Opd}{a b:Int}(hx:e x=.i k a)(hy:e y=.i k b):act rd nr e (.eq true .sc x y)=some (.b (!decide (a=b)),[]):=by
 rw[Zdy,hx,hy,ZmR];by_cases h:a=b<;>simp[h]
theorem Zsx{x y:Opd}{a b:Bool}(hx:e x=.b a)(hy:e y=.b b):act rd nr e (.eq false .bl x y)=some (.b (decide (a=b)),[]):=by
 rw[Zdy,hx,hy,ZmQ];cases a<;>cases b<;>rfl
theorem Zp2{x y:Opd}{a b:Bool}(hx:e x=.b a)(hy:e y=.b b):act rd nr e (.eq true .bl x y)=some (.b (!decide (a=b)),[]):=by
 rw[Zdy,hx,hy,ZmQ];cases a<;>cases b<;>rfl
theorem Zla{ks:List FK}{x y:Opd}{as bs:List V}{t:Bool}(hx:e x=.ag as)(hy:e y=.ag bs)(h:zZ ks as bs=some t):act rd nr e (.eq false (.fl ks) x y)=some (.b t,[]):=by
 rw[Zdy,hx,hy];simp[eqV,eqv,h]
theorem Zmy{ks:List FK}{x y:Opd}{as bs:List V}{t:Bool}(hx:e x=.ag as)(hy:e y=.ag bs)(h:zZ ks as bs=some t):act rd nr e (.eq true (.fl ks) x y)=some (.b !t,[]):=by
 rw[Zdy,hx,hy];simp[eqV,eqv,h]
theorem Zsy{x y:Opd}{r o:Nat}(hx:e x=.p r o)(hy:e y=.pn):act rd nr e (.eq false .pt x y)=some (.b false,[]):=by rw[Zdy,hx,hy];rfl
theorem Zs4{x y:Opd}{r o:Nat}(hx:e x=.p r o)(hy:e y=.pn):act rd nr e (.eq true .pt x y)=some (.b true,[]):=by rw[Zdy,hx,hy];rfl
theorem Zqd{x y:Opd}(hx:e x=.pn)(hy:e y=.pn):act rd nr e (.eq false .pt x y)=some (.b true,[]):=by rw[Zdy,hx,hy];rfl
theorem Zqe{x y:Opd}(hx:e x=.pn)(hy:e y=.pn):act rd nr e (.eq true .pt x y)=some (.b false,[]):=by rw[Zdy,hx,hy];rfl
theorem ZeU{x:Opd}{t:Bool}(hx:e x=.b t):act rd nr e (.un .not x)=some (.b !t,[]):=by rw[Zm8,hx];rfl
theorem Zp3{x:Opd}{a:Int}(hx:e x=.i .i64 a)(h:ZJ (-a)):act rd nr e (.un .neg x)=some (.i .i64 (-a),[]):=by
 obtain⟨h1,h2⟩:=h;rw[Zm8,hx,ZrD (by omega) (by omega)];rfl
def inK(k:IntKind)(x:Int):Prop:=k.wrap x=x
instance{k:IntKind}{x:Int}:Decidable (inK k x):=by unfold inK;infer_instance
theorem ZsK{x:Int}(h1:-9223372036854775808<=x)(h2:x<=9223372036854775807):inK .i64 x:=Zg8 h1 h2
theorem Zu5{x:Int}(h1:0<=x)(h2:x<=255):inK .u8 x:=by
 simp only[inK,IntKind.wrap,IntKind.bits,IntKind.signed];simp;omega
theorem Zfa{k k':IntKind}{x:Opd}{a:Int}(hx:e x=.i k a)(h:inK k' a):act rd nr e (.conv k' x)=some (.i k' a,[]):=by rw[Zm3,hx,Zot,h];rfl
theorem Zuq{k:IntKind}{x y:Opd}{a b:Int}(hx:e x=.i k a)(hy:e y=.i k b):act rd nr e (.mx [x,y])=some (.i k (max a b),[]):=by rw[Zql,hx,hy,mxV_i];rfl
theorem Zup{k:IntKind}{x y:Opd}{a b:Int}(hx:e x=.i k a)(hy:e y=.i k b):act rd nr e (.mn [x,y])=some (.i k (min a b),[]):=by rw[Zqk,hx,hy,Zte];rfl
theorem ZbV{x:Opd}{j:Nat}{vs:List V}{v:V}(hx:e x=.tu vs)(hv:vs[j]?=some v):act rd nr e (.ext x j)=some (v,[]):=by simp[act,hx,hv]
theorem Zmx{id:Nat}{caps:List Opd}{vs:List V}(hv:caps.map e=vs):act rd nr e (.clo id caps)=some (.f id vs,[]):=by simp[act,hv]
theorem Zcr{x:Opd}{r o:Nat}(hx:e x=.p r o):act rd nr e (.nilck x)=some (.p r o,[]):=by simp[act,hx]
theorem Zqg{x:Opd}{id:Nat}{caps:List V}(hx:e x=.f id caps):act rd nr e (.nilck x)=some (.f id caps,[]):=by simp[act,hx]
theorem Zbv{zero cs:List V}{ps:List (Nat×Nat×Opd)}(h:fill zero (evs e ps)=some cs):act rd nr e (.build zero ps)=some (.ag cs,[]):=by simp[act,h]
theorem Zs1{off sz:Nat}{x:Opd}{cs:List V}{v:V}{agg:Bool}(hx:e x=.ag cs)(h:ZbG agg cs off sz=some v):act rd nr e (.fld agg off sz x)=some (v,[]):=by simp[act,hx,h]
theorem Zuo{agg:Bool}{sz n:Nat}{x i:Opd}{cs:List V}{k:IntKind}{z:Int}{v:V}(hx:e x=.ag cs)(hi:e i=.i k z)(h0:0<=z/\z<(n:Int))(h:ZbG agg cs (z.toNat*sz) sz=some v):act rd nr e (.ix agg sz n x i)=some (v,[]):=by
 simp[act,hx,hi,idx,h0,h]

/-! Slices. -/
section sl
variable {α:Type}{E:Enc α}{k:Hp}{v:V}{l:List α}
theorem Za4{x:Opd}(hs:Sl E k v l)(hx:e x=v):act rd nr e (.len x)=some (.i .i64 (l.length:Int),[]):=by rw[Zoc,hx,hs.len];rfl
theorem Zaq{x i:Opd}{K:IntKind}{z:Int}(hs:Sl E k v l)(hx:e x=v)(hi:e i=.i K z)(h:0<=z/\z<(l.length:Int)):act rd nr e (.ixa E.sz x i)=some (v.elt z.toNat 0,[]):=by rw[Zob,hx,hi,hs.at h.1 h.2];rfl
theorem ZdM{x:Opd}{j off off' off2:Nat}(hs:Sl E k v l)(hj:j<l.length)(hx:e x=v.elt j off')(ho:off'+off=off2):act rd nr e (.fa off x)=some (v.elt j off2,[]):=by rw[Zm4,hx,hs.fa hj,ho];rfl
theorem Zqf{x:Opd}{j off:Nat}(hs:Sl E k v l)(hj:j<l.length)(hx:e x=v.elt j off):act rd nr e (.nilck x)=some (v.elt j off,[]):=by
 cases hs with
 |nil=>simp at hj
 |emp=>simp at hj
 |sl hm hl hc hn he=>simp[act,hx,V.elt]
theorem ZcX{x i:Opd}{K:IntKind}{z:Int}{j off sz n off2:Nat}(hs:Sl E k v l)(hj:j<l.length)(hx:e x=v.elt j off)(hi:e i=.i K z)(h:0<=z/\z<(n:Int))(ho:off+z.toNat*sz=off2):act rd nr e (.ixaa sz n x i)=some (v.elt j off2,[]):=by
 subst ho
 cases hs with
 |nil=>simp at hj
 |emp=>simp at hj
 |sl hm hl hc hn he=>simp[act,hx,hi,idx,h,V.elt,Nat.add_assoc]
theorem Sl.ldw[Inhabited α](hs:Sl E k v l){j off:Nat}(h1:j<l.length){w:V}(ho:(E.c (gi l j))[off]?=some w):ldV k.m false 1 (v.elt j off)=some w:=by
 rw[hs.ld h1 (by
  have:=(List.getElem?_eq_some_iff.1 ho).1;rw[E.hc]at this;exact this),ho]
theorem Zbx[Inhabited α]{x:Opd}{j off:Nat}{w:V}(hs:Sl E k v l)(hx:e x=v.elt j off)(hj:j<l.length)(ho:(E.c (gi l j))[off]?=some w):act k.m nr e (.ld false 1 x)=some (w,[]):=by rw[Zhl,hx,hs.ldw hj ho];rfl
theorem ZcP[Inhabited α]{x:Opd}{j:Nat}(hs:Sl E k v l)(hx:e x=v.elt j 0)(hj:j<l.length):act k.m nr e (.ld true E.sz x)=some (.ag (E.c (gi l j)),[]):=by rw[Zhl,hx,hs.ldA hj];rfl
theorem Zs2[Inhabited α]{x:Opd}{j off sz:Nat}{ws:List V}(hs:Sl E k v l)(hx:e x=v.elt j off)(hj:j<l.length)(ho:ZbG true (E.c (gi l j)) off sz=some (.ag ws)):act k.m nr e (.ld true sz x)=some (.ag ws,[]):=by
 rw[Zhl,hx]
 cases hs with
 |nil=>simp at hj
 |emp=>simp at hj
 | @sl r o n c ex w cs _ hm hl hc hn he=>
  subst hl;have h3:j*E.sz+E.sz<=l.length*E.sz:=by
   have:=Nat.mul_le_mul_right E.sz (show j+1<=l.length by omega);rw[Nat.add_mul]at this;omega
  have hA:=Sl.ldA (Sl.sl (ex:=ex) hm rfl hc hn he) hj;simp only[ldV,V.elt,hm,ZbG,Nat.add_zero]at hA⊢;rw[if_pos (by omega)]at hA;simp only[if_true,Option.some.injEq,V.ag.injEq]at hA;unfold ZbG at ho;split at ho
  .rename_i hlt;rw[E.hc]at hlt;rw[if_pos (by omega)];simp only[if_true,Option.some.injEq,V.ag.injEq]at ho⊢;rw[<-ho,<-hA,Zdm hlt];rfl
  .cases ho
theorem ZiB{x i:Opd}{K:IntKind}{z:Int}(hs:Sl E k v l)(hx:e x=v)(hi:e i=.i K z)(h:0<=z/\z<=(l.length:Int)):act rd nr e (.slc E.sz x (some i) none none)=some (v.cut z.toNat l.length,[]):=by
 rw[ZiC,Option.map_some,Option.map_none,hx,hi,hs.from h.1 h.2];rfl
theorem Zhj{x i:Opd}{K:IntKind}{z:Int}(hs:Sl E k v l)(hx:e x=v)(hi:e i=.i K z)(h:0<=z/\z<=(l.length:Int)):act rd nr e (.slc E.sz x none (some i) none)=some (v.cut 0 z.toNat,[]):=by
 rw[ZiC,Option.map_some,Option.map_none,hx,hi,hs.upto h.1 h.2];rfl
theorem Zqi{x i i':Opd}{K K':IntKind}{z z':Int}(hs:Sl E k v l)(hx:e x=v)(hi:e i=.i K z)(hi':e i'=.i K' z')(h:0<=z/\z<=z'/\z'<=(l.length:Int)):act rd nr e (.slc E.sz x (some i) (some i') none)=some (v.cut z.toNat z'.toNat,[]):=by
 rw[ZiC,Option.map_some,Option.map_some,hx,hi,hi',Zkx hs (lo:=some (.i K z)) (hi:=some (.i K' z')) (a:=z.toNat) (b:=z'.toNat)]
 .rfl
 .simp only[bnd];rw[if_pos (by omega)]
 .intro n hn;simp only[bnd];rw[if_pos (by omega)]
def Zu0(l:List α)(a b:Nat):List α:=(l.drop a).take (b-a)
theorem Sl.cutF(hs:Sl E k v l){z:Int}(h:0<=z/\z<=(l.length:Int)):Sl E k (v.cut z.toNat l.length) (l.drop z.toNat):=by
 have:=hs.cut (a:=z.toNat) (b:=l.length) (by omega) (Nat.le_refl _);rwa[List.take_of_length_le (by simp)]at this
theorem Sl.cutU(hs:Sl E k v l){z:Int}(h:0<=z/\z<=(l.length:Int)):Sl E k (v.cut 0 z.toNat) (l.take z.toNat):=by
 have:=hs.cut (a:=0) (b:=z.toNat) (by omega) (by omega);simpa using this
theorem Sl.cutB(hs:Sl E k v l){z z':Int}(h:0<=z/\z<=z'/\z'<=(l.length:Int)):Sl E k (v.cut z.toNat z'.toNat) (Zu0 l z.toNat z'.toNat):=hs.cut (a:=z.toNat) (b:=z'.toNat) (by omega) (by omega)
theorem Zn4{v:V}{a b:Nat}:Za0 (v.cut a b)=Za0 v:=by
 cases v<;>rfl
end sl

/-! Boxes. -/
theorem zm{off r o o':Nat}{x:Opd}(hx:e x=.p r o)(ho:o+off=o'):act rd nr e (.fa off x)=some (.p r o',[]):=by rw[Zm4,hx,ZsG,ho];rfl
theorem Zf8{x i:Opd}{K:IntKind}{z:Int}{r o sz n o':Nat}(hx:e x=.p r o)(hi:e i=.i K z)(h:0<=z/\z<(n:Int))(ho:o+z.toNat*sz=o'):act rd nr e (.ixaa sz n x i)=some (.p r o',[]):=by
 subst ho;simp[act,hx,hi,idx,h]
theorem ZQ{k:Hp}{w:Bool}{cs:List V}{x:Opd}{r o:Nat}{v:V}(hb:k.m r=some (.cells w cs))(hx:e x=.p r o)(ho:cs[o]?=some v):act k.m nr e (.ld false 1 x)=some (v,[]):=by
 have:=(List.getElem?_eq_some_iff.1 ho).1;rw[Zhl,hx];simp only[ldV,hb,ZbG];rw[if_pos (by omega)];simp[ho]
theorem Za7{k:Hp}{w:Bool}{cs ws:List V}{x:Opd}{r o sz:Nat}(hb:k.m r=some (.cells w cs))(hx:e x=.p r o)(ho:ZbG true cs o sz=some (.ag ws)):act k.m nr e (.ld true sz x)=some (.ag ws,[]):=by
 rw[Zhl,hx];simp only[ldV,hb,ho];rfl

/-! What makes or turns something. -/
section own
variable {B:Nat->Prop}{h k:Hp}{Ω:List Ent}
theorem Own.fr(H:Own B h k Ω):k.m k.n=none/\h.n<=k.n:=⟨Hp.fresh,H.n⟩

def ZeA(k k':Hp)(nr:Nat):Prop:=k.n<=k'.n/\∀q,q≠nr->k.m q=none->k'.m q=none
theorem Own.news(H:Own B h k Ω){ent':Ent}{cs:List V}(hn:k.m nr=none/\h.n<=nr)(hP:ent'.P (k.put nr (.cells true cs)))(hr:∀r∈ent'.rs,r=nr):Own B h (k.put nr (.cells true cs)) (Ω++[ent']):=by
 refine H.add [nr] rfl hP (λr hr=>?_) (λr hr=>?_) ?_ (λr hq=>by simp[hr r hq])
 .have:r≠nr:=by simpa using hr
  simp[this]
 .have:r=nr:=by simpa using hr
  subst this;exact hn
 .simp only[Hp.put_n];omega
theorem Ze1{o:Obj}:ZeA k (k.put nr o) nr:=⟨by simp only[Hp.put_n];omega,λq hq hm=>by simp[hq,hm]⟩
theorem Own.alloc(H:Own B h k Ω)(hn:k.m nr=none/\h.n<=nr){cs:List V}:∃v k' up,act k.m nr e (.alloc cs)=some (v,up)/\k.puts up=k'/\∃r,v=.p r 0/\r=nr/\ZeA k k' nr/\Own B h k' (Ω++[Z3 r cs]) :=
 ⟨_,_,_,rfl,rfl,nr,rfl,rfl,Ze1,H.news hn (by simp[Z3]) (by simp[Z3])⟩
theorem Own.boxd(H:Own B h k Ω)(hn:k.m nr=none/\h.n<=nr){cs:List V}{x:Opd}{v:V}(hx:e x=v)(hv:v.cells=cs):∃v' k' up,act k.m nr e (.box x)=some (v',up)/\k.puts up=k'/\∃r,v'=.p r 0/\r=nr/\ZeA k k' nr/\Own B h k' (Ω++[Z3 r cs]):=by
 refine⟨.p nr 0,_,[(nr,.cells true cs)],?_,rfl,nr,rfl,rfl,Ze1,H.news hn (by simp[Z3]) (by simp[Z3])⟩;rw[Zoa,hx,hv]
theorem Own.bsl{α:Type}{E:Enc α}{l:List α}(H:Own B h k Ω)(hn:k.m nr=none/\h.n<=nr){len:Nat}{zero:List V}{ps:List (Nat×Nat×Opd)}(hf:fill ((List.replicate len zero).flatten) (evs e ps)=some ((l.map E.c).flatten))(hl:l.length=len) :
  ∃v k' up,act k.m nr e (.bsl E.sz len zero ps)=some (v,up)/\k.puts up=k'/\Za0 v=[nr]/\ZeA k k' nr/\Own B h k' (Ω++[eSl E v l]):=by
 refine⟨.sl E.sz nr 0 len len true,_,[(nr,.cells true ((l.map E.c).flatten))],?_,rfl,rfl,Ze1,H.news hn ?_ (by simp[eSl,Za0])⟩
 .simp only[act,hf]
 .exact .sl (Nat.zero_le _) (by simp;rfl) hl (Nat.le_refl _) (by rw[zN,hl];omega) (by rw[piece,List.drop_zero,List.take_of_length_le (by rw[zN,hl];exact Nat.le_refl _)])
theorem Own.mks{α:Type}{E:Enc α}{y:α}(H:Own B h k Ω)(hn:k.m nr=none/\h.n<=nr){bytes:Nat}{K K':IntKind}{z:Int}{zero:List V}{x x':Opd}(hx:e x=.i K z)(hx':e x'=.i K' z)(hz:E.c y=zero)(h0:0<=z/\z<=1000000000)(hb:bytes<=100000) :
  ∃v k' up,act k.m nr e (.mks E.sz bytes zero x x')=some (v,up)/\k.puts up=k'/\Za0 v=[nr]/\ZeA k k' nr/\Own B h k' (Ω++[eSl E v (List.replicate z.toNat y)]):=by
 subst hz;have hf:(List.replicate z.toNat (E.c y)).flatten=((List.replicate z.toNat y).map E.c).flatten:=by rw[List.map_replicate]
 refine⟨.sl E.sz nr 0 z.toNat z.toNat true,_,[(nr,.cells true (List.replicate z.toNat (E.c y)).flatten)],?_,rfl,rfl,Ze1,H.news hn ?_ (by simp[eSl,Za0])⟩
 .rw[Zod,hx,hx'];simp only[Ztd];rw[if_pos];refine⟨h0.1,Int.le_refl _,?_⟩;have h1:(bytes:Int)*z<=100000*z:=Int.mul_le_mul_of_nonneg_right (by omega) h0.1;omega
 .rw[hf];refine .sl (cs:=((List.replicate z.toNat y).map E.c).flatten) (Nat.zero_le _) (by simp) (by simp) (Nat.le_refl _) (by rw[zN];simp) (by rw[piece,List.drop_zero,List.take_of_length_le (by rw[zN];simp)])
theorem Own.stb(H:Own B h k Ω)(i:Nat){r o sz:Nat}{cs ws cs':List V}{a x:Opd}{v:V}(hi:ent Ω i=Z3 r cs)(ha:e a=.p r o)(hx:e x=v)(hv:v.cells=ws)(h1:ws.length=sz/\o+sz<=cs.length/\ws.all V.one=true)(ho:over cs o ws=cs') :
  ∃u k' up,act k.m nr e (.st sz a x)=some (u,up)/\k.puts up=k'/\u=.un/\ZeA k k' nr/\k'.n=k.n/\Own B h k' (Mu.upd Ω i (Z3 r cs')):=by
 have hb:=H.box i hi;have hlt:=Hp.lt hb;refine⟨.un,_,[(r,.cells true cs')],?_,rfl,rfl,?_,?_,H.upd i [] hi rfl ?_ (λq hq _=>?_) (by simp) ?_ (λq hq=>.inl hq)⟩
 .rw[Zm7,ha,hx];simp only[stA,hb,hv];rw[if_pos h1,ho]
 .refine⟨by simp only[Hp.puts_cons,Hp.puts_nil,Hp.put_n];omega,λq hq hm=>?_⟩;have:q≠r:=by rintro rfl;rw[hm]at hb;cases hb
  simp[this,hm]
 .simp only[Hp.puts_cons,Hp.puts_nil,Hp.put_n];omega
 .simp[Z3]
 .have:q≠r:=by simpa[Z3]using hq
  simp[this]
 .simp only[Hp.puts_cons,Hp.puts_nil,Hp.put_n];omega
theorem Own.ste{α:Type}[Inhabited α]{E:Enc α}(H:Own B h k Ω)(i:Nat){v:V}{l:List α}{y:α}{j off sz:Nat}{a x:Opd}{w:V}{ws:List V}(hi:ent Ω i=eSl E v l)(ha:e a=v.elt j off)(hj:j<l.length)(hx:e x=w)(hw:w.cells=ws)(h1:ws.length=sz/\off+sz<=E.sz/\ws.all V.one=true)(ho:over (E.c (gi l j)) off ws=E.c y) :
  ∃u k' up,act k.m nr e (.st sz a x)=some (u,up)/\k.puts up=k'/\u=.un/\ZeA k k' nr/\k'.n=k.n/\Own B h k' (Mu.upd Ω i (eSl E v (l.set j y))):=by
 have hs:=H.slN i hi
 cases hs with
 |nil=>simp at hj
 | @sl r o n c ex cs _ hb hm hl hc hn he=>
  subst hl;have hlt:=Hp.lt hm;have h3:j*E.sz+E.sz<=l.length*E.sz:=by
   have:=Nat.mul_le_mul_right E.sz (show j+1<=l.length by omega);rw[Nat.add_mul]at this;omega
  have hgi:piece cs (o+j*E.sz) E.sz=E.c (gi l j):=by
   rw[zO hj,<-Zdm (cs:=cs) (o:=o) (n:=l.length*E.sz) h3,he,piece,ZdV];have:=Zdj (E:=E) (l.drop j) 1;rw[Nat.one_mul]at this;rw[this,List.drop_eq_getElem_cons hj];simp only[List.take_succ_cons,List.take_zero,List.map_cons,List.map_nil,List.flatten_cons,List.flatten_nil,List.append_nil]
  have hsz:ws.length=sz:=h1.1;have hov:over cs (o+j*E.sz+off) ws=over cs (o+j*E.sz) (E.c y):=by
   rw[<-ho,<-hgi];have hlen:(over (piece cs (o+j*E.sz) E.sz) off ws).length=E.sz:=by
    rw[hgi,ho,E.hc]
   refine List.ext_getElem? λq=>?_;have e1:(piece cs (o+j*E.sz) E.sz).length=E.sz:=by rw[hgi,E.hc]
   unfold over at hlen⊢;rw[hlen];simp only[List.getElem?_append,List.length_append,List.length_take,List.getElem?_take,List.getElem?_drop,e1,List.length_drop];have m1:min (o+j*E.sz+off) cs.length=o+j*E.sz+off:=by omega
   have m2:min (o+j*E.sz) cs.length=o+j*E.sz:=by omega
   have m3:min off E.sz=off:=by omega
   rw[m1,m2,m3,hsz];have e2:off+sz+(E.sz-(off+sz))=E.sz:=by omega
   rw[e2];by_cases c1:q<o+j*E.sz
   .have c2:q<o+j*E.sz+off:=by omega
    have c3:q<o+j*E.sz+off+sz:=by omega
    have c4:q<o+j*E.sz+E.sz:=by omega
    simp only[c1,c2,c3,c4,if_true]
   .by_cases c2:q<o+j*E.sz+off
    .have c3:q<o+j*E.sz+off+sz:=by omega
     have c4:q<o+j*E.sz+E.sz:=by omega
     have c5:q-(o+j*E.sz)<off:=by omega
     have c6:q-(o+j*E.sz)<off+sz:=by omega
     simp only[c1,c2,c3,c4,c5,c6,if_true,if_false];rw[ZhD (by omega),show o+j*E.sz+(q-(o+j*E.sz))=q by omega]
    .by_cases c3:q<o+j*E.sz+off+sz
     .have c4:q<o+j*E.sz+E.sz:=by omega
      have c5:¬q-(o+j*E.sz)<off:=by omega
      have c6:q-(o+j*E.sz)<off+sz:=by omega
      simp only[c1,c2,c3,c4,c5,c6,if_true,if_false];rw[show q-(o+j*E.sz+off)=q-(o+j*E.sz)-off by omega]
     .by_cases c4:q<o+j*E.sz+E.sz
      .have c6:¬q-(o+j*E.sz)<off+sz:=by omega
       simp only[c1,c2,c3,c4,c6,if_true,if_false];rw[ZhD (by omega),show o+j*E.sz+(off+sz+(q-(o+j*E.sz)-(off+sz)))=o+j*E.sz+off+sz+(q-(o+j*E.sz+off+sz)) by omega]
      .simp only[c1,c2,c3,c4,if_true,if_false];rw[show o+j*E.sz+off+sz+(q-(o+j*E.sz+off+sz))=o+j*E.sz+E.sz+(q-(o+j*E.sz+E.sz)) by omega]
  refine⟨.un,_,[(r,.cells true (over cs (o+j*E.sz) (E.c y)))],?_,rfl,rfl,?_,?_,H.upd i [] hi rfl ?_ (λq hq _=>?_) (by simp) ?_ (λq hq=>.inl (by simpa[eSl]using hq))⟩
  .rw[Zm7,ha,hx];simp only[stA,V.elt,hm,hw];rw[if_pos ⟨h1.1,by omega,h1.2.2⟩,hov]
  .refine⟨by simp only[Hp.puts_cons,Hp.puts_nil,Hp.put_n];omega,λq hq hm'=>?_⟩;have:q≠r:=by rintro rfl;rw[hm']at hm;cases hm
   simp[this,hm']
  .simp only[Hp.puts_cons,Hp.puts_nil,Hp.put_n];omega
  .refine .sl (cs:=over cs (o+j*E.sz) (E.c y)) hb (by simp) (by simp) hc ?_ ?_
   .unfold over;simp only[List.length_append,List.length_take,List.length_drop,E.hc];omega
   .rw[ZfD hn (by rw[E.hc];exact h3),he,ZmS hj]
  .have:q≠r:=by simpa[eSl,Za0]using hq
   simp[this]
  .simp only[Hp.puts_cons,Hp.puts_nil,Hp.put_n];omega
theorem Zmn{o:Option (V×List (Nat×Obj))}{K:V->List (Nat×Obj)->Prop}(h:WA o K):∃v up,o=some (v,up)/\K v up:=by
 cases o with
 |none=>exact h.elim
 |some r=>exact⟨_,_,rfl,h⟩
theorem Zj7{rd:Nat->Option Obj}{nr sz bytes:Nat}{x y v:V}{up:List (Nat×Obj)}(h:Zfb rd nr sz bytes x y=some (v,up)):(∀q∈up,q.1=nr\/q.1∈Za0 x)/\(∀r∈Za0 v,r=nr\/r∈Za0 x):=by
 unfold Zfb at h;simp only[act]at h;cases x<;>simp only[reduceCtorEq]at h<;>cases y<;>simp only[reduceCtorEq]at h<;>(repeat' split at h) <;>
  (first
   |(simp only[Option.some.injEq,Prod.mk.injEq,reduceCtorEq]at h;obtain⟨rfl,rfl⟩:=h;simp_all[Za0])
   |(simp only[reduceCtorEq]at h))
theorem Ze5:∀(up:List (Nat×Obj))(k:Hp),k.n<=(k.puts up).n
 |[],k=>Nat.le_refl _
 |(r,o)::l,k=>Nat.le_trans (by simp only[Hp.put_n];omega) (Ze5 l (k.put r o))
theorem Own.app{α:Type}{E:Enc α}(H:Own B h k Ω)(i:Nat)(hn:k.m nr=none/\h.n<=nr){v w:V}{l m:List α}{bytes:Nat}{x y:Opd}(hi:ent Ω i=eSl E v l)(hy:Sl E k w m)(hx:e x=v)(hy':e y=w)(h1:∀a,(E.c a).all V.one=true)(hl:l.length+m.length<=1000000000)(hb:bytes<=100000) :
  ∃v' k' up,act k.m nr e (.app E.sz bytes x y)=some (v',up)/\k.puts up=k'/\ZeA k k' nr/\Own B h k' (Mu.upd Ω i (eSl E v' (l++m))):=by
 have hs:=H.slN i hi;have hl2:(l.length+m.length)*bytes<=140737488355328:=by
  have:(l.length+m.length)*bytes<=1000000000*100000:=Nat.mul_le_mul hl hb;omega
 have key:WA (Zfb k.m nr E.sz bytes v w) λv' up=>Zfb k.m nr E.sz bytes v w=some (v',up)/\SlN E 0 (k.puts up) v' (l++m)/\(∀q,q≠nr->k.m q=none->(k.puts up).m q=none):=by
  obtain⟨v',up,ha,a,c⟩:=Zmn (ZnQ (K:=λv' up=>SlN E 0 (k.puts up) v' (l++m)/\(∀q,q≠nr->k.m q=none->(k.puts up).m q=none)) (b:=0) hs hn.1 hy (Nat.zero_le _) h1 hl2 λv' up a b c=>⟨a,c⟩);rw[ha];exact⟨rfl,a,c⟩
 obtain⟨v',up,ha,-,k4,k5⟩:=Zmn key;obtain⟨k6,k7⟩:=Zj7 ha;refine⟨v',_,up,?_,rfl,⟨Ze5 _ _,k5⟩,H.upd i [nr] hi rfl k4 (λr hr hq=>Hp.puts_m λz hz=>?_) (λr hr=>?_) (Ze5 _ _) (λr hr=>?_)⟩
 .rw[Zlf,hx,hy',ha]
 .rintro rfl;rcases k6 z hz with h2|h2
  .exact hq (by simp[h2])
  .exact hr h2
 .have:r=nr:=by simpa using hr
  subst this;exact hn
 .rcases k7 r hr with h2|h2
  .exact .inr (by simp[h2])
  .exact .inl h2
end own
end Mu
