/- What comes in, as the evaluator has it: numbers, rows of these, structs of such. -/
import Derived.Test.YtjhlegefgllihaaGreatMuG
import Derived.Test.YtjhlegefgllihaaGreatMuA
import Derived.Deep.Slices
import Derived.OpenShut
import Derived.WideShapes
import Derived.ChangeShapes
set_option linter.unusedVariables false
set_option linter.unusedSimpArgs false
set_option linter.unnecessarySimpa false
namespace Mu
open Go (IntKind BinOp UnOp Value World Addr TypeId Program Lit DataW MemPlace)

def ZfA(P:Program)(g:TypeId->Option (List (Option IntKind))):List Go.Field->Nat->Option (List (Option IntKind))
 |[],_=>some []
 |f::fs,off=>match g f.type with
  |some l=>if f.offset=off/\P.cellsOf f.type=l.length then(match ZfA P g fs (off+l.length)with|some r=>some (l++r)|none=>none)else none
  |none=>none
def ZgF(P:Program):Nat->TypeId->Option (List (Option IntKind))
 |0,_=>none
 | d+1,t=>match P.underlying t with
  |some .bool=>if P.cellsOf t=1 then some [none]else none
  |some (.int k)=>if P.cellsOf t=1 then some [some k]else none
  |some (.struct fs)=>match ZfA P (ZgF P d) fs.toList 0 with
   |some l=>if P.cellsOf t=l.length then some l else none
   |none=>none
  |some (.array n e)=>match ZgF P d e with
   |some l=>if P.cellsOf t=n*l.length/\P.cellsOf e=l.length then some (List.replicate n l).flatten else none
   |none=>none
  |_=>none

inductive OkL:List (Option IntKind)->List Value->Prop
 |nil:OkL [] []
 |i {k:IntKind}{n:Int}{ks:List (Option IntKind)}{cs:List Value}(h:(Lit.int k n).wf=true) (t:OkL ks cs):OkL (some k::ks) (.int k n::cs)
 |b {x:Bool}{ks:List (Option IntKind)}{cs:List Value}(t:OkL ks cs):OkL (none::ks) (.bool x::cs)

theorem OkL.length{ks:List (Option IntKind)}{cs:List Value}(h:OkL ks cs):cs.length=ks.length:=by
 induction h with
 |nil=>rfl
 |i _ _ ih=>simp[ih]
 |b _ ih=>simp[ih]
theorem OkL.append{ks ks':List (Option IntKind)}{cs cs':List Value}(h:OkL ks cs)(h':OkL ks' cs'):OkL (ks++ks') (cs++cs'):=by
 induction h with
 |nil=>exact h'
 |i hw _ ih=>exact .i hw ih
 |b _ ih=>exact .b ih

section op
variable {H:Type}{enc:TypeId×Value->H}{P:Program}{w:World}{base:Nat}{spare:Nat->Bool}{held:Bool}

theorem Zil{g:TypeId->Option (List (Option IntKind))}{n:Nat}{cs:List Value}(hg:∀t ks,g t=some ks->∀cs x,DataW.trod enc P w base spare held n t cs=some x->OkL ks cs) :
  ∀(fs:List Go.Field)(off:Nat)(ks:List (Option IntKind)),ZfA P g fs off=some ks->off+ks.length<=cs.length->
   (∀f∈fs,∃x,DataW.trod enc P w base spare held n f.type ((cs.drop f.offset).take (P.cellsOf f.type))=some x)->OkL ks ((cs.drop off).take ks.length)
 |[],off,ks,h,hl,hf=>by
  simp only[ZfA,Option.some.injEq]at h;subst h;simpa using OkL.nil
 | f::fs,off,ks,h,hl,hf=>by
  simp only[ZfA]at h
  cases hg1:g f.type with
  |none=>simp[hg1]at h
  | some l=>
   simp only[hg1]at h;split at h
   .rename_i hc
    cases hr:ZfA P g fs (off+l.length)with
    |none=>simp[hr]at h
    |some r=>
     simp only[hr,Option.some.injEq]at h;subst h;obtain⟨x,hx⟩:=hf f (by simp);have h1:=hg _ _ hg1 _ _ hx;rw[hc.1,hc.2]at h1;have h2:=Zil hg fs (off+l.length) r hr (by simpa[Nat.add_assoc]using hl) λf' hf'=>hf f' (by simp[hf']);have:=h1.append h2;rw[List.length_append,List.take_add,List.drop_drop];exact this
   .cases h

theorem ZiR:∀(d:Nat)(t:TypeId)(ks:List (Option IntKind)),ZgF P d t=some ks->P.cellsOf t=ks.length/\∀(n:Nat)(cs:List Value)(x:DataW H×List MemPlace),DataW.trod enc P w base spare held n t cs=some x->OkL ks cs
 |0,t,ks,h=>by simp[ZgF]at h
 | d+1,t,ks,h=>by
  simp only[ZgF]at h;split at h
  .rename_i hu;split at h
   .rename_i hc;simp only[Option.some.injEq]at h;subst h;refine⟨hc,λn cs x hx=>?_⟩
    cases n with
    |zero=>simp[DataW.trod]at hx
    |succ n=>
     unfold DataW.trod at hx;rw[hu]at hx;split at hx<;>simp_all;exact .b .nil
   .cases h
  .rename_i k hu;split at h
   .rename_i hc;simp only[Option.some.injEq]at h;subst h;refine⟨hc,λn cs x hx=>?_⟩
    cases n with
    |zero=>simp[DataW.trod]at hx
    |succ n=>
     unfold DataW.trod at hx;rw[hu]at hx;split at hx<;>simp_all;obtain⟨h1,_⟩:=hx;obtain⟨h1,h2⟩:=h1;subst h1;exact .i h2 .nil
   .cases h
  .rename_i fs hu
   cases hf:ZfA P (ZgF P d) fs.toList 0 with
   |none=>simp[hf]at h
   | some l=>
    simp only[hf]at h;split at h
    .rename_i hc;simp only[Option.some.injEq]at h;subst h;refine⟨hc,λn cs x hx=>?_⟩;obtain⟨xs,m,_,rfl,hl,hlen,hfs⟩:=DataW.trod_struct hu hx;have:=Zil (enc:=enc) (w:=w) (base:=base) (spare:=spare) (held:=held) (n:=m) (cs:=cs) (λt ks hk=>(ZiR d t ks hk).2 m) fs.toList 0 l hf (by omega) (λf hm=>by
      obtain⟨i,hi,rfl⟩:=List.getElem_of_mem hm;have h1:=hfs i fs.toList[i] (by simp);rw[List.getElem?_eq_getElem (by rw[hlen];simpa using hi)]at h1;exact⟨_,h1⟩)
     rwa[List.drop_zero,List.take_of_length_le (by omega)]at this
    .cases h
  .rename_i n e hu
   cases he:ZgF P d e with
   |none=>simp[he]at h
   | some l=>
    simp only[he]at h;split at h
    .rename_i hc;simp only[Option.some.injEq]at h;subst h;refine⟨by rw[hc.1];simp,λm cs x hx=>?_⟩;obtain⟨xs,m',_,rfl,hl,hlen,hfs⟩:=DataW.trod_array hu hx;have key:∀j,j<=n->OkL (List.replicate j l).flatten (cs.take (j*l.length)):=by
      intro j
      induction j with
      |zero=>intro _;simpa using OkL.nil
      |succ j ih=>
       intro hj;have h1:=hfs j (by omega);rw[List.getElem?_eq_getElem (by omega)]at h1;have h2:=(ZiR d e l he).2 m' _ _ h1;rw[hc.2]at h2;rw[List.replicate_succ',List.flatten_append,Nat.add_mul,Nat.one_mul,List.take_add];simpa using(ih (by omega)).append h2
     have:=key n (Nat.le_refl _);rwa[List.take_of_length_le (by omega)]at this
    .cases h
  .cases h
end op

def toV:Value->V
 |.int k n=>.i k n
 |.bool x=>.b x
 |_=>.un
theorem OkL.rel{K:Fid}{ρ:Rho}{ks:List (Option IntKind)}{cs:List Value}(h:OkL ks cs):RelL K ρ (cs.map toV) cs:=by
 induction h with
 |nil=>exact .nil
 |i hw _ ih=>exact .cons (.i _ _) ih
 |b _ ih=>exact .cons (.b _) ih
theorem RelL.at{K:Fid}{ρ:Rho}{vs:List V}{xs:List Value}(h:RelL K ρ vs xs){i:Nat}{v:V}(hi:vs[i]?=some v):∃x,xs[i]?=some x/\Rel K ρ v x:=by
 induction vs generalizing xs i with
 |nil=>simp at hi
 | cons a l ih=>
  cases h with
  |cons h t=>
   cases i with
   |zero=>simp at hi;subst hi;exact⟨_,rfl,h⟩
   |succ i=>exact ih t (by simpa using hi)

def Wf(k:IntKind)(n:Int):Prop:=(Lit.int k n).wf=true
theorem Wf.i64{n:Int}(h:Wf .i64 n):-9223372036854775808<=n/\n<=9223372036854775807:=ZrG h
theorem Wf.u8{n:Int}(h:Wf .u8 n):0<=n/\n<=255:=ZtO h
theorem Wf.i8{n:Int}(h:Wf .i8 n):-128<=n/\n<=127:=ZtN h

theorem Inv.row{K:Fid}{w:World}{ρ:Rho}{h:Hp}(hi:Inv K w ρ h w){H:Type}{enc:TypeId×Value->H}{P:Program}{α:Type}{E:Enc α}{R:α->Prop}{t e:TypeId}{ks:List (Option IntKind)}{d fuel:Nat}{cs0:List Value}{x:DataW H×List MemPlace}
  (htr:DataW.trod enc P w 0 (λ_=>true) true fuel t cs0=some x)(ht:P.underlying t=some (.slice e))(hk:ZgF P d e=some ks)(hz:E.sz=ks.length)(hz0:0<E.sz)(hdec:∀cs,OkL ks cs->∃x:α,E.c x=cs.map toV/\R x) :
  ∃ρ' h' v sv,∃l:List α,cs0=[sv]/\Inv K w ρ' h' w/\ρ.le ρ'/\Ext h.n h h'/\Rel K ρ' v sv/\Sl E h' v l/\l.length<=Go.maxLen/\∀y∈l,R y:=by
 rcases Go.Deep.open_slice ht htr with⟨hc,_⟩|⟨A,len,cap,m,n,D,Pl,hc,_,hl,hm,hmm,_,hel⟩
 .subst hc;exact⟨ρ,h,.sn,_,[],rfl,hi,.refl _,.refl,.sn,.nil,by simp,by simp⟩
 .subst hc;simp only[if_true]at hmm;subst hmm;obtain⟨hce,hok⟩:=ZiR (H:=H) (enc:=enc) (w:=w) (base:=0) (spare:=λ_=>true) (held:=true) d e ks hk;by_cases h0:m=0
  .subst h0;obtain rfl:len=0:=by omega
   refine⟨_,_,.sl E.sz h.n 0 0 0 false,_,[],rfl,hi.dull (L:=⟨0,0,0⟩),Rho.set_le hi.dom,Ext.put (Nat.le_refl _),?_,.emp,by simp,by simp⟩;exact .sl (L:=⟨0,0,0⟩) (by simp[Rho.set]) (by omega) (by omega) (by simp) (by omega) (.inl rfl)
  ·-- every element
   have hall:∀i,i<m->∃y:α,∃cs',w.cells? 0 (A.add (i*P.cellsOf e)) (P.cellsOf e)=some cs'/\OkL ks cs'/\E.c y=cs'.map toV/\R y:=by
    intro i hi';obtain⟨cs',h1,h2⟩:=hel i hi';have ho:=hok n cs' _ h2;obtain⟨y,hy,hr⟩:=hdec cs' ho;exact⟨y,cs',h1,ho,hy,hr⟩
   have:Nonempty α:=by obtain⟨y,_⟩:=hall 0 (by omega);exact⟨y⟩
   let f:Nat->α:=λi=>if hi:i<m then(hall i hi).choose else Classical.choice this;have hf:∀i,i<m->∃cs',w.cells? 0 (A.add (i*P.cellsOf e)) (P.cellsOf e)=some cs'/\OkL ks cs'/\E.c (f i)=cs'.map toV/\R (f i):=by
    intro i hi';have:=(hall i hi').choose_spec;simpa[f,hi']using this
   let L:List α:=(List.range m).map f;have hLl:L.length=m:=by simp[L]
   -- the row's cells
   have hcell:∀q,q<m*E.sz->∃y,w.cell? (A.add q)=some y/\∃v,((L.map E.c).flatten)[q]?=some v/\Rel K (ρ.set h.n ⟨A.block,A.off,A.off+m*E.sz⟩) v y:=by
    intro q hq;have hj:q/E.sz<m:=Nat.div_lt_of_lt_mul (by rw[Nat.mul_comm];exact hq);have hr:q%E.sz<E.sz:=Nat.mod_lt _ hz0;have hqe:q/E.sz*E.sz+q%E.sz=q:=by rw[Nat.mul_comm];exact Nat.div_add_mod q E.sz
    obtain⟨cs',h1,h2,h3,_⟩:=hf _ hj;obtain⟨_,hlen,hcs⟩:=World.cells?_some h1;have hcell:=hcs (q%E.sz) (by rw[hce,<-hz];exact hr);rw[Go.Deep.add_add,hce,<-hz,hqe]at hcell;have hq':q%E.sz<cs'.length:=by rw[h2.length,<-hz];exact hr
    have hfl:=ZiP (E:=E) L (q/E.sz) (q%E.sz) hr (by rw[hLl];exact hj);rw[hqe]at hfl;have hLj:L[q/E.sz]'(by rw[hLl];exact hj)=f (q/E.sz):=by simp[L]
    rw[hLj,h3]at hfl;have hmap:(cs'.map toV)[q%E.sz]?=some (toV cs'[q%E.sz]):=by simp[hq']
    obtain⟨y,hy,hrel⟩:=(h2.rel (K:=K) (ρ:=ρ.set h.n ⟨A.block,A.off,A.off+m*E.sz⟩)).at hmap;exact⟨y,by rw[hcell];exact hy,_,by rw[hfl];exact hmap,hrel⟩
   have hx:A.spot=none:=by
    obtain⟨y,hy,_⟩:=hcell 0 (Nat.mul_pos (by omega) hz0);simp only[Addr.add,if_true,World.cell?]at hy
    cases hs:A.spot with
    |none=>rfl
    |some s=>
     simp only[hs]at hy;split at hy<;>simp at hy
   obtain⟨y0,hy0,_⟩:=hcell 0 (Nat.mul_pos (by omega) hz0);have hb:=(ZfU hy0).2;have hfl:((L.map E.c).flatten).length=m*E.sz:=by rw[zN,hLl]
   refine⟨_,_,.sl E.sz h.n 0 len m true,_,L.take len,rfl,hi.lay (blk:=A.block) (off:=A.off) (size:=A.off+m*E.sz) (vs:=(L.map E.c).flatten) hb ?_,Rho.set_le hi.dom,Ext.put (Nat.le_refl _),?_,?_,?_,?_⟩
   .intro i v hv;have hi':i<m*E.sz:=by
     rw[<-hfl];exact(List.getElem?_eq_some_iff.1 hv).1
    obtain⟨y,h1,v',h2,h3⟩:=hcell i hi';have hvv:v'=v:=by
     rw[hv]at h2;exact(Option.some.inj h2).symm
    subst hvv;refine⟨y,(ZfU h1).1,?_⟩
    -- a value of a flat kind needs no references
    cases h3 with
    |b x=>exact .b x
    |i k n=>exact .i k n
    |s x=>exact .s x
    |pn=>exact .pn
    |sn=>exact .sn
    |nf=>exact .nf
    |ni=>exact .ni
    | _=>
     exfalso;obtain⟨cs',g1,g2,g3,_⟩:=hf (i/E.sz) (Nat.div_lt_of_lt_mul (by rw[Nat.mul_comm];exact hi'));have hr:i%E.sz<E.sz:=Nat.mod_lt _ hz0;have hqe:i/E.sz*E.sz+i%E.sz=i:=by rw[Nat.mul_comm];exact Nat.div_add_mod i E.sz
     have hj:i/E.sz<m:=Nat.div_lt_of_lt_mul (by rw[Nat.mul_comm];exact hi');have hfl2:=ZiP (E:=E) L (i/E.sz) (i%E.sz) hr (by rw[hLl];exact hj);have hLj:L[i/E.sz]'(by rw[hLl];exact hj)=f (i/E.sz):=by simp[L]
     rw[hqe,hLj,g3,hv]at hfl2;have:∀{ks cs}{i:Nat}{v:V},OkL ks cs->(cs.map toV)[i]?=some v->(∃x,v=.b x)\/∃k n,v=.i k n:=by
      intro ks cs i v ho
      induction ho generalizing i with
      |nil=>intro hh;simp at hh
      |i hw _ ih=>
       intro hh
       cases i with
       |zero=>simp[toV]at hh;exact .inr ⟨_,_,hh.symm⟩
       |succ i=>exact ih (by simpa using hh)
      |b _ ih=>
       intro hh
       cases i with
       |zero=>simp[toV]at hh;exact .inl ⟨_,hh.symm⟩
       |succ i=>exact ih (by simpa using hh)
     rcases this g2 hfl2.symm with⟨_,h⟩|⟨_,_,h⟩<;>cases h
   .refine .sl (L:=⟨A.block,A.off,A.off+m*E.sz⟩) (by simp[Rho.set]) hl (Nat.le_refl _) (λ_=>rfl) hz0 (.inr ⟨?_,by simp⟩);cases A;simp_all
   .refine .sl (w:=false) (cs:=(L.map E.c).flatten) (by simp) (by simp[hLl];omega) hl (by
     rw[hfl,Nat.zero_add];exact Nat.mul_le_mul_right _ hl) ?_
    rw[piece,List.drop_zero,Zdj]
   .simp[hLl];omega
   .intro y hy;have hy:=List.mem_of_mem_take hy;simp only[L,List.mem_map,List.mem_range]at hy;obtain⟨i,hi',rfl⟩:=hy;exact(hf i hi').choose_spec.2.2.2

theorem OkL.inv_i{k:IntKind}{ks:List (Option IntKind)}{cs:List Value}(h:OkL (some k::ks) cs):∃n cs',cs=.int k n::cs'/\Wf k n/\OkL ks cs':=by
 cases h with
 |i hw t=>exact⟨_,_,rfl,hw,t⟩
theorem OkL.inv_b{ks:List (Option IntKind)}{cs:List Value}(h:OkL (none::ks) cs):∃x cs',cs=.bool x::cs'/\OkL ks cs':=by
 cases h with
 |b t=>exact⟨_,_,rfl,t⟩
theorem OkL.inv_n{cs:List Value}(h:OkL [] cs):cs=[]:=by cases h;rfl

section st
variable {H:Type}{enc:TypeId×Value->H}{P:Program}{w:World}{base:Nat}{spare:Nat->Bool}{held:Bool}
theorem ZcL{t:TypeId}{fs:Array Go.Field}{n:Nat}{cs:List Value}{x:DataW H×List MemPlace}(h:DataW.trod enc P w base spare held n t cs=some x)(ht:P.underlying t=some (.struct fs))(i:Nat){f:Go.Field}(hf:fs.toList[i]?=some f){sz:Nat}(hs:P.cellsOf f.type=sz) :
  ∃m y,DataW.trod enc P w base spare held m f.type ((cs.drop f.offset).take sz)=some y:=by
 obtain⟨xs,m,_,rfl,hl,hlen,hfs⟩:=DataW.trod_struct ht h;have h1:=hfs i f (by simpa using hf);have hi:i<xs.length:=by
  rw[hlen];have:=(List.getElem?_eq_some_iff.1 hf).1;simpa using this
 rw[List.getElem?_eq_getElem hi,hs]at h1;exact⟨m,_,h1⟩
theorem ZhM{t:TypeId}{fs:Array Go.Field}{n:Nat}{cs:List Value}{x:DataW H×List MemPlace}(h:DataW.trod enc P w base spare held n t cs=some x)(ht:P.underlying t=some (.struct fs)){sz:Nat}(hs:P.cellsOf t=sz):cs.length=sz:=by
 obtain⟨xs,m,_,rfl,hl,hlen,hfs⟩:=DataW.trod_struct ht h;omega
end st
theorem ZlO{α:Type}{l p q:List α}{o n:Nat}(h1:(l.drop o).take n=p)(h2:l.drop (o+n)=q):l.drop o=p++q:=by
 rw[<-h1,<-h2,<-List.drop_drop,List.take_append_drop]
theorem Zp8{α:Type}{l:List α}{n:Nat}(h:l.length=n):l.drop n=[]:=List.drop_of_length_le (by omega)
theorem Zh6{P:Program}{w:World}{r:Go.Reach}{base:Nat}{t:TypeId}{v:Value}(h:Value.okWide P w r base t v)(ht:(∃fs,P.underlying t=some (.struct fs))\/∃n e,P.underlying t=some (.array n e)):∃cs,v=.agg cs:=by
 rcases ht with⟨fs,ht⟩|⟨n,e,ht⟩ <;>
 .simp only[Value.okWide,ht]at h;obtain⟨cs,h1,_⟩:=h;exact⟨cs,h1⟩
end Mu
