/- A call's start: the rows that came in. -/
import Derived.Test.YtjhlegefgllihaaGreatMuE10
import Derived.Test.YtjhlegefgllihaaGreatMuL
namespace Mu
open Go (IntKind BinOp UnOp Value World Addr TypeId)
open Go.RowKit (Below)
variable {K:Fid}{w:World}

def Hp.none:Hp:=⟨λ_=>Option.none,0,λ_ _=>rfl⟩

theorem Inv.start:Inv K w (λ_=>none) Hp.none w where
 below:=Below.refl _ _
 dom:=λr=>by simp[Hp.none]
 ro:=λr cs h=>by simp[Hp.none]at h
 rw:=λr cs h=>by simp[Hp.none]at h
 mp:=λr cs h=>by simp[Hp.none]at h
 inj:=λr r' L L' h=>by simp at h

theorem Rho.set_le{ρ:Rho}{h:Hp}(hd:∀r,ρ r=none↔h.m r=none){L:Loc}:ρ.le (ρ.set h.n L):=by
 intro q M hq;have:q≠h.n:=by
  rintro rfl;rw[(hd h.n).2 (h.wf _ (Nat.le_refl _))]at hq;cases hq
 simp only[Rho.set,if_neg this,hq]

theorem ZfU{x:Addr}{i:Nat}{y:Value}(h:w.cell? (x.add i)=some y):w.cell? ⟨x.block,x.off+i,none⟩=some y/\x.block<w.heap.size:=by
 have hb:(x.add i).block=x.block:=by unfold Addr.add;split<;>rfl
 have ho:(x.add i).off=x.off+i:=by unfold Addr.add;split<;>simp_all
 unfold World.cell? at h⊢;rw[hb,ho]at h;simp only
 cases hx:w.heap[x.block]? with
 |none=>simp[hx]at h
 | some b=>
  have hlt:x.block<w.heap.size:=by
   rw[Array.getElem?_eq_some_iff]at hx;exact hx.1
  refine⟨?_,hlt⟩;rw[hx]at h;cases b<;>simp at h⊢;exact h.2

theorem Inv.lay{ρ:Rho}{h:Hp}(hi:Inv K w ρ h w){blk off size:Nat}{vs:List V}(hb:blk<w.heap.size)(hc:∀i v,vs[i]?=some v->∃y,w.cell? ⟨blk,off+i,none⟩=some y/\Rel K ρ v y) :
  Inv K w (ρ.set h.n ⟨blk,off,size⟩) (h.put h.n (.cells false vs)) w:=by
 have hle:ρ.le (ρ.set h.n ⟨blk,off,size⟩):=Rho.set_le hi.dom;refine⟨hi.below,λr=>?_,λr cs hm=>?_,λr cs hm=>?_,λr es hm=>?_,λr r' L L' h1 h2 h3 h4 h5=>?_⟩
 .simp only[Rho.set,Hp.put_at];split
  .simp
  .exact hi.dom r
 .simp only[Hp.put_at]at hm;split at hm
  .rename_i hr;simp at hm;subst hm;refine⟨⟨blk,off,size⟩,by simp[Rho.set,hr],hb,λi v hv=>?_⟩;obtain⟨y,hy,hr⟩:=hc i v hv;exact⟨y,hy,hr.mono hle⟩
  .obtain⟨L,hL,hlt,hcs⟩:=hi.ro r cs hm;refine⟨L,hle _ _ hL,hlt,λi v hv=>?_⟩;obtain⟨y,hy,hr⟩:=hcs i v hv;exact⟨y,hy,hr.mono hle⟩
 .simp only[Hp.put_at]at hm;split at hm
  .simp at hm
  .obtain⟨L,hL,hlt,c,e,q1,q2,q3,q4⟩:=hi.rw r cs hm;exact⟨L,hle _ _ hL,hlt,c,e,q1,q2,q3,RelL.mono hle q4⟩
 .simp only[Hp.put_at]at hm;split at hm
  .simp at hm
  .obtain⟨L,hL,hlt,xs,c,q1,q2,q3⟩:=hi.mp r es hm;exact⟨L,hle _ _ hL,hlt,xs,c,q1,RelL.mono hle q2,RelL.mono hle q3⟩
 .simp only[Hp.put_at]at h3 h4;by_cases hr:r=h.n
  .simp[hr]at h3
  .by_cases hr':r'=h.n
   .simp[hr']at h4
   .simp only[if_neg hr]at h3;simp only[if_neg hr']at h4;simp only[Rho.set,if_neg hr]at h1;simp only[Rho.set,if_neg hr']at h2;exact hi.inj r r' L L' h1 h2 h3 h4 h5

theorem Inv.dull{ρ:Rho}{h:Hp}(hi:Inv K w ρ h w){L:Loc}:Inv K w (ρ.set h.n L) (h.put h.n .dead) w:=by
 have hle:ρ.le (ρ.set h.n L):=Rho.set_le hi.dom;refine⟨hi.below,λr=>?_,λr cs hm=>?_,λr cs hm=>?_,λr es hm=>?_,λr r' L L' h1 h2 h3 h4 h5=>?_⟩
 .simp only[Rho.set,Hp.put_at];split
  .simp
  .exact hi.dom r
 .simp only[Hp.put_at]at hm;split at hm
  .simp at hm
  .obtain⟨L,hL,hlt,hcs⟩:=hi.ro r cs hm;refine⟨L,hle _ _ hL,hlt,λi v hv=>?_⟩;obtain⟨y,hy,hr⟩:=hcs i v hv;exact⟨y,hy,hr.mono hle⟩
 .simp only[Hp.put_at]at hm;split at hm
  .simp at hm
  .obtain⟨L,hL,hlt,c,e,q1,q2,q3,q4⟩:=hi.rw r cs hm;exact⟨L,hle _ _ hL,hlt,c,e,q1,q2,q3,RelL.mono hle q4⟩
 .simp only[Hp.put_at]at hm;split at hm
  .simp at hm
  .obtain⟨L,hL,hlt,xs,c,q1,q2,q3⟩:=hi.mp r es hm;exact⟨L,hle _ _ hL,hlt,xs,c,q1,RelL.mono hle q2,RelL.mono hle q3⟩
 .simp only[Hp.put_at]at h3 h4;by_cases hr:r=h.n
  .simp[hr]at h3
  .by_cases hr':r'=h.n
   .simp[hr']at h4
   .simp only[if_neg hr]at h3;simp only[if_neg hr']at h4;simp only[Rho.set,if_neg hr]at h1;simp only[Rho.set,if_neg hr']at h2;exact hi.inj r r' L _ h1 h2 h3 h4 h5

theorem Inv.ints{ρ:Rho}{h:Hp}(hi:Inv K w ρ h w){k:IntKind}{a:Option Addr}{len cap:Nat}{zs:List Int}
  (hr:(a=none/\len=0/\cap=0/\zs=[])\/∃x,a=some x/\len<=cap/\cap<=Go.maxLen/\zs.length=cap/\(∀i,i<zs.length->w.cell? (x.add i)=some (.int k (zs.getD i 0)))/\∀n∈zs,(Go.Lit.int k n).wf=true) :
  ∃ρ' h' v,Inv K w ρ' h' w/\ρ.le ρ'/\Rel K ρ' v (.slice a len cap)/\Sl (⟨1,λz=>[.i k z],λ_=>rfl⟩:Enc Int) h' v (zs.take len)/\∀n∈zs.take len,(Go.Lit.int k n).wf=true:=by
 rcases hr with⟨rfl,rfl,rfl,rfl⟩|⟨x,rfl,hl,hm,hz,hc,hwf⟩
 .exact⟨ρ,h,.sn,hi,.refl _,.sn,.nil,by simp⟩
 .by_cases h0:cap=0
  .subst h0;obtain rfl:len=0:=by omega
   obtain rfl:zs=[]:=List.length_eq_zero_iff.mp hz;refine⟨_,_,.sl 1 h.n 0 0 0 false,hi.dull (L:=⟨0,0,0⟩),Rho.set_le hi.dom,?_,.emp,by simp⟩;exact .sl (L:=⟨0,0,0⟩) (by simp[Rho.set]) (by omega) (by omega) (by simp) (by omega) (.inl rfl)
  .have hb:=(ZfU (hc 0 (by omega))).2;refine⟨_,_,.sl 1 h.n 0 len cap true,hi.lay (blk:=x.block) (off:=x.off) (size:=x.off+cap) (vs:=zs.map (.i k)) hb ?_,Rho.set_le hi.dom,?_,?_,λn hn=>hwf n (List.mem_of_mem_take hn)⟩
   .intro i v hv;have hi':i<zs.length:=by
     rw[List.getElem?_eq_some_iff]at hv;simpa using hv.1
    refine⟨_,(ZfU (hc i hi')).1,?_⟩;simp[hi']at hv;subst hv;simp[hi'];exact .i _ _
   .have hx:x.spot=none:=by
     have:=hc 0 (by omega);simp only[Addr.add,if_true,World.cell?]at this
     cases hs:x.spot with
     |none=>rfl
     |some s=>
      simp only[hs]at this;split at this<;>simp at this
    refine .sl (L:=⟨x.block,x.off,x.off+cap⟩) (by simp[Rho.set]) hl (Nat.le_refl _) (λ_=>rfl) (by omega) (.inr ⟨?_,by simp⟩);cases x;simp_all
   .refine .sl (w:=false) (cs:=zs.map (.i k)) (by simp) (by simp;omega) hl (by simp;omega) ?_;rw[piece,List.drop_zero,Nat.mul_one,<-List.map_take];generalize zs.take len=l
    induction l with
    |nil=>rfl
    |cons x l ih=>simp only[List.map_cons,List.flatten_cons,ih,List.cons_append,List.nil_append]

/-! The functions' numbers. -/
def AllK(P:Go.Program)(K:Fid)(N:Prog):List (Nat×Nat)->Prop
 |[]=>True
 |p::l=>(∃f g,P.funcs[p.1]?=some f/\N p.2=some g/\Fits P K p.1 f g)/\AllK P K N l
theorem AllK.get{P:Go.Program}{N:Prog}:∀{l:List (Nat×Nat)},AllK P K N l->∀{fid id:Nat},l.lookup fid=some id->∃f g,P.funcs[fid]?=some f/\N id=some g/\Fits P K fid f g
 |[],_,_,_,h=>by simp at h
 | (a,b)::l,ha,fid,id,h=>by
  rw[List.lookup_cons]at h;split at h
  .rename_i he;have:fid=a:=by simpa using he
   subst this;simp only[Option.some.injEq]at h;subst h;exact ha.1
  .exact AllK.get ha.2 h
theorem Match.of{P:Go.Program}{N:Prog}{l:List (Nat×Nat)}(hK:K=λf=>l.lookup f)(h:AllK P K N l):Match P K N:=λfid id hf=>AllK.get h (by rw[hK]at hf;exact hf)

theorem ZmG{P:Go.Program}{N:Prog}(hm:Match P K N)(hmix:P.follows .mixedOrders=true){f fid:Nat}{args:List V}{xs:Array Value}{h:Hp}{ρ:Rho}{t:Bool}(hK:K fid=some f)(hargs:RelL K ρ args xs.toList)(hi:Inv K w ρ h w)
  (hw:WC N f args h λu _=>u=.b t):Go.Calls P fid xs w λe w'=>e=.returned (.bool t)/\Below w.heap.size w w':=by
 obtain⟨k,v,h',he,rfl⟩:=hw;refine(Zhp (w0:=w) hm hmix k f args h _ h' he fid xs w ρ hK hargs hi).mono λe w' hq=>?_;obtain⟨x,ρ',rfl,hr,_,hi'⟩:=hq;cases hr;exact⟨rfl,hi'.below⟩

theorem ZtN{n:Int}(h:(Go.Lit.int .i8 n).wf=true):-128<=n/\n<=127:=by
 simp[Go.Lit.wf,IntKind.min,IntKind.max,IntKind.signed,IntKind.bits]at h;omega
theorem ZtO{n:Int}(h:(Go.Lit.int .u8 n).wf=true):0<=n/\n<=255:=by
 simp[Go.Lit.wf,IntKind.min,IntKind.max,IntKind.signed,IntKind.bits]at h;omega
theorem ZrG{n:Int}(h:(Go.Lit.int .i64 n).wf=true):-9223372036854775808<=n/\n<=9223372036854775807:=by
 simp[Go.Lit.wf,IntKind.min,IntKind.max,IntKind.signed,IntKind.bits]at h;omega
end Mu
