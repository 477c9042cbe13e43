/- The law, plainly: what is worked out. -/
import Derived.Test.YtfdidkebomeiaaaMuV
import Derived.Test.YtfdidkebomeiaaaMuDf
import Derived.Test.YtfdidkebomeiaaaMuK0
/- A cut: an edge split,and a corner joined to it. -/
set_option linter.unusedVariables false
set_option linter.unusedSimpArgs false
set_option maxRecDepth 10000
namespace Mu
/-! Faces,once round from their first Zcu. -/
theorem ZiD {l:List Za}(hc:Ck l) {M:List Da}(hM:Mets l M) (cl:∀ p∈M,bh l p∈M) {x:Da}(hx:isD l x) (hn:x ∉ M):∃ K,walk l (4*l.length+1) M x=(List.range K).map (fun i=>it l i x)∧it l K x=x:=by
 obtain ⟨K,e1,e2⟩:=ZfT hc (4*l.length+1) M x hM hx (by omega);obtain ⟨C,_⟩:=Zfl hc hM cl hx hn;refine ⟨K,e1,?_⟩;have wnd:=C.nd;have notM:∀ i,it l i x ∉ M:=by
  intro i
  induction i with
  | zero=>exact hn
  | succ i ih=>exact fun h=>ih (ZfB hc hM cl (Zeh hc hx i) h)
 rcases List.mem_append.1 e2 with h|h
 ·exact absurd h (notM K)
 ·rw [e1] at h wnd;obtain ⟨j,hj,e⟩:=List.mem_map.1 h;rw [List.mem_range] at hj
  cases j with
  | zero=>exact e.symm
  | succ j =>
   cases K with
   | zero=>omega
   | succ K =>
    have:=Zda hc (Zeh hc hx j) (Zeh hc hx K) e;have q:=List.pairwise_map.1 wnd;rw [List.pairwise_iff_getElem] at q;have q2:=q j K (by simp;omega) (by simp) (by omega);rw [List.getElem_range,List.getElem_range] at q2;exact absurd this q2
def Round (l:List Za) (f:List Da):Prop:=∃ x,isD l x∧f=(List.range f.length).map (fun i=>it l i x)∧it l f.length x=x
theorem Round.of {l:List Za}{f:List Da}{x:Da}{K:Nat}(hx:isD l x) (h:f=(List.range K).map (fun i=>it l i x)) (h2:it l K x=x):Round l f:=by
 have:f.length=K:=by rw [h];simp
 exact ⟨x,hx,by rw [this];exact h,by rw [this];exact h2⟩
structure FR (l:List Za) (s:List Da×List (List Da)):Prop where
 fc:FC l s
 rd:∀ f∈s.2,Round l f
theorem FR.st {l:List Za}(hc:Ck l) {s:List Da×List (List Da)}(h:FR l s) {p:Da}(h1:p.1<l.length) (h2:p.2<4):FR l (stF l s p):=by
 refine ⟨h.fc.st hc h1 h2,?_⟩;unfold stF;split
 ·exact h.rd
 ·rename_i c;intro f hf;rcases List.mem_append.1 hf with k|k
  ·exact h.rd f k
  ·rw [List.mem_singleton.1 k];have hp:isD l p:=⟨h1,h2,by omega⟩;obtain ⟨K,a,b⟩:=ZiD hc h.fc.fi.m h.fc.cl hp fun q=>c (.inr q);exact Round.of hp a b
theorem FR.row {l:List Za}(hc:Ck l) {s:List Da×List (List Da)}(h:FR l s) {v:Nat}(hv:v<l.length):∀ e,e≤4→FR l (Zf0 l v s e)
 | 0,_=>h
 | e+1,he=>(FR.row hc h hv e (by omega)).st hc hv (by dsimp only;omega)
theorem ZhB {l:List Za}(hc:Ck l):∀ v,v≤l.length→FR l (FS l v)
 | 0,_=>⟨Zih hc 0 (by omega),by simp [FS]⟩
 | v+1,hv=>(ZhB hc v (by omega)).row hc (by omega) 4 (by omega)
theorem ZhO {l:List Za}(hc:Ck l):∀ f∈faces l,Round l f:=(ZhB hc l.length (by omega)).rd
theorem Zkk {l:List Za}{x:Da}(a:Nat):∀ b,it l (a+b) x=it l b (it l a x)
 | 0=>rfl
 | b+1=>by rw [← Nat.add_assoc,it,Zkk a b];rfl
theorem Zkm {l:List Za}{x:Da}{n:Nat}(h:it l n x=x):∀ k i,it l (i+n*k) x=it l i x
 | 0,i=>by rw [Nat.mul_zero,Nat.add_zero]
 | k+1,i=>by rw [Nat.mul_succ,← Nat.add_assoc,Nat.add_comm _ n,Zkk,h,Zkm h k i]
theorem Zm9 {l:List Za}{x:Da}{n:Nat}(h:it l n x=x) (i:Nat):it l (i%n) x=it l i x:=by
 have:=Zkm h (i / n) (i%n);rw [Nat.mod_add_div] at this;exact this.symm
theorem Round.at {l:List Za}{f:List Da}{x:Da}(h:f=(List.range f.length).map (fun i=>it l i x)) (h2:it l f.length x=x) {i:Nat}(hf:0<f.length):gi f (i%f.length)=it l i x:=by
 have lt:i%f.length<f.length:=Nat.mod_lt _ hf;have:gi f (i%f.length)=gi ((List.range f.length).map (fun i=>it l i x)) (i%f.length):=by rw [← h]
 rw [this,Zb4 lt,Zm9 h2]
theorem ZkL {d e:Nat}(hd:d<4) (he:e<4):∃ k:Int,(e:Int)=d+tn d e+4*k:=by
 have a:d=0∨d=1∨d=2∨d=3:=by omega
 have b:e=0∨e=1∨e=2∨e=3:=by omega
 rcases a with rfl|rfl|rfl|rfl<;>rcases b with rfl|rfl|rfl|rfl<;>first|exact ⟨0,by decide⟩|exact ⟨1,by decide⟩|exact ⟨-1,by decide⟩
theorem Pt.dir {l:List Za}(hc:Ck l):∀ {s:List Da}{x y:Da},Pt l x s y→∃ k:Int,(y.2:Int)=x.2+zH l s+4*k
 | [],x,y,h=>by
  rw [Pt] at h;subst h;exact ⟨0,by rw [Zdk];omega⟩
 | a::s,x,y,h=>by
  rw [Pt] at h;obtain ⟨rfl,h1,h2⟩:=h;obtain ⟨k,e⟩:=Pt.dir hc h2;obtain ⟨k',e'⟩:=ZkL h1.2.1 (h1.bh hc).2.1;refine ⟨k+k',?_⟩;rw [zJ];unfold tt;omega
/-! Edges split. -/
section spl
variable {l:List Za}{a b w:Nat}
def ZdH (l:List Za) (a b w:Nat) (p:Da):List Da:=if p=(a,b) then [p,(l.length,b)] else if p=(w,(b+2)%4) then [p,(l.length,(b+2)%4)] else [p]
structure Sp (l m:List Za) (a b w:Nat):Prop where
 ck:Ck m
 len:m.length=l.length+1
 ha:a<l.length
 hb:b<4
 hw:w<l.length
 hn:nx l a b=w
 hne:w≠a
 nx:∀ i e,i≤l.length→e<4→nx m i e=(if i=l.length then (if e=b then (w:Int) else if e=(b+2)%4 then (a:Int) else -1) else if i=w∧e=(b+2)%4 then (l.length:Int) else if i=a∧e=b then (l.length:Int) else nx l i e)
 ow:∀ i e,i≤l.length→e<4→ow m i e=(if i=l.length then (if e=b then ow l a b else if e=(b+2)%4 then ow l a b else 0) else if i=w∧e=(b+2)%4 then ow l a b else if i=a∧e=b then ow l a b else ow l i e)
theorem Sp.of (hc:Ck l) (ha:a<l.length) (hb:b<4) (hn:Mu.nx l a b=w):Sp l (spl l a b w (Mu.ow l a b)) a b w:=by
 obtain ⟨h1,h2,h3⟩:=hc.spl ha hb hn;exact ⟨h3,Zjc,ha,hb,h1,hn,h2,fun i e hi he=>(Ziz ha h1 hb hi he).1,fun i e hi he=>(Ziz ha h1 hb hi he).2⟩
variable {m:List Za}
theorem Sp.back (hc:Ck l) (S:Sp l m a b w):Mu.nx l w ((b+2)%4)=a:=(hc.back' S.ha S.hb S.hn).2
theorem Sp.old (hc:Ck l) (S:Sp l m a b w) {i e:Nat}(hi:i<l.length) (he:e<4):0≤Mu.nx m i e↔0≤Mu.nx l i e:=by
 rw [S.nx i e (by omega) he,if_neg (by omega)];have:=S.back hc;have:=S.hn;by_cases c1:i=w∧e=(b+2)%4
 ·rw [if_pos c1,c1.1,c1.2];omega
 ·rw [if_neg c1];by_cases c2:i=a∧e=b
  ·rw [if_pos c2,c2.1,c2.2];omega
  ·rw [if_neg c2]
theorem Sp.y (S:Sp l m a b w):isD l (a,b):=⟨S.ha,S.hb,by rw [S.hn];omega⟩
theorem Sp.oy (S:Sp l m a b w):opp l (a,b)=(w,(b+2)%4):=by unfold opp;dsimp only;rw [S.hn,itn]
theorem Sp.y' (hc:Ck l) (S:Sp l m a b w):isD l (w,(b+2)%4):=by rw [← S.oy];exact S.y.opp hc
theorem Sp.is (hc:Ck l) (S:Sp l m a b w) {p:Da}(h:isD l p):isD m p:=⟨by rw [S.len];have:=h.1;omega,h.2.1,(S.old hc h.1 h.2.1).2 h.2.2⟩
theorem Sp.bh0 (hc:Ck l) (S:Sp l m a b w) {p:Da}(h:isD l p) (h1:p≠(a,b)) (h2:p≠(w,(b+2)%4)):Mu.nx m p.1 p.2=Mu.nx l p.1 p.2∧bh m p=bh l p:=by
 have f:=h.fwd hc;have hlt:=h.1;have e:Mu.nx m p.1 p.2=Mu.nx l p.1 p.2:=by
  rw [S.nx p.1 p.2 (by omega) h.2.1,if_neg (by omega),if_neg fun q=>h2 (Prod.ext q.1 q.2),if_neg fun q=>h1 (Prod.ext q.1 q.2)]
 refine ⟨e,?_⟩;rw [Zby,Zby,e];refine congrArg (Prod.mk _) (Zcn (fun e he=>?_) h.2.1);rw [decide_eq_decide];exact S.old hc f.1 he
theorem Sp.bh1 (hc:Ck l) (S:Sp l m a b w):Mu.nx m a b=l.length∧bh m (a,b)=(l.length,b)∧bh m (l.length,b)=bh l (a,b)∧bh m (w,(b+2)%4)=(l.length,(b+2)%4)∧bh m (l.length,(b+2)%4)=bh l (w,(b+2)%4):=by
 have hb:=S.hb;have hne:=S.hne;have ha:=S.ha;have hw:=S.hw;have e1:Mu.nx m a b=l.length:=by rw [S.nx a b (by omega) hb,if_neg (by omega),if_neg fun q=>hne q.1.symm,if_pos ⟨rfl,rfl⟩]
 have e2:Mu.nx m w ((b+2)%4)=l.length:=by rw [S.nx w _ (by omega) (by omega),if_neg (by omega),if_pos ⟨rfl,rfl⟩]
 have e3:Mu.nx m l.length b=w:=by rw [S.nx _ b (by omega) hb,if_pos rfl,if_pos rfl]
 have e4:Mu.nx m l.length ((b+2)%4)=a:=by rw [S.nx _ _ (by omega) (by omega),if_pos rfl,if_neg (by omega),if_pos rfl]
 have ne1:Mu.nx m l.length ((b+1)%4)=-1:=by rw [S.nx _ _ (by omega) (by omega),if_pos rfl,if_neg (by omega),if_neg (by omega)]
 have ne3:Mu.nx m l.length ((b+3)%4)=-1:=by rw [S.nx _ _ (by omega) (by omega),if_pos rfl,if_neg (by omega),if_neg (by omega)]
 refine ⟨e1,?_,?_,?_,?_⟩
 ·unfold bh;dsimp only;rw [e1,itn,ne1,e3,if_neg (by omega),if_pos (by omega)]
 ·rw [Zby,Zby];dsimp only;rw [e3,S.hn,itn];exact congrArg (Prod.mk _) (Zcn (fun e he=>by rw [decide_eq_decide];exact S.old hc hw he) hb)
 ·unfold bh;dsimp only;rw [e2,itn,show ((b+2)%4+1)%4=(b+3)%4 by omega,ne3,e4,if_neg (by omega),if_pos (by omega)]
 ·rw [Zby,Zby];dsimp only;rw [e4,S.back hc,itn];exact congrArg (Prod.mk _) (Zcn (fun e he=>by rw [decide_eq_decide];exact S.old hc ha he) (by omega))
theorem Sp.ins (hc:Ck l) (S:Sp l m a b w):Ins l m (ZdH l a b w):=by
 have hb:=S.hb;have hne:=S.hne;have ha:=S.ha;have hw:=S.hw;obtain ⟨n1,b1,b2,b3,b4⟩:=S.bh1 hc;have n3:Mu.nx m l.length b=w:=by rw [S.nx _ b (by omega) hb,if_pos rfl,if_pos rfl]
 have n4:Mu.nx m l.length ((b+2)%4)=a:=by rw [S.nx _ _ (by omega) (by omega),if_pos rfl,if_neg (by omega),if_pos rfl]
 have yy:((w,(b+2)%4):Da)≠(a,b):=fun q=>hne (congrArg Prod.fst q);have U1:isD m (l.length,b):=⟨by rw [S.len];dsimp only;omega,hb,by dsimp only;rw [n3];omega⟩;have U2:isD m (l.length,(b+2)%4):=⟨by rw [S.len];dsimp only;omega,by dsimp only;omega,by dsimp only;rw [n4];omega⟩;have hd:∀ p,isD l p→p∈ZdH l a b w p:=by
  intro p _;unfold ZdH;split
  ·simp
  ·split<;>simp
 refine ⟨fun p hp e=>?_,fun p hp=>?_,fun p hp x hx=>?_,fun p q hp hq x h1 h2=>?_,fun p hp=>?_,fun p hp x hx=>?_,fun C hC p hp hx y hy=>?_,fun x hx=>?_⟩
 ·have:=hd p hp;rw [e] at this;simp at this
 ·have:=hp.1;unfold ZdH;split
  ·rename_i c;rw [c];simp;omega
  ·split
   ·rename_i c;rw [c];simp;omega
   ·simp
 ·unfold ZdH at hx;split at hx
  ·rcases List.mem_cons.1 hx with rfl|hx
   ·exact S.is hc hp
   ·rw [List.mem_singleton.1 hx];exact U1
  ·split at hx
   ·rcases List.mem_cons.1 hx with rfl|hx
    ·exact S.is hc hp
    ·rw [List.mem_singleton.1 hx];exact U2
   ·rw [List.mem_singleton.1 hx];exact S.is hc hp
 ·have hp1:=hp.1;have hq1:=hq.1;have key:∀ {p x},isD l p→x∈ZdH l a b w p→x=p∨(x=(l.length,b)∧p=(a,b))∨(x=(l.length,(b+2)%4)∧p=(w,(b+2)%4)):=by
   intro p x hp h;unfold ZdH at h;split at h
   ·rename_i c;rcases List.mem_cons.1 h with h|h
    ·exact .inl h
    ·exact .inr (.inl ⟨List.mem_singleton.1 h,c⟩)
   ·split at h
    ·rename_i c;rcases List.mem_cons.1 h with h|h
     ·exact .inl h
     ·exact .inr (.inr ⟨List.mem_singleton.1 h,c⟩)
    ·exact .inl (List.mem_singleton.1 h)
  rcases key hp h1 with k|⟨k,k'⟩|⟨k,k'⟩<;>rcases key hq h2 with r|⟨r,r'⟩|⟨r,r'⟩
  ·rw [← k,r]
  ·rw [← k,r] at hp1;dsimp only at hp1;omega
  ·rw [← k,r] at hp1;dsimp only at hp1;omega
  ·rw [← r,k] at hq1;dsimp only at hq1;omega
  ·rw [k',r']
  ·rw [k] at r;injection r with _ r;omega
  ·rw [← r,k] at hq1;dsimp only at hq1;omega
  ·rw [k] at r;injection r with _ r;omega
  ·rw [k',r']
 ·unfold ZdH;split
  ·rename_i c;subst c;simp only [List.map_cons,List.map_nil,List.sum_cons,List.sum_nil,b1,b2];have:tn b b=0:=by unfold tn;rw [if_pos rfl]
   omega
  ·split
   ·rename_i c;subst c;simp only [List.map_cons,List.map_nil,List.sum_cons,List.sum_nil,b3,b4];have:tn ((b+2)%4) ((b+2)%4)=0:=by unfold tn;rw [if_pos rfl]
    omega
   ·rename_i c1 c2;simp only [List.map_cons,List.map_nil,List.sum_cons,List.sum_nil,(S.bh0 hc hp c1 c2).2];omega
 ·unfold ZdH at hx;split at hx
  ·rename_i c;rcases List.mem_cons.1 hx with rfl|hx
   ·subst c;rw [b1];left;unfold ZdH;rw [if_pos rfl];simp
   ·rw [List.mem_singleton.1 hx,b2,c];right;exact hd _ (S.y.bh hc)
  ·split at hx
   ·rename_i c;rcases List.mem_cons.1 hx with rfl|hx
    ·subst c;rw [b3];left;unfold ZdH;rw [if_neg yy,if_pos rfl];simp
    ·rw [List.mem_singleton.1 hx,b4,c];right;exact hd _ ((S.y' hc).bh hc)
   ·rename_i c1 c2;rw [List.mem_singleton.1 hx,(S.bh0 hc hp c1 c2).2];right;exact hd _ (hp.bh hc)
 ·-- one's first dart,then all
  have all:∀ q,isD l q→C q→∀ y∈ZdH l a b w q,C y:=by
   intro q hq hCq y hy;unfold ZdH at hy;split at hy
   ·rename_i c;subst c;rcases List.mem_cons.1 hy with rfl|hy
    ·exact hCq
    ·rw [List.mem_singleton.1 hy,← b1];exact hC _ (S.is hc hq) hCq
   ·split at hy
    ·rename_i c;subst c;rcases List.mem_cons.1 hy with rfl|hy
     ·exact hCq
     ·rw [List.mem_singleton.1 hy,← b3];exact hC _ (S.is hc hq) hCq
    ·rw [List.mem_singleton.1 hy];exact hCq
  refine all _ (hp.bh hc) ?_ y hy;obtain ⟨x,hx,hCx⟩:=hx;unfold ZdH at hx;split at hx
  ·rename_i c;subst c;have:C (l.length,b):=by
    rcases List.mem_cons.1 hx with rfl|hx
    ·rw [← b1];exact hC _ (S.is hc hp) hCx
    ·rw [← List.mem_singleton.1 hx];exact hCx
   rw [← b2];exact hC _ U1 this
  ·split at hx
   ·rename_i c;subst c;have:C (l.length,(b+2)%4):=by
     rcases List.mem_cons.1 hx with rfl|hx
     ·rw [← b3];exact hC _ (S.is hc hp) hCx
     ·rw [← List.mem_singleton.1 hx];exact hCx
    rw [← b4];exact hC _ U2 this
   ·rename_i c1 c2;rw [List.mem_singleton.1 hx] at hCx;rw [← (S.bh0 hc hp c1 c2).2];exact hC _ (S.is hc hp) hCx
 ·have h1:=hx.1;have h2:=hx.2.1;rw [S.len] at h1;by_cases c:x.1=l.length
  ·have h3:=hx.2.2;rw [S.nx x.1 x.2 (by omega) h2,if_pos c] at h3;by_cases c1:x.2=b
   ·refine ⟨(a,b),S.y,?_⟩;unfold ZdH;rw [if_pos rfl];have:x=(l.length,b):=Prod.ext c c1;rw [this];simp
   ·rw [if_neg c1] at h3;by_cases c2:x.2=(b+2)%4
    ·refine ⟨(w,(b+2)%4),S.y' hc,?_⟩;unfold ZdH;rw [if_neg yy,if_pos rfl];have:x=(l.length,(b+2)%4):=Prod.ext c c2;rw [this];simp
    ·rw [if_neg c2] at h3;omega
  ·have:isD l x:=⟨by omega,h2,(S.old hc (by omega) h2).1 hx.2.2⟩;exact ⟨x,this,hd x this⟩
theorem Sp.val (hc:Ck l) (S:Sp l m a b w) (h:Val l):Val m:=((S.ins hc).val hc S.ck (Zga hc) (Zga S.ck)).1 h
theorem Sp.Pt (hc:Ck l) (S:Sp l m a b w):∀ {s:List Da}{x y:Da},Mu.Pt l x s y→Mu.Pt m x (s.flatMap (ZdH l a b w)) y
 | [],x,y,h=>h
 | p::s,x,y,h=>by
  rw [Mu.Pt] at h;obtain ⟨rfl,h1,h2⟩:=h;obtain ⟨n1,b1,b2,b3,b4⟩:=S.bh1 hc;have I:=S.ins hc;rw [List.flatMap_cons];refine Pt.app.2 ⟨bh l x,?_,S.Pt hc h2⟩;have is:=fun z hz=>I.is x h1 z hz;unfold ZdH at is ⊢;split
  ·rename_i c;rw [if_pos c] at is;subst c;refine ⟨rfl,is _ (by simp),?_⟩;rw [b1];exact ⟨rfl,is _ (by simp),b2⟩
  ·rename_i c;rw [if_neg c] at is;split
   ·rename_i c2;rw [if_pos c2] at is;subst c2;refine ⟨rfl,is _ (by simp),?_⟩;rw [b3];exact ⟨rfl,is _ (by simp),b4⟩
   ·rename_i c2;exact ⟨rfl,S.is hc h1,(S.bh0 hc h1 c c2).2⟩
theorem Sp.Lp (hc:Ck l) (S:Sp l m a b w) {f:List Da}(h:Mu.Lp l f):Mu.Lp m (f.flatMap (ZdH l a b w)):=by
 have C:=(S.ins hc).cyc hc h.cyc;obtain ⟨x,hx⟩:=h.pt;exact ⟨C.ne,C.nd,x,S.Pt hc hx⟩
theorem Sp.whole (hc:Ck l) (S:Sp l m a b w) (h:Mu.whole l):Mu.whole m:=by
 have h0:=Zf4 h
 -- each old cell is reached: through the new one where the edge was
 have e1:=S.nx a b (by have:=S.ha;omega) S.hb;have hne:=S.hne;have ha:=S.ha;have hw:=S.hw;have hb:=S.hb;rw [if_neg (by omega),if_neg (fun q=>hne q.1.symm),if_pos ⟨rfl,rfl⟩] at e1;have e2:Mu.nx m w ((b+2)%4)=l.length:=by rw [S.nx w _ (by omega) (by omega),if_neg (by omega),if_pos ⟨rfl,rfl⟩]
 have e3:Mu.nx m l.length b=w:=by rw [S.nx _ b (by omega) hb,if_pos rfl,if_pos rfl]
 have e4:Mu.nx m l.length ((b+2)%4)=a:=by rw [S.nx _ _ (by omega) (by omega),if_pos rfl,if_neg (by omega),if_pos rfl]
 have old:∀ {u n},Rch l 0 n u→∃ k,Rch m 0 k u:=by
  intro u n hr
  induction hr with
  | zero=>exact ⟨0,.zero⟩
  | succ hr hab ih =>
   rename_i n p q;obtain ⟨k,r⟩:=ih;have hp:=hr.lt hc h0;obtain ⟨d,hd,e⟩:=hab;have n:=S.nx p d (by omega) hd;rw [if_neg (by omega)] at n;by_cases c1:p=w∧d=(b+2)%4
   ·have:q=a:=by
     have:=S.back hc;rw [← c1.1,← c1.2,e] at this;omega
    subst this;rw [if_pos c1] at n;exact ⟨k+1+1,.succ (.succ r ⟨d,hd,n⟩) ⟨_,by omega,e4⟩⟩
   ·rw [if_neg c1] at n;by_cases c2:p=a∧d=b
    ·have:q=w:=by
      have:=S.hn;rw [← c2.1,← c2.2,e] at this;omega
     subst this;rw [if_pos c2] at n;exact ⟨k+1+1,.succ (.succ r ⟨d,hd,n⟩) ⟨_,hb,e3⟩⟩
    ·rw [if_neg c2,e] at n;exact ⟨k+1,.succ r ⟨d,hd,n⟩⟩
 refine Zig (by rw [S.len];omega) fun u hu=>?_;rw [S.len] at hu;by_cases c:u=l.length
 ·subst c;obtain ⟨n,r⟩:=Zf5 h ha;obtain ⟨k,r⟩:=old r;exact ⟨k+1,.succ r ⟨b,hb,e1⟩⟩
 ·obtain ⟨n,r⟩:=Zf5 h (w:=u) (by omega);exact old r
end spl
end Mu
/- A cut of a face that turns to the right: what comes of it. -/
namespace Mu
def ng (t:Int):Int:=if t<0 then -t else 0
def negs (l:List Za):Int:=((Zcu l).map fun p=>ng (tt l p)).sum
theorem Ins.perm {l m:List Za}{ins:Da→List Da}(I:Ins l m ins):(Zcu m).Perm ((Zcu l).flatMap ins):=by
 refine (List.perm_ext_iff_of_nodup Zgf ?_).2 fun x=>?_
 ·rw [List.Nodup,List.pairwise_flatMap];refine ⟨fun p hp=>I.nd p (ZbP.1 hp),(Zgf (l:=l)).imp_of_mem ?_⟩;intro p q hp hq hne x hx y hy e;subst e;exact hne (I.dj p q (ZbP.1 hp) (ZbP.1 hq) x hx hy)
 ·rw [ZbP,List.mem_flatMap];constructor
  ·intro hx;obtain ⟨p,hp,h⟩:=I.al x hx;exact ⟨p,ZbP.2 hp,h⟩
  ·rintro ⟨p,hp,h⟩;exact I.is p (ZbP.1 hp) x h
theorem ZfJ {g:Da→Int}{ins:Da→List Da}:∀ {L:List Da},((L.flatMap ins).map g).sum=(L.map fun p=>((ins p).map g).sum).sum
 | []=>rfl
 | a::L=>by rw [List.flatMap_cons,List.map_append,List.sum_append,ZfJ (L:=L),List.map_cons,List.sum_cons]
theorem Sp.negs {l m:List Za}{a b w:Nat}(hc:Ck l) (S:Sp l m a b w):negs m=negs l:=by
 obtain ⟨n1,b1,b2,b3,b4⟩:=S.bh1 hc;unfold Mu.negs;rw [Zgt (S.ins hc).perm,ZfJ];congr 1;refine List.map_congr_left fun p hp=>?_;have hp:=ZbP.1 hp;unfold ZdH tt;have z:ng 0=0:=rfl;have t0:∀ d,tn d d=0:=fun d=>by unfold tn;rw [if_pos rfl]
 split
 ·rename_i c;subst c;simp only [List.map_cons,List.map_nil,List.sum_cons,List.sum_nil,b1,b2,t0,z];omega
 ·split
  ·rename_i c;subst c;simp only [List.map_cons,List.map_nil,List.sum_cons,List.sum_nil,b3,b4,t0,z];omega
  ·rename_i c1 c2;simp only [List.map_cons,List.map_nil,List.sum_cons,List.sum_nil,(S.bh0 hc hp c1 c2).2];omega
theorem Zh9 {l:List Za}{p:Da}(h4:p.2<4) (h:tt l p<0):nx l (nx l p.1 p.2).toNat p.2<0∧nx l (nx l p.1 p.2).toNat ((p.2+1)%4)<0:=by
 unfold tt at h;rw [ZkK h4] at h;unfold arr at h;by_cases c1:0≤nx l (nx l p.1 p.2).toNat ((p.2+1)%4)
 ·rw [if_pos c1] at h;omega
 ·rw [if_neg c1] at h;by_cases c2:0≤nx l (nx l p.1 p.2).toNat p.2
  ·rw [if_pos c2] at h;omega
  ·omega
structure Cut (l m:List Za):Prop where
 ck:Ck m
 val:Val m
 whole:whole m
 len:m.length=l.length+1
 negs:negs m+1≤negs l
 sub:∃ (l1:List Za) (a b w v d:Nat),Sp l l1 a b w∧m=wth l1 v d l.length (-2)∧Del m l1 v d l.length∧v<l.length∧d<4∧nx l1 v d=-1∧nx l1 l.length ((d+2)%4)=-1
 out:∀ g,Cyc l g→zH l g=-4→(∀ p∈g,-1≤tt l p∧tt l p≤0)→∃ g',Cyc m g'∧zH m g'=-4∧∀ p∈g',-1≤tt m p∧tt m p≤0
end Mu
/- Layer 21: cuts in the code;refining,till no inner face turns to the right. -/
namespace Mu
theorem ZlB {l:List Za}{v d w:Nat}{o:Int}(hl:l.length≤4096) (hv:v<l.length) (hw:w<l.length) (hvw:v≠w) (hd:d<4) (ho:-2≤o) (h1:nx l v d=-1) (h2:nx l w ((d+2)%4)=-1) :
  ZaY ⟨l⟩ v d w o=some (0,⟨wth l v d w o⟩)∧ZaG l v d w o=some (wth l v d w o,0):=by
 simp only [ZaY,ZaG];rw [mIs,mIs,obs];have hb:(((d:Int)+2).tmod 4)=(((d+2)%4:Nat):Int):=by
  match d,hd with
  | 0,_|1,_|2,_|3,_=>rfl
 have q1:((!decide (0≤(w:Int)∧(w:Int)<l.length∧0≤(d:Int)∧(d:Int)<4))||decide ((v:Int)=(w:Int))||decide (o < -2))=false:=by simp;omega
 have q2:(decide ((v:Int)<0)||decide ((l.length:Int)≤(v:Int))||decide ((w:Int)<0)||decide ((l.length:Int)≤(w:Int))||decide ((v:Int)=(w:Int))||decide ((d:Int)<0)||decide (3<(d:Int))||decide (o < -2))=false:=by simp;omega
 have f:(gi l v).Next.get (d:Int)=-1:=h1;have g:(gi l w).Next.get (((d+2)%4:Nat):Int)=-1:=h2;rw [ZcF (show 0≤(v:Int)∧(v:Int)<l.length∧0≤(d:Int)∧(d:Int)<4 by omega),Bool.not_true,if_neg Bool.false_ne_true,obs,obs,q1,q2,if_neg Bool.false_ne_true,if_neg Bool.false_ne_true,ZJ (by omega),ZJ (by omega),ZJ (by omega),ZJ (by omega),itn,itn,ZlX (by omega),ZaJ (by omega),hb,obs,ZJ (by omega),ZJ (by omega)];rw [ZbC f,obs,obs,ZcF g,Bool.not_true,if_neg Bool.false_ne_true,if_neg Bool.false_ne_true,Zoo (by omega) (by omega) (by omega),obs,Zma (by omega) (by omega),obs];exact ⟨rfl,rfl⟩
theorem Cut.err {l m:List Za}(C:Cut l m) (hl:l.length+1≤4096):ZeE m=0:=Zg2.2 ⟨ZcY.2 ⟨by rw [C.len];exact hl,C.ck⟩,C.whole,fun _=>C.val⟩
end Mu
/- Layer 15,plainly: corners,sums,rotations. -/
namespace Mu

def knp (x:Int):Nat:=if x=-1 then 1 else if x=-2 then 2 else 0
def Zcw (t:List Int):Nat→List (Nat×Nat)
 | 0=>[]
 | n+1=>Zcw t n++(List.range (knp (gi t n))).map fun p=>(n,p)
def ZaK (t:List Int):List (Nat×Nat):=Zcw t t.length
def kC (c:Nat×Nat):Zl:=⟨c.1,c.2⟩
structure Tn (t:List Int):Prop where
 l:t.length≤250
 b:∀ i,-128≤gi t i∧gi t i≤127
def Gd (t:List Int):Prop:=∀ i,-2≤gi t i∧gi t i≤1

theorem Zhp (x:Int):knp x≤2:=by unfold knp;split<;>(try split)<;>omega
theorem Zd0 (t:List Int):∀ n,(Zcw t n).length≤2*n
 | 0=>by simp [Zcw]
 | n+1=>by
  have:=Zd0 t n;have:=Zhp (gi t n);simp only [Zcw,List.length_append,List.length_map,List.length_range];omega
theorem Zgl {t:List Int}{c:Nat×Nat}:∀ {n},c∈Zcw t n↔c.1<n∧c.2<knp (gi t c.1)
 | 0=>by simp [Zcw]
 | n+1=>by
  simp only [Zcw,List.mem_append,Zgl,List.mem_map,List.mem_range];constructor
  ·rintro (⟨h1,h2⟩|⟨p,hp,rfl⟩)
   ·exact ⟨by omega,h2⟩
   ·exact ⟨by simp,hp⟩
  ·rintro ⟨h1,h2⟩;by_cases h:c.1<n
   ·exact .inl ⟨h,h2⟩
   ·have:c.1=n:=by omega
    refine .inr ⟨c.2,by rw [← this];exact h2,by rw [← this]⟩
theorem Zdg {t:List Int}{c:Nat×Nat}:c∈ZaK t↔c.1<t.length∧c.2<knp (gi t c.1):=Zgl
theorem ZhR {t:List Int}{n:Nat}{l:List Zl}(hl:l.length≤1000) (hx:-2≤gi t n) (hb:gi t n≤127) :
  za (zg.s1 t n) big (l,0)=some (l++(List.range (knp (gi t n))).map fun p=>kC (n,p)):=by
 have hp:∀ p:Nat,p<knp (gi t n)↔(p:Int) < -gi t n:=by
  intro p;unfold knp;split
  ·omega
  ·split<;>omega
 have h2:=Zhp (gi t n);refine ZbD (fun p:Nat=>(l++(List.range p).map fun q=>kC (n,q),(p:Int))) (n:=knp (gi t n)) (ZaR (by omega)) (by simp) (fun p h=>?_) ?_
 ·have:=(hp p).1 h;have h3:(List.map (fun q=>kC (n,q)) (List.range p)).length=p:=by simp
  simp (disch:=omega) only [zg.s1,h3,evl]
  try simp (disch:=omega) only [evl]
  simp [List.range_succ,kC]
 ·have:¬((knp (gi t n):Nat):Int) < -gi t n:=fun h=>absurd ((hp _).2 h) (by omega);simp (disch:=omega) only [zg.s1,evl]
  try simp (disch:=omega) only [evl]
theorem Zkn {t:List Int}(ht:Tn t):zg t=some ((ZaK t).map kC):=by
 unfold zg;have hlen:=ht.l;rw [Zgb (x:=(ZaK t).map kC)];refine ZbD (fun n:Nat=>((Zcw t n).map kC,(n:Int))) (n:=t.length) (ZaR (by omega)) (by simp [Zcw]) (fun n h=>?_) ?_
 ·have hb:=ht.b n;have hc:=Zd0 t n;by_cases hx:gi t n < -2
  ·simp (disch:=omega) only [zg.s0,evl]
   try simp (disch:=omega) only [evl]
   have:knp (gi t n)=0:=by unfold knp;rw [if_neg (by omega),if_neg (by omega)]
   simp [Zcw,this]
  ·have:=ZhR (t:=t) (n:=n) (l:=(Zcw t n).map kC) (by simp;omega) (by omega) hb.2;simp (disch:=omega) only [zg.s0,this,evl]
   try simp (disch:=omega) only [evl]
   simp [Zcw,Function.comp_def]
 ·simp (disch:=omega) only [zg.s0,evl]
  try simp (disch:=omega) only [evl]
  rfl

/-! right -/
def gdB (t:List Int):Bool:=(List.range t.length).all fun i=>!(decide (gi t i < -2)||decide (1<gi t i))
theorem ZiQ {t:List Int}:gdB t=true↔Gd t:=by
 unfold gdB Gd;rw [List.all_eq_true];constructor
 ·intro h i;by_cases hi:i<t.length
  ·have:=h i (by simpa using hi);simp at this;omega
  ·rw [ZeL (by omega)];exact ⟨by decide,by decide⟩
 ·intro h i hi;have:=h i;simp;omega
theorem ZmC {t:List Int}(ht:t.length≤1000):Zbu t=some (gdB t):=by
 unfold Zbu Zai zr;rw [Zcm (n:=t.length) (P:=fun i=>decide (gi t i < -2)||decide (1<gi t i)) (f:=fun i=>(i:Int)) (ZaR (by omega))]
 ·cases h:(List.range t.length).find? (fun i=>decide (gi t i < -2)||decide (1<gi t i)) with
  | none =>
   rw [List.find?_range_eq_none] at h;have:gdB t=true:=by
    rw [gdB,List.all_eq_true];intro i hi;exact h i (by simpa using hi)
   simp [this]
  | some j =>
   rw [List.find?_range_eq_some] at h;have:gdB t=false:=by
    rw [← Bool.not_eq_true,ZiQ];intro hg;have h1:=h.1;have:=hg j;simp at h1;omega
   simp [this]
 ·intro i hi;simp (disch:=omega) only [zr.s0,Zbr,evl]
  try simp (disch:=omega) only [evl]
  split<;>simp_all
 ·simp (disch:=omega) only [zr.s0,evl]
  try simp (disch:=omega) only [evl]

/-! contains -/
/-! sums -/
theorem Zgv {t:List Int}(hg:Gd t):∀ n:Nat,-2*(n:Int)≤Zd3 t n∧Zd3 t n≤n
 | 0=>by simp [Zd3]
 | n+1=>by
  have:=Zgv hg n;have:=hg n;simp only [Zd3];omega
def psL (t:List Int) (j:Nat):List Int:=(List.range (t.length+1)).map fun q=>if q≤j then Zd3 t q else 0
theorem ZdX {t:List Int}{j:Nat}:(psL t j).length=t.length+1:=by simp [psL]
theorem Zhn {t:List Int}{j q:Nat}(hq:q<t.length+1):gi (psL t j) q=if q≤j then Zd3 t q else 0:=by
 rw [Zau (by rw [ZdX];exact hq)];simp [psL]
theorem Zk8 {t:List Int}:List.replicate (t.length+1) 0=psL t 0:=by
 refine List.ext_getElem (by rw [ZdX];simp) fun q h1 h2=>?_;simp [psL];intro h3;subst h3;rfl
theorem Zk7 {t:List Int}{j:Nat}:(psL t j).set (j+1) (Zd3 t j+gi t j)=psL t (j+1):=by
 refine List.ext_getElem (by simp [psL]) fun q h1 h2=>?_;rw [List.getElem_set];simp only [psL,List.getElem_map,List.getElem_range];by_cases hq:j+1=q
 ·subst hq;rw [if_pos rfl,if_pos (Nat.le_refl _)];rfl
 ·rw [if_neg hq];by_cases hq2:q≤j
  ·rw [if_pos hq2,if_pos (by omega)]
  ·rw [if_neg hq2,if_neg (by omega)]
theorem ZnC {t:List Int}(ht:t.length≤1000) (hg:Gd t):ZaC t=some (psL t t.length):=by
 unfold ZaC;have e:((t.length:Int)+1).toNat=t.length+1:=by omega
 rw [e,Zk8];simp (disch:=omega) only [evl];rw [Zgb (x:=psL t t.length)];refine ZbD (fun n:Nat=>(psL t n,(n:Int))) (n:=t.length) (ZaR (by omega)) (by simp [Zcw]) (fun n h=>?_) ?_
 ·have h1:=ZdX (t:=t) (j:=n);have h2:=Zgv hg n;have h3:=hg n;have h4:gi (psL t n) n=Zd3 t n:=by rw [Zhn (by omega),if_pos (Nat.le_refl _)]
  have h5:((n:Int)+1).toNat=n+1:=by omega
  simp (disch:=omega) only [ZaC.s0,h4,h5,Zk7,evl]
  try simp (disch:=omega) only [evl]
  rfl
 ·simp (disch:=omega) only [ZaC.s0,evl]
  try simp (disch:=omega) only [evl]

def Zfz (t:List Int) (a b:Nat×Nat):Int:=Zd3 t b.1-b.2-(Zd3 t a.1-a.2)+if b.1<a.1∨(b.1=a.1∧b.2<a.2) then Zd3 t t.length else 0
theorem ZnB {t:List Int}(ht:t.length≤1000) (hg:Gd t) {a b:Nat×Nat}(ha:a.1≤t.length) (hb:b.1≤t.length) (ha2:a.2≤10) (hb2:b.2≤10):ZbN (psL t t.length) (kC a) (kC b)=some (Zfz t a b):=by
 unfold ZbN Zfz kC;have h1:=ZdX (t:=t) (j:=t.length);have g1:gi (psL t t.length) a.1=Zd3 t a.1:=by rw [Zhn (by omega),if_pos ha]
 have g2:gi (psL t t.length) b.1=Zd3 t b.1:=by rw [Zhn (by omega),if_pos hb]
 have g3:gi (psL t t.length) t.length=Zd3 t t.length:=by rw [Zhn (by omega),if_pos (Nat.le_refl _)]
 have b1:=Zgv hg a.1;have b2:=Zgv hg b.1;have b3:=Zgv hg t.length;have e:(((psL t t.length).length:Int)-1).toNat=t.length:=by rw [h1];omega
 by_cases c:b.1<a.1∨(b.1=a.1∧b.2<a.2)
 ·have hc:(decide ((b.1:Int)<a.1)||(decide ((b.1:Int)=a.1)&&decide ((b.2:Int)<a.2)))=true:=by
   simp;omega
  simp (disch:=omega) only [g1,g2,g3,hc,e,evl]
  try simp (disch:=omega) only [evl]
  rw [if_pos c]
 ·have hc:(decide ((b.1:Int)<a.1)||(decide ((b.1:Int)=a.1)&&decide ((b.2:Int)<a.2)))=false:=by
   simp;omega
  simp (disch:=omega) only [g1,g2,g3,e,evl]
  try simp (disch:=omega) only [evl]
  rw [if_neg (by simp;omega),if_neg c,Int.add_zero]
end Mu
/- Layer 15: the rotation there and back. -/
namespace Mu

theorem Zfd {t:List Int}{i:Nat}(hi:i<(ZaK t).length):gi ((ZaK t).map kC) i=kC (gi (ZaK t) i):=by
 rw [Zau (by simpa using hi),Zau hi];simp
end Mu
/- Layer 15: turns of 0,and where one begins. -/
namespace Mu

def looks (t:List Int):Prop:=∃ a∈ZaK t,∃ b∈ZaK t,Zfz t a b=2

def inP (t:List Int) (i:Nat):Option Nat:=(List.range (ZaK t).length).find? fun k=>decide (Zfz t (gi (ZaK t) i) (gi (ZaK t) k)=2)
def Zi2 (t:List Int):Option Nat:=(List.range (ZaK t).length).find? fun i=>(inP t i).isSome
def Ze2 (t:List Int):Option (Nat×Nat):=match Zi2 t with|some i=>(match inP t i with|some k=>some (i,k)|none=>none)|none=>none
theorem ZnA {t:List Int}(ht:Tn t) (hg:Gd t):zy t=some (match Ze2 t with|some (i,k)=>(kC (gi (ZaK t) i),kC (gi (ZaK t) k),true)|none=>(⟨0,0⟩,⟨0,0⟩,false)):=by
 have hl:=ht.l;have hcl:(ZaK t).length≤500:=by have:=Zd0 t t.length;unfold ZaK;omega
 unfold zy;rw [ZmC (by omega),ZiQ.2 hg,obs,Zkn ht,obs,ZnC (by omega) hg,obs];have hml:((ZaK t).map kC).length=(ZaK t).length:=by simp
 have inner:∀ i:Nat,i<(ZaK t).length→za (zy.s1 ((ZaK t).map kC) (psL t t.length) i) big 0=some (match inP t i with|some k=>.inr (kC (gi (ZaK t) k))|none=>.inl ()):=by
  intro i hi;unfold inP;refine Zcm (n:=(ZaK t).length) (P:=fun k=>decide (Zfz t (gi (ZaK t) i) (gi (ZaK t) k)=2)) (f:=fun k=>kC (gi (ZaK t) k)) (ZaR (by omega)) (fun k hk=>?_) ?_
  ·have a1:=Zdg.1 (Zbd hi);have b1:=Zdg.1 (Zbd hk);have n1:=Zhp (gi t (gi (ZaK t) i).1);have n2:=Zhp (gi t (gi (ZaK t) k).1);have e:=ZnB (t:=t) (by omega) hg (a:=gi (ZaK t) i) (b:=gi (ZaK t) k) (by omega) (by omega) (by omega) (by omega);by_cases c:Zfz t (gi (ZaK t) i) (gi (ZaK t) k)=2
   ·have c':decide (Zfz t (gi (ZaK t) i) (gi (ZaK t) k)=2)=true:=by simpa using c
    rw [c',if_pos rfl];simp (disch:=omega) only [zy.s1,hml,Zfd hi,Zfd hk,e,c,evl]
    try simp (disch:=omega) only [evl]
   ·have c':decide (Zfz t (gi (ZaK t) i) (gi (ZaK t) k)=2)=false:=by simpa using c
    rw [c',if_neg (by decide)];simp (disch:=omega) only [zy.s1,hml,Zfd hi,Zfd hk,e,evl]
    try simp (disch:=omega) only [evl]
  ·simp (disch:=omega) only [zy.s1,hml,evl]
   try simp (disch:=omega) only [evl]
 have outer:za (zy.s0 ((ZaK t).map kC) (psL t t.length)) big 0=some (match Zi2 t with|some i=>.inr (kC (gi (ZaK t) i),match inP t i with|some k=>kC (gi (ZaK t) k)|none=>⟨0,0⟩)|none=>.inl ()):=by
  unfold Zi2;refine Zcm (n:=(ZaK t).length) (P:=fun i=>(inP t i).isSome) (f:=fun i=>(kC (gi (ZaK t) i),match inP t i with|some k=>kC (gi (ZaK t) k)|none=>⟨0,0⟩)) (ZaR (by omega)) (fun i hi=>?_) ?_
  ·have e:=inner i hi
   cases h:inP t i with
   | none =>
    rw [h] at e;simp (disch:=omega) only [zy.s0,hml,e,evl]
    try simp (disch:=omega) only [evl]
    rfl
   | some k =>
    rw [h] at e;simp (disch:=omega) only [zy.s0,hml,e,Zfd hi,evl]
    try simp (disch:=omega) only [evl]
    rfl
  ·simp (disch:=omega) only [zy.s0,hml,evl]
   try simp (disch:=omega) only [evl]
 have hnn:(!true)=false:=rfl;rw [outer];simp only [hnn,Bool.false_eq_true,if_false,obs];unfold Ze2
 cases ho:Zi2 t with
 | none=>rfl
 | some i =>
  have:=ho;unfold Zi2 at this;rw [List.find?_range_eq_some] at this
  cases hi:inP t i with
  | none=>rw [hi] at this;exact absurd this.1 (by simp)
  | some k=>simp [hi]

/-! A list and another one whose turns,but those of 0,stand elsewhere. -/
/-! How many corners. -/
end Mu
/- Layer 15: the document's answer. -/
namespace Mu

/-! Single turns. -/
def ZnU (x:Int):List Int:=if x=-2 then [-1,-1] else [x]
def Zme (t:List Int):Nat→List Int
 | 0=>[]
 | n+1=>Zme t n++ZnU (gi t n)
def pos (t:List Int) (c:Nat×Nat):Nat:=(Zme t c.1).length+c.2
end Mu
/- Layer 15: KittyRegular. -/
namespace Mu
theorem Zna {l:List Za}{f:List Da}(h:f.length≤250):Tn (tns l f):=⟨by rw [Zdy];exact h,fun i=>by have:=Zh8 (l:=l) (f:=f) i;omega⟩
def ZeN (l:List Za) (i:Nat):Bool:=(Ze2 (tns l (gi (faces l) i))).isSome
end Mu
/- Layer 22: corners that Zko at one another: an edge laid between them leaves cells that can be drawn. -/
namespace Mu
theorem Zkb {l:List Za}(hc:Ck l) {f:List Da}(hf:f∈faces l):Lp l f:=by
 obtain ⟨x0,hx0,e1,e2⟩:=ZhO hc f hf;have C:=Zbi hc f hf;refine ⟨C.ne,C.nd,x0,?_⟩;have:=Zkj hc hx0 f.length;rw [e2,← e1] at this;exact this
theorem ZnX:∀ e:Fin 4,∀ p t:Fin 2,tn e.1 ((e.1+4-p.1+t.1)%4)=(t.1:Int)-p.1:=by decide
theorem ZnW {e p t:Nat}(he:e<4) (hp:p<2) (ht:t<2):tn e ((e+4-p+t)%4)=(t:Int)-p:=ZnX ⟨e,he⟩ ⟨p,hp⟩ ⟨t,ht⟩
theorem ZkN {l:List Za}{p:Da}(h4:p.2<4) (h:tt l p=-2):nx l (nx l p.1 p.2).toNat ((p.2+3)%4)<0:=by
 unfold tt at h;rw [ZkK h4] at h;unfold arr at h;by_cases c:0≤nx l (nx l p.1 p.2).toNat ((p.2+3)%4)
 ·rw [if_pos c] at h;split at h<;>(try split at h)<;>omega
 ·omega
theorem ZeM {x:Int}{p:Nat}(h:p<knp x):x<0∧p<2∧(x:Int)<(0:Int)-p∧(p=1→x=-2):=by
 unfold knp at h;split at h
 ·omega
 ·split at h<;>omega
theorem ZlW {l:List Za}(hc:Ck l) (hV:Val l) (hW:whole l) {x y:Da}{A B:List Da}(hL:Lp l (B++[y]++(A++[x]))) {p q t:Nat}(hp:p<knp (tt l x)) (hq:q<knp (tt l y)) (hr:tt l x+p+zH l B-q=2) (ht:t<2) {d:Nat}(hd0:d=(x.2+4-p+t)%4) :
  (nx l x.1 x.2).toNat<l.length∧(nx l y.1 y.2).toNat<l.length∧(nx l x.1 x.2).toNat≠(nx l y.1 y.2).toNat ∧
  nx l (nx l x.1 x.2).toNat d=-1∧nx l (nx l y.1 y.2).toNat ((d+2)%4)=-1 ∧
  Ck (wth l (nx l x.1 x.2).toNat d (nx l y.1 y.2).toNat (-2))∧Val (wth l (nx l x.1 x.2).toNat d (nx l y.1 y.2).toNat (-2))∧whole (wth l (nx l x.1 x.2).toNat d (nx l y.1 y.2).toNat (-2)):=by
 obtain ⟨x1,p2,x2,x3⟩:=ZeM hp;obtain ⟨y1,q2,y2,y3⟩:=ZeM hq;have dX:isD l x:=hL.is x (by simp);have dY:isD l y:=hL.is y (by simp);have hne:x≠y:=by
  have:=hL.nd;rw [List.append_assoc,List.nodup_append] at this;have:=this.2.1;rw [List.singleton_append,List.nodup_cons] at this;intro e;exact this.1 (by rw [← e];simp)
 have hL2:Lp l (x::(B++[y]++A)):=by
  have:=hL;rw [← List.append_assoc] at this;exact this.turn
 obtain ⟨_,P⟩:=hL2.hd;rw [List.append_assoc] at P;obtain ⟨z,P1,P2⟩:=Pt.app.1 P;rw [List.singleton_append,Pt] at P2;obtain ⟨hz,_,_⟩:=P2;rw [hz] at P1;obtain ⟨k,e⟩:=P1.dir hc;obtain ⟨k',e'⟩:=ZkL dX.2.1 (dX.bh hc).2.1;have X4:=dX.2.1;have Y4:=dY.2.1;have fX:=dX.fwd hc;have fY:=dY.fwd hc;have tX:=Zh9 X4 x1;have tY:=Zh9 Y4 y1;have hd2:((x.2+4-p+t)%4+2)%4=(y.2+4-q+t)%4:=by
  unfold tt at hr;omega
 have hd:(x.2+4-p+t)%4<4:=Nat.mod_lt _ (by decide);have k1:=ZnW X4 p2 ht;have k2:=ZnW Y4 q2 ht;have free:∀ {z:Da}{r:Nat},isD l z→tt l z<0→r<2→(r=1→tt l z=-2)→nx l (nx l z.1 z.2).toNat ((z.2+4-r+t)%4)=-1:=by
  intro z r dz h1 hr h2;have Z4:=dz.2.1;have tz:=Zh9 Z4 h1;have lo:=(hc.lt (dz.fwd hc).1 (d:=(z.2+4-r+t)%4) (Nat.mod_lt _ (by decide))).1;have:nx l (nx l z.1 z.2).toNat ((z.2+4-r+t)%4)<0:=by
   rcases (by omega:(z.2+4-r+t)%4=z.2∨(z.2+4-r+t)%4=(z.2+1)%4∨(r=1∧(z.2+4-r+t)%4=(z.2+3)%4)) with h|h|⟨h,h'⟩
   ·rw [h];exact tz.1
   ·rw [h];exact tz.2
   ·rw [h'];exact ZkN Z4 (h2 h)
  omega
 have f1:=free dX x1 p2 x3;have f2:=free dY y1 q2 y3;have hvw:(nx l x.1 x.2).toNat≠(nx l y.1 y.2).toNat:=by
  intro hv;rw [hv] at tX fX;have oX:=fX.2;have oY:=fY.2;have a1:¬ ((y.2+2)%4=x.2):=fun q=>by rw [q] at oY;omega
  have a2:¬ ((y.2+2)%4=(x.2+1)%4):=fun q=>by rw [q] at oY;omega
  have a3:¬ ((x.2+2)%4=y.2):=fun q=>by rw [q] at oX;omega
  have a4:¬ ((x.2+2)%4=(y.2+1)%4):=fun q=>by rw [q] at oX;omega
  have e2:x.2=y.2:=by omega
  rw [e2] at oX;refine hne (Prod.ext ?_ e2);omega
 rw [← hd2] at k2 f2;rw [← hd0] at hd k1 k2 f1 f2;refine ⟨fX.1,fY.1,hvw,f1,f2,?_⟩;have D:=Del.of_wth hc fX.1 fY.1 hvw hd (o:=-2) f1 f2;have hc':=hc.wth (o:=-2) fX.1 fY.1 hvw hd f1 f2 (by omega);have eX:=(D.enter hc' hc dX).1 rfl (by omega);have eY:=(D.enter hc' hc dY).2 rfl (by omega);refine ⟨hc',?_,D.whole hc' hc hW⟩;refine D.chord_val hc' hc hL eX eY ?_ hV;rw [Zbn,zJ,Zdk];omega
theorem ZkG {f:List Da}{i:Nat}(h:i<f.length):f=f.take i++gi f i::f.drop (i+1):=by
 rw [Zau h,← List.drop_eq_getElem_cons h,List.take_append_drop]
theorem ZkH {f:List Da}{i j:Nat}(hij:i<j) (hj:j<f.length):∃ P B Q,f=P++gi f i::(B++gi f j::Q)∧P=f.take i∧P++gi f i::B=f.take j:=by
 have h1:=ZkG (f:=f) (i:=i) (by omega);have h2:=ZkG (f:=f.drop (i+1)) (i:=j-i-1) (by rw [List.length_drop];omega);have e:gi (f.drop (i+1)) (j-i-1)=gi f j:=by
  rw [Zau (by rw [List.length_drop];omega),Zau hj,List.getElem_drop];congr 1;omega
 rw [e] at h2;refine ⟨f.take i,(f.drop (i+1)).take (j-i-1),(f.drop (i+1)).drop (j-i-1+1),by rw [← h2];exact h1,rfl,?_⟩;have h3:f.take j=(f.take i++gi f i::f.drop (i+1)).take j:=by rw [← h1]
 rw [h3,List.take_append,List.take_take,Nat.min_eq_right (by omega),List.length_take,Nat.min_eq_left (by omega)];congr 1;obtain ⟨m,hm⟩:∃ m,j-i=m+1:=⟨j-i-1,by omega⟩;rw [hm,List.take_succ_cons,Nat.add_sub_cancel]
theorem ZhT {l:List Za}{f:List Da}{n:Nat}(hn:n≤f.length):Zd3 (tns l f) n=zH l (f.take n):=by
 rw [Zfv _ (by rw [Zdy];exact hn)];unfold zH tns;rw [List.map_take]
theorem Zko {l:List Za}(hc:Ck l) (hV:Val l) (hW:whole l) {f:List Da}(hf:f∈faces l) {a b:Nat×Nat}(ha:a∈ZaK (tns l f)) (hb:b∈ZaK (tns l f)) (hr:Zfz (tns l f) a b=2) {t:Nat}(ht:t<2) {d:Nat}(hd0:d=((gi f a.1).2+4-a.2+t)%4) :
  a.1<f.length∧b.1<f.length∧a.2<2∧isD l (gi f a.1)∧isD l (gi f b.1) ∧
  (nx l (gi f a.1).1 (gi f a.1).2).toNat<l.length∧(nx l (gi f b.1).1 (gi f b.1).2).toNat<l.length∧(nx l (gi f a.1).1 (gi f a.1).2).toNat≠(nx l (gi f b.1).1 (gi f b.1).2).toNat ∧
  nx l (nx l (gi f a.1).1 (gi f a.1).2).toNat d=-1∧nx l (nx l (gi f b.1).1 (gi f b.1).2).toNat ((d+2)%4)=-1 ∧
  Ck (wth l (nx l (gi f a.1).1 (gi f a.1).2).toNat d (nx l (gi f b.1).1 (gi f b.1).2).toNat (-2))∧Val (wth l (nx l (gi f a.1).1 (gi f a.1).2).toNat d (nx l (gi f b.1).1 (gi f b.1).2).toNat (-2))∧whole (wth l (nx l (gi f a.1).1 (gi f a.1).2).toNat d (nx l (gi f b.1).1 (gi f b.1).2).toNat (-2)):=by
 obtain ⟨a1,a2⟩:=Zdg.1 ha;obtain ⟨b1,b2⟩:=Zdg.1 hb;rw [Zdy] at a1 b1;have ga:gi (tns l f) a.1=tt l (gi f a.1):=Zcv a1;have gb:gi (tns l f) b.1=tt l (gi f b.1):=Zcv b1;rw [ga] at a2;rw [gb] at b2;have L:=Zkb hc hf;have tot:Zd3 (tns l f) (tns l f).length=zH l f:=Zk9;have p4:=((ZcU hc).1 hV).1 f (Zbi hc f hf);refine ⟨a1,b1,(ZeM a2).2.1,L.is _ (Zbd a1),L.is _ (Zbd b1),?_⟩;have r1:=ZhT (l:=l) (f:=f) (n:=a.1) (by omega);have r2:=ZhT (l:=l) (f:=f) (n:=b.1) (by omega);unfold Zfz at hr;rw [r1,r2,tot] at hr;rcases Nat.lt_trichotomy a.1 b.1 with h|h|h
 ·obtain ⟨P,B,Q,e,e1,e2⟩:=ZkH h b1;rw [← e1,← e2,Zbn,zJ,if_neg (by omega)] at hr;refine ZlW hc hV hW (A:=Q++P) (B:=B) ?_ a2 b2 (by omega) ht hd0;have h1:=L;rw [e] at h1;have h2:Lp l ((P++[gi f a.1])++(B++[gi f b.1]++Q)):=by simpa using h1
  have h3:=h2.turn;simpa using h3
 ·have ka:=(ZeM a2).2.1;have kb:=(ZeM b2).2.1;rw [h] at hr;split at hr<;>omega
 ·obtain ⟨P,B,Q,e,e1,e2⟩:=ZkH h a1;have et:zH l f=zH l P+tt l (gi f b.1)+zH l B+tt l (gi f a.1)+zH l Q:=by
   conv=>lhs;rw [e]
   rw [Zbn,zJ,Zbn,zJ];omega
  rw [← e1,← e2,Zbn,zJ,if_pos (by omega),et] at hr;refine ZlW hc hV hW (A:=B) (B:=Q++P) ?_ a2 b2 (by rw [Zbn];omega) ht hd0;have h1:=L;rw [e] at h1;have h2:Lp l ((P++[gi f b.1]++B++[gi f a.1])++Q):=by simpa using h1
  have h3:=h2.turn;simpa using h3
end Mu
/- Layer 22: what is made regular. -/
namespace Mu
def pkF (l:List Za):Option (Nat×(Nat×Nat)×(Nat×Nat)) :=
 match (List.range (faces l).length).find? (ZeN l) with
 | none=>none
 | some i=>match Ze2 (tns l (gi (faces l) i)) with
  | none=>none
  | some (j,k)=>some (i,gi (ZaK (tns l (gi (faces l) i))) j,gi (ZaK (tns l (gi (faces l) i))) k)
theorem Zkh {t:List Int}{i k:Nat}(h:inP t i=some k):k<(ZaK t).length∧Zfz t (gi (ZaK t) i) (gi (ZaK t) k)=2:=by
 unfold inP at h;rw [List.find?_range_eq_some] at h;obtain ⟨h1,h2,_⟩:=h;exact ⟨by simpa using h2,by simpa using h1⟩
theorem Zgq {t:List Int}{i k:Nat}(h:Ze2 t=some (i,k)):gi (ZaK t) i∈ZaK t∧gi (ZaK t) k∈ZaK t∧Zfz t (gi (ZaK t) i) (gi (ZaK t) k)=2:=by
 unfold Ze2 at h
 cases ho:Zi2 t with
 | none=>rw [ho] at h;cases h
 | some i' =>
  rw [ho] at h;dsimp only at h
  cases hi:inP t i' with
  | none=>rw [hi] at h;cases h
  | some k' =>
   rw [hi] at h;cases h;obtain ⟨a,b⟩:=Zkh hi;unfold Zi2 at ho;rw [List.find?_range_eq_some] at ho;exact ⟨Zbd (by simpa using ho.2.1),Zbd a,b⟩
theorem Zk0 {l:List Za}{i:Nat}{a b:Nat×Nat}(h:pkF l=some (i,a,b)):i<(faces l).length∧a∈ZaK (tns l (gi (faces l) i))∧b∈ZaK (tns l (gi (faces l) i))∧Zfz (tns l (gi (faces l) i)) a b=2:=by
 unfold pkF at h
 cases hf:(List.range (faces l).length).find? (ZeN l) with
 | none=>rw [hf] at h;cases h
 | some i' =>
  rw [hf] at h;dsimp only at h
  cases hp:Ze2 (tns l (gi (faces l) i')) with
  | none=>rw [hp] at h;cases h
  | some q =>
   rw [hp] at h;obtain ⟨j,k⟩:=q;cases h;rw [List.find?_range_eq_some] at hf;obtain ⟨c1,c2,c3⟩:=Zgq hp;exact ⟨by simpa using hf.2.1,c1,c2,c3⟩
theorem ZmF {d p:Nat}(hd:d<4) (hp:p<2):zf d (-(p:Int))=some (((d+4-p)%4:Nat):Int):=by
 have:p=0∨p=1:=by omega
 rcases this with rfl|rfl
 ·have e:=ZeO hd (t:=0) (by omega);rw [if_neg (by decide),if_pos rfl] at e;rw [show (-((0:Nat):Int))=0 from rfl,e];congr 2<;>omega
 ·have e:=ZeO hd (t:=-1) (by omega);rw [if_neg (by decide),if_neg (by decide),if_pos rfl] at e;rw [show (-((1:Nat):Int))=-1 from rfl,e];congr 2<;>omega
def pkR (l:List Za) (i:Nat) (a b:Nat×Nat):Int×Int×Int :=
 (nx l (gi (gi (faces l) i) a.1).1 (gi (gi (faces l) i) a.1).2,((((gi (gi (faces l) i) a.1).2+4-a.2)%4:Nat):Int),nx l (gi (gi (faces l) i) b.1).1 (gi (gi (faces l) i) b.1).2)
theorem ZmK {l:List Za}(hl:l.length≤60) (k:ZdR l=0):Zad l=some (match pkF l with
  | none=>(0,0,0,false)
  | some (i,a,b)=>((pkR l i a b).1,(pkR l i a b).2.1,(pkR l i a b).2.2,true)):=by
 have hc:=(ZcY.1 k).2;obtain ⟨o1,o2,o3,_⟩:=Zde hc;unfold Zad;rw [Zkq (by omega) k,obs];have L:za (Zad.s0 l ((faces l).map (List.map dt))) big 0=some (match (List.range (faces l).length).find? (ZeN l) with
   | some i=>.inr (match Ze2 (tns l (gi (faces l) i)) with|none=>(0,0,0)|some (j,k)=>pkR l i (gi (ZaK (tns l (gi (faces l) i))) j) (gi (ZaK (tns l (gi (faces l) i))) k))
   | none=>.inl ()):=by
  refine Zcm (n:=(faces l).length) (P:=ZeN l) (f:=fun i=>match Ze2 (tns l (gi (faces l) i)) with|none=>(0,0,0)|some (j,k)=>pkR l i (gi (ZaK (tns l (gi (faces l) i))) j) (gi (ZaK (tns l (gi (faces l) i))) k)) (ZaR (by omega)) (fun i hi=>?_) ?_
  ·have hm:=Zbd hi;have fl:=o3 _ hm;simp only [Zad.s0,itn,Zcv hi];rw [zp (by simp;omega),ZJ (by simp;omega),Zks (by omega) k (o1 _ hm) (by omega),obs];have hk:=ZnA (t:=tns l (gi (faces l) i)) (Zna (by omega)) (fun i=>Zh8 i);unfold ZeN
   cases hp:Ze2 (tns l (gi (faces l) i)) with
   | none=>rw [hp] at hk;dsimp only at hk;rw [hk,obs,Bool.not_false,if_pos rfl,ZaJ (by omega)];rfl
   | some q =>
    obtain ⟨j,k'⟩:=q;obtain ⟨c1,c2,c3⟩:=Zgq hp;rw [hp] at hk;dsimp only at hk ⊢;generalize gi (ZaK (tns l (gi (faces l) i))) j=a at *;generalize gi (ZaK (tns l (gi (faces l) i))) k'=b at *;rw [hk,obs];obtain ⟨a1,a2⟩:=Zdg.1 c1;obtain ⟨b1,b2⟩:=Zdg.1 c2;have a3:=(ZeM a2).2.1;rw [Zdy] at a1 b1;have dA:=o1 _ hm _ (Zbd a1);have dB:=o1 _ hm _ (Zbd b1);have A1:=dA.1;have A2:=dA.2.1;have B1:=dB.1;have B2:=dB.2.1;have ga:gi ((gi (faces l) i).map dt) a.1=dt (gi (gi (faces l) i) a.1):=Zcv a1;have gb:gi ((gi (faces l) i).map dt) b.1=dt (gi (gi (faces l) i) b.1):=Zcv b1;simp only [kC,itn,ga,gb,dt,List.length_map];rw [Bool.not_true,if_neg Bool.false_ne_true,ZJ (by omega),ZJ (by omega),ZJ (by omega),ZJ (by omega),ZaJ (by omega),ZmF A2 a3,obs,ZJ (by omega),ZJ (by omega)];rfl
  ·simp only [Zad.s0];rw [zn (by simp)]
 dsimp only;rw [L,obs];unfold pkF
 cases hf:(List.range (faces l).length).find? (ZeN l) with
 | none=>rfl
 | some i =>
  rw [List.find?_range_eq_some] at hf;have:=hf.1;unfold ZeN at this;dsimp only
  cases hp:Ze2 (tns l (gi (faces l) i)) with
  | none=>rw [hp] at this;simp at this
  | some q=>rfl
def ZcQ (picks:List Bool) (n:Nat):Bool:=decide (n<picks.length)&&gi picks n
def rgD (d:Nat) (b:Bool):Nat:=if decide (d%2=0)=b then (d+1)%4 else d
def Zb6 (picks:List Bool) (n:Nat) (l:List Za):Option (List Za) :=
 match pkF l with
 | none=>none
 | some (i,a,b)=>some (wth l (nx l (gi (gi (faces l) i) a.1).1 (gi (gi (faces l) i) a.1).2).toNat (rgD (((gi (gi (faces l) i) a.1).2+4-a.2)%4) (ZcQ picks n):Nat) (nx l (gi (gi (faces l) i) b.1).1 (gi (gi (faces l) i) b.1).2).toNat (-2))
theorem ZnT {d p:Nat}{b:Bool}(hp:p<2) (hd:d<4):∃ t,t<2∧rgD ((d+4-p)%4) b=(d+4-p+t)%4:=by
 unfold rgD;split
 ·exact ⟨1,by omega,by omega⟩
 ·exact ⟨0,by omega,by omega⟩
structure RgS (l m:List Za):Prop where
 ex:∃ v w d:Nat,v<l.length∧w<l.length∧v≠w∧d<4∧nx l v d=-1∧nx l w ((d+2)%4)=-1∧m=wth l v d w (-2)
 err:ZeE m=0
theorem ZgU {l m:List Za}{picks:List Bool}{n:Nat}(h:ZeE l=0) (hl:l.length≤4096) (hm:Zb6 picks n l=some m):RgS l m∧∃ i a b v w d,pkF l=some (i,a,b)∧v<l.length∧w<l.length∧v≠w∧d<4∧nx l v d=-1∧nx l w ((d+2)%4)=-1∧m=wth l (v:Nat) (d:Nat) (w:Nat) (-2)∧pkR l i a b=((v:Int),((((gi (gi (faces l) i) a.1).2+4-a.2)%4:Nat):Int),(w:Int))∧d=rgD (((gi (gi (faces l) i) a.1).2+4-a.2)%4) (ZcQ picks n):=by
 obtain ⟨k,W,_⟩:=ZeD h;have hc:=(ZcY.1 k).2;unfold Zb6 at hm
 cases hp:pkF l with
 | none=>rw [hp] at hm;cases hm
 | some q =>
  obtain ⟨i,a,b⟩:=q;rw [hp] at hm;dsimp only at hm;obtain ⟨hi,ha,hb,hr⟩:=Zk0 hp;have h1:l.length≠1:=fun e=>by rw [ZgJ hc e] at hi;simp at hi
  have V:=(Zg2.1 h).2.2 h1;obtain ⟨a1,a2⟩:=Zdg.1 ha;rw [Zdy] at a1;have dA:=(Zde hc).1 _ (Zbd hi) _ (Zbd a1);obtain ⟨t,ht,ed⟩:=ZnT (b:=ZcQ picks n) (ZeM a2).2.1 dA.2.1;obtain ⟨x1,x2,x3,x4,x5,x6,x7,x8,x9,x10,x11,x12,x13⟩:=Zko hc V W (Zbd hi) ha hb hr ht ed;have hd4:rgD (((gi (gi (faces l) i) a.1).2+4-a.2)%4) (ZcQ picks n)<4:=by rw [ed];exact Nat.mod_lt _ (by decide)
  cases hm;have er:ZeE (wth l (nx l (gi (gi (faces l) i) a.1).1 (gi (gi (faces l) i) a.1).2).toNat (rgD (((gi (gi (faces l) i) a.1).2+4-a.2)%4) (ZcQ picks n):Nat) (nx l (gi (gi (faces l) i) b.1).1 (gi (gi (faces l) i) b.1).2).toNat (-2))=0 :=
   Zg2.2 ⟨ZcY.2 ⟨by rw [Zas];exact hl,x11⟩,x13,fun _=>x12⟩
  refine ⟨⟨⟨_,_,_,x6,x7,x8,hd4,x9,x10,rfl⟩,er⟩,i,a,b,_,_,_,rfl,x6,x7,x8,hd4,x9,x10,rfl,?_,rfl⟩;have:=x4.2.2;have:=x5.2.2;unfold pkR;rw [Int.toNat_of_nonneg x4.2.2,Int.toNat_of_nonneg x5.2.2]
theorem ZmL {l cells:List Za}{picks:List Bool}{n:Nat}(hl:l.length≤60) (h:ZeE l=0) (hn:n≤100000):zb.s0 cells picks (l,(n:Int))=some (match Zb6 picks n l with|none=>.inr (l,(n:Int),0)|some m=>.inl (m,(n:Int)+1)):=by
 obtain ⟨k,W,_⟩:=ZeD h;simp only [zb.s0,itn];rw [ZmE (by omega),obs,ZmK hl k,obs]
 cases hm:Zb6 picks n l with
 | none =>
  cases hp:pkF l with
  | none=>rfl
  | some q=>unfold Zb6 at hm;rw [hp] at hm;cases hm
 | some m =>
  obtain ⟨S,i,a,b,v,w,d,hp,hv,hw,hvw,hd,f1,f2,rfl,er,ed⟩:=ZgU h (by omega) hm;rw [hp];dsimp only;rw [Bool.not_true,if_neg Bool.false_ne_true,er];dsimp only;have hb:(if decide ((n:Int)<(picks.length:Int))=true then ck ((0:Int)≤(n:Int)∧(n:Int)<(picks.length:Int)) (some (gi picks n)) else some false)=some (ZcQ picks n):=by
   unfold ZcQ;by_cases c:n<picks.length
   ·rw [zp (by omega),ZJ (by omega),ZcF c,Bool.true_and]
   ·rw [zn (by omega),ZcO c,Bool.false_and]
  rw [hb,obs];simp only [ZaL,obs];have hx:((gi (gi (faces l) i) a.1).2+4-a.2)%4<4:=Nat.mod_lt _ (by decide);generalize ((gi (gi (faces l) i) a.1).2+4-a.2)%4=e at *;have hd':(if decide ((decide ((e:Int)=0)||decide ((e:Int)=2))=ZcQ picks n)=true then (zf (e:Int) 1).bind fun x13=>some x13 else some (e:Int))=some (d:Int):=by
   have q:(decide ((e:Int)=0)||decide ((e:Int)=2))=decide (e%2=0):=by
    match e,hx with
    | 0,_|1,_|2,_|3,_=>rfl
   rw [q,ed];unfold rgD;by_cases c:decide (e%2=0)=ZcQ picks n
   ·rw [zp c,if_pos c,ZeO hx (by omega),if_pos rfl];rfl
   ·rw [zn c,if_neg c]
  rw [hd',obs,(ZlB (o:=-2) (by omega) hv hw hvw hd (by omega) f1 f2).1,obs];dsimp only;rw [ZbC rfl,ZaJ (by omega)]
structure RgI (l m:List Za) (n:Nat):Prop where
 err:ZeE m=0
 len:m.length=l.length
 cnt:cD m=cD l+2*n
 kp:∀ v d,v<l.length→d<4→(nx m v d=nx l v d∧ow m v d=ow l v d)∨(nx l v d=-1∧0≤nx m v d∧ow m v d=-2)
theorem RgI.step {l m k:List Za}{n:Nat}(R:RgI l m n) (S:RgS m k):RgI l k (n+1):=by
 obtain ⟨v,w,d,hv,hw,hvw,hd,f1,f2,rfl⟩:=S.ex;have hc:=(ZcY.1 (ZeD R.err).1).2;have hk:=(ZcY.1 (ZeD S.err).1).2;have D:=Del.of_wth hc hv hw hvw hd (o:=-2) f1 f2;refine ⟨S.err,by rw [Zas,R.len],?_,?_⟩
 ·rw [D.cD hk,R.cnt];omega
 ·intro u e hu he;obtain ⟨n1,n2⟩:=Zdi (o:=-2) hv hw hvw hd (i:=u) (e:=e) (by rw [R.len];exact hu) he;rw [n1,n2];rcases R.kp u e hu he with ⟨h1,h2⟩|⟨h1,h2,h3⟩
  ·by_cases c1:u=v∧e=d
   ·rw [if_pos c1,if_pos c1];obtain ⟨rfl,rfl⟩:=c1;exact .inr ⟨by rw [← h1];exact f1,by omega,rfl⟩
   ·rw [if_neg c1,if_neg c1];by_cases c2:u=w∧e=(d+2)%4
    ·rw [if_pos c2,if_pos c2];obtain ⟨rfl,rfl⟩:=c2;exact .inr ⟨by rw [← h1];exact f2,by omega,rfl⟩
    ·rw [if_neg c2,if_neg c2];exact .inl ⟨h1,h2⟩
  ·have c1:¬ (u=v∧e=d):=by rintro ⟨rfl,rfl⟩;omega
   have c2:¬ (u=w∧e=(d+2)%4):=by rintro ⟨rfl,rfl⟩;omega
   rw [if_neg c1,if_neg c2,if_neg c1,if_neg c2];exact .inr ⟨h1,h2,h3⟩
theorem RgI.le {l m:List Za}{n:Nat}(R:RgI l m n):(2*n:Int)≤4*l.length:=by
 have h:=R.cnt;have a:=Zf2 (l:=m) m.length;have b:=Zf2 (l:=l) l.length;rw [R.len] at a;unfold cD at h;rw [R.len] at h;omega
theorem ZlD {l:List Za}{picks:List Bool}(hl:l.length≤1200) (h:ZeE l≠0):zb l picks=some ([],0,ZeE l):=by
 unfold zb;rw [ZiS (by omega),obs,Zdx h]
end Mu
/- Layer 22: what is made regular can be drawn,no corners of it Zko at one another,and nothing but edges of Dummy is new. -/
namespace Mu
theorem ZgP:Zap=some true:=by decide +kernel
end Mu
/- Layer 22: what is made regular is the document's. -/
namespace Mu
def ZbF (picks:List Bool):Nat→Nat→List Za→List Za×Nat
 | 0,n,l=>(l,n)
 | f+1,n,l=>match Zb6 picks n l with
  | none=>(l,n)
  | some m=>ZbF picks f (n+1) m
theorem ZkC {ρ:Type}{step:(List Za)×Int→Option (((List Za)×Int)⊕ρ)}{G:List Za→Nat→ρ}{picks:List Bool}{l:List Za}(hl:l.length≤4000) (hs:∀ m n,RgI l m n→step (m,(n:Int))=some (match Zb6 picks n m with|none=>.inr (G m n)|some m'=>.inl (m',(n:Int)+1))) :
  ∀ f m n,RgI l m n→2*l.length+1≤n+f→za step f (m,(n:Int))=some (G (ZbF picks f n m).1 (ZbF picks f n m).2)∧RgI l (ZbF picks f n m).1 (ZbF picks f n m).2∧pkF (ZbF picks f n m).1=none
 | 0,m,n,R,hf=>by have:=R.le;omega
 | f+1,m,n,R,hf=>by
  have e:=hs m n R;rw [za,e,ZbF]
  cases h:Zb6 picks n m with
  | none =>
   refine ⟨rfl,R,?_⟩;unfold Zb6 at h
   cases hp:pkF m with
   | none=>rfl
   | some q=>rw [hp] at h;cases h
  | some m'=>exact ZkC hl hs f m' (n+1) (R.step (ZgU R.err (by rw [R.len];omega) h).1) (by omega)
end Mu
/- Cells on a plane: laid out on the board's own lines. -/
namespace Mu
/-! Cells that hang together,dart by dart. -/
theorem Zot:∀ a b c d:Bool,∀ i j:Fin 4,Zb9 a b c d i.1=true→Zb9 a b c d j.1=true →
  j.1=i.1∨j.1=prv (Zb9 a b c d) ((i.1+2)%4)∨j.1=prv (Zb9 a b c d) ((prv (Zb9 a b c d) ((i.1+2)%4)+2)%4)∨j.1=prv (Zb9 a b c d) ((prv (Zb9 a b c d) ((prv (Zb9 a b c d) ((i.1+2)%4)+2)%4)+2)%4):=by decide +kernel
theorem Zjb {l:List Za}(hc:Ck l) {C:Da→Prop}(hC:∀ x,isD l x→C x→C (bh l x)∧C (opp l x)) {u i j:Nat}(hi:isD l (u,i)) (hj:isD l (u,j)) (h:C (u,i)):C (u,j):=by
 have st:∀ {k},isD l (u,k)→C (u,k)→isD l (u,prv (fun e=>decide (0≤nx l u e)) ((k+2)%4))∧C (u,prv (fun e=>decide (0≤nx l u e)) ((k+2)%4)):=by
  intro k hk hCk;have f:=hk.fwd hc;have o:=hk.opp hc;have c1:=(hC _ hk hCk).2;have c2:=(hC _ o c1).1;have c3:=o.bh hc;rw [Zby] at c2 c3;have e:(nx l (opp l (u,k)).1 (opp l (u,k)).2).toNat=u:=by
   show (nx l (nx l u k).toNat ((k+2)%4)).toNat=u;have:=f.2;dsimp only at this;rw [this];omega
  rw [e] at c2 c3;exact ⟨c3,c2⟩
 have q:=Zot (decide (0≤nx l u 0)) (decide (0≤nx l u 1)) (decide (0≤nx l u 2)) (decide (0≤nx l u 3)) ⟨i,hi.2.1⟩ ⟨j,hj.2.1⟩;have se:∀ e,e<4→Zb9 (decide (0≤nx l u 0)) (decide (0≤nx l u 1)) (decide (0≤nx l u 2)) (decide (0≤nx l u 3)) e=decide (0≤nx l u e):=fun e he=>Zce (A:=fun e=>decide (0≤nx l u e)) he;have pe:∀ e,e<4→prv (Zb9 (decide (0≤nx l u 0)) (decide (0≤nx l u 1)) (decide (0≤nx l u 2)) (decide (0≤nx l u 3))) e=prv (fun e=>decide (0≤nx l u e)) e:=fun e he=>ZcT (A:=fun e=>decide (0≤nx l u e)) he;have i0:=hi.2.2;have j0:=hj.2.2;dsimp only at q i0 j0;have q:=q (by rw [se i hi.2.1];simpa using i0) (by rw [se j hj.2.1];simpa using j0);have l1:prv (fun e=>decide (0≤nx l u e)) ((i+2)%4)<4:=Zk5 (by omega);rw [pe _ (by omega),pe _ (by omega),pe _ (by omega)] at q;obtain ⟨d1,c1⟩:=st hi h;obtain ⟨d2,c2⟩:=st d1 c1;obtain ⟨d3,c3⟩:=st d2 c2;rcases q with q|q|q|q
 ·rw [q];exact h
 ·rw [q];exact c1
 ·rw [q];exact c2
 ·rw [q];exact c3
theorem Zmy {l:List Za}(hc:Ck l) {C:Da→Prop}(hC:∀ x,isD l x→C x→C (bh l x)∧C (opp l x)) {u n w:Nat}(hu:u<l.length) (hr:Rch l u n w) (h:∀ j,isD l (u,j)→C (u,j)):∀ j,isD l (w,j)→C (w,j):=by
 induction hr with
 | zero=>exact h
 | succ hr hab ih =>
  rename_i n a b;have ha:=hr.lt hc hu;obtain ⟨d,hd,e⟩:=hab;have D:isD l (a,d):=⟨ha,hd,by rw [e];omega⟩;have c:=(hC _ D (ih d D)).2;have o:=D.opp hc;have eo:opp l (a,d)=(b,(d+2)%4):=by unfold opp;dsimp only;rw [e,itn]
  rw [eo] at c o;exact fun j hj=>Zjb hc hC o hj c
/-! The board. -/
def gN (k e:Nat):Int:=if e=0 then (if k%8<7 then (k:Int)+1 else -1) else if e=1 then (if k / 8<7 then (k:Int)+8 else -1) else if e=2 then (if 0<k%8 then (k:Int)-1 else -1) else (if 8≤k then (k:Int)-8 else -1)
def brd (c:Nat→Nat→Bool):List Za:=(List.range 64).map fun k=>⟨⟨if c k 0 then gN k 0 else -1,if c k 1 then gN k 1 else -1,if c k 2 then gN k 2 else -1,if c k 3 then gN k 3 else -1⟩,⟨0,0,0,0⟩⟩
theorem Zdv {c:Nat→Nat→Bool}:(brd c).length=64:=by simp [brd]
theorem ZeQ {c:Nat→Nat→Bool}{k e:Nat}(hk:k<64) (he:e<4):nx (brd c) k e=(if c k e then gN k e else -1)∧ow (brd c) k e=0:=by
 unfold nx ow brd;rw [Zb4 hk];have:e=0∨e=1∨e=2∨e=3:=by omega
 rcases this with rfl|rfl|rfl|rfl<;>exact ⟨rfl,rfl⟩
theorem Zly:∀ k:Fin 64,∀ e:Fin 4,decide (gN k.1 e.1<0)=false→((gN k.1 e.1).toNat<64∧(gN k.1 e.1).toNat≠k.1)∧gN (gN k.1 e.1).toNat ((e.1+2)%4)=(k.1:Int):=by decide +kernel
theorem Zkf {k e:Nat}(hk:k<64) (he:e<4) (h:0≤gN k e):(gN k e).toNat<64∧(gN k e).toNat≠k∧gN (gN k e).toNat ((e+2)%4)=k:=by
 have:=Zly ⟨k,hk⟩ ⟨e,he⟩ (by simp;omega);exact ⟨this.1.1,this.1.2,this.2⟩
theorem Zil {c:Nat→Nat→Bool}(h:∀ k e,k<64→e<4→c k e=true→0≤gN k e∧c (gN k e).toNat ((e+2)%4)=true):Ck (brd c):=by
 refine ⟨fun v d hv hd=>?_⟩;rw [Zdv] at hv ⊢;have n:=ZeQ (c:=c) hv hd;by_cases q:c v d=true
 ·obtain ⟨h1,h2⟩:=h v d hv hd q;obtain ⟨g1,g2,g3⟩:=Zkf hv hd h1;have m:=ZeQ (c:=c) g1 (show (d+2)%4<4 by omega);right;refine ⟨(gN v d).toNat,?_,g1,g2,?_,?_,?_⟩
  ·rw [n.1,if_pos q];omega
  ·rw [m.1,if_pos h2,g3]
  ·rw [m.2,n.2]
  ·rw [n.2];omega
 ·left;rw [n.1,if_neg q,n.2];exact ⟨rfl,rfl⟩
def ZcP (k e:Nat):Bool:=decide (0≤gN k e)
theorem Zhm:Ck (brd ZcP):=Zil fun k e hk he h=>by
 unfold ZcP at h ⊢;rw [decide_eq_true_eq] at h ⊢;obtain ⟨_,_,g3⟩:=Zkf hk he h;exact ⟨h,by rw [g3];omega⟩
theorem Zke:Val (brd ZcP):=by
 rw [← Zfe];have:∃ a,Zfr (brd ZcP)=some a∧0≤a:=by
  refine ⟨1,?_,by decide⟩;decide +kernel
 exact this
theorem Ze9 {C:Da→Prop}(hC:∀ x,isD (brd ZcP) x→C x→C (bh (brd ZcP) x)∧C (opp (brd ZcP) x)) {k e:Nat}(hk:k<64) (he:e<4) (h0:0≤gN k e) (h:∀ j,isD (brd ZcP) (k,j)→C (k,j)):∀ j,isD (brd ZcP) ((gN k e).toNat,j)→C ((gN k e).toNat,j):=by
 refine Zmy (u:=k) (n:=1) Zhm hC (by rw [Zdv];exact hk) (.succ .zero ⟨e,he,?_⟩) h;rw [(ZeQ hk he).1,if_pos (by unfold ZcP;simpa using h0)];omega
theorem Zez {k:Nat}(hk:k<64):(0<k%8→gN k 2=(k:Int)-1)∧(8≤k→gN k 3=(k:Int)-8)∧(k%8<7→gN k 0=(k:Int)+1)∧(k / 8<7→gN k 1=(k:Int)+8):=by
 refine ⟨fun h=>?_,fun h=>?_,fun h=>?_,fun h=>?_⟩<;>unfold gN<;>simp [h]
theorem Zlx:Cn (brd ZcP):=by
 intro C hC p q hp hq hCp;have down:∀ (n k:Nat),k<64→k / 8+k%8≤n→(∀ j,isD (brd ZcP) (k,j)→C (k,j))→∀ j,isD (brd ZcP) (0,j)→C (0,j):=by
  intro n
  induction n with
  | zero =>
   intro k hk hn h;have:k=0:=by omega
   subst this;exact h
  | succ n ih =>
   intro k hk hn h;by_cases c:0<k%8
   ·have g:=(Zez hk).1 c;have:=Ze9 hC hk (show 2<4 by omega) (by omega) h;rw [g,show ((k:Int)-1).toNat=k-1 by omega] at this;exact ih (k-1) (by omega) (by omega) this
   ·by_cases c2:8≤k
    ·have g:=(Zez hk).2.1 c2;have:=Ze9 hC hk (show 3<4 by omega) (by omega) h;rw [g,show ((k:Int)-8).toNat=k-8 by omega] at this;exact ih (k-8) (by omega) (by omega) this
    ·have:k=0:=by omega
     subst this;exact h
 have up:∀ (n k:Nat),k<64→k / 8+k%8≤n→(∀ j,isD (brd ZcP) (0,j)→C (0,j))→∀ j,isD (brd ZcP) (k,j)→C (k,j):=by
  intro n
  induction n with
  | zero =>
   intro k hk hn h;have:k=0:=by omega
   subst this;exact h
  | succ n ih =>
   intro k hk hn h;by_cases c:0<k%8
   ·have h1:=ih (k-1) (by omega) (by omega) h;have g:=(Zez (show k-1<64 by omega)).2.2.1 (by omega);have:=Ze9 hC (show k-1<64 by omega) (show 0<4 by omega) (by omega) h1;rw [g,show (((k-1:Nat):Int)+1).toNat=k by omega] at this;exact this
   ·by_cases c2:8≤k
    ·have h1:=ih (k-8) (by omega) (by omega) h;have g:=(Zez (show k-8<64 by omega)).2.2.2 (by omega);have:=Ze9 hC (show k-8<64 by omega) (show 1<4 by omega) (by omega) h1;rw [g,show (((k-8:Nat):Int)+8).toNat=k by omega] at this;exact this
    ·have:k=0:=by omega
     subst this;exact h
 have p1:=hp.1;have q1:=hq.1;rw [Zdv] at p1 q1;have h1:=down _ p.1 p1 (Nat.le_refl _) fun j hj=>Zjb (i:=p.2) Zhm hC hp hj hCp;exact up _ q.1 q1 (Nat.le_refl _) h1 q.2 hq
theorem Zlk {c:Nat→Nat→Bool}(h:∀ k e,k<64→e<4→c k e=true→0≤gN k e∧c (gN k e).toNat ((e+2)%4)=true) (hn:Cn (brd c)) {p:Da}(hp:isD (brd c) p):Val (brd c):=by
 refine Sub.val Zhm Zlx Zke _ (brd c) (Zil h) ⟨by rw [Zdv,Zdv],fun u e hu he=>?_⟩ hn ⟨p,hp⟩ (Nat.le_refl _);rw [Zdv] at hu;rw [(ZeQ hu he).1,(ZeQ hu he).1];by_cases q:c u e=true
 ·rw [if_pos q,if_pos (by unfold ZcP;simpa using (h u e hu he q).1)];exact .inl rfl
 ·rw [if_neg q];exact .inr rfl
end Mu
/- Cells that lie on a plane can be drawn,if they hang together. -/
namespace Mu
def dx (d:Nat):Int:=if d=0 then 1 else if d=2 then -1 else 0
def dy (d:Nat):Int:=if d=1 then 1 else if d=3 then -1 else 0
structure Geo (l:List Za) (at_:List Zk):Prop where
 ck:Ck l
 len:l.length=at_.length
 in8:∀ i,i<l.length→0≤(gi at_ i).X∧(gi at_ i).X<8∧0≤(gi at_ i).Y∧(gi at_ i).Y<8
 inj:∀ i j,i<l.length→j<l.length→(gi at_ i).X=(gi at_ j).X→(gi at_ i).Y=(gi at_ j).Y→i=j
 str:∀ p,isD l p→∃ n:Nat,1≤n∧(gi at_ (nx l p.1 p.2).toNat).X=(gi at_ p.1).X+n*dx p.2∧(gi at_ (nx l p.1 p.2).toNat).Y=(gi at_ p.1).Y+n*dy p.2 ∧
  ∀ u,u<l.length→∀ i:Nat,0<i→i<n→(gi at_ u).X=(gi at_ p.1).X+i*dx p.2→(gi at_ u).Y=(gi at_ p.1).Y+i*dy p.2→False
 nc:NX at_ l
theorem Made.geo {l:List Za}{at_:List Zk}(h:Made l at_):Geo l at_:=by
 have pos:∀ v e,v<l.length→e<2→0≤nx l v e→∃ n:Nat,1≤n∧(gi at_ (nx l v e).toNat).X=(gi at_ v).X+n*dx e∧(gi at_ (nx l v e).toNat).Y=(gi at_ v).Y+n*dy e ∧
   ∀ u,u<l.length→∀ i:Nat,0<i→i<n→(gi at_ u).X=(gi at_ v).X+i*dx e→(gi at_ u).Y=(gi at_ v).Y+i*dy e→False:=by
  intro v e hv he h0;rcases h.near v e hv he with q|q
  ·omega
  ·rcases q with ⟨q,_⟩|⟨j,q,j1,j2,j3⟩
   ·omega
   ·rw [q,itn];have hl:=h.len;have:e=0∨e=1:=by omega
    rcases this with rfl|rfl
    ·obtain ⟨_,c⟩:=j2;rw [if_pos rfl] at c;refine ⟨((gi at_ j).X-(gi at_ v).X).toNat,by omega,by simp [dx];omega,by simp [dy];omega,fun u hu i i0 i1 hx hy=>?_⟩;simp [dx,dy] at hx hy;have:=j3 u (by omega) ⟨by omega,by rw [if_pos rfl];omega⟩;unfold ZbI at this;rw [if_pos rfl] at this;omega
    ·obtain ⟨_,c⟩:=j2;rw [if_neg (by omega)] at c;refine ⟨((gi at_ j).Y-(gi at_ v).Y).toNat,by omega,by simp [dx];omega,by simp [dy];omega,fun u hu i i0 i1 hx hy=>?_⟩;simp [dx,dy] at hx hy;have:=j3 u (by omega) ⟨by omega,by rw [if_neg (by omega)];omega⟩;unfold ZbI at this;rw [if_neg (by omega)] at this;omega
 refine ⟨h.ck,h.len,fun i hi=>h.pts.b i (by rw [← h.len];exact hi),fun i j hi hj hx hy=>h.pts.d i j (by rw [← h.len];exact hi) (by rw [← h.len];exact hj) ?_,fun p hp=>?_,h.nc⟩
 ·generalize gi at_ i=a at *;generalize gi at_ j=b at *;obtain ⟨a1,a2⟩:=a;obtain ⟨b1,b2⟩:=b;dsimp only at hx hy;rw [hx,hy]
 ·obtain ⟨v,d⟩:=p;have f:=hp.fwd h.ck;obtain ⟨v1,d1,n1⟩:=hp;dsimp only at v1 d1 n1 f ⊢;by_cases c:d<2
  ·exact pos v d v1 c n1
  ·have hw:(((nx l v d).toNat:Nat):Int)=nx l v d:=by omega
   generalize (nx l v d).toNat=w at *;obtain ⟨n,a1,a2,a3,a4⟩:=pos w ((d+2)%4) f.1 (by omega) (by rw [f.2];omega);rw [f.2,itn] at a2 a3;have sx:dx ((d+2)%4)=- dx d:=by
    have:d=2∨d=3:=by omega
    rcases this with rfl|rfl<;>rfl
   have sy:dy ((d+2)%4)=- dy d:=by
    have:d=2∨d=3:=by omega
    rcases this with rfl|rfl<;>rfl
   rw [sx] at a2 a4;rw [sy] at a3 a4;rw [Int.mul_neg] at a2 a3;refine ⟨n,a1,by omega,by omega,fun u hu i i0 i1 hx hy=>a4 u hu (n-i) (by omega) (by omega) ?_ ?_⟩
   ·rw [Int.mul_neg,Int.natCast_sub (by omega),Int.sub_mul];omega
   ·rw [Int.mul_neg,Int.natCast_sub (by omega),Int.sub_mul];omega
section geo
variable {l:List Za}{at_:List Zk}
def eL (l:List Za) (at_:List Zk) (p:Da):Nat:=(((gi at_ (nx l p.1 p.2).toNat).X-(gi at_ p.1).X)*dx p.2+((gi at_ (nx l p.1 p.2).toNat).Y-(gi at_ p.1).Y)*dy p.2).toNat
def pX (at_:List Zk) (p:Da) (i:Int):Int:=(gi at_ p.1).X+i*dx p.2
def pY (at_:List Zk) (p:Da) (i:Int):Int:=(gi at_ p.1).Y+i*dy p.2
theorem dxy {d:Nat}(h:d<4):(d=0∧dx d=1∧dy d=0)∨(d=1∧dx d=0∧dy d=1)∨(d=2∧dx d=-1∧dy d=0)∨(d=3∧dx d=0∧dy d=-1):=by
 have:d=0∨d=1∨d=2∨d=3:=by omega
 rcases this with rfl|rfl|rfl|rfl
 ·exact .inl ⟨rfl,rfl,rfl⟩
 ·exact .inr (.inl ⟨rfl,rfl,rfl⟩)
 ·exact .inr (.inr (.inl ⟨rfl,rfl,rfl⟩))
 ·exact .inr (.inr (.inr ⟨rfl,rfl,rfl⟩))
theorem Geo.e (G:Geo l at_) {p:Da}(hp:isD l p):1≤eL l at_ p∧(gi at_ (nx l p.1 p.2).toNat).X=pX at_ p (eL l at_ p)∧(gi at_ (nx l p.1 p.2).toNat).Y=pY at_ p (eL l at_ p) ∧
  ∀ u,u<l.length→∀ i:Nat,0<i→i<eL l at_ p→(gi at_ u).X=pX at_ p i→(gi at_ u).Y=pY at_ p i→False:=by
 obtain ⟨n,a1,a2,a3,a4⟩:=G.str p hp;have:eL l at_ p=n:=by
  unfold eL;rw [a2,a3];rcases dxy hp.2.1 with ⟨_,h1,h2⟩|⟨_,h1,h2⟩|⟨_,h1,h2⟩|⟨_,h1,h2⟩<;>rw [h1,h2]<;>omega
 rw [this];exact ⟨a1,a2,a3,a4⟩
theorem Zm3 {d:Nat}(h:d<4):dx ((d+2)%4)=- dx d∧dy ((d+2)%4)=- dy d:=by
 have:d=0∨d=1∨d=2∨d=3:=by omega
 rcases this with rfl|rfl|rfl|rfl<;>exact ⟨rfl,rfl⟩
theorem Geo.opp (G:Geo l at_) {p:Da}(hp:isD l p):eL l at_ (opp l p)=eL l at_ p∧∀ i:Int,pX at_ (Mu.opp l p) i=pX at_ p (eL l at_ p-i)∧pY at_ (Mu.opp l p) i=pY at_ p (eL l at_ p-i):=by
 obtain ⟨a1,a2,a3,_⟩:=G.e hp;have f:=hp.fwd G.ck;have o:=Zm3 hp.2.1;have h:∀ i:Int,pX at_ (Mu.opp l p) i=pX at_ p (eL l at_ p-i)∧pY at_ (Mu.opp l p) i=pY at_ p (eL l at_ p-i):=by
  intro i;constructor
  ·show (gi at_ (nx l p.1 p.2).toNat).X+i*dx ((p.2+2)%4)=_;rw [a2,o.1];unfold pX;rw [Int.mul_neg,Int.sub_mul];omega
  ·show (gi at_ (nx l p.1 p.2).toNat).Y+i*dy ((p.2+2)%4)=_;rw [a3,o.2];unfold pY;rw [Int.mul_neg,Int.sub_mul];omega
 refine ⟨?_,h⟩;obtain ⟨b1,b2,b3,_⟩:=G.e (hp.opp G.ck);have e:(nx l (Mu.opp l p).1 (Mu.opp l p).2).toNat=p.1:=by
  show (nx l (nx l p.1 p.2).toNat ((p.2+2)%4)).toNat=_;rw [f.2];omega
 rw [e,(h _).1] at b2;rw [e,(h _).2] at b3;unfold pX at b2;unfold pY at b3;rcases dxy hp.2.1 with ⟨_,h1,h2⟩|⟨_,h1,h2⟩|⟨_,h1,h2⟩|⟨_,h1,h2⟩<;>rw [h1] at b2<;>rw [h2] at b3<;>omega
theorem Geo.uniq (G:Geo l at_) {p q:Da}(hp:isD l p) (hq:isD l q) (hd:p.2=q.2) {i j:Nat}(hi:i<eL l at_ p) (hj:j<eL l at_ q) (h1:pX at_ p i=pX at_ q j) (h2:pY at_ p i=pY at_ q j):p=q∧i=j:=by
 have key:∀ {p q:Da},isD l p→isD l q→p.2=q.2→∀ {i j:Nat},i<eL l at_ p→pX at_ p i=pX at_ q j→pY at_ p i=pY at_ q j→i ≥ j→p=q∧i=j:=by
  intro p q hp hq hd i j hi h1 h2 hij;have e:=G.e hp;have x:(gi at_ q.1).X=pX at_ p ((i-j:Nat):Int):=by unfold pX at h1 ⊢; rw [hd] at h1 ⊢; rw [Int.natCast_sub hij,Int.sub_mul];omega
  have y:(gi at_ q.1).Y=pY at_ p ((i-j:Nat):Int):=by unfold pY at h2 ⊢; rw [hd] at h2 ⊢; rw [Int.natCast_sub hij,Int.sub_mul];omega
  by_cases c:i=j
  ·subst c;rw [Nat.sub_self] at x y;unfold pX at x;unfold pY at y;have:=G.inj q.1 p.1 hq.1 hp.1 (by omega) (by omega);exact ⟨Prod.ext this.symm hd,rfl⟩
  ·exact (e.2.2.2 q.1 hq.1 (i-j) (by omega) (by omega) x y).elim
 by_cases c:i ≥ j
 ·exact key hp hq hd hi h1 h2 c
 ·obtain ⟨a,b⟩:=key hq hp hd.symm hj h1.symm h2.symm (by omega);exact ⟨a.symm,b.symm⟩
theorem Geo.inner (G:Geo l at_) {p q:Da}(hp:isD l p) (hq:isD l q) {i j:Nat}(i0:0<i) (hi:i<eL l at_ p) (hj:j<eL l at_ q) (h1:pX at_ p i=pX at_ q j) (h2:pY at_ p i=pY at_ q j):q.2=p.2∨q.2=(p.2+2)%4:=by
 have e:=G.e hp;have e':=G.e hq;by_cases j0:j=0
 ·subst j0;have x:(gi at_ q.1).X=pX at_ p i:=by rw [h1];unfold pX;omega
  have y:(gi at_ q.1).Y=pY at_ p i:=by rw [h2];unfold pY;omega
  exact (e.2.2.2 q.1 hq.1 i i0 hi x y).elim
 ·-- both within: one across,the other up
  have o:=G.opp hp;have o':=G.opp hq;have f:=hp.fwd G.ck;have f':=hq.fwd G.ck;have nc:=G.nc;have hp2:=hp.2.1;have hq2:=hq.2.1;refine Classical.byContradiction fun hne=>?_
  -- the lower end of each
  have low:∀ {p:Da},isD l p→∃ a:Nat,a<l.length∧0≤nx l a (p.2%2)∧∀ k:Nat,0<k→k<eL l at_ p →
    (p.2%2=0→(gi at_ a).X<pX at_ p k∧pX at_ p k<(gi at_ (nx l a 0).toNat).X∧(gi at_ a).Y=pY at_ p k) ∧
    (p.2%2=1→(gi at_ a).Y<pY at_ p k∧pY at_ p k<(gi at_ (nx l a 1).toNat).Y∧(gi at_ a).X=pX at_ p k):=by
   intro p hp;have e:=G.e hp;have f:=hp.fwd G.ck;rcases dxy hp.2.1 with ⟨d,x,y⟩|⟨d,x,y⟩|⟨d,x,y⟩|⟨d,x,y⟩
   ·refine ⟨p.1,hp.1,by rw [d];have:=hp.2.2;rw [d] at this;exact this,fun k k0 k1=>⟨fun _=>?_,fun h=>by rw [d] at h;omega⟩⟩;have a:=e.2.1;rw [d] at a;rw [a];unfold pX pY;rw [x,y];omega
   ·refine ⟨p.1,hp.1,by rw [d];have:=hp.2.2;rw [d] at this;exact this,fun k k0 k1=>⟨fun h=>by rw [d] at h;omega,fun _=>?_⟩⟩;have a:=e.2.2.1;rw [d] at a;rw [a];unfold pX pY;rw [x,y];omega
   ·have b:=f.2;rw [d] at b;refine ⟨(nx l p.1 p.2).toNat,f.1,by rw [d];show 0≤nx l (nx l p.1 2).toNat 0;rw [b];omega,fun k k0 k1=>⟨fun _=>?_,fun h=>by rw [d] at h;omega⟩⟩;have a:=e.2.1;have a':=e.2.2.1;have b':(nx l (nx l p.1 p.2).toNat 0).toNat=p.1:=by rw [d];show (nx l (nx l p.1 2).toNat 0).toNat=_;rw [b];omega
    rw [b',a,a'];unfold pX pY;rw [x,y];omega
   ·have b:=f.2;rw [d] at b;refine ⟨(nx l p.1 p.2).toNat,f.1,by rw [d];show 0≤nx l (nx l p.1 3).toNat 1;rw [b];omega,fun k k0 k1=>⟨fun h=>by rw [d] at h;omega,fun _=>?_⟩⟩;have a:=e.2.1;have a':=e.2.2.1;have b':(nx l (nx l p.1 p.2).toNat 1).toNat=p.1:=by rw [d];show (nx l (nx l p.1 3).toNat 1).toNat=_;rw [b];omega
    rw [b',a,a'];unfold pX pY;rw [x,y];omega
  obtain ⟨a,a1,a2,a3⟩:=low hp;obtain ⟨b,b1,b2,b3⟩:=low hq;have A:=a3 i i0 hi;have B:=b3 j (by omega) hj;by_cases c:p.2%2=0
  ·have c':q.2%2=1:=by omega
   rw [c] at a2;rw [c'] at b2;have A:=A.1 c;have B:=B.2 c';exact nc a b a1 b1 a2 b2 ⟨by omega,by omega,by omega,by omega⟩
  ·have c1:p.2%2=1:=by omega
   have c':q.2%2=0:=by omega
   rw [c1] at a2;rw [c'] at b2;have A:=A.2 c1;have B:=B.1 c';exact nc b a b1 a1 b2 a2 ⟨by omega,by omega,by omega,by omega⟩
theorem Geo.vert (G:Geo l at_) {q:Da}(hq:isD l q) {u j:Nat}(hu:u<l.length) (hj:j<eL l at_ q) (h1:(gi at_ u).X=pX at_ q j) (h2:(gi at_ u).Y=pY at_ q j):q.1=u∧j=0:=by
 by_cases j0:j=0
 ·subst j0;unfold pX at h1;unfold pY at h2;exact ⟨G.inj q.1 u hq.1 hu (by omega) (by omega),rfl⟩
 ·exact ((G.e hq).2.2.2 u hu j (by omega) hj h1 h2).elim
end geo
end Mu
/- Layer 14: ValidPlane: the board's cells that lie under cells on a plane. -/
namespace Mu
def ps (x y:Int):Nat:=(8*y+x).toNat
theorem ZcK {x y:Int}(hx:0≤x∧x<8) (hy:0≤y∧y<8):ps x y<64∧((ps x y%8:Nat):Int)=x∧((ps x y / 8:Nat):Int)=y:=by
 unfold ps;omega
theorem ZmV {x y x' y':Int}(hx:0≤x∧x<8) (hy:0≤y∧y<8) (hx':0≤x'∧x'<8) (hy':0≤y'∧y'<8) (h:ps x y=ps x' y'):x=x'∧y=y':=by
 have a:=ZcK hx hy;have b:=ZcK hx' hy';rw [h] at a;omega
theorem Zn6 {x y:Int}{e:Nat}(he:e<4) (hx:0≤x∧x<8) (hy:0≤y∧y<8) (hx':0≤x+dx e∧x+dx e<8) (hy':0≤y+dy e∧y+dy e<8):gN (ps x y) e=(ps (x+dx e) (y+dy e):Nat):=by
 have a:=ZcK hx hy;have b:=ZcK hx' hy';rcases dxy he with ⟨rfl,h1,h2⟩|⟨rfl,h1,h2⟩|⟨rfl,h1,h2⟩|⟨rfl,h1,h2⟩<;>rw [h1] at hx' b ⊢ <;> rw [h2] at hy' b ⊢
 ·rw [(Zez a.1).2.2.1 (by omega)];unfold ps;omega
 ·rw [(Zez a.1).2.2.2 (by omega)];unfold ps;omega
 ·rw [(Zez a.1).1 (by omega)];unfold ps;omega
 ·rw [(Zez a.1).2.1 (by omega)];unfold ps;omega
section geo
variable {l:List Za}{at_:List Zk}
def cov (l:List Za) (at_:List Zk) (k e:Nat):Bool:=(Zcu l).any fun p=>decide (p.2=e)&&(List.range (eL l at_ p)).any fun i=>decide (pX at_ p i=(k%8:Nat))&&decide (pY at_ p i=(k / 8:Nat))
theorem Zdw {k e:Nat}:cov l at_ k e=true↔∃ p,isD l p∧p.2=e∧∃ i,i<eL l at_ p∧pX at_ p i=(k%8:Nat)∧pY at_ p i=(k / 8:Nat):=by
 unfold cov;simp only [List.any_eq_true,Bool.and_eq_true,decide_eq_true_eq,List.mem_range,ZbP]
theorem Geo.box (G:Geo l at_) {p:Da}(hp:isD l p) {i:Nat}(hi:i≤eL l at_ p):(0≤pX at_ p i∧pX at_ p i<8)∧0≤pY at_ p i∧pY at_ p i<8:=by
 have e:=G.e hp;have a:=G.in8 p.1 hp.1;have b:=G.in8 _ (hp.fwd G.ck).1;rw [e.2.1,e.2.2.1] at b;unfold pX pY at b ⊢;rcases dxy hp.2.1 with ⟨_,h1,h2⟩|⟨_,h1,h2⟩|⟨_,h1,h2⟩|⟨_,h1,h2⟩<;>rw [h1,h2] at b ⊢ <;> omega
def un (at_:List Zk) (p:Da) (i:Nat):Da:=(ps (pX at_ p i) (pY at_ p i),p.2)
theorem Geo.un_cov (G:Geo l at_) {p:Da}(hp:isD l p) {i:Nat}(hi:i<eL l at_ p):cov l at_ (ps (pX at_ p i) (pY at_ p i)) p.2=true:=by
 have b:=G.box hp (i:=i) (by omega);have c:=ZcK b.1 b.2;exact Zdw.2 ⟨p,hp,rfl,i,hi,c.2.1.symm,c.2.2.symm⟩
theorem ZlK {p:Da}{i:Nat}:pX at_ p i+dx p.2=pX at_ p ((i+1:Nat):Int)∧pY at_ p i+dy p.2=pY at_ p ((i+1:Nat):Int):=by
 unfold pX pY;rw [Int.natCast_add,Int.add_mul,Int.add_mul];constructor<;>omega
theorem Geo.gN_un (G:Geo l at_) {p:Da}(hp:isD l p) {i:Nat}(hi:i<eL l at_ p):gN (ps (pX at_ p i) (pY at_ p i)) p.2=(ps (pX at_ p ((i+1:Nat):Int)) (pY at_ p ((i+1:Nat):Int)):Nat):=by
 have b:=G.box hp (i:=i) (by omega);have b':=G.box hp (i:=i+1) (by omega);have s:=ZlK (at_:=at_) (p:=p) (i:=i);rw [Zn6 hp.2.1 b.1 b.2 (by rw [s.1];exact b'.1) (by rw [s.2];exact b'.2),s.1,s.2]
theorem Geo.cov_cl (G:Geo l at_) {k e:Nat}(hk:k<64) (he:e<4) (h:cov l at_ k e=true):0≤gN k e∧cov l at_ (gN k e).toNat ((e+2)%4)=true:=by
 obtain ⟨p,hp,rfl,i,hi,hx,hy⟩:=Zdw.1 h;have b:=G.box hp (i:=i) (by omega);have ek:k=ps (pX at_ p i) (pY at_ p i):=by rw [hx,hy];unfold ps;omega
 rw [ek,G.gN_un hp hi,itn];have o:=G.opp hp;have b':=G.box hp (i:=i+1) (by omega);have c':=ZcK b'.1 b'.2;refine ⟨by omega,Zdw.2 ⟨Mu.opp l p,hp.opp G.ck,rfl,eL l at_ p-1-i,by rw [o.1];omega,?_,?_⟩⟩
 ·rw [(o.2 _).1,c'.2.1];congr 1;omega
 ·rw [(o.2 _).2,c'.2.2];congr 1;omega
theorem Geo.bck (G:Geo l at_):Ck (brd (cov l at_)):=Zil fun _ _ hk he h=>G.cov_cl hk he h
theorem Geo.nx_cov (G:Geo l at_) {k e:Nat}(hk:k<64) (he:e<4):0≤nx (brd (cov l at_)) k e↔cov l at_ k e=true:=by
 rw [(ZeQ hk he).1];constructor
 ·intro h;refine Classical.byContradiction fun q=>?_;rw [if_neg q] at h;omega
 ·intro h;rw [if_pos h];exact (G.cov_cl hk he h).1
theorem Geo.un_is (G:Geo l at_) {p:Da}(hp:isD l p) {i:Nat}(hi:i<eL l at_ p):isD (brd (cov l at_)) (un at_ p i):=by
 have b:=G.box hp (i:=i) (by omega);have c:=ZcK b.1 b.2;exact ⟨by rw [Zdv];exact c.1,hp.2.1,(G.nx_cov c.1 hp.2.1).2 (G.un_cov hp hi)⟩
theorem Geo.un_nx (G:Geo l at_) {p:Da}(hp:isD l p) {i:Nat}(hi:i<eL l at_ p):nx (brd (cov l at_)) (un at_ p i).1 (un at_ p i).2=(ps (pX at_ p ((i+1:Nat):Int)) (pY at_ p ((i+1:Nat):Int)):Nat):=by
 have b:=G.box hp (i:=i) (by omega);have c:=ZcK b.1 b.2;show nx _ (ps _ _) p.2=_;rw [(ZeQ c.1 hp.2.1).1,if_pos (G.un_cov hp hi),G.gN_un hp hi]
theorem Geo.at_inner (G:Geo l at_) {p:Da}(hp:isD l p) {i e:Nat}(he:e<4) (i0:0<i) (hi:i<eL l at_ p):cov l at_ (ps (pX at_ p i) (pY at_ p i)) e=true↔e=p.2∨e=(p.2+2)%4:=by
 have b:=G.box hp (i:=i) (by omega);have c:=ZcK b.1 b.2;constructor
 ·intro h;obtain ⟨q,hq,rfl,j,hj,hx,hy⟩:=Zdw.1 h;rw [c.2.1] at hx;rw [c.2.2] at hy;exact G.inner hp hq i0 hi hj hx.symm hy.symm
 ·rintro (rfl|rfl)
  ·exact G.un_cov hp hi
  ·have o:=G.opp hp;refine Zdw.2 ⟨Mu.opp l p,hp.opp G.ck,rfl,eL l at_ p-i,by rw [o.1];omega,?_,?_⟩
   ·rw [(o.2 _).1,c.2.1];congr 1;omega
   ·rw [(o.2 _).2,c.2.2];congr 1;omega
theorem Geo.at_vert (G:Geo l at_) {u e:Nat}(hu:u<l.length) (he:e<4):cov l at_ (ps (gi at_ u).X (gi at_ u).Y) e=true↔0≤nx l u e:=by
 have b:=G.in8 u hu;have c:=ZcK (x:=(gi at_ u).X) (y:=(gi at_ u).Y) ⟨b.1,b.2.1⟩ ⟨b.2.2.1,b.2.2.2⟩;constructor
 ·intro h;obtain ⟨q,hq,rfl,j,hj,hx,hy⟩:=Zdw.1 h;rw [c.2.1] at hx;rw [c.2.2] at hy;have:=(G.vert hq hu hj hx.symm hy.symm).1;rw [← this];exact hq.2.2
 ·intro h;have hp:isD l (u,e):=⟨hu,he,h⟩;have e1:=(G.e hp).1;refine Zdw.2 ⟨(u,e),hp,rfl,0,by omega,?_,?_⟩
  ·rw [c.2.1];unfold pX;dsimp only;omega
  ·rw [c.2.2];unfold pY;dsimp only;omega
theorem Geo.un_bh (G:Geo l at_) {p:Da}(hp:isD l p) {i:Nat}(hi:i<eL l at_ p):bh (brd (cov l at_)) (un at_ p i)=if i+1<eL l at_ p then un at_ p (i+1) else un at_ (bh l p) 0:=by
 rw [Zby,G.un_nx hp hi,itn];have d4:=hp.2.1;by_cases c:i+1<eL l at_ p
 ·rw [if_pos c];have b:=G.box hp (i:=i+1) (by omega);have k:=(ZcK b.1 b.2).1;have A:∀ e,e<4→decide (0≤nx (brd (cov l at_)) (ps (pX at_ p ((i+1:Nat):Int)) (pY at_ p ((i+1:Nat):Int))) e)=decide (e=p.2∨e=(p.2+2)%4):=by
   intro e he;rw [decide_eq_decide,G.nx_cov k he,G.at_inner hp he (by omega) c]
  unfold un;refine Prod.ext rfl ?_;dsimp only;rw [Zcn A d4];unfold prv;rw [if_neg (by simp;omega),if_pos (by simp)]
 ·rw [if_neg c];have e:=G.e hp;have f:=hp.fwd G.ck;have ei:i+1=eL l at_ p:=by omega
  rw [ei,← e.2.1,← e.2.2.1];have b:=G.in8 _ f.1;have k:=(ZcK (x:=(gi at_ (nx l p.1 p.2).toNat).X) (y:=(gi at_ (nx l p.1 p.2).toNat).Y) ⟨b.1,b.2.1⟩ ⟨b.2.2.1,b.2.2.2⟩).1;unfold un;rw [Zby (l:=l)];refine Prod.ext ?_ ?_
  ·dsimp only;unfold pX pY;dsimp only;congr 1<;>omega
  ·dsimp only;refine Zcn (fun e he=>?_) d4;rw [decide_eq_decide,G.nx_cov k he,G.at_vert f.1 he]
def Ziq (l:List Za) (at_:List Zk) (p:Da):List Da:=(List.range (eL l at_ p)).map (un at_ p)
theorem ZbE {p x:Da}:x∈Ziq l at_ p↔∃ i,i<eL l at_ p∧un at_ p i=x:=by
 unfold Ziq;simp [List.mem_map,List.mem_range]
theorem Geo.un_inj (G:Geo l at_) {p q:Da}(hp:isD l p) (hq:isD l q) {i j:Nat}(hi:i<eL l at_ p) (hj:j<eL l at_ q) (h:un at_ p i=un at_ q j):p=q∧i=j:=by
 have b:=G.box hp (i:=i) (by omega);have b':=G.box hq (i:=j) (by omega);injection h with h1 h2
 obtain ⟨x,y⟩:=ZmV b.1 b.2 b'.1 b'.2 h1;exact G.uniq hp hq h2 hi hj x y
theorem ZkJ {f:Nat→Int}{m:Nat}(h:∀ i,i<m→f i=0):((List.range (m+1)).map f).sum=f m:=by
 rw [List.range_succ,List.map_append,List.sum_append];have:((List.range m).map f).sum=0:=by
  have:(List.range m).map f=(List.range m).map fun _=>0:=List.map_congr_left fun i hi=>h i (List.mem_range.1 hi);rw [this];have z:∀ n,((List.range n).map fun _=>(0:Int)).sum=0:=by
   intro n
   induction n with
   | zero=>rfl
   | succ n ih=>rw [List.range_succ,List.map_append,List.sum_append,ih];rfl
  exact z m
 rw [this];simp
theorem Geo.ins (G:Geo l at_):Ins l (brd (cov l at_)) (Ziq l at_):=by
 refine ⟨fun p hp=>?_,fun p hp=>?_,fun p hp x hx=>?_,fun p q hp hq x h1 h2=>?_,fun p hp=>?_,fun p hp x hx=>?_,fun C hC p hp hx y hy=>?_,fun x hx=>?_⟩
 ·intro e;have:un at_ p 0∈Ziq l at_ p:=ZbE.2 ⟨0,(G.e hp).1,rfl⟩;rw [e] at this;simp at this
 ·unfold Ziq;refine List.pairwise_map.2 (List.nodup_range.imp_of_mem fun {a b} ha hb hne he=>hne (G.un_inj hp hp (List.mem_range.1 ha) (List.mem_range.1 hb) he).2)
 ·obtain ⟨i,hi,rfl⟩:=ZbE.1 hx;exact G.un_is hp hi
 ·obtain ⟨i,hi,rfl⟩:=ZbE.1 h1;obtain ⟨j,hj,e⟩:=ZbE.1 h2;exact (G.un_inj hp hq hi hj e.symm).1
 ·have e1:=(G.e hp).1;obtain ⟨m,hm⟩:∃ m,eL l at_ p=m+1:=⟨eL l at_ p-1,by omega⟩;unfold Ziq;rw [List.map_map,hm,ZkJ]
  ·show tn (un at_ p m).2 (bh _ (un at_ p m)).2=_;rw [G.un_bh hp (by omega),if_neg (by omega)];rfl
  ·intro i hi;show tn (un at_ p i).2 (bh _ (un at_ p i)).2=_;rw [G.un_bh hp (by omega),if_pos (by omega)];show tn p.2 p.2=0;unfold tn;rw [if_pos rfl]
 ·obtain ⟨i,hi,rfl⟩:=ZbE.1 hx;rw [G.un_bh hp hi];by_cases c:i+1<eL l at_ p
  ·rw [if_pos c];exact .inl (ZbE.2 ⟨i+1,c,rfl⟩)
  ·rw [if_neg c];exact .inr (ZbE.2 ⟨0,(G.e (hp.bh G.ck)).1,rfl⟩)
 ·obtain ⟨x,hx,hCx⟩:=hx;obtain ⟨i,hi,rfl⟩:=ZbE.1 hx;have up:∀ {p:Da},isD l p→∀ {i:Nat},i<eL l at_ p→C (un at_ p i)→∀ m,i+m<eL l at_ p→C (un at_ p (i+m)):=by
   intro p hp i hi hC0 m
   induction m with
   | zero=>intro _;exact hC0
   | succ m ih =>
    intro hm;have:=hC _ (G.un_is hp (i:=i+m) (by omega)) (ih (by omega));rw [G.un_bh hp (by omega),if_pos (by omega)] at this;exact this
  have l1:=up hp hi hCx (eL l at_ p-1-i) (by omega);rw [show i+(eL l at_ p-1-i)=eL l at_ p-1 by omega] at l1;have n1:=hC _ (G.un_is hp (by omega)) l1;rw [G.un_bh hp (by omega),if_neg (by omega)] at n1;obtain ⟨j,hj,rfl⟩:=ZbE.1 hy;have:=up (hp.bh G.ck) (i:=0) (by omega) n1 j (by omega);rwa [Nat.zero_add] at this
 ·have h1:=hx.1;rw [Zdv] at h1;obtain ⟨p,hp,hd,i,hi,hX,hY⟩:=Zdw.1 ((G.nx_cov h1 hx.2.1).1 hx.2.2);refine ⟨p,hp,ZbE.2 ⟨i,hi,Prod.ext ?_ hd⟩⟩;show ps _ _=_;rw [hX,hY];unfold ps;omega
theorem Geo.cn (G:Geo l at_) (Cl:Cn l):Cn (brd (cov l at_)):=by
 intro C hC x y hx hy hCx;have I:=G.ins;obtain ⟨p,hp,hxp⟩:=I.al x hx;obtain ⟨q,hq,hyq⟩:=I.al y hy;have C1:∀ x,isD (brd (cov l at_)) x→C x→C (bh (brd (cov l at_)) x):=fun x hx h=>(hC x hx h).1;have h1:=I.on C C1 p hp ⟨x,hxp,hCx⟩;refine Cl (fun p=>∀ x∈Ziq l at_ p,C x) (fun z hz h=>⟨fun w hw=>?_,fun w hw=>?_⟩) _ q (hp.bh G.ck) hq h1 y hyq
 ·have e1:=(G.e hz).1;exact I.on C C1 z hz ⟨un at_ z 0,ZbE.2 ⟨0,e1,rfl⟩,h _ (ZbE.2 ⟨0,e1,rfl⟩)⟩ w hw
 ·obtain ⟨j,hj,rfl⟩:=ZbE.1 hw;have o:=G.opp hz;rw [o.1] at hj;have u1:=G.un_is hz (i:=eL l at_ z-1-j) (by omega);have:=(hC _ u1 (h _ (ZbE.2 ⟨_,by omega,rfl⟩))).2;have e:Mu.opp (brd (cov l at_)) (un at_ z (eL l at_ z-1-j))=un at_ (Mu.opp l z) j:=by
   unfold Mu.opp;rw [G.un_nx hz (by omega),itn];refine Prod.ext ?_ rfl;show ps _ _=ps _ _;have a:=(o.2 j).1;have b:=(o.2 j).2;unfold Mu.opp at a b;rw [a,b];congr 2<;>omega
  rwa [e] at this
theorem Geo.val (G:Geo l at_) (Cl:Cn l) {p:Da}(hp:isD l p):Val l:=by
 have u:=G.un_is hp (i:=0) (by have:=(G.e hp).1;omega);exact (G.ins.val G.ck G.bck (Zga G.ck) (Zga G.bck)).2 (Zlk (fun _ _ hk he h=>G.cov_cl hk he h) (G.cn Cl) u)
end geo
end Mu
/- Layer 22: RegularAgain. -/
namespace Mu
theorem ZhW {p:List Bool}:∀ (f n:Nat) (m:List Za),n≤(ZbF p f n m).2
 | 0,n,m=>Nat.le_refl _
 | f+1,n,m=>by
  rw [ZbF]
  cases h:Zb6 p n m with
  | none=>exact Nat.le_refl _
  | some m'=>have:=ZhW (p:=p) f (n+1) m';dsimp only;omega
theorem Zh1 {p q:List Bool}{n:Nat}{m:List Za}(h:ZcQ p n=ZcQ q n):Zb6 p n m=Zb6 q n m:=by
 unfold Zb6;rw [h]
theorem ZhV {p q:List Bool}{n k:Nat}{m:List Za}(h:Zb6 p n m=none):Zb6 q k m=none:=by
 unfold Zb6 at h ⊢
 cases e:pkF m with
 | none=>rfl
 | some x=>rw [e] at h;cases h
theorem ZfG {p q:List Bool}:∀ (f n:Nat) (m:List Za),(∀ k,k<(ZbF p f n m).2→ZcQ p k=ZcQ q k)→ZbF q f n m=ZbF p f n m
 | 0,n,m,h=>rfl
 | f+1,n,m,h=>by
  rw [ZbF] at h ⊢;rw [ZbF]
  cases e:Zb6 p n m with
  | none=>rw [ZhV e]
  | some m' =>
   rw [e] at h;dsimp only at h;have g:=ZhW (p:=p) f (n+1) m';rw [← Zh1 (h n (by omega)),e];exact ZfG f (n+1) m' h
theorem Zhq {l:List Za}{picks:List Bool}(hl:l.length≤60) (h:ZeE l=0):zb l picks=some ((ZbF picks (2*l.length+1) 0 l).1,(((ZbF picks (2*l.length+1) 0 l).2:Nat):Int),0)∧RgI l (ZbF picks (2*l.length+1) 0 l).1 (ZbF picks (2*l.length+1) 0 l).2∧pkF (ZbF picks (2*l.length+1) 0 l).1=none:=by
 obtain ⟨k,W,_⟩:=ZeD h;have R0:RgI l l 0:=⟨h,rfl,by omega,fun v d _ _=>.inl ⟨rfl,rfl⟩⟩;obtain ⟨A,R,N⟩:=ZkC (G:=fun m n=>(m,(n:Int),(0:Int))) (picks:=picks) (by omega) (fun m n R=>ZmL (cells:=l) (picks:=picks) (by rw [R.len];omega) R.err (by have:=R.le;omega)) (2*l.length+1) l 0 R0 (by omega);have hb:2*l.length+1≤big:=by
  have:200<big:=ZaR (by omega);omega
 have A':=ZcH A hb;refine ⟨?_,R,N⟩;unfold zb;rw [ZiS (by omega),obs,ZbC h,mOf (by omega),obs,if_pos k];dsimp only;rw [obs];exact Zgb A'
theorem Zjt {picks more:List Bool}{n k:Nat}(hn:n≤picks.length) (hk:k<n):ZcQ picks k=ZcQ (picks.take n++more) k:=by
 unfold ZcQ;have e:gi (picks.take n++more) k=gi picks k:=by
  rw [Zb0 (by rw [List.length_take];omega)];unfold gi;simp [List.getElem?_take,hk]
 rw [e,decide_eq_true (show k<picks.length by omega),decide_eq_true (show k<(picks.take n++more).length by rw [List.length_append,List.length_take];omega)]
theorem ZeV (z:ZU) (picks more:List Bool) (m1:z.At.length≤Go.maxLen) (b1:∀ y∈z.At,ZgF y) (m2:z.Bits.length≤Go.maxLen) (b2:∀ y∈z.Bits,ZgF y) (m3:z.Own.length≤Go.maxLen) (b3:∀ y∈z.Own,ZiG y) (mp:picks.length≤Go.maxLen) (bp:∀ x∈picks,ZeU x) (mm:more.length≤140737488351232) (bm:∀ x∈more,ZeU x):Zac z picks more=some true:=by
 obtain ⟨l,pts,e1,hM,hlen⟩:=ZnI (z:=z) (most:=14) (Zor m1 b1 b3) (by omega);unfold Zac;rw [e1,obs];dsimp only;by_cases bad:ZeE l=0
 ·obtain ⟨em,R,N⟩:=Zhq (l:=l) (picks:=picks) (by omega) bad;have C:=ZfG (p:=picks) (q:=picks.take (ZbF picks (2*l.length+1) 0 l).2++more) (2*l.length+1) 0 l;obtain ⟨ek,_,_⟩:=Zhq (l:=l) (picks:=picks.take (ZbF picks (2*l.length+1) 0 l).2++more) (by omega) bad;rw [em,obs];generalize hr:ZbF picks (2*l.length+1) 0 l=r at *;obtain ⟨m,n⟩:=r;dsimp only at R N C ek ⊢;have lm:=R.len;have hle:=R.le;obtain ⟨e2,_,_⟩:=Zhq (l:=m) (picks:=more) (by omega) R.err;have z0:ZbF more (2*m.length+1) 0 m=(m,0):=by
   rw [ZbF];have:Zb6 more 0 m=none:=by unfold Zb6;rw [N]
   rw [this]
  rw [z0] at e2;rw [ZgP,obs,if_neg (by simp),e2,obs];dsimp only;rw [if_neg (by simp),ZlY (by omega),obs,obs,if_neg (by decide)];by_cases c:(picks.length:Int)<(n:Int)
  ·rw [zp c]
  ·rw [zn c,ZJ (by omega),itn,ZJ (by rw [List.length_take];omega),ek,C (fun k hk=>Zjt (by omega) hk),obs];dsimp only;rw [if_pos (by simp),ZlY (by omega),obs,obs]
 ·rw [ZlD (by omega) bad,obs];dsimp only;rw [ZgP,obs,if_pos (by simp [bad]),obs]
end Mu
