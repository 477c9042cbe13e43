/- The kernel's evaluator comes to what the evaluator comes to. -/
import Derived.Test.YtdefkboekpjiiaaMuF
import Derived.Test.YtdefkboekpjiiaaMuG
namespace Mu
open Go (IntKind BinOp UnOp)

theorem Tt.get_put {α:Type}(d v:α):∀ (f:Nat) (t:Tt α) (k:Nat),k<f→∀ q,(Tt.put d v f t k).get d q=if q=k then v else t.get d q
 | 0,_,_,hk,_=>absurd hk (Nat.not_lt_zero _)
 | f+1,t,k,hk,q=>by
  have he:∀ q,Tt.get d (.e:Tt α) q=d:=fun _=>rfl;have hn:∀ (w:α) (l r:Tt α) q,Tt.get d (.n w l r) (q+1)=if q%2=0 then l.get d (q / 2) else r.get d (q / 2):=by
   intro w l r q;show Bool.rec (motive:=fun _=>α) (r.get d (Nat.div q 2)) (l.get d (Nat.div q 2)) (Nat.beq (Nat.mod q 2) 0)=_;have e:Nat.beq (Nat.mod q 2) 0=decide (q%2=0):=by
    show Nat.beq (q%2) 0=_;cases hq:Nat.beq (q%2) 0
    ·exact (decide_eq_false (fun h=>by simp [h] at hq)).symm
    ·exact (decide_eq_true (Nat.eq_of_beq_eq_true hq)).symm
   rw [e];by_cases h:q%2=0
   ·rw [decide_eq_true h,if_pos h];rfl
   ·rw [decide_eq_false h,if_neg h];rfl
  have hb:∀ (k:Nat) (x y:Tt α),Bool.rec (motive:=fun _=>Tt α) x y (Nat.beq (Nat.mod k 2) 0)=if k%2=0 then y else x:=by
   intro k x y;show Bool.rec (motive:=fun _=>Tt α) x y (Nat.beq (k%2) 0)=_;cases hq:Nat.beq (k%2) 0
   ·rw [if_neg (fun h=>by simp [h] at hq)]
   ·rw [if_pos (Nat.eq_of_beq_eq_true hq)]
  cases t with
  | e =>
   cases k with
   | zero =>
    show Tt.get d (.n v .e .e) q=_
    cases q with
    | zero=>rfl
    | succ q=>rw [hn,he,he];simp
   | succ k =>
    show Tt.get d (Bool.rec (motive:=fun _=>Tt α) (.n d .e (Tt.put d v f .e (k / 2))) (.n d (Tt.put d v f .e (k / 2)) .e) (Nat.beq (Nat.mod k 2) 0)) q=_;rw [hb];have ih:=Tt.get_put d v f .e (k / 2) (by omega)
    cases q with
    | zero=>split<;>simp<;>rfl
    | succ q =>
     split
     ·rw [hn,ih];simp only [he,Nat.succ.injEq,Nat.add_right_cancel_iff];split
      ·split
       ·rw [if_pos (by omega)]
       ·rw [if_neg (by omega)]
      ·rw [if_neg (by omega)]
     ·rw [hn,ih];simp only [he,Nat.succ.injEq,Nat.add_right_cancel_iff];split
      ·rw [if_neg (by omega)]
      ·split
       ·rw [if_pos (by omega)]
       ·rw [if_neg (by omega)]
  | n w l r =>
   cases k with
   | zero =>
    show Tt.get d (.n v l r) q=_
    cases q with
    | zero=>rfl
    | succ q=>rw [hn,hn];simp
   | succ k =>
    show Tt.get d (Bool.rec (motive:=fun _=>Tt α) (.n w l (Tt.put d v f r (k / 2))) (.n w (Tt.put d v f l (k / 2)) r) (Nat.beq (Nat.mod k 2) 0)) q=_;rw [hb];have ihl:=Tt.get_put d v f l (k / 2) (by omega);have ihr:=Tt.get_put d v f r (k / 2) (by omega)
    cases q with
    | zero=>split<;>simp<;>rfl
    | succ q =>
     split
     ·rw [hn,hn,ihl];simp only [Nat.add_right_cancel_iff];split
      ·split
       ·rw [if_pos (by omega)]
       ·rw [if_neg (by omega)]
      ·rw [if_neg (by omega)]
     ·rw [hn,hn,ihr];simp only [Nat.add_right_cancel_iff];split
      ·rw [if_neg (by omega)]
      ·split
       ·rw [if_pos (by omega)]
       ·rw [if_neg (by omega)]

theorem ZgR {β:Type}(v:V) (f:IntKind→Int→β) (d r:β) (h:V.asI v f d=r):(∃ k n,v=.i k n∧f k n=r)∨d=r:=by
 cases v<;>first|exact .inl ⟨_,_,rfl,h⟩|exact .inr h
theorem ZgQ {β:Type}(v:V) (f:Bool→β) (d r:β) (h:V.asB v f d=r):(∃ x,v=.b x∧f x=r)∨d=r:=by
 cases v<;>first|exact .inl ⟨_,rfl,h⟩|exact .inr h
theorem ZdE {β:Type}(v:V) (f:Nat→Nat→β) (d r:β) (h:V.asP v f d=r):(∃ p o,v=.p p o∧f p o=r)∨d=r:=by
 cases v<;>first|exact .inl ⟨_,_,rfl,h⟩|exact .inr h
theorem Ziw {β:Type}(v:V) (f:Nat→Nat→Nat→Nat→Nat→Bool→β) (d r:β) (h:V.asS v f d=r):(∃ es p o n c ex,v=.sl es p o n c ex∧f es p o n c ex=r)∨d=r:=by
 cases v<;>first|exact .inl ⟨_,_,_,_,_,_,rfl,h⟩|exact .inr h
theorem Zk4 {β:Type}(v:V) (f:Nat→List V→β) (d r:β) (h:V.asF v f d=r):(∃ p o,v=.f p o∧f p o=r)∨d=r:=by
 cases v<;>first|exact .inl ⟨_,_,rfl,h⟩|exact .inr h
theorem Zk3 {β:Type}(v:V) (f:List V→β) (d r:β) (h:V.asA v f d=r):(∃ x,v=.ag x∧f x=r)∨d=r:=by
 cases v<;>first|exact .inl ⟨_,rfl,h⟩|exact .inr h
theorem Zk5 {β:Type}(v:V) (f:List V→β) (d r:β) (h:V.asT v f d=r):(∃ x,v=.tu x∧f x=r)∨d=r:=by
 cases v<;>first|exact .inl ⟨_,rfl,h⟩|exact .inr h

theorem ZiC {k:IntKind}(h:isI k=true):k=.i64:=by cases k<;>first|rfl|cases h
theorem Zcl {β:Type}{x y:V}{f:Nat→Nat→β}{d r:β}(h0:ZfL x y f d=r):(∃ a b:Nat,x=.i .i64 (.ofNat a)∧y=.i .i64 (.ofNat b)∧f a b=r)∨d=r:=by
 rcases ZgR _ _ _ _ h0 with ⟨k,n,rfl,g⟩|g
 ·clear h0
  cases hk:isI k with
  | false=>rw [hk] at g;exact .inr g
  | true =>
   rw [hk] at g;obtain rfl:=ZiC hk
   cases n with
   | ofNat a =>
    rcases ZgR _ _ _ _ g with ⟨k',n',rfl,q⟩|q
    ·clear g
     cases hk':isI k' with
     | false=>rw [hk'] at q;exact .inr q
     | true =>
      rw [hk'] at q;obtain rfl:=ZiC hk'
      cases n' with
      | ofNat b=>exact .inl ⟨a,b,rfl,rfl,q⟩
      | negSucc b=>exact .inr q
    ·exact .inr q
   | negSucc a=>exact .inr g
 ·exact .inr g
theorem ZfK {β:Type}{x:V}{f:Nat→β}{d r:β}(h0:ZjI x f d=r):(∃ k,∃ a:Nat,x=.i k (.ofNat a)∧f a=r)∨d=r:=by
 rcases ZgR _ _ _ _ h0 with ⟨k,n,rfl,g⟩|g
 ·cases n with
  | ofNat a=>exact .inl ⟨k,a,rfl,g⟩
  | negSucc a=>exact .inr g
 ·exact .inr g
theorem Ze2 {β:Type}{b:Bool}{x y r:β}(h:ifB b x y=r):(b=true∧x=r)∨y=r:=by
 cases b
 ·exact .inr h
 ·exact .inl ⟨rfl,h⟩

theorem ZeM:∀ (cs:List V) (n:Nat) (l:List V),ZgE cs n=some l→n≤cs.length∧l=cs.take n
 | [],0,l,h=>by cases h;simp
 | [],n+1,l,h=>by cases h
 | x::cs,0,l,h=>by cases h;simp
 | x::cs,n+1,l,h=>by
  change Option.rec (motive:=fun _=>Option (List V)) none (fun l=>some (x::l)) (ZgE cs n)=_ at h
  cases ht:ZgE cs n with
  | none=>rw [ht] at h;cases h
  | some l' =>
   rw [ht] at h;cases h;obtain ⟨h1,rfl⟩:=ZeM cs n l' ht;exact ⟨by simpa using h1,by simp⟩
theorem Zfr:∀ (cs:List V) (o n:Nat) (l:List V),ZfQ cs o n=some l→o+n≤cs.length∧l=piece cs o n
 | [],0,n,l,h=>by
  have:=ZeM [] n l h;simpa [piece] using this
 | [],o+1,n,l,h=>by cases h
 | x::cs,0,n,l,h=>by
  have:=ZeM (x::cs) n l h;simpa [piece] using this
 | x::cs,o+1,n,l,h=>by
  obtain ⟨h1,rfl⟩:=Zfr cs o n l h;exact ⟨by simp;omega,by simp [piece]⟩
theorem ZfN:∀ (cs:List V) (o:Nat) (v:V),ZjJ cs o=some v→cs[o]?=some v
 | [],o,v,h=>by cases h
 | x::cs,0,v,h=>h
 | x::cs,o+1,v,h=>by simpa using ZfN cs o v h
theorem ZeB {agg:Bool}{cs:List V}{o sz:Nat}{v:V}(h:Zg0 agg cs o sz=some v):ZaY agg cs o sz=some v:=by
 cases agg with
 | false =>
  change Bool.rec (motive:=fun _=>Option V) (ZaY false cs o sz) (ZjJ cs o) (Nat.beq sz 1)=_ at h
  cases hs:Nat.beq sz 1 with
  | false=>rw [hs] at h;exact h
  | true =>
   rw [hs] at h;have:=Nat.eq_of_beq_eq_true hs;subst this;have:=ZfN _ _ _ h;have hl:=(List.getElem?_eq_some_iff.1 this).1;simp only [ZaY];rw [if_pos (by omega)];simpa using this
 | true =>
  change Option.rec (motive:=fun _=>Option V) none (fun l=>some (.ag l)) (ZfQ cs o sz)=_ at h
  cases hp:ZfQ cs o sz with
  | none=>rw [hp] at h;cases h
  | some l =>
   rw [hp] at h;cases h;obtain ⟨h1,rfl⟩:=Zfr _ _ _ _ hp;simp [ZaY,h1]
theorem ZdF {β:Type}{x:Option Obj}{f:Bool→List V→β}{d r:β}(h:Zet x f d=r):(∃ w cs,x=some (.cells w cs)∧f w cs=r)∨d=r:=by
 cases x with
 | none=>exact .inr h
 | some x=>cases x with
  | cells w cs=>exact .inl ⟨w,cs,rfl,h⟩
  | dead=>exact .inr h
  | mp es=>exact .inr h
theorem ZfV {x:Option V}{r:V×List (Nat×Obj)}(h:ZjN x=some r):∃ v,x=some v∧r=(v,[]):=by
 cases x with
 | none=>cases h
 | some v=>cases h;exact ⟨v,rfl,rfl⟩
theorem Ze9:∀ (vs cs:List V) (l:List V),Zgz vs cs=some l→vs.length≤cs.length∧l=vs++cs.drop vs.length
 | [],cs,l,h=>by cases h;simp
 | v::vs,[],l,h=>by cases h
 | v::vs,c::cs,l,h=>by
  change Option.rec (motive:=fun _=>Option (List V)) none (fun l=>some (v::l)) (Zgz vs cs)=_ at h
  cases ht:Zgz vs cs with
  | none=>rw [ht] at h;cases h
  | some l' =>
   rw [ht] at h;cases h;obtain ⟨h1,rfl⟩:=Ze9 vs cs l' ht;exact ⟨by simpa using h1,by simp⟩
theorem Zgy (vs:List V):∀ (cs:List V) (o:Nat) (l:List V),Zgx vs cs o=some l→o+vs.length≤cs.length∧l=over cs o vs
 | [],0,l,h=>by
  have:=Ze9 vs [] l h;simpa [over] using this
 | [],o+1,l,h=>by cases h
 | x::cs,0,l,h=>by
  have:=Ze9 vs (x::cs) l h;simpa [over] using this
 | x::cs,o+1,l,h=>by
  change Option.rec (motive:=fun _=>Option (List V)) none (fun l=>some (x::l)) (Zgx vs cs o)=_ at h
  cases ht:Zgx vs cs o with
  | none=>rw [ht] at h;cases h
  | some l' =>
   rw [ht] at h;cases h;obtain ⟨h1,rfl⟩:=Zgy vs cs o l' ht;refine ⟨by simp;omega,?_⟩;simp only [over,List.take_succ_cons,List.cons_append,List.cons.injEq,true_and];rw [show o+1+vs.length=(o+vs.length)+1 by omega,List.drop_succ_cons]
theorem Zld {v:V}(h:V.asA v (fun _=>false) (V.asT v (fun _=>false) true)=true):v.one=true:=by
 cases v<;>first|rfl|cases h
theorem Zfh:∀ (vs:List V) (n:Nat),Zf4 vs n=true→vs.length=n∧vs.all V.one=true
 | [],n,h=>⟨(Nat.eq_of_beq_eq_true h).symm,rfl⟩
 | v::vs,0,h=>by cases h
 | v::vs,n+1,h=>by
  change Bool.rec (motive:=fun _=>Bool) false (Zf4 vs n) (V.asA v (fun _=>false) (V.asT v (fun _=>false) true))=true at h
  cases hv:V.asA v (fun _=>false) (V.asT v (fun _=>false) true) with
  | false=>rw [hv] at h;cases h
  | true =>
   rw [hv] at h;obtain ⟨h1,h2⟩:=Zfh vs n h;exact ⟨by simp [h1],by simp [Zld hv];simpa using h2⟩
theorem ZhH (v:V):Zeu v=v.cells:=by cases v<;>rfl
theorem Zc3 {a b:Nat}(h:Nat.ble a b=true):a≤b:=Nat.le_of_ble_eq_true h

theorem Zjv {op:BinOp}{x y:V}{r:V×List (Nat×Obj)}(h:ZlA op x y=some r):oB op x y=some r:=by
 have lt:∀ a b:Nat,(decide ((Int.ofNat a)<Int.ofNat b))=Nat.ble (Nat.succ a) b:=by
  intro a b;cases hb:Nat.ble (Nat.succ a) b
  ·exact decide_eq_false fun hl=>by
    have:Nat.succ a≤b:=Int.ofNat_lt.1 hl;rw [Nat.ble_eq_true_of_le this] at hb;cases hb
  ·exact decide_eq_true (Int.ofNat_lt.2 (Zc3 hb))
 have le:∀ a b:Nat,(decide ((Int.ofNat a)≤Int.ofNat b))=Nat.ble a b:=by
  intro a b;cases hb:Nat.ble a b
  ·exact decide_eq_false fun hl=>by
    have:a≤b:=Int.ofNat_le.1 hl;rw [Nat.ble_eq_true_of_le this] at hb;cases hb
  ·exact decide_eq_true (Int.ofNat_le.2 (Zc3 hb))
 cases op<;>try exact h
 ·rcases Zcl h with ⟨a,b,rfl,rfl,g⟩|g
  ·rcases Ze2 g with ⟨hb,q⟩|q
   ·have:=Zc3 hb;rw [← q];have e:bin .add (.i .i64 (.ofNat a)) (.i .i64 (.ofNat b))=some (.i .i64 (IntKind.i64.wrap (Int.ofNat a+Int.ofNat b))):=rfl;rw [oB,e,Zdm (by simp;omega) (by simp at this ⊢; omega)];rfl
   ·exact q
  ·exact g
 ·rcases Zcl h with ⟨a,b,rfl,rfl,g⟩|g
  ·rcases Ze2 g with ⟨hb,q⟩|q
   ·rcases Ze2 q with ⟨hb',q⟩|q
    ·have:=Zc3 hb;have h2:=Zc3 hb';rw [← q];have e:bin .sub (.i .i64 (.ofNat a)) (.i .i64 (.ofNat b))=some (.i .i64 (IntKind.i64.wrap (Int.ofNat a-Int.ofNat b))):=rfl;rw [oB,e,Zdm (by simp;omega) (by simp at h2 ⊢; omega)];have:(Int.ofNat a-Int.ofNat b)=Int.ofNat (Nat.sub a b):=by
      show (a:Int)-(b:Int)=((a-b:Nat):Int);omega
     rw [this]
    ·exact q
   ·exact q
  ·exact g
 ·rcases Zcl h with ⟨a,b,rfl,rfl,g⟩|g
  ·rcases Ze2 g with ⟨hb,q⟩|q
   ·have:=Zc3 hb;rw [← q];have e:bin .mul (.i .i64 (.ofNat a)) (.i .i64 (.ofNat b))=some (.i .i64 (IntKind.i64.wrap (Int.ofNat a*Int.ofNat b))):=rfl;have e2:Int.ofNat a*Int.ofNat b=Int.ofNat (a*b):=rfl;have e3:a*b≤9223372036854775807:=this;rw [oB,e,e2,Zdm (by show _≤((a*b:Nat):Int);omega) (by show ((a*b:Nat):Int)≤_;omega)];rfl
   ·exact q
  ·exact g
 ·rcases Zcl h with ⟨a,b,rfl,rfl,g⟩|g
  ·rw [← g,oB,show bin .lss (.i .i64 (.ofNat a)) (.i .i64 (.ofNat b))=some (.b (decide (Int.ofNat a<Int.ofNat b))) from rfl,lt]
  ·exact g
 ·rcases Zcl h with ⟨a,b,rfl,rfl,g⟩|g
  ·rw [← g,oB,show bin .leq (.i .i64 (.ofNat a)) (.i .i64 (.ofNat b))=some (.b (decide (Int.ofNat a≤Int.ofNat b))) from rfl,le]
  ·exact g
 ·rcases Zcl h with ⟨a,b,rfl,rfl,g⟩|g
  ·rw [← g,oB,show bin .gtr (.i .i64 (.ofNat a)) (.i .i64 (.ofNat b))=some (.b (decide (Int.ofNat b<Int.ofNat a))) from rfl,lt]
  ·exact g
 ·rcases Zcl h with ⟨a,b,rfl,rfl,g⟩|g
  ·rw [← g,oB,show bin .geq (.i .i64 (.ofNat a)) (.i .i64 (.ofNat b))=some (.b (decide (Int.ofNat b≤Int.ofNat a))) from rfl,le]
  ·exact g

theorem Zju (a b:Nat):Nat.beq a b=((Int.ofNat a) == (Int.ofNat b)):=by
 cases h:Nat.beq a b
 ·exact (beq_eq_false_iff_ne.2 fun e=>by injection e with e;subst e;simp at h).symm
 ·rw [Nat.eq_of_beq_eq_true h];simp

theorem Zhk (k:IntKind) {z:Int}(h0:0≤z) (h1:z≤127):k.wrap z=z:=by
 cases k<;>simp only [IntKind.wrap,IntKind.bits,IntKind.signed,Bool.true_and,Bool.false_and,decide_eq_true_eq,Bool.false_eq_true,if_false,Nat.reduceSub,Int.reducePow,ge_iff_le]<;>first|omega|(split<;>omega)

theorem Zjk {op:Op}{rd:Nat→Option Obj}{nr:Nat}{e:Opd→V}{r:V×List (Nat×Obj)}(h:Zjj op rd nr e=some r):act rd nr e op=some r:=by
 have idx_ok:∀ {k:IntKind}{j n:Nat},Nat.ble (Nat.succ j) n=true→idx (.i k (.ofNat j)) n=some j:=by
  intro k j n hb;have:=Zc3 hb;simp only [idx];rw [if_pos (by simp;omega)];rfl
 cases op<;>try exact h
 case pick c a b =>
  rcases ZgQ _ _ _ _ h with ⟨x,hx,g⟩|g
  ·simp only [act,hx];cases x<;>exact g
  ·cases g
 case ld agg sz a =>
  rcases ZdE _ _ _ _ h with ⟨p,o,hx,g⟩|g
  ·rcases ZdF g with ⟨w,cs,hr,q⟩|q
   ·obtain ⟨v,hv,rfl⟩:=ZfV q;simp only [act,hx,hr,ZeB hv]
   ·cases q
  ·cases g
 case st sz a x =>
  rcases ZdE _ _ _ _ h with ⟨p,o,hx,g⟩|g
  ·rcases ZdF g with ⟨w,cs,hr,q⟩|q
   ·cases w with
    | false=>cases q
    | true =>
     cases ha:Zf4 (Zeu (e x)) sz with
     | false=>rw [ha] at q;cases q
     | true =>
      rw [ha] at q
      cases ho:Zgx (Zeu (e x)) cs o with
      | none=>rw [ho] at q;cases q
      | some l =>
       rw [ho] at q;cases q;obtain ⟨h1,h2⟩:=Zfh _ _ ha;obtain ⟨h3,rfl⟩:=Zgy _ _ _ _ ho;rw [ZhH] at h1 h2 h3 ⊢;simp only [act,hx,hr];rw [if_pos ⟨h1,by omega,h2⟩]
   ·cases q
  ·cases g
 case nilck x =>
  rcases ZdE _ _ _ _ h with ⟨p,o,hx,g⟩|g
  ·simp only [act,hx];exact g
  ·exact g
 case bin op x y =>
  have:=Zjv h;exact this
 case eq neg k x y =>
  cases k<;>try exact h
  rcases Zcl h with ⟨a,b,hx,hy,g⟩|g
  ·rw [← g];simp only [act,hx,hy,eqv,if_true,← Zju];cases neg<;>cases Nat.beq a b<;>rfl
  ·exact g
 case conv k x =>
  rcases ZfK h with ⟨k',a,hx,g⟩|g
  ·have g':ifB (Nat.ble a 127) (some (.i k (.ofNat a),[])) (Zf5 e k x)=some r:=g;rcases Ze2 g' with ⟨hb,q⟩|q
   ·have:=Zc3 hb;simp only [act,hx];rw [← q];have:k.wrap (Int.ofNat a)=Int.ofNat a:=by
     exact Zhk k (Int.natCast_nonneg a) (by simp;omega)
    rw [this]
   ·exact q
  ·exact g
 case fa off x =>
  rcases ZdE _ _ _ _ h with ⟨p,o,hx,g⟩|g
  ·simp only [act,hx];exact g
  ·cases g
 case fld agg off sz x =>
  rcases Zk3 _ _ _ _ h with ⟨cs,hx,g⟩|g
  ·obtain ⟨v,hv,rfl⟩:=ZfV g;simp only [act,hx,ZeB hv]
  ·cases g
 case ixa sz x i =>
  rcases Ziw _ _ _ _ h with ⟨es,p,o,n,c,ex,hx,g⟩|g
  ·cases hs:Nat.beq es sz with
   | false=>rw [hs] at g;cases g
   | true =>
    rw [hs] at g;have:=Nat.eq_of_beq_eq_true hs;subst this;rcases ZfK g with ⟨k,j,hi,q⟩|q
    ·cases hb:Nat.ble (Nat.succ j) n with
     | false=>rw [hb] at q;cases q
     | true =>
      rw [hb] at q;simp only [act,hx,hi,idx_ok hb,if_true];exact q
    ·cases q
  ·cases g
 case ixaa sz n x i =>
  rcases ZdE _ _ _ _ h with ⟨p,o,hx,g⟩|g
  ·rcases ZfK g with ⟨k,j,hi,q⟩|q
   ·cases hb:Nat.ble (Nat.succ j) n with
    | false=>rw [hb] at q;cases q
    | true =>
     rw [hb] at q;simp only [act,hx,hi,idx_ok hb];exact q
   ·cases q
  ·cases g
 case ext x k =>
  rcases Zk5 _ _ _ _ h with ⟨vs,hx,g⟩|g
  ·obtain ⟨v,hv,rfl⟩:=ZfV g;simp only [act,hx,ZfN _ _ _ hv]
  ·cases g
 case len x =>
  rcases Ziw _ _ _ _ h with ⟨es,p,o,n,c,ex,hx,g⟩|g
  ·simp only [act,hx,V.len];exact g
  ·exact g
end Mu
