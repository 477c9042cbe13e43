/- The kernel's evaluator comes to what the evaluator comes to: the machine. -/
import Derived.Test.YtdefkboekpjiiaaMuFs
namespace Mu
open Go (IntKind BinOp UnOp)

def FrF (t:Tt V) (fr:Fr):Prop:=∀ k,Tt.get .un t k=fr k
structure HR (f:Hf) (h:Hp):Prop where
 m:∀ r,f.get r=h.m r
 n:f.n=h.n

theorem FrF.ev {t:Tt V}{fr:Fr}(h:FrF t fr):evF t=fr.ev:=by
 funext x
 cases x with
 | t n=>exact h n
 | c v=>rfl
theorem FrF.put {t:Tt V}{fr:Fr}(h:FrF t fr) (d:Option Nat) (v:V):FrF (Zhc t d v) (fr.put d v):=by
 intro k
 cases d with
 | none=>exact h k
 | some d =>
  show Tt.get .un (Tt.put .un v (Nat.succ d) t d) k=if k=d then v else fr k;rw [Tt.get_put _ _ _ _ _ (Nat.lt_succ_self d),h k]
theorem FrF.want {t:Tt V}{fr:Fr}(h:FrF t fr) (g:Option (Nat×Bool)):ZiX g t=Za7 g fr:=by
 cases g with
 | none=>rfl
 | some p =>
  obtain ⟨j,w⟩:=p;show V.asB (Tt.get .un t j) (fun x=>Bool.rec (motive:=fun _=>Bool) (Bool.rec (motive:=fun _=>Bool) true false w) w x) false=_;rw [h j];simp only [Za7];cases hv:fr j<;>try rfl
  rename_i x;cases x<;>cases w<;>rfl
theorem HR.put {f:Hf}{h:Hp}(hr:HR f h) (r:Nat) (o:Obj):HR (f.put (r,o)) (h.put r o):=by
 obtain ⟨t,n⟩:=f;obtain ⟨hm,hn⟩:=hr;refine ⟨fun q=>?_,?_⟩
 ·show Tt.get none (Tt.put none (some o) (Nat.succ r) t r) q=if q=r then some o else h.m q;rw [Tt.get_put _ _ _ _ _ (Nat.lt_succ_self r)];have:=hm q;change Tt.get none t q=_ at this;rw [this]
 ·show ifB (Nat.ble n r) (Nat.succ r) n=max h.n (r+1);change n=h.n at hn;rw [← hn];cases hb:Nat.ble n r
  ·show n=max n (r+1);have:¬ n≤r:=fun hl=>by rw [Nat.ble_eq_true_of_le hl] at hb;cases hb
   omega
  ·show r+1=max n (r+1);have:=Zc3 hb;omega
theorem HR.puts:∀ (l:List (Nat×Obj)) {f:Hf}{h:Hp},HR f h→HR (f.puts l) (h.puts l)
 | [],_,_,hr=>hr
 | (r,o)::l,f,h,hr=>HR.puts l (hr.put r o)

def TrR:TrF→Tr→Prop
 | .no,.no=>True
 | .op l z t n,.op l' z' t' n'=>l=l'∧z=z'∧t=t'∧n=n'
 | .call f f',.call c=>∃ h h',HR f h∧HR f' h'∧c=fun r=>h'.m r≠h.m r
 | _,_=>False

theorem ZkF {x y:V}(h:V.eq1 x y=true):x=y:=by
 cases x<;>cases y<;>simp_all [V.eq1]
theorem Zhz:∀ {xs ys:List V},Zj5 xs ys=true→xs=ys
 | [],[],_=>rfl
 | [],_::_,h=>by cases h
 | _::_,[],h=>by cases h
 | x::xs,y::ys,h=>by
  simp only [Zj5,Bool.and_eq_true] at h;rw [ZkF h.1,Zhz h.2]
theorem ZiT {x y:Option Obj}(h:Zg8 x y=true):x=y:=by
 unfold Zg8 at h;split at h
 ·rfl
 ·rfl
 ·simp only [Bool.and_eq_true,beq_iff_eq] at h;rw [h.1,Zhz h.2]
 ·cases h
theorem Zee {r:Nat}:∀ {l:List Nat},ZhL r l=false→r ∉ l
 | [],_=>by simp
 | q::l,h=>by
  simp only [ZhL,Bool.or_eq_false_iff] at h;simp only [List.mem_cons,not_or];refine ⟨fun e=>?_,Zee h.2⟩;subst e;have:=h.1;simp at this
theorem TrR.apart {t s:TrF}{t' s':Tr}(h1:TrR t t') (h2:TrR s s') (h:t.apart s=true):t'.apart s':=by
 have key:∀ {f f':Hf}{c:Nat→Prop}{l:List Nat},(∃ h h',HR f h∧HR f' h'∧c=fun r=>h'.m r≠h.m r)→(l.all fun r=>Zg8 (f.get r) (f'.get r))=true→∀ r∈l,¬ c r:=by
  rintro f f' c l ⟨h,h',a,b,rfl⟩ hl r hr;have:=ZiT (List.all_eq_true.1 hl r hr);rw [a.m,b.m] at this;simp [this]
 cases t with
 | no=>cases t'<;>first|exact h1.elim|(cases s'<;>trivial)
 | op l z t n =>
  cases t' with
  | op l' z' t' n' =>
   obtain ⟨rfl,rfl,rfl,rfl⟩:=h1
   cases s with
   | no=>cases s'<;>first|exact h2.elim|trivial
   | op l2 z2 t2 n2 =>
    cases s' with
    | op l' z' t' n' =>
     obtain ⟨rfl,rfl,rfl,rfl⟩:=h2;simp only [TrF.apart,Bool.and_eq_true,Bool.or_eq_true,Bool.not_eq_true'] at h;obtain ⟨⟨a,b⟩,c⟩:=h;refine ⟨?_,fun hz=>?_,fun hz=>?_⟩
     ·rcases a with a|a
      ·exact .inl a
      ·exact .inr fun r hr=>Zee (by simpa using List.all_eq_true.1 a r hr)
     ·rcases b with b|b
      ·rw [hz] at b;cases b
      ·exact Zee b
     ·rcases c with c|c
      ·rw [hz] at c;cases c
      ·exact Zee c
    | no=>exact h2.elim
    | call _=>exact h2.elim
   | call f f' =>
    cases s' with
    | call c =>
     simp only [TrF.apart,Bool.and_eq_true] at h;exact ⟨h.1.1,h.1.2,key h2 h.2⟩
    | no=>exact h2.elim
    | op _ _ _ _=>exact h2.elim
  | no=>exact h1.elim
  | call _=>exact h1.elim
 | call f f' =>
  cases t' with
  | call c =>
   cases s with
   | no=>cases s'<;>first|exact h2.elim|trivial
   | op l2 z2 t2 n2 =>
    cases s' with
    | op l' z' t' n' =>
     obtain ⟨rfl,rfl,rfl,rfl⟩:=h2;simp only [TrF.apart,Bool.and_eq_true] at h;exact ⟨h.1,key h1 h.2⟩
    | no=>exact h2.elim
    | call _=>exact h2.elim
   | call _ _=>cases h
  | no=>exact h1.elim
  | op _ _ _ _=>exact h1.elim

def Zfd (cf:Zb1) (call:Zaq):Prop:=∀ f args hf h v hf',HR hf h→cf f args hf=.ok v hf'→∃ h',call f args h=some (v,h')∧HR hf' h'

theorem Zh1 (f:Opd→V):∀ l,ZiH f l=l.map f
 | []=>rfl
 | x::l=>by
  show f x::ZiH f l=_;rw [Zh1 f l];rfl

theorem ZhM {β:Type}(op:Op) (f:Opd→List Opd→β) (d:β):ZfF op f d=d∨∃ a b,op=.call a b:=by
 cases op<;>first|exact .inl rfl|exact .inr ⟨_,_,rfl⟩

theorem ZgB {cf:Zb1}{call:Zaq}(hc:Zfd cf call) {nr:Nat}{op:Op}{g:Option (Nat×Bool)}{dst:Option Nat}{t:Tt V}{fr:Fr}{hf hf':Hf}{h:Hp}{v:V}{tr:TrF}
  (hF:FrF t fr) (hH:HR hf h) (he:ZeL cf nr op g t hf=.ok v hf' tr):∃ h' tr',zI call nr ⟨dst,op,g⟩ fr h=some (v,h',tr')∧HR hf' h'∧TrR tr tr':=by
 change Bool.rec (motive:=fun _=>Rs) (.ok .un hf .no) (ZfF op (Zf7 cf t hf) (Zgr nr t hf op)) (ZiX g t)=_ at he;rw [hF.want] at he;unfold zI
 cases hw:Za7 g fr with
 | false =>
  rw [hw] at he;cases he;simp only [hw,Bool.false_eq_true,if_false];exact ⟨h,.no,rfl,hH,trivial⟩
 | true =>
  rw [hw] at he;simp only [hw,if_true];have hget:hf.get=h.m:=funext hH.m;have hact:∀ op,Zgr nr t hf op=.ok v hf' tr→∃ up,act h.m nr fr.ev op=some (v,up)∧hf'=hf.puts up∧tr=.op op.looks up.isEmpty (Zap fr.ev op) nr:=by
   intro op hd;change Option.rec (motive:=fun _=>Rs) .no (fun p=>Prod.rec (motive:=fun _=>Rs) (fun v up=>.ok v (hf.puts up) (.op op.looks up.isEmpty (Zap (evF t) op) nr)) p) (Zjj op hf.get nr (evF t))=_ at hd
   cases ha:Zjj op hf.get nr (evF t) with
   | none=>rw [ha] at hd;cases hd
   | some p =>
    rw [ha] at hd;obtain ⟨v',up⟩:=p;cases hd;have:=Zjk ha;rw [hget,hF.ev] at this;exact ⟨up,this,rfl,by rw [hF.ev]⟩
  change ZfF op (Zf7 cf t hf) (Zgr nr t hf op)=_ at he;rcases ZhM op (Zf7 cf t hf) (Zgr nr t hf op) with hi|⟨f,args,rfl⟩
  ·rw [hi] at he;obtain ⟨up,e1,rfl,rfl⟩:=hact _ he;cases op<;>first|(simp only [e1];exact ⟨_,_,rfl,hH.puts up,rfl,rfl,rfl,rfl⟩)|cases e1
  ·change V.asF (evF t f) (fun id caps=>Rv.rec (motive:=fun _=>Rs) .no (fun v h'=>.ok v h' (.call hf h')) (cf (Mu.fid id) (ZbA id (ZiH (evF t) args) caps) hf)) .no=_ at he;rcases Zk4 _ _ _ _ he with ⟨id,caps,hv,g⟩|g
   ·cases hcf:cf (Mu.fid id) (ZbA id (ZiH (evF t) args) caps) hf with
    | no=>rw [hcf] at g;cases g
    | ok u h2 =>
     rw [hcf] at g;cases g;obtain ⟨h',e1,e2⟩:=hc _ _ _ _ _ _ hH hcf;rw [Zh1,hF.ev] at e1;rw [hF.ev] at hv;simp only [hv,e1];exact ⟨h',_,rfl,e2,h,h',hH,e2,rfl⟩
   ·cases g

theorem Zh6 {cf:Zb1}{call:Zaq}(hc:Zfd cf call):∀ (l:List Oper) {t t':Tt V}{fr:Fr}{hf hf':Hf}{h:Hp},FrF t fr→HR hf h→ZiM cf l t hf=.ok t' hf'→∃ fr' h',Zaj call l fr h=some (fr',h')∧FrF t' fr'∧HR hf' h'
 | [],t,t',fr,hf,hf',h,hF,hH,he=>by
  cases he;exact ⟨fr,h,rfl,hF,hH⟩
 | ⟨dst,op,g⟩::l,t,t',fr,hf,hf',h,hF,hH,he=>by
  change Rs.rec (motive:=fun _=>Ro) .no (fun v h' _=>ZiM cf l (Zhc t dst v) h') (ZeL cf hf.n op g t hf)=_ at he
  cases hs:ZeL cf hf.n op g t hf with
  | no=>rw [hs] at he;cases he
  | ok v h1 tr =>
   rw [hs] at he;obtain ⟨h1',tr',e1,e2,_⟩:=ZgB (dst:=dst) hc hF hH hs;rw [hH.n] at e1;obtain ⟨fr',h',e3,e4,e5⟩:=Zh6 hc l (hF.put dst v) e2 he;exact ⟨fr',h',by simp only [Zaj,e1];exact e3,e4,e5⟩

theorem Zgs {cf:Zb1}{call:Zaq}(hc:Zfd cf call) (base:Nat):∀ (l:List Oper) (j:Nat) {t t':Tt V}{fr:Fr}{hf hf':Hf}{h:Hp}{ts:List TrF},FrF t fr→HR hf h→Zex cf l (base+j) t hf=.ok t' hf' ts →
  ∃ fr' h' ts',zt call base ((List.range' j l.length).zip l) fr h=some (fr',h',ts')∧FrF t' fr'∧HR hf' h'∧∀ i,TrR (ZfO ts i) (Zcj ts' (j+i))
 | [],j,t,t',fr,hf,hf',h,ts,hF,hH,he=>by
  cases he;exact ⟨fr,h,[],rfl,hF,hH,fun i=>trivial⟩
 | ⟨dst,op,g⟩::l,j,t,t',fr,hf,hf',h,ts,hF,hH,he=>by
  change Rs.rec (motive:=fun _=>Rdd) .no (fun v h' tr=>Rdd.rec (motive:=fun _=>Rdd) .no (fun fr'' h'' ts=>.ok fr'' h'' (tr::ts)) (Zex cf l (Nat.succ (base+j)) (Zhc t dst v) h')) (ZeL cf (base+j) op g t hf)=_ at he
  cases hs:ZeL cf (base+j) op g t hf with
  | no=>rw [hs] at he;cases he
  | ok v h1 tr =>
   rw [hs] at he;obtain ⟨h1',tr',e1,e2,e2'⟩:=ZgB (dst:=dst) hc hF hH hs;change Rdd.rec (motive:=fun _=>Rdd) .no (fun fr'' h'' ts=>.ok fr'' h'' (tr::ts)) (Zex cf l (Nat.succ (base+j)) (Zhc t dst v) h1)=_ at he
   cases hd:Zex cf l (Nat.succ (base+j)) (Zhc t dst v) h1 with
   | no=>rw [hd] at he;cases he
   | ok t2 h2 ts2 =>
    rw [hd] at he;cases he;obtain ⟨fr',h',ts',e3,e4,e5,e6⟩:=Zgs hc base l (j+1) (hF.put dst v) e2 hd;refine ⟨fr',h',(j,tr')::ts',?_,e4,e5,fun i=>?_⟩
    ·simp only [List.length_cons,List.range'_succ,List.zip_cons_cons,zt,e1,e3]
    ·cases i with
     | zero =>
      show TrR tr (Zcj ((j,tr')::ts') (j+0));simp only [Zcj,Nat.add_zero,List.lookup_cons,beq_self_eq_true];exact e2'
     | succ i =>
      show TrR (ZfO ts2 i) _;have:=e6 i;rw [show j+1+i=j+(i+1) by omega] at this;have ne:(j+(i+1) == j)=false:=by simp
      simp only [Zcj,List.lookup_cons,ne] at this ⊢;exact this

theorem Zhw {ts:List TrF}{ts':List (Nat×Tr)}(h:∀ i,TrR (ZfO ts i) (Zcj ts' i)):∀ (l:List (Nat×Nat)),ZhG ts l=true→∀ q∈l,(Zcj ts' q.1).apart (Zcj ts' q.2)
 | [],_,q,hq=>by cases hq
 | p::l,hl,q,hq=>by
  change Bool.rec (motive:=fun _=>Bool) false (ZhG ts l) ((ZfO ts p.1).apart (ZfO ts p.2))=true at hl
  cases ha:(ZfO ts p.1).apart (ZfO ts p.2) with
  | false=>rw [ha] at hl;cases hl
  | true =>
   rw [ha] at hl;rcases List.mem_cons.1 hq with rfl|hq
   ·exact TrR.apart (h _) (h _) ha
   ·exact Zhw h l hl q hq

theorem ZjM {cf:Zb1}{call:Zaq}(hc:Zfd cf call) {ops:List Oper}{prs:List (Nat×Nat)}{t t':Tt V}{fr:Fr}{hf hf':Hf}{h:Hp}(hF:FrF t fr) (hH:HR hf h) (he:ZjL cf ops prs t hf=.ok t' hf') :
  ∃ fr' h',Za9 call ops prs fr h=some (fr',h')∧FrF t' fr'∧HR hf' h':=by
 change Rdd.rec (motive:=fun _=>Ro) .no (fun fr' h' ts=>Bool.rec (motive:=fun _=>Ro) .no (.ok fr' h') (ZhG ts prs)) (Zex cf ops hf.n t ⟨hf.t,hf.n+ops.length⟩)=_ at he
 cases hd:Zex cf ops hf.n t ⟨hf.t,hf.n+ops.length⟩ with
 | no=>rw [hd] at he;cases he
 | ok t2 h2 ts =>
  rw [hd] at he;change Bool.rec (motive:=fun _=>Ro) .no (.ok t2 h2) (ZhG ts prs)=_ at he
  cases ha:ZhG ts prs with
  | false=>rw [ha] at he;cases he
  | true =>
   rw [ha] at he;cases he;have hb:HR ⟨hf.t,hf.n+ops.length⟩ (h.bump ops.length):=⟨hH.m,by show hf.n+_=h.n+_;rw [hH.n]⟩;obtain ⟨fr',h',ts',e1,e2,e3,e4⟩:=Zgs hc hf.n ops 0 hF hb hd;refine ⟨fr',h',?_,e2,e3⟩;rw [hH.n] at e1;rw [← List.range_eq_range'] at e1;simp only [Za9,e1];rw [if_pos (Zhw (fun i=>by simpa using e4 i) prs ha)]

def Zda (r:Rc) (o:Option (Ex×Fr×Hp)):Prop:=match r with
 | .no=>True
 | .nm t f=>∃ fr h,o=some (.normal,fr,h)∧FrF t fr∧HR f h
 | .ex id t f=>∃ fr h,o=some (.exit id,fr,h)∧FrF t fr∧HR f h
 | .rt t f=>∃ fr h,o=some (.ret,fr,h)∧FrF t fr∧HR f h

theorem Zgw {bf:Tt V→Hf→Rc}{body:Fr→Hp→Option (Ex×Fr×Hp)}(hb:∀ t fr hf h,FrF t fr→HR hf h→Zda (bf t hf) (body fr h)):∀ k t fr hf h,FrF t fr→HR hf h→Zda (ZiE bf k t hf) (ZbQ body k fr h)
 | 0,_,_,_,_,_,_=>trivial
 | k+1,t,fr,hf,h,hF,hH=>by
  have h1:=hb t fr hf h hF hH;show Zda (Rc.rec (motive:=fun _=>Rc) .no (ZiE bf k) .ex .rt (bf t hf)) _
  cases hr:bf t hf with
  | no=>trivial
  | nm t1 f1 =>
   rw [hr] at h1;obtain ⟨fr1,h1',e1,e2,e3⟩:=h1;simp only [ZbQ,e1];exact Zgw hb k t1 fr1 f1 h1' e2 e3
  | ex id t1 f1 =>
   rw [hr] at h1;obtain ⟨fr1,h1',e1,e2,e3⟩:=h1;simp only [ZbQ,e1];exact ⟨fr1,h1',rfl,e2,e3⟩
  | rt t1 f1 =>
   rw [hr] at h1;obtain ⟨fr1,h1',e1,e2,e3⟩:=h1;simp only [ZbQ,e1];exact ⟨fr1,h1',rfl,e2,e3⟩

theorem Zca {cf:Zb1}{call:Zaq}(hc:Zfd cf call) (k:Nat):∀ (c:Code) (t:Tt V) (fr:Fr) (hf:Hf) (h:Hp),FrF t fr→HR hf h→Zda (ZbZ cf k c t hf) (zz call k c fr h)
 | .skip,t,fr,hf,h,hF,hH=>⟨fr,h,rfl,hF,hH⟩
 | .region ops,t,fr,hf,h,hF,hH=>by
  show Zda (Ro.rec (motive:=fun _=>Rc) .no Rc.nm (ZiM cf ops t hf)) _
  cases hr:ZiM cf ops t hf with
  | no=>trivial
  | ok t1 f1 =>
   obtain ⟨fr',h',e1,e2,e3⟩:=Zh6 hc ops hF hH hr;exact ⟨fr',h',by simp only [zz,e1],e2,e3⟩
 | .draw ops prs,t,fr,hf,h,hF,hH=>by
  show Zda (Ro.rec (motive:=fun _=>Rc) .no Rc.nm (ZjL cf ops prs t hf)) _
  cases hr:ZjL cf ops prs t hf with
  | no=>trivial
  | ok t1 f1 =>
   obtain ⟨fr',h',e1,e2,e3⟩:=ZjM hc hF hH hr;exact ⟨fr',h',by simp only [zz,e1],e2,e3⟩
 | .seq a b,t,fr,hf,h,hF,hH=>by
  have ha:=Zca hc k a t fr hf h hF hH;show Zda (Rc.rec (motive:=fun _=>Rc) .no (ZbZ cf k b) .ex .rt (ZbZ cf k a t hf)) _
  cases hr:ZbZ cf k a t hf with
  | no=>trivial
  | nm t1 f1 =>
   rw [hr] at ha;obtain ⟨fr1,h1,e1,e2,e3⟩:=ha;simp only [zz,e1];exact Zca hc k b t1 fr1 f1 h1 e2 e3
  | ex id t1 f1 =>
   rw [hr] at ha;obtain ⟨fr1,h1,e1,e2,e3⟩:=ha;simp only [zz,e1];exact ⟨fr1,h1,rfl,e2,e3⟩
  | rt t1 f1 =>
   rw [hr] at ha;obtain ⟨fr1,h1,e1,e2,e3⟩:=ha;simp only [zz,e1];exact ⟨fr1,h1,rfl,e2,e3⟩
 | .cond c a b,t,fr,hf,h,hF,hH=>by
  show Zda (V.asB (evF t c) (fun x=>Bool.rec (motive:=fun _=>Rc) (ZbZ cf k b t hf) (ZbZ cf k a t hf) x) .no) _;rw [hF.ev];generalize hr:V.asB (fr.ev c) (fun x=>Bool.rec (motive:=fun _=>Rc) (ZbZ cf k b t hf) (ZbZ cf k a t hf) x) .no=r;rcases ZgQ _ _ _ _ hr with ⟨x,hx,g⟩|g
  ·rw [← g]
   cases x with
   | true=>simp only [zz,hx];exact Zca hc k a t fr hf h hF hH
   | false=>simp only [zz,hx];exact Zca hc k b t fr hf h hF hH
  ·rw [← g];trivial
 | .block id a,t,fr,hf,h,hF,hH=>by
  have ha:=Zca hc k a t fr hf h hF hH;show Zda (Rc.rec (motive:=fun _=>Rc) .no Rc.nm (fun id' fr' h'=>Bool.rec (motive:=fun _=>Rc) (.ex id' fr' h') (.nm fr' h') (Nat.beq id' id)) Rc.rt (ZbZ cf k a t hf)) _
  cases hr:ZbZ cf k a t hf with
  | no=>trivial
  | nm t1 f1 =>
   rw [hr] at ha;obtain ⟨fr1,h1,e1,e2,e3⟩:=ha;simp only [zz,e1];exact ⟨fr1,h1,rfl,e2,e3⟩
  | ex id' t1 f1 =>
   rw [hr] at ha;obtain ⟨fr1,h1,e1,e2,e3⟩:=ha;simp only [zz,e1];show Zda (Bool.rec (motive:=fun _=>Rc) (.ex id' t1 f1) (.nm t1 f1) (Nat.beq id' id)) _
   cases hb:Nat.beq id' id with
   | true =>
    rw [if_pos (Nat.eq_of_beq_eq_true hb)];exact ⟨fr1,h1,rfl,e2,e3⟩
   | false =>
    rw [if_neg (fun e=>by subst e;simp at hb)];exact ⟨fr1,h1,rfl,e2,e3⟩
  | rt t1 f1 =>
   rw [hr] at ha;obtain ⟨fr1,h1,e1,e2,e3⟩:=ha;simp only [zz,e1];exact ⟨fr1,h1,rfl,e2,e3⟩
 | .loop a,t,fr,hf,h,hF,hH=>Zgw (Zca hc k a) k t fr hf h hF hH
 | .exit id,t,fr,hf,h,hF,hH=>⟨fr,h,rfl,hF,hH⟩
 | .ret,t,fr,hf,h,hF,hH=>⟨fr,h,rfl,hF,hH⟩
 | .bad,_,_,_,_,_,_=>trivial

theorem Zg3 {t:Tt V}{fr:Fr}{hf:Hf}{h:Hp}(hF:FrF t fr) (hH:HR hf h):∀ (l:List Res) (vs:List V),ZeG t hf l=some vs→ZaM fr h l=some vs
 | [],vs,he=>he
 | r::l,vs,he=>by
  change Option.rec (motive:=fun _=>Option (List V)) none (fun v=>Option.rec (motive:=fun _=>Option (List V)) none (fun vs=>some (v::vs)) (ZeG t hf l)) (Zlh t hf r)=_ at he
  cases h1:Zlh t hf r with
  | none=>rw [h1] at he;cases he
  | some v =>
   rw [h1] at he;change Option.rec (motive:=fun _=>Option (List V)) none (fun vs=>some (v::vs)) (ZeG t hf l)=_ at he
   cases h2:ZeG t hf l with
   | none=>rw [h2] at he;cases he
   | some vs' =>
    rw [h2] at he;cases he;have e2:=Zg3 hF hH l vs' h2;have e1:ZcS fr h r=some v:=by
     cases r with
     | t n =>
      cases h1;simp only [ZcS,hF n]
     | cell n agg sz =>
      change V.asP (Tt.get .un t n) (fun r o=>Zet (hf.get r) (fun _ cs=>Zg0 agg cs o sz) none) none=_ at h1;rw [hF n] at h1;rcases ZdE _ _ _ _ h1 with ⟨p,o,hx,g⟩|g
      ·rcases ZdF g with ⟨w,cs,hr,q⟩|q
       ·rw [hH.m] at hr;simp only [ZcS,hx,hr,ZeB q]
       ·cases q
      ·cases g
    simp only [ZaM,e1,e2]

theorem Zfx:∀ (l:List V) (n:Nat) (t:Tt V) (k:Nat),Tt.get .un (ZcV l n t) k=if n≤k∧k<n+l.length then (l[k-n]?).getD .un else Tt.get .un t k
 | [],n,t,k=>by
  rw [if_neg (by simp)];rfl
 | v::l,n,t,k=>by
  show Tt.get .un (ZcV l (Nat.succ n) (Tt.put .un v (Nat.succ n) t n)) k=_;rw [Zfx l,Tt.get_put _ _ _ _ _ (Nat.lt_succ_self n)];simp only [List.length_cons];by_cases hk:k=n
  ·subst hk;rw [if_neg (by omega),if_pos rfl,if_pos (by omega)];simp
  ·by_cases h1:Nat.succ n≤k∧k<Nat.succ n+l.length
   ·rw [if_pos h1,if_pos (by omega)];rw [show k-n=(k-Nat.succ n)+1 by omega];simp
   ·rw [if_neg h1,if_neg hk,if_neg (by omega)]

theorem Zgn (P:Tt (Option Func)):∀ k,Zfd (ZdP P k) (Zaw (Tt.get none P) k)
 | 0=>fun _ _ _ _ _ _ _ he=>by cases he
 | k+1=>fun f args hf h v hf' hH he=>by
  change Option.rec (motive:=fun _=>Rv) .no (fun fn=>Nat.rec (motive:=fun _=>Rv) .no (fun _ _=>Rc.rec (motive:=fun _=>Rv) .no (Zf9 fn) (fun _ _ _=>.no) (Zf9 fn) (ZbZ (ZdP P k) k fn.body (ZcV args 0 .e) hf)) fn.ntmps) (Tt.get none P f)=_ at he
  cases hf1:Tt.get none P f with
  | none=>rw [hf1] at he;cases he
  | some fn =>
   rw [hf1] at he;change Nat.rec (motive:=fun _=>Rv) .no (fun _ _=>Rc.rec (motive:=fun _=>Rv) .no (Zf9 fn) (fun _ _ _=>.no) (Zf9 fn) (ZbZ (ZdP P k) k fn.body (ZcV args 0 .e) hf)) fn.ntmps=_ at he
   cases hz:fn.ntmps with
   | zero=>rw [hz] at he;cases he
   | succ m =>
    rw [hz] at he;change Rc.rec (motive:=fun _=>Rv) .no (Zf9 fn) (fun _ _ _=>.no) (Zf9 fn) (ZbZ (ZdP P k) k fn.body (ZcV args 0 .e) hf)=_ at he;have hF:FrF (ZcV args 0 .e) (Fr.start args):=fun q=>by
     rw [Zfx];simp only [Fr.start];by_cases hq:q<args.length
     ·rw [if_pos (by omega),Nat.sub_zero]
     ·rw [if_neg (by omega),List.getElem?_eq_none (by omega)];rfl
    have hcd:=Zca (Zgn P k) k fn.body _ _ _ _ hF hH;have hend:∀ {t1 f1 fr1 h1},FrF t1 fr1→HR f1 h1→Zf9 fn t1 f1=.ok v hf'→∃ vs,ZaM fr1 h1 fn.results=some vs∧v=ZfU vs∧hf'=f1:=by
     intro t1 f1 fr1 h1 a b c;change Option.rec (motive:=fun _=>Rv) .no (fun vs=>.ok (ZfU vs) f1) (ZeG t1 f1 fn.results)=_ at c
     cases hr:ZeG t1 f1 fn.results with
     | none=>rw [hr] at c;cases c
     | some vs =>
      rw [hr] at c;cases c;exact ⟨vs,Zg3 a b _ _ hr,rfl,rfl⟩
    simp only [Zaw,hf1];rw [if_neg (by rw [hz];rintro ⟨q,_⟩;cases q)]
    cases hr:ZbZ (ZdP P k) k fn.body (ZcV args 0 .e) hf with
    | no=>rw [hr] at he;cases he
    | ex id t1 f1=>rw [hr] at he;cases he
    | nm t1 f1 =>
     rw [hr] at he hcd;obtain ⟨fr1,h1,e1,e2,e3⟩:=hcd;obtain ⟨vs,e4,rfl,rfl⟩:=hend e2 e3 he;simp only [e1,e4];exact ⟨h1,rfl,e3⟩
    | rt t1 f1 =>
     rw [hr] at he hcd;obtain ⟨fr1,h1,e1,e2,e3⟩:=hcd;obtain ⟨vs,e4,rfl,rfl⟩:=hend e2 e3 he;simp only [e1,e4];exact ⟨h1,rfl,e3⟩

theorem ZiW {P:Tt (Option Func)}{k f:Nat}(h:ZiV P k f=true):WC (Tt.get none P) f [] Hp.none fun u _=>u=.b true:=by
 change Rv.rec (motive:=fun _=>Bool) false (fun v _=>V.asB v (fun b=>b) false) (ZdP P k f [] ⟨.e,0⟩)=true at h
 cases hc:ZdP P k f [] ⟨.e,0⟩ with
 | no=>rw [hc] at h;cases h
 | ok v hf =>
  rw [hc] at h;rcases ZgQ _ _ _ _ h with ⟨x,rfl,g⟩|g
  ·subst g;obtain ⟨h',e1,_⟩:=Zgn P k f [] ⟨.e,0⟩ Hp.none _ _ ⟨fun _=>rfl,rfl⟩ hc;exact ⟨k,_,h',e1,rfl⟩
  ·cases g
theorem Ze5:∀ {l:List (Nat×Nat)}{a b:Nat},l.lookup a=some b→(a,b)∈l
 | [],_,_,h=>by cases h
 | (x,y)::l,a,b,h=>by
  rw [List.lookup_cons] at h;split at h
  ·rename_i he;have:a=x:=by simpa using he
   cases h;simp [this]
  ·exact List.mem_cons_of_mem _ (Ze5 h)

theorem Match.told {P:Go.Program}{K:Fid}{N0 N:Prog}(h0:Match P K N0) (hmix:P.follows .mixedOrders=true) {l:List (Nat×Nat)}{f id k:Nat}(hl:K=fun f=>l.lookup f) (hf:K f=some id) (hi:∀ p∈l,p.2=id→p.1=f)
  {T:Tt (Option Func)}(hT:N0=Tt.get none T) (ht:ZiV T k id=true) (hN:∀ i,i≠id→N i=N0 i) (hw:N id=some ZeN):Match P K N:=by
 intro fid i hK;obtain ⟨fn,g,h1,h2,h3⟩:=h0 fid i hK;by_cases hid:i=id
 ·subst hid;have:fid=f:=hi _ (Ze5 (by rw [hl] at hK;exact hK)) rfl;subst this;subst hT;exact ⟨fn,ZeN,h1,hw,.inr ⟨h3.body.1,h3.body.2,rfl,fun w=>Zgp h0 hmix hK .nil Inv.start (ZiW ht)⟩⟩
 ·exact ⟨fn,g,h1,by rw [hN i hid];exact h2,h3⟩
end Mu
