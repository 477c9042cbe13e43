/- The evaluator once more, for a closed call that the kernel itself works out: frames and heap as trees, bare recursors. -/
import Derived.Test.YtdefkboekpjiiaaMuE0
namespace Mu
open Go (IntKind BinOp UnOp)

inductive Tt (α:Type) where
 | e
 | n (v:α) (l r:Tt α)
noncomputable def Tt.get {α:Type}(d:α) (t:Tt α):Nat→α :=
 Tt.rec (motive:=fun _=>Nat→α) (fun _=>d) (fun v _ _ gl gr k=>Nat.rec (motive:=fun _=>α) v (fun k _=>Bool.rec (motive:=fun _=>α) (gr (Nat.div k 2)) (gl (Nat.div k 2)) (Nat.beq (Nat.mod k 2) 0)) k) t
noncomputable def Tt.put {α:Type}(d v:α) (f:Nat):Tt α→Nat→Tt α :=
 Nat.rec (motive:=fun _=>Tt α→Nat→Tt α) (fun t _=>t) (fun _ ih t k=>Tt.rec (motive:=fun _=>Tt α)
  (Nat.rec (motive:=fun _=>Tt α) (.n v .e .e) (fun k _=>Bool.rec (motive:=fun _=>Tt α) (.n d .e (ih .e (Nat.div k 2))) (.n d (ih .e (Nat.div k 2)) .e) (Nat.beq (Nat.mod k 2) 0)) k)
  (fun w l r _ _=>Nat.rec (motive:=fun _=>Tt α) (.n v l r) (fun k _=>Bool.rec (motive:=fun _=>Tt α) (.n w l (ih r (Nat.div k 2))) (.n w (ih l (Nat.div k 2)) r) (Nat.beq (Nat.mod k 2) 0)) k) t) f

abbrev Av:=Option (V×List (Nat×Obj))
def Ziu (e:Opd→V) (zero:List V) (ps:List (Nat×Nat×Opd)):Av:=match fill zero (evs e ps) with|some cs=>some (.ag cs,[])|none=>none
def Zks (nr:Nat) (e:Opd→V) (sz:Nat) (len:Nat) (zero:List V) (ps:List (Nat×Nat×Opd)):Av:=match fill ((List.replicate len zero).flatten) (evs e ps) with
  | some cs=>some (.sl sz nr 0 len len true,[(nr,.cells true cs)])
  | none=>none
def Ziv (e:Opd→V) (x:Opd):Av:=match e x with
  | .p r o=>some (.p r o,[])
  | .f id caps=>some (.f id caps,[])
  | _=>none
def Zeq (e:Opd→V) (neg:Bool) (k:Eq) (x:Opd) (y:Opd):Av:=match eqv k (e x) (e y) with|some t=>some (.b (if neg then !t else t),[])|none=>none
def Zl9 (e:Opd→V) (op:UnOp) (x:Opd):Av:=match unary op (e x) with|some v=>some (v,[])|none=>none
def Zf5 (e:Opd→V) (k:IntKind) (x:Opd):Av:=match e x with|.i _ n=>some (.i k (k.wrap n),[])|_=>none
def Zkt (e:Opd→V) (id:Nat) (caps:List Opd):Av:=some (.f id (caps.map e),[])
def Zkz (nr:Nat) (e:Opd→V) (sz:Nat) (bytes:Nat) (zero:List V) (l:Opd) (c:Opd):Av:=match e l,e c with
  | .i _ l,.i _ c=>if 0≤l∧l≤c∧(bytes:Int)*c≤140737488355328 then
    some (.sl sz nr 0 l.toNat c.toNat true,[(nr,.cells true (List.replicate c.toNat zero).flatten)]) else none
  | _,_=>none
def Zk2 (e:Opd→V) (sz:Nat) (x:Opd) (lo:Option Opd) (hi:Option Opd) (mx:Option Opd):Av:=match e x with
  | .sn=>match ZaR e mx 0 0 with
   | some m=>match ZaR e hi 0 m with
    | some h=>match ZaR e lo 0 h with|some _=>some (.sn,[])|none=>none
    | none=>none
   | none=>none
  | .sl es r o n c ex=>if es=sz then (match ZaR e mx c c with
   | some m=>match ZaR e hi n m with
    | some h=>match ZaR e lo 0 h with
     | some l=>some (.sl es r (if m=l∧(ex=true∨mx.isSome) then o else o+l*sz) (h-l) (m-l) (ex||mx.isSome),[])
     | none=>none
    | none=>none
   | none=>none) else none
  | _=>none
def Zjr (rd:Nat→Option Obj) (e:Opd→V) (sz:Nat) (n:Nat) (x:Opd) (lo:Option Opd) (hi:Option Opd) (mx:Option Opd):Av:=match e x with
  | .p r o=>match ZaR e mx n n with
   | some m=>match ZaR e hi n m with
    | some h=>match ZaR e lo 0 h with
     | some l=>match rd r with
      | some (.cells true cs)=>if o+n*sz≤cs.length then some (.sl sz r (if m=l then o else o+l*sz) (h-l) (m-l) true,[]) else none
      | _=>none
     | none=>none
    | none=>none
   | none=>none
  | _=>none
def Zl6 (e:Opd→V) (agg:Bool) (sz:Nat) (n:Nat) (x:Opd) (i:Opd):Av:=match e x with
  | .ag cs=>match idx (e i) n with
   | some j=>match ZaY agg cs (j*sz) sz with|some v=>some (v,[])|none=>none
   | none=>none
  | _=>none
def Zkw (e:Opd→V) (x:Opd) (i:Opd):Av:=match e x with
  | .s t=>match idx (e i) t.size with|some j=>some (.i .u8 ((t.data[j]?.getD 0).toNat:Nat),[])|none=>none
  | _=>none
def Zkx (e:Opd→V) (x:Opd):Av:=match (e x).len with|some n=>some (.n n,[])|none=>none
def Zjs (e:Opd→V) (x:Opd):Av:=match e x with|.s t=>some (.n t.size,[])|_=>none
def Zkr (rd:Nat→Option Obj) (nr:Nat) (e:Opd→V) (sz:Nat) (bytes:Nat) (x:Opd) (y:Opd):Av:=match e x with
  | .sn=>(match e y with
   | .sn=>some (.sn,[])
   | .sl es' r' o' n' _ _=>if es'=sz then (if n'=0 then some (.sn,[]) else match rd r' with
    | some (.cells _ cs')=>if o'+n'*sz≤cs'.length∧n'*bytes≤140737488355328 then
      some (.sl sz nr 0 n' n' false,[(nr,.cells true (piece cs' o' (n'*sz)))]) else none
    | _=>none) else none
   | _=>none)
  | .sl es r o n c ex=>if es=sz then (match e y with
   | .sn=>some (.sl es r o n c ex,[])
   | .sl es' r' o' n' _ _=>if es'=sz then (if n'=0 then some (.sl es r o n c ex,[]) else if n=0∧ex=true∧c<n' then (match rd r' with
    | some (.cells _ cs')=>if o'+n'*sz≤cs'.length∧n'*bytes≤140737488355328 then
      some (.sl sz nr 0 n' n' false,[(nr,.cells true (piece cs' o' (n'*sz)))]) else none
    | _=>none) else match rd r,rd r' with
    | some (.cells w cs),some (.cells _ cs') =>
     if o+n*sz≤cs.length∧o'+n'*sz≤cs'.length∧(n+n')*bytes≤140737488355328 then
      (if ex=true∧c<n+n' then some (.sl sz nr 0 (n+n') (n+n') false,[(nr,.cells true (piece cs o (n*sz)++piece cs' o' (n'*sz)))])
      else if w=true∧(piece cs' o' (n'*sz)).all V.one=true then some (.sl sz nr 0 (n+n') (n+n') false,[(nr,.cells true (piece cs o (n*sz)++piece cs' o' (n'*sz))),(r,.dead)])
      else none) else none
    | _,_=>none) else none
   | _=>none) else none
  | _=>none
def Zkv (rd:Nat→Option Obj) (e:Opd→V) (sz:Nat) (x:Opd) (y:Opd):Av:=match (e x).len,(e y).len with
  | some n,some n'=>if min n' n=0 then some (.n 0,[]) else match e x,e y with
   | .sl es r o _ _ _,.sl es' r' o' _ _ _=>if es=sz∧es'=sz then (match rd r,rd r' with
    | some (.cells true cs),some (.cells _ cs') =>
     if o+min n' n*sz≤cs.length∧o'+min n' n*sz≤cs'.length∧(piece cs' o' (min n' n*sz)).all V.one then
      some (.n (min n' n:Nat),[(r,.cells true (over cs o (piece cs' o' (min n' n*sz))))]) else none
    | _,_=>none) else none
   | _,_=>none
  | _,_=>none
def Zku (rd:Nat→Option Obj) (e:Opd→V) (zero:List V) (x:Opd):Av:=match e x with
  | .sn=>some (.un,[])
  | .sl es r o n _ _=>if n=0 then some (.un,[]) else if es=zero.length then (match rd r with
   | some (.cells true cs)=>if o+n*es≤cs.length∧zero.all V.one then some (.un,[(r,.cells true (over cs o (List.replicate n zero).flatten))]) else none
   | _=>none) else none
  | _=>none
def Zl8 (e:Opd→V) (xs:List Opd):Av:=match V.ints e xs with|some (k,n::ns)=>some (.i k (ns.foldl (fun x y=>if y > x then y else x) n),[])|_=>none
def Zl7 (e:Opd→V) (xs:List Opd):Av:=match V.ints e xs with|some (k,n::ns)=>some (.i k (ns.foldl (fun x y=>if y<x then y else x) n),[])|_=>none
def Zky (nr:Nat):Av:=some (.mp nr,[(nr,.mp [])])
def Zk0 (rd:Nat→Option Obj) (e:Opd→V) (ks:List FK) (ok:Bool) (zero:V) (m:Opd) (k:Opd):Av:=match e m with
  | .mp r=>match rd r with
   | some (.mp es)=>match lookup ks (e k) es with
    | some (some v)=>some (if ok then .tu [v,.b true] else v,[])
    | some none=>some (if ok then .tu [zero,.b false] else zero,[])
    | none=>none
   | _=>none
  | _=>none
def Zk1 (rd:Nat→Option Obj) (e:Opd→V) (ks:List FK) (m:Opd) (k:Opd) (v:Opd):Av:=match e m with
  | .mp r=>match rd r with
   | some (.mp es)=>match ZbD ks (e k) (e v) es with|some es'=>some (.un,[(r,.mp es')])|none=>none
   | _=>none
  | _=>none
def Zjq (rd:Nat→Option Obj) (e:Opd→V) (x:Opd):Av:=match e x with
  | .mp r=>match rd r with|some (.mp es)=>some (.n es.length,[])|_=>none
  | _=>none

/-! Values,taken apart. -/
noncomputable def V.asB {β:Type}(v:V):(Bool→β)→β→β :=
 V.rec (motive_1:=fun _=>(Bool→β)→β→β) (motive_2:=fun _=>Unit) (fun x f _=>f x) (fun _ _ _ d=>d) (fun _ _ d=>d) (fun _ _ _ d=>d) (fun _ d=>d) (fun _ _ _ _ _ _ _ d=>d) (fun _ d=>d) (fun _ _ d=>d) (fun _ _ _ _ d=>d) (fun _ d=>d) (fun _ d=>d) (fun _ _ _ d=>d) (fun _ _ _ d=>d) () (fun _ _ _ _=>()) v
noncomputable def V.asI {β:Type}(v:V):(IntKind→Int→β)→β→β :=
 V.rec (motive_1:=fun _=>(IntKind→Int→β)→β→β) (motive_2:=fun _=>Unit) (fun _ _ d=>d) (fun k n f _=>f k n) (fun _ _ d=>d) (fun _ _ _ d=>d) (fun _ d=>d) (fun _ _ _ _ _ _ _ d=>d) (fun _ d=>d) (fun _ _ d=>d) (fun _ _ _ _ d=>d) (fun _ d=>d) (fun _ d=>d) (fun _ _ _ d=>d) (fun _ _ _ d=>d) () (fun _ _ _ _=>()) v
noncomputable def V.asP {β:Type}(v:V):(Nat→Nat→β)→β→β :=
 V.rec (motive_1:=fun _=>(Nat→Nat→β)→β→β) (motive_2:=fun _=>Unit) (fun _ _ d=>d) (fun _ _ _ d=>d) (fun _ _ d=>d) (fun r o f _=>f r o) (fun _ d=>d) (fun _ _ _ _ _ _ _ d=>d) (fun _ d=>d) (fun _ _ d=>d) (fun _ _ _ _ d=>d) (fun _ d=>d) (fun _ d=>d) (fun _ _ _ d=>d) (fun _ _ _ d=>d) () (fun _ _ _ _=>()) v
noncomputable def V.asS {β:Type}(v:V):(Nat→Nat→Nat→Nat→Nat→Bool→β)→β→β :=
 V.rec (motive_1:=fun _=>(Nat→Nat→Nat→Nat→Nat→Bool→β)→β→β) (motive_2:=fun _=>Unit) (fun _ _ d=>d) (fun _ _ _ d=>d) (fun _ _ d=>d) (fun _ _ _ d=>d) (fun _ d=>d) (fun es r o n c ex f _=>f es r o n c ex) (fun _ d=>d) (fun _ _ d=>d) (fun _ _ _ _ d=>d) (fun _ d=>d) (fun _ d=>d) (fun _ _ _ d=>d) (fun _ _ _ d=>d) () (fun _ _ _ _=>()) v
noncomputable def V.asF {β:Type}(v:V):(Nat→List V→β)→β→β :=
 V.rec (motive_1:=fun _=>(Nat→List V→β)→β→β) (motive_2:=fun _=>Unit) (fun _ _ d=>d) (fun _ _ _ d=>d) (fun _ _ d=>d) (fun _ _ _ d=>d) (fun _ d=>d) (fun _ _ _ _ _ _ _ d=>d) (fun _ d=>d) (fun _ _ d=>d) (fun id caps _ f _=>f id caps) (fun _ d=>d) (fun _ d=>d) (fun _ _ _ d=>d) (fun _ _ _ d=>d) () (fun _ _ _ _=>()) v
noncomputable def V.asA {β:Type}(v:V):(List V→β)→β→β :=
 V.rec (motive_1:=fun _=>(List V→β)→β→β) (motive_2:=fun _=>Unit) (fun _ _ d=>d) (fun _ _ _ d=>d) (fun _ _ d=>d) (fun _ _ _ d=>d) (fun _ d=>d) (fun _ _ _ _ _ _ _ d=>d) (fun _ d=>d) (fun _ _ d=>d) (fun _ _ _ _ d=>d) (fun _ d=>d) (fun _ d=>d) (fun cs _ f _=>f cs) (fun _ _ _ d=>d) () (fun _ _ _ _=>()) v
noncomputable def V.asT {β:Type}(v:V):(List V→β)→β→β :=
 V.rec (motive_1:=fun _=>(List V→β)→β→β) (motive_2:=fun _=>Unit) (fun _ _ d=>d) (fun _ _ _ d=>d) (fun _ _ d=>d) (fun _ _ _ d=>d) (fun _ d=>d) (fun _ _ _ _ _ _ _ d=>d) (fun _ d=>d) (fun _ _ d=>d) (fun _ _ _ _ d=>d) (fun _ d=>d) (fun _ d=>d) (fun _ _ _ d=>d) (fun vs _ f _=>f vs) () (fun _ _ _ _=>()) v
noncomputable def isI (k:IntKind):Bool:=IntKind.rec (motive:=fun _=>Bool) false false false true false false false false k
noncomputable def ZfL {β:Type}(x y:V) (f:Nat→Nat→β) (d:β):β :=
 V.asI x (fun k a=>Bool.rec (motive:=fun _=>β) d (Int.rec (motive:=fun _=>β) (fun a=>V.asI y (fun k' b=>Bool.rec (motive:=fun _=>β) d (Int.rec (motive:=fun _=>β) (fun b=>f a b) (fun _=>d) b) (isI k')) d) (fun _=>d) a) (isI k)) d
noncomputable def ZjI {β:Type}(x:V) (f:Nat→β) (d:β):β :=
 V.asI x (fun _ a=>Int.rec (motive:=fun _=>β) f (fun _=>d) a) d
def oB (op:BinOp) (x y:V):Av:=match bin op x y with|some v=>some (v,[])|none=>none
noncomputable def ifB {β:Type}(b:Bool) (x y:β):β:=Bool.rec (motive:=fun _=>β) y x b
noncomputable def Zmt (x y:V):Av:=ZfL x y (fun a b=>ifB (Nat.ble (Nat.add a b) 9223372036854775807) (some (.i .i64 (.ofNat (Nat.add a b)),[])) (oB .add x y)) (oB .add x y)
noncomputable def Zm4 (x y:V):Av:=ZfL x y (fun a b=>ifB (Nat.ble b a) (ifB (Nat.ble a 9223372036854775807) (some (.i .i64 (.ofNat (Nat.sub a b)),[])) (oB .sub x y)) (oB .sub x y)) (oB .sub x y)
noncomputable def Zm3 (x y:V):Av:=ZfL x y (fun a b=>ifB (Nat.ble (Nat.mul a b) 9223372036854775807) (some (.i .i64 (.ofNat (Nat.mul a b)),[])) (oB .mul x y)) (oB .mul x y)
noncomputable def Zm2 (x y:V):Av:=ZfL x y (fun a b=>some (.b (Nat.ble (Nat.succ a) b),[])) (oB .lss x y)
noncomputable def Zm1 (x y:V):Av:=ZfL x y (fun a b=>some (.b (Nat.ble a b),[])) (oB .leq x y)
noncomputable def Zmy (x y:V):Av:=ZfL x y (fun a b=>some (.b (Nat.ble (Nat.succ b) a),[])) (oB .gtr x y)
noncomputable def Zmx (x y:V):Av:=ZfL x y (fun a b=>some (.b (Nat.ble b a),[])) (oB .geq x y)
noncomputable def ZlA (op:BinOp):V→V→Av :=
 BinOp.rec (motive:=fun _=>V→V→Av) Zmt Zm4 Zm3 (oB .quo) (oB .rem) (oB .and) (oB .or) (oB .xor) (oB .shl) (oB .shr) (oB .andNot) (oB .eql) (oB .neq) Zm2 Zm1 Zmy Zmx op
noncomputable def Zmu (op:BinOp) (x y:Opd) (_:Nat→Option Obj) (_:Nat) (e:Opd→V):Av:=ZlA op (e x) (e y)
noncomputable def fEq (neg:Bool) (k:Eq) (x y:Opd) (_:Nat→Option Obj) (_:Nat) (e:Opd→V):Av :=
 Eq.rec (motive:=fun _=>Av) (ZfL (e x) (e y) (fun a b=>some (.b (Bool.rec (motive:=fun _=>Bool) (Nat.beq a b) (Bool.rec (motive:=fun _=>Bool) true false (Nat.beq a b)) neg),[])) (Zeq e neg k x y)) (Zeq e neg k x y) (Zeq e neg k x y) (Zeq e neg k x y) (Zeq e neg k x y) (Zeq e neg k x y) (fun _=>Zeq e neg k x y) k
noncomputable def ZgE (cs:List V):Nat→Option (List V) :=
 List.rec (motive:=fun _=>Nat→Option (List V)) (fun n=>Nat.rec (motive:=fun _=>Option (List V)) (some []) (fun _ _=>none) n) (fun x _ ih n=>Nat.rec (motive:=fun _=>Option (List V)) (some []) (fun n _=>Option.rec (motive:=fun _=>Option (List V)) none (fun l=>some (x::l)) (ih n)) n) cs
noncomputable def ZfQ (cs:List V):Nat→Nat→Option (List V) :=
 List.rec (motive:=fun _=>Nat→Nat→Option (List V)) (fun o n=>Nat.rec (motive:=fun _=>Option (List V)) (ZgE [] n) (fun _ _=>none) o) (fun x l ih o n=>Nat.rec (motive:=fun _=>Option (List V)) (ZgE (x::l) n) (fun o _=>ih o n) o) cs
noncomputable def ZjJ (cs:List V):Nat→Option V :=
 List.rec (motive:=fun _=>Nat→Option V) (fun _=>none) (fun x _ ih o=>Nat.rec (motive:=fun _=>Option V) (some x) (fun o _=>ih o) o) cs
noncomputable def Zg0 (agg:Bool) (cs:List V) (o sz:Nat):Option V :=
 Bool.rec (motive:=fun _=>Option V) (Bool.rec (motive:=fun _=>Option V) (ZaY false cs o sz) (ZjJ cs o) (Nat.beq sz 1)) (Option.rec (motive:=fun _=>Option V) none (fun l=>some (.ag l)) (ZfQ cs o sz)) agg
noncomputable def Zet {β:Type}(x:Option Obj) (f:Bool→List V→β) (d:β):β :=
 Option.rec (motive:=fun _=>β) d (fun x=>Obj.rec (motive:=fun _=>β) f d (fun _=>d) x) x
noncomputable def ZjN (x:Option V):Av:=Option.rec (motive:=fun _=>Av) none (fun v=>some (v,[])) x
noncomputable def fLd (agg:Bool) (sz:Nat) (a:Opd) (rd:Nat→Option Obj) (_:Nat) (e:Opd→V):Av :=
 V.asP (e a) (fun r o=>Zet (rd r) (fun _ cs=>ZjN (Zg0 agg cs o sz)) none) none
noncomputable def Zgz (vs:List V):List V→Option (List V) :=
 List.rec (motive:=fun _=>List V→Option (List V)) some (fun v _ ih cs=>List.rec (motive:=fun _=>Option (List V)) none (fun _ l _=>Option.rec (motive:=fun _=>Option (List V)) none (fun l=>some (v::l)) (ih l)) cs) vs
noncomputable def Zgx (vs:List V) (cs:List V):Nat→Option (List V) :=
 List.rec (motive:=fun _=>Nat→Option (List V)) (fun o=>Nat.rec (motive:=fun _=>Option (List V)) (Zgz vs []) (fun _ _=>none) o) (fun x l ih o=>Nat.rec (motive:=fun _=>Option (List V)) (Zgz vs (x::l)) (fun o _=>Option.rec (motive:=fun _=>Option (List V)) none (fun l=>some (x::l)) (ih o)) o) cs
noncomputable def Zf4 (vs:List V):Nat→Bool :=
 List.rec (motive:=fun _=>Nat→Bool) (fun n=>Nat.beq n 0) (fun v _ ih n=>Nat.rec (motive:=fun _=>Bool) false (fun n _=>Bool.rec (motive:=fun _=>Bool) false (ih n) (V.asA v (fun _=>false) (V.asT v (fun _=>false) true))) n) vs
noncomputable def Zeu (v:V):List V:=V.asA v (fun cs=>cs) [v]
noncomputable def fSt (sz:Nat) (a x:Opd) (rd:Nat→Option Obj) (_:Nat) (e:Opd→V):Av :=
 V.asP (e a) (fun r o=>Zet (rd r) (fun w cs=>Bool.rec (motive:=fun _=>Av) none (Bool.rec (motive:=fun _=>Av) none (Option.rec (motive:=fun _=>Av) none (fun cs'=>some (.un,[(r,.cells true cs')])) (Zgx (Zeu (e x)) cs o)) (Zf4 (Zeu (e x)) sz)) w) none) none
noncomputable def fFa (off:Nat) (x:Opd) (_:Nat→Option Obj) (_:Nat) (e:Opd→V):Av:=V.asP (e x) (fun r o=>some (.p r (Nat.add o off),[])) none
noncomputable def Zmz (sz:Nat) (x i:Opd) (_:Nat→Option Obj) (_:Nat) (e:Opd→V):Av :=
 V.asS (e x) (fun es r o n _ _=>Bool.rec (motive:=fun _=>Av) none (ZjI (e i) (fun j=>Bool.rec (motive:=fun _=>Av) none (some (.p r (Nat.add o (Nat.mul j sz)),[])) (Nat.ble (Nat.succ j) n)) none) (Nat.beq es sz)) none
noncomputable def ZlD (sz n:Nat) (x i:Opd) (_:Nat→Option Obj) (_:Nat) (e:Opd→V):Av :=
 V.asP (e x) (fun r o=>ZjI (e i) (fun j=>Bool.rec (motive:=fun _=>Av) none (some (.p r (Nat.add o (Nat.mul j sz)),[])) (Nat.ble (Nat.succ j) n)) none) none
noncomputable def Zmv (x:Opd) (k:Nat) (_:Nat→Option Obj) (_:Nat) (e:Opd→V):Av:=V.asT (e x) (fun vs=>ZjN (ZjJ vs k)) none
noncomputable def Zm0 (x:Opd) (_:Nat→Option Obj) (_:Nat) (e:Opd→V):Av:=V.asS (e x) (fun _ _ _ n _ _=>some (.i .i64 (.ofNat n),[])) (Zkx e x)
noncomputable def ZlE (c a b:Opd) (_:Nat→Option Obj) (_:Nat) (e:Opd→V):Av:=V.asB (e c) (fun x=>Bool.rec (motive:=fun _=>Av) (some (e b,[])) (some (e a,[])) x) none
noncomputable def ZkJ (x:Opd) (_:Nat→Option Obj) (_:Nat) (e:Opd→V):Av:=V.asP (e x) (fun r o=>some (.p r o,[])) (Ziv e x)
noncomputable def ZlC (k:IntKind) (x:Opd) (_:Nat→Option Obj) (_:Nat) (e:Opd→V):Av :=
 ZjI (e x) (fun a=>Bool.rec (motive:=fun _=>Av) (Zf5 e k x) (some (.i k (.ofNat a),[])) (Nat.ble a 127)) (Zf5 e k x)
noncomputable def Zmw (agg:Bool) (off sz:Nat) (x:Opd) (_:Nat→Option Obj) (_:Nat) (e:Opd→V):Av:=V.asA (e x) (fun cs=>ZjN (Zg0 agg cs off sz)) none

structure Hf where
 t:Tt (Option Obj)
 n:Nat
noncomputable def Hf.get (h:Hf):Nat→Option Obj:=Tt.get none h.t
noncomputable def Hf.put (h:Hf) (p:Nat×Obj):Hf :=
 Hf.rec (motive:=fun _=>Hf) (fun t n=>Prod.rec (motive:=fun _=>Hf) (fun r o=>⟨Tt.put none (some o) (Nat.succ r) t r,ifB (Nat.ble n r) (Nat.succ r) n⟩) p) h
noncomputable def Hf.puts (h:Hf) (l:List (Nat×Obj)):Hf:=List.rec (motive:=fun _=>Hf→Hf) (fun h=>h) (fun p _ ih h=>ih (h.put p)) l h

def V.eq1:V→V→Bool
 | .b x,.b y=>x == y
 | .i k x,.i k' y=>k == k'&&x == y
 | .p r o,.p r' o'=>r == r'&&o == o'
 | .pn,.pn=>true
 | .sl t u x y z w,.sl t' u' x' y' z' w'=>t == t'&&u == u'&&x == x'&&y == y'&&z == z'&&w == w'
 | .sn,.sn=>true
 | .mp r,.mp r'=>r == r'
 | .nf,.nf=>true
 | .ni,.ni=>true
 | _,_=>false
def Zj5:List V→List V→Bool
 | [],[]=>true
 | x::xs,y::ys=>V.eq1 x y&&Zj5 xs ys
 | _,_=>false
def Zg8:Option Obj→Option Obj→Bool
 | none,none=>true
 | some .dead,some .dead=>true
 | some (.cells w cs),some (.cells w' cs')=>w == w'&&Zj5 cs cs'
 | _,_=>false

inductive TrF where
 | no
 | op (looks idle:Bool) (t:List Nat) (nr:Nat)
 | call (h h':Hf)

def ZhL (r:Nat):List Nat→Bool
 | []=>false
 | q::l=>Nat.beq q r||ZhL r l

noncomputable def TrF.apart:TrF→TrF→Bool
 | .no,_=>true
 | _,.no=>true
 | .op l z t n,.op l' z' t' n'=>(l&&l'||t.all fun r=>!ZhL r t')&&(z || !ZhL n t')&&(z' || !ZhL n' t)
 | .call h h',.op l _ t _=>l&&t.all fun r=>Zg8 (h.get r) (h'.get r)
 | .op l z t _,.call h h'=>l&&z&&t.all fun r=>Zg8 (h.get r) (h'.get r)
 | .call _ _,.call _ _=>false

inductive Rv where
 | no
 | ok (v:V) (h:Hf)
abbrev Zb1:=Nat→List V→Hf→Rv

noncomputable def evF (fr:Tt V) (x:Opd):V:=Opd.rec (motive:=fun _=>V) (fun n=>Tt.get .un fr n) (fun v=>v) x
noncomputable def ZiX (g:Option (Nat×Bool)) (fr:Tt V):Bool :=
 Option.rec (motive:=fun _=>Bool) true (fun p=>V.asB (Tt.get .un fr p.1) (fun x=>Bool.rec (motive:=fun _=>Bool) (Bool.rec (motive:=fun _=>Bool) true false p.2) p.2 x) false) g

inductive Rs where
 | no
 | ok (v:V) (h:Hf) (t:TrF)

noncomputable def ZfF {β:Type}(o:Op):(Opd→List Opd→β)→β→β :=
 Op.rec (motive:=fun _=>(Opd→List Opd→β)→β→β) (fun _ _ d=>d) (fun _ _ _ _ d=>d) (fun _ _ d=>d) (fun _ _ d=>d) (fun _ _ _ d=>d) (fun _ _ _ _ _ d=>d) (fun _ _ _ _ d=>d) (fun _ _ _ _ d=>d) (fun _ _ d=>d) (fun _ _ _ _ d=>d) (fun _ _ _ _ _ d=>d) (fun _ _ _ d=>d) (fun _ _ _ d=>d) (fun _ _ _ d=>d) (fun _ _ _ _ _ _ d=>d) (fun _ _ _ _ _ _ d=>d) (fun _ _ _ _ _ _ _ d=>d) (fun _ _ _ d=>d) (fun _ _ _ _ _ d=>d) (fun _ _ _ _ d=>d) (fun _ _ _ _ _ d=>d) (fun _ _ _ _ _ _ d=>d) (fun _ _ _ d=>d) (fun _ _ _ d=>d) (fun _ _ d=>d) (fun _ _ d=>d) (fun _ _ d=>d) (fun _ _ _ _ _ d=>d) (fun _ _ _ _ d=>d) (fun _ _ _ d=>d) (fun _ _ d=>d) (fun _ _ d=>d) (fun _ d=>d) (fun _ _ _ _ _ _ d=>d) (fun _ _ _ _ _ d=>d) (fun _ _ d=>d) (fun f args g _=>g f args) (fun _ d=>d) o
noncomputable def Zjj (o:Op):(Nat→Option Obj)→Nat→(Opd→V)→Av :=
 Op.rec (motive:=fun _=>(Nat→Option Obj)→Nat→(Opd→V)→Av) (fun x _ _ e=>some (e x,[])) ZlE (fun zero _ nr _=>some (.p nr 0,[(nr,.cells true zero)])) (fun x _ nr e=>some (.p nr 0,[(nr,.cells true (e x).cells)])) (fun zero ps _ _ e=>Ziu e zero ps) (fun sz len zero ps _ nr e=>Zks nr e sz len zero ps) fLd fSt ZkJ Zmu fEq (fun op x _ _ e=>Zl9 e op x) ZlC (fun id caps _ _ e=>Zkt e id caps) (fun sz bytes zero l c _ nr e=>Zkz nr e sz bytes zero l c) (fun sz x lo hi mx _ _ e=>Zk2 e sz x lo hi mx) (fun sz n x lo hi mx rd _ e=>Zjr rd e sz n x lo hi mx) fFa Zmw Zmz ZlD (fun agg sz n x i _ _ e=>Zl6 e agg sz n x i) (fun x i _ _ e=>Zkw e x i) Zmv Zm0 (fun x _ _ e=>Zjs e x) (fun v _ _ _=>some (v,[])) (fun sz bytes x y rd nr e=>Zkr rd nr e sz bytes x y) (fun sz x y rd _ e=>Zkv rd e sz x y) (fun zero x rd _ e=>Zku rd e zero x) (fun xs _ _ e=>Zl8 e xs) (fun xs _ _ e=>Zl7 e xs) (fun _ nr _=>Zky nr) (fun ks ok zero m k rd _ e=>Zk0 rd e ks ok zero m k) (fun ks m k v rd _ e=>Zk1 rd e ks m k v) (fun x rd _ e=>Zjq rd e x) (fun _ _ _ _ _=>none) (fun _ _ _=>none) o

noncomputable def ZiH (f:Opd→V) (l:List Opd):List V:=List.rec (motive:=fun _=>List V) [] (fun x _ ih=>f x::ih) l
noncomputable def Zf7 (call:Zb1) (fr:Tt V) (h:Hf) (f:Opd) (args:List Opd):Rs :=
 V.asF (evF fr f) (fun id caps=>Rv.rec (motive:=fun _=>Rs) .no (fun v h'=>.ok v h' (.call h h')) (call (Mu.fid id) (ZbA id (ZiH (evF fr) args) caps) h)) .no
noncomputable def Zgr (nr:Nat) (fr:Tt V) (h:Hf) (op:Op):Rs :=
 Option.rec (motive:=fun _=>Rs) .no (fun p=>Prod.rec (motive:=fun _=>Rs) (fun v up=>.ok v (h.puts up) (.op op.looks up.isEmpty (Zap (evF fr) op) nr)) p) (Zjj op h.get nr (evF fr))
noncomputable def ZeL (call:Zb1) (nr:Nat) (op:Op) (g:Option (Nat×Bool)) (fr:Tt V) (h:Hf):Rs :=
 Bool.rec (motive:=fun _=>Rs) (.ok .un h .no) (ZfF op (Zf7 call fr h) (Zgr nr fr h op)) (ZiX g fr)

noncomputable def Zhc (fr:Tt V) (d:Option Nat) (v:V):Tt V:=Option.rec (motive:=fun _=>Tt V) fr (fun d=>Tt.put .un v (Nat.succ d) fr d) d

inductive Ro where
 | no
 | ok (fr:Tt V) (h:Hf)

noncomputable def ZiM (call:Zb1) (l:List Oper):Tt V→Hf→Ro :=
 List.rec (motive:=fun _=>Tt V→Hf→Ro) Ro.ok (fun o _ ih fr h=>Oper.rec (motive:=fun _=>Ro) (fun dst op g=>Rs.rec (motive:=fun _=>Ro) .no (fun v h' _=>ih (Zhc fr dst v) h') (ZeL call h.n op g fr h)) o) l

inductive Rdd where
 | no
 | ok (fr:Tt V) (h:Hf) (ts:List TrF)

noncomputable def Zex (call:Zb1) (l:List Oper):Nat→Tt V→Hf→Rdd :=
 List.rec (motive:=fun _=>Nat→Tt V→Hf→Rdd) (fun _ fr h=>.ok fr h []) (fun o _ ih n fr h=>Oper.rec (motive:=fun _=>Rdd) (fun dst op g=>Rs.rec (motive:=fun _=>Rdd) .no (fun v h' t=>Rdd.rec (motive:=fun _=>Rdd) .no (fun fr'' h'' ts=>.ok fr'' h'' (t::ts)) (ih (Nat.succ n) (Zhc fr dst v) h')) (ZeL call n op g fr h)) o) l

noncomputable def ZfO (ts:List TrF):Nat→TrF:=List.rec (motive:=fun _=>Nat→TrF) (fun _=>.no) (fun x _ ih o=>Nat.rec (motive:=fun _=>TrF) x (fun o _=>ih o) o) ts
noncomputable def ZhG (ts:List TrF) (l:List (Nat×Nat)):Bool :=
 List.rec (motive:=fun _=>Bool) true (fun p _ ih=>Bool.rec (motive:=fun _=>Bool) false ih ((ZfO ts p.1).apart (ZfO ts p.2))) l

noncomputable def ZjL (call:Zb1) (ops:List Oper) (prs:List (Nat×Nat)) (fr:Tt V) (h:Hf):Ro :=
 Rdd.rec (motive:=fun _=>Ro) .no (fun fr' h' ts=>Bool.rec (motive:=fun _=>Ro) .no (.ok fr' h') (ZhG ts prs)) (Zex call ops h.n fr ⟨h.t,h.n+ops.length⟩)

inductive Rc where
 | no
 | nm (fr:Tt V) (h:Hf)
 | ex (id:Nat) (fr:Tt V) (h:Hf)
 | rt (fr:Tt V) (h:Hf)

noncomputable def ZiE (body:Tt V→Hf→Rc) (k:Nat):Tt V→Hf→Rc :=
 Nat.rec (motive:=fun _=>Tt V→Hf→Rc) (fun _ _=>.no) (fun _ ih fr h=>Rc.rec (motive:=fun _=>Rc) .no ih .ex .rt (body fr h)) k

noncomputable def ZbZ (call:Zb1) (k:Nat) (c:Code):Tt V→Hf→Rc :=
 Code.rec (motive:=fun _=>Tt V→Hf→Rc)
  Rc.nm
  (fun ops fr h=>Ro.rec (motive:=fun _=>Rc) .no Rc.nm (ZiM call ops fr h))
  (fun ops prs fr h=>Ro.rec (motive:=fun _=>Rc) .no Rc.nm (ZjL call ops prs fr h))
  (fun _ _ iha ihb fr h=>Rc.rec (motive:=fun _=>Rc) .no ihb .ex .rt (iha fr h))
  (fun c _ _ iha ihb fr h=>V.asB (evF fr c) (fun x=>Bool.rec (motive:=fun _=>Rc) (ihb fr h) (iha fr h) x) .no)
  (fun id _ iha fr h=>Rc.rec (motive:=fun _=>Rc) .no Rc.nm (fun id' fr' h'=>Bool.rec (motive:=fun _=>Rc) (.ex id' fr' h') (.nm fr' h') (Nat.beq id' id)) Rc.rt (iha fr h))
  (fun _ iha fr h=>ZiE iha k fr h)
  (fun id fr h=>.ex id fr h)
  Rc.rt
  (fun _ _=>.no) c

noncomputable def Zlh (fr:Tt V) (h:Hf) (r:Res):Option V :=
 Res.rec (motive:=fun _=>Option V) (fun n=>some (Tt.get .un fr n)) (fun n agg sz=>V.asP (Tt.get .un fr n) (fun r o=>Zet (h.get r) (fun _ cs=>Zg0 agg cs o sz) none) none) r
noncomputable def ZeG (fr:Tt V) (h:Hf) (l:List Res):Option (List V) :=
 List.rec (motive:=fun _=>Option (List V)) (some []) (fun r _ ih=>Option.rec (motive:=fun _=>Option (List V)) none (fun v=>Option.rec (motive:=fun _=>Option (List V)) none (fun vs=>some (v::vs)) ih) (Zlh fr h r)) l

noncomputable def ZcV (l:List V):Nat→Tt V→Tt V :=
 List.rec (motive:=fun _=>Nat→Tt V→Tt V) (fun _ t=>t) (fun v _ ih n t=>ih (Nat.succ n) (Tt.put .un v (Nat.succ n) t n)) l

noncomputable def Zf9 (fn:Func) (fr:Tt V) (h:Hf):Rv :=
 Option.rec (motive:=fun _=>Rv) .no (fun vs=>.ok (ZfU vs) h) (ZeG fr h fn.results)
noncomputable def ZdP (P:Tt (Option Func)) (k:Nat):Zb1 :=
 Nat.rec (motive:=fun _=>Zb1) (fun _ _ _=>.no) (fun k ih f args h=>Option.rec (motive:=fun _=>Rv) .no (fun fn=>Nat.rec (motive:=fun _=>Rv) .no (fun _ _=>Rc.rec (motive:=fun _=>Rv) .no (Zf9 fn) (fun _ _ _=>.no) (Zf9 fn) (ZbZ ih k fn.body (ZcV args 0 .e) h)) fn.ntmps) (Tt.get none P f)) k

noncomputable def ZiV (P:Tt (Option Func)) (k f:Nat):Bool:=Rv.rec (motive:=fun _=>Bool) false (fun v _=>V.asB v (fun b=>b) false) (ZdP P k f [] ⟨.e,0⟩)
end Mu
