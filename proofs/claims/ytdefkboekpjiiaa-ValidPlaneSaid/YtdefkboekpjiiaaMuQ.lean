/- Steps: one operation, one branch, a loop, a call. -/
import Derived.Test.YtdefkboekpjiiaaMuP
set_option linter.unusedSimpArgs false
set_option linter.unusedVariables false
namespace Mu
open Go (IntKind BinOp UnOp)
variable {N:Prog}

section steps
variable {Q:Ex→Fr→Hp→Prop} {fr:Fr} {h h':Hp}
theorem Zm {a b:Code} (hk:W N a (Ex.then (W N b Q) Q) fr h):W N (.seq a b) Q fr h:=ZkP.2 hk
theorem Zs {ops:List Oper} (hk:WO N ops (Q .normal) fr h):W N (.region ops) Q fr h:=ZhH.2 hk
theorem Zae {id:Nat} {a:Code} (hk:W N a (Ex.blk id Q) fr h):W N (.block id a) Q fr h:=ZiG.2 hk
theorem zB (hk:Q .normal fr h):W N .skip Q fr h:=ZjN.2 hk
theorem ZaL {id:Nat} (hk:Q (.exit id) fr h):W N (.exit id) Q fr h:=ZjM.2 hk
theorem Zao (hk:Q .ret fr h):W N .ret Q fr h:=ZkO.2 hk
theorem zA {c:Opd} {a b:Code} {t:Bool} (hc:fr.ev c = .b t) (ht:t = true) (hk:W N a Q fr h):W N (.cond c a b) Q fr h:=(Zgz hc).2 (by rw [if_pos ht]; exact hk)
theorem z9 {c:Opd} {a b:Code} {t:Bool} (hc:fr.ev c = .b t) (ht:t = false) (hk:W N b Q fr h):W N (.cond c a b) Q fr h:=(Zgz hc).2 (by rw [ht]; exact hk)
theorem Zg0 {ops:List Oper} {prs:List (Nat × Nat)} (hk:WDQ N h.n (ZgH 0 ops) (Q .normal) fr (h.bump ops.length)):W N (.draw ops prs) Q fr h:=ZiI hk
theorem ZiH {ops:List Oper} {prs:List (Nat × Nat)} (hk:WD N h.n (ZgH 0 ops) (fun fr' h' ts=>(∀ q∈prs,(Zd5 ts q.1).apart (Zd5 ts q.2))∧Q .normal fr' h') fr (h.bump ops.length)):W N (.draw ops prs) Q fr h:=Zhc.2 hk
end steps

section ops
variable {Q:Fr→Hp→Prop} {fr:Fr} {h h':Hp} {d:Option Nat} {op:Op} {l:List Oper} {v:V} {up:List (Nat × Obj)}
theorem ZkM (ha:act h.m h.n fr.ev op = some (v,up)) (hu:h.puts up = h') (hk:WO N l Q (fr.put d v) h'):WO N (⟨d,op,none⟩ :: l) Q fr h:=by
 have hop:∀ f args,op≠.call f args:=by rintro f args rfl; cases ha
 subst hu
 rw [ZhG hop,ha]
 exact hk
theorem Zi (ha:act h.m h.n fr.ev op = some (v,[])) (hk:WO N l Q (fr.put d v) h):WO N (⟨d,op,none⟩ :: l) Q fr h:=ZkM ha rfl hk
theorem Zat {f:Opd} {args:List Opd} {id:Nat} {caps vs:List V} (hf:fr.ev f = .f id caps) (hv:args.map fr.ev++caps = vs) (hi:Is N id vs h v h') (hk:WO N l Q (fr.put d v) h'):WO N (⟨d,.call f args,none⟩ :: l) Q fr h:=by
 subst hv
 exact (Zha hf).2 ((hi _).2 hk)
theorem ZO {j:Nat} {w t:Bool} (hj:fr j = .b t) (ht:t = w) (hk:WO N (⟨d,op,none⟩ :: l) Q fr h):WO N (⟨d,op,some (j,w)⟩ :: l) Q fr h:=(ZfW hj).2 (by rw [if_pos ht]; exact hk)
theorem ZC {j:Nat} {w t:Bool} (hj:fr j = .b t) (ht:t = !w) (hk:WO N l Q (fr.put d .un) h):WO N (⟨d,op,some (j,w)⟩ :: l) Q fr h:=(ZfW hj).2 (by subst ht; rw [if_neg (by cases w <;> decide)]; exact hk)
theorem zK {P:V→Hp→Prop} (hx:∃ v k' up,act h.m h.n fr.ev op = some (v,up)∧h.puts up = k'∧P v k') (hk:∀ v k',P v k'→WO N l Q (fr.put d v) k'):WO N (⟨d,op,none⟩ :: l) Q fr h:=by
 obtain ⟨v,k',up,ha,hu,hP⟩:=hx
 exact ZkM ha hu (hk v k' hP)
theorem Zc (hk:Q fr h):WO N [] Q fr h:=ZjK.2 hk
end ops

section draws
variable {Q:Fr→Hp→Prop} {fr:Fr} {h h':Hp} {d:Option Nat} {op:Op} {base j:Nat} {l:List (Nat × Oper)} {v:V} {up:List (Nat × Obj)}
theorem ZJ (ho:op.looks = true) (ha:act h.m (base + j) fr.ev op = some (v,[])) (hk:WDQ N base l Q (fr.put d v) h):WDQ N base ((j,⟨d,op,none⟩) :: l) Q fr h:=by
 rw [Ze0]
 unfold ZfU
 rw [ha]
 simp only [ZgX,ho,List.isEmpty_nil,Bool.and_self,ZkG,if_true,Hp.puts_nil]
 exact hk
theorem Z3 {g:Nat} {w t:Bool} (hj:fr g = .b t) (ht:t = w) (hk:WDQ N base ((j,⟨d,op,none⟩) :: l) Q fr h):WDQ N base ((j,⟨d,op,some (g,w)⟩) :: l) Q fr h:=by
 rw [Ze1,ZeR,hj,V.is_b,ht,beq_self_eq_true,if_pos rfl,← Ze0]
 exact hk
theorem Zt {g:Nat} {w t:Bool} (hj:fr g = .b t) (ht:t = !w) (hk:WDQ N base l Q (fr.put d .un) h):WDQ N base ((j,⟨d,op,some (g,w)⟩) :: l) Q fr h:=by
 rw [Ze1,ZeR,hj,V.is_b,ht,if_neg (by cases w <;> decide)]
 exact hk
theorem ZaX {g:Nat} {w:Bool} (hj:fr g = .un) (hk:WDQ N base l Q (fr.put d .un) h):WDQ N base ((j,⟨d,op,some (g,w)⟩) :: l) Q fr h:=by
 rw [Ze1,ZeR,hj,V.is_un,if_neg (by decide)]
 exact hk
theorem zr (hk:Q fr h):WDQ N base [] Q fr h:=ZiD.2 hk
variable {Q:Fr→Hp→List (Nat × Tr)→Prop}
theorem ZkK (ha:act h.m (base + j) fr.ev op = some (v,up)) (hu:h.puts up = h') (hk:WD N base l (fun fr' h' ts=>Q fr' h' ((j,.op op.looks up.isEmpty (Zad fr.ev op) (base + j)) :: ts)) (fr.put d v) h'):WD N base ((j,⟨d,op,none⟩) :: l) Q fr h:=by
 have hop:∀ f args,op≠.call f args:=by rintro f args rfl; cases ha
 subst hu
 rw [Zgy hop,ha]
 exact hk
theorem ZiF {P:V→Hp→Prop} (hx:∃ v k' up,act h.m (base + j) fr.ev op = some (v,up)∧h.puts up = k'∧P v k') (hk:∀ v k' z,P v k'→WD N base l (fun fr' h' ts=>Q fr' h' ((j,.op op.looks z (Zad fr.ev op) (base + j)) :: ts)) (fr.put d v) k'):WD N base ((j,⟨d,op,none⟩) :: l) Q fr h:=by
 obtain ⟨v,k',up,ha,hu,hP⟩:=hx
 exact ZkK ha hu (hk v k' _ hP)
theorem Zax (ha:act h.m (base + j) fr.ev op = some (v,[])) (hk:WD N base l (fun fr' h' ts=>Q fr' h' ((j,.op op.looks true (Zad fr.ev op) (base + j)) :: ts)) (fr.put d v) h):WD N base ((j,⟨d,op,none⟩) :: l) Q fr h:=ZkK ha rfl hk
theorem ZjJ {f:Opd} {args:List Opd} {id:Nat} {caps vs:List V} (hf:fr.ev f = .f id caps) (hv:args.map fr.ev++caps = vs) (hi:Is N id vs h v h') (hk:WD N base l (fun fr' h'' ts=>Q fr' h'' ((j,.call fun r=>h'.m r≠h.m r) :: ts)) (fr.put d v) h'):WD N base ((j,⟨d,.call f args,none⟩) :: l) Q fr h:=by
 subst hv
 exact (ZgY hf).2 ((hi _).2 hk)
theorem Zb7 {g:Nat} {w t:Bool} (hj:fr g = .b t) (ht:t = w) (hk:WD N base ((j,⟨d,op,none⟩) :: l) Q fr h):WD N base ((j,⟨d,op,some (g,w)⟩) :: l) Q fr h:=(ZfV hj).2 (by rw [if_pos ht]; exact hk)
theorem z3 {g:Nat} {w t:Bool} (hj:fr g = .b t) (ht:t = !w) (hk:WD N base l (fun fr' h' ts=>Q fr' h' ((j,.no) :: ts)) (fr.put d .un) h):WD N base ((j,⟨d,op,some (g,w)⟩) :: l) Q fr h:=(ZfV hj).2 (by subst ht; rw [if_neg (by cases w <;> decide)]; exact hk)
theorem Zdx (hk:Q fr h []):WD N base [] Q fr h:=ZhF.2 hk
end draws

/-! Where the order is drawn: apart. -/
theorem Zdt {z z':Bool} {t t':List Nat} {n n':Nat} (h1:z = false→n ∉ t') (h2:z' = false→n' ∉ t):(Tr.op true z t n).apart (.op true z' t' n'):=⟨.inl ⟨rfl,rfl⟩,h1,h2⟩
theorem ZkW {l z:Bool} {t:List Nat} {n:Nat} {c:Nat→Prop} (h1:l = true) (h2:z = true) (h:∀ r∈t,¬c r):(Tr.op l z t n).apart (.call c):=⟨h1,h2,h⟩
theorem ZhR {t:Tr}:Tr.no.apart t:=trivial
/-! Results. -/
theorem zj {fr:Fr} {h:Hp}:ZaC fr h [] = some []:=rfl
theorem zR {fr:Fr} {h:Hp} {n:Nat} {v:V} {l:List Res} {vs:List V} (hv:fr n = v) (ht:ZaC fr h l = some vs):ZaC fr h (.t n :: l) = some (v :: vs):=by simp [ZaC,Zej,hv,ht]
theorem Zlx {fr:Fr} {h:Hp} {n r o sz:Nat} {agg w:Bool} {cs:List V} {v:V} {l:List Res} {vs:List V} (hr:fr n = .p r o) (hb:h.m r = some (.cells w cs)) (hv:ZaT agg cs o sz = some v) (ht:ZaC fr h l = some vs):ZaC fr h (.cell n agg sz :: l) = some (v :: vs):=by simp [ZaC,Zej,hr,hb,hv,ht]
theorem z6 {rs:List Res} {Q:V→Hp→Prop} {fr:Fr} {h:Hp} {vs:List V} (hv:ZaC fr h rs = some vs) (hq:Q (Zh4 vs) h):Ret rs Q .ret fr h:=by simp only [Ret,hv]; exact hq
/-! What is worked out: partial functions. -/
def ck {α:Type} (c:Prop) [Decidable c] (o:Option α):Option α:=if c then o else none
theorem ZF {α:Type} {c:Prop} [Decidable c] {o:Option α} (h:c):ck c o = o:=if_pos h
theorem Zp {α:Type} {c:Prop} [Decidable c] {o:Option α} {r:α} (h:ck c o = some r):c∧o = some r:=by
 unfold ck at h
 split at h
 ·rename_i hc; exact ⟨hc,h⟩
 ·cases h
theorem Zv {α β:Type} {o:Option α} {f:α→Option β} {r:β} (h:o.bind f = some r):∃ x,o = some x∧f x = some r:=Option.bind_eq_some_iff.1 h
theorem Zy {α:Type} {c:Bool} {a b:Option α} {r:α} (h:(if c = true then a else b) = some r):(c = true∧a = some r)∨(c = false∧b = some r):=by
 cases c
 ·exact .inr ⟨rfl,by simpa using h⟩
 ·exact .inl ⟨rfl,by simpa using h⟩

def big:Nat:=18446744073709551616
def Zby {κ β:Type} [DecidableEq κ] (z:β) (k:κ):List (κ × β)→β
 | []=>z
 | p :: l=>if k = p.1 then p.2 else Zby z k l
def Zcl {κ β:Type} [DecidableEq κ] (k:κ) (v:β):List (κ × β)→List (κ × β)
 | []=>[(k,v)]
 | p :: l=>if k = p.1 then (k,v) :: l else p :: Zcl k v l
def ZY {σ ρ:Type} (step:σ→Option (σ ⊕ ρ)):Nat→σ→Option ρ
 | 0,_=>none
 | n + 1,s=>match step s with
  | some (.inl s')=>ZY step n s'
  | some (.inr r)=>some r
  | none=>none
theorem zE {a:Code} {σ ρ:Type} {step:σ→Option (σ ⊕ ρ)} {Q:Ex→Fr→Hp→Prop} (I:σ→Fr→Hp→Prop) {n:Nat} {s:σ} {r:ρ} (hr:ZY step n s = some r) {fr:Fr} {h:Hp} (h0:I s fr h)
  (hs:∀ s fr h,I s fr h→∀ o,step s = some o→W N a (fun e fr' h'=>(∃ s',o = .inl s'∧e = .normal∧I s' fr' h')∨(∃ r',o = .inr r'∧e≠.normal∧(r' = r→Q e fr' h'))) fr h):W N (.loop a) Q fr h:=by
 induction n generalizing s fr h with
 | zero=>cases hr
 | succ n ih =>
  refine ZfX ?_
  simp only [ZY] at hr
  split at hr
  ·rename_i s' hst
   refine (hs s fr h h0 _ hst).mono ?_
   rintro e fr' h' (⟨s2,he,rfl,hI⟩ | ⟨r2,he,_⟩)
   ·cases he
    exact ih hr hI
   ·cases he
  ·rename_i r2 hst
   cases hr
   refine (hs s fr h h0 _ hst).mono ?_
   rintro e fr' h' (⟨s2,he,_⟩ | ⟨r2,he,hn,hQ⟩)
   ·cases he
   ·cases he
    have:=hQ rfl
    cases e with
    | normal=>exact absurd rfl hn
    | exit i=>exact this
    | ret=>exact this
  ·cases hr

/-! What can be read. -/
theorem Sl.rd {α:Type} {E:Enc α} {h:Hp} {v:V} {l:List α} (hs:Sl E h v l):Rd (fun r=>r < h.n) h E v l:=fun k hk=>hs.ext ⟨hk.1,hk.2⟩
theorem RdB.of {h:Hp} {r:Nat} {w:Bool} {cs:List V} (hb:h.m r = some (.cells w cs)):RdB (fun r=>r < h.n) h r cs:=fun k hk=>⟨w,(hk.2 r (Hp.lt hb)).trans hb⟩

def Bm (h:Hp) (Ω:List Ent):Nat→Prop:=fun r=>r < h.n∧∀ e∈Ω,r ∉ e.rs
theorem Own.startM {h:Hp} {Ω:List Ent} (hP:∀ e∈Ω,e.P h) (hs:Ω.Pairwise apart):Own (Bm h Ω) h h Ω:=⟨Nat.le_refl _,fun _ _=>rfl,fun _ hr=>hr.1,hP,fun e he r hr hb=>hb.2 e he hr,hs⟩
theorem Own.toM {B:Nat→Prop} {h k:Hp} {Ω Ωi:List Ent} (H:Own B h k Ω) (is:List Nat) (hi:is.map (ent Ω) = Ωi) (hn:is.Nodup):Own (Bm k Ωi) k k Ωi:=Own.startM (H.pick is hi hn).P (H.pick is hi hn).sep
theorem Own.rd0 {B:Nat→Prop} {h k:Hp} {Ω:List Ent} (H:Own B h k Ω) {α:Type} {E:Enc α} {v:V} {l:List α} (s:Rd B h E v l):Sl E k v l:=s k H.ext
end Mu
