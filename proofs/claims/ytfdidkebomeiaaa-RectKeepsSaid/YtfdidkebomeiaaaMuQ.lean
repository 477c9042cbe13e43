/- Steps: one operation, one branch, a loop, a call. -/
import Derived.Test.YtfdidkebomeiaaaMuP
set_option linter.unusedSimpArgs false
set_option linter.unusedVariables false
namespace Mu
open Go (IntKind BinOp UnOp)
variable {N:Prog}

section steps
variable {Q:Ex→Fr→Hp→Prop} {fr:Fr} {h h':Hp}
theorem Zi {a b:Code} (hk:W N a (Ex.then (W N b Q) Q) fr h):W N (.seq a b) Q fr h:=ZoH.2 hk
theorem Zl {ops:List Oper} (hk:WO N ops (Q .normal) fr h):W N (.region ops) Q fr h:=ZkM.2 hk
theorem Zay {id:Nat} {a:Code} (hk:W N a (Ex.blk id Q) fr h):W N (.block id a) Q fr h:=Zmb.2 hk
theorem zC (hk:Q .normal fr h):W N .skip Q fr h:=Zn4.2 hk
theorem ZbM {id:Nat} (hk:Q (.exit id) fr h):W N (.exit id) Q fr h:=Zn3.2 hk
theorem zL (hk:Q .ret fr h):W N .ret Q fr h:=ZoG.2 hk
theorem zB {c:Opd} {a b:Code} {t:Bool} (hc:fr.ev c = .b t) (ht:t = true) (hk:W N a Q fr h):W N (.cond c a b) Q fr h:=(Zjm hc).2 (by rw [if_pos ht]; exact hk)
theorem zz {c:Opd} {a b:Code} {t:Bool} (hc:fr.ev c = .b t) (ht:t = false) (hk:W N b Q fr h):W N (.cond c a b) Q fr h:=(Zjm hc).2 (by rw [ht]; exact hk)
theorem ZgZ {ops:List Oper} {prs:List (Nat × Nat)} (hk:WDQ N h.n (Zj4 0 ops) (Q .normal) fr (h.bump ops.length)):W N (.draw ops prs) Q fr h:=Zmc hk
theorem Zh8 {ops:List Oper} {prs:List (Nat × Nat)} (hk:WD N h.n (Zj4 0 ops) (fun fr' h' ts=>(∀ q∈prs,(ZfW ts q.1).apart (ZfW ts q.2))∧Q .normal fr' h') fr (h.bump ops.length)):W N (.draw ops prs) Q fr h:=ZjV.2 hk
end steps

section ops
variable {Q:Fr→Hp→Prop} {fr:Fr} {h h':Hp} {d:Option Nat} {op:Op} {l:List Oper} {v:V} {up:List (Nat × Obj)}
theorem ZoE (ha:act h.m h.n fr.ev op = some (v,up)) (hu:h.puts up = h') (hk:WO N l Q (fr.put d v) h'):WO N (⟨d,op,none⟩ :: l) Q fr h:=by
 have hop:∀ f args,op≠.call f args:=by rintro f args rfl; cases ha
 subst hu
 rw [ZkL hop,ha]
 exact hk
theorem Zg (ha:act h.m h.n fr.ev op = some (v,[])) (hk:WO N l Q (fr.put d v) h):WO N (⟨d,op,none⟩ :: l) Q fr h:=ZoE ha rfl hk
theorem Zai {f:Opd} {args:List Opd} {id:Nat} {caps vs:List V} (hf:fr.ev f = .f id caps) (hv:args.map fr.ev++caps = vs) (hi:Is N id vs h v h') (hk:WO N l Q (fr.put d v) h'):WO N (⟨d,.call f args,none⟩ :: l) Q fr h:=by
 subst hv
 exact (ZjT hf).2 ((hi _).2 hk)
theorem Z7 {j:Nat} {w t:Bool} (hj:fr j = .b t) (ht:t = w) (hk:WO N (⟨d,op,none⟩ :: l) Q fr h):WO N (⟨d,op,some (j,w)⟩ :: l) Q fr h:=(ZiI hj).2 (by rw [if_pos ht]; exact hk)
theorem Zw {j:Nat} {w t:Bool} (hj:fr j = .b t) (ht:t = !w) (hk:WO N l Q (fr.put d .un) h):WO N (⟨d,op,some (j,w)⟩ :: l) Q fr h:=(ZiI hj).2 (by subst ht; rw [if_neg (by cases w <;> decide)]; exact hk)
theorem Znj {j:Nat} {w:Bool} (hj:fr j = .un) (hk:WO N l Q (fr.put d .un) h):WO N (⟨d,op,some (j,w)⟩ :: l) Q fr h:=by
 rw [Zma,Zgs,hj]
 exact hk
theorem Za0 {P:V→Hp→Prop} (hx:∃ v k' up,act h.m h.n fr.ev op = some (v,up)∧h.puts up = k'∧P v k') (hk:∀ v k',P v k'→WO N l Q (fr.put d v) k'):WO N (⟨d,op,none⟩ :: l) Q fr h:=by
 obtain ⟨v,k',up,ha,hu,hP⟩:=hx
 exact ZoE ha hu (hk v k' hP)
theorem Zc (hk:Q fr h):WO N [] Q fr h:=Zn1.2 hk
end ops

section draws
variable {Q:Fr→Hp→Prop} {fr:Fr} {h h':Hp} {d:Option Nat} {op:Op} {base j:Nat} {l:List (Nat × Oper)} {v:V} {up:List (Nat × Obj)}
theorem ZS (ho:op.looks = true) (ha:act h.m (base + j) fr.ev op = some (v,[])) (hk:WDQ N base l Q (fr.put d v) h):WDQ N base ((j,⟨d,op,none⟩) :: l) Q fr h:=by
 rw [ZgX]
 unfold ZiG
 rw [ha]
 simp only [ZjQ,ho,List.isEmpty_nil,Bool.and_self,Zo8,if_true,Hp.puts_nil]
 exact hk
theorem Z8 {g:Nat} {w t:Bool} (hj:fr g = .b t) (ht:t = w) (hk:WDQ N base ((j,⟨d,op,none⟩) :: l) Q fr h):WDQ N base ((j,⟨d,op,some (g,w)⟩) :: l) Q fr h:=by
 rw [ZgY,Zgs,hj,V.is_b,ht,beq_self_eq_true,if_pos rfl,← ZgX]
 exact hk
theorem Z1 {g:Nat} {w t:Bool} (hj:fr g = .b t) (ht:t = !w) (hk:WDQ N base l Q (fr.put d .un) h):WDQ N base ((j,⟨d,op,some (g,w)⟩) :: l) Q fr h:=by
 rw [ZgY,Zgs,hj,V.is_b,ht,if_neg (by cases w <;> decide)]
 exact hk
theorem Zcw {g:Nat} {w:Bool} (hj:fr g = .un) (hk:WDQ N base l Q (fr.put d .un) h):WDQ N base ((j,⟨d,op,some (g,w)⟩) :: l) Q fr h:=by
 rw [ZgY,Zgs,hj,V.is_un,if_neg (by decide)]
 exact hk
theorem Zaj (hk:Q fr h):WDQ N base [] Q fr h:=ZlY.2 hk
variable {Q:Fr→Hp→List (Nat × Tr)→Prop}
theorem ZoC (ha:act h.m (base + j) fr.ev op = some (v,up)) (hu:h.puts up = h') (hk:WD N base l (fun fr' h' ts=>Q fr' h' ((j,.op op.looks up.isEmpty (Zb1 fr.ev op) (base + j)) :: ts)) (fr.put d v) h'):WD N base ((j,⟨d,op,none⟩) :: l) Q fr h:=by
 have hop:∀ f args,op≠.call f args:=by rintro f args rfl; cases ha
 subst hu
 rw [Zjl hop,ha]
 exact hk
theorem ZfM {P:V→Hp→Prop} (hx:∃ v k' up,act h.m (base + j) fr.ev op = some (v,up)∧h.puts up = k'∧P v k') (hk:∀ v k' z,P v k'→WD N base l (fun fr' h' ts=>Q fr' h' ((j,.op op.looks z (Zb1 fr.ev op) (base + j)) :: ts)) (fr.put d v) k'):WD N base ((j,⟨d,op,none⟩) :: l) Q fr h:=by
 obtain ⟨v,k',up,ha,hu,hP⟩:=hx
 exact ZoC ha hu (hk v k' _ hP)
theorem Zar (ha:act h.m (base + j) fr.ev op = some (v,[])) (hk:WD N base l (fun fr' h' ts=>Q fr' h' ((j,.op op.looks true (Zb1 fr.ev op) (base + j)) :: ts)) (fr.put d v) h):WD N base ((j,⟨d,op,none⟩) :: l) Q fr h:=ZoC ha rfl hk
theorem Zkx {f:Opd} {args:List Opd} {id:Nat} {caps vs:List V} (hf:fr.ev f = .f id caps) (hv:args.map fr.ev++caps = vs) (hi:Is N id vs h v h') (hk:WD N base l (fun fr' h'' ts=>Q fr' h'' ((j,.call fun r=>h'.m r≠h.m r) :: ts)) (fr.put d v) h'):WD N base ((j,⟨d,.call f args,none⟩) :: l) Q fr h:=by
 subst hv
 exact (ZjR hf).2 ((hi _).2 hk)
theorem Zci {g:Nat} {w t:Bool} (hj:fr g = .b t) (ht:t = w) (hk:WD N base ((j,⟨d,op,none⟩) :: l) Q fr h):WD N base ((j,⟨d,op,some (g,w)⟩) :: l) Q fr h:=(ZiH hj).2 (by rw [if_pos ht]; exact hk)
theorem Zat {g:Nat} {w t:Bool} (hj:fr g = .b t) (ht:t = !w) (hk:WD N base l (fun fr' h' ts=>Q fr' h' ((j,.no) :: ts)) (fr.put d .un) h):WD N base ((j,⟨d,op,some (g,w)⟩) :: l) Q fr h:=(ZiH hj).2 (by subst ht; rw [if_neg (by cases w <;> decide)]; exact hk)
theorem Zdn (hk:Q fr h []):WD N base [] Q fr h:=ZkK.2 hk
end draws

/-! Where the order is drawn: apart. -/
theorem Zct {z z':Bool} {t t':List Nat} {n n':Nat} (h1:z = false→n ∉ t') (h2:z' = false→n' ∉ t):(Tr.op true z t n).apart (.op true z' t' n'):=⟨.inl ⟨rfl,rfl⟩,h1,h2⟩
theorem Znm {l l' z z':Bool} {t t':List Nat} {n n':Nat} (h:∀ r∈t,r ∉ t') (h1:z = false→n ∉ t') (h2:z' = false→n' ∉ t):(Tr.op l z t n).apart (.op l' z' t' n'):=⟨.inr h,h1,h2⟩
theorem ZkX {l z:Bool} {t:List Nat} {n:Nat} {c:Nat→Prop} (h1:l = true) (h2:z = true) (h:∀ r∈t,¬c r):(Tr.op l z t n).apart (.call c):=⟨h1,h2,h⟩
theorem Zka {t:Tr}:Tr.no.apart t:=trivial
/-! Results. -/
theorem ZD {fr:Fr} {h:Hp}:Zco fr h [] = some []:=rfl
theorem zl {fr:Fr} {h:Hp} {n:Nat} {v:V} {l:List Res} {vs:List V} (hv:fr n = v) (ht:Zco fr h l = some vs):Zco fr h (.t n :: l) = some (v :: vs):=by simp [Zco,ZgD,hv,ht]
theorem ZjD {fr:Fr} {h:Hp} {n r o sz:Nat} {agg w:Bool} {cs:List V} {v:V} {l:List Res} {vs:List V} (hr:fr n = .p r o) (hb:h.m r = some (.cells w cs)) (hv:ZcK agg cs o sz = some v) (ht:Zco fr h l = some vs):Zco fr h (.cell n agg sz :: l) = some (v :: vs):=by simp [Zco,ZgD,hr,hb,hv,ht]
theorem zf {rs:List Res} {Q:V→Hp→Prop} {fr:Fr} {h:Hp} {vs:List V} (hv:Zco fr h rs = some vs) (hq:Q (ZjB vs) h):Ret rs Q .ret fr h:=by simp only [Ret,hv]; exact hq
theorem Zni {rs:List Res} {Q:V→Hp→Prop} {fr:Fr} {h:Hp} {vs:List V} (hv:Zco fr h rs = some vs) (hq:Q (ZjB vs) h):Ret rs Q .normal fr h:=by simp only [Ret,hv]; exact hq

/-! What is worked out: partial functions. -/
def ck {α:Type} (c:Prop) [Decidable c] (o:Option α):Option α:=if c then o else none
theorem Z5 {α:Type} {c:Prop} [Decidable c] {o:Option α} (h:c):ck c o = o:=if_pos h
theorem Zn {α:Type} {c:Prop} [Decidable c] {o:Option α} {r:α} (h:ck c o = some r):c∧o = some r:=by
 unfold ck at h
 split at h
 ·rename_i hc; exact ⟨hc,h⟩
 ·cases h
theorem Zq {α β:Type} {o:Option α} {f:α→Option β} {r:β} (h:o.bind f = some r):∃ x,o = some x∧f x = some r:=Option.bind_eq_some_iff.1 h
theorem Zt {α:Type} {c:Bool} {a b:Option α} {r:α} (h:(if c = true then a else b) = some r):(c = true∧a = some r)∨(c = false∧b = some r):=by
 cases c
 ·exact .inr ⟨rfl,by simpa using h⟩
 ·exact .inl ⟨rfl,by simpa using h⟩

def big:Nat:=18446744073709551616
def Zdt {κ β:Type} [DecidableEq κ] (z:β) (k:κ):List (κ × β)→β
 | []=>z
 | p :: l=>if k = p.1 then p.2 else Zdt z k l
def Ze3 {κ β:Type} [DecidableEq κ] (k:κ) (v:β):List (κ × β)→List (κ × β)
 | []=>[(k,v)]
 | p :: l=>if k = p.1 then (k,v) :: l else p :: Ze3 k v l
def ze {σ ρ:Type} (step:σ→Option (σ ⊕ ρ)):Nat→σ→Option ρ
 | 0,_=>none
 | n + 1,s=>match step s with
  | some (.inl s')=>ze step n s'
  | some (.inr r)=>some r
  | none=>none
theorem zU {a:Code} {σ ρ:Type} {step:σ→Option (σ ⊕ ρ)} {Q:Ex→Fr→Hp→Prop} (I:σ→Fr→Hp→Prop) {n:Nat} {s:σ} {r:ρ} (hr:ze step n s = some r) {fr:Fr} {h:Hp} (h0:I s fr h)
  (hs:∀ s fr h,I s fr h→∀ o,step s = some o→W N a (fun e fr' h'=>(∃ s',o = .inl s'∧e = .normal∧I s' fr' h')∨(∃ r',o = .inr r'∧e≠.normal∧(r' = r→Q e fr' h'))) fr h):W N (.loop a) Q fr h:=by
 induction n generalizing s fr h with
 | zero=>cases hr
 | succ n ih =>
  refine ZiJ ?_
  simp only [ze] at hr
  split at hr
  ·rename_i s' hst
   refine (hs s fr h h0 _ hst).mono ?_
   rintro e fr' h' (⟨s2,he,rfl,hI⟩ | ⟨r2,he,_⟩)
   ·cases he
    exact ih hr hI
   ·cases he
  ·rename_i r2 hst
   cases hr
   refine (hs s fr h h0 _ hst).mono ?_
   rintro e fr' h' (⟨s2,he,_⟩ | ⟨r2,he,hn,hQ⟩)
   ·cases he
   ·cases he
    have:=hQ rfl
    cases e with
    | normal=>exact absurd rfl hn
    | exit i=>exact this
    | ret=>exact this
  ·cases hr

/-! What can be read. -/
theorem Sl.rd {α:Type} {E:Enc α} {h:Hp} {v:V} {l:List α} (hs:Sl E h v l):Rd (fun r=>r < h.n) h E v l:=fun k hk=>hs.ext ⟨hk.1,hk.2⟩
theorem RdB.of {h:Hp} {r:Nat} {w:Bool} {cs:List V} (hb:h.m r = some (.cells w cs)):RdB (fun r=>r < h.n) h r cs:=fun k hk=>⟨w,(hk.2 r (Hp.lt hb)).trans hb⟩

def Bm (h:Hp) (Ω:List Ent):Nat→Prop:=fun r=>r < h.n∧∀ e∈Ω,r ∉ e.rs
theorem Own.startM {h:Hp} {Ω:List Ent} (hP:∀ e∈Ω,e.P h) (hs:Ω.Pairwise apart):Own (Bm h Ω) h h Ω:=⟨Nat.le_refl _,fun _ _=>rfl,fun _ hr=>hr.1,hP,fun e he r hr hb=>hb.2 e he hr,hs⟩
theorem Own.toM {B:Nat→Prop} {h k:Hp} {Ω Ωi:List Ent} (H:Own B h k Ω) (is:List Nat) (hi:is.map (ent Ω) = Ωi) (hn:is.Nodup):Own (Bm k Ωi) k k Ωi:=Own.startM (H.pick is hi hn).P (H.pick is hi hn).sep
theorem Own.rd0 {B:Nat→Prop} {h k:Hp} {Ω:List Ent} (H:Own B h k Ω) {α:Type} {E:Enc α} {v:V} {l:List α} (s:Rd B h E v l):Sl E k v l:=s k H.ext
theorem Own.rdB0 {B:Nat→Prop} {h k:Hp} {Ω:List Ent} (H:Own B h k Ω) {r:Nat} {cs:List V} (s:RdB B h r cs):∃ w,k.m r = some (.cells w cs):=s k H.ext
end Mu
