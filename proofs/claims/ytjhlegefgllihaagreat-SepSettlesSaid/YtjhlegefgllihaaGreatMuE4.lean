/- The evaluator and the model: the operations that ZaZ no memory; those that make arrays and structs. -/
import Derived.Test.YtjhlegefgllihaaGreatMuE3
namespace Mu
open Go (IntKind BinOp UnOp Value World Addr TypeId Program Sem Result Next)
open Go.RowKit (Below)
set_option linter.unusedVariables false

section ops
variable {P:Program}{K:Fid}{ρ:Rho}{w0 w:World}{h:Hp}{fr:Fr}{a:Go.Act}{nr:Nat}{v:V}{up:List (Nat×Obj)}

theorem ZpG(hi:Inv K w0 ρ h w)(hf:FrRel K ρ fr a){o:Go.Oper}{x:Go.Operand}{x':Opd}(ho:o.op=.move x\/o.op=.assign x)(h1:nX K x=some x')
    (ha:act h.m nr fr.ev (.mv x')=some (v,up)):Ok P K w0 ρ h a o w v up:=by
  simp only[act,Option.some.injEq,Prod.mk.injEq]at ha;obtain⟨rfl,rfl⟩:=ha;refine Ok.pure hi (x:=a.eval x) ?_ (zX hf h1);rcases ho with ho|ho<;>simp[Go.execOp,ho]

theorem ZoY(hi:Inv K w0 ρ h w)(hf:FrRel K ρ fr a){o:Go.Oper}{c x y:Go.Operand}{c' x' y':Opd}(ho:o.op=.pick c x y)(h0:nX K c=some c')(h1:nX K x=some x')(h2:nX K y=some y')
    (ha:act h.m nr fr.ev (.pick c' x' y')=some (v,up)):Ok P K w0 ρ h a o w v up:=by
  simp only[act]at ha;have hc:=zX hf h0;split at ha
  · rename_i t ht
    rw[ht]at hc;have hc:=hc.inv_b;simp only[Option.some.injEq,Prod.mk.injEq]at ha;obtain⟨rfl,rfl⟩:=ha;refine Ok.pure hi (x:=if t then a.eval x else a.eval y) ?_ ?_
    · simp[Go.execOp,ho,hc,Go.asBool]
    · cases t
      · exact zX hf h2
      · exact zX hf h1
  · cases ha

theorem Znr(hi:Inv K w0 ρ h w)(hf:FrRel K ρ fr a){o:Go.Oper}{x:Go.Operand}{x':Opd}(ho:o.op=.nilCheck x)(h1:nX K x=some x')
    (ha:act h.m nr fr.ev (.nilck x')=some (v,up)):Ok P K w0 ρ h a o w v up:=by
  simp only[act]at ha;have hx:=zX hf h1;split at ha
  · rename_i r p hp
    simp only[Option.some.injEq,Prod.mk.injEq]at ha;obtain⟨rfl,rfl⟩:=ha;rw[hp]at hx;obtain⟨L,hL,he⟩:=hx.inv_p;refine Ok.pure hi (x:=a.eval x) ?_ hx;simp[Go.execOp,ho,he]
  · rename_i id caps hp
    simp only[Option.some.injEq,Prod.mk.injEq]at ha;obtain⟨rfl,rfl⟩:=ha;rw[hp]at hx;generalize he:a.eval x=q at hx
    cases hx with
    | f hk hl hcs=>
      refine Ok.pure hi (x:=a.eval x) ?_ (by rw[he];exact .f hk hl hcs);simp[Go.execOp,ho,he]
    | fb hk hl hcs=>
      refine Ok.pure hi (x:=a.eval x) ?_ (by rw[he];exact .fb hk hl hcs);simp[Go.execOp,ho,he]
  · cases ha

theorem ZsH(hi:Inv K w0 ρ h w)(hf:FrRel K ρ fr a){o:Go.Oper}{t:TypeId}{x:Go.Operand}{k:Nat}{x':Opd}{fs:Array Go.Field}{f:Go.Field}{i:Go.TypeInfo}(ho:o.op=.fieldAddr t x k)(h0:P.underlying t=some (.struct fs))
    (h1:nX K x=some x')(h2:fs[k]?=some f)(h3:P.info? f.type=some i)(h4:i.size≠0)
    (ha:act h.m nr fr.ev (.fa f.offset x')=some (v,up)):Ok P K w0 ρ h a o w v up:=by
  simp only[act]at ha;have hx:=zX hf h1;split at ha
  · rename_i r p hp
    simp only[Option.some.injEq,Prod.mk.injEq]at ha;obtain⟨rfl,rfl⟩:=ha;rw[hp]at hx;obtain⟨L,hL,he⟩:=hx.inv_p;refine Ok.pure hi (x:=.pointer (some ⟨L.blk,L.off+(p+f.offset),none⟩)) ?_ (.p hL);simp only[Go.execOp,ho,Go.Instr.fieldAt,he,Go.Instr.sureAddr,Go.fieldPlace];simp[Go.run_underlying h0,h2,ZaQ h3,h4,Zdf,Nat.add_assoc]
  · cases ha

theorem Zkf{t:TypeId}{d:Go.TypeDesc}{i:Go.TypeInfo}(h1:P.info? t=some i)(h2:P.underlying t=some d){cs:List V}{xs:Array Value}(hr:RelL K ρ cs xs.toList){o:Nat}(hp:ZbG (ZbK d) cs o i.size=some v) :
    ∃x,(Go.part t xs o).run P w=.ok x w/\Rel K ρ v x:=by
  obtain⟨q1,q2,q3⟩:=ZhB hr hp
  cases hd:ZbK d with
  | true=>
    refine⟨_,?_,q2 hd⟩;simp only[Go.part,Sem.run_bind,ZcK h2,hd,Result.andThen_ok,if_true,ZaQ h1,Sem.run_pure];congr 2;apply Array.ext';simp[List.take_drop]
  | false=>
    obtain⟨y,hy,hry⟩:=q3 hd;refine⟨y,?_,hry⟩;have:xs[o]?=some y:=by rw[<-Array.getElem?_toList];exact hy
    simp[Go.part,ZcK h2,hd,this]

theorem Zq6(hi:Inv K w0 ρ h w)(hf:FrRel K ρ fr a){o:Go.Oper}{t:TypeId}{x:Go.Operand}{k:Nat}{x':Opd}{fs:Array Go.Field}{f:Go.Field}{i:Go.TypeInfo}{d:Go.TypeDesc}(ho:o.op=.field t x k)(h0:P.underlying t=some (.struct fs))
    (h1:nX K x=some x')(h2:fs[k]?=some f)(h3:P.info? f.type=some i)(h4:P.underlying f.type=some d)
    (ha:act h.m nr fr.ev (.fld (ZbK d) f.offset i.size x')=some (v,up)):Ok P K w0 ρ h a o w v up:=by
  simp only[act]at ha;have hx:=zX hf h1;split at ha
  · rename_i cs hp
    rw[hp]at hx;obtain⟨xs,he,hr⟩:=hx.inv_ag;split at ha
    · rename_i u hu
      simp only[Option.some.injEq,Prod.mk.injEq]at ha;obtain⟨rfl,rfl⟩:=ha;obtain⟨y,hy,hry⟩:=Zkf (P:=P) (w:=w) h3 h4 hr hu;refine Ok.pure hi (x:=y) ?_ hry;simp only[Go.execOp,ho,Go.Instr.field,he];simp[Go.run_underlying h0,h2,Go.asAgg,hy]
    · cases ha
  · cases ha

theorem Zge{u:V}{n j:Nat}(hx:idx u n=some j):∃k i,u=.i k i/\0<=i/\i<(n:Int)/\i.toNat=j:=by
  unfold idx at hx;split at hx
  · rename_i k i
    split at hx
    · rename_i hc
      simp only[Option.some.injEq]at hx;exact⟨k,i,rfl,hc.1,hc.2,hx⟩
    · cases hx
  · cases hx

theorem ZqF(hi:Inv K w0 ρ h w)(hf:FrRel K ρ fr a){o:Go.Oper}{t e:TypeId}{x y:Go.Operand}{x' y':Opd}{i:Go.TypeInfo}(ho:o.op=.indexAddr t x y)(h0:P.underlying t=some (.slice e))
    (h1:nX K x=some x')(h2:nX K y=some y')(h3:P.info? e=some i)
    (ha:act h.m nr fr.ev (.ixa i.size x' y')=some (v,up)):Ok P K w0 ρ h a o w v up:=by
  simp only[act]at ha;have hx:=zX hf h1;have hy:=zX hf h2;split at ha
  · rename_i es r p n c ex hp
    split at ha
    · rename_i hes
      subst hes;split at ha
      · rename_i j hj
        simp only[Option.some.injEq,Prod.mk.injEq]at ha;obtain⟨rfl,rfl⟩:=ha;obtain⟨k,q,hq,hq0,hq1,hqj⟩:=Zge hj;rw[hq]at hy;have hy:=hy.inv_i;rw[hp]at hx;generalize he:a.eval x=z at hx
        cases hx with
        | sl hL hl hc hx' hs hA=>
          rename_i c' L A;rcases hA with hA|⟨hA,hA2⟩
          · omega
          refine Ok.pure hi (x:=.pointer (some ⟨L.blk,L.off+(p+j*i.size),none⟩)) ?_ (.p hL);simp only[Go.execOp,ho,Go.Instr.indexAt,he,hy,Go.asIntOf];simp[Go.run_underlying h0,hq0,hq1,ZaQ h3,hA,Zdf,hqj,Nat.add_assoc]
      · cases ha
    · cases ha
  · cases ha

theorem Zo7(hi:Inv K w0 ρ h w)(hf:FrRel K ρ fr a){o:Go.Oper}{t e:TypeId}{m:Nat}{x y:Go.Operand}{x' y':Opd}{i:Go.TypeInfo}(ho:o.op=.indexAddr t x y)(h0:P.underlying t=some (.array m e))
    (h1:nX K x=some x')(h2:nX K y=some y')(h3:P.info? e=some i)
    (ha:act h.m nr fr.ev (.ixaa i.size m x' y')=some (v,up)):Ok P K w0 ρ h a o w v up:=by
  simp only[act]at ha;have hx:=zX hf h1;have hy:=zX hf h2;split at ha
  · rename_i r p hp
    split at ha
    · rename_i j hj
      simp only[Option.some.injEq,Prod.mk.injEq]at ha;obtain⟨rfl,rfl⟩:=ha;obtain⟨k,q,hq,hq0,hq1,hqj⟩:=Zge hj;rw[hq]at hy;have hy:=hy.inv_i;rw[hp]at hx;obtain⟨L,hL,he⟩:=hx.inv_p;refine Ok.pure hi (x:=.pointer (some ⟨L.blk,L.off+(p+j*i.size),none⟩)) ?_ (.p hL);simp only[Go.execOp,ho,Go.Instr.indexAt,he,hy,Go.asIntOf];simp[Go.run_underlying h0,Go.Instr.sureAddr,hq0,hq1,ZaQ h3,Zdf,hqj,Nat.add_assoc]
    · cases ha
  · cases ha

theorem ZsL(hi:Inv K w0 ρ h w)(hf:FrRel K ρ fr a){o:Go.Oper}{t e:TypeId}{m:Nat}{x y:Go.Operand}{x' y':Opd}{i:Go.TypeInfo}{d:Go.TypeDesc}(ho:o.op=.index t x y)(h0:P.underlying t=some (.array m e))
    (h1:nX K x=some x')(h2:nX K y=some y')(h3:P.info? e=some i)(h4:P.underlying e=some d)
    (ha:act h.m nr fr.ev (.ix (ZbK d) i.size m x' y')=some (v,up)):Ok P K w0 ρ h a o w v up:=by
  simp only[act]at ha;have hx:=zX hf h1;have hy:=zX hf h2;split at ha
  · rename_i cs hp
    rw[hp]at hx;obtain⟨xs,he,hr⟩:=hx.inv_ag;split at ha
    · rename_i j hj
      split at ha
      · rename_i u hu
        simp only[Option.some.injEq,Prod.mk.injEq]at ha;obtain⟨rfl,rfl⟩:=ha;obtain⟨k,q,hq,hq0,hq1,hqj⟩:=Zge hj;rw[hq]at hy;have hy:=hy.inv_i;obtain⟨z,hz,hrz⟩:=Zkf (P:=P) (w:=w) h3 h4 hr hu;refine Ok.pure hi (x:=z) ?_ hrz;simp only[Go.execOp,ho,Go.Instr.index,he,hy,Go.asIntOf];simp[Go.run_underlying h0,hq0,hq1,ZaQ h3,hqj,hz]
      · cases ha
    · cases ha
  · cases ha

theorem ZqG(hi:Inv K w0 ρ h w)(hf:FrRel K ρ fr a){o:Go.Oper}{t:TypeId}{x y:Go.Operand}{x' y':Opd}(ho:o.op=.index t x y)(h0:P.underlying t=some .string)
    (h1:nX K x=some x')(h2:nX K y=some y')
    (ha:act h.m nr fr.ev (.ixs x' y')=some (v,up)):Ok P K w0 ρ h a o w v up:=by
  simp only[act]at ha;have hx:=zX hf h1;have hy:=zX hf h2;split at ha
  · rename_i s hp
    rw[hp]at hx;have he:=hx.inv_s;split at ha
    · rename_i j hj
      simp only[Option.some.injEq,Prod.mk.injEq]at ha;obtain⟨rfl,rfl⟩:=ha;obtain⟨k,q,hq,hq0,hq1,hqj⟩:=Zge hj;rw[hq]at hy;have hy:=hy.inv_i;have hlt:j<s.size:=by omega
      have e1:s[j]?=some s[j]:=by simp[hlt]
      have e2:s.data[j]?=some s[j]:=by
        rw[Array.getElem?_eq_some_iff];exact⟨hlt,rfl⟩
      rw[e2];refine Ok.pure hi (x:=.int .u8 (s[j].toNat:Nat)) ?_ (.i _ _);simp only[Go.execOp,ho,Go.Instr.index,he,hy,Go.asIntOf];simp[Go.run_underlying h0,hq0,hqj,e1]
    · cases ha
  · cases ha

theorem Zq5(hi:Inv K w0 ρ h w)(hf:FrRel K ρ fr a){o:Go.Oper}{x:Go.Operand}{k:Nat}{x':Opd}(ho:o.op=.extract x k)(h1:nX K x=some x')
    (ha:act h.m nr fr.ev (.ext x' k)=some (v,up)):Ok P K w0 ρ h a o w v up:=by
  simp only[act]at ha;have hx:=zX hf h1;split at ha
  · rename_i vs hp
    rw[hp]at hx;obtain⟨xs,he,hr⟩:=hx.inv_tu;split at ha
    · rename_i u hu
      simp only[Option.some.injEq,Prod.mk.injEq]at ha;obtain⟨rfl,rfl⟩:=ha;obtain⟨y,hy,hry⟩:=hr.get hu;refine Ok.pure hi (x:=y) ?_ hry;have:xs[k]?=some y:=by rw[<-Array.getElem?_toList];exact hy
      simp[Go.execOp,ho,Go.Instr.extract,he,this]
    · cases ha
  · cases ha

theorem Zou(hi:Inv K w0 ρ h w)(hf:FrRel K ρ fr a){o:Go.Oper}{s d:TypeId}{k k':IntKind}{x:Go.Operand}{x':Opd}(ho:o.op=.convert s d x)(h1:P.underlying s=some (.int k'))(h2:P.underlying d=some (.int k))(h3:nX K x=some x')
    (ha:act h.m nr fr.ev (.conv k x')=some (v,up)):Ok P K w0 ρ h a o w v up:=by
  simp only[act]at ha;have hx:=zX hf h3;split at ha
  · rename_i k'' n hp
    rw[hp]at hx;have he:=hx.inv_i;simp only[Option.some.injEq,Prod.mk.injEq]at ha;obtain⟨rfl,rfl⟩:=ha;refine Ok.pure hi (x:=.int k (k.wrap n)) ?_ (.i _ _);simp[Go.execOp,ho,Go.convert,Go.run_underlying h1,Go.run_underlying h2,he,Go.Conv.intToInt]
  · cases ha

theorem ZtK(hi:Inv K w0 ρ h w)(hf:FrRel K ρ fr a){o:Go.Oper}{t:TypeId}{op:UnOp}{x:Go.Operand}{x':Opd}(ho:o.op=.unOp op t x)(h3:nX K x=some x')
    (ha:act h.m nr fr.ev (.un op x')=some (v,up)):Ok P K w0 ρ h a o w v up:=by
  simp only[act]at ha;have hx:=zX hf h3;split at ha
  · rename_i u hu
    simp only[Option.some.injEq,Prod.mk.injEq]at ha;obtain⟨rfl,rfl⟩:=ha;generalize hp:fr.ev x'=p at*;unfold unary at hu;split at hu
    · have he:=hx.inv_i
      simp only[Option.some.injEq]at hu;subst hu;refine Ok.pure hi (x:=.int _ _) ?_ (.i _ _);simp[Go.execOp,ho,Go.Op.unary,he,Go.Op.intArith]
    · have he:=hx.inv_b
      simp only[Option.some.injEq]at hu;subst hu;refine Ok.pure hi (x:=.bool _) ?_ (.b _);simp[Go.execOp,ho,Go.Op.unary,he]
    · have he:=hx.inv_i
      simp only[ZdW,Option.some.injEq]at hu;subst hu;refine Ok.pure hi (x:=.int _ _) ?_ (.i _ _);simp[Go.execOp,ho,Go.Op.unary,he,Go.Op.intBits]
    · cases hu
  · cases ha

theorem Zgk{op:BinOp}(ho:op≠.eql/\op≠.neq)(t:TypeId)(x y:Go.Operand)(p q:Value):(Go.eqGuard op t x y p q).run P w=.ok () w:=by
  cases op<;>first|rfl|exact absurd rfl ho.1|exact absurd rfl ho.2

theorem Zqr (hi:Inv K w0 ρ h w)(hf:FrRel K ρ fr a){o:Go.Oper}{t t':TypeId}{op:BinOp}{x y:Go.Operand}{x' y':Opd}(ho:o.op=.binOp op t x y t')(hne:op≠.eql/\op≠.neq)(h1:nX K x=some x')(h2:nX K y=some y')
    (ha:act h.m nr fr.ev (.bin op x' y')=some (v,up)):Ok P K w0 ρ h a o w v up:=by
  simp only[act]at ha;have hx:=zX hf h1;have hy:=zX hf h2;split at ha
  · rename_i u hu
    simp only[Option.some.injEq,Prod.mk.injEq]at ha;obtain⟨rfl,rfl⟩:=ha;generalize hp:fr.ev x'=p at*;generalize hq:fr.ev y'=q at*;have hg:=Zgk (P:=P) (w:=w) hne t x y (a.eval x) (a.eval y)
    suffices∃z,(Go.binOp op t (a.eval x) (a.eval y)).run P w=.ok z w/\Rel K ρ u z by
      obtain⟨z,hz,hrz⟩:=this;refine Ok.pure hi (x:=z) ?_ hrz;simp only[Go.execOp,ho];simp[hg,hz]
    unfold bin at hu;split at hu
    · rename_i k m k' n
      rw[hx.inv_i,hy.inv_i];split at hu
      · rename_i hs
        unfold shift at hu;split at hu
        · cases hu
        · rename_i hn
          rcases hs with rfl|rfl<;>simp only[Option.some.injEq]at hu<;>subst hu
          · exact⟨_,by simp[Go.binOp,Go.Op.shift,hn],.i _ _⟩
          · exact⟨_,by simp[Go.binOp,Go.Op.shift,hn],.i _ _⟩
      · rename_i hs
        split at hu
        · rename_i hk
          subst hk;cases op<;>simp only[ZdW,Option.some.injEq,reduceCtorEq]at hu<;>simp at hs hne <;>
            (first
              |(subst hu;exact⟨_,by simp[Go.binOp,Go.Op.intArith,Go.Op.intBits,Go.Op.intCmp];rfl,by constructor⟩)
              |(subst hu;exact⟨.int k _,by simp only[Go.binOp,ne_eq,not_true_eq_false,if_false,Go.Op.intBits];rfl,by constructor⟩)
              | (split at hu
                 · cases hu
                 · rename_i hz
                   simp only[Option.some.injEq]at hu;subst hu;exact⟨_,by simp[Go.binOp,Go.Op.intDiv,hz];rfl,by constructor⟩))
        · cases hu
    · rename_i s1 s2
      rw[hx.inv_s,hy.inv_s];split at hu
      · rename_i hc
        obtain⟨rfl,hc⟩:=hc;simp only[Option.some.injEq]at hu;subst hu;refine⟨.string (s1++s2),?_,.s _⟩;have hm:(IntKind.max .i64)=9223372036854775807:=by decide
        simp only[Go.binOp,Go.Op.stringOp,hm];rw[if_neg (by omega)];rfl
      · cases hu
    · cases hu
  · cases ha

theorem Zqx(hi:Inv K w0 ρ h w)(hf:FrRel K ρ fr a){o:Go.Oper}{f id:Nat}{first caps:Array Go.Operand}{xs:List Opd}(ho:o.op=.makeFunc (.func f) first caps)(h0:first.toList.isEmpty=true)(h1:kf K f=some id)(h2:nXs K caps.toList=some xs)
    (ha:act h.m nr fr.ev (.clo id xs)=some (v,up)):Ok P K w0 ρ h a o w v up:=by
  simp only[act,Option.some.injEq,Prod.mk.injEq]at ha;obtain⟨rfl,rfl⟩:=ha;have e1:first=#[]:=by cases first;simpa using h0
  subst e1;refine Ok.pure hi (x:=.func (.func f) #[] (caps.map a.eval)) ?_ (.f (Zeq h1).1 (Zeq h1).2 ?_)
  · simp[Go.execOp,ho,Go.Instr.makeFunc]
  · have:=Zhe hf h2
    simpa using this

theorem Zos(hi:Inv K w0 ρ h w)(hf:FrRel K ρ fr a){o:Go.Oper}{f id:Nat}{first caps:Array Go.Operand}{xs:List Opd}(ho:o.op=.makeFunc (.func f) first caps)(h0:caps.toList.isEmpty=true)(h1:kf K f=some id)(h2:nXs K first.toList=some xs)
    (ha:act h.m nr fr.ev (.clo (id+1000000) xs)=some (v,up)):Ok P K w0 ρ h a o w v up:=by
  simp only[act,Option.some.injEq,Prod.mk.injEq]at ha;obtain⟨rfl,rfl⟩:=ha;have e1:caps=#[]:=by cases caps;simpa using h0
  subst e1;refine Ok.pure hi (x:=.func (.func f) (first.map a.eval) #[]) ?_ (.fb (Zeq h1).1 (Zeq h1).2 ?_)
  · simp[Go.execOp,ho,Go.Instr.makeFunc]
  · have:=Zhe hf h2
    simpa using this

/-! Parts laid over a zero value. -/
theorem Zim{xs:List Value}:∀(vs:List Value)(k o:Nat)(cs:Array Value),o+k+vs.length<=cs.size->
    ((vs.zipIdx k).foldl (λcs(c,j)=>cs.setIfInBounds (o+j) c) cs).toList=cs.toList.take (o+k)++vs++cs.toList.drop (o+k+vs.length)
  |[],k,o,cs,h=>by simp
  | v::vs,k,o,cs,h=>by
    simp only[List.zipIdx_cons,List.foldl_cons,List.length_cons]at h⊢;rw[Zim (xs:=xs) vs (k+1) o _ (by simp;omega)];simp only[Array.toList_setIfInBounds];have hlt:o+k<cs.toList.length:=by simp;omega
    rw[show o+(k+1)=o+k+1 by omega];rw[List.take_succ_eq_append_getElem (by simpa using hlt),List.take_set_of_le (by omega),List.drop_set_of_lt (by omega)];simp[Nat.add_assoc,Nat.add_comm 1]

theorem ZkU(cs:Array Value)(o:Nat)(xs:Array Value):(xs.zipIdx.foldl (λcs(c,j)=>cs.setIfInBounds (o+j) c) cs)=(xs.toList.zipIdx.foldl (λcs(c,j)=>cs.setIfInBounds (o+j) c) cs):=by
  rw[<-Array.foldl_toList,Array.toList_zipIdx]

/-- Parts as the model has them,and as the evaluator has. -/
inductive Parts(K:Fid)(ρ:Rho)(Zed:Nat->Option (Nat×Nat)):List (Nat×Value)->List (Nat×Nat×V)->Prop
  |nil:Parts K ρ Zed [] []
  |cons {i o sz:Nat}{x:Value}{u:V}{ps:List (Nat×Value)}{qs:List (Nat×Nat×V)}(h:Zed i=some (o,sz)) (hr:Rel K ρ u x) (t:Parts K ρ Zed ps qs):Parts K ρ Zed ((i,x)::ps) ((o,sz,u)::qs)

theorem ZfZ{Zed:Nat->Option (Nat×Nat)}:∀{ps:List (Nat×Value)}{qs:List (Nat×Nat×V)}{zs:List V}{cs:Array Value}{ds:List V},RelL K ρ zs cs.toList->
    Parts K ρ Zed ps qs->fill zs qs=some ds->∃es,Go.Instr.fill Zed cs ps=some es/\RelL K ρ ds es.toList
  | [],[],zs,cs,ds,hr,_,hfl=>by
    simp only[fill,Option.some.injEq]at hfl;subst hfl;exact⟨cs,rfl,hr⟩
  | (i,x)::ps,(o,sz,u)::qs,zs,cs,ds,hr,hpq,hfl=>by
    cases hpq with
    | cons e1 e2 h2=>
      simp only[fill]at hfl;split at hfl
      · rename_i hc
        have hlen:=e2.cells.length;have hl:=hr.length;have hl2:x.cells.toList.length=x.cells.size:=by simp
        have hl3:cs.toList.length=cs.size:=by simp
        have c1:x.cells.size=sz:=by omega
        have c2:¬(x.cells.size≠sz\/o+x.cells.size > cs.size):=by omega
        have hdec:(decide (x.cells.size≠sz)||decide (o+x.cells.size > cs.size))=false:=by
          simp only[Bool.or_eq_false_iff,decide_eq_false_iff_not];omega
        simp only[Go.Instr.fill,e1];rw[if_neg (by rw[hdec];simp)];refine ZfZ ?_ h2 hfl;rw[ZkU,Zim (xs:=[]) _ 0 o cs (by simp;omega)];simpa using hr.over o e2.cells
      · cases hfl

theorem Zgi(hf:FrRel K ρ fr a){t:TypeId}{fs:Array Go.Field}{places:Array (Nat×Nat)}(hu:P.underlying t=some (.struct fs))
    (hpl:∀(k:Nat)(f:Go.Field)(i:Go.TypeInfo),fs[k]?=some f->P.info? f.type=some i->places[k]?=some (f.offset,i.size)) :
    ∀{ps:List (Nat×Go.Operand)}{l:List (Nat×Nat×Opd)},ZeP P K t ps=some l->Parts K ρ (places[·]?) (ps.map λ(i,x)=>(i,a.eval x)) (evs fr.ev l)
  | [],l,hp=>by
    simp only[ZeP,hu,List.foldr_nil,Option.some.injEq]at hp;subst hp;exact .nil
  | (k,x)::ps,l,hp=>by
    simp only[ZeP,hu,List.foldr_cons]at hp;split at hp
    · rename_i l' f x' h1 h2 h3
      split at hp
      · rename_i i hi
        simp only[Option.some.injEq]at hp;subst hp;refine .cons (hpl k f i h2 hi) (zX hf h3) (Zgi hf hu hpl ?_);simp only[ZeP,hu];exact h1
      · cases hp
    · cases hp

theorem Zji(hf:FrRel K ρ fr a){sz:Nat}:∀{ps:List (Nat×Go.Operand)}{l:List (Nat×Nat×Opd)},ZeQ P K sz ps=some l->Parts K ρ (λi=>some (i*sz,sz)) (ps.map λ(i,x)=>(i,a.eval x)) (evs fr.ev l)
  | [],l,hp=>by
    simp only[ZeQ,List.foldr_nil,Option.some.injEq]at hp;subst hp;exact .nil
  | (k,x)::ps,l,hp=>by
    simp only[ZeQ,List.foldr_cons]at hp;split at hp
    · rename_i l' x' h1 h3
      simp only[Option.some.injEq]at hp;subst hp;exact .cons rfl (zX hf h3) (Zji hf h1)
    · cases hp

theorem ZhI:∀(fs:List Go.Field)(is:List Go.TypeInfo),fs.length=is.length->(∀(k:Nat)(f:Go.Field)(i:Go.TypeInfo),fs[k]?=some f->is[k]?=some i->P.info? f.type=some i)->
    (fs.mapM (m:=Sem) λf=>do pure (f.offset,<-Go.sizeOf f.type)).run P w=.ok ((fs.zip is).map λ(f,i)=>(f.offset,i.size)) w
  |[],[],_,_=>rfl
  | f::fs,i::is,hl,hh=>by
    have h0:=hh 0 f i rfl rfl;have ih:=ZhI fs is (by simpa using hl) λk f i h1 h2=>hh (k+1) f i (by simpa using h1) (by simpa using h2);simp only[List.mapM_cons,Sem.run_bind,ZaQ h0,Result.andThen_ok,Sem.run_pure,ih];rfl

theorem ZmY(fs:List Go.Field)(h:∀f∈fs,(P.info? f.type).isSome=true):∃is:List Go.TypeInfo,fs.length=is.length/\∀(k:Nat)(f:Go.Field)(i:Go.TypeInfo),fs[k]?=some f->is[k]?=some i->P.info? f.type=some i:=by
  induction fs with
  |nil=>exact⟨[],rfl,by simp⟩
  | cons f fs ih=>
    obtain⟨is,h1,h2⟩:=ih λg hg=>h g (by simp[hg]);obtain⟨i,hi⟩:=Option.isSome_iff_exists.1 (h f (by simp));refine⟨i::is,by simp[h1],λk g j hg hj=>?_⟩
    cases k with
    |zero=>simp at hg hj;subst hg hj;exact hi
    |succ k=>exact h2 k g j (by simpa using hg) (by simpa using hj)

theorem ZgP(hi:Inv K w0 ρ h w)(hf:FrRel K ρ fr a){o:Go.Oper}{t:TypeId}{ps:Array (Nat×Go.Operand)}{z:List V}{l:List (Nat×Nat×Opd)}{fs:Array Go.Field}(ho:o.op=.build t ps)(hu:P.underlying t=some (.struct fs))
    (hfi:∀f∈fs.toList,(P.info? f.type).isSome=true)(h1:Zec P K t=some z)(h2:ZeP P K t ps.toList=some l)
    (ha:act h.m nr fr.ev (.build z l)=some (v,up)):Ok P K w0 ρ h a o w v up:=by
  obtain⟨i,zv,g1,g2,g3⟩:=Zd2 (ρ:=ρ) h1;simp only[act]at ha;split at ha
  · rename_i ds hds
    simp only[Option.some.injEq,Prod.mk.injEq]at ha;obtain⟨rfl,rfl⟩:=ha;obtain⟨is,k1,k2⟩:=ZmY (P:=P) fs.toList hfi;have hrp:=ZhI (P:=P) (w:=w) fs.toList is k1 k2;have hpl:∀(k:Nat)(f:Go.Field)(i:Go.TypeInfo),fs[k]?=some f->P.info? f.type=some i->(((fs.toList.zip is).map λ(f,i)=>(f.offset,i.size)).toArray)[k]?=some (f.offset,i.size):=by
      intro k f i hf' hi';have hk:fs.toList[k]?=some f:=by rw[Array.getElem?_toList];exact hf'
      have hlt:k<is.length:=by rw[<-k1];exact(List.getElem?_eq_some_iff.1 hk).1
      have hik:is[k]?=some is[k]:=by simp[hlt]
      have:=k2 k f _ hk hik;rw[hi']at this;cases this;have hz:(fs.toList.zip is)[k]?=some (f,is[k]):=List.getElem?_zip_eq_some.2 ⟨hk,hik⟩;simp only[List.getElem?_toArray,List.getElem?_map,hz,Option.map_some]
    obtain⟨es,e1,e2⟩:=ZfZ g3 (Zgi hf hu hpl h2) hds;refine Ok.pure hi (x:=.agg es) ?_ (.ag e2);have hm:(fs.mapM (m:=Sem) λf=>do pure (f.offset,<-Go.sizeOf f.type)).run P w=.ok ((fs.toList.zip is).map λ(f,i)=>(f.offset,i.size)).toArray w:=by
      rw[Array.mapM_eq_mapM_toList];simp only[Sem.run_map,hrp,Result.andThen_ok]
    simp only[Go.execOp,ho,Go.Instr.build];simp only[Sem.run_bind,Zef g1 g2,Result.andThen_ok,Go.run_underlying hu,hm];have e1':Go.Instr.fill (λx=>(((fs.toList.zip is).map λ(f,i)=>(f.offset,i.size)).toArray)[x]?) zv.cells ((ps.map λ(i,x)=>(i,a.eval x)).toList)=some es:=by
      rw[Array.toList_map];exact e1
    simp only[e1'];rfl
  · cases ha

theorem Zho(hi:Inv K w0 ρ h w)(hf:FrRel K ρ fr a){o:Go.Oper}{t e:TypeId}{n:Nat}{ps:Array (Nat×Go.Operand)}{z:List V}{l:List (Nat×Nat×Opd)}{i:Go.TypeInfo}(ho:o.op=.build t ps)(hu:P.underlying t=some (.array n e))
    (hie:P.info? e=some i)(h1:Zec P K t=some z)(h2:ZeP P K t ps.toList=some l)
    (ha:act h.m nr fr.ev (.build z l)=some (v,up)):Ok P K w0 ρ h a o w v up:=by
  obtain⟨i',zv,g1,g2,g3⟩:=Zd2 (ρ:=ρ) h1;simp only[act]at ha;split at ha
  · rename_i ds hds
    simp only[Option.some.injEq,Prod.mk.injEq]at ha;obtain⟨rfl,rfl⟩:=ha;have h2':ZeQ P K i.size ps.toList=some l:=by simpa[ZeP,hu,hie,ZeQ]using h2
    obtain⟨es,e1,e2⟩:=ZfZ g3 (Zji hf h2') hds;refine Ok.pure hi (x:=.agg es) ?_ (.ag e2);simp only[Go.execOp,ho,Go.Instr.build];simp only[Sem.run_bind,Zef g1 g2,Result.andThen_ok,Go.run_underlying hu,ZaQ hie];have e1':Go.Instr.fill (λj=>some (j*i.size,i.size)) zv.cells ((ps.map λ(i,x)=>(i,a.eval x)).toList)=some es:=by
      rw[Array.toList_map];exact e1
    simp only[e1'];rfl
  · cases ha

theorem Zfy{α:Type}[Inhabited α](z:Array α)(hz:0<z.size):∀n,((Array.range (n*z.size)).map λi=>z[i%z.size]!).toList=(List.replicate n z.toList).flatten:=by
  intro n;apply List.ext_getElem?;intro j;have hlen:∀m,((List.replicate m z.toList).flatten).length=m*z.size:=by intro m;simp
  by_cases hj:j<n*z.size
  · have h1:((Array.range (n*z.size)).map λi=>z[i%z.size]!).toList[j]?=some z[j%z.size]!:=by
      simp[hj]
    rw[h1];clear h1
    induction n generalizing j with
    |zero=>simp at hj
    | succ n ih=>
      simp only[List.replicate_succ,List.flatten_cons];by_cases hc:j<z.size
      · rw[List.getElem?_append_left (by simpa using hc),Nat.mod_eq_of_lt hc]
        simp[hc]
      · rw[List.getElem?_append_right (by simpa using hc)]
        have:=ih (j-z.size) (by rw[Nat.succ_mul]at hj;omega);rw[Array.length_toList,<-this];congr 2;rw[Nat.mod_eq_sub_mod (by omega)]
  · rw[List.getElem?_eq_none (by simp;omega),List.getElem?_eq_none (by rw[hlen];omega)]

theorem Zqt (hi:Inv K w0 ρ h w)(hf:FrRel K ρ fr a)(hn:h.m nr=none){o:Go.Oper}{t e:TypeId}{len:Nat}{ps:Array (Nat×Go.Operand)}{z:List V}{l:List (Nat×Nat×Opd)}{i:Go.TypeInfo}(ho:o.op=.buildSlice t len ps)(hu:P.underlying t=some (.slice e))
    (hie:P.info? e=some i)(h1:Zec P K e=some z)(hb:len*i.size<=16777216)(hs:0<i.size)(hzl:z.length=i.size)(h2:ZeQ P K i.size ps.toList=some l)
    (ha:act h.m nr fr.ev (.bsl i.size len z l)=some (v,up)):Ok P K w0 ρ h a o w v up:=by
  obtain⟨i',zv,g1,g2,g3⟩:=Zd2 (ρ:=ρ) h1;rw[hie]at g1;cases g1;simp only[act]at ha;split at ha
  · rename_i ds hds
    simp only[Option.some.injEq,Prod.mk.injEq]at ha;obtain⟨rfl,rfl⟩:=ha;have hzs:zv.cells.size=i.size:=by have:=g3.length;simp at this;omega
    have hbase:RelL K ρ (List.replicate len z).flatten ((Array.range (len*i.size)).map λj=>zv.cells[j%zv.cells.size]!).toList:=by
      rw[<-hzs,Zfy _ (by omega)];exact g3.replicate len
    obtain ⟨es,e1,e2⟩:=ZfZ hbase (Zji hf h2) hds;have hes:es.size=len*i.size:=by
      have q1:=e2.length;have q2:ds.length=len*i.size:=by
        have:∀(cs:List V)(qs:List (Nat×Nat×V))(ds:List V),fill cs qs=some ds->ds.length=cs.length:=by
          intro cs qs
          induction qs generalizing cs with
          |nil=>intro ds hd;simp only[fill,Option.some.injEq]at hd;subst hd;rfl
          | cons q qs ih=>
            intro ds hd;obtain⟨o,sz,u⟩:=q;simp only[fill]at hd;split at hd
            · rename_i hc
              rw[ih _ _ hd];simp only[over,List.length_append,List.length_take,List.length_drop];omega
            · cases hd
        rw[this _ _ _ hds];simp[hzl]
      simp at q1;omega
    refine Zje hi hn e2 (e:=e) (x:=.slice (some ⟨w.heap.size,0,none⟩) len len) ?_ ?_
    · simp only[Go.execOp,ho,Go.Instr.buildSlice]
      have hno:¬(len*i.size > 16777216):=by omega
      rw[<-Array.toList_map]at e1;by_cases h0:len*i.size=0
      · have e1':Go.Instr.fill (λj=>some (j*i.size,i.size)) ((Array.range (len*i.size)).map λj=>(#[]:Array Value)[j%(#[]:Array Value).size]!) ((ps.map λ(i,x)=>(i,a.eval x)).toList)=some es:=by
          have hr0:∀f:Nat->Value,(Array.range 0).map f=#[]:=λf=>by simp
          rw[<-e1,h0,hr0,hr0]
        simp only[Sem.run_bind,Go.run_underlying hu,Result.andThen_ok,ZaQ hie,show(2:Nat)^24=16777216 by decide,if_neg hno,if_pos h0,Sem.run_pure,e1',Go.newRow,Go.run_newObj];rfl
      · simp only[Sem.run_bind,Go.run_underlying hu,Result.andThen_ok,ZaQ hie,show(2:Nat)^24=16777216 by decide,if_neg hno,if_neg h0,Zef hie g2,Sem.run_pure,e1,Go.newRow,Go.run_newObj]
        rfl
    · refine .sl Zeg (Nat.le_refl _) (Nat.le_refl _) (λ_=>rfl) hs (.inr ⟨by simp,by simp[hes]⟩)
  · cases ha

theorem ZhZ{t e:TypeId}{i:Go.TypeInfo}{zv:Value}(hu:P.underlying t=some (.slice e))(hie:P.info? e=some i)(g2:i.zero=some zv)(hzs:zv.cells.size=i.size)(hs:0<i.size)(hby:0<i.bytes){k k':IntKind}{l c:Int}(h0:0<=l)(hlc:l<=c)
    (hb:(i.bytes:Int)*c<=140737488355328) :
    (Go.Instr.makeSlice t (.int k l) (.int k' c)).run P w=.ok (.slice (some ⟨w.heap.size,0,none⟩) l.toNat c.toNat) (w.alloc (.cells (List.replicate c.toNat zv.cells.toList).flatten.toArray e)):=by
  have hc:c<=140737488355328:=by
    have:c*1<=c*(i.bytes:Int):=Int.mul_le_mul_of_nonneg_left (by omega) (by omega);rw[Int.mul_comm]at hb;omega
  have w1:IntKind.i64.wrap l=l:=by simp[IntKind.wrap,IntKind.bits,IntKind.signed];omega
  have w2:IntKind.i64.wrap c=c:=by simp[IntKind.wrap,IntKind.bits,IntKind.signed];omega
  have d1:¬(c<0):=by omega
  have d2:¬(l<0):=by omega
  have d3:¬(c<l):=by omega
  have d4:¬((281474976710656:Int)<(i.bytes:Int)*c):=by omega
  have hcells:((Array.range (c.toNat*i.size)).map λj=>(if c.toNat*i.size=0 then #[]else zv.cells)[j%(if c.toNat*i.size=0 then #[]else zv.cells).size]!)=(List.replicate c.toNat zv.cells.toList).flatten.toArray:=by
    apply Array.ext';rw[List.toList_toArray];split
    · rename_i hz
      have:c.toNat=0:=by rcases Nat.mul_eq_zero.1 hz with q|q<;>omega
      simp[this]
    · rw[<-hzs];exact Zfy _ (by omega) _
  simp only[Go.Instr.makeSlice,Sem.run_bind,Go.run_underlying hu,Result.andThen_ok,Go.asInt,Go.asIntOf,Sem.run_pure,Zn8 hie,w1,w2];have e1:(decide (c<0)||decide ((i.bytes:Int)*c > 2^48)||decide (l<0)||decide (l > c))=false:=by
    simp only[Bool.or_eq_false_iff,decide_eq_false_iff_not];refine⟨⟨⟨d1,?_⟩,d2⟩,by omega⟩;have:(2:Int)^48=281474976710656:=by decide
    omega
  rw[if_neg (by rw[e1];simp)];by_cases h0:c.toNat*i.size=0
  · rw[if_pos h0]at hcells
    simp only[Sem.run_bind,Sem.run_pure,Result.andThen_ok,Go.run_askRoom,ZaQ hie,if_pos h0,hcells,Go.newRow,Go.run_newObj];rfl
  · rw[if_neg h0]at hcells
    simp only[Sem.run_bind,Sem.run_pure,Result.andThen_ok,Go.run_askRoom,ZaQ hie,if_neg h0,Zef hie g2,hcells,Go.newRow,Go.run_newObj];rfl

theorem ZqY(hi:Inv K w0 ρ h w)(hf:FrRel K ρ fr a)(hn:h.m nr=none){o:Go.Oper}{t e:TypeId}{x y:Go.Operand}{x' y':Opd}{z:List V}{i:Go.TypeInfo}(ho:o.op=.makeSlice t x y)(hu:P.underlying t=some (.slice e))
    (hx:nX K x=some x')(hy:nX K y=some y')(hie:P.info? e=some i)(h1:Zec P K e=some z)(hs:0<i.size)(hzl:z.length=i.size)(hby:0<i.bytes)
    (ha:act h.m nr fr.ev (.mks i.size i.bytes z x' y')=some (v,up)):Ok P K w0 ρ h a o w v up:=by
  obtain⟨i',zv,g1,g2,g3⟩:=Zd2 (ρ:=ρ) h1;rw[hie]at g1;cases g1;have rx:=zX hf hx;have ry:=zX hf hy;have hzs:zv.cells.size=i.size:=by have:=g3.length;simp at this;omega
  simp only[act]at ha;split at ha
  · rename_i k l k' c hl hc
    rw[hl]at rx;rw[hc]at ry;split at ha
    · rename_i hq
      obtain⟨q1,q2,q3⟩:=hq;simp only[Option.some.injEq,Prod.mk.injEq]at ha;obtain⟨rfl,rfl⟩:=ha;have hm:=ZhZ (P:=P) (w:=w) hu hie g2 hzs hs hby (k:=k) (k':=k') q1 q2 q3;refine Zje hi hn (c:=(List.replicate c.toNat zv.cells.toList).flatten.toArray) (by simpa using g3.replicate c.toNat) (e:=e) (x:=.slice (some ⟨w.heap.size,0,none⟩) l.toNat c.toNat) ?_ ?_
      · simp only[Go.execOp,ho,rx.inv_i,ry.inv_i]
        simp only[Sem.run_bind,hm,Result.andThen_ok];rfl
      · refine .sl Zeg (by omega) (Nat.le_refl _) (λ_=>rfl) hs (.inr ⟨by simp,?_⟩)
        simp[hzs]
    · cases ha
  · cases ha

end ops
end Mu
