/- The evaluator and the model: slices, comparisons, the built-in functions. -/
import Derived.Test.YtjhlegefgllihaaGreatMuE4
namespace Mu
open Go (IntKind BinOp UnOp Value World Addr TypeId Program Sem Result Next)
open Go.RowKit (Below)
set_option linter.unusedVariables false

section ops
variable {P:Program}{K:Fid}{ρ:Rho}{w0 w:World}{h:Hp}{fr:Fr}{a:Go.Act}{nr:Nat}{v:V}{up:List (Nat×Obj)}

theorem Zcy(hf:FrRel K ρ fr a){x:Option Go.Operand}{x':Option Opd}(hx:nXo K x=some x'){d n m:Nat}(hb:ZcM fr.ev x' d n=some m) :
  (x=none/\x'=none/\m=d)\/(∃y k i,x=some y/\x'.isSome=true/\a.eval y=.int k i/\0<=i/\i<=(n:Int)/\i.toNat=m):=by
 cases x with
 |none=>
  simp only[nXo,Option.some.injEq]at hx;subst hx;simp only[ZcM,Option.some.injEq]at hb;exact .inl ⟨rfl,rfl,hb.symm⟩
 | some y=>
  simp only[nXo]at hx
  cases hy:nX K y with
  |none=>simp[hy]at hx
  | some y'=>
   simp only[hy,Option.map_some,Option.some.injEq]at hx;subst hx;have hr:=zX hf hy;simp only[ZcM]at hb;split at hb
   .rename_i k i hi;split at hb
    .rename_i hc;simp only[Option.some.injEq]at hb;rw[hi]at hr;exact .inr ⟨y,k,i,rfl,rfl,hr.inv_i,hc.1,hc.2,hb⟩
    .cases hb
   .cases hb

theorem ZcJ{k:IntKind}{i:Int}{n N:Nat}{code:Go.BoundsCode}(h0:0<=i)(h1:i<=(n:Int))(hN:n<=N):(Go.Instr.sliceBound (.int k i) N code).run P w=.ok i.toNat w:=by
 have:0<=i/\i<=(N:Int):=⟨h0,by omega⟩;simp[Go.Instr.sliceBound,Go.asIntOf,this]

theorem ZfH(hf:FrRel K ρ fr a){lo hi mx:Option Go.Operand}{lo' hi' mx':Option Opd}(e1:nXo K lo=some lo')(e2:nXo K hi=some hi')(e3:nXo K mx=some mx'){isS:Bool}{n c C m p l:Nat}(hC:c<=C)(hn:n<=c)
  (hm:ZcM fr.ev mx' c c=some m)(hp:ZcM fr.ev hi' n m=some p)(hl:ZcM fr.ev lo' 0 p=some l)(hmn:mx.isSome=true->hi.isSome=true) :
  ∃M,(Go.Instr.sliceBounds isS n C (lo.map a.eval) (hi.map a.eval) (mx.map a.eval)).run P w=.ok (l,p,M) w/\(if mx'.isSome then M=m else M=C)/\m<=M/\p<=m/\l<=p:=by
 have hmx:=Zcy hf e3 hm;have hhi:=Zcy hf e2 hp;have hlo:=Zcy hf e1 hl;rcases hmx with⟨rfl,rfl,rfl⟩|⟨y,k,i,rfl,hs,hy,i0,i1,rfl⟩
 .have hpm:p<=m:=by rcases hhi with⟨_,_,rfl⟩|⟨_,_,_,_,_,_,_,_,rfl⟩<;>omega
  have hlp:l<=p:=by rcases hlo with⟨_,_,rfl⟩|⟨_,_,_,_,_,_,_,_,rfl⟩<;>omega
  refine⟨C,?_,by simp,hC,hpm,hlp⟩;unfold Go.Instr.sliceBounds;rcases hhi with⟨rfl,rfl,rfl⟩|⟨y,k,i,rfl,hs,hy,i0,i1,rfl⟩
  .rcases hlo with⟨rfl,rfl,rfl⟩|⟨y',k',i',rfl,hs',hy',j0,j1,rfl⟩
   .rfl
   .simp only[Option.map_some,Option.map_none,Sem.run_bind,Sem.run_pure,Result.andThen_ok,hy',ZcJ j0 j1 (Nat.le_refl _)]
  .rcases hlo with⟨rfl,rfl,rfl⟩|⟨y',k',i',rfl,hs',hy',j0,j1,rfl⟩
   .simp only[Option.map_some,Option.map_none,Sem.run_bind,Sem.run_pure,Result.andThen_ok,hy,ZcJ i0 i1 hC]
   .simp only[Option.map_some,Option.map_none,Sem.run_bind,Sem.run_pure,Result.andThen_ok,hy,hy',ZcJ i0 i1 hC,ZcJ j0 j1 (Nat.le_refl _)]
 .obtain⟨z,rfl⟩:=Option.isSome_iff_exists.1 (hmn rfl);rcases hhi with⟨h1,_⟩|⟨y2,k2,i2,hz,hs2,hy2,j0,j1,rfl⟩
  .cases h1
  cases hz;have hlp:l<=i2.toNat:=by rcases hlo with⟨_,_,rfl⟩|⟨_,_,_,_,_,_,_,_,rfl⟩<;>omega
  refine⟨i.toNat,?_,by simp[hs],Nat.le_refl _,by omega,hlp⟩;unfold Go.Instr.sliceBounds;rcases hlo with⟨rfl,rfl,rfl⟩|⟨y',k',i',rfl,hs',hy',l0,l1,rfl⟩
  .simp only[Option.map_some,Option.map_none,Sem.run_bind,Sem.run_pure,Result.andThen_ok,hy,hy2,ZcJ i0 i1 hC,ZcJ j0 j1 (Nat.le_refl _)]
  .simp only[Option.map_some,Sem.run_bind,Sem.run_pure,Result.andThen_ok,hy,hy2,hy',ZcJ i0 i1 hC,ZcJ j0 j1 (Nat.le_refl _),ZcJ l0 l1 (Nat.le_refl _)]

theorem Zr1 (hi:Inv K w0 ρ h w)(hf:FrRel K ρ fr a){o:Go.Oper}{t e:TypeId}{x:Go.Operand}{lo up' mx:Option Go.Operand}{x':Opd}{lo' up'' mx':Option Opd}{i:Go.TypeInfo}(ho:o.op=.slice t x lo up' mx)(hu:P.underlying t=some (.slice e))
  (h1:nX K x=some x')(e1:nXo K lo=some lo')(e2:nXo K up'=some up'')(e3:nXo K mx=some mx')(hie:P.info? e=some i)(hmn:mx.isSome=true->up'.isSome=true)
  (ha:act h.m nr fr.ev (.slc i.size x' lo' up'' mx')=some (v,up)):Ok P K w0 ρ h a o w v up:=by
 have hx:=zX hf h1;simp only[act]at ha;split at ha
 .rename_i hp;rw[hp]at hx;split at ha
  .rename_i m hm;split at ha
   .rename_i p hp';split at ha
    .rename_i l hl;simp only[Option.some.injEq,Prod.mk.injEq]at ha;obtain⟨rfl,rfl⟩:=ha;obtain⟨M,r1,r2,r3,r4,r5⟩:=ZfH (P:=P) (w:=w) (isS:=true) hf e1 e2 e3 (Nat.le_refl 0) (Nat.le_refl 0) hm hp' hl hmn;have hM:M=0:=by
      rcases Zcy hf e3 hm with⟨_,rfl,rfl⟩|⟨_,_,_,_,hs,_,_,_,_⟩
      .simpa using r2
      .simp[hs]at r2;omega
     subst hM;have hl0:l=0:=by omega
     have hp0:p=0:=by omega
     subst hl0 hp0;refine Ok.pure hi (x:=.slice none 0 0) ?_ .sn;simp only[Go.execOp,ho,Go.Instr.sliceAt,hx.inv_sn];simp only[Sem.run_bind,Go.run_underlying hu,Result.andThen_ok,Go.Instr.slice,r1,ZaQ hie];rfl
    .cases ha
   .cases ha
  .cases ha
 .rename_i es r q n c ex hp;rw[hp]at hx;split at ha
  .rename_i hes;subst hes;split at ha
   .rename_i m hm;split at ha
    .rename_i p hp';split at ha
     .rename_i l hl;simp only[Option.some.injEq,Prod.mk.injEq]at ha;obtain⟨rfl,rfl⟩:=ha;generalize he:a.eval x=z at hx
      cases hx with
      | sl hL hln hc hxx hs hA=>
       rename_i C L A;obtain⟨M,r1,r2,r3,r4,r5⟩:=ZfH (P:=P) (w:=w) (isS:=true) hf e1 e2 e3 hc hln hm hp' hl hmn;have hrun:(Go.execOp a.eval o).run P w=.ok (.value (.slice (some (if M=l then A else A.add (l*i.size))) (p-l) (M-l))) w:=by
        simp only[Go.execOp,ho,Go.Instr.sliceAt,he];simp only[Sem.run_bind,Go.run_underlying hu,Result.andThen_ok,Go.Instr.slice,r1,ZaQ hie,Sem.run_pure];congr 3;split<;>rfl
       have hMC:M<=C:=by
        cases hmx:mx'.isSome with
        |true=>
         simp only[hmx,if_true]at r2;rcases Zcy hf e3 hm with⟨_,rfl,rfl⟩|⟨_,_,_,_,_,_,_,q2,rfl⟩
         .omega
         .omega
        |false=>simp only[hmx]at r2;simp at r2;omega
       refine Ok.pure hi hrun (.sl hL (by omega) (by omega) ?_ hs ?_)
       .intro hex;simp only[Bool.or_eq_true]at hex;rcases hex with hex|hex
        .have:=hxx hex
         cases hmx:mx'.isSome with
         |true=>simp only[hmx,if_true]at r2;omega
         |false=>
          simp only[hmx]at r2;simp at r2;rcases Zcy hf e3 hm with⟨_,rfl,rfl⟩|⟨_,_,_,_,hs',_,_,_,_⟩
          .omega
          .rw[hs']at hmx;cases hmx
        .simp only[hex,if_true]at r2;omega
       .by_cases hMl:M=l
        .exact .inl (by omega)
        .refine .inr ?_;rcases hA with hA|⟨hA,hA2⟩
         .omega
         .have hml:¬(m=l/\(ex=true\/mx'.isSome=true)):=by
           rintro⟨g1,g2⟩;rcases g2 with g2|g2
           .have:=hxx g2
            cases hmx:mx'.isSome with
            |true=>simp only[hmx,if_true]at r2;omega
            |false=>
             simp only[hmx]at r2;simp at r2;rcases Zcy hf e3 hm with⟨_,rfl,rfl⟩|⟨_,_,_,_,hs',_,_,_,_⟩
             .omega
             .rw[hs']at hmx;cases hmx
           .simp only[g2,if_true]at r2;omega
          rw[if_neg hMl,if_neg hml,hA,Zdf];refine⟨by rw[Nat.add_assoc],?_⟩;have:(M-l)*i.size+l*i.size<=C*i.size:=by
           rw[<-Nat.add_mul];exact Nat.mul_le_mul_right _ (by omega)
          omega
     .cases ha
    .cases ha
   .cases ha
  .cases ha
 .cases ha

theorem Zpo(hi:Inv K w0 ρ h w)(hf:FrRel K ρ fr a){o:Go.Oper}{t e:TypeId}{N:Nat}{x:Go.Operand}{lo up' mx:Option Go.Operand}{x':Opd}{lo' up'' mx':Option Opd}{i:Go.TypeInfo}(ho:o.op=.slice t x lo up' mx)(hu:P.underlying t=some (.array N e))
  (h1:nX K x=some x')(e1:nXo K lo=some lo')(e2:nXo K up'=some up'')(e3:nXo K mx=some mx')(hie:P.info? e=some i)(hs:0<i.size)(hmn:mx.isSome=true->up'.isSome=true)
  (ha:act h.m nr fr.ev (.slca i.size N x' lo' up'' mx')=some (v,up)):Ok P K w0 ρ h a o w v up:=by
 have hx:=zX hf h1;simp only[act]at ha;split at ha
 .rename_i r q hp;rw[hp]at hx;obtain⟨L,hL,he⟩:=hx.inv_p;split at ha
  .rename_i m hm;split at ha
   .rename_i p hp';split at ha
    .rename_i l hl;split at ha
     .rename_i cs hr;split at ha
      .rename_i hlen;simp only[Option.some.injEq,Prod.mk.injEq]at ha;obtain⟨rfl,rfl⟩:=ha;obtain⟨M,r1,r2,r3,r4,r5⟩:=ZfH (P:=P) (w:=w) (isS:=false) hf e1 e2 e3 (Nat.le_refl N) (Nat.le_refl N) hm hp' hl hmn;have hMm:M=m:=by
        cases hmx:mx'.isSome with
        |true=>simp only[hmx,if_true]at r2;exact r2
        |false=>
         simp only[hmx]at r2;simp at r2;rcases Zcy hf e3 hm with⟨_,rfl,rfl⟩|⟨_,_,_,_,hs',_,_,_,_⟩
         .exact r2
         .rw[hs']at hmx;cases hmx
       subst hMm;have hMN:M<=N:=by
        rcases Zcy hf e3 hm with⟨_,rfl,rfl⟩|⟨_,_,_,_,_,_,_,q2,rfl⟩<;>omega
       have hrun:(Go.execOp a.eval o).run P w=.ok (.value (.slice (some (if M=l then⟨L.blk,L.off+q,none⟩else(⟨L.blk,L.off+q,none⟩:Addr).add (l*i.size))) (p-l) (M-l))) w:=by
        simp only[Go.execOp,ho,Go.Instr.sliceAt,he];simp only[Sem.run_bind,Go.run_underlying hu,Result.andThen_ok,Go.Instr.sureAddr,Sem.run_pure,r1,ZaQ hie]
       by_cases hMl:M=l
       .refine Ok.pure hi hrun (.sl hL (by omega) (Nat.le_refl _) (λ_=>rfl) hs (.inl (by omega)))
       .rw[if_neg hMl]at hrun;rw[if_neg hMl];obtain⟨L',hL',_,c,e',k3,k4,k5,k6⟩:=hi.rw r cs hr;rw[hL]at hL';cases hL';rw[Zdf]at hrun;refine Ok.pure hi hrun (.sl hL (by omega) (Nat.le_refl _) (λ_=>rfl) hs (.inr ⟨by rw[Nat.add_assoc],?_⟩));have:(M-l)*i.size+l*i.size<=N*i.size:=by
         rw[<-Nat.add_mul];exact Nat.mul_le_mul_right _ (by omega)
        omega
      .cases ha
     .cases ha
    .cases ha
   .cases ha
  .cases ha
 .cases ha

end ops
end Mu
