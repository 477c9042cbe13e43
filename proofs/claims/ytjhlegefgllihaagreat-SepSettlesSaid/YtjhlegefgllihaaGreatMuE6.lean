/- The evaluator and the model: comparisons. -/
import Derived.Test.YtjhlegefgllihaaGreatMuE5
import Derived.Laws.StructEq
namespace Mu
open Go (IntKind BinOp UnOp Value World Addr TypeId Program Sem Result Next)
open Go.RowKit (Below)
set_option linter.unusedVariables false

theorem Za8:∀{ks:List FK}{a b:List V}{t:Bool},zZ ks a b=some t->a.length=ks.length/\b.length=ks.length
  |[],[],[],t,h=>⟨rfl,rfl⟩
  |[],[],y::ys,t,h=>by simp[zZ]at h
  |[],x::xs,_,t,h=>by simp[zZ]at h
  |k::ks,[],_,t,h=>by simp[zZ]at h
  |k::ks,x::xs,[],t,h=>by simp[zZ]at h
  | k::ks,x::xs,y::ys,t,h=>by
    simp only[zZ]at h;split at h
    · have:=Za8 h;simp[this]
    · split at h
      · rename_i s hs;have:=Za8 hs;simp[this]
      · cases h
    · cases h

theorem Zdu:∀{ks:List FK}{a c:List V}{ls:List FK}{b d:List V}{t:Bool},a.length=ks.length->c.length=ks.length->zZ (ks++ls) (a++b) (c++d)=some t->∃r s,zZ ks a c=some r/\zZ ls b d=some s/\t=(r&&s)
  |[],[],[],ls,b,d,t,_,_,h=>⟨true,t,rfl,h,by simp⟩
  |[],[],y::ys,ls,b,d,t,_,hl,h=>by simp at hl
  |[],x::xs,_,ls,b,d,t,hl,_,h=>by simp at hl
  |k::ks,[],_,ls,b,d,t,hl,_,h=>by simp at hl
  |k::ks,x::xs,[],ls,b,d,t,_,hl,h=>by simp at hl
  | k::ks,x::xs,y::ys,ls,b,d,t,hl,hl2,h=>by
    have hl':xs.length=ks.length:=by simpa using hl
    have hl2':ys.length=ks.length:=by simpa using hl2
    simp only[List.cons_append,zZ]at h⊢;split at h
    · rename_i e
      obtain⟨r,s,h1,h2,h3⟩:=Zdu hl' hl2' h;exact⟨r,s,by simp[h1],h2,h3⟩
    · rename_i e
      split at h
      · rename_i u hu
        simp only[Option.some.injEq]at h;obtain⟨r,s,h1,h2,h3⟩:=Zdu hl' hl2' hu;exact⟨false,s,by simp[h1],h2,by simp[<-h]⟩
      · cases h
    · cases h

section
variable {P:Program}{K:Fid}{ρ:Rho}{w:World}

/-- What is compared of a type:an array or a struct whole,or the one cell. -/
def Whole(P:Program)(t:TypeId)(xs:List Value)(x:Value):Prop:=∃d,P.underlying t=some d/\(if ZbK d then x=.agg xs.toArray else xs=[x])

theorem ZhC{t:TypeId}{d:Go.TypeDesc}{i:Go.TypeInfo}(h1:P.info? t=some i)(h2:P.underlying t=some d){xs:List Value}{o:Nat}(hl:o+i.size<=xs.length)(hs:ZbK d=false->i.size=1) :
    ∃x,(Go.part t xs.toArray o).run P w=.ok x w/\Whole P t ((xs.drop o).take i.size) x:=by
  cases hd:ZbK d with
  | true=>
    refine⟨.agg ((xs.drop o).take i.size).toArray,?_,d,h2,by simp[hd]⟩;simp only[Go.part,Sem.run_bind,ZcK h2,hd,Result.andThen_ok,if_true,ZaQ h1,Sem.run_pure];congr 2;apply Array.ext';simp[List.take_drop]
  | false=>
    have h3:=hs hd;have hlt:o<xs.length:=by omega
    refine⟨xs[o],?_,d,h2,?_⟩
    · simp[Go.part,ZcK h2,hd,hlt]
    · simp only[hd,Bool.false_eq_true,if_false,h3]
      rw[List.drop_eq_getElem_cons hlt];rfl

/-- The step of the count of a struct's cells. -/
def cnt(P:Program)(d:Nat)(acc:Option (List FK))(f:Go.Field):Option (List FK) :=
  match acc,Zdi P d f.type,P.info? f.type with
  |some l,some m,some i=>if f.offset=l.length/\f.name≠"_"/\i.size=m.length then some (l++m)else none
  |_,_,_=>none

theorem Zez(d:Nat):∀fs:List Go.Field,fs.foldl (cnt P d) none=none
  |[]=>rfl
  |f::fs=>Zez d fs

theorem Zhw{len:Nat}{f:Nat->(Option Bool×PUnit)->Sem (ForInStep (Option Bool×PUnit))}{s:Option Bool×PUnit}:(forIn [0:len] s f:Sem _)=forIn (List.range len) s f:=by
  rw[Std.Legacy.Range.forIn_eq_forIn_range'];simp[List.range_eq_range']

/-- An array's elements compared one by one. -/
def ZeK(d:Nat)(e:TypeId)(sz:Nat)(xs ys:Array Value):List Nat->Sem Bool
  |[]=>pure true
  | i::l=>do
    let a <-Go.part e xs (i*sz);let b <-Go.part e ys (i*sz);let r <-Go.Op.equalIn d e a b
    if(!r)=true then pure false else ZeK d e sz xs ys l

theorem Zgl (d:Nat)(t e:TypeId)(len:Nat)(i:Go.TypeInfo)(xs ys:Array Value)(ht:P.underlying t=some (.array len e))(hi:P.info? e=some i) :
    (Go.Op.equalIn (d+1) t (.agg xs) (.agg ys)).run P w=(ZeK d e i.size xs ys (List.range len)).run P w:=by
  simp only[Go.Op.equalIn,Sem.run_bind,Go.run_underlying ht,Result.andThen_ok,ZaQ hi];rw[Zhw];generalize List.range len=l;clear ht
  induction l generalizing w with
  |nil=>simp[ZeK]
  | cons j l ih=>
    simp only[List.forIn_cons,ZeK,Sem.run_bind,Sem.run_ite];generalize(Go.part e xs (j*i.size)).run P w=r1
    cases r1 with
    | ok a w1=>
      simp only[Result.andThen_ok];generalize(Go.part e ys (j*i.size)).run P w1=r2
      cases r2 with
      | ok b w2=>
        simp only[Result.andThen_ok];generalize(Go.Op.equalIn d e a b).run P w2=r3
        cases r3 with
        | ok r w3=>
          cases r
          · simp only[Result.andThen_ok,Bool.not_false,if_true,Sem.run_pure]
          · simp only[Result.andThen_ok,Bool.not_true,Bool.false_eq_true,if_false,Sem.run_pure]
            exact ih
        |halt x w3=>simp[Result.andThen]
      |halt x w2=>simp[Result.andThen]
    |halt x w1=>simp[Result.andThen]

theorem Zq4{d:Nat}{xs ys:Array Value}{t:TypeId}{fs:Array Go.Field}{r:Bool}(hu:P.underlying t=some (.struct fs))(hp:P.stoodInHeld t=false)(h:(Go.Op.eqFields d xs ys fs.toList).run P w=.ok r w):(Go.Op.equalIn (d+1) t (.agg xs) (.agg ys)).run P w=.ok r w:=by
  have hf:P.fieldsOf t=fs:=by simp[Go.Program.fieldsOf,hu]
  rw[Go.run_equalIn_struct (P:=P) w d t xs ys (by rw[hf];exact hu) hp,hf];exact h

/-- A plain type has one cell. -/
theorem Zik{d:Nat}{t:TypeId}{ks:List FK}{ds:Go.TypeDesc}(hf:Zdi P d t=some ks)(hu:P.underlying t=some ds)(ha:ZbK ds=false):ks.length=1:=by
  cases d with
  |zero=>simp[Zdi]at hf
  | succ d=>
    simp only[Zdi,hu]at hf;cases ds<;>simp[ZbK]at ha hf<;>subst hf<;>rfl

theorem ZjM{d:Nat}{t:TypeId}{ks:List FK}(hf:Zdi P d t=some ks):∃ds,P.underlying t=some ds:=by
  cases d with
  |zero=>simp[Zdi]at hf
  | succ d=>
    simp only[Zdi]at hf
    cases hu:P.underlying t with
    |none=>simp[hu]at hf
    |some ds=>exact⟨ds,rfl⟩

theorem ZiQ:∀ (d:Nat) {t:TypeId}{ks:List FK},Zdi P d t=some ks->∀{D:Nat},d<=D->∀{xs ys:List Value}{cs ds:List V}{x y:Value}{b:Bool},RelL K ρ cs xs->RelL K ρ ds ys->zZ ks cs ds=some b->Whole P t xs x->Whole P t ys y->
    (Go.Op.equalIn D t x y).run P w=.ok b w
  |0,t,ks,hf,D,hD,xs,ys,cs,ds,x,y,b,hc,hd,hs,hx,hy=>by simp[Zdi]at hf
  | d+1,t,ks,hf,D,hD,xs,ys,cs,ds,x,y,b,hc,hd,hs,hx,hy=>by
    obtain⟨D,rfl⟩:∃E,D=E+1:=⟨D-1,by omega⟩;obtain⟨u,hu,hx⟩:=hx;obtain⟨u',hu',hy⟩:=hy;rw[hu]at hu';cases hu';obtain⟨l1,l2⟩:=Za8 hs
    -- the one cell
    have single:ZbK u=false->∃k v1 v2,ks=[k]/\cs=[v1]/\ds=[v2]/\V.same k v1 v2=some b/\Rel K ρ v1 x/\Rel K ρ v2 y:=by
      intro ha;have h1:=Zik hf hu ha;simp only[ha,Bool.false_eq_true,if_false]at hx hy;subst hx hy;obtain⟨k,rfl⟩:=List.length_eq_one_iff.1 h1
      cases hc with
      | cons r1 t1=>
        cases t1
        cases hd with
        | cons r2 t2=>
          cases t2;refine⟨k,_,_,rfl,rfl,rfl,?_,r1,r2⟩;simp only[zZ]at hs;split at hs
          · rename_i e;rw[e];simpa[zZ]using hs
          · rename_i e;rw[e];simpa[zZ]using hs
          · cases hs
    have hf0:=hf;simp only[Zdi,hu]at hf
    -- a piece of both
    have pieces:∀{e:TypeId}{i:Go.TypeInfo}{m:List FK}{o:Nat}{b':Bool},Zdi P d e=some m->P.info? e=some i->i.size=m.length->o+i.size<=cs.length->zZ m ((cs.drop o).take i.size) ((ds.drop o).take i.size)=some b'->
        ∃p q,(Go.part e xs.toArray o).run P w=.ok p w/\(Go.part e ys.toArray o).run P w=.ok q w/\(Go.Op.equalIn D e p q).run P w=.ok b' w:=by
      intro e i m o b' h1 h2 h3 h4 h5;obtain⟨de,hde⟩:=ZjM h1;have h1':ZbK de=false->i.size=1:=λha=>by rw[h3];exact Zik h1 hde ha
      obtain⟨p,hp,wp⟩:=ZhC (w:=w) h2 hde (xs:=xs) (o:=o) (by rw[<-hc.length];exact h4) h1';obtain⟨q,hq,wq⟩:=ZhC (w:=w) h2 hde (xs:=ys) (o:=o) (by rw[<-hd.length];omega) h1';exact⟨p,q,hp,hq,ZiQ d h1 (by omega) ((hc.drop o).take _) ((hd.drop o).take _) h5 wp wq⟩
    cases u with
    | int k=>
      obtain⟨k',v1,v2,rfl,rfl,rfl,hsm,r1,r2⟩:=single rfl;simp only[Option.some.injEq,List.cons.injEq,and_true]at hf;subst hf;cases v1<;>cases v2<;>simp only[V.same,reduceCtorEq]at hsm;split at hsm
      · rename_i hk
        subst hk;simp only[Option.some.injEq]at hsm;rw[r1.inv_i,r2.inv_i,<-hsm];exact Go.run_equalIn_int w D t _ _ _ _ hu
      · cases hsm
    | bool=>
      obtain⟨k',v1,v2,rfl,rfl,rfl,hsm,r1,r2⟩:=single rfl;simp only[Option.some.injEq,List.cons.injEq,and_true]at hf;subst hf;cases v1<;>cases v2<;>simp only[V.same,Option.some.injEq,reduceCtorEq]at hsm;rw[r1.inv_b,r2.inv_b,<-hsm];exact Go.run_equalIn_bool w D t _ _ hu
    | string=>
      obtain⟨k',v1,v2,rfl,rfl,rfl,hsm,r1,r2⟩:=single rfl;simp only[Option.some.injEq,List.cons.injEq,and_true]at hf;subst hf;cases v1<;>cases v2<;>simp only[V.same,Option.some.injEq,reduceCtorEq]at hsm;rw[r1.inv_s,r2.inv_s,<-hsm];exact Go.run_equalIn_string w D t _ _ hu
    | struct fs =>
      simp only[ZbK,if_true]at hx hy;subst hx hy;simp only at hf;split at hf
      · cases hf
      · rename_i hst
        refine Zq4 hu (by simpa using hst) ?_;change fs.toList.foldl (cnt P d) (some [])=some ks at hf
        -- from a field on
        have go:∀ (l:List Go.Field)(acc:List FK)(b':Bool),l.foldl (cnt P d) (some acc)=some ks->(∃rest,ks=acc++rest/\zZ rest (cs.drop acc.length) (ds.drop acc.length)=some b')->(Go.Op.eqFields D xs.toArray ys.toArray l).run P w=.ok b' w:=by
          intro l
          induction l with
          | nil=>
            rintro acc b' ha ⟨rest,hr,hsm⟩;simp only[List.foldl_nil,Option.some.injEq]at ha;subst ha;have:rest=[]:=by simpa using hr
            subst this;obtain⟨m1,m2⟩:=Za8 hsm;rw[List.eq_nil_of_length_eq_zero m1,List.eq_nil_of_length_eq_zero m2]at hsm;simp only[zZ,Option.some.injEq]at hsm;simp[Go.Op.eqFields,<-hsm]
          | cons f l ih =>
            rintro acc b' ha ⟨rest,hr,hsm⟩;simp only[List.foldl_cons]at ha
            cases hm:Zdi P d f.type with
            |none=>simp[cnt,hm,Zez]at ha
            | some m=>
              cases hi:P.info? f.type with
              |none=>simp[cnt,hm,hi,Zez]at ha
              | some i=>
                simp only[cnt,hm,hi]at ha;split at ha
                · rename_i hcc
                  obtain⟨c1,c2,c3⟩:=hcc
                  -- the rest begins with this field's
                  have pre:∀ (l:List Go.Field)(acc:List FK),l.foldl (cnt P d) (some acc)=some ks->∃rest,ks=acc++rest:=by
                    intro l
                    induction l with
                    |nil=>intro acc ha;simp only[List.foldl_nil,Option.some.injEq]at ha;exact⟨[],by simp[ha]⟩
                    | cons f l ih=>
                      intro acc ha;simp only[List.foldl_cons]at ha;unfold cnt at ha;split at ha
                      · split at ha
                        · rename_i heq _ _ _
                          simp only[Option.some.injEq]at heq;obtain⟨r,hr⟩:=ih _ ha;exact⟨_,by rw[hr,heq,List.append_assoc]⟩
                        · rw [show(λacc f=>match acc,Zdi P d f.type,P.info? f.type with
                              |some l,some m,some i=>if f.offset=l.length/\f.name≠"_"/\i.size=m.length then some (l++m)else none
                              |_,_,_=>none)=cnt P d from rfl,Zez]at ha
                          cases ha
                      · rw[show(λacc f=>match acc,Zdi P d f.type,P.info? f.type with
                              |some l,some m,some i=>if f.offset=l.length/\f.name≠"_"/\i.size=m.length then some (l++m)else none
                              |_,_,_=>none)=cnt P d from rfl,Zez]at ha
                        cases ha
                  obtain⟨rest',hr'⟩:=pre l (acc++m) ha;have hrm:rest=m++rest':=by
                    rw[hr,List.append_assoc]at hr';exact List.append_cancel_left hr'
                  subst hrm;obtain⟨m1,m2⟩:=Za8 hsm;simp only[List.length_drop,List.length_append]at m1 m2;have hsplit:zZ (m++rest') ((cs.drop acc.length).take i.size++cs.drop (acc++m).length) ((ds.drop acc.length).take i.size++ds.drop (acc++m).length)=some b':=by
                    have e1:(cs.drop acc.length).take i.size++cs.drop (acc++m).length=cs.drop acc.length:=by
                      rw[List.length_append,<-c3,<-List.drop_drop];exact List.take_append_drop _ _
                    have e2:(ds.drop acc.length).take i.size++ds.drop (acc++m).length=ds.drop acc.length:=by
                      rw[List.length_append,<-c3,<-List.drop_drop];exact List.take_append_drop _ _
                    rw[e1,e2];exact hsm
                  have hkl:ks.length=acc.length+(m.length+rest'.length):=by rw[hr];simp
                  obtain⟨r,s,s1,s2,s3⟩:=Zdu (by simp;omega) (by simp;omega) hsplit;obtain⟨p,q,hp,hq,he⟩:=pieces hm hi c3 (o:=acc.length) (by omega) s1;have ihh:=ih (acc++m) s ha ⟨rest',hr',s2⟩;simp only[Go.Op.eqFields,if_pos c2,Sem.run_bind,c1,hp,hq,he,Result.andThen_ok];cases r
                  · simp[s3]
                  · simpa[s3]using ihh
                · rw[Zez]at ha;cases ha
        exact go fs.toList [] b hf ⟨ks,by simp,by simpa using hs⟩
    | array len e=>
      simp only[ZbK,if_true]at hx hy;subst hx hy;simp only at hf;split at hf
      · rename_i m i hm hi
        split at hf
        · rename_i hsz
          simp only[Option.some.injEq]at hf;rw[Zgl D t e len i _ _ hu hi];have go:∀(k j:Nat)(b':Bool),j+k=len->zZ (List.replicate k m).flatten (cs.drop (j*i.size)) (ds.drop (j*i.size))=some b'->(ZeK D e i.size xs.toArray ys.toArray (List.range' j k)).run P w=.ok b' w:=by
            intro k
            induction k with
            | zero=>
              intro j b' hjk hsm;obtain⟨m1,m2⟩:=Za8 hsm;simp only[List.replicate_zero,List.flatten_nil,List.length_nil]at m1 m2;rw[List.eq_nil_of_length_eq_zero m1,List.eq_nil_of_length_eq_zero m2]at hsm;simp only[List.replicate_zero,List.flatten_nil,zZ,Option.some.injEq]at hsm;simp[ZeK,<-hsm]
            | succ k ih=>
              intro j b' hjk hsm;simp only[List.replicate_succ,List.flatten_cons]at hsm;obtain⟨m1,m2⟩:=Za8 hsm;simp only[List.length_drop,List.length_append]at m1 m2;have hsplit:zZ (m++(List.replicate k m).flatten) ((cs.drop (j*i.size)).take i.size++cs.drop ((j+1)*i.size)) ((ds.drop (j*i.size)).take i.size++ds.drop ((j+1)*i.size))=some b':=by
                rw[Nat.succ_mul,<-List.drop_drop,<-List.drop_drop,List.take_append_drop,List.take_append_drop];exact hsm
              have hkl:ks.length=len*i.size:=by rw[<-hf,hsz];simp
              have hjl:(j+1)*i.size<=len*i.size:=Nat.mul_le_mul_right _ (by omega);rw[Nat.succ_mul]at hjl;obtain⟨r,s,s1,s2,s3⟩:=Zdu (by simp;omega) (by simp;omega) hsplit;obtain⟨p,q,hp,hq,he⟩:=pieces hm hi hsz (o:=j*i.size) (by omega) s1;have ihh:=ih (j+1) s (by omega) s2;simp only[List.range'_succ,ZeK,Sem.run_bind,hp,hq,he,Result.andThen_ok];cases r
              · simp[s3]
              · simpa[s3]using ihh
          rw[List.range_eq_range'];exact go len 0 b (by omega) (by rw[hf];simpa using hs)
        · cases hf
      · cases hf
    |_=>simp at hf
end

section ops
variable {P:Program}{K:Fid}{ρ:Rho}{w0 w:World}{h:Hp}{fr:Fr}{a:Go.Act}{nr:Nat}{v:V}{up:List (Nat×Obj)}

theorem ZcS{op:BinOp}{t:TypeId}{x y:Go.Operand}{p q:Value}(h1:∀xs ys,¬(p=.agg xs/\q=.agg ys))(h2:¬(p=.nilIface/\q=.nilIface)):(Go.eqGuard op t x y p q).run P w=.ok () w:=by
  unfold Go.eqGuard;cases op<;>first|rfl|skip
  all_goals
    cases p<;>cases q<;>first|rfl|exact absurd ⟨rfl,rfl⟩ h2|exact absurd ⟨rfl,rfl⟩ (h1 _ _)

theorem Zke(d:Nat){t e:TypeId}(hu:P.underlying t=some (.pointer e)){p q:Option Addr}(hn:p=none\/q=none):(Go.Op.equalIn (d+1) t (.pointer p) (.pointer q)).run P w=.ok (p.isNone&&q.isNone) w:=by
  cases p<;>cases q<;>simp_all[Go.Op.equalIn,Go.run_underlying hu]
theorem ZkP{t e:TypeId}(hu:P.underlying t=some (.pointer e)){p q:Option Addr}(hn:p=none\/q=none):(Go.Op.equal t (.pointer p) (.pointer q)).run P w=.ok (p.isNone&&q.isNone) w:=Zke 9999 hu hn
theorem ZhY(d:Nat){t e:TypeId}(hu:P.underlying t=some (.slice e)){p q:Option Addr}{m n m' n':Nat}(hn:p=none\/q=none):(Go.Op.equalIn (d+1) t (.slice p m n) (.slice q m' n')).run P w=.ok (p.isNone&&q.isNone) w:=by
  cases p<;>cases q<;>simp_all[Go.Op.equalIn,Go.run_underlying hu]
theorem Zjq{t e:TypeId}(hu:P.underlying t=some (.slice e)){p q:Option Addr}{m n m' n':Nat}(hn:p=none\/q=none):(Go.Op.equal t (.slice p m n) (.slice q m' n')).run P w=.ok (p.isNone&&q.isNone) w:=ZhY 9999 hu hn
theorem Zg4(d:Nat){t:TypeId}{a1 a2:Array TypeId}{a3:Bool}(hu:P.underlying t=some (.func a1 a2 a3)){f:Go.Fn}{xs ys:Array Value}:(Go.Op.equalIn (d+1) t .nilFunc .nilFunc).run P w=.ok true w/\(Go.Op.equalIn (d+1) t .nilFunc (.func f xs ys)).run P w=.ok false w/\(Go.Op.equalIn (d+1) t (.func f xs ys) .nilFunc).run P w=.ok false w:=by
  refine⟨?_,?_,?_⟩<;>simp[Go.Op.equalIn,Go.run_underlying hu]
theorem ZkO(d:Nat){t:TypeId}{ms:Array (String×TypeId)}(hu:P.underlying t=some (.interface ms)):(Go.Op.equalIn (d+1) t .nilIface .nilIface).run P w=.ok true w:=by
  simp[Go.Op.equalIn,Go.run_underlying hu]
theorem Zme{t:TypeId}{ms:Array (String×TypeId)}(hu:P.underlying t=some (.interface ms)):(Go.Op.equal t .nilIface .nilIface).run P w=.ok true w:=ZkO 9999 hu

theorem Zk0{op:BinOp}{t:TypeId}{x y:Go.Operand}(hc:isC x=true\/isC y=true):(Go.eqGuard op t x y .nilIface .nilIface).run P w=.ok () w:=by
  cases x<;>cases y<;>cases op<;>first|rfl|(simp[isC]at hc)
/-- '==' and '!=' by the one test. -/
theorem Zow {k:Eq}{op:BinOp}{t:TypeId}{x y:Go.Operand}{X Y:Value}{p q:V}{b:Bool}(hk:nEq P t x y=some k)(hop:op=.eql\/op=.neq)(hx:Rel K ρ p (X))(hy:Rel K ρ q (Y))(he:eqv k p q=some b) :
    (Go.eqGuard op t x y (X) (Y)).run P w=.ok () w/\(Go.binOp op t (X) (Y)).run P w=.ok (.bool (if op=.eql then b else !b)) w:=by
  -- what falls to the type's own test
  have by_type:∀(p' q':Value),X=p'->Y=q'->(Go.Op.equal t p' q').run P w=.ok b w->(∀xs ys,¬(p'=.agg xs/\q'=.agg ys))->(¬(p'=.nilIface/\q'=.nilIface))->
      ((Go.binOp .eql t p' q')=do pure (.bool (<-Go.Op.equal t p' q')))->((Go.binOp .neq t p' q')=do pure (.bool (!(<-Go.Op.equal t p' q'))))->
      (Go.eqGuard op t x y (X) (Y)).run P w=.ok () w/\(Go.binOp op t (X) (Y)).run P w=.ok (.bool (if op=.eql then b else !b)) w:=by
    intro p' q' e1 e2 hr h1 h2 g1 g2;rw[e1,e2];refine⟨ZcS h1 h2,?_⟩;rcases hop with rfl|rfl
    · rw[g1];simp[hr]
    · rw[g2];simp[hr]
  unfold nEq at hk;split at hk
  · simp only[Option.some.injEq]at hk
    subst hk;cases p<;>cases q<;>simp only[eqv,reduceCtorEq]at he
    · split at he
      · rename_i hkk
        subst hkk;simp only[Option.some.injEq]at he;rw[hx.inv_i,hy.inv_i];refine⟨ZcS (by simp) (by simp),?_⟩;rcases hop with rfl|rfl
        · simp[Go.binOp,Go.Op.intCmp,<-he]
        · simp[Go.binOp,Go.Op.intCmp,<-he,bne]
      · cases he
    · simp only[Option.some.injEq]at he
      rw[hx.inv_s,hy.inv_s];refine⟨ZcS (by simp) (by simp),?_⟩;rcases hop with rfl|rfl
      · simp[Go.binOp,Go.Op.stringOp,<-he]
      · simp[Go.binOp,Go.Op.stringOp,<-he]
  · simp only[Option.some.injEq]at hk
    subst hk;cases p<;>cases q<;>simp only[eqv,reduceCtorEq]at he
    · split at he
      · rename_i hkk
        subst hkk;simp only[Option.some.injEq]at he;rw[hx.inv_i,hy.inv_i];refine⟨ZcS (by simp) (by simp),?_⟩;rcases hop with rfl|rfl
        · simp[Go.binOp,Go.Op.intCmp,<-he]
        · simp[Go.binOp,Go.Op.intCmp,<-he,bne]
      · cases he
    · simp only[Option.some.injEq]at he
      rw[hx.inv_s,hy.inv_s];refine⟨ZcS (by simp) (by simp),?_⟩;rcases hop with rfl|rfl
      · simp[Go.binOp,Go.Op.stringOp,<-he]
      · simp[Go.binOp,Go.Op.stringOp,<-he]
  · rename_i hu
    simp only[Option.some.injEq]at hk;subst hk;cases p<;>cases q<;>simp only[eqv,reduceCtorEq,Option.some.injEq]at he;exact by_type _ _ hx.inv_b hy.inv_b (by rw[<-he];exact Go.run_equal_bool w t _ _ hu) (by simp) (by simp) rfl rfl
  · rename_i e hu
    simp only[Option.some.injEq]at hk;subst hk;have hE:∀p' q':Option Addr,(p'=none\/q'=none)->(Go.Op.equal t (.pointer p') (.pointer q')).run P w=.ok (p'.isNone&&q'.isNone) w:=by
      intro p' q' hn;exact ZkP hu hn
    cases p<;>cases q<;>simp only[eqv,reduceCtorEq,Option.some.injEq]at he<;>subst he
    · cases hx;cases hy
      exact by_type _ _ rfl rfl (hE _ _ (.inr rfl)) (by simp) (by simp) rfl rfl
    · cases hx;cases hy
      exact by_type _ _ rfl rfl (hE _ _ (.inl rfl)) (by simp) (by simp) rfl rfl
    · cases hx;cases hy
      exact by_type _ _ rfl rfl (hE _ _ (.inl rfl)) (by simp) (by simp) rfl rfl
  · rename_i e hu
    simp only[Option.some.injEq]at hk;subst hk;have hE:∀(p' q':Option Addr)(m n m' n':Nat),(p'=none\/q'=none)->(Go.Op.equal t (.slice p' m n) (.slice q' m' n')).run P w=.ok (p'.isNone&&q'.isNone) w:=by
      intro p' q' m n m' n' hn;exact Zjq hu hn
    cases p<;>cases q<;>simp only[eqv,reduceCtorEq,Option.some.injEq]at he<;>subst he
    · cases hx;cases hy
      exact by_type _ _ rfl rfl (hE _ _ _ _ _ _ (.inr rfl)) (by simp) (by simp) rfl rfl
    · cases hx;cases hy
      exact by_type _ _ rfl rfl (hE _ _ _ _ _ _ (.inl rfl)) (by simp) (by simp) rfl rfl
    · cases hx;cases hy
      exact by_type _ _ rfl rfl (hE _ _ _ _ _ _ (.inl rfl)) (by simp) (by simp) rfl rfl
  · rename_i e1' e2' e3' hu
    simp only[Option.some.injEq]at hk;subst hk;cases p<;>cases q<;>simp only[eqv,reduceCtorEq,Option.some.injEq]at he<;>subst he
    · cases hx<;>cases hy<;>exact by_type _ _ rfl rfl (Zg4 9999 hu).2.2 (by simp) (by simp) rfl rfl
    · cases hx<;>cases hy<;>exact by_type _ _ rfl rfl (Zg4 9999 hu).2.1 (by simp) (by simp) rfl rfl
    · cases hx;cases hy
      exact by_type _ _ rfl rfl (Zg4 (f:=.func 0) (xs:=#[]) (ys:=#[]) 9999 hu).1 (by simp) (by simp) rfl rfl
  · rename_i ms hu
    split at hk
    · rename_i hc
      simp only[Option.some.injEq]at hk;subst hk;cases p<;>cases q<;>simp only[eqv,reduceCtorEq,Option.some.injEq]at he;subst he;cases hx;cases hy;have hE:(Go.Op.equal t .nilIface .nilIface).run P w=.ok true w:=Zme hu;refine⟨?_,?_⟩
      · exact Zk0 hc
      · rcases hop with rfl|rfl
        · simp[Go.binOp,hE]
        · simp[Go.binOp,hE]
    · cases hk
  all_goals
    first
    |(cases hk;done)
    | (rename_i fs hu
       split at hk
       · rename_i hg
         cases hfl:Zdi P 100 t with
         |none=>simp[hfl]at hk
         | some ks=>
           simp only[hfl,Option.map_some,Option.some.injEq]at hk;subst hk;cases p<;>cases q<;>simp only[eqv,reduceCtorEq]at he;obtain⟨xs,e1,r1⟩:=hx.inv_ag;obtain⟨ys,e2,r2⟩:=hy.inv_ag;have hE:(Go.Op.equal t (.agg xs) (.agg ys)).run P w=.ok b w:=ZiQ 100 hfl (by decide) r1 r2 he ⟨_,hu,by simp[ZbK]⟩ ⟨_,hu,by simp[ZbK]⟩;rw[e1,e2];refine⟨?_,?_⟩
           · unfold Go.eqGuard
             rcases hop with rfl|rfl<;>simp[hg]
           · rcases hop with rfl|rfl
             · simp[Go.binOp,hE]
             · simp[Go.binOp,hE]
       · cases hk)
    |skip

theorem Zp6(hi:Inv K w0 ρ h w)(hf:FrRel K ρ fr a){o:Go.Oper}{t t':TypeId}{op:BinOp}{x y:Go.Operand}{x' y':Opd}{k:Eq}(ho:o.op=.binOp op t x y t')(hop:op=.eql\/op=.neq)(h1:nX K x=some x')(h2:nX K y=some y')(hk:nEq P t x y=some k)
    (ha:act h.m nr fr.ev (.eq (op=.neq) k x' y')=some (v,up)):Ok P K w0 ρ h a o w v up:=by
  simp only[act]at ha;split at ha
  · rename_i b hb
    simp only[Option.some.injEq,Prod.mk.injEq]at ha;obtain⟨rfl,rfl⟩:=ha;obtain⟨r1,r2⟩:=Zow (P:=P) (w:=w) hk hop (zX hf h1) (zX hf h2) hb;refine Ok.pure hi (x:=.bool (if op=.eql then b else !b)) ?_ ?_
    · simp only[Go.execOp,ho,Sem.run_bind,r1,Result.andThen_ok,r2]
      rfl
    · rcases hop with rfl|rfl<;>simp<;>exact .b _
  · cases ha

end ops
end Mu
