/- What the functions work out. -/
import Derived.Test.YtfdidkebomeiaaaMuA
import Derived.Test.YtfdidkebomeiaaaMuR
set_option linter.unusedVariables false
set_option linter.unnecessarySimpa false
set_option linter.unusedSimpArgs false
set_option maxHeartbeats 2000000
set_option maxRecDepth 10000
namespace Mu
open Go (IntKind BinOp UnOp)
structure zx where
 At:List Int
 Bits:List Int
 Own:List Int
 deriving DecidableEq,Inhabited
abbrev Zgz:Enc Int:=⟨1,fun x=>[.i .u8 x],fun _=>rfl⟩
theorem Zgz.one (x:Int):(Zgz.c x).all V.one=true:=rfl
abbrev Zl5:Enc Int:=⟨1,fun x=>[.i .i8 x],fun _=>rfl⟩
theorem Zl5.one (x:Int):(Zl5.c x).all V.one=true:=rfl
structure Za where
 Next:A4 Int
 Owner:A4 Int
 deriving DecidableEq,Inhabited
structure Zh where
 X:Int
 Y:Int
 deriving DecidableEq,Inhabited
abbrev Zi:Enc Zh:=⟨2,fun x=>[.i .i64 x.X,.i .i64 x.Y],fun _=>rfl⟩
theorem Zi.one (x:Zh):(Zi.c x).all V.one=true:=rfl
theorem Zi.same (x y:Zh):Zax [.i,.i] (Zi.c x) (Zi.c y)=some (decide (x=y)):=by
 obtain ⟨x1,x2⟩:=x
 obtain ⟨y1,y2⟩:=y
 refine (Zgc (Zgc Zhg)).trans ?_
 congr 1
 rw [Bool.eq_iff_iff]
 simp [and_assoc]
abbrev Zd:Enc Za:=⟨8,fun x=>[.i .i64 x.Next.a,.i .i64 x.Next.b,.i .i64 x.Next.c,.i .i64 x.Next.d,.i .i64 x.Owner.a,.i .i64 x.Owner.b,.i .i64 x.Owner.c,.i .i64 x.Owner.d],fun _=>rfl⟩
theorem Zd.one (x:Za):(Zd.c x).all V.one=true:=rfl
structure Zr where
 Cell:Int
 Dir:Int
 deriving DecidableEq,Inhabited
abbrev Zl:Enc Zr:=⟨2,fun x=>[.i .i64 x.Cell,.i .i64 x.Dir],fun _=>rfl⟩
theorem Zl.one (x:Zr):(Zl.c x).all V.one=true:=rfl
theorem Zl.same (x y:Zr):Zax [.i,.i] (Zl.c x) (Zl.c y)=some (decide (x=y)):=by
 obtain ⟨x1,x2⟩:=x
 obtain ⟨y1,y2⟩:=y
 refine (Zgc (Zgc Zhg)).trans ?_
 congr 1
 rw [Bool.eq_iff_iff]
 simp [and_assoc]
abbrev e_bool:Enc Bool:=⟨1,fun x=>[.b x],fun _=>rfl⟩
theorem e_bool.one (x:Bool):(e_bool.c x).all V.one=true:=rfl
abbrev Zc8:Enc (A4 Int):=⟨4,fun x=>[.i .i64 x.a,.i .i64 x.b,.i .i64 x.c,.i .i64 x.d],fun _=>rfl⟩
theorem Zc8.one (x:A4 Int):(Zc8.c x).all V.one=true:=rfl
structure ZK where
 cells:List Za
 deriving DecidableEq,Inhabited
structure zh where
 X:List Int
 Y:List Int
 Vert:List (List Int)
 Horz:List (List Int)
 deriving DecidableEq,Inhabited
structure ZA where
 From:Int
 To:Int
 Weight:Int
 deriving DecidableEq,Inhabited
abbrev zF:Enc ZA:=⟨3,fun x=>[.i .i64 x.From,.i .i64 x.To,.i .i64 x.Weight],fun _=>rfl⟩
theorem zF.one (x:ZA):(zF.c x).all V.one=true:=rfl
structure ZR where
 Vertical:Bool
 Place:Int
 deriving DecidableEq,Inhabited
abbrev zb:Enc ZR:=⟨2,fun x=>[.b x.Vertical,.i .i64 x.Place],fun _=>rfl⟩
theorem zb.one (x:ZR):(zb.c x).all V.one=true:=rfl
def ZfC (x:Int):Prop:=Wf .u8 x
def ZkV (x:Int):Prop:=Wf .i8 x
/-! muntin/muntinref10.New -/
def zu.s1 (v:Int):(List Za)×Int→Option (((List Za)×Int)⊕(List Za)):=fun (l2,d) =>
 if decide (d<4) then
  ck ((0:Int)≤v∧v<(l2.length:Int)) <|
  ck ((0:Int)≤d∧d<4) <|
  ck (ZaD (d+1)) <|
  some (.inl (l2.set v.toNat ({ gi l2 v.toNat with Next:=((gi l2 v.toNat).Next).set d (-1) }),d+1))
 else
  some (.inr l2)

def zu.s0 (n:Int):(List Za)×Int→Option (((List Za)×Int)⊕(List Za)):=fun (l,v) =>
 if decide (v<n) then
  (ZZ (zu.s1 v) big (l,0)).bind fun l3 =>
  ck (ZaD (v+1)) <|
  some (.inl (l3,v+1))
 else
  some (.inr l)

def zu (n:Int):Option (List Za) :=
 ck ((0:Int)≤n∧n≤1000000000) <|
 (ZZ (zu.s0 n) big (List.replicate n.toNat (⟨⟨0,0,0,0⟩,⟨0,0,0,0⟩⟩:Za),0)).bind fun l1 =>
 some l1

/-! muntin/muntinref10.Nearest -/
def ZO.s0 (at_:List Zh) (i:Int) (d:Int):Int×Int→Option ((Int×Int)⊕Int):=fun (best,k_) =>
 if decide (k_<(at_.length:Int)) then
  (if decide (d=0) then
   ck ((0:Int)≤k_∧k_<(at_.length:Int)) <|
   ck ((0:Int)≤i∧i<(at_.length:Int)) <|
   some (decide ((gi at_ k_.toNat).Y=(gi at_ i.toNat).Y))
  else
   some false).bind fun t =>
  (if t then
   ck ((0:Int)≤k_∧k_<(at_.length:Int)) <|
   ck ((0:Int)≤i∧i<(at_.length:Int)) <|
   some (decide (((gi at_ i.toNat).X)<((gi at_ k_.toNat).X)))
  else
   some false).bind fun t1 =>
  (if t1 then
   (if decide (best<0) then
    some true
   else
    ck ((0:Int)≤k_∧k_<(at_.length:Int)) <|
    ck ((0:Int)≤best∧best<(at_.length:Int)) <|
    some (decide (((gi at_ k_.toNat).X)<((gi at_ best.toNat).X)))).bind fun t3 =>
   some t3
  else
   some false).bind fun t2 =>
  (
   if t2 then
    some k_
   else
    some best).bind fun best2 =>
  (if decide (d=1) then
   ck ((0:Int)≤k_∧k_<(at_.length:Int)) <|
   ck ((0:Int)≤i∧i<(at_.length:Int)) <|
   some (decide ((gi at_ k_.toNat).X=(gi at_ i.toNat).X))
  else
   some false).bind fun t4 =>
  (if t4 then
   ck ((0:Int)≤k_∧k_<(at_.length:Int)) <|
   ck ((0:Int)≤i∧i<(at_.length:Int)) <|
   some (decide (((gi at_ i.toNat).Y)<((gi at_ k_.toNat).Y)))
  else
   some false).bind fun t5 =>
  (if t5 then
   (if decide (best2<0) then
    some true
   else
    ck ((0:Int)≤k_∧k_<(at_.length:Int)) <|
    ck ((0:Int)≤best2∧best2<(at_.length:Int)) <|
    some (decide (((gi at_ k_.toNat).Y)<((gi at_ best2.toNat).Y)))).bind fun t7 =>
   some t7
  else
   some false).bind fun t6 =>
  if t6 then
   ck (ZaD (k_+1)) <|
   some (.inl (k_,k_+1))
  else
   ck (ZaD (k_+1)) <|
   some (.inl (best2,k_+1))
 else
  some (.inr best)

def ZO (at_:List Zh) (i:Int) (d:Int):Option Int :=
 (ZZ (ZO.s0 at_ i d) big ((-1),0)).bind fun best1 =>
 some best1

/-! muntin/muntinref10.Crossed -/
def ZN.s1 (at_:List Zh) (l:List Za) (i:Int) (w:Int) (a:Int):Int→Option (Int⊕(Unit⊕Unit)):=fun d =>
 if decide (d<2) then
  ck ((0:Int)≤a∧a<(l.length:Int)) <|
  ck ((0:Int)≤d∧d<4) <|
  if decide ((((gi l a.toNat).Next).get d)<0) then
   ck (ZaD (d+1)) <|
   some (.inl (d+1))
  else
   ck ((0:Int)≤a∧a<(at_.length:Int)) <|
   ck ((0:Int)≤(((gi l a.toNat).Next).get d)∧(((gi l a.toNat).Next).get d)<(at_.length:Int)) <|
   (if decide ((gi at_ a.toNat).Y=(gi at_ (((gi l a.toNat).Next).get d:Int).toNat).Y) then
    ck ((0:Int)≤i∧i<(at_.length:Int)) <|
    ck ((0:Int)≤w∧w<(at_.length:Int)) <|
    some (decide ((gi at_ i.toNat).X=(gi at_ w.toNat).X))
   else
    some false).bind fun t =>
   (if t then
    ck ((0:Int)≤i∧i<(at_.length:Int)) <|
    some (decide (((gi at_ a.toNat).X)<((gi at_ i.toNat).X)))
   else
    some false).bind fun t1 =>
   (if t1 then
    ck ((0:Int)≤i∧i<(at_.length:Int)) <|
    some (decide (((gi at_ i.toNat).X)<((gi at_ (((gi l a.toNat).Next).get d:Int).toNat).X)))
   else
    some false).bind fun t2 =>
   (if t2 then
    ck ((0:Int)≤i∧i<(at_.length:Int)) <|
    some (decide (((gi at_ i.toNat).Y)<((gi at_ a.toNat).Y)))
   else
    some false).bind fun t3 =>
   (if t3 then
    ck ((0:Int)≤w∧w<(at_.length:Int)) <|
    some (decide (((gi at_ a.toNat).Y)<((gi at_ w.toNat).Y)))
   else
    some false).bind fun t4 =>
   if t4 then
    some (.inr (.inr ()))
   else
    (if decide ((gi at_ a.toNat).X=(gi at_ (((gi l a.toNat).Next).get d:Int).toNat).X) then
     ck ((0:Int)≤i∧i<(at_.length:Int)) <|
     ck ((0:Int)≤w∧w<(at_.length:Int)) <|
     some (decide ((gi at_ i.toNat).Y=(gi at_ w.toNat).Y))
    else
     some false).bind fun t5 =>
    (if t5 then
     ck ((0:Int)≤i∧i<(at_.length:Int)) <|
     some (decide (((gi at_ i.toNat).X)<((gi at_ a.toNat).X)))
    else
     some false).bind fun t6 =>
    (if t6 then
     ck ((0:Int)≤w∧w<(at_.length:Int)) <|
     some (decide (((gi at_ a.toNat).X)<((gi at_ w.toNat).X)))
    else
     some false).bind fun t7 =>
    (if t7 then
     ck ((0:Int)≤i∧i<(at_.length:Int)) <|
     some (decide (((gi at_ a.toNat).Y)<((gi at_ i.toNat).Y)))
    else
     some false).bind fun t8 =>
    (if t8 then
     ck ((0:Int)≤i∧i<(at_.length:Int)) <|
     some (decide (((gi at_ i.toNat).Y)<((gi at_ (((gi l a.toNat).Next).get d:Int).toNat).Y)))
    else
     some false).bind fun t9 =>
    if t9 then
     some (.inr (.inr ()))
    else
     ck (ZaD (d+1)) <|
     some (.inl (d+1))
 else
  some (.inr (.inl ()))

def ZN.s0 (at_:List Zh) (l:List Za) (i:Int) (w:Int):Int→Option (Int⊕(Unit⊕Unit)):=fun a =>
 if decide (a<(l.length:Int)) then
  (
   ZZ (ZN.s1 at_ l i w a) big 0:Option (Unit⊕Unit)).bind fun o₃=>match o₃ with
  | .inl _ =>
   ck (ZaD (a+1)) <|
   some (.inl (a+1))
  | .inr _ =>
   some (.inr (.inr ()))
 else
  some (.inr (.inl ()))

def ZN (at_:List Zh) (l:List Za) (i:Int) (w:Int):Option Bool :=
 (
  ZZ (ZN.s0 at_ l i w) big 0:Option (Unit⊕Unit)).bind fun o₁=>match o₁ with
 | .inl _ =>
  some false
 | .inr _ =>
  some true

/-! muntin/muntinref10.with -/
def Zah.s0 (l:List Za) (v:Int) (d:Int) (w:Int) (o:Int):(List Za)×Int→Option (((List Za)×Int)⊕(List Za)):=fun (out,i) =>
 if decide (i<(l.length:Int)) then
  ck ((0:Int)≤i∧i<(l.length:Int)) <|
  (
   if decide (i=v) then
    ck ((0:Int)≤d∧d<4) <|
    some ({ { gi l i.toNat with Next:=((gi l i.toNat).Next).set d w } with Owner:=(({ gi l i.toNat with Next:=((gi l i.toNat).Next).set d w }).Owner).set d o })
   else
    some (gi l i.toNat)).bind fun c =>
  if decide (i=w) then
   ck (ZaD (d+2)) <|
   ck ((0:Int)≤((d+2).tmod 4)∧((d+2).tmod 4)<4) <|
   ck (out.length+[{ { c with Next:=c.Next.set ((d+2).tmod 4) v } with Owner:=(({ c with Next:=c.Next.set ((d+2).tmod 4) v }).Owner).set ((d+2).tmod 4) o }].length≤1000000000) <|
   ck (ZaD (i+1)) <|
   some (.inl (out++[{ { c with Next:=c.Next.set ((d+2).tmod 4) v } with Owner:=(({ c with Next:=c.Next.set ((d+2).tmod 4) v }).Owner).set ((d+2).tmod 4) o }],i+1))
  else
   ck (out.length+[c].length≤1000000000) <|
   ck (ZaD (i+1)) <|
   some (.inl (out++[c],i+1))
 else
  some (.inr out)

def Zah (l:List Za) (v:Int) (d:Int) (w:Int) (o:Int):Option (List Za) :=
 (ZZ (Zah.s0 l v d w o) big (([]:List Za),0)).bind fun out1 =>
 some out1

/-! muntin/muntinref10.Make -/
def ZC.s1 (z:zx) (at_:List Zh) (i:Int):Bool×Int→Option ((Bool×Int)⊕((List Zh)×Bool)):=fun (met,k_) =>
 if decide (k_<(at_.length:Int)) then
  (if met then
   some true
  else
   ck ((0:Int)≤k_∧k_<(at_.length:Int)) <|
   some (decide (gi at_ k_.toNat=(⟨(gi z.At i.toNat).tmod 8,((gi z.At i.toNat).tdiv 8).tmod 8⟩:Zh)))).bind fun t =>
  ck (ZaD (k_+1)) <|
  some (.inl (t,k_+1))
 else
  some (.inr (at_,met))

def ZC.s0 (z:zx) (most:Int):(List Zh)×Int→Option (((List Zh)×Int)⊕(List Zh)):=fun (at_,i) =>
 if (decide (i<(z.At.length:Int)))&&(decide ((at_.length:Int)<most)) then
  ck ((0:Int)≤i∧i<(z.At.length:Int)) <|
  ck (inK .i64 (gi z.At i.toNat)) <|
  ck ((8:Int)≠0∧ZaD ((gi z.At i.toNat).tdiv 8)) <|
  (ZZ (ZC.s1 z at_ i) big (false,0)).bind fun (at_2,met1) =>
  if !met1 then
   ck (at_2.length+[(⟨(gi z.At i.toNat).tmod 8,((gi z.At i.toNat).tdiv 8).tmod 8⟩:Zh)].length≤1000000000) <|
   ck (ZaD (i+1)) <|
   some (.inl (at_2++[(⟨(gi z.At i.toNat).tmod 8,((gi z.At i.toNat).tdiv 8).tmod 8⟩:Zh)],i+1))
  else
   ck (ZaD (i+1)) <|
   some (.inl (at_2,i+1))
 else
  some (.inr at_)

def ZC.s3 (i1:Int) (bits:Int) (at_6:List Zh) (own:Int):(List Za)×Int→Option (((List Za)×Int)⊕(List Za)):=fun (l4,d) =>
 if decide (d<2) then
  (ZO at_6 i1 d).bind fun x1 =>
  ck ((0:Int)≤d) <|
  if (decide (Z8 .u8 (zg .u8 bits d) 1=0))||(decide (x1<0)) then
   ck (ZaD (d+1)) <|
   some (.inl (l4,d+1))
  else
   (ZN at_6 l4 i1 x1).bind fun x2 =>
   if !x2 then
    (Zah l4 i1 d x1 own).bind fun x3 =>
    ck (ZaD (d+1)) <|
    some (.inl (x3,d+1))
   else
    ck (ZaD (d+1)) <|
    some (.inl (l4,d+1))
 else
  some (.inr l4)

def ZC.s2 (z:zx):(List Zh)×(List Za)×Int→Option (((List Zh)×(List Za)×Int)⊕((List Zh)×(List Za))):=fun (at_3,l,i1) =>
 if decide (i1<(at_3.length:Int)) then
  (
   if decide (i1<(z.Bits.length:Int)) then
    ck ((0:Int)≤i1∧i1<(z.Bits.length:Int)) <|
    some (at_3,l,gi z.Bits i1.toNat)
   else
    some (at_3,l,3)).bind fun (at_5,l2,bits) =>
  (
   if decide (i1<(z.Own.length:Int)) then
    ck ((0:Int)≤i1∧i1<(z.Own.length:Int)) <|
    ck (inK .i64 (gi z.Own i1.toNat)) <|
    if decide ((gi z.Own i1.toNat)<(-2)) then
     ck (ZaD (-(gi z.Own i1.toNat))) <|
     some (at_5,l2,-(gi z.Own i1.toNat))
    else
     some (at_5,l2,gi z.Own i1.toNat)
   else
    some (at_5,l2,i1)).bind fun (at_6,l3,own) =>
  (ZZ (ZC.s3 i1 bits at_6 own) big (l3,0)).bind fun l5 =>
  ck (ZaD (i1+1)) <|
  some (.inl (at_6,l5,i1+1))
 else
  some (.inr (at_3,l))

def ZC (z:zx) (most:Int):Option ((List Za)×(List Zh)) :=
 (ZZ (ZC.s0 z most) big (([]:List Zh),0)).bind fun at_1 =>
 (zu (at_1.length:Int)).bind fun x =>
 (ZZ (ZC.s2 z) big (at_1,x,0)).bind fun (at_4,l1) =>
 some (l1,at_4)

/-! muntin/compass.Good -/
def ZaK (d:Int):Option Bool :=
 some ((decide (0≤d))&&(decide (d≤3)))

/-! muntin/compass.Left -/
def ZaL (d:Int) (times:Int):Option Int :=
 (ZaK d).bind fun x =>
 if !x then
  some 0
 else
  ck (ZaD (d+(times.tmod 4))) <|
  ck (ZaD ((d+(times.tmod 4))+4)) <|
  some (((d+(times.tmod 4))+4).tmod 4)

/-! muntin/grid.side -/
def ZcS (cells:List Za) (v:Int) (d:Int):Option Int :=
 ck ((0:Int)≤v∧v<(cells.length:Int)) <|
 ck ((0:Int)≤d∧d<4) <|
 if decide (((gi cells v.toNat).Next).get d=(-1)) then
  if !(decide (((gi cells v.toNat).Owner).get d=0)) then
   some 9
  else
   some 0
 else
  if ((decide ((((gi cells v.toNat).Next).get d)<0))||(decide ((cells.length:Int)≤(((gi cells v.toNat).Next).get d))))||(decide (((gi cells v.toNat).Next).get d=v)) then
   some 3
  else
   (ZaL d 2).bind fun x =>
   ck ((0:Int)≤(((gi cells v.toNat).Next).get d)∧(((gi cells v.toNat).Next).get d)<(cells.length:Int)) <|
   ck ((0:Int)≤x∧x<4) <|
   if ((!(decide (((gi cells (((gi cells v.toNat).Next).get d:Int).toNat).Next).get x=v)))||(!(decide (((gi cells (((gi cells v.toNat).Next).get d:Int).toNat).Owner).get x=((gi cells v.toNat).Owner).get d))))||(decide ((((gi cells v.toNat).Owner).get d)<(-2))) then
    some 9
   else
    some 0

/-! muntin/grid.Check -/
def z9.s1 (cells:List Za) (x:Int):Int→Option (Int⊕(Unit⊕Int)):=fun x2 =>
 if decide (x2<4) then
  (ZcS cells x x2).bind fun x4 =>
  if !(decide (x4=0)) then
   some (.inr (.inr x4))
  else
   ck (ZaD (x2+1)) <|
   some (.inl (x2+1))
 else
  some (.inr (.inl ()))

def z9.s0 (cells:List Za):Int→Option (Int⊕(Unit⊕Int)):=fun x =>
 if decide (x<(cells.length:Int)) then
  (
   ZZ (z9.s1 cells x) big 0:Option (Unit⊕Int)).bind fun o₃=>match o₃ with
  | .inl _ =>
   ck (ZaD (x+1)) <|
   some (.inl (x+1))
  | .inr x3 =>
   some (.inr (.inr x3))
 else
  some (.inr (.inl ()))

def z9 (cells:List Za):Option Int :=
 if decide (4096<(cells.length:Int)) then
  some 6
 else
  (
   ZZ (z9.s0 cells) big 0:Option (Unit⊕Int)).bind fun o₁=>match o₁ with
  | .inl _ =>
   some 0
  | .inr x1 =>
   some x1

/-! math/bits.Mul64 -/
def Zd7 (x:Int) (y:Int):Option (Int×Int) :=
 some (ZaQ .u64 (ZaQ .u64 (zr .u64 (zg .u64 x 32) (zg .u64 y 32)) (zg .u64 (ZaQ .u64 (zr .u64 (zg .u64 x 32) (Z8 .u64 y 4294967295)) (zg .u64 (zr .u64 (Z8 .u64 x 4294967295) (Z8 .u64 y 4294967295)) 32)) 32)) (zg .u64 (ZaQ .u64 (Z8 .u64 (ZaQ .u64 (zr .u64 (zg .u64 x 32) (Z8 .u64 y 4294967295)) (zg .u64 (zr .u64 (Z8 .u64 x 4294967295) (Z8 .u64 y 4294967295)) 32)) 4294967295) (zr .u64 (Z8 .u64 x 4294967295) (zg .u64 y 32))) 32),zr .u64 x y)

/-! math/bits.Mul -/
def Zdp (x:Int) (y:Int):Option (Int×Int) :=
 (Zd7 x y).bind fun (x1,x2) =>
 some (x1,x2)

/-! slices.Repeat[[]int,int] -/
def zX.s0:(List Int)×Int→Option (((List Int)×Int)⊕(List Int)):=fun (newslice,n) =>
 if decide (n<(newslice.length:Int)) then
  ck ((0:Int)≤n∧n≤(newslice.length:Int)) <|
  ck (ZaD (n+((min (newslice.take n.toNat).length (newslice.drop n.toNat).length:Nat):Int))) <|
  some (.inl (newslice.take n.toNat++((newslice.take n.toNat).take (newslice.drop n.toNat).length++(newslice.drop n.toNat).drop (newslice.take n.toNat).length),n+((min (newslice.take n.toNat).length (newslice.drop n.toNat).length:Nat):Int)))
 else
  some (.inr newslice)

def zX (x:List Int) (count:Int):Option (List Int) :=
 (
  if decide (count<0) then
   none
  else
   some ()).bind fun _ =>
 ck (inK .u64 (x.length:Int)) <|
 ck (inK .u64 count) <|
 (Zdp (x.length:Int) count).bind fun (x1,x2) =>
 (
  if (decide (0<x1))||(decide (9223372036854775807<x2)) then
   none
  else
   some ()).bind fun _ =>
 ck (inK .i64 x2) <|
 ck ((0:Int)≤x2∧x2≤1000000000) <|
 (ZZ zX.s0 big (x.take (List.replicate x2.toNat (0:Int)).length++(List.replicate x2.toNat (0:Int)).drop x.length,((min x.length (List.replicate x2.toNat (0:Int)).length:Nat):Int))).bind fun newslice1 =>
 some newslice1

/-! muntin/join.spread -/
def Za1.s1 (cells:List Za) (l:List Int):(List Int)×(List Int)×(List Int)×(List Bool)×Int→Option (((List Int)×(List Int)×(List Int)×(List Bool)×Int)⊕((List Int)×(List Int)×(List Int)×(List Bool))):=fun (from_2,dir2,l1,met1,x2) =>
 if decide (x2<4) then
  ck ((0:Int)≤(gi l (0:Int).toNat)∧(gi l (0:Int).toNat)<(cells.length:Int)) <|
  ck ((0:Int)≤x2∧x2<4) <|
  (if decide (0≤(((gi cells (gi l (0:Int).toNat:Int).toNat).Next).get x2)) then
   ck ((0:Int)≤(((gi cells (gi l (0:Int).toNat:Int).toNat).Next).get x2)∧(((gi cells (gi l (0:Int).toNat:Int).toNat).Next).get x2)<(met1.length:Int)) <|
   some (!(gi met1 (((gi cells (gi l (0:Int).toNat:Int).toNat).Next).get x2:Int).toNat))
  else
   some false).bind fun t =>
  if t then
   ck ((0:Int)≤(((gi cells (gi l (0:Int).toNat:Int).toNat).Next).get x2)∧(((gi cells (gi l (0:Int).toNat:Int).toNat).Next).get x2)<(met1.length:Int)) <|
   ck ((0:Int)≤(((gi cells (gi l (0:Int).toNat:Int).toNat).Next).get x2)∧(((gi cells (gi l (0:Int).toNat:Int).toNat).Next).get x2)<(from_2.length:Int)) <|
   ck ((0:Int)≤(((gi cells (gi l (0:Int).toNat:Int).toNat).Next).get x2)∧(((gi cells (gi l (0:Int).toNat:Int).toNat).Next).get x2)<(dir2.length:Int)) <|
   ck (l1.length+[((gi cells (gi l (0:Int).toNat:Int).toNat).Next).get x2].length≤1000000000) <|
   ck (ZaD (x2+1)) <|
   some (.inl (from_2.set (((gi cells (gi l (0:Int).toNat:Int).toNat).Next).get x2:Int).toNat (gi l (0:Int).toNat),dir2.set (((gi cells (gi l (0:Int).toNat:Int).toNat).Next).get x2:Int).toNat x2,l1++[((gi cells (gi l (0:Int).toNat:Int).toNat).Next).get x2],met1.set (((gi cells (gi l (0:Int).toNat:Int).toNat).Next).get x2:Int).toNat true,x2+1))
  else
   ck (ZaD (x2+1)) <|
   some (.inl (from_2,dir2,l1,met1,x2+1))
 else
  some (.inr (from_2,dir2,l1,met1))

def Za1.s0 (cells:List Za):(List Int)×(List Int)×(List Int)×(List Bool)→Option (((List Int)×(List Int)×(List Int)×(List Bool))⊕((List Int)×(List Int))):=fun (from_,dir,l,met) =>
 if decide (0<(l.length:Int)) then
  ck ((0:Int)≤0∧0<(l.length:Int)) <|
  ck ((0:Int)≤1∧1≤(l.length:Int)) <|
  (ZZ (Za1.s1 cells l) big (from_,dir,l.drop (1:Int).toNat,met,0)).bind fun (from_3,dir3,l2,met2) =>
  some (.inl (from_3,dir3,l2,met2))
 else
  some (.inr (from_,dir))

def Za1 (cells:List Za) (v:Int):Option ((List Int)×(List Int)) :=
 (zX ([(-1)]:List Int) (cells.length:Int)).bind fun x =>
 (zX ([(-1)]:List Int) (cells.length:Int)).bind fun x1 =>
 ck ((0:Int)≤(cells.length:Int)∧(cells.length:Int)≤1000000000) <|
 ck ((0:Int)≤v∧v<((List.replicate ((cells.length:Int):Int).toNat false).length:Int)) <|
 (ZZ (Za1.s0 cells) big (x,x1,[v],(List.replicate ((cells.length:Int):Int).toNat false).set v.toNat true)).bind fun (from_1,dir1) =>
 some (from_1,dir1)

/-! muntin/join.Parts -/
def Za9.s1 (cells:List Za) (x1:Int) (x3:List Int):(List Bool)×(List Int)×Int→Option (((List Bool)×(List Int)×Int)⊕((List Bool)×(List Int))):=fun (met1,part,x4) =>
 if decide (x4<(cells.length:Int)) then
  (if decide (x4=x1) then
   some true
  else
   ck ((0:Int)≤x4∧x4<(x3.length:Int)) <|
   some (decide (0≤(gi x3 x4.toNat)))).bind fun t =>
  if t then
   ck ((0:Int)≤x4∧x4<(met1.length:Int)) <|
   ck (part.length+[x4].length≤1000000000) <|
   ck (ZaD (x4+1)) <|
   some (.inl (met1.set x4.toNat true,part++[x4],x4+1))
  else
   ck (ZaD (x4+1)) <|
   some (.inl (met1,part,x4+1))
 else
  some (.inr (met1,part))

def Za9.s0 (cells:List Za):(List (List Int))×(List Bool)×Int→Option (((List (List Int))×(List Bool)×Int)⊕(List (List Int))):=fun (l,met,x1) =>
 if decide (x1<(cells.length:Int)) then
  ck ((0:Int)≤x1∧x1<(met.length:Int)) <|
  if gi met x1.toNat then
   ck (ZaD (x1+1)) <|
   some (.inl (l,met,x1+1))
  else
   (Za1 cells x1).bind fun (x2,x3) =>
   (ZZ (Za9.s1 cells x1 x3) big (met,[],0)).bind fun (met2,part1) =>
   ck (l.length+1≤1000000000) <|
   ck (ZaD (x1+1)) <|
   some (.inl (l++[part1],met2,x1+1))
 else
  some (.inr l)

def Za9 (cells:List Za):Option ((List (List Int))×Int) :=
 (z9 cells).bind fun x =>
 if !(decide (x=0)) then
  some (([]:List (List Int)),x)
 else
  ck ((0:Int)≤(cells.length:Int)∧(cells.length:Int)≤1000000000) <|
  (ZZ (Za9.s0 cells) big (([]:List (List Int)),List.replicate ((cells.length:Int):Int).toNat false,0)).bind fun l1 =>
  some (l1,0)

/-! muntin/join.Whole -/
def ZcE (cells:List Za):Option Bool :=
 (Za9 cells).bind fun (x,x1) =>
 some ((decide (x1=0))&&(decide ((x.length:Int)=1)))

/-! (muntin/face.Dart).is -/
def Zbl (d:Zr) (cells:List Za):Option Bool :=
 if decide (0≤d.Cell) then
  if decide (d.Cell<(cells.length:Int)) then
   (ZaK d.Dir).bind fun x =>
   if x then
    ck ((0:Int)≤d.Cell∧d.Cell<(cells.length:Int)) <|
    ck ((0:Int)≤d.Dir∧d.Dir<4) <|
    some (decide (0≤(((gi cells (d.Cell:Int).toNat).Next).get d.Dir)))
   else
    some false
  else
   some false
 else
  some false

/-! (muntin/face.Dart).behind -/
def zT.s0 (d:Zr) (cells:List Za):Int→Option (Int⊕(Unit⊕Zr)):=fun x =>
 if decide (x<4) then
  ck ((0:Int)≤x∧x<4) <|
  (ZaL d.Dir ((⟨1,0,(-1),2⟩:A4 Int).get x)).bind fun x2 =>
  (Zbl (⟨((gi cells (d.Cell:Int).toNat).Next).get d.Dir,x2⟩:Zr) cells).bind fun x3 =>
  if x3 then
   some (.inr (.inr (⟨((gi cells (d.Cell:Int).toNat).Next).get d.Dir,x2⟩:Zr)))
  else
   ck (ZaD (x+1)) <|
   some (.inl (x+1))
 else
  some (.inr (.inl ()))

def zT (d:Zr) (cells:List Za):Option Zr :=
 ck ((0:Int)≤d.Cell∧d.Cell<(cells.length:Int)) <|
 ck ((0:Int)≤d.Dir∧d.Dir<4) <|
 (
  ZZ (zT.s0 d cells) big 0:Option (Unit⊕Zr)).bind fun o₁=>match o₁ with
 | .inl _ =>
  some d
 | .inr x1 =>
  some x1

/-! muntin/face.Faces -/
def zw.s2 (cells:List Za):(List (Zr×Bool))×(List Zr)×Zr→Option (((List (Zr×Bool))×(List Zr)×Zr)⊕((List (Zr×Bool))×(List Zr))):=fun (met3,f,x4) =>
 if !(Zf0 false x4 met3) then
  ck (f.length+[x4].length≤1000000000) <|
  (zT x4 cells).bind fun x5 =>
  some (.inl (Zfa x4 true met3,f++[x4],x5))
 else
  some (.inr (met3,f))

def zw.s1 (cells:List Za) (x1:Int):(List (List Zr))×(List (Zr×Bool))×Int→Option (((List (List Zr))×(List (Zr×Bool))×Int)⊕((List (List Zr))×(List (Zr×Bool)))):=fun (l2,met1,x2) =>
 if decide (x2<4) then
  (Zbl (⟨x1,x2⟩:Zr) cells).bind fun x3 =>
  if (!x3)||(Zf0 false (⟨x1,x2⟩:Zr) met1) then
   ck (ZaD (x2+1)) <|
   some (.inl (l2,met1,x2+1))
  else
   (ZZ (zw.s2 cells) big (met1,([]:List Zr),(⟨x1,x2⟩:Zr))).bind fun (met4,f1) =>
   ck (l2.length+1≤1000000000) <|
   ck (ZaD (x2+1)) <|
   some (.inl (l2++[f1],met4,x2+1))
 else
  some (.inr (l2,met1))

def zw.s0 (cells:List Za):(List (List Zr))×(List (Zr×Bool))×Int→Option (((List (List Zr))×(List (Zr×Bool))×Int)⊕(List (List Zr))):=fun (l,met,x1) =>
 if decide (x1<(cells.length:Int)) then
  (ZZ (zw.s1 cells x1) big (l,met,0)).bind fun (l3,met2) =>
  ck (ZaD (x1+1)) <|
  some (.inl (l3,met2,x1+1))
 else
  some (.inr l)

def zw (cells:List Za):Option ((List (List Zr))×Int) :=
 (z9 cells).bind fun x =>
 if !(decide (x=0)) then
  some (([]:List (List Zr)),x)
 else
  (ZZ (zw.s0 cells) big (([]:List (List Zr)),([]:List (Zr×Bool)),0)).bind fun l1 =>
  some (l1,0)

/-! muntin/compass.Turn -/
def Zco (d:Int) (e_:Int):Option Int :=
 (ZaK d).bind fun x =>
 (if !x then
  some true
 else
  (ZaK e_).bind fun x1 =>
  some (!x1)).bind fun t =>
 if t then
  some 0
 else
  ck (ZaD (e_-d)) <|
  ck (ZaD ((e_-d)+4)) <|
  ck ((0:Int)≤(((e_-d)+4).tmod 4)∧(((e_-d)+4).tmod 4)<4) <|
  some ((⟨0,1,(-2),(-1)⟩:A4 Int).get (((e_-d)+4).tmod 4))

/-! muntin/face.Turns -/
def Za8.s0 (cells:List Za) (f:List Zr):(List Int)×Int→Option (((List Int)×Int)⊕(List Int)):=fun (l,x1) =>
 if decide (x1<(f.length:Int)) then
  ck ((0:Int)≤x1∧x1<(f.length:Int)) <|
  (Zbl (gi f x1.toNat) cells).bind fun x2 =>
  if x2 then
   (zT (gi f x1.toNat) cells).bind fun x3 =>
   (Zco ((gi f x1.toNat).Dir) x3.Dir).bind fun x4 =>
   ck ((0:Int)≤x1∧x1<(l.length:Int)) <|
   ck (ZaD (x1+1)) <|
   some (.inl (l.set x1.toNat x4,x1+1))
  else
   ck (ZaD (x1+1)) <|
   some (.inl (l,x1+1))
 else
  some (.inr l)

def Za8 (cells:List Za) (f:List Zr):Option (List Int) :=
 ck ((0:Int)≤(f.length:Int)∧(f.length:Int)≤1000000000) <|
 (z9 cells).bind fun x =>
 if !(decide (x=0)) then
  some (List.replicate ((f.length:Int):Int).toNat (0:Int))
 else
  (ZZ (Za8.s0 cells f) big (List.replicate ((f.length:Int):Int).toNat (0:Int),0)).bind fun l1 =>
  some l1

/-! muntin/face.Rotation -/
def ZaX.s0 (turns:List Int):Int×Int→Option ((Int×Int)⊕Int):=fun (n,x) =>
 if decide (x<(turns.length:Int)) then
  ck ((0:Int)≤x∧x<(turns.length:Int)) <|
  if (decide ((-2)≤(gi turns x.toNat)))&&(decide ((gi turns x.toNat)≤1)) then
   ck (ZaD (n+(gi turns x.toNat))) <|
   ck (ZaD (x+1)) <|
   some (.inl (n+(gi turns x.toNat),x+1))
  else
   ck (ZaD (x+1)) <|
   some (.inl (n,x+1))
 else
  some (.inr n)

def ZaX (turns:List Int):Option Int :=
 (ZZ (ZaX.s0 turns) big (0,0)).bind fun n1 =>
 some n1

/-! muntin/valid.outer -/
def ZaT.s0 (cells:List Za) (x:List (List Zr)):Int×Int→Option ((Int×Int)⊕(Int⊕Unit)):=fun (at_,x2) =>
 if decide (x2<(x.length:Int)) then
  ck ((0:Int)≤x2∧x2<(x.length:Int)) <|
  (Za8 cells (gi x x2.toNat)).bind fun x3 =>
  (ZaX x3).bind fun x4 =>
  if decide (x4=4) then
   ck (ZaD (x2+1)) <|
   some (.inl (at_,x2+1))
  else
   if decide (x4=(-4)) then
    if decide (0≤at_) then
     some (.inr (.inr ()))
    else
     ck (ZaD (x2+1)) <|
     some (.inl (x2,x2+1))
   else
    some (.inr (.inr ()))
 else
  some (.inr (.inl at_))

def ZaT (cells:List Za):Option (Int×Bool) :=
 (zw cells).bind fun (x,x1) =>
 (
  ZZ (ZaT.s0 cells x) big ((-1),0):Option (Int⊕Unit)).bind fun o₁=>match o₁ with
 | .inl at_1 =>
  some (at_1,decide (0≤at_1))
 | .inr _ =>
  some (0,false)

/-! muntin/valid.Check -/
def ZbX (cells:List Za):Option Int :=
 (z9 cells).bind fun x =>
 if !(decide (x=0)) then
  some x
 else
  (ZcE cells).bind fun x1 =>
  if !x1 then
   some 13
  else
   (ZaT cells).bind fun (x2,x3) =>
   if (!x3)&&(decide (1<(cells.length:Int))) then
    some 10
   else
    some 0

/-! muntin/valid.Outer -/
def ZbY (cells:List Za):Option (Int×Int) :=
 (ZbX cells).bind fun x =>
 if !(decide (x=0)) then
  some (0,x)
 else
  (ZaT cells).bind fun (x1,x2) =>
  if !x2 then
   some (0,2)
  else
   some (x1,0)

/-! slices.IndexFunc[[]int,int] -/
def za.s0 (s:List Int) (f:Int→Option Bool):Int→Option (Int⊕(Unit⊕Int)):=fun x =>
 if decide (x<(s.length:Int)) then
  ck ((0:Int)≤x∧x<(s.length:Int)) <|
  (f (gi s x.toNat)).bind fun x2 =>
  if x2 then
   some (.inr (.inr x))
  else
   ck (ZaD (x+1)) <|
   some (.inl (x+1))
 else
  some (.inr (.inl ()))

def za (s:List Int) (f:Int→Option Bool):Option Int :=
 (
  ZZ (za.s0 s f) big 0:Option (Unit⊕Int)).bind fun o₁=>match o₁ with
 | .inl _ =>
  some (-1)
 | .inr x1 =>
  some x1

/-! slices.ContainsFunc[[]int,int] -/
def Zbg (s:List Int) (f:Int→Option Bool):Option Bool :=
 (za s f).bind fun x =>
 some (decide (0≤x))

/-! muntin/front.right$1 -/
def Zcu (t:Int):Option Bool :=
 some ((decide (t<(-2)))||(decide (1<t)))

/-! muntin/front.right -/
def ZbW (turns:List Int):Option Bool :=
 (Zbg turns (fun y0=>Zcu y0)).bind fun x =>
 some (!x)

/-! muntin/front.Of -/
def Zba.s0 (turns:List Int) (i:Int):Int×Int→Option ((Int×Int)⊕(Unit⊕Int)):=fun (sum,x1) =>
 if decide (x1<(turns.length:Int)) then
  ck (ZaD (i+x1)) <|
  ck (((turns.length:Int):Int)≠0) <|
  ck ((0:Int)≤((i+x1).tmod (turns.length:Int))∧((i+x1).tmod (turns.length:Int))<(turns.length:Int)) <|
  ck (ZaD (sum+(gi turns ((i+x1).tmod (turns.length:Int):Int).toNat))) <|
  if decide (sum+(gi turns ((i+x1).tmod (turns.length:Int):Int).toNat)=1) then
   ck (ZaD (((i+x1).tmod (turns.length:Int))+1)) <|
   some (.inr (.inr ((((i+x1).tmod (turns.length:Int))+1).tmod (turns.length:Int))))
  else
   ck (ZaD (x1+1)) <|
   some (.inl (sum+(gi turns ((i+x1).tmod (turns.length:Int):Int).toNat),x1+1))
 else
  some (.inr (.inl ()))

def Zba (turns:List Int) (i:Int):Option (Int×Bool) :=
 (ZbW turns).bind fun x =>
 (if ((!x)||(decide (i<0)))||(decide ((turns.length:Int)≤i)) then
  some true
 else
  ck ((0:Int)≤i∧i<(turns.length:Int)) <|
  some (decide (0≤(gi turns i.toNat)))).bind fun t =>
 if t then
  some (0,false)
 else
  (
   ZZ (Zba.s0 turns i) big (0,0):Option (Unit⊕Int)).bind fun o₁=>match o₁ with
  | .inl _ =>
   some (0,false)
  | .inr x2 =>
   some (x2,true)

/-! muntin/front.Open -/
def Zb5.s0 (turns:List Int):Int→Option (Int⊕(Unit⊕Int)):=fun x1 =>
 if decide (x1<(turns.length:Int)) then
  ck ((0:Int)≤x1∧x1<(turns.length:Int)) <|
  (Zba turns x1).bind fun (x3,x4) =>
  if (decide ((gi turns x1.toNat)<0))&&(!x4) then
   some (.inr (.inr x1))
  else
   ck (ZaD (x1+1)) <|
   some (.inl (x1+1))
 else
  some (.inr (.inl ()))

def Zb5 (turns:List Int):Option (Int×Bool) :=
 (ZbW turns).bind fun x =>
 if !x then
  some (0,false)
 else
  (
   ZZ (Zb5.s0 turns) big 0:Option (Unit⊕Int)).bind fun o₁=>match o₁ with
  | .inl _ =>
   some (0,false)
  | .inr x2 =>
   some (x2,true)

/-! muntin/rect.outside -/
def ZbK (cells:List Za):Option (Zr×Int) :=
 (ZbY cells).bind fun (x,x1) =>
 if !(decide (x1=0)) then
  some ((⟨(0:Int),(0:Int)⟩:Zr),x1)
 else
  (zw cells).bind fun (x2,x3) =>
  ck ((0:Int)≤x∧x<(x2.length:Int)) <|
  (Za8 cells (gi x2 x.toNat)).bind fun x4 =>
  (Zb5 x4).bind fun (x5,x6) =>
  ck ((0:Int)≤x5∧x5<((gi x2 x.toNat).length:Int)) <|
  some (gi (gi x2 x.toNat) x5.toNat,0)

/-! slices.Clone[[]muntin/api.Cell,muntin/api.Cell] -/
def Zaa (s:List Za):Option (List Za) :=
 ck (s.length≤1000000000) <|
 some s
/-! muntin/grid.Of -/
def ZdM (cells:List Za):Option ((Option ZK)×Int) :=
 (z9 cells).bind fun x =>
 if !(decide (x=0)) then
  some (none,x)
 else
  (Zaa cells).bind fun x1 =>
  some (some (⟨x1⟩:ZK),0)

/-! (*muntin/grid.Grid).Len -/
def ZaI (g:ZK):Option Int :=
 some (g.cells.length:Int)

/-! (*muntin/grid.Grid).is -/
def Zbb (g:ZK) (v:Int) (d:Int):Option Bool :=
 (if decide (0≤v) then
  (ZaI g).bind fun x =>
  some (decide (v<x))
 else
  some false).bind fun t =>
 (if t then
  (ZaK d).bind fun x1 =>
  some x1
 else
  some false).bind fun t1 =>
 some t1

/-! (*muntin/grid.Grid).Next -/
def ZaG (g:ZK) (v:Int) (d:Int):Option (Int×Int×Bool) :=
 (Zbb g v d).bind fun x =>
 (if !x then
  some true
 else
  ck ((0:Int)≤v∧v<(g.cells.length:Int)) <|
  ck ((0:Int)≤d∧d<4) <|
  some (decide (((gi g.cells v.toNat).Next).get d=(-1)))).bind fun t =>
 if t then
  some (0,0,false)
 else
  ck ((0:Int)≤v∧v<(g.cells.length:Int)) <|
  ck ((0:Int)≤d∧d<4) <|
  some (((gi g.cells v.toNat).Next).get d,((gi g.cells v.toNat).Owner).get d,true)

/-! muntin/grid.empty -/
def ZcV:Option Za :=
 some (⟨(⟨(-1),(-1),(-1),(-1)⟩:A4 Int),(⟨0,0,0,0⟩:A4 Int)⟩:Za)

/-! (*muntin/grid.Grid).Add -/
def Zb6 (g:ZK):Option (Int×Int×ZK) :=
 (ZaI g).bind fun x =>
 if decide (x=4096) then
  some (0,6,g)
 else
  (ZcV ).bind fun x1 =>
  ck (g.cells.length+[x1].length≤1000000000) <|
  (ZaI (⟨g.cells++[x1]⟩:ZK)).bind fun x2 =>
  ck (ZaD (x2-1)) <|
  some (x2-1,0,(⟨g.cells++[x1]⟩:ZK))

/-! (*muntin/grid.Grid).lay -/
def Zbm (g:ZK) (v:Int) (d:Int) (w:Int) (owner:Int):Option ZK :=
 (ZaL d 2).bind fun x =>
 ck ((0:Int)≤v∧v<(g.cells.length:Int)) <|
 ck ((0:Int)≤d∧d<4) <|
 ck ((0:Int)≤v∧v<((g.cells.set v.toNat ({ gi g.cells v.toNat with Next:=((gi g.cells v.toNat).Next).set d w })).length:Int)) <|
 ck ((0:Int)≤w∧w<(((g.cells.set v.toNat ({ gi g.cells v.toNat with Next:=((gi g.cells v.toNat).Next).set d w })).set v.toNat ({ gi (g.cells.set v.toNat ({ gi g.cells v.toNat with Next:=((gi g.cells v.toNat).Next).set d w })) v.toNat with Owner:=((gi (g.cells.set v.toNat ({ gi g.cells v.toNat with Next:=((gi g.cells v.toNat).Next).set d w })) v.toNat).Owner).set d owner })).length:Int)) <|
 ck ((0:Int)≤x∧x<4) <|
 ck ((0:Int)≤w∧w<((((g.cells.set v.toNat ({ gi g.cells v.toNat with Next:=((gi g.cells v.toNat).Next).set d w })).set v.toNat ({ gi (g.cells.set v.toNat ({ gi g.cells v.toNat with Next:=((gi g.cells v.toNat).Next).set d w })) v.toNat with Owner:=((gi (g.cells.set v.toNat ({ gi g.cells v.toNat with Next:=((gi g.cells v.toNat).Next).set d w })) v.toNat).Owner).set d owner })).set w.toNat ({ gi ((g.cells.set v.toNat ({ gi g.cells v.toNat with Next:=((gi g.cells v.toNat).Next).set d w })).set v.toNat ({ gi (g.cells.set v.toNat ({ gi g.cells v.toNat with Next:=((gi g.cells v.toNat).Next).set d w })) v.toNat with Owner:=((gi (g.cells.set v.toNat ({ gi g.cells v.toNat with Next:=((gi g.cells v.toNat).Next).set d w })) v.toNat).Owner).set d owner })) w.toNat with Next:=((gi ((g.cells.set v.toNat ({ gi g.cells v.toNat with Next:=((gi g.cells v.toNat).Next).set d w })).set v.toNat ({ gi (g.cells.set v.toNat ({ gi g.cells v.toNat with Next:=((gi g.cells v.toNat).Next).set d w })) v.toNat with Owner:=((gi (g.cells.set v.toNat ({ gi g.cells v.toNat with Next:=((gi g.cells v.toNat).Next).set d w })) v.toNat).Owner).set d owner })) w.toNat).Next).set x v })).length:Int)) <|
 some (⟨(((g.cells.set v.toNat ({ gi g.cells v.toNat with Next:=((gi g.cells v.toNat).Next).set d w })).set v.toNat ({ gi (g.cells.set v.toNat ({ gi g.cells v.toNat with Next:=((gi g.cells v.toNat).Next).set d w })) v.toNat with Owner:=((gi (g.cells.set v.toNat ({ gi g.cells v.toNat with Next:=((gi g.cells v.toNat).Next).set d w })) v.toNat).Owner).set d owner })).set w.toNat ({ gi ((g.cells.set v.toNat ({ gi g.cells v.toNat with Next:=((gi g.cells v.toNat).Next).set d w })).set v.toNat ({ gi (g.cells.set v.toNat ({ gi g.cells v.toNat with Next:=((gi g.cells v.toNat).Next).set d w })) v.toNat with Owner:=((gi (g.cells.set v.toNat ({ gi g.cells v.toNat with Next:=((gi g.cells v.toNat).Next).set d w })) v.toNat).Owner).set d owner })) w.toNat with Next:=((gi ((g.cells.set v.toNat ({ gi g.cells v.toNat with Next:=((gi g.cells v.toNat).Next).set d w })).set v.toNat ({ gi (g.cells.set v.toNat ({ gi g.cells v.toNat with Next:=((gi g.cells v.toNat).Next).set d w })) v.toNat with Owner:=((gi (g.cells.set v.toNat ({ gi g.cells v.toNat with Next:=((gi g.cells v.toNat).Next).set d w })) v.toNat).Owner).set d owner })) w.toNat).Next).set x v })).set w.toNat ({ gi (((g.cells.set v.toNat ({ gi g.cells v.toNat with Next:=((gi g.cells v.toNat).Next).set d w })).set v.toNat ({ gi (g.cells.set v.toNat ({ gi g.cells v.toNat with Next:=((gi g.cells v.toNat).Next).set d w })) v.toNat with Owner:=((gi (g.cells.set v.toNat ({ gi g.cells v.toNat with Next:=((gi g.cells v.toNat).Next).set d w })) v.toNat).Owner).set d owner })).set w.toNat ({ gi ((g.cells.set v.toNat ({ gi g.cells v.toNat with Next:=((gi g.cells v.toNat).Next).set d w })).set v.toNat ({ gi (g.cells.set v.toNat ({ gi g.cells v.toNat with Next:=((gi g.cells v.toNat).Next).set d w })) v.toNat with Owner:=((gi (g.cells.set v.toNat ({ gi g.cells v.toNat with Next:=((gi g.cells v.toNat).Next).set d w })) v.toNat).Owner).set d owner })) w.toNat with Next:=((gi ((g.cells.set v.toNat ({ gi g.cells v.toNat with Next:=((gi g.cells v.toNat).Next).set d w })).set v.toNat ({ gi (g.cells.set v.toNat ({ gi g.cells v.toNat with Next:=((gi g.cells v.toNat).Next).set d w })) v.toNat with Owner:=((gi (g.cells.set v.toNat ({ gi g.cells v.toNat with Next:=((gi g.cells v.toNat).Next).set d w })) v.toNat).Owner).set d owner })) w.toNat).Next).set x v })) w.toNat with Owner:=((gi (((g.cells.set v.toNat ({ gi g.cells v.toNat with Next:=((gi g.cells v.toNat).Next).set d w })).set v.toNat ({ gi (g.cells.set v.toNat ({ gi g.cells v.toNat with Next:=((gi g.cells v.toNat).Next).set d w })) v.toNat with Owner:=((gi (g.cells.set v.toNat ({ gi g.cells v.toNat with Next:=((gi g.cells v.toNat).Next).set d w })) v.toNat).Owner).set d owner })).set w.toNat ({ gi ((g.cells.set v.toNat ({ gi g.cells v.toNat with Next:=((gi g.cells v.toNat).Next).set d w })).set v.toNat ({ gi (g.cells.set v.toNat ({ gi g.cells v.toNat with Next:=((gi g.cells v.toNat).Next).set d w })) v.toNat with Owner:=((gi (g.cells.set v.toNat ({ gi g.cells v.toNat with Next:=((gi g.cells v.toNat).Next).set d w })) v.toNat).Owner).set d owner })) w.toNat with Next:=((gi ((g.cells.set v.toNat ({ gi g.cells v.toNat with Next:=((gi g.cells v.toNat).Next).set d w })).set v.toNat ({ gi (g.cells.set v.toNat ({ gi g.cells v.toNat with Next:=((gi g.cells v.toNat).Next).set d w })) v.toNat with Owner:=((gi (g.cells.set v.toNat ({ gi g.cells v.toNat with Next:=((gi g.cells v.toNat).Next).set d w })) v.toNat).Owner).set d owner })) w.toNat).Next).set x v })) w.toNat).Owner).set x owner })⟩:ZK)

/-! (*muntin/grid.Grid).Join -/
def zK (g:ZK) (v:Int) (d:Int) (w:Int) (owner:Int):Option (Int×ZK) :=
 (Zbb g v d).bind fun x =>
 (if !x then
  some true
 else
  (Zbb g w d).bind fun x1 =>
  some (!x1)).bind fun t =>
 if (t||(decide (v=w)))||(decide (owner<(-2))) then
  some (2,g)
 else
  (
   ck ((0:Int)≤v∧v<(g.cells.length:Int)) <|
   ck ((0:Int)≤d∧d<4) <|
   if !(decide (((gi g.cells v.toNat).Next).get d=(-1))) then
    some true
   else
    (ZaL d 2).bind fun x3 =>
    ck ((0:Int)≤w∧w<(g.cells.length:Int)) <|
    ck ((0:Int)≤x3∧x3<4) <|
    some (!(decide (((gi g.cells w.toNat).Next).get x3=(-1))))).bind fun x2 =>
  if x2 then
   some (9,g)
  else
   (Zbm g v d w owner).bind fun m =>
   some (0,m)

/-! muntin/rect.frame -/
def ZaA.s0:(List Za)×Int→Option (((List Za)×Int)⊕(List Za)):=fun (g1,x4) =>
 if decide (x4<5) then
  (Zb6 (⟨g1⟩:ZK)).bind fun (x5,x6,m) =>
  ck (ZaD (x4+1)) <|
  some (.inl (m.cells,x4+1))
 else
  some (.inr g1)

def ZaA.s1 (d:Zr) (x3:Int):(List Za)×Int→Option (((List Za)×Int)⊕(List Za)):=fun (g3,x7) =>
 if decide (x7<4) then
  ck (ZaD (x7+3)) <|
  ck (ZaD (x3+x7)) <|
  ck (ZaD (x7+1)) <|
  ck (ZaD (x3+((x7+1).tmod 4))) <|
  if decide ((x7+3).tmod 4=d.Dir) then
   ck (ZaD (x3+4)) <|
   (zK (⟨g3⟩:ZK) (x3+x7) x7 (x3+4) (-2)).bind fun (x8,m1) =>
   (zK m1 (x3+4) x7 (x3+((x7+1).tmod 4)) (-2)).bind fun (x9,m2) =>
   some (.inl (m2.cells,x7+1))
  else
   (zK (⟨g3⟩:ZK) (x3+x7) x7 (x3+((x7+1).tmod 4)) (-2)).bind fun (x10,m3) =>
   some (.inl (m3.cells,x7+1))
 else
  some (.inr g3)

def ZaA (g:ZK) (d:Zr):Option ZK :=
 (ZaG g d.Cell d.Dir).bind fun (x,x1,x2) =>
 (ZaI g).bind fun x3 =>
 (ZZ ZaA.s0 big (g.cells,0)).bind fun g2 =>
 (ZZ (ZaA.s1 d x3) big (g2,0)).bind fun g4 =>
 ck (ZaD (x3+4)) <|
 (zK (⟨g4⟩:ZK) x d.Dir (x3+4) (-2)).bind fun (x11,m4) =>
 some m4

/-! muntin/rect.framed -/
def Zbu (cells:List Za):Option ((Option ZK)×Int) :=
 (ZbK cells).bind fun (x,x1) =>
 if !(decide (x1=0)) then
  some (none,x1)
 else
  ck (ZaD ((cells.length:Int)+4)) <|
  ck (ZaD (((cells.length:Int)+4)+1)) <|
  if decide (4096<(((cells.length:Int)+4)+1)) then
   some (none,6)
  else
   (ZdM cells).bind fun (x2,x3) =>
   (x2).bind fun g =>
   (ZaA g x).bind fun m =>
   some (some m,0)

/-! (*muntin/grid.Grid).Cells -/
def ZaR (g:ZK):Option (List Za) :=
 (Zaa g.cells).bind fun x =>
 some x

/-! muntin/front.First$1 -/
def ZbO (t:Int):Option Bool :=
 some (decide (t<0))

/-! muntin/front.First -/
def ZaS.s0 (cells:List Za) (x:Int) (x2:List (List Zr)):Int→Option (Int⊕(Unit⊕(Int×Int))):=fun x4 =>
 if decide (x4<(x2.length:Int)) then
  ck ((0:Int)≤x4∧x4<(x2.length:Int)) <|
  (Za8 cells (gi x2 x4.toNat)).bind fun x7 =>
  (za x7 (fun y0=>ZbO y0)).bind fun x8 =>
  if (!(decide (x4=x)))&&(decide (0≤x8)) then
   some (.inr (.inr (x4,x8)))
  else
   ck (ZaD (x4+1)) <|
   some (.inl (x4+1))
 else
  some (.inr (.inl ()))

def ZaS (cells:List Za):Option (Int×Int×Bool) :=
 (ZbY cells).bind fun (x,x1) =>
 if !(decide (x1=0)) then
  some (0,0,false)
 else
  (zw cells).bind fun (x2,x3) =>
  (
   ZZ (ZaS.s0 cells x x2) big 0:Option (Unit⊕(Int×Int))).bind fun o₁=>match o₁ with
  | .inl _ =>
   some (0,0,false)
  | .inr (x5,x6) =>
   some (x5,x6,true)

/-! (*muntin/grid.Grid).Split -/
def Zb0 (g:ZK) (v:Int) (d:Int):Option (Int×Int×ZK) :=
 (Zbb g v d).bind fun x =>
 if !x then
  some (0,2,g)
 else
  (ZaG g v d).bind fun (x1,x2,x3) =>
  if !x3 then
   some (0,9,g)
  else
   (Zb6 g).bind fun (x4,x5,m) =>
   if !(decide (x5=0)) then
    some (0,x5,m)
   else
    (Zbm m v d x4 x2).bind fun m1 =>
    (Zbm m1 x4 d x1 x2).bind fun m2 =>
    some (x4,0,m2)

/-! muntin/rect.cut -/
def ZcT (g:ZK):Option (Bool×Int×ZK) :=
 (ZaR g).bind fun x =>
 (ZaS x).bind fun (x1,x2,x3) =>
 if !x3 then
  some (false,0,g)
 else
  (zw x).bind fun (x4,x5) =>
  ck ((0:Int)≤x1∧x1<(x4.length:Int)) <|
  (Za8 x (gi x4 x1.toNat)).bind fun x6 =>
  (Zba x6 x2).bind fun (x7,x8) =>
  ck ((0:Int)≤x2∧x2<((gi x4 x1.toNat).length:Int)) <|
  ck ((0:Int)≤x7∧x7<((gi x4 x1.toNat).length:Int)) <|
  (ZaG g ((gi (gi x4 x1.toNat) x2.toNat).Cell) ((gi (gi x4 x1.toNat) x2.toNat).Dir)).bind fun (x9,x10,x11) =>
  (Zb0 g ((gi (gi x4 x1.toNat) x7.toNat).Cell) ((gi (gi x4 x1.toNat) x7.toNat).Dir)).bind fun (x12,x13,m) =>
  if !(decide (x13=0)) then
   some (false,x13,m)
  else
   (zK m x9 ((gi (gi x4 x1.toNat) x2.toNat).Dir) x12 (-2)).bind fun (x14,m1) =>
   some (true,x14,m1)

/-! muntin/rect.Refine -/
def Zaf.s0 (cells:List Za):(List Za)×Bool→Option (((List Za)×Bool)⊕((List Za)⊕Int)):=fun (g1,more) =>
 if more then
  (ZcT (⟨g1⟩:ZK)).bind fun (x4,x5,m) =>
  if !(decide (x5=0)) then
   some (.inr (.inr x5))
  else
   some (.inl (m.cells,x4))
 else
  some (.inr (.inl g1))

def Zaf (cells:List Za):Option ((List Za)×Int) :=
 (Zbu cells).bind fun (x,x1) =>
 if decide (x1=2) then
  (Zaa cells).bind fun x2 =>
  some (x2,0)
 else
  if !(decide (x1=0)) then
   some (([]:List Za),x1)
  else
   (x).bind fun g =>
   (
    ZZ (Zaf.s0 cells) big (g.cells,true):Option ((List Za)⊕Int)).bind fun o₁=>match o₁ with
   | .inl g2 =>
    (ZaR (⟨g2⟩:ZK)).bind fun x6 =>
    some (x6,0)
   | .inr x3 =>
    some (([]:List Za),x3)

/-! muntin/muntinref10.Join -/
def ZbA (l:List Za) (v:Int) (d:Int) (w:Int) (o:Int):Option ((List Za)×Int) :=
 if (((((((decide (v<0))||(decide ((l.length:Int)≤v)))||(decide (w<0)))||(decide ((l.length:Int)≤w)))||(decide (v=w)))||(decide (d<0)))||(decide (3<d)))||(decide (o<(-2))) then
  some (l,2)
 else
  ck ((0:Int)≤v∧v<(l.length:Int)) <|
  ck ((0:Int)≤d∧d<4) <|
  (if !(decide (((gi l v.toNat).Next).get d=(-1))) then
   some true
  else
   ck (ZaD (d+2)) <|
   ck ((0:Int)≤w∧w<(l.length:Int)) <|
   ck ((0:Int)≤((d+2).tmod 4)∧((d+2).tmod 4)<4) <|
   some (!(decide (((gi l w.toNat).Next).get ((d+2).tmod 4)=(-1))))).bind fun t =>
  if t then
   some (l,9)
  else
   (Zah l v d w o).bind fun x =>
   some (x,0)

/-! muntin/rect.Frame -/
def ZcF (cells:List Za):Option ((List Za)×Int) :=
 (Zbu cells).bind fun (x,x1) =>
 if !(decide (x1=0)) then
  some (([]:List Za),x1)
 else
  (x).bind fun g =>
  (ZaR g).bind fun x2 =>
  some (x2,0)

/-! muntin/rect.Rectangular -/
def Zcp (cells:List Za):Option (Bool×Int) :=
 (ZbX cells).bind fun x =>
 if !(decide (x=0)) then
  some (false,x)
 else
  (ZaS cells).bind fun (x1,x2,x3) =>
  some (!x3,0)

/-! muntin/muntinlaw21.wakes -/
def Zbn:Option Bool :=
 (zu 2).bind fun x =>
 (ZbA x 0 0 1 0).bind fun (x1,x2) =>
 (ZcF x1).bind fun (x3,x4) =>
 (Zaf x1).bind fun (x5,x6) =>
 (Zcp x5).bind fun (x7,x8) =>
 ck ((0:Int)≤1∧1≤(x1.length:Int)) <|
 (ZcF (x1.take (1:Int).toNat)).bind fun (x9,x10) =>
 some (((((((decide (x4=0))&&(decide ((x3.length:Int)=7)))&&(decide (x6=0)))&&(decide (7<(x5.length:Int))))&&x7)&&(decide (x8=0)))&&(decide (x10=3)))

/-! muntin/muntinref16.First -/
def Zai.s0 (l:List Za) (d:Int):Int×Int→Option ((Int×Int)⊕(Unit⊕Int)):=fun (v1,n) =>
 if decide (n≤(l.length:Int)) then
  ck (ZaD (d+2)) <|
  ck ((0:Int)≤v1∧v1<(l.length:Int)) <|
  ck ((0:Int)≤((d+2).tmod 4)∧((d+2).tmod 4)<4) <|
  if decide ((((gi l v1.toNat).Next).get ((d+2).tmod 4))<0) then
   some (.inr (.inr v1))
  else
   ck (ZaD (n+1)) <|
   some (.inl (((gi l v1.toNat).Next).get ((d+2).tmod 4),n+1))
 else
  some (.inr (.inl ()))

def Zai (l:List Za) (v:Int) (d:Int):Option Int :=
 (
  ZZ (Zai.s0 l d) big (v,0):Option (Unit⊕Int)).bind fun o₁=>match o₁ with
 | .inl _ =>
  some (-1)
 | .inr x =>
  some x

/-! muntin/muntinref16.chains -/
def Z0.s1 (firsts:List Int) (x:Int):Int→Option (Int⊕Int):=fun k_ =>
 (if decide (k_<(firsts.length:Int)) then
  ck ((0:Int)≤k_∧k_<(firsts.length:Int)) <|
  some (!(decide (gi firsts k_.toNat=x)))
 else
  some false).bind fun t =>
 if t then
  ck (ZaD (k_+1)) <|
  some (.inl (k_+1))
 else
  some (.inr k_)

def Z0.s2 (l:List Za) (d:Int):(List Int)×Int→Option (((List Int)×Int)⊕(List Int)):=fun (c,w) =>
 if decide (0≤w) then
  ck (c.length+[w].length≤1000000000) <|
  ck ((0:Int)≤w∧w<(l.length:Int)) <|
  ck ((0:Int)≤d∧d<4) <|
  some (.inl (c++[w],((gi l w.toNat).Next).get d))
 else
  some (.inr c)

def Z0.s0 (l:List Za) (d:Int):(List Int)×(List Int)×(List (List Int))×Int→Option (((List Int)×(List Int)×(List (List Int))×Int)⊕(((List Int)×(List (List Int)))⊕Unit)):=fun (at_,firsts,out,v) =>
 if decide (v<(l.length:Int)) then
  (Zai l v d).bind fun x =>
  if decide (x<0) then
   some (.inr (.inr ()))
  else
   (ZZ (Z0.s1 firsts x) big 0).bind fun k_1 =>
   ck ((0:Int)≤v∧v<(at_.length:Int)) <|
   if decide (k_1=(firsts.length:Int)) then
    ck (firsts.length+[x].length≤1000000000) <|
    (ZZ (Z0.s2 l d) big (([]:List Int),x)).bind fun c1 =>
    ck (out.length+1≤1000000000) <|
    ck (ZaD (v+1)) <|
    some (.inl (at_.set v.toNat k_1,firsts++[x],out++[c1],v+1))
   else
    ck (ZaD (v+1)) <|
    some (.inl (at_.set v.toNat k_1,firsts,out,v+1))
 else
  some (.inr (.inl (at_,out)))

def Z0 (l:List Za) (d:Int):Option ((List Int)×(List (List Int))×Bool) :=
 ck ((0:Int)≤(l.length:Int)∧(l.length:Int)≤1000000000) <|
 (
  ZZ (Z0.s0 l d) big (List.replicate ((l.length:Int):Int).toNat (0:Int),([]:List Int),([]:List (List Int)),0):Option (((List Int)×(List (List Int)))⊕Unit)).bind fun o₁=>match o₁ with
 | .inl (at_1,out1) =>
  some (at_1,out1,true)
 | .inr _ =>
  some (([]:List Int),([]:List (List Int)),false)

/-! muntin/muntinref16.Of -/
def Zbc (l:List Za):Option (zh×Bool) :=
 (Z0 l 1).bind fun (x,x1,x2) =>
 (Z0 l 0).bind fun (x3,x4,x5) =>
 if (!x2)||(!x5) then
  some ((⟨([]:List Int),([]:List Int),([]:List (List Int)),([]:List (List Int))⟩:zh),false)
 else
  some ((⟨x,x3,x1,x4⟩:zh),true)

/-! muntin/muntinref17.Graph -/
def zW.s0 (l:List Za) (d:Int) (of:List Int):(List ZA)×Int→Option (((List ZA)×Int)⊕(List ZA)):=fun (out,v) =>
 if decide (v<(l.length:Int)) then
  ck ((0:Int)≤v∧v<(l.length:Int)) <|
  ck ((0:Int)≤d∧d<4) <|
  if decide ((((gi l v.toNat).Next).get d)<0) then
   ck (ZaD (v+1)) <|
   some (.inl (out,v+1))
  else
   ck ((0:Int)≤v∧v<(of.length:Int)) <|
   ck ((0:Int)≤(((gi l v.toNat).Next).get d)∧(((gi l v.toNat).Next).get d)<(of.length:Int)) <|
   if decide (0≤(((gi l v.toNat).Owner).get d)) then
    ck (out.length+[{ (⟨gi of v.toNat,gi of (((gi l v.toNat).Next).get d:Int).toNat,(0:Int)⟩:ZA) with Weight:=1 }].length≤1000000000) <|
    ck (ZaD (v+1)) <|
    some (.inl (out++[{ (⟨gi of v.toNat,gi of (((gi l v.toNat).Next).get d:Int).toNat,(0:Int)⟩:ZA) with Weight:=1 }],v+1))
   else
    ck (out.length+[(⟨gi of v.toNat,gi of (((gi l v.toNat).Next).get d:Int).toNat,(0:Int)⟩:ZA)].length≤1000000000) <|
    ck (ZaD (v+1)) <|
    some (.inl (out++[(⟨gi of v.toNat,gi of (((gi l v.toNat).Next).get d:Int).toNat,(0:Int)⟩:ZA)],v+1))
 else
  some (.inr out)

def zW (l:List Za) (d:Int) (of:List Int):Option (List ZA) :=
 (ZZ (zW.s0 l d of) big (([]:List ZA),0)).bind fun out1 =>
 some out1

/-! muntin/muntinref04.Layers -/
def ZY.s1 (arcs:List ZA):(List Int)×Int→Option (((List Int)×Int)⊕(List Int)):=fun (x2,i) =>
 if decide (i<(arcs.length:Int)) then
  ck ((0:Int)≤i∧i<(arcs.length:Int)) <|
  ck ((0:Int)≤((gi arcs i.toNat).To)∧((gi arcs i.toNat).To)<(x2.length:Int)) <|
  ck ((0:Int)≤((gi arcs i.toNat).From)∧((gi arcs i.toNat).From)<(x2.length:Int)) <|
  if decide ((gi x2 ((gi arcs i.toNat).To:Int).toNat)≤(gi x2 ((gi arcs i.toNat).From:Int).toNat)) then
   ck (ZaD ((gi x2 ((gi arcs i.toNat).From:Int).toNat)+1)) <|
   ck (ZaD (i+1)) <|
   some (.inl (x2.set ((gi arcs i.toNat).To:Int).toNat ((gi x2 ((gi arcs i.toNat).From:Int).toNat)+1),i+1))
  else
   ck (ZaD (i+1)) <|
   some (.inl (x2,i+1))
 else
  some (.inr x2)

def ZY.s0 (n:Int) (arcs:List ZA):(List Int)×Int→Option (((List Int)×Int)⊕(List Int)):=fun (x,round) =>
 if decide (round≤n) then
  (ZZ (ZY.s1 arcs) big (x,0)).bind fun x3 =>
  ck (ZaD (round+1)) <|
  some (.inl (x3,round+1))
 else
  some (.inr x)

def ZY (n:Int) (arcs:List ZA):Option (List Int) :=
 ck ((0:Int)≤n∧n≤1000000000) <|
 (ZZ (ZY.s0 n arcs) big (List.replicate n.toNat (0:Int),0)).bind fun x1 =>
 some x1

/-! muntin/muntinref17.Place -/
def Zaj.s0 (c:zh) (x:List Int) (y:List Int):(List Zh)×Int→Option (((List Zh)×Int)⊕(List Zh)):=fun (out,v) =>
 if decide (v<(c.X.length:Int)) then
  ck ((0:Int)≤v∧v<(c.X.length:Int)) <|
  ck ((0:Int)≤(gi c.X v.toNat)∧(gi c.X v.toNat)<(x.length:Int)) <|
  ck ((0:Int)≤v∧v<(c.Y.length:Int)) <|
  ck ((0:Int)≤(gi c.Y v.toNat)∧(gi c.Y v.toNat)<(y.length:Int)) <|
  ck (out.length+[(⟨gi x (gi c.X v.toNat:Int).toNat,gi y (gi c.Y v.toNat:Int).toNat⟩:Zh)].length≤1000000000) <|
  ck (ZaD (v+1)) <|
  some (.inl (out++[(⟨gi x (gi c.X v.toNat:Int).toNat,gi y (gi c.Y v.toNat:Int).toNat⟩:Zh)],v+1))
 else
  some (.inr out)

def Zaj (c:zh) (x:List Int) (y:List Int):Option (List Zh) :=
 (ZZ (Zaj.s0 c x y) big (([]:List Zh),0)).bind fun out1 =>
 some out1

/-! muntin/muntinref17.Straight -/
def zE.s0 (l:List Za) (at_:List Zh):Int→Option (Int⊕(Unit⊕Unit)):=fun v =>
 if decide (v<(l.length:Int)) then
  ck ((0:Int)≤v∧v<(l.length:Int)) <|
  (if decide (0≤(((gi l v.toNat).Next).get 0)) then
   ck ((0:Int)≤(max (((gi l v.toNat).Next).get 0) 0)∧(max (((gi l v.toNat).Next).get 0) 0)<(at_.length:Int)) <|
   ck ((0:Int)≤v∧v<(at_.length:Int)) <|
   some ((!(decide ((gi at_ (max (((gi l v.toNat).Next).get 0) 0:Int).toNat).Y=(gi at_ v.toNat).Y)))||(decide (((gi at_ (max (((gi l v.toNat).Next).get 0) 0:Int).toNat).X)≤((gi at_ v.toNat).X))))
  else
   some false).bind fun t =>
  if t then
   some (.inr (.inr ()))
  else
   (if decide (0≤(((gi l v.toNat).Next).get 1)) then
    ck ((0:Int)≤(max (((gi l v.toNat).Next).get 1) 0)∧(max (((gi l v.toNat).Next).get 1) 0)<(at_.length:Int)) <|
    ck ((0:Int)≤v∧v<(at_.length:Int)) <|
    some ((!(decide ((gi at_ (max (((gi l v.toNat).Next).get 1) 0:Int).toNat).X=(gi at_ v.toNat).X)))||(decide (((gi at_ (max (((gi l v.toNat).Next).get 1) 0:Int).toNat).Y)≤((gi at_ v.toNat).Y))))
   else
    some false).bind fun t1 =>
   if t1 then
    some (.inr (.inr ()))
   else
    ck (ZaD (v+1)) <|
    some (.inl (v+1))
 else
  some (.inr (.inl ()))

def zE (l:List Za) (at_:List Zh):Option Bool :=
 (
  ZZ (zE.s0 l at_) big 0:Option (Unit⊕Unit)).bind fun o₁=>match o₁ with
 | .inl _ =>
  some true
 | .inr _ =>
  some false

/-! muntin/muntinref19.Lines -/
def zm.s0 (c:zh):(List ZR)×Int→Option (((List ZR)×Int)⊕(List ZR)):=fun (l,i) =>
 if decide (i<(c.Vert.length:Int)) then
  ck ((0:Int)≤i∧i<(c.Vert.length:Int)) <|
  if decide (1<((gi c.Vert i.toNat).length:Int)) then
   ck (l.length+[(⟨true,i⟩:ZR)].length≤1000000000) <|
   ck (ZaD (i+1)) <|
   some (.inl (l++[(⟨true,i⟩:ZR)],i+1))
  else
   ck (ZaD (i+1)) <|
   some (.inl (l,i+1))
 else
  some (.inr l)

def zm.s1 (c:zh):(List ZR)×Int→Option (((List ZR)×Int)⊕(List ZR)):=fun (l2,i1) =>
 if decide (i1<(c.Horz.length:Int)) then
  ck ((0:Int)≤i1∧i1<(c.Horz.length:Int)) <|
  if decide (1<((gi c.Horz i1.toNat).length:Int)) then
   ck (l2.length+[(⟨false,i1⟩:ZR)].length≤1000000000) <|
   ck (ZaD (i1+1)) <|
   some (.inl (l2++[(⟨false,i1⟩:ZR)],i1+1))
  else
   ck (ZaD (i1+1)) <|
   some (.inl (l2,i1+1))
 else
  some (.inr l2)

def zm (c:zh):Option (List ZR) :=
 (ZZ (zm.s0 c) big (([]:List ZR),0)).bind fun l1 =>
 (ZZ (zm.s1 c) big (l1,0)).bind fun l3 =>
 some l3

/-! muntin/muntinref16.Meet -/
def zU.s0 (c:zh) (vertical:Bool) (i:Int) (other:Bool) (k_:Int):Int→Option (Int⊕(Unit⊕Unit)):=fun v =>
 if decide (v<(c.X.length:Int)) then
  ck ((0:Int)≤v∧v<(c.Y.length:Int)) <|
  (
   if vertical then
    ck ((0:Int)≤v∧v<(c.X.length:Int)) <|
    some (decide (gi c.X v.toNat=i))
   else
    some (decide (gi c.Y v.toNat=i))).bind fun a =>
  if other then
   ck ((0:Int)≤v∧v<(c.X.length:Int)) <|
   if a&&(decide (gi c.X v.toNat=k_)) then
    some (.inr (.inr ()))
   else
    ck (ZaD (v+1)) <|
    some (.inl (v+1))
  else
   if a&&(decide (gi c.Y v.toNat=k_)) then
    some (.inr (.inr ()))
   else
    ck (ZaD (v+1)) <|
    some (.inl (v+1))
 else
  some (.inr (.inl ()))

def zU (c:zh) (vertical:Bool) (i:Int) (other:Bool) (k_:Int):Option Bool :=
 (
  ZZ (zU.s0 c vertical i other k_) big 0:Option (Unit⊕Unit)).bind fun o₁=>match o₁ with
 | .inl _ =>
  some false
 | .inr _ =>
  some true

/-! muntin/muntinref19.ends -/
def Zbj (c:zh) (l:ZR) (at_:List Zh):Option (Zh×Zh) :=
 (
  if l.Vertical then
   some c.Vert
  else
   some c.Horz).bind fun x =>
 ck ((0:Int)≤l.Place∧l.Place<(x.length:Int)) <|
 ck ((0:Int)≤0∧0<((gi x (l.Place:Int).toNat).length:Int)) <|
 ck ((0:Int)≤(gi (gi x (l.Place:Int).toNat) (0:Int).toNat)∧(gi (gi x (l.Place:Int).toNat) (0:Int).toNat)<(at_.length:Int)) <|
 ck (ZaD (((gi x (l.Place:Int).toNat).length:Int)-1)) <|
 ck ((0:Int)≤(((gi x (l.Place:Int).toNat).length:Int)-1)∧(((gi x (l.Place:Int).toNat).length:Int)-1)<((gi x (l.Place:Int).toNat).length:Int)) <|
 ck ((0:Int)≤(gi (gi x (l.Place:Int).toNat) (((gi x (l.Place:Int).toNat).length:Int)-1:Int).toNat)∧(gi (gi x (l.Place:Int).toNat) (((gi x (l.Place:Int).toNat).length:Int)-1:Int).toNat)<(at_.length:Int)) <|
 some (gi at_ (gi (gi x (l.Place:Int).toNat) (0:Int).toNat:Int).toNat,gi at_ (gi (gi x (l.Place:Int).toNat) (((gi x (l.Place:Int).toNat).length:Int)-1:Int).toNat:Int).toNat)

/-! muntin/muntinref19.Real -/
def ZT.s1 (at_:List Zh) (x1:zh) (x3:List ZR) (i:Int):Int→Option (Int⊕(Unit⊕Unit)):=fun k_ =>
 if decide (k_<(x3.length:Int)) then
  ck ((0:Int)≤i∧i<(x3.length:Int)) <|
  ck ((0:Int)≤k_∧k_<(x3.length:Int)) <|
  (zU x1 ((gi x3 i.toNat).Vertical) ((gi x3 i.toNat).Place) ((gi x3 k_.toNat).Vertical) ((gi x3 k_.toNat).Place)).bind fun x4 =>
  (Zbj x1 (gi x3 i.toNat) at_).bind fun (x5,x6) =>
  (Zbj x1 (gi x3 k_.toNat) at_).bind fun (x7,x8) =>
  if (!x4)&&(!((((decide (x6.X<x7.X))||(decide (x8.X<x5.X)))||(decide (x6.Y<x7.Y)))||(decide (x8.Y<x5.Y)))) then
   some (.inr (.inr ()))
  else
   ck (ZaD (k_+1)) <|
   some (.inl (k_+1))
 else
  some (.inr (.inl ()))

def ZT.s0 (at_:List Zh) (x1:zh) (x3:List ZR):Int→Option (Int⊕(Unit⊕Unit)):=fun i =>
 if decide (i<(x3.length:Int)) then
  ck (ZaD (i+1)) <|
  (
   ZZ (ZT.s1 at_ x1 x3 i) big (i+1):Option (Unit⊕Unit)).bind fun o₃=>match o₃ with
  | .inl _ =>
   some (.inl (i+1))
  | .inr _ =>
   some (.inr (.inr ()))
 else
  some (.inr (.inl ()))

def ZT (l:List Za) (at_:List Zh):Option Bool :=
 if !(decide ((at_.length:Int)=(l.length:Int))) then
  some false
 else
  (zE l at_).bind fun x =>
  if !x then
   some false
  else
   (Zbc l).bind fun (x1,x2) =>
   (zm x1).bind fun x3 =>
   (
    ZZ (ZT.s0 at_ x1 x3) big 0:Option (Unit⊕Unit)).bind fun o₁=>match o₁ with
   | .inl _ =>
    some true
   | .inr _ =>
    some false

/-! muntin/muntinlaw21.raise -/
def ZJ.s0 (l:List Int) (by_:List Int):(List Int)×Int→Option (((List Int)×Int)⊕(List Int)):=fun (l1,x) =>
 if decide (x<(l.length:Int)) then
  if decide (x<(by_.length:Int)) then
   ck ((0:Int)≤x∧x<(l1.length:Int)) <|
   ck ((0:Int)≤x∧x<(by_.length:Int)) <|
   ck (inK .i64 ((gi by_ x.toNat).tmod 6)) <|
   ck (ZaD ((gi l1 x.toNat)+((gi by_ x.toNat).tmod 6))) <|
   ck (ZaD (x+1)) <|
   some (.inl (l1.set x.toNat ((gi l1 x.toNat)+((gi by_ x.toNat).tmod 6)),x+1))
  else
   ck (ZaD (x+1)) <|
   some (.inl (l1,x+1))
 else
  some (.inr l1)

def ZJ.s2 (arcs:List ZA):(List Int)×Int→Option (((List Int)×Int)⊕(List Int)):=fun (l4,x2) =>
 if decide (x2<(arcs.length:Int)) then
  ck ((0:Int)≤x2∧x2<(arcs.length:Int)) <|
  ck ((0:Int)≤((gi arcs x2.toNat).To)∧((gi arcs x2.toNat).To)<(l4.length:Int)) <|
  ck ((0:Int)≤((gi arcs x2.toNat).From)∧((gi arcs x2.toNat).From)<(l4.length:Int)) <|
  ck (ZaD ((gi l4 ((gi arcs x2.toNat).From:Int).toNat)+1)) <|
  ck (ZaD (x2+1)) <|
  some (.inl (l4.set ((gi arcs x2.toNat).To:Int).toNat (max (gi l4 ((gi arcs x2.toNat).To:Int).toNat) ((gi l4 ((gi arcs x2.toNat).From:Int).toNat)+1)),x2+1))
 else
  some (.inr l4)

def ZJ.s1 (arcs:List ZA) (l2:List Int):(List Int)×Int→Option (((List Int)×Int)⊕(List Int)):=fun (l3,x1) =>
 if decide (x1<(l2.length:Int)) then
  (ZZ (ZJ.s2 arcs) big (l3,0)).bind fun l5 =>
  ck (ZaD (x1+1)) <|
  some (.inl (l5,x1+1))
 else
  some (.inr l3)

def ZJ (l:List Int) (by_:List Int) (arcs:List ZA):Option (List Int) :=
 (ZZ (ZJ.s0 l by_) big (l,0)).bind fun l2 =>
 (ZZ (ZJ.s1 arcs l2) big (l2,0)).bind fun p0 =>
 some p0

/-! muntin/muntinlaw21.RectMakes -/
def zH.s0 (x:List Int) (y:List Int) (x1:List Za) (x3:List Za) (x7:zh) (x9:List ZA) (x10:List ZA):(List Int)×(List Int)×Int→Option (((List Int)×(List Int)×Int)⊕(Unit⊕Unit)):=fun (a,b,x13) =>
 if decide (x13<2) then
  (Zaj x7 a b).bind fun x14 =>
  (ZT x3 x14).bind fun x15 =>
  (if !x15 then
   some true
  else
   ck ((0:Int)≤(x1.length:Int)∧(x1.length:Int)≤(x14.length:Int)) <|
   (ZT x1 (x14.take ((x1.length:Int):Int).toNat)).bind fun x16 =>
   some (!x16)).bind fun t =>
  if t then
   some (.inr (.inr ()))
  else
   (ZJ a x x9).bind fun m =>
   (ZJ b y x10).bind fun m1 =>
   ck (ZaD (x13+1)) <|
   some (.inl (m,m1,x13+1))
 else
  some (.inr (.inl ()))

def zH (z:zx) (x:List Int) (y:List Int):Option Bool :=
 (ZC z 10).bind fun (x1,x2) =>
 (Zaf x1).bind fun (x3,x4) =>
 (Zbn ).bind fun x5 =>
 if (!x5)||(!(decide (x4=0))) then
  (Zbn ).bind fun x6 =>
  some x6
 else
  (Zbc x3).bind fun (x7,x8) =>
  if (!x8)||(decide ((x3.length:Int)<(x1.length:Int))) then
   some false
  else
   (zW x3 0 x7.X).bind fun x9 =>
   (zW x3 1 x7.Y).bind fun x10 =>
   (ZY (x7.Vert.length:Int) x9).bind fun x11 =>
   (ZY (x7.Horz.length:Int) x10).bind fun x12 =>
   (
    ZZ (zH.s0 x y x1 x3 x7 x9 x10) big (x11,x12,0):Option (Unit⊕Unit)).bind fun o₁=>match o₁ with
   | .inl _ =>
    some true
   | .inr _ =>
    some false

end Mu
