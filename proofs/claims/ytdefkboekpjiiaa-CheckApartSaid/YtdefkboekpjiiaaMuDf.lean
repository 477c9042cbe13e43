/- What the functions work out. -/
import Derived.Test.YtdefkboekpjiiaaMuA
import Derived.Test.YtdefkboekpjiiaaMuR
set_option linter.unusedVariables false
set_option linter.unnecessarySimpa false
set_option linter.unusedSimpArgs false
set_option maxHeartbeats 2000000
set_option maxRecDepth 10000
namespace Mu
open Go (IntKind BinOp UnOp)
abbrev ZD:Enc (A4 Int):=⟨4,fun x=>[.i .i16 x.a,.i .i16 x.b,.i .i16 x.c,.i .i16 x.d],fun _=>rfl⟩
theorem ZD.one (x:A4 Int):(ZD.c x).all V.one=true:=rfl
abbrev zX:Enc (A2 Int):=⟨2,fun x=>[.i .i8 x.a,.i .i8 x.b],fun _=>rfl⟩
theorem zX.one (x:A2 Int):(zX.c x).all V.one=true:=rfl
structure Za where
 X:Int
 Y:Int
 deriving DecidableEq,Inhabited
structure ZC where
 Low:Za
 High:Za
 deriving DecidableEq,Inhabited
abbrev Zf:Enc ZC:=⟨4,fun x=>[.i .i64 x.Low.X,.i .i64 x.Low.Y,.i .i64 x.High.X,.i .i64 x.High.Y],fun _=>rfl⟩
theorem Zf.one (x:ZC):(Zf.c x).all V.one=true:=rfl
abbrev Zg:Enc Za:=⟨2,fun x=>[.i .i64 x.X,.i .i64 x.Y],fun _=>rfl⟩
theorem Zg.one (x:Za):(Zg.c x).all V.one=true:=rfl
structure Zc where
 Next:A4 Int
 Owner:A4 Int
 deriving DecidableEq,Inhabited
abbrev Zl:Enc Zc:=⟨8,fun x=>[.i .i64 x.Next.a,.i .i64 x.Next.b,.i .i64 x.Next.c,.i .i64 x.Next.d,.i .i64 x.Owner.a,.i .i64 x.Owner.b,.i .i64 x.Owner.c,.i .i64 x.Owner.d],fun _=>rfl⟩
theorem Zl.one (x:Zc):(Zl.c x).all V.one=true:=rfl
abbrev e_bool:Enc Bool:=⟨1,fun x=>[.b x],fun _=>rfl⟩
theorem e_bool.one (x:Bool):(e_bool.c x).all V.one=true:=rfl
structure Zq where
 Cell:Int
 Dir:Int
 deriving DecidableEq,Inhabited
abbrev Zh:Enc Zq:=⟨2,fun x=>[.i .i64 x.Cell,.i .i64 x.Dir],fun _=>rfl⟩
theorem Zh.one (x:Zq):(Zh.c x).all V.one=true:=rfl
theorem Zh.same (x y:Zq):zl [.i,.i] (Zh.c x) (Zh.c y)=some (decide (x=y)):=by
 obtain ⟨x1,x2⟩:=x;obtain ⟨y1,y2⟩:=y;refine (ZeR (ZeR Zf2)).trans ?_;congr 1;rw [Bool.eq_iff_iff];simp [and_assoc]
abbrev Zbc:Enc (A4 Int):=⟨4,fun x=>[.i .i64 x.a,.i .i64 x.b,.i .i64 x.c,.i .i64 x.d],fun _=>rfl⟩
theorem Zbc.one (x:A4 Int):(Zbc.c x).all V.one=true:=rfl
structure zu where
 X:List Int
 Y:List Int
 Vert:List (List Int)
 Horz:List (List Int)
 deriving DecidableEq,Inhabited
structure ZW where
 Vertical:Bool
 Place:Int
 deriving DecidableEq,Inhabited
abbrev ZK:Enc ZW:=⟨2,fun x=>[.b x.Vertical,.i .i64 x.Place],fun _=>rfl⟩
theorem ZK.one (x:ZW):(ZK.c x).all V.one=true:=rfl
def Zdi (x:A4 Int):Prop:=Wf .i16 x.a∧Wf .i16 x.b∧Wf .i16 x.c∧Wf .i16 x.d
def Zeg (x:A2 Int):Prop:=Wf .i8 x.a∧Wf .i8 x.b
/-! muntin/muntinlaw26.CheckApart$1 -/
def ZY (l:A4 Int):Option ZC :=
 ck (inK .i64 (l.get 0)) <|
 ck (inK .i64 (l.get 2)) <|
 ck (inK .i64 (l.get 1)) <|
 ck (inK .i64 (l.get 3)) <|
 some (⟨(⟨min (l.get 0) (l.get 2),min (l.get 1) (l.get 3)⟩:Za),(⟨max (l.get 0) (l.get 2),max (l.get 1) (l.get 3)⟩:Za)⟩:ZC)

/-! muntin/muntinref10.New -/
def zx.s1 (v:Int):(List Zc)×Int→Option (((List Zc)×Int)⊕(List Zc)):=fun (l2,d) =>
 if decide (d<4) then
  ck ((0:Int)≤v∧v<(l2.length:Int)) <|
  ck ((0:Int)≤d∧d<4) <|
  ck (Zan (d+1)) <|
  some (.inl (l2.set v.toNat ({ gi l2 v.toNat with Next:=((gi l2 v.toNat).Next).set d (-1) }),d+1))
 else
  some (.inr l2)

def zx.s0 (n:Int):(List Zc)×Int→Option (((List Zc)×Int)⊕(List Zc)):=fun (l,v) =>
 if decide (v<n) then
  (ZaB (zx.s1 v) big (l,0)).bind fun l3 =>
  ck (Zan (v+1)) <|
  some (.inl (l3,v+1))
 else
  some (.inr l)

def zx (n:Int):Option (List Zc) :=
 ck ((0:Int)≤n∧n≤1000000000) <|
 (ZaB (zx.s0 n) big (List.replicate n.toNat (⟨⟨0,0,0,0⟩,⟨0,0,0,0⟩⟩:Zc),0)).bind fun l1 =>
 some l1

/-! muntin/muntinref10.with -/
def zS.s0 (l:List Zc) (v:Int) (d:Int) (w:Int) (o:Int):(List Zc)×Int→Option (((List Zc)×Int)⊕(List Zc)):=fun (out,i) =>
 if decide (i<(l.length:Int)) then
  ck ((0:Int)≤i∧i<(l.length:Int)) <|
  (
   if decide (i=v) then
    ck ((0:Int)≤d∧d<4) <|
    some ({ { gi l i.toNat with Next:=((gi l i.toNat).Next).set d w } with Owner:=(({ gi l i.toNat with Next:=((gi l i.toNat).Next).set d w }).Owner).set d o })
   else
    some (gi l i.toNat)).bind fun c =>
  if decide (i=w) then
   ck (Zan (d+2)) <|
   ck ((0:Int)≤((d+2).tmod 4)∧((d+2).tmod 4)<4) <|
   ck (out.length+[{ { c with Next:=c.Next.set ((d+2).tmod 4) v } with Owner:=(({ c with Next:=c.Next.set ((d+2).tmod 4) v }).Owner).set ((d+2).tmod 4) o }].length≤1000000000) <|
   ck (Zan (i+1)) <|
   some (.inl (out++[{ { c with Next:=c.Next.set ((d+2).tmod 4) v } with Owner:=(({ c with Next:=c.Next.set ((d+2).tmod 4) v }).Owner).set ((d+2).tmod 4) o }],i+1))
  else
   ck (out.length+[c].length≤1000000000) <|
   ck (Zan (i+1)) <|
   some (.inl (out++[c],i+1))
 else
  some (.inr out)

def zS (l:List Zc) (v:Int) (d:Int) (w:Int) (o:Int):Option (List Zc) :=
 (ZaB (zS.s0 l v d w o) big (([]:List Zc),0)).bind fun out1 =>
 some out1

/-! muntin/muntinref10.Join -/
def ZaG (l:List Zc) (v:Int) (d:Int) (w:Int) (o:Int):Option ((List Zc)×Int) :=
 if (((((((decide (v<0))||(decide ((l.length:Int)≤v)))||(decide (w<0)))||(decide ((l.length:Int)≤w)))||(decide (v=w)))||(decide (d<0)))||(decide (3<d)))||(decide (o<(-2))) then
  some (l,2)
 else
  ck ((0:Int)≤v∧v<(l.length:Int)) <|
  ck ((0:Int)≤d∧d<4) <|
  (if !(decide (((gi l v.toNat).Next).get d=(-1))) then
   some true
  else
   ck (Zan (d+2)) <|
   ck ((0:Int)≤w∧w<(l.length:Int)) <|
   ck ((0:Int)≤((d+2).tmod 4)∧((d+2).tmod 4)<4) <|
   some (!(decide (((gi l w.toNat).Next).get ((d+2).tmod 4)=(-1))))).bind fun t =>
  if t then
   some (l,9)
  else
   (zS l v d w o).bind fun x =>
   some (x,0)

/-! muntin/compass.Good -/
def zR (d:Int):Option Bool :=
 some ((decide (0≤d))&&(decide (d≤3)))

/-! muntin/compass.Left -/
def Zau (d:Int) (times:Int):Option Int :=
 (zR d).bind fun x =>
 if !x then
  some 0
 else
  ck (Zan (d+(times.tmod 4))) <|
  ck (Zan ((d+(times.tmod 4))+4)) <|
  some (((d+(times.tmod 4))+4).tmod 4)

/-! muntin/grid.side -/
def ZbQ (cells:List Zc) (v:Int) (d:Int):Option Int :=
 ck ((0:Int)≤v∧v<(cells.length:Int)) <|
 ck ((0:Int)≤d∧d<4) <|
 if decide (((gi cells v.toNat).Next).get d=(-1)) then
  if !(decide (((gi cells v.toNat).Owner).get d=0)) then
   some 9
  else
   some 0
 else
  if ((decide ((((gi cells v.toNat).Next).get d)<0))||(decide ((cells.length:Int)≤(((gi cells v.toNat).Next).get d))))||(decide (((gi cells v.toNat).Next).get d=v)) then
   some 3
  else
   (Zau d 2).bind fun x =>
   ck ((0:Int)≤(((gi cells v.toNat).Next).get d)∧(((gi cells v.toNat).Next).get d)<(cells.length:Int)) <|
   ck ((0:Int)≤x∧x<4) <|
   if ((!(decide (((gi cells (((gi cells v.toNat).Next).get d:Int).toNat).Next).get x=v)))||(!(decide (((gi cells (((gi cells v.toNat).Next).get d:Int).toNat).Owner).get x=((gi cells v.toNat).Owner).get d))))||(decide ((((gi cells v.toNat).Owner).get d)<(-2))) then
    some 9
   else
    some 0

/-! muntin/grid.Check -/
def zj.s1 (cells:List Zc) (x:Int):Int→Option (Int⊕(Unit⊕Int)):=fun x2 =>
 if decide (x2<4) then
  (ZbQ cells x x2).bind fun x4 =>
  if !(decide (x4=0)) then
   some (.inr (.inr x4))
  else
   ck (Zan (x2+1)) <|
   some (.inl (x2+1))
 else
  some (.inr (.inl ()))

def zj.s0 (cells:List Zc):Int→Option (Int⊕(Unit⊕Int)):=fun x =>
 if decide (x<(cells.length:Int)) then
  (
   ZaB (zj.s1 cells x) big 0:Option (Unit⊕Int)).bind fun o₃=>match o₃ with
  | .inl _ =>
   ck (Zan (x+1)) <|
   some (.inl (x+1))
  | .inr x3 =>
   some (.inr (.inr x3))
 else
  some (.inr (.inl ()))

def zj (cells:List Zc):Option Int :=
 if decide (4096<(cells.length:Int)) then
  some 6
 else
  (
   ZaB (zj.s0 cells) big 0:Option (Unit⊕Int)).bind fun o₁=>match o₁ with
  | .inl _ =>
   some 0
  | .inr x1 =>
   some x1

/-! math/bits.Mul64 -/
def Zb9 (x:Int) (y:Int):Option (Int×Int) :=
 some (zw .u64 (zw .u64 (ZJ .u64 (ZG .u64 x 32) (ZG .u64 y 32)) (ZG .u64 (zw .u64 (ZJ .u64 (ZG .u64 x 32) (Zx .u64 y 4294967295)) (ZG .u64 (ZJ .u64 (Zx .u64 x 4294967295) (Zx .u64 y 4294967295)) 32)) 32)) (ZG .u64 (zw .u64 (Zx .u64 (zw .u64 (ZJ .u64 (ZG .u64 x 32) (Zx .u64 y 4294967295)) (ZG .u64 (ZJ .u64 (Zx .u64 x 4294967295) (Zx .u64 y 4294967295)) 32)) 4294967295) (ZJ .u64 (Zx .u64 x 4294967295) (ZG .u64 y 32))) 32),ZJ .u64 x y)

/-! math/bits.Mul -/
def Zch (x:Int) (y:Int):Option (Int×Int) :=
 (Zb9 x y).bind fun (x1,x2) =>
 some (x1,x2)

/-! slices.Repeat[[]int,int] -/
def zi.s0:(List Int)×Int→Option (((List Int)×Int)⊕(List Int)):=fun (newslice,n) =>
 if decide (n<(newslice.length:Int)) then
  ck ((0:Int)≤n∧n≤(newslice.length:Int)) <|
  ck (Zan (n+((min (newslice.take n.toNat).length (newslice.drop n.toNat).length:Nat):Int))) <|
  some (.inl (newslice.take n.toNat++((newslice.take n.toNat).take (newslice.drop n.toNat).length++(newslice.drop n.toNat).drop (newslice.take n.toNat).length),n+((min (newslice.take n.toNat).length (newslice.drop n.toNat).length:Nat):Int)))
 else
  some (.inr newslice)

def zi (x:List Int) (count:Int):Option (List Int) :=
 (
  if decide (count<0) then
   none
  else
   some ()).bind fun _ =>
 ck (inK .u64 (x.length:Int)) <|
 ck (inK .u64 count) <|
 (Zch (x.length:Int) count).bind fun (x1,x2) =>
 (
  if (decide (0<x1))||(decide (9223372036854775807<x2)) then
   none
  else
   some ()).bind fun _ =>
 ck (inK .i64 x2) <|
 ck ((0:Int)≤x2∧x2≤1000000000) <|
 (ZaB zi.s0 big (x.take (List.replicate x2.toNat (0:Int)).length++(List.replicate x2.toNat (0:Int)).drop x.length,((min x.length (List.replicate x2.toNat (0:Int)).length:Nat):Int))).bind fun newslice1 =>
 some newslice1

/-! muntin/join.spread -/
def Zaf.s1 (cells:List Zc) (l:List Int):(List Int)×(List Int)×(List Int)×(List Bool)×Int→Option (((List Int)×(List Int)×(List Int)×(List Bool)×Int)⊕((List Int)×(List Int)×(List Int)×(List Bool))):=fun (from_2,dir2,l1,met1,x2) =>
 if decide (x2<4) then
  ck ((0:Int)≤(gi l (0:Int).toNat)∧(gi l (0:Int).toNat)<(cells.length:Int)) <|
  ck ((0:Int)≤x2∧x2<4) <|
  (if decide (0≤(((gi cells (gi l (0:Int).toNat:Int).toNat).Next).get x2)) then
   ck ((0:Int)≤(((gi cells (gi l (0:Int).toNat:Int).toNat).Next).get x2)∧(((gi cells (gi l (0:Int).toNat:Int).toNat).Next).get x2)<(met1.length:Int)) <|
   some (!(gi met1 (((gi cells (gi l (0:Int).toNat:Int).toNat).Next).get x2:Int).toNat))
  else
   some false).bind fun t =>
  if t then
   ck ((0:Int)≤(((gi cells (gi l (0:Int).toNat:Int).toNat).Next).get x2)∧(((gi cells (gi l (0:Int).toNat:Int).toNat).Next).get x2)<(met1.length:Int)) <|
   ck ((0:Int)≤(((gi cells (gi l (0:Int).toNat:Int).toNat).Next).get x2)∧(((gi cells (gi l (0:Int).toNat:Int).toNat).Next).get x2)<(from_2.length:Int)) <|
   ck ((0:Int)≤(((gi cells (gi l (0:Int).toNat:Int).toNat).Next).get x2)∧(((gi cells (gi l (0:Int).toNat:Int).toNat).Next).get x2)<(dir2.length:Int)) <|
   ck (l1.length+[((gi cells (gi l (0:Int).toNat:Int).toNat).Next).get x2].length≤1000000000) <|
   ck (Zan (x2+1)) <|
   some (.inl (from_2.set (((gi cells (gi l (0:Int).toNat:Int).toNat).Next).get x2:Int).toNat (gi l (0:Int).toNat),dir2.set (((gi cells (gi l (0:Int).toNat:Int).toNat).Next).get x2:Int).toNat x2,l1++[((gi cells (gi l (0:Int).toNat:Int).toNat).Next).get x2],met1.set (((gi cells (gi l (0:Int).toNat:Int).toNat).Next).get x2:Int).toNat true,x2+1))
  else
   ck (Zan (x2+1)) <|
   some (.inl (from_2,dir2,l1,met1,x2+1))
 else
  some (.inr (from_2,dir2,l1,met1))

def Zaf.s0 (cells:List Zc):(List Int)×(List Int)×(List Int)×(List Bool)→Option (((List Int)×(List Int)×(List Int)×(List Bool))⊕((List Int)×(List Int))):=fun (from_,dir,l,met) =>
 if decide (0<(l.length:Int)) then
  ck ((0:Int)≤0∧0<(l.length:Int)) <|
  ck ((0:Int)≤1∧1≤(l.length:Int)) <|
  (ZaB (Zaf.s1 cells l) big (from_,dir,l.drop (1:Int).toNat,met,0)).bind fun (from_3,dir3,l2,met2) =>
  some (.inl (from_3,dir3,l2,met2))
 else
  some (.inr (from_,dir))

def Zaf (cells:List Zc) (v:Int):Option ((List Int)×(List Int)) :=
 (zi ([(-1)]:List Int) (cells.length:Int)).bind fun x =>
 (zi ([(-1)]:List Int) (cells.length:Int)).bind fun x1 =>
 ck ((0:Int)≤(cells.length:Int)∧(cells.length:Int)≤1000000000) <|
 ck ((0:Int)≤v∧v<((List.replicate ((cells.length:Int):Int).toNat false).length:Int)) <|
 (ZaB (Zaf.s0 cells) big (x,x1,[v],(List.replicate ((cells.length:Int):Int).toNat false).set v.toNat true)).bind fun (from_1,dir1) =>
 some (from_1,dir1)

/-! muntin/join.Parts -/
def Zaw.s1 (cells:List Zc) (x1:Int) (x3:List Int):(List Bool)×(List Int)×Int→Option (((List Bool)×(List Int)×Int)⊕((List Bool)×(List Int))):=fun (met1,part,x4) =>
 if decide (x4<(cells.length:Int)) then
  (if decide (x4=x1) then
   some true
  else
   ck ((0:Int)≤x4∧x4<(x3.length:Int)) <|
   some (decide (0≤(gi x3 x4.toNat)))).bind fun t =>
  if t then
   ck ((0:Int)≤x4∧x4<(met1.length:Int)) <|
   ck (part.length+[x4].length≤1000000000) <|
   ck (Zan (x4+1)) <|
   some (.inl (met1.set x4.toNat true,part++[x4],x4+1))
  else
   ck (Zan (x4+1)) <|
   some (.inl (met1,part,x4+1))
 else
  some (.inr (met1,part))

def Zaw.s0 (cells:List Zc):(List (List Int))×(List Bool)×Int→Option (((List (List Int))×(List Bool)×Int)⊕(List (List Int))):=fun (l,met,x1) =>
 if decide (x1<(cells.length:Int)) then
  ck ((0:Int)≤x1∧x1<(met.length:Int)) <|
  if gi met x1.toNat then
   ck (Zan (x1+1)) <|
   some (.inl (l,met,x1+1))
  else
   (Zaf cells x1).bind fun (x2,x3) =>
   (ZaB (Zaw.s1 cells x1 x3) big (met,[],0)).bind fun (met2,part1) =>
   ck (l.length+1≤1000000000) <|
   ck (Zan (x1+1)) <|
   some (.inl (l++[part1],met2,x1+1))
 else
  some (.inr l)

def Zaw (cells:List Zc):Option ((List (List Int))×Int) :=
 (zj cells).bind fun x =>
 if !(decide (x=0)) then
  some (([]:List (List Int)),x)
 else
  ck ((0:Int)≤(cells.length:Int)∧(cells.length:Int)≤1000000000) <|
  (ZaB (Zaw.s0 cells) big (([]:List (List Int)),List.replicate ((cells.length:Int):Int).toNat false,0)).bind fun l1 =>
  some (l1,0)

/-! muntin/join.Whole -/
def ZbA (cells:List Zc):Option Bool :=
 (Zaw cells).bind fun (x,x1) =>
 some ((decide (x1=0))&&(decide ((x.length:Int)=1)))

/-! (muntin/face.Dart).is -/
def Zav (d:Zq) (cells:List Zc):Option Bool :=
 if decide (0≤d.Cell) then
  if decide (d.Cell<(cells.length:Int)) then
   (zR d.Dir).bind fun x =>
   if x then
    ck ((0:Int)≤d.Cell∧d.Cell<(cells.length:Int)) <|
    ck ((0:Int)≤d.Dir∧d.Dir<4) <|
    some (decide (0≤(((gi cells (d.Cell:Int).toNat).Next).get d.Dir)))
   else
    some false
  else
   some false
 else
  some false

/-! (muntin/face.Dart).behind -/
def z3.s0 (d:Zq) (cells:List Zc):Int→Option (Int⊕(Unit⊕Zq)):=fun x =>
 if decide (x<4) then
  ck ((0:Int)≤x∧x<4) <|
  (Zau d.Dir ((⟨1,0,(-1),2⟩:A4 Int).get x)).bind fun x2 =>
  (Zav (⟨((gi cells (d.Cell:Int).toNat).Next).get d.Dir,x2⟩:Zq) cells).bind fun x3 =>
  if x3 then
   some (.inr (.inr (⟨((gi cells (d.Cell:Int).toNat).Next).get d.Dir,x2⟩:Zq)))
  else
   ck (Zan (x+1)) <|
   some (.inl (x+1))
 else
  some (.inr (.inl ()))

def z3 (d:Zq) (cells:List Zc):Option Zq :=
 ck ((0:Int)≤d.Cell∧d.Cell<(cells.length:Int)) <|
 ck ((0:Int)≤d.Dir∧d.Dir<4) <|
 (
  ZaB (z3.s0 d cells) big 0:Option (Unit⊕Zq)).bind fun o₁=>match o₁ with
 | .inl _ =>
  some d
 | .inr x1 =>
  some x1

/-! muntin/face.Faces -/
def zL.s2 (cells:List Zc):(List (Zq×Bool))×(List Zq)×Zq→Option (((List (Zq×Bool))×(List Zq)×Zq)⊕((List (Zq×Bool))×(List Zq))):=fun (met3,f,x4) =>
 if !(Zdp false x4 met3) then
  ck (f.length+[x4].length≤1000000000) <|
  (z3 x4 cells).bind fun x5 =>
  some (.inl (Zdq x4 true met3,f++[x4],x5))
 else
  some (.inr (met3,f))

def zL.s1 (cells:List Zc) (x1:Int):(List (List Zq))×(List (Zq×Bool))×Int→Option (((List (List Zq))×(List (Zq×Bool))×Int)⊕((List (List Zq))×(List (Zq×Bool)))):=fun (l2,met1,x2) =>
 if decide (x2<4) then
  (Zav (⟨x1,x2⟩:Zq) cells).bind fun x3 =>
  if (!x3)||(Zdp false (⟨x1,x2⟩:Zq) met1) then
   ck (Zan (x2+1)) <|
   some (.inl (l2,met1,x2+1))
  else
   (ZaB (zL.s2 cells) big (met1,([]:List Zq),(⟨x1,x2⟩:Zq))).bind fun (met4,f1) =>
   ck (l2.length+1≤1000000000) <|
   ck (Zan (x2+1)) <|
   some (.inl (l2++[f1],met4,x2+1))
 else
  some (.inr (l2,met1))

def zL.s0 (cells:List Zc):(List (List Zq))×(List (Zq×Bool))×Int→Option (((List (List Zq))×(List (Zq×Bool))×Int)⊕(List (List Zq))):=fun (l,met,x1) =>
 if decide (x1<(cells.length:Int)) then
  (ZaB (zL.s1 cells x1) big (l,met,0)).bind fun (l3,met2) =>
  ck (Zan (x1+1)) <|
  some (.inl (l3,met2,x1+1))
 else
  some (.inr l)

def zL (cells:List Zc):Option ((List (List Zq))×Int) :=
 (zj cells).bind fun x =>
 if !(decide (x=0)) then
  some (([]:List (List Zq)),x)
 else
  (ZaB (zL.s0 cells) big (([]:List (List Zq)),([]:List (Zq×Bool)),0)).bind fun l1 =>
  some (l1,0)

/-! muntin/compass.Turn -/
def Zbf (d:Int) (e_:Int):Option Int :=
 (zR d).bind fun x =>
 (if !x then
  some true
 else
  (zR e_).bind fun x1 =>
  some (!x1)).bind fun t =>
 if t then
  some 0
 else
  ck (Zan (e_-d)) <|
  ck (Zan ((e_-d)+4)) <|
  ck ((0:Int)≤(((e_-d)+4).tmod 4)∧(((e_-d)+4).tmod 4)<4) <|
  some ((⟨0,1,(-2),(-1)⟩:A4 Int).get (((e_-d)+4).tmod 4))

/-! muntin/face.Turns -/
def ZaM.s0 (cells:List Zc) (f:List Zq):(List Int)×Int→Option (((List Int)×Int)⊕(List Int)):=fun (l,x1) =>
 if decide (x1<(f.length:Int)) then
  ck ((0:Int)≤x1∧x1<(f.length:Int)) <|
  (Zav (gi f x1.toNat) cells).bind fun x2 =>
  if x2 then
   (z3 (gi f x1.toNat) cells).bind fun x3 =>
   (Zbf ((gi f x1.toNat).Dir) x3.Dir).bind fun x4 =>
   ck ((0:Int)≤x1∧x1<(l.length:Int)) <|
   ck (Zan (x1+1)) <|
   some (.inl (l.set x1.toNat x4,x1+1))
  else
   ck (Zan (x1+1)) <|
   some (.inl (l,x1+1))
 else
  some (.inr l)

def ZaM (cells:List Zc) (f:List Zq):Option (List Int) :=
 ck ((0:Int)≤(f.length:Int)∧(f.length:Int)≤1000000000) <|
 (zj cells).bind fun x =>
 if !(decide (x=0)) then
  some (List.replicate ((f.length:Int):Int).toNat (0:Int))
 else
  (ZaB (ZaM.s0 cells f) big (List.replicate ((f.length:Int):Int).toNat (0:Int),0)).bind fun l1 =>
  some l1

/-! muntin/face.Rotation -/
def Zaz.s0 (turns:List Int):Int×Int→Option ((Int×Int)⊕Int):=fun (n,x) =>
 if decide (x<(turns.length:Int)) then
  ck ((0:Int)≤x∧x<(turns.length:Int)) <|
  if (decide ((-2)≤(gi turns x.toNat)))&&(decide ((gi turns x.toNat)≤1)) then
   ck (Zan (n+(gi turns x.toNat))) <|
   ck (Zan (x+1)) <|
   some (.inl (n+(gi turns x.toNat),x+1))
  else
   ck (Zan (x+1)) <|
   some (.inl (n,x+1))
 else
  some (.inr n)

def Zaz (turns:List Int):Option Int :=
 (ZaB (Zaz.s0 turns) big (0,0)).bind fun n1 =>
 some n1

/-! muntin/valid.outer -/
def ZaE.s0 (cells:List Zc) (x:List (List Zq)):Int×Int→Option ((Int×Int)⊕(Int⊕Unit)):=fun (at_,x2) =>
 if decide (x2<(x.length:Int)) then
  ck ((0:Int)≤x2∧x2<(x.length:Int)) <|
  (ZaM cells (gi x x2.toNat)).bind fun x3 =>
  (Zaz x3).bind fun x4 =>
  if decide (x4=4) then
   ck (Zan (x2+1)) <|
   some (.inl (at_,x2+1))
  else
   if decide (x4=(-4)) then
    if decide (0≤at_) then
     some (.inr (.inr ()))
    else
     ck (Zan (x2+1)) <|
     some (.inl (x2,x2+1))
   else
    some (.inr (.inr ()))
 else
  some (.inr (.inl at_))

def ZaE (cells:List Zc):Option (Int×Bool) :=
 (zL cells).bind fun (x,x1) =>
 (
  ZaB (ZaE.s0 cells x) big ((-1),0):Option (Int⊕Unit)).bind fun o₁=>match o₁ with
 | .inl at_1 =>
  some (at_1,decide (0≤at_1))
 | .inr _ =>
  some (0,false)

/-! muntin/valid.Check -/
def Zbs (cells:List Zc):Option Int :=
 (zj cells).bind fun x =>
 if !(decide (x=0)) then
  some x
 else
  (ZbA cells).bind fun x1 =>
  if !x1 then
   some 13
  else
   (ZaE cells).bind fun (x2,x3) =>
   if (!x3)&&(decide (1<(cells.length:Int))) then
    some 10
   else
    some 0

/-! slices.IndexFunc[[]muntin/api.Point,muntin/api.Point] -/
def zb.s0 (s:List Za) (f:Za→Option Bool):Int→Option (Int⊕(Unit⊕Int)):=fun x =>
 if decide (x<(s.length:Int)) then
  ck ((0:Int)≤x∧x<(s.length:Int)) <|
  (f (gi s x.toNat)).bind fun x2 =>
  if x2 then
   some (.inr (.inr x))
  else
   ck (Zan (x+1)) <|
   some (.inl (x+1))
 else
  some (.inr (.inl ()))

def zb (s:List Za) (f:Za→Option Bool):Option Int :=
 (
  ZaB (zb.s0 s f) big 0:Option (Unit⊕Int)).bind fun o₁=>match o₁ with
 | .inl _ =>
  some (-1)
 | .inr x1 =>
  some x1

/-! slices.ContainsFunc[[]muntin/api.Point,muntin/api.Point] -/
def z4 (s:List Za) (f:Za→Option Bool):Option Bool :=
 (zb s f).bind fun x =>
 some (decide (0≤x))

/-! muntin/arcs.far -/
def Zcg (p:Za):Option Bool :=
 some ((decide (1000000<(max p.X p.Y)))||(decide ((min p.X p.Y)<(-1000000))))

/-! muntin/compass.Between -/
def ZaL (a:Za) (b:Za):Option (Int×Bool) :=
 if decide ((decide (a.X=b.X))=(decide (a.Y=b.Y))) then
  some (0,false)
 else
  if decide (a.X<b.X) then
   some (0,true)
  else
   if decide (b.X<a.X) then
    some (2,true)
   else
    if decide (a.Y<b.Y) then
     some (1,true)
    else
     some (3,true)

/-! muntin/arcs.weight -/
def Zbr (owner:Int):Option Int :=
 if decide (0≤owner) then
  some 1
 else
  some 0

/-! muntin/arcs.Length -/
def Zae.s1 (cells:List Zc) (at_:List Za) (x2:Int):Int×Int→Option ((Int×Int)⊕(Int⊕Unit)):=fun (sum2,x3) =>
 if decide (x3<(([0,1]:List Int).length:Int)) then
  ck ((0:Int)≤x3∧x3<(([0,1]:List Int).length:Int)) <|
  ck ((0:Int)≤(gi ([0,1]:List Int) x3.toNat)∧(gi ([0,1]:List Int) x3.toNat)<4) <|
  if decide ((((gi cells x2.toNat).Next).get (gi ([0,1]:List Int) x3.toNat))<0) then
   ck (Zan (x3+1)) <|
   some (.inl (sum2,x3+1))
  else
   ck ((0:Int)≤x2∧x2<(at_.length:Int)) <|
   ck ((0:Int)≤(((gi cells x2.toNat).Next).get (gi ([0,1]:List Int) x3.toNat))∧(((gi cells x2.toNat).Next).get (gi ([0,1]:List Int) x3.toNat))<(at_.length:Int)) <|
   (ZaL (gi at_ x2.toNat) (gi at_ (((gi cells x2.toNat).Next).get (gi ([0,1]:List Int) x3.toNat):Int).toNat)).bind fun (x4,x5) =>
   if (!x5)||(!(decide (x4=gi ([0,1]:List Int) x3.toNat))) then
    some (.inr (.inr ()))
   else
    (Zbr (((gi cells x2.toNat).Owner).get (gi ([0,1]:List Int) x3.toNat))).bind fun x6 =>
    ck (Zan (((gi at_ (((gi cells x2.toNat).Next).get (gi ([0,1]:List Int) x3.toNat):Int).toNat).X)-((gi at_ x2.toNat).X))) <|
    ck (Zan ((((gi at_ (((gi cells x2.toNat).Next).get (gi ([0,1]:List Int) x3.toNat):Int).toNat).X)-((gi at_ x2.toNat).X))+((gi at_ (((gi cells x2.toNat).Next).get (gi ([0,1]:List Int) x3.toNat):Int).toNat).Y))) <|
    ck (Zan (((((gi at_ (((gi cells x2.toNat).Next).get (gi ([0,1]:List Int) x3.toNat):Int).toNat).X)-((gi at_ x2.toNat).X))+((gi at_ (((gi cells x2.toNat).Next).get (gi ([0,1]:List Int) x3.toNat):Int).toNat).Y))-((gi at_ x2.toNat).Y))) <|
    ck (Zan (x6*(((((gi at_ (((gi cells x2.toNat).Next).get (gi ([0,1]:List Int) x3.toNat):Int).toNat).X)-((gi at_ x2.toNat).X))+((gi at_ (((gi cells x2.toNat).Next).get (gi ([0,1]:List Int) x3.toNat):Int).toNat).Y))-((gi at_ x2.toNat).Y)))) <|
    ck (Zan (sum2+(x6*(((((gi at_ (((gi cells x2.toNat).Next).get (gi ([0,1]:List Int) x3.toNat):Int).toNat).X)-((gi at_ x2.toNat).X))+((gi at_ (((gi cells x2.toNat).Next).get (gi ([0,1]:List Int) x3.toNat):Int).toNat).Y))-((gi at_ x2.toNat).Y))))) <|
    ck (Zan (x3+1)) <|
    some (.inl (sum2+(x6*(((((gi at_ (((gi cells x2.toNat).Next).get (gi ([0,1]:List Int) x3.toNat):Int).toNat).X)-((gi at_ x2.toNat).X))+((gi at_ (((gi cells x2.toNat).Next).get (gi ([0,1]:List Int) x3.toNat):Int).toNat).Y))-((gi at_ x2.toNat).Y))),x3+1))
 else
  some (.inr (.inl sum2))

def Zae.s0 (cells:List Zc) (at_:List Za):Int×Int→Option ((Int×Int)⊕(Int⊕Unit)):=fun (sum,x2) =>
 if decide (x2<(cells.length:Int)) then
  ck ((0:Int)≤x2∧x2<(cells.length:Int)) <|
  (
   ZaB (Zae.s1 cells at_ x2) big (sum,0):Option (Int⊕Unit)).bind fun o₃=>match o₃ with
  | .inl sum3 =>
   ck (Zan (x2+1)) <|
   some (.inl (sum3,x2+1))
  | .inr _ =>
   some (.inr (.inr ()))
 else
  some (.inr (.inl sum))

def Zae (cells:List Zc) (at_:List Za):Option (Int×Int) :=
 (zj cells).bind fun x =>
 if !(decide (x=0)) then
  some (0,x)
 else
  (if !(decide ((at_.length:Int)=(cells.length:Int))) then
   some true
  else
   (z4 at_ (fun y0=>Zcg y0)).bind fun x1 =>
   some x1).bind fun t =>
  if t then
   some (0,2)
  else
   (
    ZaB (Zae.s0 cells at_) big (0,0):Option (Int⊕Unit)).bind fun o₁=>match o₁ with
   | .inl sum1 =>
    some (sum1,0)
   | .inr _ =>
    some (0,15)

/-! muntin/seg.chains -/
def z7.s1 (cells:List Zc) (x1:Int):Int×Int→Option ((Int×Int)⊕(Int⊕Unit)):=fun (first,n) =>
 ck ((0:Int)≤first∧first<(cells.length:Int)) <|
 ck ((0:Int)≤x1∧x1<4) <|
 if decide (0≤(((gi cells first.toNat).Next).get x1)) then
  if decide (n=(cells.length:Int)) then
   some (.inr (.inr ()))
  else
   ck (Zan (n+1)) <|
   some (.inl (((gi cells first.toNat).Next).get x1,n+1))
 else
  some (.inr (.inl first))

def z7.s2 (cells:List Zc) (d:Int) (l:List (List Int)):(List Int)×(List Int)×Int→Option (((List Int)×(List Int)×Int)⊕((List Int)×(List Int))):=fun (at_2,chain,w) =>
 if decide (0≤w) then
  ck ((0:Int)≤w∧w<(at_2.length:Int)) <|
  ck (chain.length+[w].length≤1000000000) <|
  ck ((0:Int)≤w∧w<(cells.length:Int)) <|
  ck ((0:Int)≤d∧d<4) <|
  some (.inl (at_2.set w.toNat (l.length:Int),chain++[w],((gi cells w.toNat).Next).get d))
 else
  some (.inr (at_2,chain))

def z7.s0 (cells:List Zc) (d:Int) (x1:Int):(List Int)×(List (List Int))×Int→Option (((List Int)×(List (List Int))×Int)⊕(((List Int)×(List (List Int)))⊕Unit)):=fun (at_,l,x2) =>
 if decide (x2<(cells.length:Int)) then
  ck ((0:Int)≤x2∧x2<(at_.length:Int)) <|
  if decide (0≤(gi at_ x2.toNat)) then
   ck (Zan (x2+1)) <|
   some (.inl (at_,l,x2+1))
  else
   (
    ZaB (z7.s1 cells x1) big (x2,0):Option (Int⊕Unit)).bind fun o₃=>match o₃ with
   | .inl first1 =>
    (ZaB (z7.s2 cells d l) big (at_,([]:List Int),first1)).bind fun (at_3,chain1) =>
    ck (l.length+1≤1000000000) <|
    ck (Zan (x2+1)) <|
    some (.inl (at_3,l++[chain1],x2+1))
   | .inr _ =>
    some (.inr (.inr ()))
 else
  some (.inr (.inl (at_,l)))

def z7 (cells:List Zc) (d:Int):Option ((List Int)×(List (List Int))×Bool) :=
 (zi ([(-1)]:List Int) (cells.length:Int)).bind fun x =>
 (Zau d 2).bind fun x1 =>
 (
  ZaB (z7.s0 cells d x1) big (x,([]:List (List Int)),0):Option (((List Int)×(List (List Int)))⊕Unit)).bind fun o₁=>match o₁ with
 | .inl (at_1,l1) =>
  some (at_1,l1,true)
 | .inr _ =>
  some (([]:List Int),([]:List (List Int)),false)

/-! muntin/seg.Of -/
def Zci (cells:List Zc):Option (zu×Int) :=
 (zj cells).bind fun x =>
 if !(decide (x=0)) then
  some ((⟨([]:List Int),([]:List Int),([]:List (List Int)),([]:List (List Int))⟩:zu),x)
 else
  (z7 cells 1).bind fun (x1,x2,x3) =>
  (z7 cells 0).bind fun (x4,x5,x6) =>
  if (!x3)||(!x6) then
   some ((⟨([]:List Int),([]:List Int),([]:List (List Int)),([]:List (List Int))⟩:zu),10)
  else
   some ((⟨x1,x4,x2,x5⟩:zu),0)

/-! muntin/sep.lines -/
def Za6.s0 (c:zu):(List ZW)×Int→Option (((List ZW)×Int)⊕(List ZW)):=fun (l,x) =>
 if decide (x<(c.Vert.length:Int)) then
  ck ((0:Int)≤x∧x<(c.Vert.length:Int)) <|
  if decide (1<((gi c.Vert x.toNat).length:Int)) then
   ck (l.length+[(⟨true,x⟩:ZW)].length≤1000000000) <|
   ck (Zan (x+1)) <|
   some (.inl (l++[(⟨true,x⟩:ZW)],x+1))
  else
   ck (Zan (x+1)) <|
   some (.inl (l,x+1))
 else
  some (.inr l)

def Za6.s1 (c:zu):(List ZW)×Int→Option (((List ZW)×Int)⊕(List ZW)):=fun (l2,x1) =>
 if decide (x1<(c.Horz.length:Int)) then
  ck ((0:Int)≤x1∧x1<(c.Horz.length:Int)) <|
  if decide (1<((gi c.Horz x1.toNat).length:Int)) then
   ck (l2.length+[(⟨false,x1⟩:ZW)].length≤1000000000) <|
   ck (Zan (x1+1)) <|
   some (.inl (l2++[(⟨false,x1⟩:ZW)],x1+1))
  else
   ck (Zan (x1+1)) <|
   some (.inl (l2,x1+1))
 else
  some (.inr l2)

def Za6 (c:zu):Option (List ZW) :=
 (ZaB (Za6.s0 c) big (([]:List ZW),0)).bind fun l1 =>
 (ZaB (Za6.s1 c) big (l1,0)).bind fun l3 =>
 some l3

/-! muntin/sep.Lines -/
def ZbR (cells:List Zc):Option ((List ZW)×Int) :=
 (Zci cells).bind fun (x,x1) =>
 if !(decide (x1=0)) then
  some (([]:List ZW),x1)
 else
  (Za6 x).bind fun x2 =>
  some (x2,0)

/-! muntin/check.span -/
def ZaV (c:zu) (l:ZW) (at_:List Za):Option ZC :=
 (
  if l.Vertical then
   some c.Vert
  else
   some c.Horz).bind fun of =>
 ck ((0:Int)≤l.Place∧l.Place<(of.length:Int)) <|
 ck ((0:Int)≤0∧0<((gi of (l.Place:Int).toNat).length:Int)) <|
 ck ((0:Int)≤(gi (gi of (l.Place:Int).toNat) (0:Int).toNat)∧(gi (gi of (l.Place:Int).toNat) (0:Int).toNat)<(at_.length:Int)) <|
 ck (Zan (((gi of (l.Place:Int).toNat).length:Int)-1)) <|
 ck ((0:Int)≤(((gi of (l.Place:Int).toNat).length:Int)-1)∧(((gi of (l.Place:Int).toNat).length:Int)-1)<((gi of (l.Place:Int).toNat).length:Int)) <|
 ck ((0:Int)≤(gi (gi of (l.Place:Int).toNat) (((gi of (l.Place:Int).toNat).length:Int)-1:Int).toNat)∧(gi (gi of (l.Place:Int).toNat) (((gi of (l.Place:Int).toNat).length:Int)-1:Int).toNat)<(at_.length:Int)) <|
 some (⟨gi at_ (gi (gi of (l.Place:Int).toNat) (0:Int).toNat:Int).toNat,gi at_ (gi (gi of (l.Place:Int).toNat) (((gi of (l.Place:Int).toNat).length:Int)-1:Int).toNat:Int).toNat⟩:ZC)

/-! muntin/check.Apart -/
def zo (a:ZC) (b:ZC):Option Bool :=
 some ((((decide (a.High.X<b.Low.X))||(decide (b.High.X<a.Low.X)))||(decide (a.High.Y<b.Low.Y)))||(decide (b.High.Y<a.Low.Y)))

/-! (muntin/seg.Chains).chain -/
def Zak (c:zu) (vertical:Bool) (i:Int):Option (List Int) :=
 (
  if vertical then
   some c.Vert
  else
   some c.Horz).bind fun l =>
 if (decide (i<0))||(decide ((l.length:Int)≤i)) then
  some ([]:List Int)
 else
  ck ((0:Int)≤i∧i<(l.length:Int)) <|
  some (gi l i.toNat)

/-! slices.IndexFunc[[]int,int] -/
def zy.s0 (s:List Int) (f:Int→Option Bool):Int→Option (Int⊕(Unit⊕Int)):=fun x =>
 if decide (x<(s.length:Int)) then
  ck ((0:Int)≤x∧x<(s.length:Int)) <|
  (f (gi s x.toNat)).bind fun x2 =>
  if x2 then
   some (.inr (.inr x))
  else
   ck (Zan (x+1)) <|
   some (.inl (x+1))
 else
  some (.inr (.inl ()))

def zy (s:List Int) (f:Int→Option Bool):Option Int :=
 (
  ZaB (zy.s0 s f) big 0:Option (Unit⊕Int)).bind fun o₁=>match o₁ with
 | .inl _ =>
  some (-1)
 | .inr x1 =>
  some x1

/-! slices.ContainsFunc[[]int,int] -/
def zZ (s:List Int) (f:Int→Option Bool):Option Bool :=
 (zy s f).bind fun x =>
 some (decide (0≤x))

/-! slices.Index[[]int,int] -/
def zT.s0 (s:List Int) (v:Int):Int→Option (Int⊕(Unit⊕Int)):=fun x =>
 if decide (x<(s.length:Int)) then
  ck ((0:Int)≤x∧x<(s.length:Int)) <|
  if decide (v=gi s x.toNat) then
   some (.inr (.inr x))
  else
   ck (Zan (x+1)) <|
   some (.inl (x+1))
 else
  some (.inr (.inl ()))

def zT (s:List Int) (v:Int):Option Int :=
 (
  ZaB (zT.s0 s v) big 0:Option (Unit⊕Int)).bind fun o₁=>match o₁ with
 | .inl _ =>
  some (-1)
 | .inr x1 =>
  some x1

/-! slices.Contains[[]int,int] -/
def Za2 (s:List Int) (v:Int):Option Bool :=
 (zT s v).bind fun x =>
 some (decide (0≤x))

/-! (muntin/seg.Chains).Meet$1 -/
def ZaC (v:Int) (c0:List Int):Option Bool :=
 (Za2 c0 v).bind fun x =>
 some x

/-! (muntin/seg.Chains).Meet -/
def ZaN (c:zu) (vertical:Bool) (i:Int) (other:Bool) (k_:Int):Option Bool :=
 (Zak c other k_).bind fun x =>
 (Zak c vertical i).bind fun x1 =>
 (zZ x1 (fun y0=>ZaC y0 x)).bind fun x2 =>
 some x2

/-! muntin/check.crossed -/
def zH.s1 (at_:List Za) (x:zu) (x2:List ZW) (x4:Int) (x5:ZC):Int→Option (Int⊕(Unit⊕Unit)):=fun x6 =>
 if decide (x6<((x2.drop (x4+1:Int).toNat).length:Int)) then
  ck ((0:Int)≤x6∧x6<((x2.drop (x4+1:Int).toNat).length:Int)) <|
  (ZaV x (gi (x2.drop (x4+1:Int).toNat) x6.toNat) at_).bind fun x7 =>
  (zo x5 x7).bind fun x8 =>
  if !x8 then
   (ZaN x ((gi x2 x4.toNat).Vertical) ((gi x2 x4.toNat).Place) ((gi (x2.drop (x4+1:Int).toNat) x6.toNat).Vertical) ((gi (x2.drop (x4+1:Int).toNat) x6.toNat).Place)).bind fun x9 =>
   if !x9 then
    some (.inr (.inr ()))
   else
    ck (Zan (x6+1)) <|
    some (.inl (x6+1))
  else
   ck (Zan (x6+1)) <|
   some (.inl (x6+1))
 else
  some (.inr (.inl ()))

def zH.s0 (at_:List Za) (x:zu) (x2:List ZW):Int→Option (Int⊕(Unit⊕Unit)):=fun x4 =>
 if decide (x4<(x2.length:Int)) then
  ck ((0:Int)≤x4∧x4<(x2.length:Int)) <|
  (ZaV x (gi x2 x4.toNat) at_).bind fun x5 =>
  ck (Zan (x4+1)) <|
  ck ((0:Int)≤(x4+1)∧(x4+1)≤(x2.length:Int)) <|
  (
   ZaB (zH.s1 at_ x x2 x4 x5) big 0:Option (Unit⊕Unit)).bind fun o₃=>match o₃ with
  | .inl _ =>
   some (.inl (x4+1))
  | .inr _ =>
   some (.inr (.inr ()))
 else
  some (.inr (.inl ()))

def zH (cells:List Zc) (at_:List Za):Option Bool :=
 (Zci cells).bind fun (x,x1) =>
 (ZbR cells).bind fun (x2,x3) =>
 (
  ZaB (zH.s0 at_ x x2) big 0:Option (Unit⊕Unit)).bind fun o₁=>match o₁ with
 | .inl _ =>
  some false
 | .inr _ =>
  some true

/-! muntin/check.Real -/
def ZaD (cells:List Zc) (at_:List Za):Option Int :=
 (Zbs cells).bind fun x =>
 if !(decide (x=0)) then
  some x
 else
  (Zae cells at_).bind fun (x1,x2) =>
  if !(decide (x2=0)) then
   some x2
  else
   (zH cells at_).bind fun x3 =>
   if x3 then
    some 14
   else
    some 0

/-! muntin/muntinlaw26.wakes -/
def Zax:Option Bool :=
 (zx 2).bind fun x =>
 (ZaG x 0 0 1 0).bind fun (x1,x2) =>
 (ZaD x1 [(⟨(0:Int),(0:Int)⟩:Za),(⟨4,(0:Int)⟩:Za)]).bind fun x3 =>
 (if decide (x3=0) then
  (ZaD x1 [(⟨(0:Int),(0:Int)⟩:Za),(⟨(0:Int),4⟩:Za)]).bind fun x4 =>
  some (decide (x4=15))
 else
  some false).bind fun t =>
 (if t then
  (ZaD x1 ([]:List Za)).bind fun x5 =>
  some (decide (x5=2))
 else
  some false).bind fun t1 =>
 (if t1 then
  (zo (⟨(⟨0,0⟩:Za),(⟨0,0⟩:Za)⟩:ZC) (⟨(⟨1,(0:Int)⟩:Za),(⟨1,(0:Int)⟩:Za)⟩:ZC)).bind fun x6 =>
  some x6
 else
  some false).bind fun t2 =>
 some t2

/-! muntin/muntinlaw26.CheckApart$2 -/
def ZZ (x:ZC) (c0:A2 Int):Option ZC :=
 ck (inK .i64 (c0.get 0)) <|
 ck (Zan (x.Low.X+(c0.get 0))) <|
 ck (inK .i64 (c0.get 1)) <|
 ck (Zan (x.Low.Y+(c0.get 1))) <|
 ck (Zan (x.High.X+(c0.get 0))) <|
 ck (Zan (x.High.Y+(c0.get 1))) <|
 some ({ { x with Low:={ { x.Low with X:=x.Low.X+(c0.get 0) } with Y:=x.Low.Y+(c0.get 1) } } with High:={ { x.High with X:=x.High.X+(c0.get 0) } with Y:=x.High.Y+(c0.get 1) } })

/-! muntin/muntinlaw26.CheckApart -/
def zJ (a:A4 Int) (b:A4 Int) (by_:A2 Int):Option Bool :=
 (ZY a).bind fun x =>
 (ZY b).bind fun x1 =>
 (Zax ).bind fun x2 =>
 if x2 then
  (zo x x1).bind fun x3 =>
  if decide (x3=((decide (((⟨min x.High.X x1.High.X,min x.High.Y x1.High.Y⟩:Za).X)<((⟨max x.Low.X x1.Low.X,max x.Low.Y x1.Low.Y⟩:Za).X)))||(decide (((⟨min x.High.X x1.High.X,min x.High.Y x1.High.Y⟩:Za).Y)<((⟨max x.Low.X x1.Low.X,max x.Low.Y x1.Low.Y⟩:Za).Y))))) then
   (zo x1 x).bind fun x4 =>
   if decide (x4=((decide (((⟨min x.High.X x1.High.X,min x.High.Y x1.High.Y⟩:Za).X)<((⟨max x.Low.X x1.Low.X,max x.Low.Y x1.Low.Y⟩:Za).X)))||(decide (((⟨min x.High.X x1.High.X,min x.High.Y x1.High.Y⟩:Za).Y)<((⟨max x.Low.X x1.Low.X,max x.Low.Y x1.Low.Y⟩:Za).Y))))) then
    (ZZ x by_).bind fun x5 =>
    (ZZ x1 by_).bind fun x6 =>
    (zo x5 x6).bind fun x7 =>
    if decide (x7=((decide (((⟨min x.High.X x1.High.X,min x.High.Y x1.High.Y⟩:Za).X)<((⟨max x.Low.X x1.Low.X,max x.Low.Y x1.Low.Y⟩:Za).X)))||(decide (((⟨min x.High.X x1.High.X,min x.High.Y x1.High.Y⟩:Za).Y)<((⟨max x.Low.X x1.Low.X,max x.Low.Y x1.Low.Y⟩:Za).Y))))) then
     (zo x x).bind fun x8 =>
     some (!x8)
    else
     some false
   else
    some false
  else
   some false
 else
  some false

end Mu
