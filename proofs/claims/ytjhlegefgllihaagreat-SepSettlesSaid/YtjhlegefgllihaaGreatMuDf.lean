/- What the functions work out. -/
import Derived.Test.YtjhlegefgllihaaGreatMuA
import Derived.Test.YtjhlegefgllihaaGreatMuR
set_option linter.unusedVariables false
set_option linter.unnecessarySimpa false
set_option linter.unusedSimpArgs false
set_option maxHeartbeats 2000000
set_option maxRecDepth 10000
namespace Mu
open Go (IntKind BinOp UnOp)
structure zq where
 At:List Int
 Bits:List Int
 Own:List Int
 deriving DecidableEq,Inhabited
structure Zau where
 Boxes:List Bool
 Edges:List (A3 Int)
 Bends:List Int
 deriving DecidableEq,Inhabited
structure Za where
 Next:A4 Int
 Owner:A4 Int
 deriving DecidableEq,Inhabited
abbrev Zgv:Enc Int:=⟨1,λx=>[.i .u8 x],λ_=>rfl⟩
theorem Zgv.one(x:Int):(Zgv.c x).all V.one=true:=rfl
abbrev Zkz:Enc Int:=⟨1,λx=>[.i .i8 x],λ_=>rfl⟩
theorem Zkz.one(x:Int):(Zkz.c x).all V.one=true:=rfl
abbrev e_bool:Enc Bool:=⟨1,λx=>[.b x],λ_=>rfl⟩
theorem e_bool.one(x:Bool):(e_bool.c x).all V.one=true:=rfl
abbrev ZeJ:Enc (A3 Int):=⟨3,λx=>[.i .u8 x.a,.i .u8 x.b,.i .u8 x.c],λ_=>rfl⟩
theorem ZeJ.one(x:A3 Int):(ZeJ.c x).all V.one=true:=rfl
abbrev Zh:Enc Za:=⟨8,λx=>[.i .i64 x.Next.a,.i .i64 x.Next.b,.i .i64 x.Next.c,.i .i64 x.Next.d,.i .i64 x.Owner.a,.i .i64 x.Owner.b,.i .i64 x.Owner.c,.i .i64 x.Owner.d],λ_=>rfl⟩
theorem Zh.one(x:Za):(Zh.c x).all V.one=true:=rfl
structure Zk where
 X:Int
 Y:Int
 deriving DecidableEq,Inhabited
abbrev ZU:Enc Zk:=⟨2,λx=>[.i .i64 x.X,.i .i64 x.Y],λ_=>rfl⟩
theorem ZU.one(x:Zk):(ZU.c x).all V.one=true:=rfl
theorem ZU.same(x y:Zk):zZ [.i,.i] (ZU.c x) (ZU.c y)=some (decide (x=y)):=by
 obtain⟨x1,x2⟩:=x;obtain⟨y1,y2⟩:=y;refine(Zd5 (Zd5 Zfl)).trans ?_;congr 1;rw[Bool.eq_iff_iff];simp[and_assoc]
structure Zaf where
 From:Int
 To:Int
 Dir:Int
 Bends:ByteArray
 deriving DecidableEq,Inhabited
abbrev zo:Enc Zaf:=⟨4,λx=>[.i .i64 x.From,.i .i64 x.To,.i .i64 x.Dir,.s x.Bends],λ_=>rfl⟩
theorem zo.one(x:Zaf):(zo.c x).all V.one=true:=rfl
structure zf where
 Boxes:List Bool
 Edges:List Zaf
 deriving DecidableEq,Inhabited
abbrev ZfW:Enc (A3 Int):=⟨3,λx=>[.i .i64 x.a,.i .i64 x.b,.i .i64 x.c],λ_=>rfl⟩
theorem ZfW.one(x:A3 Int):(ZfW.c x).all V.one=true:=rfl
structure Zb where
 From:Int
 To:Int
 Weight:Int
 deriving DecidableEq,Inhabited
structure Zz where
 Vertical:Bool
 Place:Int
 deriving DecidableEq,Inhabited
structure Z1 where
 Cell:Int
 Dir:Int
 deriving DecidableEq,Inhabited
abbrev Zy:Enc Z1:=⟨2,λx=>[.i .i64 x.Cell,.i .i64 x.Dir],λ_=>rfl⟩
theorem Zy.one(x:Z1):(Zy.c x).all V.one=true:=rfl
theorem Zy.same(x y:Z1):zZ [.i,.i] (Zy.c x) (Zy.c y)=some (decide (x=y)):=by
 obtain⟨x1,x2⟩:=x;obtain⟨y1,y2⟩:=y;refine(Zd5 (Zd5 Zfl)).trans ?_;congr 1;rw[Bool.eq_iff_iff];simp[and_assoc]
abbrev ZbI:Enc (A4 Int):=⟨4,λx=>[.i .i64 x.a,.i .i64 x.b,.i .i64 x.c,.i .i64 x.d],λ_=>rfl⟩
theorem ZbI.one(x:A4 Int):(ZbI.c x).all V.one=true:=rfl
abbrev Zt:Enc (A2 Zz):=⟨4,λx=>[.b x.a.Vertical,.i .i64 x.a.Place,.b x.b.Vertical,.i .i64 x.b.Place],λ_=>rfl⟩
theorem Zt.one(x:A2 Zz):(Zt.c x).all V.one=true:=rfl
abbrev Zc:Enc Zb:=⟨3,λx=>[.i .i64 x.From,.i .i64 x.To,.i .i64 x.Weight],λ_=>rfl⟩
theorem Zc.one(x:Zb):(Zc.c x).all V.one=true:=rfl
theorem Zc.same(x y:Zb):zZ [.i,.i,.i] (Zc.c x) (Zc.c y)=some (decide (x=y)):=by
 obtain⟨x1,x2,x3⟩:=x;obtain⟨y1,y2,y3⟩:=y;refine(Zd5 (Zd5 (Zd5 Zfl))).trans ?_;congr 1;rw[Bool.eq_iff_iff];simp[and_assoc]
structure zR where
 X:List Int
 Y:List Int
 Vert:List (List Int)
 Horz:List (List Int)
 deriving DecidableEq,Inhabited
structure Zak where
 Chains:zR
 H:List Zb
 V:List Zb
 deriving DecidableEq,Inhabited
abbrev Z0:Enc Zz:=⟨2,λx=>[.b x.Vertical,.i .i64 x.Place],λ_=>rfl⟩
theorem Z0.one(x:Zz):(Z0.c x).all V.one=true:=rfl
structure zM where
 left:Int
 right:Int
 bottom:Int
 top:Int
 deriving DecidableEq,Inhabited
abbrev ZD:Enc zM:=⟨4,λx=>[.i .i64 x.left,.i .i64 x.right,.i .i64 x.bottom,.i .i64 x.top],λ_=>rfl⟩
theorem ZD.one(x:zM):(ZD.c x).all V.one=true:=rfl
abbrev zz:Enc Int:=⟨1,λx=>[.i .u64 x],λ_=>rfl⟩
theorem zz.one(x:Int):(zz.c x).all V.one=true:=rfl
structure zd where
 rows:List (List Int)
 deriving DecidableEq,Inhabited
abbrev Zl:Enc (A2 Int):=⟨2,λx=>[.i .i64 x.a,.i .i64 x.b],λ_=>rfl⟩
theorem Zl.one(x:A2 Int):(Zl.c x).all V.one=true:=rfl
structure ZaP where
 Graphs:Zak
 Open:List (A2 Zz)
 deriving DecidableEq,Inhabited
structure ZO where
 result:ZaP
 h:zd
 v:zd
 lines:List Zz
 sides:List zM
 deriving DecidableEq,Inhabited
structure Zi where
 horizontal:Bool
 from_:Int
 to:Int
 deriving DecidableEq,Inhabited
abbrev Zb0:Enc (A4 Zi):=⟨12,λx=>[.b x.a.horizontal,.i .i64 x.a.from_,.i .i64 x.a.to,.b x.b.horizontal,.i .i64 x.b.from_,.i .i64 x.b.to,.b x.c.horizontal,.i .i64 x.c.from_,.i .i64 x.c.to,.b x.d.horizontal,.i .i64 x.d.from_,.i .i64 x.d.to],λ_=>rfl⟩
theorem Zb0.one(x:A4 Zi):(Zb0.c x).all V.one=true:=rfl
abbrev ZR:Enc Zi:=⟨3,λx=>[.b x.horizontal,.i .i64 x.from_,.i .i64 x.to],λ_=>rfl⟩
theorem ZR.one(x:Zi):(ZR.c x).all V.one=true:=rfl
structure Zs where
 Cell:Int
 Dir:Int
 deriving DecidableEq,Inhabited
abbrev Z6:Enc Zs:=⟨2,λx=>[.i .i64 x.Cell,.i .i64 x.Dir],λ_=>rfl⟩
theorem Z6.one(x:Zs):(Z6.c x).all V.one=true:=rfl
structure ZN where
 X:List Int
 Y:List Int
 Vert:List (List Int)
 Horz:List (List Int)
 deriving DecidableEq,Inhabited
structure Zj where
 Vertical:Bool
 Place:Int
 deriving DecidableEq,Inhabited
structure ZT where
 N:Int
 M:Int
 H:List (A2 Int)
 V:List (A2 Int)
 A:List (List Bool)
 B:List (List Bool)
 deriving DecidableEq,Inhabited
abbrev zi:Enc Zj:=⟨2,λx=>[.b x.Vertical,.i .i64 x.Place],λ_=>rfl⟩
theorem zi.one(x:Zj):(zi.c x).all V.one=true:=rfl
abbrev Z9:Enc (A2 Zj):=⟨4,λx=>[.b x.a.Vertical,.i .i64 x.a.Place,.b x.b.Vertical,.i .i64 x.b.Place],λ_=>rfl⟩
theorem Z9.one(x:A2 Zj):(Z9.c x).all V.one=true:=rfl
structure Zal where
 Cells:List Za
 First:List Int
 Ends:List (A2 Int)
 Ways:List (List Int)
 deriving DecidableEq,Inhabited
def Zf3(x:Int):Prop:=Wf .u8 x
def ZkV(x:Int):Prop:=Wf .i8 x
def Zi5(x:Bool):Prop:=True
def ZfK(x:A3 Int):Prop:=Wf .u8 x.a/\Wf .u8 x.b/\Wf .u8 x.c
def Zeu(x:Za):Prop:=Wf .i64 x.Next.a/\Wf .i64 x.Next.b/\Wf .i64 x.Next.c/\Wf .i64 x.Next.d/\Wf .i64 x.Owner.a/\Wf .i64 x.Owner.b/\Wf .i64 x.Owner.c/\Wf .i64 x.Owner.d
/-! muntin/muntinref10.New -/
def ZK.s1(v:Int):(List Za)×Int->Option (((List Za)×Int)⊕(List Za)):=λ(l2,d)=>
 if decide (d<4)then
  ck ((0:Int)<=v/\v<(l2.length:Int)) <|
  ck ((0:Int)<=d/\d<4) <|
  ck (ZJ (d+1)) <|
  some (.inl (l2.set v.toNat ({ gi l2 v.toNat with Next:=((gi l2 v.toNat).Next).set d (-1) }),d+1))
 else
  some (.inr l2)

def ZK.s0(n:Int):(List Za)×Int->Option (((List Za)×Int)⊕(List Za)):=λ(l,v)=>
 if decide (v<n)then
  (Zn (ZK.s1 v) big (l,0)).bind λl3=>
  ck (ZJ (v+1)) <|
  some (.inl (l3,v+1))
 else
  some (.inr l)

def ZK(n:Int):Option (List Za) :=
 ck ((0:Int)<=n/\n<=1000000000) <|
 (Zn (ZK.s0 n) big (List.replicate n.toNat (⟨⟨0,0,0,0⟩,⟨0,0,0,0⟩⟩:Za),0)).bind λl1=>
 some l1

/-! muntin/muntinref10.Nearest -/
def ZI.s0(at_:List Zk)(i:Int)(d:Int):Int×Int->Option ((Int×Int)⊕Int):=λ(best,k_)=>
 if decide (k_<(at_.length:Int))then
  (if decide (d=0)then
   ck ((0:Int)<=k_/\k_<(at_.length:Int)) <|
   ck ((0:Int)<=i/\i<(at_.length:Int)) <|
   some (decide ((gi at_ k_.toNat).Y=(gi at_ i.toNat).Y))
  else
   some false).bind λt=>
  (if t then
   ck ((0:Int)<=k_/\k_<(at_.length:Int)) <|
   ck ((0:Int)<=i/\i<(at_.length:Int)) <|
   some (decide (((gi at_ i.toNat).X)<((gi at_ k_.toNat).X)))
  else
   some false).bind λt1=>
  (if t1 then
   (if decide (best<0)then
    some true
   else
    ck ((0:Int)<=k_/\k_<(at_.length:Int)) <|
    ck ((0:Int)<=best/\best<(at_.length:Int)) <|
    some (decide (((gi at_ k_.toNat).X)<((gi at_ best.toNat).X)))).bind λt3=>
   some t3
  else
   some false).bind λt2=>
  (
   if t2 then
    some k_
   else
    some best).bind λbest2=>
  (if decide (d=1)then
   ck ((0:Int)<=k_/\k_<(at_.length:Int)) <|
   ck ((0:Int)<=i/\i<(at_.length:Int)) <|
   some (decide ((gi at_ k_.toNat).X=(gi at_ i.toNat).X))
  else
   some false).bind λt4=>
  (if t4 then
   ck ((0:Int)<=k_/\k_<(at_.length:Int)) <|
   ck ((0:Int)<=i/\i<(at_.length:Int)) <|
   some (decide (((gi at_ i.toNat).Y)<((gi at_ k_.toNat).Y)))
  else
   some false).bind λt5=>
  (if t5 then
   (if decide (best2<0)then
    some true
   else
    ck ((0:Int)<=k_/\k_<(at_.length:Int)) <|
    ck ((0:Int)<=best2/\best2<(at_.length:Int)) <|
    some (decide (((gi at_ k_.toNat).Y)<((gi at_ best2.toNat).Y)))).bind λt7=>
   some t7
  else
   some false).bind λt6=>
  if t6 then
   ck (ZJ (k_+1)) <|
   some (.inl (k_,k_+1))
  else
   ck (ZJ (k_+1)) <|
   some (.inl (best2,k_+1))
 else
  some (.inr best)

def ZI(at_:List Zk)(i:Int)(d:Int):Option Int :=
 (Zn (ZI.s0 at_ i d) big ((-1),0)).bind λbest1=>
 some best1

/-! muntin/muntinref10.Crossed -/
def ZH.s1(at_:List Zk)(l:List Za)(i:Int)(w:Int)(a:Int):Int->Option (Int⊕(Unit⊕Unit)):=λd=>
 if decide (d<2)then
  ck ((0:Int)<=a/\a<(l.length:Int)) <|
  ck ((0:Int)<=d/\d<4) <|
  if decide ((((gi l a.toNat).Next).get d)<0)then
   ck (ZJ (d+1)) <|
   some (.inl (d+1))
  else
   ck ((0:Int)<=a/\a<(at_.length:Int)) <|
   ck ((0:Int)<=(((gi l a.toNat).Next).get d)/\(((gi l a.toNat).Next).get d)<(at_.length:Int)) <|
   (if decide ((gi at_ a.toNat).Y=(gi at_ (((gi l a.toNat).Next).get d:Int).toNat).Y)then
    ck ((0:Int)<=i/\i<(at_.length:Int)) <|
    ck ((0:Int)<=w/\w<(at_.length:Int)) <|
    some (decide ((gi at_ i.toNat).X=(gi at_ w.toNat).X))
   else
    some false).bind λt=>
   (if t then
    ck ((0:Int)<=i/\i<(at_.length:Int)) <|
    some (decide (((gi at_ a.toNat).X)<((gi at_ i.toNat).X)))
   else
    some false).bind λt1=>
   (if t1 then
    ck ((0:Int)<=i/\i<(at_.length:Int)) <|
    some (decide (((gi at_ i.toNat).X)<((gi at_ (((gi l a.toNat).Next).get d:Int).toNat).X)))
   else
    some false).bind λt2=>
   (if t2 then
    ck ((0:Int)<=i/\i<(at_.length:Int)) <|
    some (decide (((gi at_ i.toNat).Y)<((gi at_ a.toNat).Y)))
   else
    some false).bind λt3=>
   (if t3 then
    ck ((0:Int)<=w/\w<(at_.length:Int)) <|
    some (decide (((gi at_ a.toNat).Y)<((gi at_ w.toNat).Y)))
   else
    some false).bind λt4=>
   if t4 then
    some (.inr (.inr ()))
   else
    (if decide ((gi at_ a.toNat).X=(gi at_ (((gi l a.toNat).Next).get d:Int).toNat).X)then
     ck ((0:Int)<=i/\i<(at_.length:Int)) <|
     ck ((0:Int)<=w/\w<(at_.length:Int)) <|
     some (decide ((gi at_ i.toNat).Y=(gi at_ w.toNat).Y))
    else
     some false).bind λt5=>
    (if t5 then
     ck ((0:Int)<=i/\i<(at_.length:Int)) <|
     some (decide (((gi at_ i.toNat).X)<((gi at_ a.toNat).X)))
    else
     some false).bind λt6=>
    (if t6 then
     ck ((0:Int)<=w/\w<(at_.length:Int)) <|
     some (decide (((gi at_ a.toNat).X)<((gi at_ w.toNat).X)))
    else
     some false).bind λt7=>
    (if t7 then
     ck ((0:Int)<=i/\i<(at_.length:Int)) <|
     some (decide (((gi at_ a.toNat).Y)<((gi at_ i.toNat).Y)))
    else
     some false).bind λt8=>
    (if t8 then
     ck ((0:Int)<=i/\i<(at_.length:Int)) <|
     some (decide (((gi at_ i.toNat).Y)<((gi at_ (((gi l a.toNat).Next).get d:Int).toNat).Y)))
    else
     some false).bind λt9=>
    if t9 then
     some (.inr (.inr ()))
    else
     ck (ZJ (d+1)) <|
     some (.inl (d+1))
 else
  some (.inr (.inl ()))

def ZH.s0(at_:List Zk)(l:List Za)(i:Int)(w:Int):Int->Option (Int⊕(Unit⊕Unit)):=λa=>
 if decide (a<(l.length:Int))then
  (
   Zn (ZH.s1 at_ l i w a) big 0:Option (Unit⊕Unit)).bind λo₃=>match o₃ with
  |.inl _=>
   ck (ZJ (a+1)) <|
   some (.inl (a+1))
  |.inr _=>
   some (.inr (.inr ()))
 else
  some (.inr (.inl ()))

def ZH(at_:List Zk)(l:List Za)(i:Int)(w:Int):Option Bool :=
 (
  Zn (ZH.s0 at_ l i w) big 0:Option (Unit⊕Unit)).bind λo₁=>match o₁ with
 |.inl _=>
  some false
 |.inr _=>
  some true

/-! muntin/muntinref10.with -/
def Zab.s0(l:List Za)(v:Int)(d:Int)(w:Int)(o:Int):(List Za)×Int->Option (((List Za)×Int)⊕(List Za)):=λ(out,i)=>
 if decide (i<(l.length:Int))then
  ck ((0:Int)<=i/\i<(l.length:Int)) <|
  (
   if decide (i=v)then
    ck ((0:Int)<=d/\d<4) <|
    some ({ { gi l i.toNat with Next:=((gi l i.toNat).Next).set d w }with Owner:=(({ gi l i.toNat with Next:=((gi l i.toNat).Next).set d w }).Owner).set d o })
   else
    some (gi l i.toNat)).bind λc=>
  if decide (i=w)then
   ck (ZJ (d+2)) <|
   ck ((0:Int)<=((d+2).tmod 4)/\((d+2).tmod 4)<4) <|
   ck (out.length+[{ { c with Next:=c.Next.set ((d+2).tmod 4) v }with Owner:=(({ c with Next:=c.Next.set ((d+2).tmod 4) v }).Owner).set ((d+2).tmod 4) o }].length<=1000000000) <|
   ck (ZJ (i+1)) <|
   some (.inl (out++[{ { c with Next:=c.Next.set ((d+2).tmod 4) v }with Owner:=(({ c with Next:=c.Next.set ((d+2).tmod 4) v }).Owner).set ((d+2).tmod 4) o }],i+1))
  else
   ck (out.length+[c].length<=1000000000) <|
   ck (ZJ (i+1)) <|
   some (.inl (out++[c],i+1))
 else
  some (.inr out)

def Zab(l:List Za)(v:Int)(d:Int)(w:Int)(o:Int):Option (List Za) :=
 (Zn (Zab.s0 l v d w o) big (([]:List Za),0)).bind λout1=>
 some out1

/-! muntin/muntinref10.Make -/
def Z5.s1(z:zq)(at_:List Zk)(i:Int):Bool×Int->Option ((Bool×Int)⊕((List Zk)×Bool)):=λ(met,k_)=>
 if decide (k_<(at_.length:Int))then
  (if met then
   some true
  else
   ck ((0:Int)<=k_/\k_<(at_.length:Int)) <|
   some (decide (gi at_ k_.toNat=(⟨(gi z.At i.toNat).tmod 8,((gi z.At i.toNat).tdiv 8).tmod 8⟩:Zk)))).bind λt=>
  ck (ZJ (k_+1)) <|
  some (.inl (t,k_+1))
 else
  some (.inr (at_,met))

def Z5.s0(z:zq)(most:Int):(List Zk)×Int->Option (((List Zk)×Int)⊕(List Zk)):=λ(at_,i)=>
 if(decide (i<(z.At.length:Int)))&&(decide ((at_.length:Int)<most))then
  ck ((0:Int)<=i/\i<(z.At.length:Int)) <|
  ck (inK .i64 (gi z.At i.toNat)) <|
  ck ((8:Int)≠0/\ZJ ((gi z.At i.toNat).tdiv 8)) <|
  (Zn (Z5.s1 z at_ i) big (false,0)).bind λ(at_2,met1)=>
  if !met1 then
   ck (at_2.length+[(⟨(gi z.At i.toNat).tmod 8,((gi z.At i.toNat).tdiv 8).tmod 8⟩:Zk)].length<=1000000000) <|
   ck (ZJ (i+1)) <|
   some (.inl (at_2++[(⟨(gi z.At i.toNat).tmod 8,((gi z.At i.toNat).tdiv 8).tmod 8⟩:Zk)],i+1))
  else
   ck (ZJ (i+1)) <|
   some (.inl (at_2,i+1))
 else
  some (.inr at_)

def Z5.s3(i1:Int)(bits:Int)(at_6:List Zk)(own:Int):(List Za)×Int->Option (((List Za)×Int)⊕(List Za)):=λ(l4,d)=>
 if decide (d<2)then
  (ZI at_6 i1 d).bind λx1=>
  ck ((0:Int)<=d) <|
  if(decide (Zb9 .u8 (ZbH .u8 bits d) 1=0))||(decide (x1<0))then
   ck (ZJ (d+1)) <|
   some (.inl (l4,d+1))
  else
   (ZH at_6 l4 i1 x1).bind λx2=>
   if !x2 then
    (Zab l4 i1 d x1 own).bind λx3=>
    ck (ZJ (d+1)) <|
    some (.inl (x3,d+1))
   else
    ck (ZJ (d+1)) <|
    some (.inl (l4,d+1))
 else
  some (.inr l4)

def Z5.s2(z:zq):(List Zk)×(List Za)×Int->Option (((List Zk)×(List Za)×Int)⊕((List Zk)×(List Za))):=λ(at_3,l,i1)=>
 if decide (i1<(at_3.length:Int))then
  (
   if decide (i1<(z.Bits.length:Int))then
    ck ((0:Int)<=i1/\i1<(z.Bits.length:Int)) <|
    some (at_3,l,gi z.Bits i1.toNat)
   else
    some (at_3,l,3)).bind λ(at_5,l2,bits)=>
  (
   if decide (i1<(z.Own.length:Int))then
    ck ((0:Int)<=i1/\i1<(z.Own.length:Int)) <|
    ck (inK .i64 (gi z.Own i1.toNat)) <|
    if decide ((gi z.Own i1.toNat)<(-2))then
     ck (ZJ (-(gi z.Own i1.toNat))) <|
     some (at_5,l2,-(gi z.Own i1.toNat))
    else
     some (at_5,l2,gi z.Own i1.toNat)
   else
    some (at_5,l2,i1)).bind λ(at_6,l3,own)=>
  (Zn (Z5.s3 i1 bits at_6 own) big (l3,0)).bind λl5=>
  ck (ZJ (i1+1)) <|
  some (.inl (at_6,l5,i1+1))
 else
  some (.inr (at_3,l))

def Z5(z:zq)(most:Int):Option ((List Za)×(List Zk)) :=
 (Zn (Z5.s0 z most) big (([]:List Zk),0)).bind λat_1=>
 (ZK (at_1.length:Int)).bind λx=>
 (Zn (Z5.s2 z) big (at_1,x,0)).bind λ(at_4,l1)=>
 some (l1,at_4)

/-! muntin/muntinref08.Make -/
def ZY.s0(z:Zau)(most:Int):(List Bool)×Int->Option (((List Bool)×Int)⊕(List Bool)):=λ(s,i)=>
 if(decide (i<(z.Boxes.length:Int)))&&(decide (i<most))then
  ck ((0:Int)<=i/\i<(z.Boxes.length:Int)) <|
  ck (s.length+[gi z.Boxes i.toNat].length<=1000000000) <|
  ck (ZJ (i+1)) <|
  some (.inl (s++[gi z.Boxes i.toNat],i+1))
 else
  some (.inr s)

def ZY.s2(z:Zau)(i1:Int):Zaf×Int->Option ((Zaf×Int)⊕Zaf):=λ(e_1,k_)=>
 ck ((0:Int)<=i1/\i1<(z.Bends.length:Int)) <|
 ck (inK .i64 (gi z.Bends i1.toNat)) <|
 if decide (k_<((gi z.Bends i1.toNat).tmod 4))then
  ck (ZJ (2+k_)) <|
  ck ((0:Int)<=(2+k_)) <|
  if decide (Zb9 .u8 (ZbH .u8 (gi z.Bends i1.toNat) (2+k_)) 1=1)then
   ck (e_1.Bends.size+(⟨#[76]⟩:ByteArray).size<=1000000000000) <|
   ck (ZJ (k_+1)) <|
   some (.inl ({ e_1 with Bends:=e_1.Bends++(⟨#[76]⟩:ByteArray) },k_+1))
  else
   ck (e_1.Bends.size+(⟨#[82]⟩:ByteArray).size<=1000000000000) <|
   ck (ZJ (k_+1)) <|
   some (.inl ({ e_1 with Bends:=e_1.Bends++(⟨#[82]⟩:ByteArray) },k_+1))
 else
  some (.inr e_1)

def ZY.s1(z:Zau)(most:Int)(s1:List Bool):(List Zaf)×Int->Option (((List Zaf)×Int)⊕(List Zaf)):=λ(s2,i1)=>
 (if decide (i1<(z.Edges.length:Int))then
  ck (ZJ (2*most)) <|
  some (decide (i1<(2*most)))
 else
  some false).bind λt=>
 if t&&(decide (0<(s1.length:Int)))then
  ck ((0:Int)<=i1/\i1<(z.Edges.length:Int)) <|
  ck (inK .i64 ((gi z.Edges i1.toNat).get 0)) <|
  ck (((s1.length:Int):Int)≠0) <|
  ck (inK .i64 ((gi z.Edges i1.toNat).get 1)) <|
  ck (inK .i64 ((gi z.Edges i1.toNat).get 2)) <|
  (
   if decide (i1<(z.Bends.length:Int))then
    (Zn (ZY.s2 z i1) big ((⟨((gi z.Edges i1.toNat).get 0).tmod (s1.length:Int),((gi z.Edges i1.toNat).get 1).tmod (s1.length:Int),((gi z.Edges i1.toNat).get 2).tmod 4,(⟨#[]⟩:ByteArray)⟩:Zaf),0)).bind λe_2=>
    some e_2
   else
    some (⟨((gi z.Edges i1.toNat).get 0).tmod (s1.length:Int),((gi z.Edges i1.toNat).get 1).tmod (s1.length:Int),((gi z.Edges i1.toNat).get 2).tmod 4,(⟨#[]⟩:ByteArray)⟩:Zaf)).bind λe_=>
  ck (s2.length+[e_].length<=1000000000) <|
  ck (ZJ (i1+1)) <|
  some (.inl (s2++[e_],i1+1))
 else
  some (.inr s2)

def ZY(z:Zau)(most:Int):Option zf :=
 (Zn (ZY.s0 z most) big (([]:List Bool),0)).bind λs1=>
 (Zn (ZY.s1 z most s1) big (([]:List Zaf),0)).bind λs3=>
 some (⟨s1,s3⟩:zf)

/-! muntin/muntinref10.Join -/
def Zaa(l:List Za)(v:Int)(d:Int)(w:Int)(o:Int):Option ((List Za)×Int) :=
 if(((((((decide (v<0))||(decide ((l.length:Int)<=v)))||(decide (w<0)))||(decide ((l.length:Int)<=w)))||(decide (v=w)))||(decide (d<0)))||(decide (3<d)))||(decide (o<(-2)))then
  some (l,2)
 else
  ck ((0:Int)<=v/\v<(l.length:Int)) <|
  ck ((0:Int)<=d/\d<4) <|
  (if !(decide (((gi l v.toNat).Next).get d=(-1)))then
   some true
  else
   ck (ZJ (d+2)) <|
   ck ((0:Int)<=w/\w<(l.length:Int)) <|
   ck ((0:Int)<=((d+2).tmod 4)/\((d+2).tmod 4)<4) <|
   some (!(decide (((gi l w.toNat).Next).get ((d+2).tmod 4)=(-1))))).bind λt=>
  if t then
   some (l,9)
  else
   (Zab l v d w o).bind λx=>
   some (x,0)

/-! muntin/muntinlaw19.stick -/
def ZaM.s0:(List Za)×Int->Option (((List Za)×Int)⊕(List Za)):=λ(l,x1)=>
 if decide (x1<([(⟨0,0,1⟩:A3 Int),(⟨1,1,2⟩:A3 Int),(⟨2,2,3⟩:A3 Int),(⟨3,3,4⟩:A3 Int),(⟨4,3,0⟩:A3 Int),(⟨4,0,5⟩:A3 Int)].length:Int))then
  ck ((0:Int)<=x1/\x1<([(⟨0,0,1⟩:A3 Int),(⟨1,1,2⟩:A3 Int),(⟨2,2,3⟩:A3 Int),(⟨3,3,4⟩:A3 Int),(⟨4,3,0⟩:A3 Int),(⟨4,0,5⟩:A3 Int)].length:Int)) <|
  (Zaa l ((gi [(⟨0,0,1⟩:A3 Int),(⟨1,1,2⟩:A3 Int),(⟨2,2,3⟩:A3 Int),(⟨3,3,4⟩:A3 Int),(⟨4,3,0⟩:A3 Int),(⟨4,0,5⟩:A3 Int)] x1.toNat).get 0) ((gi [(⟨0,0,1⟩:A3 Int),(⟨1,1,2⟩:A3 Int),(⟨2,2,3⟩:A3 Int),(⟨3,3,4⟩:A3 Int),(⟨4,3,0⟩:A3 Int),(⟨4,0,5⟩:A3 Int)] x1.toNat).get 1) ((gi [(⟨0,0,1⟩:A3 Int),(⟨1,1,2⟩:A3 Int),(⟨2,2,3⟩:A3 Int),(⟨3,3,4⟩:A3 Int),(⟨4,3,0⟩:A3 Int),(⟨4,0,5⟩:A3 Int)] x1.toNat).get 2) 0).bind λ(x2,x3)=>
  ck (ZJ (x1+1)) <|
  some (.inl (x2,x1+1))
 else
  some (.inr l)

def ZaM:Option (List Za) :=
 (ZK 6).bind λx=>
 (Zn ZaM.s0 big (x,0)).bind λl1=>
 some l1

/-! muntin/compass.Good -/
def Zbm(d:Int):Option Bool :=
 some ((decide (0<=d))&&(decide (d<=3)))

/-! muntin/compass.Left -/
def ZaV(d:Int)(times:Int):Option Int :=
 (Zbm d).bind λx=>
 if !x then
  some 0
 else
  ck (ZJ (d+(times.tmod 4))) <|
  ck (ZJ ((d+(times.tmod 4))+4)) <|
  some (((d+(times.tmod 4))+4).tmod 4)

/-! muntin/grid.side -/
def Zdl(cells:List Za)(v:Int)(d:Int):Option Int :=
 ck ((0:Int)<=v/\v<(cells.length:Int)) <|
 ck ((0:Int)<=d/\d<4) <|
 if decide (((gi cells v.toNat).Next).get d=(-1))then
  if !(decide (((gi cells v.toNat).Owner).get d=0))then
   some 9
  else
   some 0
 else
  if((decide ((((gi cells v.toNat).Next).get d)<0))||(decide ((cells.length:Int)<=(((gi cells v.toNat).Next).get d))))||(decide (((gi cells v.toNat).Next).get d=v))then
   some 3
  else
   (ZaV d 2).bind λx=>
   ck ((0:Int)<=(((gi cells v.toNat).Next).get d)/\(((gi cells v.toNat).Next).get d)<(cells.length:Int)) <|
   ck ((0:Int)<=x/\x<4) <|
   if((!(decide (((gi cells (((gi cells v.toNat).Next).get d:Int).toNat).Next).get x=v)))||(!(decide (((gi cells (((gi cells v.toNat).Next).get d:Int).toNat).Owner).get x=((gi cells v.toNat).Owner).get d))))||(decide ((((gi cells v.toNat).Owner).get d)<(-2)))then
    some 9
   else
    some 0

/-! muntin/grid.Check -/
def zC.s1(cells:List Za)(x:Int):Int->Option (Int⊕(Unit⊕Int)):=λx2=>
 if decide (x2<4)then
  (Zdl cells x x2).bind λx4=>
  if !(decide (x4=0))then
   some (.inr (.inr x4))
  else
   ck (ZJ (x2+1)) <|
   some (.inl (x2+1))
 else
  some (.inr (.inl ()))

def zC.s0(cells:List Za):Int->Option (Int⊕(Unit⊕Int)):=λx=>
 if decide (x<(cells.length:Int))then
  (
   Zn (zC.s1 cells x) big 0:Option (Unit⊕Int)).bind λo₃=>match o₃ with
  |.inl _=>
   ck (ZJ (x+1)) <|
   some (.inl (x+1))
  |.inr x3=>
   some (.inr (.inr x3))
 else
  some (.inr (.inl ()))

def zC(cells:List Za):Option Int :=
 if decide (4096<(cells.length:Int))then
  some 6
 else
  (
   Zn (zC.s0 cells) big 0:Option (Unit⊕Int)).bind λo₁=>match o₁ with
  |.inl _=>
   some 0
  |.inr x1=>
   some x1

/-! math/bits.Mul64 -/
def ZdU(x:Int)(y:Int):Option (Int×Int) :=
 some (Zfp .u64 (Zfp .u64 (Zeo .u64 (ZbH .u64 x 32) (ZbH .u64 y 32)) (ZbH .u64 (Zfp .u64 (Zeo .u64 (ZbH .u64 x 32) (Zb9 .u64 y 4294967295)) (ZbH .u64 (Zeo .u64 (Zb9 .u64 x 4294967295) (Zb9 .u64 y 4294967295)) 32)) 32)) (ZbH .u64 (Zfp .u64 (Zb9 .u64 (Zfp .u64 (Zeo .u64 (ZbH .u64 x 32) (Zb9 .u64 y 4294967295)) (ZbH .u64 (Zeo .u64 (Zb9 .u64 x 4294967295) (Zb9 .u64 y 4294967295)) 32)) 4294967295) (Zeo .u64 (Zb9 .u64 x 4294967295) (ZbH .u64 y 32))) 32),Zeo .u64 x y)

/-! math/bits.Mul -/
def Zd3(x:Int)(y:Int):Option (Int×Int) :=
 (ZdU x y).bind λ(x1,x2)=>
 some (x1,x2)

/-! slices.Repeat[[]int,int] -/
def zL.s0:(List Int)×Int->Option (((List Int)×Int)⊕(List Int)):=λ(newslice,n)=>
 if decide (n<(newslice.length:Int))then
  ck ((0:Int)<=n/\n<=(newslice.length:Int)) <|
  ck (ZJ (n+((min (newslice.take n.toNat).length (newslice.drop n.toNat).length:Nat):Int))) <|
  some (.inl (newslice.take n.toNat++((newslice.take n.toNat).take (newslice.drop n.toNat).length++(newslice.drop n.toNat).drop (newslice.take n.toNat).length),n+((min (newslice.take n.toNat).length (newslice.drop n.toNat).length:Nat):Int)))
 else
  some (.inr newslice)

def zL(x:List Int)(count:Int):Option (List Int) :=
 (
  if decide (count<0)then
   none
  else
   some ()).bind λ_=>
 ck (inK .u64 (x.length:Int)) <|
 ck (inK .u64 count) <|
 (Zd3 (x.length:Int) count).bind λ(x1,x2)=>
 (
  if(decide (0<x1))||(decide (9223372036854775807<x2))then
   none
  else
   some ()).bind λ_=>
 ck (inK .i64 x2) <|
 ck ((0:Int)<=x2/\x2<=1000000000) <|
 (Zn zL.s0 big (x.take (List.replicate x2.toNat (0:Int)).length++(List.replicate x2.toNat (0:Int)).drop x.length,((min x.length (List.replicate x2.toNat (0:Int)).length:Nat):Int))).bind λnewslice1=>
 some newslice1

/-! muntin/join.spread -/
def Zar.s1(cells:List Za)(l:List Int):(List Int)×(List Int)×(List Int)×(List Bool)×Int->Option (((List Int)×(List Int)×(List Int)×(List Bool)×Int)⊕((List Int)×(List Int)×(List Int)×(List Bool))):=λ(from_2,dir2,l1,met1,x2)=>
 if decide (x2<4)then
  ck ((0:Int)<=(gi l (0:Int).toNat)/\(gi l (0:Int).toNat)<(cells.length:Int)) <|
  ck ((0:Int)<=x2/\x2<4) <|
  (if decide (0<=(((gi cells (gi l (0:Int).toNat:Int).toNat).Next).get x2))then
   ck ((0:Int)<=(((gi cells (gi l (0:Int).toNat:Int).toNat).Next).get x2)/\(((gi cells (gi l (0:Int).toNat:Int).toNat).Next).get x2)<(met1.length:Int)) <|
   some (!(gi met1 (((gi cells (gi l (0:Int).toNat:Int).toNat).Next).get x2:Int).toNat))
  else
   some false).bind λt=>
  if t then
   ck ((0:Int)<=(((gi cells (gi l (0:Int).toNat:Int).toNat).Next).get x2)/\(((gi cells (gi l (0:Int).toNat:Int).toNat).Next).get x2)<(met1.length:Int)) <|
   ck ((0:Int)<=(((gi cells (gi l (0:Int).toNat:Int).toNat).Next).get x2)/\(((gi cells (gi l (0:Int).toNat:Int).toNat).Next).get x2)<(from_2.length:Int)) <|
   ck ((0:Int)<=(((gi cells (gi l (0:Int).toNat:Int).toNat).Next).get x2)/\(((gi cells (gi l (0:Int).toNat:Int).toNat).Next).get x2)<(dir2.length:Int)) <|
   ck (l1.length+[((gi cells (gi l (0:Int).toNat:Int).toNat).Next).get x2].length<=1000000000) <|
   ck (ZJ (x2+1)) <|
   some (.inl (from_2.set (((gi cells (gi l (0:Int).toNat:Int).toNat).Next).get x2:Int).toNat (gi l (0:Int).toNat),dir2.set (((gi cells (gi l (0:Int).toNat:Int).toNat).Next).get x2:Int).toNat x2,l1++[((gi cells (gi l (0:Int).toNat:Int).toNat).Next).get x2],met1.set (((gi cells (gi l (0:Int).toNat:Int).toNat).Next).get x2:Int).toNat true,x2+1))
  else
   ck (ZJ (x2+1)) <|
   some (.inl (from_2,dir2,l1,met1,x2+1))
 else
  some (.inr (from_2,dir2,l1,met1))

def Zar.s0(cells:List Za):(List Int)×(List Int)×(List Int)×(List Bool)->Option (((List Int)×(List Int)×(List Int)×(List Bool))⊕((List Int)×(List Int))):=λ(from_,dir,l,met)=>
 if decide (0<(l.length:Int))then
  ck ((0:Int)<=0/\0<(l.length:Int)) <|
  ck ((0:Int)<=1/\1<=(l.length:Int)) <|
  (Zn (Zar.s1 cells l) big (from_,dir,l.drop (1:Int).toNat,met,0)).bind λ(from_3,dir3,l2,met2)=>
  some (.inl (from_3,dir3,l2,met2))
 else
  some (.inr (from_,dir))

def Zar(cells:List Za)(v:Int):Option ((List Int)×(List Int)) :=
 (zL ([(-1)]:List Int) (cells.length:Int)).bind λx=>
 (zL ([(-1)]:List Int) (cells.length:Int)).bind λx1=>
 ck ((0:Int)<=(cells.length:Int)/\(cells.length:Int)<=1000000000) <|
 ck ((0:Int)<=v/\v<((List.replicate ((cells.length:Int):Int).toNat false).length:Int)) <|
 (Zn (Zar.s0 cells) big (x,x1,[v],(List.replicate ((cells.length:Int):Int).toNat false).set v.toNat true)).bind λ(from_1,dir1)=>
 some (from_1,dir1)

/-! muntin/join.Parts -/
def Zap.s1(cells:List Za)(x1:Int)(x3:List Int):(List Bool)×(List Int)×Int->Option (((List Bool)×(List Int)×Int)⊕((List Bool)×(List Int))):=λ(met1,part,x4)=>
 if decide (x4<(cells.length:Int))then
  (if decide (x4=x1)then
   some true
  else
   ck ((0:Int)<=x4/\x4<(x3.length:Int)) <|
   some (decide (0<=(gi x3 x4.toNat)))).bind λt=>
  if t then
   ck ((0:Int)<=x4/\x4<(met1.length:Int)) <|
   ck (part.length+[x4].length<=1000000000) <|
   ck (ZJ (x4+1)) <|
   some (.inl (met1.set x4.toNat true,part++[x4],x4+1))
  else
   ck (ZJ (x4+1)) <|
   some (.inl (met1,part,x4+1))
 else
  some (.inr (met1,part))

def Zap.s0(cells:List Za):(List (List Int))×(List Bool)×Int->Option (((List (List Int))×(List Bool)×Int)⊕(List (List Int))):=λ(l,met,x1)=>
 if decide (x1<(cells.length:Int))then
  ck ((0:Int)<=x1/\x1<(met.length:Int)) <|
  if gi met x1.toNat then
   ck (ZJ (x1+1)) <|
   some (.inl (l,met,x1+1))
  else
   (Zar cells x1).bind λ(x2,x3)=>
   (Zn (Zap.s1 cells x1 x3) big (met,([]:List Int),0)).bind λ(met2,part1)=>
   ck (l.length+1<=1000000000) <|
   ck (ZJ (x1+1)) <|
   some (.inl (l++[part1],met2,x1+1))
 else
  some (.inr l)

def Zap(cells:List Za):Option ((List (List Int))×Int) :=
 (zC cells).bind λx=>
 if !(decide (x=0))then
  some (([]:List (List Int)),x)
 else
  ck ((0:Int)<=(cells.length:Int)/\(cells.length:Int)<=1000000000) <|
  (Zn (Zap.s0 cells) big (([]:List (List Int)),List.replicate ((cells.length:Int):Int).toNat false,0)).bind λl1=>
  some (l1,0)

/-! muntin/join.Whole -/
def ZcI(cells:List Za):Option Bool :=
 (Zap cells).bind λ(x,x1)=>
 some ((decide (x1=0))&&(decide ((x.length:Int)=1)))

/-! (muntin/face.Dart).is -/
def ZaJ(d:Z1)(cells:List Za):Option Bool :=
 if decide (0<=d.Cell)then
  if decide (d.Cell<(cells.length:Int))then
   (Zbm d.Dir).bind λx=>
   if x then
    ck ((0:Int)<=d.Cell/\d.Cell<(cells.length:Int)) <|
    ck ((0:Int)<=d.Dir/\d.Dir<4) <|
    some (decide (0<=(((gi cells (d.Cell:Int).toNat).Next).get d.Dir)))
   else
    some false
  else
   some false
 else
  some false

/-! (muntin/face.Dart).behind -/
def zS.s0(d:Z1)(cells:List Za):Int->Option (Int⊕(Unit⊕Z1)):=λx=>
 if decide (x<4)then
  ck ((0:Int)<=x/\x<4) <|
  (ZaV d.Dir ((⟨1,0,(-1),2⟩:A4 Int).get x)).bind λx2=>
  (ZaJ (⟨((gi cells (d.Cell:Int).toNat).Next).get d.Dir,x2⟩:Z1) cells).bind λx3=>
  if x3 then
   some (.inr (.inr (⟨((gi cells (d.Cell:Int).toNat).Next).get d.Dir,x2⟩:Z1)))
  else
   ck (ZJ (x+1)) <|
   some (.inl (x+1))
 else
  some (.inr (.inl ()))

def zS(d:Z1)(cells:List Za):Option Z1 :=
 ck ((0:Int)<=d.Cell/\d.Cell<(cells.length:Int)) <|
 ck ((0:Int)<=d.Dir/\d.Dir<4) <|
 (
  Zn (zS.s0 d cells) big 0:Option (Unit⊕Z1)).bind λo₁=>match o₁ with
 |.inl _=>
  some d
 |.inr x1=>
  some x1

/-! muntin/face.Faces -/
def zQ.s2(cells:List Za):(List (Z1×Bool))×(List Z1)×Z1->Option (((List (Z1×Bool))×(List Z1)×Z1)⊕((List (Z1×Bool))×(List Z1))):=λ(met3,f,x4)=>
 if !(ZeW false x4 met3)then
  ck (f.length+[x4].length<=1000000000) <|
  (zS x4 cells).bind λx5=>
  some (.inl (Ze3 x4 true met3,f++[x4],x5))
 else
  some (.inr (met3,f))

def zQ.s1(cells:List Za)(x1:Int):(List (List Z1))×(List (Z1×Bool))×Int->Option (((List (List Z1))×(List (Z1×Bool))×Int)⊕((List (List Z1))×(List (Z1×Bool)))):=λ(l2,met1,x2)=>
 if decide (x2<4)then
  (ZaJ (⟨x1,x2⟩:Z1) cells).bind λx3=>
  if(!x3)||(ZeW false (⟨x1,x2⟩:Z1) met1)then
   ck (ZJ (x2+1)) <|
   some (.inl (l2,met1,x2+1))
  else
   (Zn (zQ.s2 cells) big (met1,([]:List Z1),(⟨x1,x2⟩:Z1))).bind λ(met4,f1)=>
   ck (l2.length+1<=1000000000) <|
   ck (ZJ (x2+1)) <|
   some (.inl (l2++[f1],met4,x2+1))
 else
  some (.inr (l2,met1))

def zQ.s0(cells:List Za):(List (List Z1))×(List (Z1×Bool))×Int->Option (((List (List Z1))×(List (Z1×Bool))×Int)⊕(List (List Z1))):=λ(l,met,x1)=>
 if decide (x1<(cells.length:Int))then
  (Zn (zQ.s1 cells x1) big (l,met,0)).bind λ(l3,met2)=>
  ck (ZJ (x1+1)) <|
  some (.inl (l3,met2,x1+1))
 else
  some (.inr l)

def zQ(cells:List Za):Option ((List (List Z1))×Int) :=
 (zC cells).bind λx=>
 if !(decide (x=0))then
  some (([]:List (List Z1)),x)
 else
  (Zn (zQ.s0 cells) big (([]:List (List Z1)),([]:List (Z1×Bool)),0)).bind λl1=>
  some (l1,0)

/-! muntin/compass.Turn -/
def Zcv(d:Int)(e_:Int):Option Int :=
 (Zbm d).bind λx=>
 (if !x then
  some true
 else
  (Zbm e_).bind λx1=>
  some (!x1)).bind λt=>
 if t then
  some 0
 else
  ck (ZJ (e_-d)) <|
  ck (ZJ ((e_-d)+4)) <|
  ck ((0:Int)<=(((e_-d)+4).tmod 4)/\(((e_-d)+4).tmod 4)<4) <|
  some ((⟨0,1,(-2),(-1)⟩:A4 Int).get (((e_-d)+4).tmod 4))

/-! muntin/face.Turns -/
def Zbr.s0(cells:List Za)(f:List Z1):(List Int)×Int->Option (((List Int)×Int)⊕(List Int)):=λ(l,x1)=>
 if decide (x1<(f.length:Int))then
  ck ((0:Int)<=x1/\x1<(f.length:Int)) <|
  (ZaJ (gi f x1.toNat) cells).bind λx2=>
  if x2 then
   (zS (gi f x1.toNat) cells).bind λx3=>
   (Zcv ((gi f x1.toNat).Dir) x3.Dir).bind λx4=>
   ck ((0:Int)<=x1/\x1<(l.length:Int)) <|
   ck (ZJ (x1+1)) <|
   some (.inl (l.set x1.toNat x4,x1+1))
  else
   ck (ZJ (x1+1)) <|
   some (.inl (l,x1+1))
 else
  some (.inr l)

def Zbr(cells:List Za)(f:List Z1):Option (List Int) :=
 ck ((0:Int)<=(f.length:Int)/\(f.length:Int)<=1000000000) <|
 (zC cells).bind λx=>
 if !(decide (x=0))then
  some (List.replicate ((f.length:Int):Int).toNat (0:Int))
 else
  (Zn (Zbr.s0 cells f) big (List.replicate ((f.length:Int):Int).toNat (0:Int),0)).bind λl1=>
  some l1

/-! muntin/face.Rotation -/
def ZaK.s0(turns:List Int):Int×Int->Option ((Int×Int)⊕Int):=λ(n,x)=>
 if decide (x<(turns.length:Int))then
  ck ((0:Int)<=x/\x<(turns.length:Int)) <|
  if(decide ((-2)<=(gi turns x.toNat)))&&(decide ((gi turns x.toNat)<=1))then
   ck (ZJ (n+(gi turns x.toNat))) <|
   ck (ZJ (x+1)) <|
   some (.inl (n+(gi turns x.toNat),x+1))
  else
   ck (ZJ (x+1)) <|
   some (.inl (n,x+1))
 else
  some (.inr n)

def ZaK(turns:List Int):Option Int :=
 (Zn (ZaK.s0 turns) big (0,0)).bind λn1=>
 some n1

/-! muntin/valid.outer -/
def Zba.s0(cells:List Za)(x:List (List Z1)):Int×Int->Option ((Int×Int)⊕(Int⊕Unit)):=λ(at_,x2)=>
 if decide (x2<(x.length:Int))then
  ck ((0:Int)<=x2/\x2<(x.length:Int)) <|
  (Zbr cells (gi x x2.toNat)).bind λx3=>
  (ZaK x3).bind λx4=>
  if decide (x4=4)then
   ck (ZJ (x2+1)) <|
   some (.inl (at_,x2+1))
  else
   if decide (x4=(-4))then
    if decide (0<=at_)then
     some (.inr (.inr ()))
    else
     ck (ZJ (x2+1)) <|
     some (.inl (x2,x2+1))
   else
    some (.inr (.inr ()))
 else
  some (.inr (.inl at_))

def Zba(cells:List Za):Option (Int×Bool) :=
 (zQ cells).bind λ(x,x1)=>
 (
  Zn (Zba.s0 cells x) big ((-1),0):Option (Int⊕Unit)).bind λo₁=>match o₁ with
 |.inl at_1=>
  some (at_1,decide (0<=at_1))
 |.inr _=>
  some (0,false)

/-! muntin/valid.Check -/
def Zc5(cells:List Za):Option Int :=
 (zC cells).bind λx=>
 if !(decide (x=0))then
  some x
 else
  (ZcI cells).bind λx1=>
  if !x1 then
   some 13
  else
   (Zba cells).bind λ(x2,x3)=>
   if(!x3)&&(decide (1<(cells.length:Int)))then
    some 10
   else
    some 0

/-! muntin/seg.chains -/
def zp.s1(cells:List Za)(x1:Int):Int×Int->Option ((Int×Int)⊕(Int⊕Unit)):=λ(first,n)=>
 ck ((0:Int)<=first/\first<(cells.length:Int)) <|
 ck ((0:Int)<=x1/\x1<4) <|
 if decide (0<=(((gi cells first.toNat).Next).get x1))then
  if decide (n=(cells.length:Int))then
   some (.inr (.inr ()))
  else
   ck (ZJ (n+1)) <|
   some (.inl (((gi cells first.toNat).Next).get x1,n+1))
 else
  some (.inr (.inl first))

def zp.s2(cells:List Za)(d:Int)(l:List (List Int)):(List Int)×(List Int)×Int->Option (((List Int)×(List Int)×Int)⊕((List Int)×(List Int))):=λ(at_2,chain,w)=>
 if decide (0<=w)then
  ck ((0:Int)<=w/\w<(at_2.length:Int)) <|
  ck (chain.length+[w].length<=1000000000) <|
  ck ((0:Int)<=w/\w<(cells.length:Int)) <|
  ck ((0:Int)<=d/\d<4) <|
  some (.inl (at_2.set w.toNat (l.length:Int),chain++[w],((gi cells w.toNat).Next).get d))
 else
  some (.inr (at_2,chain))

def zp.s0(cells:List Za)(d:Int)(x1:Int):(List Int)×(List (List Int))×Int->Option (((List Int)×(List (List Int))×Int)⊕(((List Int)×(List (List Int)))⊕Unit)):=λ(at_,l,x2)=>
 if decide (x2<(cells.length:Int))then
  ck ((0:Int)<=x2/\x2<(at_.length:Int)) <|
  if decide (0<=(gi at_ x2.toNat))then
   ck (ZJ (x2+1)) <|
   some (.inl (at_,l,x2+1))
  else
   (
    Zn (zp.s1 cells x1) big (x2,0):Option (Int⊕Unit)).bind λo₃=>match o₃ with
   |.inl first1=>
    (Zn (zp.s2 cells d l) big (at_,([]:List Int),first1)).bind λ(at_3,chain1)=>
    ck (l.length+1<=1000000000) <|
    ck (ZJ (x2+1)) <|
    some (.inl (at_3,l++[chain1],x2+1))
   |.inr _=>
    some (.inr (.inr ()))
 else
  some (.inr (.inl (at_,l)))

def zp(cells:List Za)(d:Int):Option ((List Int)×(List (List Int))×Bool) :=
 (zL ([(-1)]:List Int) (cells.length:Int)).bind λx=>
 (ZaV d 2).bind λx1=>
 (
  Zn (zp.s0 cells d x1) big (x,([]:List (List Int)),0):Option (((List Int)×(List (List Int)))⊕Unit)).bind λo₁=>match o₁ with
 |.inl (at_1,l1)=>
  some (at_1,l1,true)
 |.inr _=>
  some (([]:List Int),([]:List (List Int)),false)

/-! muntin/seg.Of -/
def ZdG(cells:List Za):Option (zR×Int) :=
 (zC cells).bind λx=>
 if !(decide (x=0))then
  some ((⟨([]:List Int),([]:List Int),([]:List (List Int)),([]:List (List Int))⟩:zR),x)
 else
  (zp cells 1).bind λ(x1,x2,x3)=>
  (zp cells 0).bind λ(x4,x5,x6)=>
  if(!x3)||(!x6)then
   some ((⟨([]:List Int),([]:List Int),([]:List (List Int)),([]:List (List Int))⟩:zR),10)
  else
   some ((⟨x1,x4,x2,x5⟩:zR),0)

/-! muntin/arcs.weight -/
def Zc4(owner:Int):Option Int :=
 if decide (0<=owner)then
  some 1
 else
  some 0

/-! muntin/arcs.graph -/
def Zbq.s0(cells:List Za)(d:Int)(of:List Int):(List Zb)×Int->Option (((List Zb)×Int)⊕(List Zb)):=λ(l,x)=>
 if decide (x<(cells.length:Int))then
  ck ((0:Int)<=x/\x<(cells.length:Int)) <|
  ck ((0:Int)<=d/\d<4) <|
  if decide (0<=(((gi cells x.toNat).Next).get d))then
   ck ((0:Int)<=x/\x<(of.length:Int)) <|
   ck ((0:Int)<=(((gi cells x.toNat).Next).get d)/\(((gi cells x.toNat).Next).get d)<(of.length:Int)) <|
   (Zc4 (((gi cells x.toNat).Owner).get d)).bind λx1=>
   ck (l.length+[(⟨gi of x.toNat,gi of (((gi cells x.toNat).Next).get d:Int).toNat,x1⟩:Zb)].length<=1000000000) <|
   ck (ZJ (x+1)) <|
   some (.inl (l++[(⟨gi of x.toNat,gi of (((gi cells x.toNat).Next).get d:Int).toNat,x1⟩:Zb)],x+1))
  else
   ck (ZJ (x+1)) <|
   some (.inl (l,x+1))
 else
  some (.inr l)

def Zbq(cells:List Za)(d:Int)(of:List Int):Option (List Zb) :=
 (Zn (Zbq.s0 cells d of) big (([]:List Zb),0)).bind λl1=>
 some l1

/-! muntin/arcs.Of -/
def Zdk(cells:List Za):Option (Zak×Int) :=
 (ZdG cells).bind λ(x,x1)=>
 if !(decide (x1=0))then
  some ((⟨(⟨([]:List Int),([]:List Int),([]:List (List Int)),([]:List (List Int))⟩:zR),([]:List Zb),([]:List Zb)⟩:Zak),x1)
 else
  (Zbq cells 0 x.X).bind λx2=>
  (Zbq cells 1 x.Y).bind λx3=>
  some ((⟨x,x2,x3⟩:Zak),0)

/-! muntin/sep.lines -/
def Za2.s0(c:zR):(List Zz)×Int->Option (((List Zz)×Int)⊕(List Zz)):=λ(l,x)=>
 if decide (x<(c.Vert.length:Int))then
  ck ((0:Int)<=x/\x<(c.Vert.length:Int)) <|
  if decide (1<((gi c.Vert x.toNat).length:Int))then
   ck (l.length+[(⟨true,x⟩:Zz)].length<=1000000000) <|
   ck (ZJ (x+1)) <|
   some (.inl (l++[(⟨true,x⟩:Zz)],x+1))
  else
   ck (ZJ (x+1)) <|
   some (.inl (l,x+1))
 else
  some (.inr l)

def Za2.s1(c:zR):(List Zz)×Int->Option (((List Zz)×Int)⊕(List Zz)):=λ(l2,x1)=>
 if decide (x1<(c.Horz.length:Int))then
  ck ((0:Int)<=x1/\x1<(c.Horz.length:Int)) <|
  if decide (1<((gi c.Horz x1.toNat).length:Int))then
   ck (l2.length+[(⟨false,x1⟩:Zz)].length<=1000000000) <|
   ck (ZJ (x1+1)) <|
   some (.inl (l2++[(⟨false,x1⟩:Zz)],x1+1))
  else
   ck (ZJ (x1+1)) <|
   some (.inl (l2,x1+1))
 else
  some (.inr l2)

def Za2(c:zR):Option (List Zz) :=
 (Zn (Za2.s0 c) big (([]:List Zz),0)).bind λl1=>
 (Zn (Za2.s1 c) big (l1,0)).bind λl3=>
 some l3

/-! muntin/reach.New -/
def ZaX.s0(n:Int):(List (List Int))×Int->Option (((List (List Int))×Int)⊕(List (List Int))):=λ(r_,x)=>
 if decide (x<((List.replicate n.toNat []:List (List Int)).length:Int))then
  ck (ZJ (n+64)) <|
  ck (ZJ ((n+64)-1)) <|
  ck ((64:Int)≠0/\ZJ (((n+64)-1).tdiv 64)) <|
  ck ((0:Int)<=(((n+64)-1).tdiv 64)/\(((n+64)-1).tdiv 64)<=1000000000) <|
  ck ((0:Int)<=x/\x<(r_.length:Int)) <|
  ck (ZJ (x+1)) <|
  some (.inl (r_.set x.toNat (List.replicate (((n+64)-1).tdiv 64:Int).toNat (0:Int)),x+1))
 else
  some (.inr r_)

def ZaX(n:Int):Option ((Option zd)×Int) :=
 if(decide (n<0))||(decide (4096<n))then
  some (none,2)
 else
  ck ((0:Int)<=n/\n<=1000000000) <|
  (Zn (ZaX.s0 n) big ((List.replicate n.toNat []:List (List Int)),0)).bind λr_1=>
  some (some (⟨r_1⟩:zd),0)

/-! (*muntin/reach.Reach).is -/
def Zat(r_:zd)(v:Int):Option Bool :=
 some ((decide (0<=v))&&(decide (v<(r_.rows.length:Int))))

/-! (*muntin/reach.Reach).Has -/
def zH(r_:zd)(u_:Int)(v:Int):Option Bool :=
 (Zat r_ u_).bind λx=>
 (if x then
  (Zat r_ v).bind λx1=>
  some x1
 else
  some false).bind λt=>
 (if t then
  ck ((0:Int)<=u_/\u_<(r_.rows.length:Int)) <|
  ck ((64:Int)≠0/\ZJ (v.tdiv 64)) <|
  ck ((0:Int)<=(v.tdiv 64)/\(v.tdiv 64)<((gi r_.rows u_.toNat).length:Int)) <|
  ck ((0:Int)<=(v.tmod 64)) <|
  some (decide (Zb9 .u64 (ZbH .u64 (gi (gi r_.rows u_.toNat) (v.tdiv 64:Int).toNat) (v.tmod 64)) 1=1))
 else
  some false).bind λt1=>
 some t1

/-! slices.Clone[[]uint64,uint64] -/
def ZbB(s:List Int):Option (List Int) :=
 ck (s.length<=1000000000) <|
 some s
/-! (*muntin/reach.Reach).Add -/
def ZS.s1(v:Int)(x3:List Int)(x4:Int):(List (List Int))×Int->Option (((List (List Int))×Int)⊕(List (List Int))):=λ(r_2,x6)=>
 if decide (x6<((x3.set (v.tdiv 64:Int).toNat (Zd0 .u64 (gi x3 (v.tdiv 64:Int).toNat) (Zeh .u64 1 (v.tmod 64)))).length:Int))then
  ck ((0:Int)<=x6/\x6<((x3.set (v.tdiv 64:Int).toNat (Zd0 .u64 (gi x3 (v.tdiv 64:Int).toNat) (Zeh .u64 1 (v.tmod 64)))).length:Int)) <|
  ck ((0:Int)<=x4/\x4<(r_2.length:Int)) <|
  ck ((0:Int)<=x6/\x6<((gi r_2 x4.toNat).length:Int)) <|
  ck (ZJ (x6+1)) <|
  some (.inl ((r_2.set x4.toNat ((gi r_2 x4.toNat).set x6.toNat (Zd0 .u64 (gi (gi r_2 x4.toNat) x6.toNat) (gi (x3.set (v.tdiv 64:Int).toNat (Zd0 .u64 (gi x3 (v.tdiv 64:Int).toNat) (Zeh .u64 1 (v.tmod 64)))) x6.toNat)))),x6+1))
 else
  some (.inr r_2)

def ZS.s0(r_:zd)(u_:Int)(v:Int)(x3:List Int):(List (List Int))×Int->Option (((List (List Int))×Int)⊕(List (List Int))):=λ(r_1,x4)=>
 if decide (x4<(r_.rows.length:Int))then
  (if !(decide (x4=u_))then
   (zH (⟨r_1⟩:zd) x4 u_).bind λx5=>
   some (!x5)
  else
   some false).bind λt1=>
  if t1 then
   ck (ZJ (x4+1)) <|
   some (.inl (r_1,x4+1))
  else
   (Zn (ZS.s1 v x3 x4) big (r_1,0)).bind λr_3=>
   ck (ZJ (x4+1)) <|
   some (.inl (r_3,x4+1))
 else
  some (.inr r_1)

def ZS(r_:zd)(u_:Int)(v:Int):Option (Int×zd) :=
 (Zat r_ u_).bind λx=>
 (if !x then
  some true
 else
  (Zat r_ v).bind λx1=>
  some (!x1)).bind λt=>
 if t then
  some (2,r_)
 else
  (zH r_ u_ v).bind λx2=>
  if x2 then
   some (0,r_)
  else
   ck ((0:Int)<=v/\v<(r_.rows.length:Int)) <|
   (ZbB (gi r_.rows v.toNat)).bind λx3=>
   ck ((64:Int)≠0/\ZJ (v.tdiv 64)) <|
   ck ((0:Int)<=(v.tdiv 64)/\(v.tdiv 64)<(x3.length:Int)) <|
   ck ((0:Int)<=(v.tmod 64)) <|
   (Zn (ZS.s0 r_ u_ v x3) big (r_.rows,0)).bind λp0=>
   some (0,(⟨p0⟩:zd))

/-! (muntin/seg.Chains).chain -/
def ZaD(c:zR)(vertical:Bool)(i:Int):Option (List Int) :=
 (
  if vertical then
   some c.Vert
  else
   some c.Horz).bind λl=>
 if(decide (i<0))||(decide ((l.length:Int)<=i))then
  some ([]:List Int)
 else
  ck ((0:Int)<=i/\i<(l.length:Int)) <|
  some (gi l i.toNat)

/-! (muntin/seg.Chains).Span -/
def Zck(c:zR)(vertical:Bool)(i:Int):Option (Int×Int) :=
 (ZaD c vertical i).bind λx=>
 if decide ((x.length:Int)=0)then
  some (0,0)
 else
  (
   if vertical then
    some c.Y
   else
    some c.X).bind λof=>
  ck ((0:Int)<=0/\0<(x.length:Int)) <|
  ck ((0:Int)<=(gi x (0:Int).toNat)/\(gi x (0:Int).toNat)<(of.length:Int)) <|
  ck (ZJ ((x.length:Int)-1)) <|
  ck ((0:Int)<=((x.length:Int)-1)/\((x.length:Int)-1)<(x.length:Int)) <|
  ck ((0:Int)<=(gi x ((x.length:Int)-1:Int).toNat)/\(gi x ((x.length:Int)-1:Int).toNat)<(of.length:Int)) <|
  some (gi of (gi x (0:Int).toNat:Int).toNat,gi of (gi x ((x.length:Int)-1:Int).toNat:Int).toNat)

/-! muntin/sep.of -/
def Ze4(c:zR)(l:Zz):Option zM :=
 (Zck c l.Vertical l.Place).bind λ(x,x1)=>
 if l.Vertical then
  some (⟨l.Place,l.Place,x,x1⟩:zM)
 else
  some (⟨x,x1,l.Place,l.Place⟩:zM)

/-! slices.IndexFunc[[]int,int] -/
def zV.s0(s:List Int)(f:Int->Option Bool):Int->Option (Int⊕(Unit⊕Int)):=λx=>
 if decide (x<(s.length:Int))then
  ck ((0:Int)<=x/\x<(s.length:Int)) <|
  (f (gi s x.toNat)).bind λx2=>
  if x2 then
   some (.inr (.inr x))
  else
   ck (ZJ (x+1)) <|
   some (.inl (x+1))
 else
  some (.inr (.inl ()))

def zV(s:List Int)(f:Int->Option Bool):Option Int :=
 (
  Zn (zV.s0 s f) big 0:Option (Unit⊕Int)).bind λo₁=>match o₁ with
 |.inl _=>
  some (-1)
 |.inr x1=>
  some x1

/-! slices.ContainsFunc[[]int,int] -/
def ZaA(s:List Int)(f:Int->Option Bool):Option Bool :=
 (zV s f).bind λx=>
 some (decide (0<=x))

/-! slices.Index[[]int,int] -/
def Zay.s0(s:List Int)(v:Int):Int->Option (Int⊕(Unit⊕Int)):=λx=>
 if decide (x<(s.length:Int))then
  ck ((0:Int)<=x/\x<(s.length:Int)) <|
  if decide (v=gi s x.toNat)then
   some (.inr (.inr x))
  else
   ck (ZJ (x+1)) <|
   some (.inl (x+1))
 else
  some (.inr (.inl ()))

def Zay(s:List Int)(v:Int):Option Int :=
 (
  Zn (Zay.s0 s v) big 0:Option (Unit⊕Int)).bind λo₁=>match o₁ with
 |.inl _=>
  some (-1)
 |.inr x1=>
  some x1

/-! slices.Contains[[]int,int] -/
def Zbj(s:List Int)(v:Int):Option Bool :=
 (Zay s v).bind λx=>
 some (decide (0<=x))

/-! (muntin/seg.Chains).Meet$1 -/
def ZbQ(v:Int)(c0:List Int):Option Bool :=
 (Zbj c0 v).bind λx=>
 some x

/-! (muntin/seg.Chains).Meet -/
def Zb4(c:zR)(vertical:Bool)(i:Int)(other:Bool)(k_:Int):Option Bool :=
 (ZaD c other k_).bind λx=>
 (ZaD c vertical i).bind λx1=>
 (ZaA x1 (λy0=>ZbQ y0 x)).bind λx2=>
 some x2

/-! muntin/sep.start -/
def zn.s0(x:Zak):(List (List Int))×Int->Option (((List (List Int))×Int)⊕(List (List Int))):=λ(s,x7)=>
 if decide (x7<(x.H.length:Int))then
  ck ((0:Int)<=x7/\x7<(x.H.length:Int)) <|
  (ZS (⟨s⟩:zd) ((gi x.H x7.toNat).From) ((gi x.H x7.toNat).To)).bind λ(x8,m)=>
  ck (ZJ (x7+1)) <|
  some (.inl (m.rows,x7+1))
 else
  some (.inr s)

def zn.s1(x:Zak):(List (List Int))×Int->Option (((List (List Int))×Int)⊕(List (List Int))):=λ(s2,x9)=>
 if decide (x9<(x.V.length:Int))then
  ck ((0:Int)<=x9/\x9<(x.V.length:Int)) <|
  (ZS (⟨s2⟩:zd) ((gi x.V x9.toNat).From) ((gi x.V x9.toNat).To)).bind λ(x10,m1)=>
  ck (ZJ (x9+1)) <|
  some (.inl (m1.rows,x9+1))
 else
  some (.inr s2)

def zn.s2(x:Zak)(x2:List Zz):(List zM)×Int->Option (((List zM)×Int)⊕(List zM)):=λ(s4,x11)=>
 if decide (x11<(x2.length:Int))then
  ck ((0:Int)<=x11/\x11<(x2.length:Int)) <|
  (Ze4 x.Chains (gi x2 x11.toNat)).bind λx12=>
  ck (s4.length+[x12].length<=1000000000) <|
  ck (ZJ (x11+1)) <|
  some (.inl (s4++[x12],x11+1))
 else
  some (.inr s4)

def zn.s4(x:Zak)(x2:List Zz)(x13:Int):(List (A2 Int))×Int->Option (((List (A2 Int))×Int)⊕(List (A2 Int))):=λ(open_2,k_)=>
 if decide (k_<(x2.length:Int))then
  ck ((0:Int)<=k_/\k_<(x2.length:Int)) <|
  (Zb4 x.Chains ((gi x2 x13.toNat).Vertical) ((gi x2 x13.toNat).Place) ((gi x2 k_.toNat).Vertical) ((gi x2 k_.toNat).Place)).bind λx14=>
  if !x14 then
   ck (open_2.length+[(⟨x13,k_⟩:A2 Int)].length<=1000000000) <|
   ck (ZJ (k_+1)) <|
   some (.inl (open_2++[(⟨x13,k_⟩:A2 Int)],k_+1))
  else
   ck (ZJ (k_+1)) <|
   some (.inl (open_2,k_+1))
 else
  some (.inr open_2)

def zn.s3(x:Zak)(x2:List Zz):(List (A2 Int))×Int->Option (((List (A2 Int))×Int)⊕(List (A2 Int))):=λ(open_,x13)=>
 if decide (x13<(x2.length:Int))then
  ck ((0:Int)<=x13/\x13<(x2.length:Int)) <|
  ck (ZJ (x13+1)) <|
  (Zn (zn.s4 x x2 x13) big (open_,x13+1)).bind λopen_3=>
  some (.inl (open_3,x13+1))
 else
  some (.inr open_)

def zn(cells:List Za):Option (ZO×(List (A2 Int))) :=
 (Zdk cells).bind λ(x,x1)=>
 (Za2 x.Chains).bind λx2=>
 (ZaX (x.Chains.Vert.length:Int)).bind λ(x3,x4)=>
 (x3).bind λg=>
 (ZaX (x.Chains.Horz.length:Int)).bind λ(x5,x6)=>
 (x5).bind λg1=>
 (Zn (zn.s0 x) big (g.rows,0)).bind λs1=>
 (Zn (zn.s1 x) big (g1.rows,0)).bind λs3=>
 (Zn (zn.s2 x x2) big (([]:List zM),0)).bind λs5=>
 (Zn (zn.s3 x x2) big (([]:List (A2 Int)),0)).bind λopen_1=>
 some ((⟨(⟨x,([]:List (A2 Zz))⟩:ZaP),(⟨s1⟩:zd),(⟨s3⟩:zd),x2,s5⟩:ZO),open_1)

/-! (*muntin/sep.settler).ways -/
def Zbt(s:ZO)(i:Int)(k_:Int):Option (A4 Zi) :=
 ck ((0:Int)<=i/\i<(s.sides.length:Int)) <|
 ck ((0:Int)<=k_/\k_<(s.sides.length:Int)) <|
 some (⟨(⟨true,(gi s.sides i.toNat).right,(gi s.sides k_.toNat).left⟩:Zi),(⟨true,(gi s.sides k_.toNat).right,(gi s.sides i.toNat).left⟩:Zi),(⟨false,(gi s.sides i.toNat).top,(gi s.sides k_.toNat).bottom⟩:Zi),(⟨false,(gi s.sides k_.toNat).top,(gi s.sides i.toNat).bottom⟩:Zi)⟩:A4 Zi)

/-! slices.IndexFunc[[]muntin/sep.way,muntin/sep.way] -/
def zb.s0(s:List Zi)(f:Zi->Option Bool):Int->Option (Int⊕(Unit⊕Int)):=λx=>
 if decide (x<(s.length:Int))then
  ck ((0:Int)<=x/\x<(s.length:Int)) <|
  (f (gi s x.toNat)).bind λx2=>
  if x2 then
   some (.inr (.inr x))
  else
   ck (ZJ (x+1)) <|
   some (.inl (x+1))
 else
  some (.inr (.inl ()))

def zb(s:List Zi)(f:Zi->Option Bool):Option Int :=
 (
  Zn (zb.s0 s f) big 0:Option (Unit⊕Int)).bind λo₁=>match o₁ with
 |.inl _=>
  some (-1)
 |.inr x1=>
  some x1

/-! slices.ContainsFunc[[]muntin/sep.way,muntin/sep.way] -/
def Zah(s:List Zi)(f:Zi->Option Bool):Option Bool :=
 (zb s f).bind λx=>
 some (decide (0<=x))

/-! (*muntin/sep.settler).graph -/
def Za3(s:ZO)(w:Zi):Option Bool :=
 if w.horizontal then
  some true
 else
  some false

/-! (*muntin/sep.settler).is -/
def ZbF(s:ZO)(w:Zi):Option Bool :=
 (Za3 s w).bind λx=>
 if x then
  (zH s.h w.from_ w.to).bind λx1=>
  some x1
 else
  (zH s.v w.from_ w.to).bind λx2=>
  some x2

/-! slices.DeleteFunc[[]muntin/sep.way,muntin/sep.way] -/
def ZM.s0(del:Zi->Option Bool):(List Zi)×Int×Int->Option (((List Zi)×Int×Int)⊕((List Zi)×Int)):=λ(s1,i,j)=>
 if decide (j<(s1.length:Int))then
  ck ((0:Int)<=j/\j<(s1.length:Int)) <|
  (del (gi s1 j.toNat)).bind λx1=>
  if !x1 then
   ck ((0:Int)<=i/\i<(s1.length:Int)) <|
   ck (ZJ (i+1)) <|
   ck (ZJ (j+1)) <|
   some (.inl (s1.set i.toNat (gi s1 j.toNat),i+1,j+1))
  else
   ck (ZJ (j+1)) <|
   some (.inl (s1,i,j+1))
 else
  some (.inr (s1,i))

def ZM(s:List Zi)(del:Zi->Option Bool):Option (List Zi) :=
 (zb s del).bind λx=>
 if decide (x=(-1))then
  some s
 else
  ck (ZJ (x+1)) <|
  (Zn (ZM.s0 del) big (s,x,x+1)).bind λ(s2,i1)=>
  ck ((0:Int)<=i1/\i1<=(s2.length:Int)) <|
  ck ((0:Int)<=i1/\i1<=((s2.take i1.toNat++List.replicate (s2.length-i1.toNat) (⟨false,0,0⟩:Zi)).length:Int)) <|
  some ((s2.take i1.toNat++List.replicate (s2.length-i1.toNat) (⟨false,0,0⟩:Zi)).take i1.toNat)

/-! (*muntin/sep.settler).can -/
def ZbM(s:ZO)(w:Zi):Option Bool :=
 if !(decide (w.from_=w.to))then
  (Za3 s w).bind λx=>
  if x then
   (zH s.h w.to w.from_).bind λx1=>
   some (!x1)
  else
   (zH s.v w.to w.from_).bind λx2=>
   some (!x2)
 else
  some false

/-! (*muntin/sep.settler).look$1 -/
def ZaY(w:Zi)(c0:ZO):Option Bool :=
 (ZbM c0 w).bind λx=>
 some (!x)

/-! (*muntin/sep.settler).force -/
def Zb6(s:ZO)(w:Zi):Option ZO :=
 (Za3 s w).bind λx=>
 if x then
  (ZS s.h w.from_ w.to).bind λ(x1,m)=>
  if w.horizontal then
   ck (s.result.Graphs.H.length+[(⟨w.from_,w.to,(0:Int)⟩:Zb)].length<=1000000000) <|
   some (⟨(⟨(⟨s.result.Graphs.Chains,s.result.Graphs.H++[(⟨w.from_,w.to,(0:Int)⟩:Zb)],s.result.Graphs.V⟩:Zak),s.result.Open⟩:ZaP),m,s.v,s.lines,s.sides⟩:ZO)
  else
   ck (s.result.Graphs.V.length+[(⟨w.from_,w.to,(0:Int)⟩:Zb)].length<=1000000000) <|
   some (⟨(⟨(⟨s.result.Graphs.Chains,s.result.Graphs.H,s.result.Graphs.V++[(⟨w.from_,w.to,(0:Int)⟩:Zb)]⟩:Zak),s.result.Open⟩:ZaP),m,s.v,s.lines,s.sides⟩:ZO)
 else
  (ZS s.v w.from_ w.to).bind λ(x2,m1)=>
  if w.horizontal then
   ck (s.result.Graphs.H.length+[(⟨w.from_,w.to,(0:Int)⟩:Zb)].length<=1000000000) <|
   some (⟨(⟨(⟨s.result.Graphs.Chains,s.result.Graphs.H++[(⟨w.from_,w.to,(0:Int)⟩:Zb)],s.result.Graphs.V⟩:Zak),s.result.Open⟩:ZaP),s.h,m1,s.lines,s.sides⟩:ZO)
  else
   ck (s.result.Graphs.V.length+[(⟨w.from_,w.to,(0:Int)⟩:Zb)].length<=1000000000) <|
   some (⟨(⟨(⟨s.result.Graphs.Chains,s.result.Graphs.H,s.result.Graphs.V++[(⟨w.from_,w.to,(0:Int)⟩:Zb)]⟩:Zak),s.result.Open⟩:ZaP),s.h,m1,s.lines,s.sides⟩:ZO)

/-! (*muntin/sep.settler).look -/
def ZaE(s:ZO)(i:Int)(k_:Int):Option (Bool×Bool×ZO) :=
 (Zbt s i k_).bind λx=>
 (Zah [x.a,x.b,x.c,x.d] (λy0=>ZbF s y0)).bind λx1=>
 if x1 then
  some (true,false,s)
 else
  (ZM [x.a,x.b,x.c,x.d] (λy0=>ZaY y0 s)).bind λx2=>
  if !(decide ((x2.length:Int)=1))then
   some (false,false,s)
  else
   ck ((0:Int)<=0/\0<(x2.length:Int)) <|
   (Zb6 s (gi x2 (0:Int).toNat)).bind λm=>
   some (true,true,m)

/-! muntin/sep.Settle -/
def ze.s1(open_:List (A2 Int)):(List Int)×(List Int)×(List (List Int))×(List (List Int))×(List Zb)×(List Zb)×(List (A2 Zz))×(List (List Int))×(List (List Int))×(List Zz)×(List zM)×Bool×(List (A2 Int))×Int->Option (((List Int)×(List Int)×(List (List Int))×(List (List Int))×(List Zb)×(List Zb)×(List (A2 Zz))×(List (List Int))×(List (List Int))×(List Zz)×(List zM)×Bool×(List (A2 Int))×Int)⊕((List Int)×(List Int)×(List (List Int))×(List (List Int))×(List Zb)×(List Zb)×(List (A2 Zz))×(List (List Int))×(List (List Int))×(List Zz)×(List zM)×Bool×(List (A2 Int)))):=λ(s22,s23,s24,s25,s26,s27,s28,s29,s30,s31,s32,changed1,left,x3)=>
 if decide (x3<(open_.length:Int))then
  ck ((0:Int)<=x3/\x3<(open_.length:Int)) <|
  (ZaE (⟨(⟨(⟨(⟨s22,s23,s24,s25⟩:zR),s26,s27⟩:Zak),s28⟩:ZaP),(⟨s29⟩:zd),(⟨s30⟩:zd),s31,s32⟩:ZO) ((gi open_ x3.toNat).get 0) ((gi open_ x3.toNat).get 1)).bind λ(x4,x5,m)=>
  if !x4 then
   ck (left.length+[gi open_ x3.toNat].length<=1000000000) <|
   ck (ZJ (x3+1)) <|
   some (.inl (m.result.Graphs.Chains.X,m.result.Graphs.Chains.Y,m.result.Graphs.Chains.Vert,m.result.Graphs.Chains.Horz,m.result.Graphs.H,m.result.Graphs.V,m.result.Open,m.h.rows,m.v.rows,m.lines,m.sides,changed1||x5,left++[gi open_ x3.toNat],x3+1))
  else
   ck (ZJ (x3+1)) <|
   some (.inl (m.result.Graphs.Chains.X,m.result.Graphs.Chains.Y,m.result.Graphs.Chains.Vert,m.result.Graphs.Chains.Horz,m.result.Graphs.H,m.result.Graphs.V,m.result.Open,m.h.rows,m.v.rows,m.lines,m.sides,changed1||x5,left,x3+1))
 else
  some (.inr (s22,s23,s24,s25,s26,s27,s28,s29,s30,s31,s32,changed1,left))

def ze.s0:(List Int)×(List Int)×(List (List Int))×(List (List Int))×(List Zb)×(List Zb)×(List (A2 Zz))×(List (List Int))×(List (List Int))×(List Zz)×(List zM)×(List (A2 Int))×Bool->Option (((List Int)×(List Int)×(List (List Int))×(List (List Int))×(List Zb)×(List Zb)×(List (A2 Zz))×(List (List Int))×(List (List Int))×(List Zz)×(List zM)×(List (A2 Int))×Bool)⊕((List Int)×(List Int)×(List (List Int))×(List (List Int))×(List Zb)×(List Zb)×(List (A2 Zz))×(List (List Int))×(List (List Int))×(List Zz)×(List zM)×(List (A2 Int)))):=λ(s,s1,s2,s3,s4,s5,s6,s7,s8,s9,s10,open_,changed)=>
 if changed then
  (Zn (ze.s1 open_) big (s,s1,s2,s3,s4,s5,s6,s7,s8,s9,s10,false,([]:List (A2 Int)),0)).bind λ(s33,s34,s35,s36,s37,s38,s39,s40,s41,s42,s43,changed2,left1)=>
  some (.inl (s33,s34,s35,s36,s37,s38,s39,s40,s41,s42,s43,left1,changed2))
 else
  some (.inr (s,s1,s2,s3,s4,s5,s6,s7,s8,s9,s10,open_))

def ze.s2(s20:List Zz)(open_1:List (A2 Int)):(List (A2 Zz))×Int->Option (((List (A2 Zz))×Int)⊕(List (A2 Zz))):=λ(s44,x6)=>
 if decide (x6<(open_1.length:Int))then
  ck ((0:Int)<=x6/\x6<(open_1.length:Int)) <|
  ck ((0:Int)<=((gi open_1 x6.toNat).get 0)/\((gi open_1 x6.toNat).get 0)<(s20.length:Int)) <|
  ck ((0:Int)<=((gi open_1 x6.toNat).get 1)/\((gi open_1 x6.toNat).get 1)<(s20.length:Int)) <|
  ck (s44.length+[(⟨gi s20 ((gi open_1 x6.toNat).get 0:Int).toNat,gi s20 ((gi open_1 x6.toNat).get 1:Int).toNat⟩:A2 Zz)].length<=1000000000) <|
  ck (ZJ (x6+1)) <|
  some (.inl (s44++[(⟨gi s20 ((gi open_1 x6.toNat).get 0:Int).toNat,gi s20 ((gi open_1 x6.toNat).get 1:Int).toNat⟩:A2 Zz)],x6+1))
 else
  some (.inr s44)

def ze(cells:List Za):Option (ZaP×Int) :=
 (Zc5 cells).bind λx=>
 if !(decide (x=0))then
  some ((⟨(⟨(⟨([]:List Int),([]:List Int),([]:List (List Int)),([]:List (List Int))⟩:zR),([]:List Zb),([]:List Zb)⟩:Zak),([]:List (A2 Zz))⟩:ZaP),x)
 else
  (zn cells).bind λ(x1,x2)=>
  (Zn ze.s0 big (x1.result.Graphs.Chains.X,x1.result.Graphs.Chains.Y,x1.result.Graphs.Chains.Vert,x1.result.Graphs.Chains.Horz,x1.result.Graphs.H,x1.result.Graphs.V,x1.result.Open,x1.h.rows,x1.v.rows,x1.lines,x1.sides,x2,true)).bind λ(s11,s12,s13,s14,s15,s16,s17,s18,s19,s20,s21,open_1)=>
  (Zn (ze.s2 s20 open_1) big (s17,0)).bind λs45=>
  some ((⟨(⟨(⟨s11,s12,s13,s14⟩:zR),s15,s16⟩:Zak),s45⟩:ZaP),0)

/-! muntin/sep.Lines -/
def Zes(cells:List Za):Option ((List Zz)×Int) :=
 (ZdG cells).bind λ(x,x1)=>
 if !(decide (x1=0))then
  some (([]:List Zz),x1)
 else
  (Za2 x).bind λx2=>
  some (x2,0)

/-! muntin/muntinlaw19.wakes -/
def ZbP:Option Bool :=
 (ZaM ).bind λx=>
 (ze x).bind λ(x1,x2)=>
 (ZaM ).bind λx3=>
 (Zes x3).bind λ(x4,x5)=>
 (ZK 2).bind λx6=>
 (ze x6).bind λ(x7,x8)=>
 (if((((decide (x2=0))&&(decide ((x1.Open.length:Int)=0)))&&(decide (3<(x1.Graphs.H.length:Int))))&&(decide (x5=0)))&&(decide ((x4.length:Int)=5))then
  ck ((0:Int)<=0/\0<(x4.length:Int)) <|
  some ((gi x4 (0:Int).toNat).Vertical)
 else
  some false).bind λt=>
 some (t&&(decide (x8=13)))

/-! muntin/muntinref10.Check -/
def zc.s1(l:List Za)(v:Int):Int->Option (Int⊕(Unit⊕Int)):=λd=>
 if decide (d<4)then
  ck ((0:Int)<=v/\v<(l.length:Int)) <|
  ck ((0:Int)<=d/\d<4) <|
  if decide (((gi l v.toNat).Next).get d=(-1))then
   if !(decide (((gi l v.toNat).Owner).get d=0))then
    some (.inr (.inr 9))
   else
    ck (ZJ (d+1)) <|
    some (.inl (d+1))
  else
   if((decide ((((gi l v.toNat).Next).get d)<0))||(decide ((l.length:Int)<=(((gi l v.toNat).Next).get d))))||(decide (((gi l v.toNat).Next).get d=v))then
    some (.inr (.inr 3))
   else
    ck (ZJ (d+2)) <|
    ck ((0:Int)<=(((gi l v.toNat).Next).get d)/\(((gi l v.toNat).Next).get d)<(l.length:Int)) <|
    ck ((0:Int)<=((d+2).tmod 4)/\((d+2).tmod 4)<4) <|
    if((!(decide (((gi l (((gi l v.toNat).Next).get d:Int).toNat).Next).get ((d+2).tmod 4)=v)))||(!(decide (((gi l (((gi l v.toNat).Next).get d:Int).toNat).Owner).get ((d+2).tmod 4)=((gi l v.toNat).Owner).get d))))||(decide ((((gi l v.toNat).Owner).get d)<(-2)))then
     some (.inr (.inr 9))
    else
     ck (ZJ (d+1)) <|
     some (.inl (d+1))
 else
  some (.inr (.inl ()))

def zc.s0(l:List Za):Int->Option (Int⊕(Unit⊕Int)):=λv=>
 if decide (v<(l.length:Int))then
  (
   Zn (zc.s1 l v) big 0:Option (Unit⊕Int)).bind λo₃=>match o₃ with
  |.inl _=>
   ck (ZJ (v+1)) <|
   some (.inl (v+1))
  |.inr x1=>
   some (.inr (.inr x1))
 else
  some (.inr (.inl ()))

def zc(l:List Za):Option Int :=
 if decide (4096<(l.length:Int))then
  some 6
 else
  (
   Zn (zc.s0 l) big 0:Option (Unit⊕Int)).bind λo₁=>match o₁ with
  |.inl _=>
   some 0
  |.inr x=>
   some x

/-! muntin/muntinref13.Far -/
def ZB.s0(l:List Za):(List Int)×Int->Option (((List Int)×Int)⊕(List Int)):=λ(far,i)=>
 if decide (i<(l.length:Int))then
  ck ((0:Int)<=i/\i<(far.length:Int)) <|
  ck (ZJ (i+1)) <|
  some (.inl (far.set i.toNat (-1),i+1))
 else
  some (.inr far)

def ZB.s3(l:List Za)(round:Int)(i1:Int):(List Int)×Int->Option (((List Int)×Int)⊕(List Int)):=λ(far6,d)=>
 if decide (d<4)then
  ck ((0:Int)<=i1/\i1<(l.length:Int)) <|
  ck ((0:Int)<=d/\d<4) <|
  ck ((0:Int)<=i1/\i1<(far6.length:Int)) <|
  (if(decide (gi far6 i1.toNat=round))&&(decide (0<=(((gi l i1.toNat).Next).get d)))then
   ck ((0:Int)<=(max (((gi l i1.toNat).Next).get d) 0)/\(max (((gi l i1.toNat).Next).get d) 0)<(far6.length:Int)) <|
   some (decide ((gi far6 (max (((gi l i1.toNat).Next).get d) 0:Int).toNat)<0))
  else
   some false).bind λt=>
  if t then
   ck (ZJ (round+1)) <|
   ck ((0:Int)<=(((gi l i1.toNat).Next).get d)/\(((gi l i1.toNat).Next).get d)<(far6.length:Int)) <|
   ck (ZJ (d+1)) <|
   some (.inl (far6.set (((gi l i1.toNat).Next).get d:Int).toNat (round+1),d+1))
  else
   ck (ZJ (d+1)) <|
   some (.inl (far6,d+1))
 else
  some (.inr far6)

def ZB.s2(l:List Za)(round:Int):(List Int)×Int->Option (((List Int)×Int)⊕(List Int)):=λ(far4,i1)=>
 if decide (i1<(l.length:Int))then
  (Zn (ZB.s3 l round i1) big (far4,0)).bind λfar7=>
  ck (ZJ (i1+1)) <|
  some (.inl (far7,i1+1))
 else
  some (.inr far4)

def ZB.s1(l:List Za):(List Int)×Int->Option (((List Int)×Int)⊕(List Int)):=λ(far2,round)=>
 if decide (round<(l.length:Int))then
  (Zn (ZB.s2 l round) big (far2,0)).bind λfar5=>
  ck (ZJ (round+1)) <|
  some (.inl (far5,round+1))
 else
  some (.inr far2)

def ZB(l:List Za)(v:Int):Option (List Int) :=
 ck ((0:Int)<=(l.length:Int)/\(l.length:Int)<=1000000000) <|
 (Zn (ZB.s0 l) big (List.replicate ((l.length:Int):Int).toNat (0:Int),0)).bind λfar1=>
 ck ((0:Int)<=v/\v<(far1.length:Int)) <|
 (Zn (ZB.s1 l) big (far1.set v.toNat 0,0)).bind λfar3=>
 some far3

/-! muntin/muntinref13.Parts -/
def zj.s1(l:List Za)(x:List Int):(List Bool)×(List Int)×Int->Option (((List Bool)×(List Int)×Int)⊕((List Bool)×(List Int))):=λ(in_1,p,w)=>
 if decide (w<(l.length:Int))then
  ck ((0:Int)<=w/\w<(x.length:Int)) <|
  if decide (0<=(gi x w.toNat))then
   ck ((0:Int)<=w/\w<(in_1.length:Int)) <|
   ck (p.length+[w].length<=1000000000) <|
   ck (ZJ (w+1)) <|
   some (.inl (in_1.set w.toNat true,p++[w],w+1))
  else
   ck (ZJ (w+1)) <|
   some (.inl (in_1,p,w+1))
 else
  some (.inr (in_1,p))

def zj.s0(l:List Za):(List Bool)×(List (List Int))×Int->Option (((List Bool)×(List (List Int))×Int)⊕(List (List Int))):=λ(in_,out,v)=>
 if decide (v<(l.length:Int))then
  ck ((0:Int)<=v/\v<(in_.length:Int)) <|
  if gi in_ v.toNat then
   ck (ZJ (v+1)) <|
   some (.inl (in_,out,v+1))
  else
   (ZB l v).bind λx=>
   (Zn (zj.s1 l x) big (in_,([]:List Int),0)).bind λ(in_2,p1)=>
   ck (out.length+1<=1000000000) <|
   ck (ZJ (v+1)) <|
   some (.inl (in_2,out++[p1],v+1))
 else
  some (.inr out)

def zj(l:List Za):Option (List (List Int)) :=
 ck ((0:Int)<=(l.length:Int)/\(l.length:Int)<=1000000000) <|
 (Zn (zj.s0 l) big (List.replicate ((l.length:Int):Int).toNat false,([]:List (List Int)),0)).bind λout1=>
 some out1

/-! muntin/muntinref12.Behind -/
def zG.s0(l:List Za)(d:Zs):Int->Option (Int⊕(Unit⊕Zs)):=λi=>
 if decide (i<4)then
  ck ((0:Int)<=i/\i<(([1,0,3,2]:List Int).length:Int)) <|
  ck (ZJ (d.Dir+(gi ([1,0,3,2]:List Int) i.toNat))) <|
  ck ((0:Int)<=(((gi l (d.Cell:Int).toNat).Next).get d.Dir)/\(((gi l (d.Cell:Int).toNat).Next).get d.Dir)<(l.length:Int)) <|
  ck ((0:Int)<=((d.Dir+(gi ([1,0,3,2]:List Int) i.toNat)).tmod 4)/\((d.Dir+(gi ([1,0,3,2]:List Int) i.toNat)).tmod 4)<4) <|
  if decide (0<=(((gi l (((gi l (d.Cell:Int).toNat).Next).get d.Dir:Int).toNat).Next).get ((d.Dir+(gi ([1,0,3,2]:List Int) i.toNat)).tmod 4)))then
   some (.inr (.inr (⟨((gi l (d.Cell:Int).toNat).Next).get d.Dir,(d.Dir+(gi ([1,0,3,2]:List Int) i.toNat)).tmod 4⟩:Zs)))
  else
   ck (ZJ (i+1)) <|
   some (.inl (i+1))
 else
  some (.inr (.inl ()))

def zG(l:List Za)(d:Zs):Option Zs :=
 ck ((0:Int)<=d.Cell/\d.Cell<(l.length:Int)) <|
 ck ((0:Int)<=d.Dir/\d.Dir<4) <|
 (
  Zn (zG.s0 l d) big 0:Option (Unit⊕Zs)).bind λo₁=>match o₁ with
 |.inl _=>
  some d
 |.inr x=>
  some x

/-! muntin/muntinref12.Faces -/
def ZE.s2(l:List Za):(List Bool)×(List Zs)×Zs->Option (((List Bool)×(List Zs)×Zs)⊕((List Bool)×(List Zs))):=λ(met3,f,d)=>
 ck (ZJ (4*d.Cell)) <|
 ck (ZJ ((4*d.Cell)+d.Dir)) <|
 ck ((0:Int)<=((4*d.Cell)+d.Dir)/\((4*d.Cell)+d.Dir)<(met3.length:Int)) <|
 if !(gi met3 ((4*d.Cell)+d.Dir:Int).toNat)then
  ck (f.length+[d].length<=1000000000) <|
  (zG l d).bind λx=>
  some (.inl (met3.set ((4*d.Cell)+d.Dir:Int).toNat true,f++[d],x))
 else
  some (.inr (met3,f))

def ZE.s1(l:List Za)(v:Int):(List Bool)×(List (List Zs))×Int->Option (((List Bool)×(List (List Zs))×Int)⊕((List Bool)×(List (List Zs)))):=λ(met1,out2,e_)=>
 if decide (e_<4)then
  ck ((0:Int)<=v/\v<(l.length:Int)) <|
  ck ((0:Int)<=e_/\e_<4) <|
  (if decide ((((gi l v.toNat).Next).get e_)<0)then
   some true
  else
   ck (ZJ (4*v)) <|
   ck (ZJ ((4*v)+e_)) <|
   ck ((0:Int)<=((4*v)+e_)/\((4*v)+e_)<(met1.length:Int)) <|
   some (gi met1 ((4*v)+e_:Int).toNat)).bind λt=>
  if t then
   ck (ZJ (e_+1)) <|
   some (.inl (met1,out2,e_+1))
  else
   (Zn (ZE.s2 l) big (met1,([]:List Zs),(⟨v,e_⟩:Zs))).bind λ(met4,f1)=>
   ck (out2.length+1<=1000000000) <|
   ck (ZJ (e_+1)) <|
   some (.inl (met4,out2++[f1],e_+1))
 else
  some (.inr (met1,out2))

def ZE.s0(l:List Za):(List Bool)×(List (List Zs))×Int->Option (((List Bool)×(List (List Zs))×Int)⊕(List (List Zs))):=λ(met,out,v)=>
 if decide (v<(l.length:Int))then
  (Zn (ZE.s1 l v) big (met,out,0)).bind λ(met2,out3)=>
  ck (ZJ (v+1)) <|
  some (.inl (met2,out3,v+1))
 else
  some (.inr out)

def ZE(l:List Za):Option (List (List Zs)) :=
 ck (ZJ (4*(l.length:Int))) <|
 ck ((0:Int)<=(4*(l.length:Int))/\(4*(l.length:Int))<=1000000000) <|
 (Zn (ZE.s0 l) big (List.replicate (4*(l.length:Int):Int).toNat false,([]:List (List Zs)),0)).bind λout1=>
 some out1

/-! muntin/muntinref01.Good -/
def Zbs(d:Int):Option Bool :=
 some ((decide (0<=d))&&(decide (d<=3)))

/-! muntin/muntinref01.Left -/
def Zca(d:Int)(times:Int):Option Int :=
 (Zbs d).bind λx=>
 if !x then
  some 0
 else
  if decide ((times.tmod 4)<0)then
   ck (ZJ ((times.tmod 4)+4)) <|
   ck (ZJ (d+((times.tmod 4)+4))) <|
   some ((d+((times.tmod 4)+4)).tmod 4)
  else
   ck (ZJ (d+(times.tmod 4))) <|
   some ((d+(times.tmod 4)).tmod 4)

/-! muntin/muntinref01.Turn -/
def ZbD(d:Int)(e_:Int):Option Int :=
 (Zbs d).bind λx=>
 (Zbs e_).bind λx1=>
 if((!x)||(!x1))||(decide (d=e_))then
  some 0
 else
  (Zca d 1).bind λx2=>
  if decide (x2=e_)then
   some 1
  else
   (Zca d 3).bind λx3=>
   if decide (x3=e_)then
    some (-1)
   else
    some (-2)

/-! muntin/muntinref12.Turns -/
def Zan.s0(l:List Za)(f:List Zs):(List Int)×Int->Option (((List Int)×Int)⊕(List Int)):=λ(out,i)=>
 if decide (i<(f.length:Int))then
  ck ((0:Int)<=i/\i<(f.length:Int)) <|
  (zG l (gi f i.toNat)).bind λx=>
  (ZbD ((gi f i.toNat).Dir) x.Dir).bind λx1=>
  ck (out.length+[x1].length<=1000000000) <|
  ck (ZJ (i+1)) <|
  some (.inl (out++[x1],i+1))
 else
  some (.inr out)

def Zan(l:List Za)(f:List Zs):Option (List Int) :=
 (Zn (Zan.s0 l f) big (([]:List Int),0)).bind λout1=>
 some out1

/-! muntin/muntinref12.Rotation -/
def zT.s0(t:List Int):Int×Int->Option ((Int×Int)⊕Int):=λ(n,i)=>
 if decide (i<(t.length:Int))then
  ck ((0:Int)<=i/\i<(t.length:Int)) <|
  if(decide ((-2)<=(gi t i.toNat)))&&(decide ((gi t i.toNat)<=1))then
   ck (ZJ (n+(gi t i.toNat))) <|
   ck (ZJ (i+1)) <|
   some (.inl (n+(gi t i.toNat),i+1))
  else
   ck (ZJ (i+1)) <|
   some (.inl (n,i+1))
 else
  some (.inr n)

def zT(t:List Int):Option Int :=
 (Zn (zT.s0 t) big (0,0)).bind λn1=>
 some n1

/-! muntin/muntinref14.Outer -/
def Zad.s0(l:List Za)(x2:List (List Zs)):Int×Int->Option ((Int×Int)⊕(Int⊕Unit)):=λ(at_,i)=>
 if decide (i<(x2.length:Int))then
  ck ((0:Int)<=i/\i<(x2.length:Int)) <|
  (Zan l (gi x2 i.toNat)).bind λx3=>
  (zT x3).bind λx4=>
  if((!(decide (x4=4)))&&(!(decide (x4=(-4)))))||((decide (x4=(-4)))&&(decide (0<=at_)))then
   some (.inr (.inr ()))
  else
   if decide (x4=(-4))then
    ck (ZJ (i+1)) <|
    some (.inl (i,i+1))
   else
    ck (ZJ (i+1)) <|
    some (.inl (at_,i+1))
 else
  some (.inr (.inl at_))

def Zad(l:List Za):Option (Int×Int) :=
 (zc l).bind λx=>
 if !(decide (x=0))then
  some ((-1),x)
 else
  (zj l).bind λx1=>
  if !(decide ((x1.length:Int)=1))then
   some ((-1),13)
  else
   if decide ((l.length:Int)=1)then
    some ((-1),0)
   else
    (ZE l).bind λx2=>
    (
     Zn (Zad.s0 l x2) big ((-1),0):Option (Int⊕Unit)).bind λo₁=>match o₁ with
    | .inl at_1=>
     if decide (at_1<0)then
      some ((-1),10)
     else
      some (at_1,0)
    |.inr _=>
     some ((-1),10)

/-! muntin/muntinref16.First -/
def Zae.s0(l:List Za)(d:Int):Int×Int->Option ((Int×Int)⊕(Unit⊕Int)):=λ(v1,n)=>
 if decide (n<=(l.length:Int))then
  ck (ZJ (d+2)) <|
  ck ((0:Int)<=v1/\v1<(l.length:Int)) <|
  ck ((0:Int)<=((d+2).tmod 4)/\((d+2).tmod 4)<4) <|
  if decide ((((gi l v1.toNat).Next).get ((d+2).tmod 4))<0)then
   some (.inr (.inr v1))
  else
   ck (ZJ (n+1)) <|
   some (.inl (((gi l v1.toNat).Next).get ((d+2).tmod 4),n+1))
 else
  some (.inr (.inl ()))

def Zae(l:List Za)(v:Int)(d:Int):Option Int :=
 (
  Zn (Zae.s0 l d) big (v,0):Option (Unit⊕Int)).bind λo₁=>match o₁ with
 |.inl _=>
  some (-1)
 |.inr x=>
  some x

/-! muntin/muntinref16.chains -/
def Z2.s1(firsts:List Int)(x:Int):Int->Option (Int⊕Int):=λk_=>
 (if decide (k_<(firsts.length:Int))then
  ck ((0:Int)<=k_/\k_<(firsts.length:Int)) <|
  some (!(decide (gi firsts k_.toNat=x)))
 else
  some false).bind λt=>
 if t then
  ck (ZJ (k_+1)) <|
  some (.inl (k_+1))
 else
  some (.inr k_)

def Z2.s2(l:List Za)(d:Int):(List Int)×Int->Option (((List Int)×Int)⊕(List Int)):=λ(c,w)=>
 if decide (0<=w)then
  ck (c.length+[w].length<=1000000000) <|
  ck ((0:Int)<=w/\w<(l.length:Int)) <|
  ck ((0:Int)<=d/\d<4) <|
  some (.inl (c++[w],((gi l w.toNat).Next).get d))
 else
  some (.inr c)

def Z2.s0(l:List Za)(d:Int):(List Int)×(List Int)×(List (List Int))×Int->Option (((List Int)×(List Int)×(List (List Int))×Int)⊕(((List Int)×(List (List Int)))⊕Unit)):=λ(at_,firsts,out,v)=>
 if decide (v<(l.length:Int))then
  (Zae l v d).bind λx=>
  if decide (x<0)then
   some (.inr (.inr ()))
  else
   (Zn (Z2.s1 firsts x) big 0).bind λk_1=>
   ck ((0:Int)<=v/\v<(at_.length:Int)) <|
   if decide (k_1=(firsts.length:Int))then
    ck (firsts.length+[x].length<=1000000000) <|
    (Zn (Z2.s2 l d) big (([]:List Int),x)).bind λc1=>
    ck (out.length+1<=1000000000) <|
    ck (ZJ (v+1)) <|
    some (.inl (at_.set v.toNat k_1,firsts++[x],out++[c1],v+1))
   else
    ck (ZJ (v+1)) <|
    some (.inl (at_.set v.toNat k_1,firsts,out,v+1))
 else
  some (.inr (.inl (at_,out)))

def Z2(l:List Za)(d:Int):Option ((List Int)×(List (List Int))×Bool) :=
 ck ((0:Int)<=(l.length:Int)/\(l.length:Int)<=1000000000) <|
 (
  Zn (Z2.s0 l d) big (List.replicate ((l.length:Int):Int).toNat (0:Int),([]:List Int),([]:List (List Int)),0):Option (((List Int)×(List (List Int)))⊕Unit)).bind λo₁=>match o₁ with
 |.inl (at_1,out1)=>
  some (at_1,out1,true)
 |.inr _=>
  some (([]:List Int),([]:List (List Int)),false)

/-! muntin/muntinref16.Of -/
def Zbg(l:List Za):Option (ZN×Bool) :=
 (Z2 l 1).bind λ(x,x1,x2)=>
 (Z2 l 0).bind λ(x3,x4,x5)=>
 if(!x2)||(!x5)then
  some ((⟨([]:List Int),([]:List Int),([]:List (List Int)),([]:List (List Int))⟩:ZN),false)
 else
  some ((⟨x,x3,x1,x4⟩:ZN),true)

/-! muntin/muntinref17.Graph -/
def zu.s0(l:List Za)(d:Int)(of:List Int):(List Zb)×Int->Option (((List Zb)×Int)⊕(List Zb)):=λ(out,v)=>
 if decide (v<(l.length:Int))then
  ck ((0:Int)<=v/\v<(l.length:Int)) <|
  ck ((0:Int)<=d/\d<4) <|
  if decide ((((gi l v.toNat).Next).get d)<0)then
   ck (ZJ (v+1)) <|
   some (.inl (out,v+1))
  else
   ck ((0:Int)<=v/\v<(of.length:Int)) <|
   ck ((0:Int)<=(((gi l v.toNat).Next).get d)/\(((gi l v.toNat).Next).get d)<(of.length:Int)) <|
   if decide (0<=(((gi l v.toNat).Owner).get d))then
    ck (out.length+[{ (⟨gi of v.toNat,gi of (((gi l v.toNat).Next).get d:Int).toNat,(0:Int)⟩:Zb)with Weight:=1 }].length<=1000000000) <|
    ck (ZJ (v+1)) <|
    some (.inl (out++[{ (⟨gi of v.toNat,gi of (((gi l v.toNat).Next).get d:Int).toNat,(0:Int)⟩:Zb)with Weight:=1 }],v+1))
   else
    ck (out.length+[(⟨gi of v.toNat,gi of (((gi l v.toNat).Next).get d:Int).toNat,(0:Int)⟩:Zb)].length<=1000000000) <|
    ck (ZJ (v+1)) <|
    some (.inl (out++[(⟨gi of v.toNat,gi of (((gi l v.toNat).Next).get d:Int).toNat,(0:Int)⟩:Zb)],v+1))
 else
  some (.inr out)

def zu(l:List Za)(d:Int)(of:List Int):Option (List Zb) :=
 (Zn (zu.s0 l d of) big (([]:List Zb),0)).bind λout1=>
 some out1

/-! muntin/muntinref18.From -/
def zl.s1(arcs:List (A2 Int))(u_:Int):(List Bool)×Int->Option (((List Bool)×Int)⊕(List Bool)):=λ(met2,i)=>
 if decide (i<(arcs.length:Int))then
  ck ((0:Int)<=i/\i<(arcs.length:Int)) <|
  (if decide ((gi arcs i.toNat).get 0=u_)then
   some true
  else
   ck ((0:Int)<=((gi arcs i.toNat).get 0)/\((gi arcs i.toNat).get 0)<(met2.length:Int)) <|
   some (gi met2 ((gi arcs i.toNat).get 0:Int).toNat)).bind λt=>
  if t then
   ck ((0:Int)<=((gi arcs i.toNat).get 1)/\((gi arcs i.toNat).get 1)<(met2.length:Int)) <|
   ck (ZJ (i+1)) <|
   some (.inl (met2.set ((gi arcs i.toNat).get 1:Int).toNat true,i+1))
  else
   ck (ZJ (i+1)) <|
   some (.inl (met2,i+1))
 else
  some (.inr met2)

def zl.s0(n:Int)(arcs:List (A2 Int))(u_:Int):(List Bool)×Int->Option (((List Bool)×Int)⊕(List Bool)):=λ(met,round)=>
 if decide (round<=n)then
  (Zn (zl.s1 arcs u_) big (met,0)).bind λmet3=>
  ck (ZJ (round+1)) <|
  some (.inl (met3,round+1))
 else
  some (.inr met)

def zl(n:Int)(arcs:List (A2 Int))(u_:Int):Option (List Bool) :=
 ck ((0:Int)<=n/\n<=1000000000) <|
 (Zn (zl.s0 n arcs u_) big (List.replicate n.toNat false,0)).bind λmet1=>
 some met1

/-! muntin/muntinref18.All -/
def zA.s0(n:Int)(arcs:List (A2 Int)):(List (List Bool))×Int->Option (((List (List Bool))×Int)⊕(List (List Bool))):=λ(l,u_)=>
 if decide (u_<n)then
  (zl n arcs u_).bind λx=>
  ck (l.length+1<=1000000000) <|
  ck (ZJ (u_+1)) <|
  some (.inl (l++[x],u_+1))
 else
  some (.inr l)

def zA(n:Int)(arcs:List (A2 Int)):Option (List (List Bool)) :=
 (Zn (zA.s0 n arcs) big (([]:List (List Bool)),0)).bind λl1=>
 some l1

/-! muntin/muntinref19.spread -/
def zY(z:ZT):Option ZT :=
 (zA z.N z.H).bind λx=>
 (zA z.M z.V).bind λx1=>
 some (⟨z.N,z.M,z.H,z.V,x,x1⟩:ZT)

/-! muntin/muntinref19.Begin -/
def zg.s0(x:List Zb):(List (A2 Int))×Int->Option (((List (A2 Int))×Int)⊕(List (A2 Int))):=λ(z,i)=>
 if decide (i<(x.length:Int))then
  ck ((0:Int)<=i/\i<(x.length:Int)) <|
  ck (z.length+[(⟨(gi x i.toNat).From,(gi x i.toNat).To⟩:A2 Int)].length<=1000000000) <|
  ck (ZJ (i+1)) <|
  some (.inl (z++[(⟨(gi x i.toNat).From,(gi x i.toNat).To⟩:A2 Int)],i+1))
 else
  some (.inr z)

def zg.s1(x1:List Zb):(List (A2 Int))×Int->Option (((List (A2 Int))×Int)⊕(List (A2 Int))):=λ(z2,i1)=>
 if decide (i1<(x1.length:Int))then
  ck ((0:Int)<=i1/\i1<(x1.length:Int)) <|
  ck (z2.length+[(⟨(gi x1 i1.toNat).From,(gi x1 i1.toNat).To⟩:A2 Int)].length<=1000000000) <|
  ck (ZJ (i1+1)) <|
  some (.inl (z2++[(⟨(gi x1 i1.toNat).From,(gi x1 i1.toNat).To⟩:A2 Int)],i1+1))
 else
  some (.inr z2)

def zg(l:List Za)(c:ZN):Option ZT :=
 (zu l 0 c.X).bind λx=>
 (zu l 1 c.Y).bind λx1=>
 (Zn (zg.s0 x) big (([]:List (A2 Int)),0)).bind λz1=>
 (Zn (zg.s1 x1) big (([]:List (A2 Int)),0)).bind λz3=>
 (zY (⟨(c.Vert.length:Int),(c.Horz.length:Int),z1,z3,([]:List (List Bool)),([]:List (List Bool))⟩:ZT)).bind λx2=>
 some x2

/-! muntin/muntinref19.Lines -/
def zk.s0(c:ZN):(List Zj)×Int->Option (((List Zj)×Int)⊕(List Zj)):=λ(l,i)=>
 if decide (i<(c.Vert.length:Int))then
  ck ((0:Int)<=i/\i<(c.Vert.length:Int)) <|
  if decide (1<((gi c.Vert i.toNat).length:Int))then
   ck (l.length+[(⟨true,i⟩:Zj)].length<=1000000000) <|
   ck (ZJ (i+1)) <|
   some (.inl (l++[(⟨true,i⟩:Zj)],i+1))
  else
   ck (ZJ (i+1)) <|
   some (.inl (l,i+1))
 else
  some (.inr l)

def zk.s1(c:ZN):(List Zj)×Int->Option (((List Zj)×Int)⊕(List Zj)):=λ(l2,i1)=>
 if decide (i1<(c.Horz.length:Int))then
  ck ((0:Int)<=i1/\i1<(c.Horz.length:Int)) <|
  if decide (1<((gi c.Horz i1.toNat).length:Int))then
   ck (l2.length+[(⟨false,i1⟩:Zj)].length<=1000000000) <|
   ck (ZJ (i1+1)) <|
   some (.inl (l2++[(⟨false,i1⟩:Zj)],i1+1))
  else
   ck (ZJ (i1+1)) <|
   some (.inl (l2,i1+1))
 else
  some (.inr l2)

def zk(c:ZN):Option (List Zj) :=
 (Zn (zk.s0 c) big (([]:List Zj),0)).bind λl1=>
 (Zn (zk.s1 c) big (l1,0)).bind λl3=>
 some l3

/-! muntin/muntinref16.Meet -/
def zI.s0(c:ZN)(vertical:Bool)(i:Int)(other:Bool)(k_:Int):Int->Option (Int⊕(Unit⊕Unit)):=λv=>
 if decide (v<(c.X.length:Int))then
  ck ((0:Int)<=v/\v<(c.Y.length:Int)) <|
  (
   if vertical then
    ck ((0:Int)<=v/\v<(c.X.length:Int)) <|
    some (decide (gi c.X v.toNat=i))
   else
    some (decide (gi c.Y v.toNat=i))).bind λa=>
  if other then
   ck ((0:Int)<=v/\v<(c.X.length:Int)) <|
   if a&&(decide (gi c.X v.toNat=k_))then
    some (.inr (.inr ()))
   else
    ck (ZJ (v+1)) <|
    some (.inl (v+1))
  else
   if a&&(decide (gi c.Y v.toNat=k_))then
    some (.inr (.inr ()))
   else
    ck (ZJ (v+1)) <|
    some (.inl (v+1))
 else
  some (.inr (.inl ()))

def zI(c:ZN)(vertical:Bool)(i:Int)(other:Bool)(k_:Int):Option Bool :=
 (
  Zn (zI.s0 c vertical i other k_) big 0:Option (Unit⊕Unit)).bind λo₁=>match o₁ with
 |.inl _=>
  some false
 |.inr _=>
  some true

/-! muntin/muntinref16.Span -/
def ZaW(c:ZN)(vertical:Bool)(i:Int):Option (Int×Int) :=
 (
  if vertical then
   some (c.Vert,c.Y)
  else
   some (c.Horz,c.X)).bind λ(l,of)=>
 if(decide (i<0))||(decide ((l.length:Int)<=i))then
  some (0,0)
 else
  ck ((0:Int)<=i/\i<(l.length:Int)) <|
  ck ((0:Int)<=0/\0<((gi l i.toNat).length:Int)) <|
  ck ((0:Int)<=(gi (gi l i.toNat) (0:Int).toNat)/\(gi (gi l i.toNat) (0:Int).toNat)<(of.length:Int)) <|
  ck (ZJ (((gi l i.toNat).length:Int)-1)) <|
  ck ((0:Int)<=(((gi l i.toNat).length:Int)-1)/\(((gi l i.toNat).length:Int)-1)<((gi l i.toNat).length:Int)) <|
  ck ((0:Int)<=(gi (gi l i.toNat) (((gi l i.toNat).length:Int)-1:Int).toNat)/\(gi (gi l i.toNat) (((gi l i.toNat).length:Int)-1:Int).toNat)<(of.length:Int)) <|
  some (gi of (gi (gi l i.toNat) (0:Int).toNat:Int).toNat,gi of (gi (gi l i.toNat) (((gi l i.toNat).length:Int)-1:Int).toNat:Int).toNat)

/-! muntin/muntinref19.Sides -/
def ZaN(c:ZN)(l:Zj):Option (A4 Int) :=
 (ZaW c l.Vertical l.Place).bind λ(x,x1)=>
 if l.Vertical then
  some (⟨l.Place,l.Place,x,x1⟩:A4 Int)
 else
  some (⟨x,x1,l.Place,l.Place⟩:A4 Int)

/-! muntin/muntinref19.look -/
def zU.s0(z:ZT)(a:A4 Int)(b:A4 Int):Int×Bool×Int×Int×Int->Option ((Int×Bool×Int×Int×Int)⊕((Int×Bool×Int×Int)⊕Unit)):=λ(n,horizontal,x,y,i)=>
 if decide (i<4)then
  (
   if decide (1<i)then
    some z.B
   else
    some z.A).bind λm=>
  ck ((0:Int)<=i/\i<4) <|
  ck ((0:Int)<=((⟨a.get 1,b.get 1,a.get 3,b.get 3⟩:A4 Int).get i)/\((⟨a.get 1,b.get 1,a.get 3,b.get 3⟩:A4 Int).get i)<(m.length:Int)) <|
  ck ((0:Int)<=((⟨b.get 0,a.get 0,b.get 2,a.get 2⟩:A4 Int).get i)/\((⟨b.get 0,a.get 0,b.get 2,a.get 2⟩:A4 Int).get i)<((gi m ((⟨a.get 1,b.get 1,a.get 3,b.get 3⟩:A4 Int).get i:Int).toNat).length:Int)) <|
  if gi (gi m ((⟨a.get 1,b.get 1,a.get 3,b.get 3⟩:A4 Int).get i:Int).toNat) ((⟨b.get 0,a.get 0,b.get 2,a.get 2⟩:A4 Int).get i:Int).toNat then
   some (.inr (.inr ()))
  else
   (if !(decide ((⟨a.get 1,b.get 1,a.get 3,b.get 3⟩:A4 Int).get i=(⟨b.get 0,a.get 0,b.get 2,a.get 2⟩:A4 Int).get i))then
    ck ((0:Int)<=((⟨b.get 0,a.get 0,b.get 2,a.get 2⟩:A4 Int).get i)/\((⟨b.get 0,a.get 0,b.get 2,a.get 2⟩:A4 Int).get i)<(m.length:Int)) <|
    ck ((0:Int)<=((⟨a.get 1,b.get 1,a.get 3,b.get 3⟩:A4 Int).get i)/\((⟨a.get 1,b.get 1,a.get 3,b.get 3⟩:A4 Int).get i)<((gi m ((⟨b.get 0,a.get 0,b.get 2,a.get 2⟩:A4 Int).get i:Int).toNat).length:Int)) <|
    some (!(gi (gi m ((⟨b.get 0,a.get 0,b.get 2,a.get 2⟩:A4 Int).get i:Int).toNat) ((⟨a.get 1,b.get 1,a.get 3,b.get 3⟩:A4 Int).get i:Int).toNat))
   else
    some false).bind λt=>
   if t then
    ck (ZJ (n+1)) <|
    ck (ZJ (i+1)) <|
    some (.inl (n+1,decide (i<2),(⟨a.get 1,b.get 1,a.get 3,b.get 3⟩:A4 Int).get i,(⟨b.get 0,a.get 0,b.get 2,a.get 2⟩:A4 Int).get i,i+1))
   else
    ck (ZJ (i+1)) <|
    some (.inl (n,horizontal,x,y,i+1))
 else
  some (.inr (.inl (n,horizontal,x,y)))

def zU(z:ZT)(a:A4 Int)(b:A4 Int):Option (Bool×Int×Bool×Int×Int) :=
 (
  Zn (zU.s0 z a b) big (0,false,0,0,0):Option ((Int×Bool×Int×Int)⊕Unit)).bind λo₁=>match o₁ with
 |.inl (n1,horizontal1,x1,y1)=>
  some (false,n1,horizontal1,x1,y1)
 |.inr _=>
  some (true,0,false,0,0)

/-! muntin/muntinref19.Settle -/
def Zv.s2(x:ZN)(x3:List Zj)(i:Int):Int×Int×(List (A2 Int))×(List (A2 Int))×(List (List Bool))×(List (List Bool))×(List (A2 Zj))×Bool×Int->Option ((Int×Int×(List (A2 Int))×(List (A2 Int))×(List (List Bool))×(List (List Bool))×(List (A2 Zj))×Bool×Int)⊕(Int×Int×(List (A2 Int))×(List (A2 Int))×(List (List Bool))×(List (List Bool))×(List (A2 Zj))×Bool)):=λ(z24,z25,z26,z27,z28,z29,open_2,changed2,k_)=>
 if decide (k_<(x3.length:Int))then
  ck ((0:Int)<=i/\i<(x3.length:Int)) <|
  ck ((0:Int)<=k_/\k_<(x3.length:Int)) <|
  (zI x ((gi x3 i.toNat).Vertical) ((gi x3 i.toNat).Place) ((gi x3 k_.toNat).Vertical) ((gi x3 k_.toNat).Place)).bind λx11=>
  if x11||changed2 then
   ck (ZJ (k_+1)) <|
   some (.inl (z24,z25,z26,z27,z28,z29,open_2,changed2,k_+1))
  else
   (ZaN x (gi x3 i.toNat)).bind λx12=>
   (ZaN x (gi x3 k_.toNat)).bind λx13=>
   (zU (⟨z24,z25,z26,z27,z28,z29⟩:ZT) x12 x13).bind λ(x14,x15,x16,x17,x18)=>
   if x14 then
    ck (ZJ (k_+1)) <|
    some (.inl (z24,z25,z26,z27,z28,z29,open_2,changed2,k_+1))
   else
    ck (open_2.length+[(⟨gi x3 i.toNat,gi x3 k_.toNat⟩:A2 Zj)].length<=1000000000) <|
    if decide (x15=1)then
     if x16 then
      ck (z26.length+[(⟨x17,x18⟩:A2 Int)].length<=1000000000) <|
      (zY (⟨z24,z25,z26++[(⟨x17,x18⟩:A2 Int)],z27,z28,z29⟩:ZT)).bind λx19=>
      ck (ZJ (k_+1)) <|
      some (.inl (x19.N,x19.M,x19.H,x19.V,x19.A,x19.B,open_2++[(⟨gi x3 i.toNat,gi x3 k_.toNat⟩:A2 Zj)],true,k_+1))
     else
      ck (z27.length+[(⟨x17,x18⟩:A2 Int)].length<=1000000000) <|
      (zY (⟨z24,z25,z26,z27++[(⟨x17,x18⟩:A2 Int)],z28,z29⟩:ZT)).bind λx20=>
      ck (ZJ (k_+1)) <|
      some (.inl (x20.N,x20.M,x20.H,x20.V,x20.A,x20.B,open_2++[(⟨gi x3 i.toNat,gi x3 k_.toNat⟩:A2 Zj)],true,k_+1))
    else
     ck (ZJ (k_+1)) <|
     some (.inl (z24,z25,z26,z27,z28,z29,open_2++[(⟨gi x3 i.toNat,gi x3 k_.toNat⟩:A2 Zj)],changed2,k_+1))
 else
  some (.inr (z24,z25,z26,z27,z28,z29,open_2,changed2))

def Zv.s1(x:ZN)(x3:List Zj):Int×Int×(List (A2 Int))×(List (A2 Int))×(List (List Bool))×(List (List Bool))×(List (A2 Zj))×Bool×Int->Option ((Int×Int×(List (A2 Int))×(List (A2 Int))×(List (List Bool))×(List (List Bool))×(List (A2 Zj))×Bool×Int)⊕(Int×Int×(List (A2 Int))×(List (A2 Int))×(List (List Bool))×(List (List Bool))×(List (A2 Zj))×Bool)):=λ(z12,z13,z14,z15,z16,z17,open_,changed,i)=>
 if decide (i<(x3.length:Int))then
  ck (ZJ (i+1)) <|
  (Zn (Zv.s2 x x3 i) big (z12,z13,z14,z15,z16,z17,open_,changed,i+1)).bind λ(z30,z31,z32,z33,z34,z35,open_3,changed3)=>
  some (.inl (z30,z31,z32,z33,z34,z35,open_3,changed3,i+1))
 else
  some (.inr (z12,z13,z14,z15,z16,z17,open_,changed))

def Zv.s0(x:ZN)(x3:List Zj):Int×Int×(List (A2 Int))×(List (A2 Int))×(List (List Bool))×(List (List Bool))×Int->Option ((Int×Int×(List (A2 Int))×(List (A2 Int))×(List (List Bool))×(List (List Bool))×Int)⊕((Int×Int×(List (A2 Int))×(List (A2 Int))×(List (List Bool))×(List (List Bool)))⊕(Int×Int×(List (A2 Int))×(List (A2 Int))×(List (List Bool))×(List (List Bool))×(List (A2 Zj))))):=λ(z,z1,z2,z3,z4,z5,round)=>
 if decide (round<100000)then
  (Zn (Zv.s1 x x3) big (z,z1,z2,z3,z4,z5,([]:List (A2 Zj)),false,0)).bind λ(z18,z19,z20,z21,z22,z23,open_1,changed1)=>
  if !changed1 then
   some (.inr (.inr (z18,z19,z20,z21,z22,z23,open_1)))
  else
   ck (ZJ (round+1)) <|
   some (.inl (z18,z19,z20,z21,z22,z23,round+1))
 else
  some (.inr (.inl (z,z1,z2,z3,z4,z5)))

def Zv(l:List Za):Option (ZT×(List (A2 Zj))) :=
 (Zbg l).bind λ(x,x1)=>
 (zg l x).bind λx2=>
 (zk x).bind λx3=>
 (
  Zn (Zv.s0 x x3) big (x2.N,x2.M,x2.H,x2.V,x2.A,x2.B,0):Option ((Int×Int×(List (A2 Int))×(List (A2 Int))×(List (List Bool))×(List (List Bool)))⊕(Int×Int×(List (A2 Int))×(List (A2 Int))×(List (List Bool))×(List (List Bool))×(List (A2 Zj))))).bind λo₁=>match o₁ with
 |.inl (z6,z7,z8,z9,z10,z11)=>
  some ((⟨z6,z7,z8,z9,z10,z11⟩:ZT),([]:List (A2 Zj)))
 |.inr (x4,x5,x6,x7,x8,x9,x10)=>
  some ((⟨x4,x5,x6,x7,x8,x9⟩:ZT),x10)

/-! slices.Equal[[]muntin/api.Arc,muntin/api.Arc] -/
def zx.s0(s1:List Zb)(s2:List Zb):Int->Option (Int⊕(Unit⊕Unit)):=λx=>
 if decide (x<(s1.length:Int))then
  ck ((0:Int)<=x/\x<(s1.length:Int)) <|
  ck ((0:Int)<=x/\x<(s2.length:Int)) <|
  if !(decide (gi s1 x.toNat=gi s2 x.toNat))then
   some (.inr (.inr ()))
  else
   ck (ZJ (x+1)) <|
   some (.inl (x+1))
 else
  some (.inr (.inl ()))

def zx(s1:List Zb)(s2:List Zb):Option Bool :=
 if !(decide ((s1.length:Int)=(s2.length:Int)))then
  some false
 else
  (
   Zn (zx.s0 s1 s2) big 0:Option (Unit⊕Unit)).bind λo₁=>match o₁ with
  |.inl _=>
   some true
  |.inr _=>
   some false

/-! slices.Grow[[]muntin/api.Arc,muntin/api.Arc] -/
def Zax(n:Int):Option (List Zb) :=
 (
  if decide (n<0)then
   none
  else
   some ()).bind λ_=>
 ck (ZJ (0-(([]:List Zb).length:Int))) <|
 ck (ZJ (n-(0-(([]:List Zb).length:Int)))) <|
 if decide (0<(n-(0-(([]:List Zb).length:Int))))then
  ck ((0:Int)<(n-(0-(([]:List Zb).length:Int)))/\(n-(0-(([]:List Zb).length:Int)))<=1000000000) <|
  ck ((0:Int)<=(([]:List Zb).length:Int)/\(([]:List Zb).length:Int)<=((List.replicate (n-(0-(([]:List Zb).length:Int)):Int).toNat (⟨0,0,0⟩:Zb)).length:Int)) <|
  some ((List.replicate (n-(0-(([]:List Zb).length:Int)):Int).toNat (⟨0,0,0⟩:Zb)).take ((([]:List Zb).length:Int):Int).toNat)
 else
  some ([]:List Zb)

/-! slices.Concat[[]muntin/api.Arc,muntin/api.Arc] -/
def ZG.s0(slices:List (List Zb)):Int×Int->Option ((Int×Int)⊕Int):=λ(size,x)=>
 if decide (x<(slices.length:Int))then
  ck ((0:Int)<=x/\x<(slices.length:Int)) <|
  ck (ZJ (size+((gi slices x.toNat).length:Int))) <|
  if decide ((size+((gi slices x.toNat).length:Int))<0)then
   none
  else
   ck (ZJ (x+1)) <|
   some (.inl (size+((gi slices x.toNat).length:Int),x+1))
 else
  some (.inr size)

def ZG.s1(slices:List (List Zb)):(List Zb)×Int->Option (((List Zb)×Int)⊕(List Zb)):=λ(newslice,x2)=>
 if decide (x2<(slices.length:Int))then
  ck ((0:Int)<=x2/\x2<(slices.length:Int)) <|
  ck (newslice.length+(gi slices x2.toNat).length<=1000000000) <|
  ck (ZJ (x2+1)) <|
  some (.inl (newslice++(gi slices x2.toNat),x2+1))
 else
  some (.inr newslice)

def ZG(slices:List (List Zb)):Option (List Zb) :=
 (Zn (ZG.s0 slices) big (0,0)).bind λsize1=>
 (Zax size1).bind λx1=>
 (Zn (ZG.s1 slices) big (x1,0)).bind λnewslice1=>
 some newslice1

/-! muntin/muntinlaw19.pairs -/
def zJ.s0(l:List Zb):(List (A2 Int))×Int->Option (((List (A2 Int))×Int)⊕(List (A2 Int))):=λ(out,x)=>
 if decide (x<(l.length:Int))then
  ck ((0:Int)<=x/\x<(l.length:Int)) <|
  ck (out.length+[(⟨(gi l x.toNat).From,(gi l x.toNat).To⟩:A2 Int)].length<=1000000000) <|
  ck (ZJ (x+1)) <|
  some (.inl (out++[(⟨(gi l x.toNat).From,(gi l x.toNat).To⟩:A2 Int)],x+1))
 else
  some (.inr out)

def zJ(l:List Zb):Option (List (A2 Int)) :=
 (Zn (zJ.s0 l) big (([]:List (A2 Int)),0)).bind λout1=>
 some out1

/-! slices.EqualFunc[[][]bool,[][]bool,[]bool,[]bool] -/
def zF.s0(s1:List (List Bool))(s2:List (List Bool))(eq:(List Bool)->(List Bool)->Option Bool):Int->Option (Int⊕(Unit⊕Unit)):=λx=>
 if decide (x<(s1.length:Int))then
  ck ((0:Int)<=x/\x<(s1.length:Int)) <|
  ck ((0:Int)<=x/\x<(s2.length:Int)) <|
  (eq (gi s1 x.toNat) (gi s2 x.toNat)).bind λx1=>
  if !x1 then
   some (.inr (.inr ()))
  else
   ck (ZJ (x+1)) <|
   some (.inl (x+1))
 else
  some (.inr (.inl ()))

def zF(s1:List (List Bool))(s2:List (List Bool))(eq:(List Bool)->(List Bool)->Option Bool):Option Bool :=
 if !(decide ((s1.length:Int)=(s2.length:Int)))then
  some false
 else
  (
   Zn (zF.s0 s1 s2 eq) big 0:Option (Unit⊕Unit)).bind λo₁=>match o₁ with
  |.inl _=>
   some true
  |.inr _=>
   some false

/-! slices.Equal[[]bool,bool] -/
def zW.s0(s1:List Bool)(s2:List Bool):Int->Option (Int⊕(Unit⊕Unit)):=λx=>
 if decide (x<(s1.length:Int))then
  ck ((0:Int)<=x/\x<(s1.length:Int)) <|
  ck ((0:Int)<=x/\x<(s2.length:Int)) <|
  if !(decide ((gi s1 x.toNat)=(gi s2 x.toNat)))then
   some (.inr (.inr ()))
  else
   ck (ZJ (x+1)) <|
   some (.inl (x+1))
 else
  some (.inr (.inl ()))

def zW(s1:List Bool)(s2:List Bool):Option Bool :=
 if !(decide ((s1.length:Int)=(s2.length:Int)))then
  some false
 else
  (
   Zn (zW.s0 s1 s2) big 0:Option (Unit⊕Unit)).bind λo₁=>match o₁ with
  |.inl _=>
   some true
  |.inr _=>
   some false

/-! muntin/muntinlaw19.told$1 -/
def Za9(a:List (List Bool))(b:List (List Bool)):Option Bool :=
 (zF a b (λy0 y1=>zW y0 y1)).bind λx=>
 some x

/-! muntin/muntinlaw19.told -/
def ZF.s1(x:ZaP)(x9:List (A2 Zj))(x12:Int):Int->Option (Int⊕(Unit⊕Unit)):=λx13=>
 if decide (x13<2)then
  ck ((0:Int)<=x13/\x13<2) <|
  ck ((0:Int)<=x12/\x12<(x9.length:Int)) <|
  if(!(decide ((((gi x.Open x12.toNat).get x13).Vertical)=(((gi x9 x12.toNat).get x13).Vertical))))||(!(decide (((gi x.Open x12.toNat).get x13).Place=((gi x9 x12.toNat).get x13).Place)))then
   some (.inr (.inr ()))
  else
   ck (ZJ (x13+1)) <|
   some (.inl (x13+1))
 else
  some (.inr (.inl ()))

def ZF.s0(x:ZaP)(x9:List (A2 Zj)):Int->Option (Int⊕(Unit⊕Unit)):=λx12=>
 if decide (x12<(x.Open.length:Int))then
  ck ((0:Int)<=x12/\x12<(x.Open.length:Int)) <|
  (
   Zn (ZF.s1 x x9 x12) big 0:Option (Unit⊕Unit)).bind λo₃=>match o₃ with
  |.inl _=>
   ck (ZJ (x12+1)) <|
   some (.inl (x12+1))
  |.inr _=>
   some (.inr (.inr ()))
 else
  some (.inr (.inl ()))

def ZF.s2(x14:List Zb):Int->Option (Int⊕(Unit⊕Unit)):=λx15=>
 if decide (x15<(x14.length:Int))then
  ck ((0:Int)<=x15/\x15<(x14.length:Int)) <|
  if !(decide ((gi x14 x15.toNat).Weight=0))then
   some (.inr (.inr ()))
  else
   ck (ZJ (x15+1)) <|
   some (.inl (x15+1))
 else
  some (.inr (.inl ()))

def ZF(l:List Za):Option Bool :=
 (ze l).bind λ(x,x1)=>
 (Zad l).bind λ(x2,x3)=>
 if !(decide (x3=0))then
  (if(decide (x1=x3))&&(decide ((x.Open.length:Int)=0))then
   ck (ZJ ((x.Graphs.H.length:Int)+(x.Graphs.V.length:Int))) <|
   some (decide ((x.Graphs.H.length:Int)+(x.Graphs.V.length:Int)=0))
  else
   some false).bind λt=>
  some t
 else
  (Zbg l).bind λ(x4,x5)=>
  (zu l 0 x4.X).bind λx6=>
  (zu l 1 x4.Y).bind λx7=>
  (Zv l).bind λ(x8,x9)=>
  (if(((!(decide (x1=0)))||(!(decide ((x.Open.length:Int)=(x9.length:Int)))))||(decide ((x.Graphs.H.length:Int)<(x6.length:Int))))||(decide ((x.Graphs.V.length:Int)<(x7.length:Int)))then
   some true
  else
   ck ((0:Int)<=(x6.length:Int)/\(x6.length:Int)<=(x.Graphs.H.length:Int)) <|
   (zx (x.Graphs.H.take ((x6.length:Int):Int).toNat) x6).bind λx10=>
   some (!x10)).bind λt1=>
  (if t1 then
   some true
  else
   ck ((0:Int)<=(x7.length:Int)/\(x7.length:Int)<=(x.Graphs.V.length:Int)) <|
   (zx (x.Graphs.V.take ((x7.length:Int):Int).toNat) x7).bind λx11=>
   some (!x11)).bind λt2=>
  if t2 then
   some false
  else
   (
    Zn (ZF.s0 x x9) big 0:Option (Unit⊕Unit)).bind λo₁=>match o₁ with
   | .inl _=>
    ck ((0:Int)<=(x6.length:Int)/\(x6.length:Int)<=(x.Graphs.H.length:Int)) <|
    ck ((0:Int)<=(x7.length:Int)/\(x7.length:Int)<=(x.Graphs.V.length:Int)) <|
    (ZG [x.Graphs.H.drop ((x6.length:Int):Int).toNat,x.Graphs.V.drop ((x7.length:Int):Int).toNat]).bind λx14=>
    (
     Zn (ZF.s2 x14) big 0:Option (Unit⊕Unit)).bind λo₅=>match o₅ with
    | .inl _=>
     (zJ x.Graphs.H).bind λx16=>
     (zA x8.N x16).bind λx17=>
     (Za9 x17 x8.A).bind λx18=>
     if x18 then
      (zJ x.Graphs.V).bind λx19=>
      (zA x8.M x19).bind λx20=>
      (Za9 x20 x8.B).bind λx21=>
      some x21
     else
      some false
    |.inr _=>
     some false
   |.inr _=>
    some false

/-! muntin/muntinref08.turns -/
def Zac.s0(s:ByteArray):Int->Option (Int⊕(Unit⊕Unit)):=λi=>
 if decide (i<(s.size:Int))then
  ck ((0:Int)<=i/\i<(s.size:Int)) <|
  if(!(decide (sAt s i.toNat=76)))&&(!(decide (sAt s i.toNat=82)))then
   some (.inr (.inr ()))
  else
   ck (ZJ (i+1)) <|
   some (.inl (i+1))
 else
  some (.inr (.inl ()))

def Zac(s:ByteArray):Option Bool :=
 (
  Zn (Zac.s0 s) big 0:Option (Unit⊕Unit)).bind λo₁=>match o₁ with
 |.inl _=>
  some true
 |.inr _=>
  some false

/-! muntin/muntinref08.Check -/
def zt.s0(s:zf):Int×Int->Option ((Int×Int)⊕Int):=λ(n,i)=>
 if decide (i<(s.Edges.length:Int))then
  ck ((0:Int)<=i/\i<(s.Edges.length:Int)) <|
  ck (ZJ (n+(((gi s.Edges i.toNat).Bends).size:Int))) <|
  ck (ZJ (i+1)) <|
  some (.inl (n+(((gi s.Edges i.toNat).Bends).size:Int),i+1))
 else
  some (.inr n)

def zt.s1(s:zf):Int->Option (Int⊕(Unit⊕Int)):=λi1=>
 if decide (i1<(s.Edges.length:Int))then
  ck ((0:Int)<=i1/\i1<(s.Edges.length:Int)) <|
  if(((decide (((gi s.Edges i1.toNat).From)<0))||(decide ((s.Boxes.length:Int)<=((gi s.Edges i1.toNat).From))))||(decide (((gi s.Edges i1.toNat).To)<0)))||(decide ((s.Boxes.length:Int)<=((gi s.Edges i1.toNat).To)))then
   some (.inr (.inr 3))
  else
   (Zac ((gi s.Edges i1.toNat).Bends)).bind λx1=>
   if((decide (((gi s.Edges i1.toNat).Dir)<0))||(decide (3<((gi s.Edges i1.toNat).Dir))))||(!x1)then
    some (.inr (.inr 2))
   else
    ck (ZJ (i1+1)) <|
    some (.inl (i1+1))
 else
  some (.inr (.inl ()))

def zt(s:zf):Option Int :=
 (Zn (zt.s0 s) big (0,0)).bind λn1=>
 if((decide (4096<(s.Boxes.length:Int)))||(decide (4096<(s.Edges.length:Int))))||(decide (4096<n1))then
  some 6
 else
  (
   Zn (zt.s1 s) big 0:Option (Unit⊕Int)).bind λo₃=>match o₃ with
  |.inl _=>
   some 0
  |.inr x=>
   some x

/-! muntin/muntinref09.Last -/
def Zaw.s0(e_:Zaf):Int×Int->Option ((Int×Int)⊕Int):=λ(d,i)=>
 if decide (i<(e_.Bends.size:Int))then
  ck ((0:Int)<=i/\i<(e_.Bends.size:Int)) <|
  if decide (sAt e_.Bends i.toNat=76)then
   ck (ZJ (d+1)) <|
   ck (ZJ (i+1)) <|
   some (.inl ((d+1).tmod 4,i+1))
  else
   ck (ZJ (d+3)) <|
   ck (ZJ (i+1)) <|
   some (.inl ((d+3).tmod 4,i+1))
 else
  some (.inr d)

def Zaw(e_:Zaf):Option Int :=
 (Zn (Zaw.s0 e_) big (e_.Dir,0)).bind λd1=>
 some d1

/-! muntin/muntinref11.Side -/
def ZbE(e_:Zaf):Option Int :=
 (Zaw e_).bind λx=>
 ck (ZJ (x+2)) <|
 some ((x+2).tmod 4)

/-! muntin/muntinref11.On -/
def zP.s0(s:zf)(v:Int)(d:Int):(List Int)×Int->Option (((List Int)×Int)⊕(List Int)):=λ(l,i)=>
 if decide (i<(s.Edges.length:Int))then
  ck ((0:Int)<=i/\i<(s.Edges.length:Int)) <|
  (
   if(decide ((gi s.Edges i.toNat).From=v))&&(decide ((gi s.Edges i.toNat).Dir=d))then
    ck (ZJ (2*i)) <|
    ck (l.length+[2*i].length<=1000000000) <|
    some (l++[2*i])
   else
    some l).bind λl2=>
  (ZbE (gi s.Edges i.toNat)).bind λx=>
  if(decide ((gi s.Edges i.toNat).To=v))&&(decide (x=d))then
   ck (ZJ (2*i)) <|
   ck (ZJ ((2*i)+1)) <|
   ck (l2.length+[(2*i)+1].length<=1000000000) <|
   ck (ZJ (i+1)) <|
   some (.inl (l2++[(2*i)+1],i+1))
  else
   ck (ZJ (i+1)) <|
   some (.inl (l2,i+1))
 else
  some (.inr l)

def zP(s:zf)(v:Int)(d:Int):Option (List Int) :=
 (Zn (zP.s0 s v d) big (([]:List Int),0)).bind λl1=>
 some l1

/-! muntin/muntinref11.Count -/
def ZV.s1(s:zf)(v:Int):Int×Int->Option ((Int×Int)⊕Int):=λ(n2,d)=>
 (if decide (d<4)then
  ck ((0:Int)<=v/\v<(s.Boxes.length:Int)) <|
  some (gi s.Boxes v.toNat)
 else
  some false).bind λt=>
 if t then
  (zP s v d).bind λx=>
  ck (ZJ (n2+(x.length:Int))) <|
  ck (ZJ (d+1)) <|
  some (.inl (n2+(x.length:Int),d+1))
 else
  some (.inr n2)

def ZV.s0(s:zf):Int×Int->Option ((Int×Int)⊕Int):=λ(n,v)=>
 if decide (v<(s.Boxes.length:Int))then
  ck (ZJ (n+1)) <|
  (Zn (ZV.s1 s v) big (n+1,0)).bind λn3=>
  ck ((0:Int)<=v/\v<(s.Boxes.length:Int)) <|
  if gi s.Boxes v.toNat then
   ck (ZJ (n3+3)) <|
   ck (ZJ (v+1)) <|
   some (.inl (n3+3,v+1))
  else
   ck (ZJ (v+1)) <|
   some (.inl (n3,v+1))
 else
  some (.inr n)

def ZV.s2(s:zf):Int×Int->Option ((Int×Int)⊕Int):=λ(n4,i)=>
 if decide (i<(s.Edges.length:Int))then
  ck ((0:Int)<=i/\i<(s.Edges.length:Int)) <|
  ck (ZJ (n4+(((gi s.Edges i.toNat).Bends).size:Int))) <|
  ck (ZJ (i+1)) <|
  some (.inl (n4+(((gi s.Edges i.toNat).Bends).size:Int),i+1))
 else
  some (.inr n4)

def ZV(s:zf):Option Int :=
 (Zn (ZV.s0 s) big (0,0)).bind λn1=>
 (Zn (ZV.s2 s) big (n1,0)).bind λn5=>
 some n5

/-! muntin/muntinref11.Wrong -/
def ZL.s1(s:zf)(v:Int):Int->Option (Int⊕(Unit⊕Unit)):=λd=>
 (if decide (d<4)then
  ck ((0:Int)<=v/\v<(s.Boxes.length:Int)) <|
  some (!(gi s.Boxes v.toNat))
 else
  some false).bind λt=>
 if t then
  (zP s v d).bind λx2=>
  if decide (1<(x2.length:Int))then
   some (.inr (.inr ()))
  else
   ck (ZJ (d+1)) <|
   some (.inl (d+1))
 else
  some (.inr (.inl ()))

def ZL.s0(s:zf):Int->Option (Int⊕(Unit⊕Unit)):=λv=>
 if decide (v<(s.Boxes.length:Int))then
  (
   Zn (ZL.s1 s v) big 0:Option (Unit⊕Unit)).bind λo₃=>match o₃ with
  |.inl _=>
   ck (ZJ (v+1)) <|
   some (.inl (v+1))
  |.inr _=>
   some (.inr (.inr ()))
 else
  some (.inr (.inl ()))

def ZL.s2(s:zf):Int->Option (Int⊕(Unit⊕Unit)):=λi=>
 if decide (i<(s.Edges.length:Int))then
  ck ((0:Int)<=i/\i<(s.Edges.length:Int)) <|
  (if(decide ((gi s.Edges i.toNat).From=(gi s.Edges i.toNat).To))&&(((gi s.Edges i.toNat).Bends).toList==(⟨#[]⟩:ByteArray).toList)then
   ck ((0:Int)<=((gi s.Edges i.toNat).From)/\((gi s.Edges i.toNat).From)<(s.Boxes.length:Int)) <|
   some (!(gi s.Boxes ((gi s.Edges i.toNat).From:Int).toNat))
  else
   some false).bind λt1=>
  if t1 then
   some (.inr (.inr ()))
  else
   ck (ZJ (i+1)) <|
   some (.inl (i+1))
 else
  some (.inr (.inl ()))

def ZL(s:zf):Option Int :=
 (zt s).bind λx=>
 if !(decide (x=0))then
  some x
 else
  (ZV s).bind λx1=>
  if decide (4096<x1)then
   some 6
  else
   (
    Zn (ZL.s0 s) big 0:Option (Unit⊕Unit)).bind λo₁=>match o₁ with
   | .inl _=>
    (
     Zn (ZL.s2 s) big 0:Option (Unit⊕Unit)).bind λo₅=>match o₅ with
    |.inl _=>
     some 0
    |.inr _=>
     some 10
   |.inr _=>
    some 8

/-! muntin/muntinref11.box -/
def zK.s1(d:Int)(x1:List Int):(List Za)×(List (A2 Int))×Int×Int->Option (((List Za)×(List (A2 Int))×Int×Int)⊕((List Za)×(List (A2 Int))×Int)):=λ(n5,n6,from_,i)=>
 if decide (i<(x1.length:Int))then
  (ZK 1).bind λx2=>
  ck (n5.length+x2.length<=1000000000) <|
  ck ((0:Int)<=i/\i<(x1.length:Int)) <|
  ck ((2:Int)≠0/\ZJ ((gi x1 i.toNat).tdiv 2)) <|
  ck ((0:Int)<=((gi x1 i.toNat).tdiv 2)/\((gi x1 i.toNat).tdiv 2)<(n6.length:Int)) <|
  ck ((0:Int)<=((gi x1 i.toNat).tmod 2)/\((gi x1 i.toNat).tmod 2)<2) <|
  (Zaa (n5++x2) from_ (gi ([1,0,1,0]:List Int) d.toNat) (n5.length:Int) (-1)).bind λ(x3,x4)=>
  ck (ZJ (i+1)) <|
  some (.inl (x3,n6.set ((gi x1 i.toNat).tdiv 2:Int).toNat ((gi n6 ((gi x1 i.toNat).tdiv 2:Int).toNat).set ((gi x1 i.toNat).tmod 2) (n5.length:Int)),(n5.length:Int),i+1))
 else
  some (.inr (n5,n6,from_))

def zK.s0(n:Zal)(s:zf)(v:Int):(List Za)×(List (A2 Int))×Int->Option (((List Za)×(List (A2 Int))×Int)⊕((List Za)×(List (A2 Int)))):=λ(n1,n2,d)=>
 if decide (d<4)then
  ck (ZJ ((n.Cells.length:Int)+1)) <|
  ck (ZJ ((n.Cells.length:Int)+3)) <|
  ck ((0:Int)<=d/\d<([(n.Cells.length:Int)+1,(n.Cells.length:Int)+3,(n.Cells.length:Int),(n.Cells.length:Int)].length:Int)) <|
  ck (ZJ ((n.Cells.length:Int)+2)) <|
  ck ((0:Int)<=d/\d<([(n.Cells.length:Int)+2,(n.Cells.length:Int)+2,(n.Cells.length:Int)+3,(n.Cells.length:Int)+1].length:Int)) <|
  ck ((0:Int)<=d/\d<(([1,0,1,0]:List Int).length:Int)) <|
  (zP s v d).bind λx1=>
  (Zn (zK.s1 d x1) big (n1,n2,gi [(n.Cells.length:Int)+1,(n.Cells.length:Int)+3,(n.Cells.length:Int),(n.Cells.length:Int)] d.toNat,0)).bind λ(n7,n8,from_1)=>
  (Zaa n7 from_1 (gi ([1,0,1,0]:List Int) d.toNat) (gi [(n.Cells.length:Int)+2,(n.Cells.length:Int)+2,(n.Cells.length:Int)+3,(n.Cells.length:Int)+1] d.toNat) (-1)).bind λ(x5,x6)=>
  ck (ZJ (d+1)) <|
  some (.inl (x5,n8,d+1))
 else
  some (.inr (n1,n2))

def zK(n:Zal)(s:zf)(v:Int):Option Zal :=
 (ZK 4).bind λx=>
 ck (n.Cells.length+x.length<=1000000000) <|
 (Zn (zK.s0 n s v) big (n.Cells++x,n.Ends,0)).bind λ(n3,n4)=>
 some (⟨n3,n.First,n4,n.Ways⟩:Zal)

/-! muntin/muntinref11.Of -/
def ZA.s2(n:List Za)(x2:List Int):(List (A2 Int))×Int->Option (((List (A2 Int))×Int)⊕(List (A2 Int))):=λ(n10,i)=>
 if decide (i<(x2.length:Int))then
  ck ((0:Int)<=i/\i<(x2.length:Int)) <|
  ck ((2:Int)≠0/\ZJ ((gi x2 i.toNat).tdiv 2)) <|
  ck ((0:Int)<=((gi x2 i.toNat).tdiv 2)/\((gi x2 i.toNat).tdiv 2)<(n10.length:Int)) <|
  ck ((0:Int)<=((gi x2 i.toNat).tmod 2)/\((gi x2 i.toNat).tmod 2)<2) <|
  ck (ZJ (i+1)) <|
  some (.inl (n10.set ((gi x2 i.toNat).tdiv 2:Int).toNat ((gi n10 ((gi x2 i.toNat).tdiv 2:Int).toNat).set ((gi x2 i.toNat).tmod 2) (n.length:Int)),i+1))
 else
  some (.inr n10)

def ZA.s1(s:zf)(n:List Za)(v:Int):(List (A2 Int))×Int->Option (((List (A2 Int))×Int)⊕(List (A2 Int))):=λ(n8,d)=>
 if decide (d<4)then
  (zP s v d).bind λx2=>
  (Zn (ZA.s2 n x2) big (n8,0)).bind λn11=>
  ck (ZJ (d+1)) <|
  some (.inl (n11,d+1))
 else
  some (.inr n8)

def ZA.s0(s:zf):(List Za)×(List Int)×(List (A2 Int))×(List (List Int))×Int->Option (((List Za)×(List Int)×(List (A2 Int))×(List (List Int))×Int)⊕((List Za)×(List Int)×(List (A2 Int))×(List (List Int)))):=λ(n,n1,n2,n3,v)=>
 if decide (v<(s.Boxes.length:Int))then
  ck (n1.length+[(n.length:Int)].length<=1000000000) <|
  ck ((0:Int)<=v/\v<(s.Boxes.length:Int)) <|
  if gi s.Boxes v.toNat then
   (zK (⟨n,n1++[(n.length:Int)],n2,n3⟩:Zal) s v).bind λx=>
   ck (ZJ (v+1)) <|
   some (.inl (x.Cells,x.First,x.Ends,x.Ways,v+1))
  else
   (ZK 1).bind λx1=>
   ck (n.length+x1.length<=1000000000) <|
   (Zn (ZA.s1 s n v) big (n2,0)).bind λn9=>
   ck (ZJ (v+1)) <|
   some (.inl (n++x1,n1++[(n.length:Int)],n9,n3,v+1))
 else
  some (.inr (n,n1,n2,n3))

def ZA.s4(s:zf)(i1:Int):(List Za)×Int×Int×(List Int)×Int->Option (((List Za)×Int×Int×(List Int)×Int)⊕((List Za)×Int×Int×(List Int))):=λ(n16,at_,d1,way,k_)=>
 if decide (k_<(((gi s.Edges i1.toNat).Bends).size:Int))then
  (ZK 1).bind λx3=>
  ck (n16.length+x3.length<=1000000000) <|
  (Zaa (n16++x3) at_ d1 (n16.length:Int) i1).bind λ(x4,x5)=>
  ck (way.length+[(n16.length:Int)].length<=1000000000) <|
  ck ((0:Int)<=k_/\k_<(((gi s.Edges i1.toNat).Bends).size:Int)) <|
  if decide (sAt ((gi s.Edges i1.toNat).Bends) k_.toNat=76)then
   ck (ZJ (d1+1)) <|
   ck (ZJ (k_+1)) <|
   some (.inl (x4,(n16.length:Int),(d1+1).tmod 4,way++[(n16.length:Int)],k_+1))
  else
   ck (ZJ (d1+3)) <|
   ck (ZJ (k_+1)) <|
   some (.inl (x4,(n16.length:Int),(d1+3).tmod 4,way++[(n16.length:Int)],k_+1))
 else
  some (.inr (n16,at_,d1,way))

def ZA.s3(s:zf)(n6:List (A2 Int)):(List Za)×(List (List Int))×Int->Option (((List Za)×(List (List Int))×Int)⊕((List Za)×(List (List Int)))):=λ(n12,n13,i1)=>
 if decide (i1<(s.Edges.length:Int))then
  ck ((0:Int)<=i1/\i1<(n6.length:Int)) <|
  ck ((0:Int)<=i1/\i1<(s.Edges.length:Int)) <|
  (Zn (ZA.s4 s i1) big (n12,(gi n6 i1.toNat).get 0,(gi s.Edges i1.toNat).Dir,[(gi n6 i1.toNat).get 0],0)).bind λ(n17,at_1,d2,way1)=>
  (Zaa n17 at_1 d2 ((gi n6 i1.toNat).get 1) i1).bind λ(x6,x7)=>
  ck (way1.length+[(gi n6 i1.toNat).get 1].length<=1000000000) <|
  ck (n13.length+1<=1000000000) <|
  ck (ZJ (i1+1)) <|
  some (.inl (x6,n13++[way1++[(gi n6 i1.toNat).get 1]],i1+1))
 else
  some (.inr (n12,n13))

def ZA(s:zf):Option Zal :=
 ck ((0:Int)<=(s.Edges.length:Int)/\(s.Edges.length:Int)<=1000000000) <|
 (Zn (ZA.s0 s) big (([]:List Za),([]:List Int),List.replicate ((s.Edges.length:Int):Int).toNat (⟨0,0⟩:A2 Int),([]:List (List Int)),0)).bind λ(n4,n5,n6,n7)=>
 (Zn (ZA.s3 s n6) big (n4,n7,0)).bind λ(n14,n15)=>
 some (⟨n14,n5,n6,n15⟩:Zal)

/-! muntin/muntinlaw19.SepSettles -/
def Zbn(z:zq)(y:Zau)(raw:List Za):Option Bool :=
 (Z5 z 12).bind λ(x,x1)=>
 (ZY y 4).bind λx2=>
 (ZbP ).bind λx3=>
 (if !x3 then
  some true
 else
  (ZF x).bind λx4=>
  some (!x4)).bind λt=>
 (if t then
  some true
 else
  ck ((0:Int)<=(min (raw.length:Int) 4)/\(min (raw.length:Int) 4)<=(raw.length:Int)) <|
  (ZF (raw.take (min (raw.length:Int) 4:Int).toNat)).bind λx5=>
  some (!x5)).bind λt1=>
 if t1 then
  some false
 else
  (ZL x2).bind λx6=>
  if !(decide (x6=0))then
   some true
  else
   (ZA x2).bind λx7=>
   (if decide (24<(x7.Cells.length:Int))then
    some true
   else
    (ZF x7.Cells).bind λx8=>
    some x8).bind λt2=>
   some t2

end Mu
