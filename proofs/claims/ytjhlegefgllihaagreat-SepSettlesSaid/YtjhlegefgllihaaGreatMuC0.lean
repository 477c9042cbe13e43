/- The code comes to what was worked out. -/
import Derived.Test.YtjhlegefgllihaaGreatMuDf
import Derived.Test.YtjhlegefgllihaaGreatMuPa
import Derived.Test.YtjhlegefgllihaaGreatMuTb
set_option linter.unusedVariables false
set_option linter.unnecessarySimpa false
set_option linter.unusedSimpArgs false
set_option maxHeartbeats 2000000
set_option maxRecDepth 10000
namespace Mu
open Go (IntKind BinOp UnOp)
theorem ZbN{x:A2 Zz}{i:Int}(h:0<=i/\i<2):(Zt.c x)[0+i.toNat*2]?=some (.b (((x).get i).Vertical)):=by
 rcases(show i=0\/i=1 by omega)with rfl|rfl<;>rfl
theorem Zbh{x:A2 Zj}{i:Int}(h:0<=i/\i<2):(Z9.c x)[0+i.toNat*2]?=some (.b (((x).get i).Vertical)):=by
 rcases(show i=0\/i=1 by omega)with rfl|rfl<;>rfl
theorem Zcg{x:A2 Zz}{i:Int}(h:0<=i/\i<2):(Zt.c x)[0+i.toNat*2+1]?=some (.n (((x).get i).Place)):=by
 rcases(show i=0\/i=1 by omega)with rfl|rfl<;>rfl
theorem Zbw{x:A2 Zj}{i:Int}(h:0<=i/\i<2):(Z9.c x)[0+i.toNat*2+1]?=some (.n (((x).get i).Place)):=by
 rcases(show i=0\/i=1 by omega)with rfl|rfl<;>rfl
theorem Zcz{x:Za}{i:Int}(h:0<=i/\i<4):(Zh.c x)[0+i.toNat*1]?=some (.n ((x.Next).get i)):=by
 rcases(show i=0\/i=1\/i=2\/i=3 by omega)with rfl|rfl|rfl|rfl<;>rfl
theorem Zei{x:Za}{i:Int}{w:Int}(h:0<=i/\i<4):over (Zh.c x) (0+i.toNat*1) [.n w]=Zh.c ({ x with Next:=(x.Next).set i w }):=by
 rcases(show i=0\/i=1\/i=2\/i=3 by omega)with rfl|rfl|rfl|rfl<;>rfl
theorem ZdN{x:Za}{i:Int}(h:0<=i/\i<4):(Zh.c x)[4+i.toNat*1]?=some (.n ((x.Owner).get i)):=by
 rcases(show i=0\/i=1\/i=2\/i=3 by omega)with rfl|rfl|rfl|rfl<;>rfl
theorem ZdP{x:Za}{i:Int}{w:Int}(h:0<=i/\i<4):over (Zh.c x) (4+i.toNat*1) [.n w]=Zh.c ({ x with Owner:=(x.Owner).set i w }):=by
 rcases(show i=0\/i=1\/i=2\/i=3 by omega)with rfl|rfl|rfl|rfl<;>rfl
theorem Zfw{x:A4 Int}{i:Int}(h:0<=i/\i<4):(ZbI.c x)[0+i.toNat*1]?=some (.n ((x).get i)):=by
 rcases(show i=0\/i=1\/i=2\/i=3 by omega)with rfl|rfl|rfl|rfl<;>rfl
theorem Zip{x:A4 Int}{i:Int}(h:0<=i/\i<4):ZbG false (ZbI.c x) (i.toNat*1) 1=some (.n ((x).get i)):=by
 rcases(show i=0\/i=1\/i=2\/i=3 by omega)with rfl|rfl|rfl|rfl<;>rfl
theorem Zi2{x:A4 Int}{i:Int}{w:Int}(h:0<=i/\i<4):over (ZbI.c x) (0+i.toNat*1) [.n w]=ZbI.c ((x).set i w):=by
 rcases(show i=0\/i=1\/i=2\/i=3 by omega)with rfl|rfl|rfl|rfl<;>rfl
theorem Zfv{x:A2 Int}{i:Int}(h:0<=i/\i<2):(Zl.c x)[0+i.toNat*1]?=some (.n ((x).get i)):=by
 rcases(show i=0\/i=1 by omega)with rfl|rfl<;>rfl
theorem Zio{x:A2 Int}{i:Int}(h:0<=i/\i<2):ZbG false (Zl.c x) (i.toNat*1) 1=some (.n ((x).get i)):=by
 rcases(show i=0\/i=1 by omega)with rfl|rfl<;>rfl
theorem Zg7{x:A2 Int}{i:Int}{w:Int}(h:0<=i/\i<2):over (Zl.c x) (0+i.toNat*1) [.n w]=Zl.c ((x).set i w):=by
 rcases(show i=0\/i=1 by omega)with rfl|rfl<;>rfl
theorem Zky(cs:List Go.Value)(h:OkL [some .u8] cs):∃x:Int,Zgv.c x=cs.map toV/\Zf3 x:=by
 obtain⟨n0,cs0,rfl,w0,h0⟩:=h.inv_i;obtain rfl:=h0.inv_n;exact⟨n0,rfl,w0⟩
theorem Zq1(cs:List Go.Value)(h:OkL [some .i8] cs):∃x:Int,Zkz.c x=cs.map toV/\ZkV x:=by
 obtain⟨n0,cs0,rfl,w0,h0⟩:=h.inv_i;obtain rfl:=h0.inv_n;exact⟨n0,rfl,w0⟩
theorem ZmM(cs:List Go.Value)(h:OkL [none] cs):∃x:Bool,e_bool.c x=cs.map toV/\Zi5 x:=by
 obtain⟨n0,cs0,rfl,h0⟩:=h.inv_b;obtain rfl:=h0.inv_n;exact⟨n0,rfl,trivial⟩
theorem ZlM(cs:List Go.Value)(h:OkL [some .u8,some .u8,some .u8] cs):∃x:A3 Int,ZeJ.c x=cs.map toV/\ZfK x:=by
 obtain⟨n0,cs0,rfl,w0,h0⟩:=h.inv_i;obtain⟨n1,cs1,rfl,w1,h1⟩:=h0.inv_i;obtain⟨n2,cs2,rfl,w2,h2⟩:=h1.inv_i;obtain rfl:=h2.inv_n;exact⟨⟨n0,n1,n2⟩,rfl,⟨w0,w1,w2⟩⟩
theorem Zhs(cs:List Go.Value)(h:OkL [some .i64,some .i64,some .i64,some .i64,some .i64,some .i64,some .i64,some .i64] cs):∃x:Za,Zh.c x=cs.map toV/\Zeu x:=by
 obtain⟨n0,cs0,rfl,w0,h0⟩:=h.inv_i;obtain⟨n1,cs1,rfl,w1,h1⟩:=h0.inv_i;obtain⟨n2,cs2,rfl,w2,h2⟩:=h1.inv_i;obtain⟨n3,cs3,rfl,w3,h3⟩:=h2.inv_i;obtain⟨n4,cs4,rfl,w4,h4⟩:=h3.inv_i;obtain⟨n5,cs5,rfl,w5,h5⟩:=h4.inv_i;obtain⟨n6,cs6,rfl,w6,h6⟩:=h5.inv_i;obtain⟨n7,cs7,rfl,w7,h7⟩:=h6.inv_i;obtain rfl:=h7.inv_n;exact⟨⟨⟨n0,n1,n2,n3⟩,⟨n4,n5,n6,n7⟩⟩,rfl,⟨w0,w1,w2,w3,w4,w5,w6,w7⟩⟩
instance{x:Int}:Mk Zm [.n x] x:=⟨rfl⟩
instance{v:V}:Mk eV [v] v:=⟨rfl⟩
instance{x0:Int}:Mk Zgv [.i .u8 x0] (x0:Int):=⟨rfl⟩
instance{x0:Int}:Mk Zkz [.i .i8 x0] (x0:Int):=⟨rfl⟩
instance{x0:Bool}:Mk e_bool [.b x0] (x0:Bool):=⟨rfl⟩
instance{x0:Int}{x1:Int}{x2:Int}:Mk ZeJ [.i .u8 x0,.i .u8 x1,.i .u8 x2] (⟨x0,x1,x2⟩:A3 Int):=⟨rfl⟩
instance{x0:Int}{x1:Int}{x2:Int}{x3:Int}{x4:Int}{x5:Int}{x6:Int}{x7:Int}:Mk Zh [.n x0,.n x1,.n x2,.n x3,.n x4,.n x5,.n x6,.n x7] (⟨⟨x0,x1,x2,x3⟩,⟨x4,x5,x6,x7⟩⟩:Za):=⟨rfl⟩
instance{x0:Int}{x1:Int}:Mk ZU [.n x0,.n x1] (⟨x0,x1⟩:Zk):=⟨rfl⟩
instance{x0:Int}{x1:Int}{x2:Int}{x3:ByteArray}:Mk zo [.n x0,.n x1,.n x2,.s x3] (⟨x0,x1,x2,x3⟩:Zaf):=⟨rfl⟩
instance{x0:Int}{x1:Int}{x2:Int}:Mk ZfW [.n x0,.n x1,.n x2] (⟨x0,x1,x2⟩:A3 Int):=⟨rfl⟩
instance{x0:Int}{x1:Int}:Mk Zy [.n x0,.n x1] (⟨x0,x1⟩:Z1):=⟨rfl⟩
instance{x0:Int}{x1:Int}{x2:Int}{x3:Int}:Mk ZbI [.n x0,.n x1,.n x2,.n x3] (⟨x0,x1,x2,x3⟩:A4 Int):=⟨rfl⟩
instance{x0:Bool}{x1:Int}{x2:Bool}{x3:Int}:Mk Zt [.b x0,.n x1,.b x2,.n x3] (⟨⟨x0,x1⟩,⟨x2,x3⟩⟩:A2 Zz):=⟨rfl⟩
instance{x0:Int}{x1:Int}{x2:Int}:Mk Zc [.n x0,.n x1,.n x2] (⟨x0,x1,x2⟩:Zb):=⟨rfl⟩
instance{x0:Bool}{x1:Int}:Mk Z0 [.b x0,.n x1] (⟨x0,x1⟩:Zz):=⟨rfl⟩
instance{x0:Int}{x1:Int}{x2:Int}{x3:Int}:Mk ZD [.n x0,.n x1,.n x2,.n x3] (⟨x0,x1,x2,x3⟩:zM):=⟨rfl⟩
instance{x0:Int}:Mk zz [.i .u64 x0] (x0:Int):=⟨rfl⟩
instance{x0:Int}{x1:Int}:Mk Zl [.n x0,.n x1] (⟨x0,x1⟩:A2 Int):=⟨rfl⟩
instance{x0:Bool}{x1:Int}{x2:Int}{x3:Bool}{x4:Int}{x5:Int}{x6:Bool}{x7:Int}{x8:Int}{x9:Bool}{x10:Int}{x11:Int}:Mk Zb0 [.b x0,.n x1,.n x2,.b x3,.n x4,.n x5,.b x6,.n x7,.n x8,.b x9,.n x10,.n x11] (⟨⟨x0,x1,x2⟩,⟨x3,x4,x5⟩,⟨x6,x7,x8⟩,⟨x9,x10,x11⟩⟩:A4 Zi):=⟨rfl⟩
instance{x0:Bool}{x1:Int}{x2:Int}:Mk ZR [.b x0,.n x1,.n x2] (⟨x0,x1,x2⟩:Zi):=⟨rfl⟩
instance{x0:Int}{x1:Int}:Mk Z6 [.n x0,.n x1] (⟨x0,x1⟩:Zs):=⟨rfl⟩
instance{x0:Bool}{x1:Int}:Mk zi [.b x0,.n x1] (⟨x0,x1⟩:Zj):=⟨rfl⟩
instance{x0:Bool}{x1:Int}{x2:Bool}{x3:Int}:Mk Z9 [.b x0,.n x1,.b x2,.n x3] (⟨⟨x0,x1⟩,⟨x2,x3⟩⟩:A2 Zj):=⟨rfl⟩
section
attribute [local irreducible] W WO WD WF Ex.then Ex.blk act V.cut V.elt ck Option.bind Zn Fq Gq X Via Out At Keep Rd V.cells gi
theorem ZK.ok{h:Hp}{n:Int}   {r:(List Za)}(hp:ZK n=some r) :
  ∃u k',Is G 46 [.n n] h u k'/\∃b,b=u/\Own (λr=>r<h.n) h k' [eSl Zh b r]:=have e0:=hv Zh;have l0:=λa=>@Zbd _ _ (ZK.s0 a) (λf=>[]) (λf w=>[.v (f 3)]) (λO R f w x fr k=>match x with|(l,v)=>At fr [(4,V.n v)]/\O k (eSl Zh (f 3) l::R)) (λO R f w l1 e fr k=>e=(.exit 0)/\At fr []/\O k (eSl Zh (f 3) l1::R));have l1:=λa=>@Zbd _ _ (ZK.s1 a) (λf=>[]) (λf w=>[.v (f 3)]) (λO R f w x fr k=>match x with|(l2,d)=>At fr [(5,V.n d)]/\O k (eSl Zh (f 3) l2::R)) (λO R f w l3 e fr k=>e=(.exit 2)/\At fr []/\O k (eSl Zh (f 3) l3::R));au

theorem ZI.ok{h:Hp}{at_:List Zk}{i:Int}{d:Int}{v_at_:V}(s_at_:Sl ZU h v_at_ at_){r:Int}(hp:ZI at_ i d=some r) :
  ∃u k',Is G 63 [v_at_,.n i,.n d] h u k'/\V.n r=u/\Own (λr=>r<h.n) h k' []:=have l0:=λa b c=>@Zbd _ _ (ZI.s0 a b c) (λf=>[]) (λf w=>[]) (λO R f w x fr k=>match x with|(best,k_)=>At fr [(7,V.n best),(8,V.n k_)]/\O k (R)) (λO R f w best1 e fr k=>e=(.exit 0)/\At fr [(7,V.n best1)]/\O k (R));have l1:=@ZiA Int (λf=>[]) (λf w=>[]) (λO R f w best2 e fr k=>e=.normal/\At fr [(7,V.n best2)]/\O k (R));au

theorem ZH.ok{h:Hp}{at_:List Zk}{l:List Za}{i:Int}{w:Int}{v_at_:V}{v_l:V}(s_at_:Sl ZU h v_at_ at_)(s_l:Sl Zh h v_l l){r:Bool}(hp:ZH at_ l i w=some r) :
  ∃u k',Is G 64 [v_at_,v_l,.n i,.n w] h u k'/\V.b r=u/\Own (λr=>r<h.n) h k' []:=have l0:=λa b c d=>@Zbd _ _ (ZH.s0 a b c d) (λf=>[]) (λf w=>[]) (λO R f w a fr k=>At fr [(9,V.n a)]/\O k (R)) (λO R f w x e fr k=>match x with|.inl _=>e=(.exit 0)/\At fr []/\O k (R)|.inr _=>e=.ret/\At fr [(8,V.b true)]/\O k (R));have l1:=λa b c d e=>@Zbd _ _ (ZH.s1 a b c d e) (λf=>[]) (λf w=>[]) (λO R f w d fr k=>At fr [(10,V.n d)]/\O k (R)) (λO R f w x e fr k=>match x with|.inl _=>e=(.exit 2)/\At fr []/\O k (R)|.inr _=>e=.ret/\At fr [(8,V.b true)]/\O k (R));au

theorem Zab.ok{h:Hp}{l:List Za}{v:Int}{d:Int}{w:Int}{o:Int}{v_l:V}(s_l:Sl Zh h v_l l){r:(List Za)}(hp:Zab l v d w o=some r) :
  ∃u k',Is G 65 [v_l,.n v,.n d,.n w,.n o] h u k'/\∃g,g=u/\Own (λr=>r<h.n) h k' [eSl Zh g r]:=have e0:=hv Zh;have l0:=λa b c d e=>@Zbd _ _ (Zab.s0 a b c d e) (λf=>[]) (λf w=>[]) (λO R f w x fr k=>match x with|(out,i)=>∃j,At fr [(11,j),(12,V.n i)]/\O k (eSl Zh j out::R)) (λO R f w out1 e fr k=>e=(.exit 0)/\∃m,At fr [(11,m)]/\O k (eSl Zh m out1::R));have l1:=@ZiA Za (λf=>[]) (λf w=>[.r (rf (f 13))]) (λO R f w c e fr k=>e=.normal/\At fr []/\O k (Z3 (rf (f 13)) (Zh.c c)::R));au

end
theorem Z5.ok{h:Hp}{z:zq}{most:Int}{v_z_At:V}{v_z_Bits:V}{v_z_Own:V}(s_z_At:Sl Zgv h v_z_At z.At)(s_z_Bits:Sl Zgv h v_z_Bits z.Bits)(s_z_Own:Sl Zkz h v_z_Own z.Own){r:(List Za)×(List Zk)}(hp:Z5 z most=some r) :
  ∃u k',Is G 28 [.ag [v_z_At,v_z_Bits,v_z_Own],.n most] h u k'/\∃aY a0,V.tu [aY,a0]=u/\Own (λr=>r<h.n) h k' [eSl Zh aY r.1,eSl ZU a0 r.2]:=by
 refine WC.is (Zpy ZeZ ?_);unfold Z5 at hp;let B:Nat->Prop:=(λr=>r<h.n);have hO:Own B h h []:=Own.start0 h;refine Z4 (zE (hO.boxd (cs:=[v_z_At,v_z_Bits,v_z_Own]) hO.fr rfl rfl) ?_);rintro _ _ ⟨a,rfl,_,_,bH⟩;refine Zg (.sn) rfl (Zg (.sn) rfl (Zp (Z4 (Zg (.sn) rfl (Zp (zw (Z4 (Zg (.n 0) rfl (Z8 ?_)))))))));refine ZC (ZaB ?_);have bO:=bH.nil ZU;refine Zcw hp (fun|(at_,i),fr,k=>∃A,fr 1=.n most/\fr 2=.p a 0/\fr 6=A/\fr 7=.n i/\Own B h k [Z3 a [v_z_At,v_z_Bits,v_z_Own],eSl ZU A at_]) (λat_1 e fr k=>e=(.exit 0)/\∃g,fr 2=.p a 0/\fr 6=g/\Own B h k [Z3 a [v_z_At,v_z_Bits,v_z_Own],eSl ZU g at_1]) ⟨V.sn,rfl,rfl,rfl,rfl,(bO.pk [0,1])⟩ ?_ ?_
 .rintro⟨at_,i⟩ _ au ⟨A,ay,az,aA,aB,s⟩ _ hp;dsimp only[Z5.s0]at hp;refine zw (Z4 (Zg _ aB (Ze (zm (r:=a) (o:=0) az rfl) (Ze (ZQ (s.box 0 rfl) rfl rfl) (Ze (Za4 (s.rd0 s_z_At.rd) rfl) (Ze (ZaH rfl rfl) (Zg (.b (decide (i<(z.At.length:Int)))) rfl (Zcn 5 (λf k=>au=k/\f 28=.b ((decide (i<(z.At.length:Int)))&&(decide ((at_.length:Int)<most)))/\f 1=.n most/\f 2=.p a 0/\f 6=A/\f 7=.n i) ?_ ?_))))))))
  .rcases bc (decide (i<(z.At.length:Int)))with y|y
   .refine zD rfl y (Zg _ aA (zD rfl y (Ze (Za4 (s.sl 1 rfl) rfl) (zD rfl y (Zg _ ay (zD rfl y (Ze (ZaH rfl rfl) (Ze (Zid rfl y rfl) (Z8 ?_)))))))));exact⟨rfl,rfl,ay,az,aA,aB⟩
   .refine ZX rfl y (ZX rfl y (ZX rfl y (ZX rfl y (Ze (Zic (w:=(decide (i<(z.At.length:Int)))&&(decide ((at_.length:Int)<most))) rfl y rfl) (Z8 ?_)))));exact⟨rfl,rfl,ay,az,aA,aB⟩
  rintro _ _ ⟨rfl,bx,bw,T,aN,al⟩;refine Zp (ZaC hp bx (λa6 hp=>?_) (λa6 hp=>?_))
  .refine Zb8 (zw (ZaB (zw (ZdQ ?_))));have I:=s.bump 18;have bv:=Fresh.start au 18;have b1:∀{i:Nat},h.n<=au.n+i:=Nat.le_trans s.n (Nat.le_add_right _ _);refine Z7 (zm (r:=a) (o:=0) T rfl) (Z7 (ZQ (I.box 0 rfl) rfl rfl) (Za6 _ al (ckk hp λK hp=>Z7 (Zaq (I.rd0 s_z_At.rd) rfl rfl K) (Z7 (Zbx (I.rd0 s_z_At.rd) rfl (Zu K) rfl) (ckk hp λaK hp=>Z7 (Zfa rfl aK) (Z7 (Zf5 rfl rfl (by decide)) (Z7 (zm (r:=a) (o:=0) T rfl) (Z7 (ZQ (I.box 0 rfl) rfl rfl) (Za6 _ al (Z7 (Zaq (I.rd0 s_z_At.rd) rfl rfl K) (Z7 (Zbx (I.rd0 s_z_At.rd) rfl (Zu K) rfl) ?_)))))))))));refine Z7 (Zfa rfl aK) (ckk hp λbl hp=>Z7 (Zld rfl rfl bl) (Z7 (Zf5 rfl rfl (by decide)) (Z7 (Zbv (cs:=ZU.c (⟨(gi z.At i.toNat).tmod 8,((gi z.At i.toNat).tdiv 8).tmod 8⟩:Zk)) (by rw[(ZZ (v:=.n ((gi z.At i.toNat).tmod 8)) rfl (ZZ (v:=.n (((gi z.At i.toNat).tdiv 8).tmod 8)) rfl Zas))];rfl)) (ZcA (I.alloc (cs:=ZU.c (⟨0,0⟩:Zk)) ⟨bv.m 16 (by decide) (by decide),b1⟩) ?_))));rintro _ _ _ ⟨R,rfl,_,_,bP⟩;refine ZcA (bP.stb (cs':=ZU.c (⟨(gi z.At i.toNat).tmod 8,((gi z.At i.toNat).tdiv 8).tmod 8⟩:Zk)) 2 rfl rfl rfl rfl ⟨rfl,Nat.le_of_ble_eq_true rfl,rfl⟩ rfl) ?_;rintro _ _ _ ⟨rfl,_,_,bQ⟩;refine Zbz ?_;refine And.intro ?_ ?_
   .intro q hq;simp only[List.mem_cons,List.not_mem_nil,or_false]at hq;rcases hq with rfl|rfl|rfl|rfl|rfl|rfl|rfl|rfl
    .refine ZP ?_ ?_
     .exact nofun
     .exact nofun
    .refine ZP ?_ ?_
     .exact nofun
     .exact nofun
    .refine ZP ?_ ?_
     .exact nofun
     .exact nofun
    .refine ZP ?_ ?_
     .exact nofun
     .exact nofun
    .refine ZP ?_ ?_
     .exact nofun
     .exact(λ_ hm=>Nat.lt_irrefl _ (Nat.lt_of_lt_of_le (s.ltAt 0 rfl _ (tch (Zbc hm) rfl)) (Nat.le_add_right _ _)))
    .refine ZP ?_ ?_
     .exact nofun
     .exact(λ_ hm=>Nat.lt_irrefl _ (Nat.lt_of_lt_of_le (Nat.lt_of_lt_of_le (s.lo _ (Rd.B s_z_At.rd s.lo (Zu K) _ (ZbS (tch (Zbc hm) rfl)))) s.n) (Nat.le_add_right _ _)))
    .refine ZP ?_ ?_
     .exact nofun
     .exact(λ_ hm=>Nat.lt_irrefl _ (Nat.lt_of_lt_of_le (s.ltAt 0 rfl _ (tch (Zbc hm) rfl)) (Nat.le_add_right _ _)))
    .refine ZP ?_ ?_
     .exact nofun
     .exact(λ_ hm=>Nat.lt_irrefl _ (Nat.lt_of_lt_of_le (Nat.lt_of_lt_of_le (s.lo _ (Rd.B s_z_At.rd s.lo (Zu K) _ (ZbS (tch (Zbc hm) rfl)))) s.n) (Nat.le_add_right _ _)))
   refine ZC (Z4 (Zg (.b false) rfl (Zp (zw (Z4 (Zg (.n 0) rfl (Zp (ZaB (Zcw hp (fun|(met,k_),fr,k=>fr 1=.n most/\fr 2=.p a 0/\fr 6=A/\fr 7=.n i/\fr 8=.p R 0/\fr 9=.b met/\fr 10=.n k_/\Own B h k [Z3 a [v_z_At,v_z_Bits,v_z_Own],eSl ZU A at_,Z3 R (ZU.c (⟨(gi z.At i.toNat).tmod 8,((gi z.At i.toNat).tdiv 8).tmod 8⟩:Zk))]) (fun|(at_2,met1),e,fr,k=>e=(.exit 2)/\fr 1=.n most/\fr 2=.p a 0/\fr 6=A/\fr 7=.n i/\fr 8=.p R 0/\fr 9=.b met1/\Own B h k [Z3 a [v_z_At,v_z_Bits,v_z_Own],eSl ZU A at_2,Z3 R (ZU.c (⟨(gi z.At i.toNat).tmod 8,((gi z.At i.toNat).tdiv 8).tmod 8⟩:Zk))]) ⟨bw,T,aN,al,rfl,rfl,rfl,(bQ.pk [0,1,2])⟩ ?_ ?_)))))))))
   .rintro⟨met,k_⟩ _ b0 ⟨aC,aD,O,aE,ah,aX,af,ar⟩ _ hp;dsimp only[Z5.s1]at hp;refine zw (Z4 (Zg _ af (Zg _ O (Ze (Za4 (ar.sl 1 rfl) rfl) (Ze (ZaH rfl rfl) (Zp (ZaC hp rfl (λa7 hp=>?_) (λa7 hp=>?_))))))))
    .refine Zb8 (zw (ZaB (Zsu ?_)));have aa:=ar.bump 10;refine ZfL _ aX (ZfL (.b met) rfl ?_);obtain⟨t,bV,hp⟩:=ZbL hp;refine Zmt 7 (λf k=>(b0.bump 10)=k/\f 61=.b t/\f 1=.n most/\f 10=.n k_/\f 2=.p a 0/\f 6=A/\f 7=.n i/\f 8=.p R 0) ?_ ?_
     .clear hp;rcases Zd7 bV with⟨j,hp⟩|⟨j,hp⟩
      .refine Zc6 rfl j (Zc6 rfl j (Zc6 rfl j (Zc6 rfl j (Zc6 rfl j (Zc6 rfl j (ZdJ rfl (Zc7 (v:=.b t) rfl j (Eq.trans (b:=V.b true) rfl (congrArg V.b (Option.some.inj hp)))) (Zgr ?_)))))));exact⟨rfl,rfl,aC,af,aD,O,aE,ah⟩
      .refine Zdv rfl j (ZfL _ O (Zdv rfl j (ZfL _ af (Zdv rfl j (ckk hp λaL hp=>ZdJ rfl (Zaq (aa.sl 1 rfl) rfl rfl aL) (Zdv rfl j (ZdJ rfl (ZcP (aa.sl 1 rfl) rfl (Zu aL)) (Zdv rfl j (ZdJ rfl (Za7 (aa.box 2 rfl) ah rfl) (Zdv rfl j (ZdJ rfl (Zla («as»:=ZU.c (gi at_ k_.toNat)) (bs:=ZU.c (⟨(gi z.At i.toNat).tmod 8,((gi z.At i.toNat).tdiv 8).tmod 8⟩:Zk)) rfl rfl (Mu.ZU.same _ _)) (ZdJ rfl (Zci (v:=.b t) rfl j (Eq.trans (b:=V.b (decide (gi at_ k_.toNat=(⟨(gi z.At i.toNat).tmod 8,((gi z.At i.toNat).tdiv 8).tmod 8⟩:Zk)))) rfl (congrArg V.b (Option.some.inj hp)))) ?_))))))))))));refine Zgr ?_;exact⟨rfl,rfl,aC,af,aD,O,aE,ah⟩
     rintro _ _ ⟨rfl,bD,bz,bA,bB,bC,bE,bF⟩;refine ZfL _ bD (Zgr (ZaI (ZC (Za5 (Zg _ bA (ckk hp λbm hp=>Ze (Zam rfl rfl bm) (Zg (.n (k_+1)) rfl (Z8 ?_))))))));cases hp;exact⟨rfl,bz,bB,bC,bE,bF,rfl,rfl,(aa.pk [0,1,2])⟩
    .refine ZbX (Zaz ?_);cases hp;exact⟨nofun,rfl,aC,aD,O,aE,ah,aX,(ar.pk [0,1,2])⟩
   rintro⟨at_2,met1⟩ hp _ _ _ ⟨rfl,aT,aU,aV,aW,b3,b4,ac⟩;refine ZaU (ZC (Z4 (Zg _ b4 (Ze (ZeU rfl) (Zp (ZaC hp rfl (λa8 hp=>?_) (λa8 hp=>?_)))))))
   .refine Za5 (Zg _ aV (Ze (Za7 (ac.box 2 rfl) b3 rfl) (zE (ac.bsl (E:=ZU) (l:=[(⟨(gi z.At i.toNat).tmod 8,((gi z.At i.toNat).tdiv 8).tmod 8⟩:Zk)]) ac.fr (by rw[(ZZ (v:=.ag (ZU.c (⟨(gi z.At i.toNat).tmod 8,((gi z.At i.toNat).tdiv 8).tmod 8⟩:Zk))) rfl Zas)];rfl) rfl) ?_)));rintro ch bW ⟨_,_,ao⟩;refine ckk hp λbn hp=>zE (ao.app (bytes:=16) 1 ao.fr rfl (ao.sl 3 rfl:Sl ZU bW ch [(⟨(gi z.At i.toNat).tmod 8,((gi z.At i.toNat).tdiv 8).tmod 8⟩:Zk)]) rfl rfl (λ_=>rfl) bn (by decide)) ?_;rintro a1 _ ⟨_,bI⟩;refine Zg a1 rfl (Z8 (ZaI (ZC (Za5 (Zg _ aW (ckk hp λbo hp=>Ze (Zam rfl rfl bo) (Zg (.n (i+1)) rfl (Z8 ?_))))))));cases hp;exact⟨rfl,a1,aT,aU,rfl,rfl,(bI.pk [0,1])⟩
   .refine Zey (ZaI (ZC (Za5 (Zg _ aW (ckk hp λbp hp=>Ze (Zam rfl rfl bp) (Zg (.n (i+1)) rfl (Z8 ?_)))))));cases hp;exact⟨rfl,A,aT,aU,aV,rfl,(ac.pk [0,1])⟩
  .refine ZbX (Zaz ?_);cases hp;exact⟨nofun,rfl,A,T,aN,(s.pk [0,1])⟩
 rintro at_1 hp _ _ bY ⟨rfl,g,b2,aS,aP⟩;refine ZaU (ZC (Z4 (Zg _ aS (Ze (Za4 (aP.sl 1 rfl) rfl) ?_))));obtain⟨x,⟨_,_,bq,a2,rfl,bR⟩,hp⟩:=bdk hp λ_=>ZK.ok (h:=bY)  ;refine Zcq rfl rfl bq ?_;have bJ:=aP.call bR rfl;refine Zg a2 rfl (Zp (zw (Z4 (Zg (.n 0) rfl (Zp (ZaB (Zcw hp (fun|(at_3,l,i1),fr,k=>∃D,fr 2=.p a 0/\fr 6=g/\fr 11=D/\fr 12=.n i1/\Own B h k [Z3 a [v_z_At,v_z_Bits,v_z_Own],eSl ZU g at_3,eSl Zh D l]) (fun|(at_4,l1),e,fr,k=>e=(.exit 4)/\∃S,fr 6=g/\fr 11=S/\Own B h k [eSl ZU g at_4,eSl Zh S l1]) ⟨a2,b2,aS,rfl,rfl,(bJ.pk [0,1,2])⟩ ?_ ?_)))))))
 .rintro⟨at_3,l,i1⟩ _ _ ⟨D,ai,aj,aF,P,C⟩ _ hp;dsimp only[Z5.s2]at hp;refine zw (Z4 (Zg _ P (Zg _ aj (Ze (Za4 (C.sl 1 rfl) rfl) (Ze (ZaH rfl rfl) (Zp (ZaC hp rfl (λa9 hp=>?_) (λa9 hp=>?_))))))))
  .refine Zb8 (zw (ZaB (Z4 (Zg (.i .u8 3) rfl (Zp (zw (Z4 (Zg _ P (Ze (zm (r:=a) (o:=0) ai rfl) ?_)))))))));refine Ze (ZQ (C.box 0 rfl) rfl rfl) (Ze (Za4 (C.rd0 s_z_Bits.rd) rfl) (Ze (ZaH rfl rfl) (Zp (Zmu hp (fun|(at_5,l2,bits),e,fr,k=>e=.normal/\fr 2=.p a 0/\fr 6=g/\fr 11=D/\fr 12=.n i1/\fr 13=.i .u8 bits/\Own B h k [Z3 a [v_z_At,v_z_Bits,v_z_Own],eSl ZU g at_5,eSl Zh D l2]) (λ_ hp=>?_) ?_))))
   .refine ZaC hp rfl (λba hp=>?_) (λba hp=>?_)
    .refine Za5 (Ze (zm (r:=a) (o:=0) ai rfl) (Ze (ZQ (C.box 0 rfl) rfl rfl) (Zg _ P (ckk hp λaM hp=>Ze (Zaq (C.rd0 s_z_Bits.rd) rfl rfl aM) (Ze (Zbx (C.rd0 s_z_Bits.rd) rfl (Zu aM) rfl) (Zg (.i .u8 (gi z.Bits i1.toNat)) rfl (Z8 ?_)))))));cases hp;exact⟨rfl,ai,aj,aF,P,rfl,(C.pk [0,1,2])⟩
    .refine Zey ?_;cases hp;exact⟨rfl,ai,aj,aF,P,rfl,(C.pk [0,1,2])⟩
   rintro⟨at_5,l2,bits⟩ hp _ _ _ ⟨rfl,Q,aI,aG,L,aH,F⟩;refine ZC (Z4 (Zg _ L (Zg (.n i1) rfl (Zp (zw (Z4 (Zg _ L (Ze (zm (r:=a) (o:=0) Q rfl) (Ze (ZQ (F.box 0 rfl) rfl rfl) (Ze (Za4 (F.rd0 s_z_Own.rd) rfl) ?_))))))))));refine Ze (ZaH rfl rfl) (Zp (Zmu hp (fun|(at_6,l3,own),e,fr,k=>e=.normal/\fr 2=.p a 0/\fr 6=g/\fr 11=D/\fr 12=.n i1/\fr 13=.i .u8 bits/\fr 14=.n own/\Own B h k [Z3 a [v_z_At,v_z_Bits,v_z_Own],eSl ZU g at_6,eSl Zh D l3]) (λ_ hp=>?_) ?_))
   .refine ZaC hp rfl (λbb hp=>?_) (λbb hp=>?_)
    .refine Z4 (Ze (zm (r:=a) (o:=0) Q rfl) (Ze (ZQ (F.box 0 rfl) rfl rfl) (Zg _ L (ckk hp λaJ hp=>Ze (Zaq (F.rd0 s_z_Own.rd) rfl rfl aJ) (Ze (Zbx (F.rd0 s_z_Own.rd) rfl (Zu aJ) rfl) (ckk hp λbe hp=>Ze (Zfa rfl be) (Zg (.n (gi z.Own i1.toNat)) rfl (Zp (zw ?_)))))))));refine Za5 (Zg (.n (gi z.Own i1.toNat)) rfl (Ze (ZaH rfl rfl) (Zp (ZaC hp rfl (λbd hp=>?_) (λbd hp=>?_)))))
     .refine Za5 (Zg (.n (gi z.Own i1.toNat)) rfl (ckk hp λbf hp=>Ze (Zp3 rfl bf) (Zg (.n (-(gi z.Own i1.toNat))) rfl (Z8 ?_))));cases hp;exact⟨rfl,Q,aI,aG,L,aH,rfl,(F.pk [0,1,2])⟩
     .refine Zey ?_;cases hp;exact⟨rfl,Q,aI,aG,L,aH,rfl,(F.pk [0,1,2])⟩
    .refine Zey ?_;cases hp;exact⟨rfl,Q,aI,aG,L,aH,rfl,(F.pk [0,1,2])⟩
   rintro⟨at_6,l3,own⟩ hp _ _ _ ⟨rfl,cb,cc,b7,b8,b9,ca,bL⟩;refine ZC (Z4 (Zg (.n 0) rfl (Zp (ZaB (Zcw hp (fun|(l4,d),fr,k=>∃J,fr 2=.p a 0/\fr 6=g/\fr 11=J/\fr 12=.n i1/\fr 13=.i .u8 bits/\fr 14=.n own/\fr 15=.n d/\Own B h k [Z3 a [v_z_At,v_z_Bits,v_z_Own],eSl ZU g at_6,eSl Zh J l4]) (λl5 e fr k=>e=(.exit 6)/\∃ak,fr 2=.p a 0/\fr 6=g/\fr 11=ak/\fr 12=.n i1/\Own B h k [Z3 a [v_z_At,v_z_Bits,v_z_Own],eSl ZU g at_6,eSl Zh ak l5]) ⟨D,cb,cc,b7,b8,b9,ca,rfl,(bL.pk [0,1,2])⟩ ?_ ?_)))))
   .rintro⟨l4,d⟩ _ bX ⟨J,ax,ae,av,ad,aw,aR,N,ap⟩ _ hp;dsimp only[Z5.s3]at hp;refine zw (Z4 (Zg _ N (Ze (ZaH rfl rfl) (Zp (ZaC hp rfl (λa3 hp=>?_) (λa3 hp=>?_))))))
    .refine Zb8 (zw (ZaB (Z4 (Zg _ ae (Zg _ ad (Zg _ N ?_))))));obtain⟨x1,⟨_,aQ,br,rfl,bS⟩,hp⟩:=bdk hp λ_=>ZI.ok (h:=bX)  (ap.sl 1 rfl);refine Zcq rfl rfl br ?_;have ab:=ap.call bS rfl;refine Zg (.n x1) rfl (Zp (zw (Z4 (Zg _ aw (Zg _ N (ckk hp λbg hp=>Ze (ZgV (v:=.i .u8 (ZbH .u8 bits d)) rfl rfl (by decide) (Zg6 bg)) (Ze (ZfM (v:=.i .u8 (Zb9 .u8 (ZbH .u8 bits d) 1)) rfl rfl (by decide) rfl) (Ze (Zem rfl rfl) (Zg (.b (decide (Zb9 .u8 (ZbH .u8 bits d) 1=0))) rfl (Zcn 3 (λf k=>aQ=k/\f 119=.b ((decide (Zb9 .u8 (ZbH .u8 bits d) 1=0))||(decide (x1<0)))/\f 11=J/\f 12=.n i1/\f 13=.i .u8 bits/\f 14=.n own/\f 15=.n d/\f 16=.n x1/\f 2=.p a 0/\f 6=g) ?_ ?_))))))))))
     .rcases bc (decide (Zb9 .u8 (ZbH .u8 bits d) 1=0))with H|H
      .refine ZX rfl H (ZX rfl H (Ze (ZfN (w:=(decide (Zb9 .u8 (ZbH .u8 bits d) 1=0))||(decide (x1<0))) rfl H rfl) (Z8 ?_)));exact⟨rfl,rfl,av,ad,aw,aR,N,rfl,ax,ae⟩
      .refine zD rfl H (Zg (.n x1) rfl (zD rfl H (Ze (ZaH rfl rfl) (Ze (ZfO rfl H rfl) (Z8 ?_)))));exact⟨rfl,rfl,av,ad,aw,aR,N,rfl,ax,ae⟩
     rintro _ _ ⟨rfl,bG,U,M,am,W,X,aO,an,Y⟩;refine Zp (ZaC hp bG (λa4 hp=>?_) (λa4 hp=>?_))
     .refine ZbX (Zaz (ZaU (ZC (Za5 (Zg _ X (ckk hp λbh hp=>Ze (Zam rfl rfl bh) (Zg (.n (d+1)) rfl (Z8 ?_))))))));cases hp;exact⟨rfl,J,an,Y,U,M,am,W,rfl,(ab.pk [0,1,2])⟩
     .refine Zb8 (Z4 (Zg _ Y (Zg _ U (Zg _ M (Zg _ aO ?_)))));obtain⟨x2,⟨_,bZ,bt,rfl,bT⟩,hp⟩:=bdk hp λ_=>ZH.ok (h:=aQ)  (ab.sl 1 rfl) (ab.sl 2 rfl);refine Zcq rfl rfl bt ?_;have aq:=ab.call bT rfl;refine Zg (.b x2) rfl (Zp (Z4 (Zg (.b x2) rfl (Ze (ZeU rfl) (Zp (ZaC hp rfl (λa5 hp=>?_) (λa5 hp=>?_)))))))
      .refine Za5 (Zg _ U (Zg _ M (Zg _ X (Zg _ aO (Zg _ W ?_)))));obtain⟨x3,⟨_,_,bu,aZ,rfl,bU⟩,hp⟩:=bdk hp λ_=>Zab.ok (h:=bZ)  (aq.sl 2 rfl);refine Zcq rfl rfl bu ?_;have bN:=aq.call bU rfl;refine Zg aZ rfl (Z8 (ZaI (ZC (Za5 (Zg _ X (ckk hp λbi hp=>Ze (Zam rfl rfl bi) (Zg (.n (d+1)) rfl (Z8 ?_))))))));cases hp;exact⟨rfl,aZ,an,Y,rfl,M,am,W,rfl,(bN.pk [0,1,3])⟩
      .refine Zey (ZaI (ZC (Za5 (Zg _ X (ckk hp λbj hp=>Ze (Zam rfl rfl bj) (Zg (.n (d+1)) rfl (Z8 ?_)))))));cases hp;exact⟨rfl,J,an,Y,U,M,am,W,rfl,(aq.pk [0,1,2])⟩
    .refine ZbX (Zaz ?_);cases hp;exact⟨nofun,rfl,J,ax,ae,av,ad,(ap.pk [0,1,2])⟩
   rintro l5 hp _ _ _ ⟨rfl,ak,cf,cg,cd,ce,bM⟩;refine ZaU (ZaI (ZC (Za5 (Zg _ ce (ckk hp λbk hp=>Ze (Zam rfl rfl bk) (Zg (.n (i1+1)) rfl (Z8 ?_)))))));cases hp;exact⟨rfl,ak,cf,cg,cd,rfl,(bM.pk [0,1,2])⟩
  .refine ZbX (Zaz ?_);cases hp;exact⟨nofun,rfl,D,aj,aF,(C.pk [1,2])⟩
 rintro⟨at_4,l1⟩ hp _ _ _ ⟨rfl,S,b6,b5,bK⟩;refine ZaU (ZC (Z4 (Zg _ b5 (Zg _ b6 (Zg S rfl (Zg g rfl (Zp (Zcx (Zby (Zcd rfl (Zcd rfl ZaF)) ?_)))))))));cases hp;exact⟨S,g,rfl,(bK.pk [1,0])⟩

theorem ZY.ok{h:Hp}{z:Zau}{most:Int}{v_z_Boxes:V}{v_z_Edges:V}{v_z_Bends:V}(s_z_Boxes:Sl e_bool h v_z_Boxes z.Boxes)(s_z_Edges:Sl ZeJ h v_z_Edges z.Edges)(s_z_Bends:Sl Zgv h v_z_Bends z.Bends){r:zf}(hp:ZY z most=some r) :
  ∃u k',Is G 171 [.ag [v_z_Boxes,v_z_Edges,v_z_Bends],.n most] h u k'/\∃aZ a1,V.ag [aZ,a1]=u/\Own (λr=>r<h.n) h k' [eSl e_bool aZ r.Boxes,eSl zo a1 r.Edges]:=by
 refine WC.is (Zde ?_);unfold ZY at hp;let B:Nat->Prop:=(λr=>r<h.n);have hO:Own B h h []:=Own.start0 h;refine Z4 (zE (hO.boxd (cs:=[v_z_Boxes,v_z_Edges,v_z_Bends]) hO.fr rfl rfl) ?_);rintro _ _ ⟨d,rfl,_,_,aM⟩;refine zE (aM.alloc (cs:=[.sn,.sn]) aM.fr) ?_;rintro _ aQ ⟨y,rfl,_,_,aN⟩;refine Zp (Z4 (Ze (Zbv (cs:=[.sn,.sn]) (by rw[Zas];simp[fill,over,ZeF,ZeD,ZeE,ZeH,ZeC,ZeG,(Sl.nil:Sl e_bool aQ .sn ([]:List Bool)).cells,(Sl.nil:Sl zo aQ .sn ([]:List Zaf)).cells])) (zE (aN.alloc (cs:=[.sn,.sn]) aN.fr) ?_)));rintro _ aR ⟨g,rfl,_,_,bB⟩;refine zE (bB.stb (cs':=[.sn,.sn]) 2 rfl rfl rfl rfl ⟨rfl,Nat.le_of_ble_eq_true rfl,(all_cons (Sl.nil:Sl e_bool aR .sn ([]:List Bool)).oneV (all_cons (Sl.nil:Sl zo aR .sn ([]:List Zaf)).oneV all_nil))⟩ rfl) ?_;rintro _ _ ⟨rfl,_,_,bC⟩;refine Zp (zw (Z4 (Zg (.n 0) rfl (Zp (ZaB ?_)))));have bE:=bC.nil e_bool;refine Zcw hp (fun|(s,i),fr,k=>∃ai,fr 1=.n most/\fr 2=.p d 0/\fr 4=.p y 0/\fr 5=.p g 0/\fr 6=.n i/\Own B h k [Z3 d [v_z_Boxes,v_z_Edges,v_z_Bends],Z3 y [.sn,.sn],Z3 g [ai,.sn],eSl e_bool ai s]) (λs1 e fr k=>e=(.exit 0)/\∃A,fr 1=.n most/\fr 2=.p d 0/\fr 4=.p y 0/\fr 5=.p g 0/\Own B h k [Z3 d [v_z_Boxes,v_z_Edges,v_z_Bends],Z3 y [.sn,.sn],Z3 g [A,.sn],eSl e_bool A s1]) ⟨V.sn,rfl,rfl,rfl,rfl,rfl,(bE.pk [0,1,2,3])⟩ ?_ ?_
 .rintro⟨s,i⟩ _ aq ⟨ai,ar,au,aU,aV,ae,O⟩ _ hp;dsimp only[ZY.s0]at hp;refine zw (Z4 (Zg _ ae (Ze (zm (r:=d) (o:=0) au rfl) (Ze (ZQ (O.box 0 rfl) rfl rfl) (Ze (Za4 (O.rd0 s_z_Boxes.rd) rfl) (Ze (ZaH rfl rfl) (Zg (.b (decide (i<(z.Boxes.length:Int)))) rfl (Zcn 4 (λf k=>aq=k/\f 20=.b ((decide (i<(z.Boxes.length:Int)))&&(decide (i<most)))/\f 1=.n most/\f 2=.p d 0/\f 4=.p y 0/\f 5=.p g 0/\f 6=.n i) ?_ ?_))))))))
  .rcases bc (decide (i<(z.Boxes.length:Int)))with K|K
   .refine zD rfl K (Zg _ ae (zD rfl K (Zg _ ar (zD rfl K (Ze (ZaH rfl rfl) (Ze (Zid rfl K rfl) (Z8 ?_)))))));exact⟨rfl,rfl,ar,au,aU,aV,ae⟩
   .refine ZX rfl K (ZX rfl K (ZX rfl K (Ze (Zic (w:=(decide (i<(z.Boxes.length:Int)))&&(decide (i<most))) rfl K rfl) (Z8 ?_))));exact⟨rfl,rfl,ar,au,aU,aV,ae⟩
  rintro _ _ ⟨rfl,bq,aE,ak,aF,Y,aG⟩;refine Zp (ZaC hp bq (λa2 hp=>?_) (λa2 hp=>?_))
  .refine Zb8 (zw (ZaB (ZdQ ?_)));have Q:=O.bump 11;have aD:=Fresh.start aq 11;have aT:∀{i:Nat},h.n<=aq.n+i:=Nat.le_trans O.n (Nat.le_add_right _ _);refine Z7 (zm (r:=g) (o:=0) Y rfl) (Z7 (ZQ (Q.box 2 rfl) rfl rfl) (Z7 (zm (r:=d) (o:=0) ak rfl) (Z7 (ZQ (Q.box 0 rfl) rfl rfl) (Za6 _ aG (ckk hp λaB hp=>Z7 (Zaq (Q.rd0 s_z_Boxes.rd) rfl rfl aB) (Z7 (Zbx (Q.rd0 s_z_Boxes.rd) rfl (Zu aB) rfl) (ZcA (Q.bsl (E:=e_bool) (l:=[gi z.Boxes i.toNat]) ⟨aD.m 7 (by decide) (by decide),aT⟩ (by rw[(ZZ (v:=.b (gi z.Boxes i.toNat)) rfl Zas)];rfl) rfl) ?_)))))));rintro _ _ _ ⟨_,bn,aP⟩;have bo:=aD.kept bn (by decide);refine ckk hp λbh hp=>ZcA (aP.app (bytes:=1) 3 ⟨bo.m 8 (by decide) (by decide),aT⟩ rfl (aP.sl 4 rfl) rfl rfl (λ_=>rfl) bh (by decide)) ?_;rintro aj aS _ ⟨_,an⟩;refine Z7 (zm (r:=g) (o:=0) Y rfl) (ZcA (an.stb (cs':=[aj,.sn]) 2 rfl rfl rfl (an.sl 3 rfl:Sl e_bool aS aj (s++[gi z.Boxes i.toNat])).cells ⟨rfl,Nat.le_of_ble_eq_true rfl,(all_cons (an.sl 3 rfl:Sl e_bool aS aj (s++[gi z.Boxes i.toNat])).oneV rfl)⟩ rfl) ?_);rintro _ _ _ ⟨rfl,_,_,bt⟩;refine Zbz ?_;refine And.intro ?_ ?_
   .intro q hq;simp only[List.mem_cons,List.not_mem_nil,or_false]at hq;rcases hq with rfl|rfl|rfl
    .refine ZP ?_ ?_
     .exact nofun
     .exact nofun
    .refine ZP ?_ ?_
     .exact nofun
     .exact nofun
    .refine ZP ?_ ?_
     .exact nofun
     .exact(λ_ hm=>Nat.lt_irrefl _ (Nat.lt_of_lt_of_le (O.ltAt 2 rfl _ (tch (Zbc hm) rfl)) (Nat.le_add_right _ _)))
   refine ZaI (ZC (Za5 (Zg _ aG (ckk hp λbi hp=>Ze (Zam rfl rfl bi) (Zg (.n (i+1)) rfl (Z8 ?_))))));cases hp;exact⟨rfl,aj,aE,ak,aF,Y,rfl,(bt.pk [0,1,2,3])⟩
  .refine ZbX (Zaz ?_);cases hp;exact⟨nofun,rfl,ai,aE,ak,aF,Y,(O.pk [0,1,2,3])⟩
 rintro s1 hp _ _ _ ⟨rfl,A,bH,bI,bJ,bK,bD⟩;refine ZaU (ZC (zw (Z4 (Zg (.n 0) rfl (Zp (ZaB ?_))))));have bu:=bD.nil zo;refine Zcw hp (fun|(s2,i1),fr,k=>∃J,fr 1=.n most/\fr 2=.p d 0/\fr 4=.p y 0/\fr 5=.p g 0/\fr 7=.n i1/\Own B h k [Z3 d [v_z_Boxes,v_z_Edges,v_z_Bends],Z3 y [.sn,.sn],Z3 g [A,J],eSl e_bool A s1,eSl zo J s2]) (λs3 e fr k=>e=(.exit 2)/\∃T,fr 4=.p y 0/\fr 5=.p g 0/\Own B h k [Z3 y [.sn,.sn],Z3 g [A,T],eSl e_bool A s1,eSl zo T s3]) ⟨V.sn,bH,bI,bJ,bK,rfl,(bu.pk [0,1,2,3,4])⟩ ?_ ?_
 .rintro⟨s2,i1⟩ _ ad ⟨J,av,aw,aX,aY,af,j⟩ _ hp;dsimp only[ZY.s1]at hp;refine zw (Z4 (Zg _ af (Ze (zm (r:=d) (o:=0) aw rfl) (Ze (ZQ (j.box 0 rfl) rfl rfl) (Ze (Za4 (j.rd0 s_z_Edges.rd) rfl) (Ze (ZaH rfl rfl) (Zg (.b (decide (i1<(z.Edges.length:Int)))) rfl ?_)))))));obtain⟨t,bF,hp⟩:=ZbL hp;refine Zcn 5 (λf k=>ad=k/\f 43=.b t/\f 1=.n most/\f 2=.p d 0/\f 4=.p y 0/\f 5=.p g 0/\f 7=.n i1) ?_ ?_
  .clear hp;rcases Zd7 bF with⟨D,hp⟩|⟨D,hp⟩
   .refine zD rfl D (Zg _ af (zD rfl D (Zg _ av (zD rfl D (ckk hp λbj hp=>Ze (Zie rfl rfl bj) (zD rfl D (Ze (ZaH rfl rfl) (Ze (Zc7 (v:=.b t) rfl D (Eq.trans (b:=V.b (decide (i1<(2*most)))) rfl (congrArg V.b (Option.some.inj hp)))) (Z8 ?_)))))))));exact⟨rfl,rfl,av,aw,aX,aY,af⟩
   .refine ZX rfl D (ZX rfl D (ZX rfl D (ZX rfl D (Ze (Zci (v:=.b t) rfl D (Eq.trans (b:=V.b false) rfl (congrArg V.b (Option.some.inj hp)))) (Z8 ?_)))));exact⟨rfl,rfl,av,aw,aX,aY,af⟩
  rintro _ _ ⟨rfl,br,aH,aI,aJ,al,aK⟩;refine Zg _ br (Zcn 5 (λf k=>ad=k/\f 49=.b (t&&(decide (0<(s1.length:Int))))/\f 1=.n most/\f 2=.p d 0/\f 4=.p y 0/\f 5=.p g 0/\f 7=.n i1) ?_ ?_)
  .rcases bc t with F|F
   .refine zD rfl F (Ze (zm (r:=g) (o:=0) al rfl) (zD rfl F (Ze (ZQ (j.box 2 rfl) rfl rfl) (zD rfl F (Ze (Za4 (j.sl 3 rfl) rfl) (zD rfl F (Ze (Zlc rfl rfl) (Ze (Zid rfl F rfl) (Z8 ?_)))))))));exact⟨rfl,rfl,aH,aI,aJ,al,aK⟩
   .refine ZX rfl F (ZX rfl F (ZX rfl F (ZX rfl F (Ze (Zic (w:=t&&(decide (0<(s1.length:Int)))) rfl F rfl) (Z8 ?_)))));exact⟨rfl,rfl,aH,aI,aJ,al,aK⟩
  rintro _ _ ⟨rfl,bs,aL,M,am,P,N⟩;refine Zp (ZaC hp bs (λa3 hp=>?_) (λa3 hp=>?_))
  .refine Zb8 (zw (ZaB (zw (ZdQ ?_))));have x:=j.bump 33;have bp:=Fresh.start ad 33;have bG:∀{i:Nat},h.n<=ad.n+i:=Nat.le_trans j.n (Nat.le_add_right _ _);refine Z7 (zm (r:=d) (o:=0) M rfl) (Z7 (ZQ (x.box 0 rfl) rfl rfl) (Za6 _ N (ckk hp λC hp=>Z7 (Zaq (x.rd0 s_z_Edges.rd) rfl rfl C) (Z7 (ZcX (x.rd0 s_z_Edges.rd) (Zu C) rfl rfl (by decide) rfl) (Z7 (Zbx (x.rd0 s_z_Edges.rd) rfl (Zu C) rfl) (ckk hp λbk hp=>Z7 (Zfa rfl bk) (Z7 (zm (r:=g) (o:=0) P rfl) (Z7 (ZQ (x.box 2 rfl) rfl rfl) (Z7 (Za4 (x.sl 3 rfl) rfl) (ckk hp λaC hp=>Z7 (Zf5 rfl rfl aC) ?_))))))))));refine Z7 (zm (r:=d) (o:=0) M rfl) (Z7 (ZQ (x.box 0 rfl) rfl rfl) (Za6 _ N (Z7 (Zaq (x.rd0 s_z_Edges.rd) rfl rfl C) (Z7 (ZcX (x.rd0 s_z_Edges.rd) (Zu C) rfl rfl (by decide) rfl) (Z7 (Zbx (x.rd0 s_z_Edges.rd) rfl (Zu C) rfl) (ckk hp λbl hp=>Z7 (Zfa rfl bl) (Z7 (zm (r:=g) (o:=0) P rfl) (Z7 (ZQ (x.box 2 rfl) rfl rfl) (Z7 (Za4 (x.sl 3 rfl) rfl) (Z7 (Zf5 rfl rfl aC) (Z7 (zm (r:=d) (o:=0) M rfl) (Z7 (ZQ (x.box 0 rfl) rfl rfl) ?_))))))))))));refine Za6 _ N (Z7 (Zaq (x.rd0 s_z_Edges.rd) rfl rfl C) (Z7 (ZcX (x.rd0 s_z_Edges.rd) (Zu C) rfl rfl (by decide) rfl) (Z7 (Zbx (x.rd0 s_z_Edges.rd) rfl (Zu C) rfl) (ckk hp λbm hp=>Z7 (Zfa rfl bm) (Z7 (Zf5 rfl rfl (by decide)) (Z7 (Zbv (cs:=zo.c (⟨((gi z.Edges i1.toNat).get 0).tmod (s1.length:Int),((gi z.Edges i1.toNat).get 1).tmod (s1.length:Int),((gi z.Edges i1.toNat).get 2).tmod 4,(⟨#[]⟩:ByteArray)⟩:Zaf)) (by rw[(ZZ (v:=.n (((gi z.Edges i1.toNat).get 0).tmod (s1.length:Int))) rfl (ZZ (v:=.n (((gi z.Edges i1.toNat).get 1).tmod (s1.length:Int))) rfl (ZZ (v:=.n (((gi z.Edges i1.toNat).get 2).tmod 4)) rfl Zas)))];rfl)) (ZcA (x.alloc (cs:=zo.c (⟨0,0,0,(⟨#[]⟩:ByteArray)⟩:Zaf)) ⟨bp.m 31 (by decide) (by decide),bG⟩) ?_)))))));rintro _ _ _ ⟨I,rfl,_,_,bv⟩;refine ZcA (bv.stb (cs':=zo.c (⟨((gi z.Edges i1.toNat).get 0).tmod (s1.length:Int),((gi z.Edges i1.toNat).get 1).tmod (s1.length:Int),((gi z.Edges i1.toNat).get 2).tmod 4,(⟨#[]⟩:ByteArray)⟩:Zaf)) 5 rfl rfl rfl rfl ⟨rfl,Nat.le_of_ble_eq_true rfl,rfl⟩ rfl) ?_;rintro _ _ _ ⟨rfl,_,_,ab⟩;refine Zbz ?_;refine And.intro ?_ ?_
   .intro q hq;simp only[List.mem_cons,List.not_mem_nil,or_false]at hq;rcases hq with rfl|rfl|rfl|rfl|rfl|rfl|rfl|rfl|rfl|rfl|rfl|rfl|rfl|rfl|rfl|rfl|rfl|rfl|rfl|rfl|rfl|rfl|rfl|rfl|rfl|rfl|rfl|rfl|rfl|rfl|rfl|rfl|rfl
    .refine ZP ?_ ?_
     .exact nofun
     .exact nofun
    .refine ZP ?_ ?_
     .exact nofun
     .exact nofun
    .refine ZP ?_ ?_
     .exact nofun
     .exact nofun
    .refine ZP ?_ ?_
     .exact nofun
     .exact nofun
    .refine ZP ?_ ?_
     .exact nofun
     .exact nofun
    .refine ZP ?_ ?_
     .exact nofun
     .exact nofun
    .refine ZP ?_ ?_
     .exact nofun
     .exact nofun
    .refine ZP ?_ ?_
     .exact nofun
     .exact nofun
    .refine ZP ?_ ?_
     .exact nofun
     .exact nofun
    .refine ZP ?_ ?_
     .exact nofun
     .exact nofun
    .refine ZP ?_ ?_
     .exact nofun
     .exact nofun
    .refine ZP ?_ ?_
     .exact nofun
     .exact nofun
    .refine ZP ?_ ?_
     .exact nofun
     .exact nofun
    .refine ZP ?_ ?_
     .exact nofun
     .exact nofun
    .refine ZP ?_ ?_
     .exact nofun
     .exact nofun
    .refine ZP ?_ ?_
     .exact nofun
     .exact nofun
    .refine ZP ?_ ?_
     .exact nofun
     .exact nofun
    .refine ZP ?_ ?_
     .exact nofun
     .exact nofun
    .refine ZP ?_ ?_
     .exact nofun
     .exact nofun
    .refine ZP ?_ ?_
     .exact nofun
     .exact nofun
    .refine ZP ?_ ?_
     .exact nofun
     .exact nofun
    .refine ZP ?_ ?_
     .exact nofun
     .exact nofun
    .refine ZP ?_ ?_
     .exact nofun
     .exact nofun
    .refine ZP ?_ ?_
     .exact nofun
     .exact nofun
    .refine ZP ?_ ?_
     .exact nofun
     .exact nofun
    .refine ZP ?_ ?_
     .exact nofun
     .exact(λ_ hm=>Nat.lt_irrefl _ (Nat.lt_of_lt_of_le (j.ltAt 0 rfl _ (tch (Zbc hm) rfl)) (Nat.le_add_right _ _)))
    .refine ZP ?_ ?_
     .exact nofun
     .exact(λ_ hm=>Nat.lt_irrefl _ (Nat.lt_of_lt_of_le (Nat.lt_of_lt_of_le (j.lo _ (Rd.B s_z_Edges.rd j.lo (Zu C) _ (ZbS (tch (Zbc hm) rfl)))) j.n) (Nat.le_add_right _ _)))
    .refine ZP ?_ ?_
     .exact nofun
     .exact(λ_ hm=>Nat.lt_irrefl _ (Nat.lt_of_lt_of_le (j.ltAt 2 rfl _ (tch (Zbc hm) rfl)) (Nat.le_add_right _ _)))
    .refine ZP ?_ ?_
     .exact nofun
     .exact(λ_ hm=>Nat.lt_irrefl _ (Nat.lt_of_lt_of_le (j.ltAt 0 rfl _ (tch (Zbc hm) rfl)) (Nat.le_add_right _ _)))
    .refine ZP ?_ ?_
     .exact nofun
     .exact(λ_ hm=>Nat.lt_irrefl _ (Nat.lt_of_lt_of_le (Nat.lt_of_lt_of_le (j.lo _ (Rd.B s_z_Edges.rd j.lo (Zu C) _ (ZbS (tch (Zbc hm) rfl)))) j.n) (Nat.le_add_right _ _)))
    .refine ZP ?_ ?_
     .exact nofun
     .exact(λ_ hm=>Nat.lt_irrefl _ (Nat.lt_of_lt_of_le (j.ltAt 2 rfl _ (tch (Zbc hm) rfl)) (Nat.le_add_right _ _)))
    .refine ZP ?_ ?_
     .exact nofun
     .exact(λ_ hm=>Nat.lt_irrefl _ (Nat.lt_of_lt_of_le (j.ltAt 0 rfl _ (tch (Zbc hm) rfl)) (Nat.le_add_right _ _)))
    .refine ZP ?_ ?_
     .exact nofun
     .exact(λ_ hm=>Nat.lt_irrefl _ (Nat.lt_of_lt_of_le (Nat.lt_of_lt_of_le (j.lo _ (Rd.B s_z_Edges.rd j.lo (Zu C) _ (ZbS (tch (Zbc hm) rfl)))) j.n) (Nat.le_add_right _ _)))
   refine ZC (zw (Z4 (Zg _ N (Ze (zm (r:=d) (o:=0) M rfl) (Ze (ZQ (ab.box 0 rfl) rfl rfl) (Ze (Za4 (ab.rd0 s_z_Bends.rd) rfl) (Ze (ZaH rfl rfl) (Zp (Zmu hp (λe_ e fr k=>e=.normal/\fr 1=.n most/\fr 2=.p d 0/\fr 4=.p y 0/\fr 5=.p g 0/\fr 7=.n i1/\fr 8=.p I 0/\Own B h k [Z3 d [v_z_Boxes,v_z_Edges,v_z_Bends],Z3 y [.sn,.sn],Z3 g [A,J],eSl e_bool A s1,eSl zo J s2,Z3 I (zo.c e_)]) (λ_ hp=>?_) ?_)))))))))
   .refine ZaC hp rfl (λa4 hp=>?_) (λa4 hp=>?_)
    .refine Z4 (Zg (.n 0) rfl (Zp (ZaB (Zcw hp (fun|(e_1,k_),fr,k=>fr 1=.n most/\fr 2=.p d 0/\fr 4=.p y 0/\fr 5=.p g 0/\fr 7=.n i1/\fr 8=.p I 0/\fr 9=.n k_/\Own B h k [Z3 d [v_z_Boxes,v_z_Edges,v_z_Bends],Z3 y [.sn,.sn],Z3 g [A,J],eSl e_bool A s1,eSl zo J s2,Z3 I (zo.c e_1)]) (λe_2 e fr k=>e=(.exit 4)/\fr 1=.n most/\fr 2=.p d 0/\fr 4=.p y 0/\fr 5=.p g 0/\fr 7=.n i1/\fr 8=.p I 0/\Own B h k [Z3 d [v_z_Boxes,v_z_Edges,v_z_Bends],Z3 y [.sn,.sn],Z3 g [A,J],eSl e_bool A s1,eSl zo J s2,Z3 I (zo.c e_2)]) ⟨aL,M,am,P,N,rfl,rfl,(ab.pk [0,1,2,3,4,5])⟩ ?_ ?_))))
     .rintro⟨e_1,k_⟩ _ _ ⟨ay,R,az,aA,S,L,ah,H⟩ _ hp;dsimp only[ZY.s2]at hp;refine zw (Z4 (Zg _ ah (Ze (zm (r:=d) (o:=0) R rfl) (Ze (ZQ (H.box 0 rfl) rfl rfl) (Zg _ S (ckk hp λU hp=>Ze (Zaq (H.rd0 s_z_Bends.rd) rfl rfl U) (Ze (Zbx (H.rd0 s_z_Bends.rd) rfl (Zu U) rfl) (ckk hp λa7 hp=>Ze (Zfa rfl a7) (Ze (Zf5 rfl rfl (by decide)) (Ze (ZaH rfl rfl) ?_))))))))));refine Zp (ZaC hp rfl (λa5 hp=>?_) (λa5 hp=>?_))
      .refine Zb8 (zw (ZaB (Z4 (Ze (zm (r:=d) (o:=0) R rfl) (Ze (ZQ (H.box 0 rfl) rfl rfl) (Zg _ S (Ze (Zaq (H.rd0 s_z_Bends.rd) rfl rfl U) (Ze (Zbx (H.rd0 s_z_Bends.rd) rfl (Zu U) rfl) (Zg _ ah (ckk hp λa8 hp=>Ze (Zam rfl rfl a8) ?_))))))))));refine ckk hp λa9 hp=>Ze (ZgV (v:=.i .u8 (ZbH .u8 (gi z.Bends i1.toNat) (2+k_))) rfl rfl (by decide) (Zg6 a9)) (Ze (ZfM (v:=.i .u8 (Zb9 .u8 (ZbH .u8 (gi z.Bends i1.toNat) (2+k_)) 1)) rfl rfl (by decide) rfl) (Ze (Zem rfl rfl) (Zp (ZaC hp rfl (λa6 hp=>?_) (λa6 hp=>?_)))))
       .refine Za5 (Ze (zm (r:=I) (o:=0) L rfl) (Ze (ZQ (H.box 5 rfl) rfl rfl) (ckk hp λba hp=>Ze (Zmz (a:=e_1.Bends) (b:=(⟨#[76]⟩:ByteArray)) rfl rfl ba) (Ze (zm (r:=I) (o:=0) L rfl) (zE (H.stb (cs':=zo.c ({ e_1 with Bends:=e_1.Bends++(⟨#[76]⟩:ByteArray) })) 5 rfl rfl rfl rfl ⟨rfl,Nat.le_of_ble_eq_true rfl,rfl⟩ rfl) ?_)))));rintro _ _ ⟨rfl,_,_,bx⟩;refine Z8 (ZaI (ZC (Za5 (Zg _ ah (ckk hp λbb hp=>Ze (Zam rfl rfl bb) (Zg (.n (k_+1)) rfl (Z8 ?_)))))));cases hp;exact⟨rfl,ay,R,az,aA,S,L,rfl,(bx.pk [0,1,2,3,4,5])⟩
       .refine Za5 (Ze (zm (r:=I) (o:=0) L rfl) (Ze (ZQ (H.box 5 rfl) rfl rfl) (ckk hp λbd hp=>Ze (Zmz (a:=e_1.Bends) (b:=(⟨#[82]⟩:ByteArray)) rfl rfl bd) (Ze (zm (r:=I) (o:=0) L rfl) (zE (H.stb (cs':=zo.c ({ e_1 with Bends:=e_1.Bends++(⟨#[82]⟩:ByteArray) })) 5 rfl rfl rfl rfl ⟨rfl,Nat.le_of_ble_eq_true rfl,rfl⟩ rfl) ?_)))));rintro _ _ ⟨rfl,_,_,bz⟩;refine Z8 (ZaI (ZC (Za5 (Zg _ ah (ckk hp λbe hp=>Ze (Zam rfl rfl be) (Zg (.n (k_+1)) rfl (Z8 ?_)))))));cases hp;exact⟨rfl,ay,R,az,aA,S,L,rfl,(bz.pk [0,1,2,3,4,5])⟩
      .refine ZbX (Zaz ?_);cases hp;exact⟨nofun,rfl,ay,R,az,aA,S,L,(H.pk [0,1,2,3,4,5])⟩
     rintro e_2 hp _ _ _ ⟨rfl,bR,bS,bT,bU,bV,bW,bw⟩;refine ZaU ?_;cases hp;exact⟨rfl,bR,bS,bT,bU,bV,bW,(bw.pk [0,1,2,3,4,5])⟩
    .refine Zey ?_;cases hp;exact⟨rfl,aL,M,am,P,N,rfl,(ab.pk [0,1,2,3,4,5])⟩
   rintro e_ hp _ _ _ ⟨rfl,bM,bN,bO,ax,bP,bQ,ac⟩;refine ZC (Za5 (Ze (zm (r:=g) (o:=0) ax rfl) (Ze (ZQ (ac.box 2 rfl) rfl rfl) (Ze (Za7 (ac.box 5 rfl) bQ rfl) (zE (ac.bsl (E:=zo) (l:=[e_]) ac.fr (by rw[(ZZ (v:=.ag (zo.c e_)) rfl Zas)];rfl) rfl) ?_)))));rintro _ _ ⟨_,_,ao⟩;refine ckk hp λbf hp=>zE (ao.app (bytes:=40) 4 ao.fr rfl (ao.sl 6 rfl) rfl rfl (λ_=>rfl) bf (by decide)) ?_;rintro a0 _ ⟨_,ap⟩;refine Ze (zm (r:=g) (o:=0) ax rfl) (zE (ap.stb (cs':=[A,a0]) 2 rfl rfl rfl (ap.sl 4 rfl).cells ⟨rfl,Nat.le_of_ble_eq_true rfl,(all_cons (ap.sl 4 rfl).oneV rfl)⟩ rfl) ?_);rintro _ _ ⟨rfl,_,_,bA⟩;refine Z8 (ZaI (ZC (Za5 (Zg _ bP (ckk hp λbg hp=>Ze (Zam rfl rfl bg) (Zg (.n (i1+1)) rfl (Z8 ?_)))))));cases hp;exact⟨rfl,a0,bM,bN,bO,ax,rfl,(bA.pk [0,1,2,3,4])⟩
  .refine ZbX (Zaz ?_);cases hp;exact⟨nofun,rfl,J,am,P,(j.pk [1,2,3,4])⟩
 rintro s3 hp _ _ _ ⟨rfl,T,aW,bL,aa⟩;refine ZaU (ZC (Z4 (Ze (Za7 (aa.box 1 rfl) bL rfl) (zE (aa.stb (cs':=[A,T]) 0 rfl aW rfl rfl ⟨rfl,Nat.le_of_ble_eq_true rfl,(all_cons (aa.sl 2 rfl).oneV (all_cons (aa.sl 3 rfl).oneV all_nil))⟩ rfl) ?_))));rintro _ _ ⟨rfl,_,_,aO⟩;refine Zp (Zcx (Zby (Zjp aW (aO.box 0 rfl) rfl ZaF) ?_));cases hp;exact⟨A,T,rfl,(aO.pk [2,3])⟩

section
attribute [local irreducible] W WO WD WF Ex.then Ex.blk act V.cut V.elt ck Option.bind Zn Fq Gq X Via Out At Keep Rd V.cells gi
theorem Zaa.ok{h:Hp}{l:List Za}{v:Int}{d:Int}{w:Int}{o:Int}{v_l:V}(H:Own (Bm h [eSl Zh v_l l]) h h [eSl Zh v_l l]){r:(List Za)×Int}(hp:Zaa l v d w o=some r) :
  ∃u k',Is G 53 [v_l,.n v,.n d,.n w,.n o] h u k'/\∃a,V.tu [a,.n r.2]=u/\Own (Bm h [eSl Zh v_l l]) h k' [eSl Zh a r.1]:=have c0:=@Zab.ok;aw

theorem ZaM.ok{h:Hp}    {r:(List Za)}(hp:ZaM=some r) :
  ∃u k',Is G 211 [] h u k'/\∃a,a=u/\Own (λr=>r<h.n) h k' [eSl Zh a r]:=have e0:=hv ZfW;have c0:=@ZK.ok;have c1:=@Zaa.ok;have l0:=@Zbd _ _ ZaM.s0 (λf=>[]) (λf w=>[.v (f 1)]) (λO R f w x fr k=>match x with|(l,x1)=>∃b,At fr [(1,b),(13,V.n x1)]/\O k (eSl Zh b l::R)) (λO R f w l1 e fr k=>e=(.exit 0)/\∃c,At fr [(1,c)]/\O k (eSl Zh c l1::R));au

theorem Zbm.ok{h:Hp}{d:Int}   {r:Bool}(hp:Zbm d=some r) :
  ∃u k',Is G 90 [.n d] h u k'/\V.b r=u/\Own (λr=>r<h.n) h k' []:=au

end
end Mu
