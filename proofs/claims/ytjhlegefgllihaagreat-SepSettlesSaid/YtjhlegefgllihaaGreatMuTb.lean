/- One step, its facts looked up. -/
import Derived.Test.YtjhlegefgllihaaGreatMuTa
import Derived.Test.YtjhlegefgllihaaGreatMuPa
set_option linter.unusedVariables false
namespace Mu
open Go (IntKind BinOp UnOp)
section
variable {h k:Hp}{Ω:List Ent}{B:Nat->Prop}{r:Nat}{cs:List V}
theorem ZqI(H:Own (λr=>r<h.n) h k Ω){ww:Bool}(f:h.m r=some (.cells ww cs)):∃w,k.m r=some (.cells w cs):=H.rdB0 (RdB.of f)
theorem ZqJ(H:Own B h k Ω)(f:RdB B h r cs):∃w,k.m r=some (.cells w cs):=H.rdB0 f
theorem ZsO(H:Own (λr=>r<h.n) h k Ω){ww:Bool}(f:h.m r=some (.cells ww cs)):k.m r=some (.cells (ZqI H f).choose cs):=(ZqI H f).choose_spec
theorem ZsP(H:Own B h k Ω)(f:RdB B h r cs):k.m r=some (.cells (ZqJ H f).choose cs):=(ZqJ H f).choose_spec
theorem Zu6(H:Own B h k Ω)(f:FB r cs Ω):∃w,k.m r=some (.cells w cs):=⟨_,lkB H f⟩
end
section
variable {rd:Nat->Option Obj}{nr:Nat}{e:Opd->V}{K K':IntKind}{x y i p q:Opd}{z a b:Int}{r o j off off' sz n id:Nat}{v w:V}{cs ws vs caps:List V}{k:Hp}{α:Type}{E:Enc α}{l:List α}{t u agg:Bool}
def ni:IntKind->Bool
 |.i64=>false
 |_=>true
theorem ZuW(hx:e x=.p r o):act rd nr e (.fa off x)=some (.p r (o+off),[]):=zm hx rfl
theorem Zr4(hx:e x=.p r o)(hi:e i=.i K z)(h:0<=z/\z<(n:Int)):act rd nr e (.ixaa sz n x i)=some (.p r (o+z.toNat*sz),[]):=Zf8 hx hi h rfl
theorem ZtC(hx:e x=v)(hk:k.m=rd)(hs:Sl E k v l):act rd nr e (.len x)=some (.i .i64 (l.length:Int),[]):=Za4 hs hx
theorem Zr6(hx:e x=v)(hk:k.m=rd)(hs:Sl eV k v vs)(hn:vs.length=n):act rd nr e (.len x)=some (.i .i64 (n:Int),[]):=Zgs hs hn hx
theorem Zt7(hx:e x=v)(hi:e i=.i K z)(hk:k.m=rd)(hs:Sl E k v l)(hz:E.sz=sz)(hc:0<=z/\z<(l.length:Int)):act rd nr e (.ixa sz x i)=some (v.elt z.toNat 0,[]):=by subst hz;exact Zaq hs hx hi hc
theorem Zt9(hx:e x=v.elt j off)(hs:Sl E k v l)(I:Inhabited α)(hj:j<l.length)(ho:(E.c (gi l j))[off]?=some w):act k.m nr e (.ld false 1 x)=some (w,[]):=Zbx hs hx hj ho
theorem Zt8(hx:e x=v.elt j 0)(hs:Sl E k v l)(I:Inhabited α)(hz:E.sz=sz)(hj:j<l.length):act k.m nr e (.ld true sz x)=some (.ag (E.c (gi l j)),[]):=by subst hz;exact ZcP hs hx hj
theorem ZtA(hx:e x=v.elt j off)(hs:Sl E k v l)(I:Inhabited α)(hj:j<l.length)(ho:ZbG true (E.c (gi l j)) off sz=some (.ag ws)):act k.m nr e (.ld true sz x)=some (.ag ws,[]):=Zs2 hs hx hj ho
theorem ZtB(hx:e x=.p r o)(hb:∃w,k.m r=some (.cells w cs))(ho:cs[o]?=some v):act k.m nr e (.ld false 1 x)=some (v,[]):=by obtain⟨_,hb⟩:=hb;exact ZQ hb hx ho
theorem Zr5(hx:e x=.p r o)(hb:∃w,k.m r=some (.cells w cs))(ho:ZbG true cs o sz=some (.ag ws)):act k.m nr e (.ld true sz x)=some (.ag ws,[]):=by obtain⟨_,hb⟩:=hb;exact Za7 hb hx ho
theorem Zt6(hx:e x=v.elt j off')(hk:k.m=rd)(hs:Sl E k v l)(hj:j<l.length):act rd nr e (.fa off x)=some (v.elt j (off'+off),[]):=ZdM hs hj hx rfl
theorem Zr7(hx:e x=v.elt j off)(hk:k.m=rd)(hs:Sl E k v l)(hj:j<l.length):act rd nr e (.nilck x)=some (v.elt j off,[]):=Zqf hs hj hx
theorem Zps(hx:e x=v.elt j off)(hi:e i=.i K z)(hk:k.m=rd)(hs:Sl E k v l)(hj:j<l.length)(h:0<=z/\z<(n:Int)):act rd nr e (.ixaa sz n x i)=some (v.elt j (off+z.toNat*sz),[]):=ZcX hs hj hx hi h rfl
theorem Zr9(hx:e x=v)(hi:e i=.i K z)(hk:k.m=rd)(hs:Sl E k v l)(hz:E.sz=sz)(h:0<=z/\z<=(l.length:Int)):act rd nr e (.slc sz x (some i) none none)=some (v.cut z.toNat l.length,[]):=by subst hz;exact ZiB hs hx hi h
theorem ZrA(hx:e x=v)(hi:e i=.i K z)(hk:k.m=rd)(hs:Sl E k v l)(hz:E.sz=sz)(h:0<=z/\z<=(l.length:Int)):act rd nr e (.slc sz x none (some i) none)=some (v.cut 0 z.toNat,[]):=by subst hz;exact Zhj hs hx hi h
theorem Zr8(hx:e x=v)(hi:e i=.i K z)(hi':e p=.i K' a)(hk:k.m=rd)(hs:Sl E k v l)(hz:E.sz=sz)(h:0<=z/\z<=a/\a<=(l.length:Int)):act rd nr e (.slc sz x (some i) (some p) none)=some (v.cut z.toNat a.toNat,[]):=by subst hz;exact Zqi hs hx hi hi' h
theorem Zt5(hx:e x=.i K a)(hy:e y=.i K b):act rd nr e (.bin .and x y)=some (.i K (Zb9 K a b),[]):=ZfM hx hy (by decide) rfl
theorem ZuY(hx:e x=.i K a)(hy:e y=.i K b):act rd nr e (.bin .or x y)=some (.i K (Zd0 K a b),[]):=ZfM hx hy (by decide) rfl
theorem ZtH(hx:e x=.i K a)(hy:e y=.i K b):act rd nr e (.bin .xor x y)=some (.i K (Zog K a b),[]):=ZfM hx hy (by decide) rfl
theorem ZnG(hx:e x=.i K a)(hy:e y=.i K b):act rd nr e (.bin .andNot x y)=some (.i K (Zkt K a b),[]):=ZfM hx hy (by decide) rfl
theorem Zt4(hx:e x=.i K a)(hy:e y=.i K b)(hK:ni K=true):act rd nr e (.bin .add x y)=some (.i K (Zfp K a b),[]):=ZfM hx hy (by decide) rfl
theorem ZtG(hx:e x=.i K a)(hy:e y=.i K b)(hK:ni K=true):act rd nr e (.bin .sub x y)=some (.i K (Zof K a b),[]):=ZfM hx hy (by decide) rfl
theorem ZtD(hx:e x=.i K a)(hy:e y=.i K b)(hK:ni K=true):act rd nr e (.bin .mul x y)=some (.i K (Zeo K a b),[]):=ZfM hx hy (by decide) rfl
theorem ZtE(hx:e x=.i K a)(hy:e y=.i K' b)(h:0<=b):act rd nr e (.bin .shl x y)=some (.i K (Zeh K a b),[]):=ZgV hx hy (by decide) (Zmh h)
theorem ZtF(hx:e x=.i K a)(hy:e y=.i K' b)(h:0<=b):act rd nr e (.bin .shr x y)=some (.i K (ZbH K a b),[]):=ZgV hx hy (by decide) (Zg6 h)
theorem Zva(hc:e x=.b t)(ht:t=true)(ha:e p=v):act rd nr e (.pick x p q)=some (v,[]):=Zc7 hc ht ha
theorem ZuZ(hc:e x=.b t)(ht:t=false)(ha:e q=v):act rd nr e (.pick x p q)=some (v,[]):=Zci hc ht ha
theorem ZuX(hx:e x=.ag cs)(hi:e i=.i K z)(h0:0<=z/\z<(n:Int))(h:ZbG agg cs (z.toNat*sz) sz=some v):act rd nr e (.ix agg sz n x i)=some (v,[]):=Zuo hx hi h0 h
end
theorem Ztj:Ex.ret≠Ex.normal:=nofun
theorem Zti{i:Nat}:Ex.exit i≠Ex.normal:=nofun
theorem ZrU{rs:List Res}{Q:V->Hp->Prop}{e:Ex}{fr:Fr}{h:Hp}{vs:List V}(he:e=.ret\/e=.normal)(hv:ZbO fr h rs=some vs)(hq:Q (Zka vs) h):Ret rs Q e fr h:=by
 rcases he with rfl|rfl
 .exact Zby hv hq
 .exact ZrV hv hq
section
variable {N:Prog}{Q:Fr->Hp->Prop}{fr:Fr}{h:Hp}{d:Option Nat}{op:Op}{l:List Oper}{j:Nat}{w t:Bool}
theorem Zu3(hj:fr j=.b t)(ht:t=w)(hk:WO N (⟨d,op,none⟩::l) Q fr h):WO N (⟨d,op,some (j,w)⟩::l) Q fr h:=zD hj ht hk
theorem ZsJ(hj:fr j=.b t)(ht:t=!w)(hk:WO N l Q (fr.put d .un) h):WO N (⟨d,op,some (j,w)⟩::l) Q fr h:=ZX hj ht hk
end

theorem ow_{B:Nat->Prop}{h k:Hp}{Ω:List Ent}(H:Own B h k Ω:=by first|(first|assumption|(apply Own.bump;assumption))|fail):Own B h k Ω:=H
theorem rdv{a b:V}(h:a=b:=by first|((conv=>lhs;whnf)<;>rfl)|fail):a=b:=h
theorem ob_{B:Nat->Prop}{h k:Hp}{Ω:List Ent}(H:Own B h k Ω:=by first|((apply Own.bor HO;first|assumption|(apply Own.bump;assumption)))|fail):Own B h k Ω:=H
theorem sn_{Ω:List Ent}{f:Ent->List Ent}(h:Sn Ω f:=by first|(solve|(repeat first|exact Sn.z|apply Sn.s))|fail):Sn Ω f:=h
theorem up_{e:Ent}{Ω:List Ent}{f:Ent->List Ent}(h:Up e Ω f:=by first|(solve|(repeat first|exact Up.z|apply Up.s))|fail):Up e Ω f:=h
theorem fb_{r:Nat}{cs:List V}{Ω:List Ent}(h:FB r cs Ω:=by first|(solve|(repeat first|exact FB.z|apply FB.s))|fail):FB r cs Ω:=h
theorem dl_{e:Ent}{Ω Ω':List Ent}(h:Dl e Ω Ω':=by first|(solve|(repeat first|exact Dl.z|apply Dl.s))|fail):Dl e Ω Ω':=h
theorem ov_{cs ws cs':List V}{o:Nat}(h:Ov cs o ws cs':=by first|(first|(apply Ov.f;rfl)|solve|(repeat first|exact Ov.z|apply Ov.w|apply Ov.s))|fail):Ov cs o ws cs':=h
section
variable {α:Type}{E:Enc α}{v:V}{l:List α}{Ω:List Ent}{vs:List V}{ll:List (List α)}{k:Hp}{r n j:Nat}{cs ws:List V}
theorem fs_(h:FS E v l Ω:=by first|(solve|(repeat first|exact FS.z|apply FS.s))|fail):FS E v l Ω:=h
theorem fa_(h:FA E vs ll Ω:=by first|(solve|(repeat first|exact FA.z|apply FA.s))|fail):FA E vs ll Ω:=h
theorem ln_(h:vs.length=n:=by first|(first|assumption|(apply lnA;exact ow_;exact fa_))|fail):vs.length=n:=h
theorem sk_(h:Sl E k v l:=by first|(first|(apply lkS;exact ow_;assumption)|(apply lkR;exact ow_;assumption)|(apply lkO;exact ow_;exact fs_)|(apply lkN;exact ow_;assumption;first|assumption|(apply Zu;assumption))|(apply lkM;exact ow_;assumption;first|assumption|(apply Zu;assumption))|(apply lkA;exact ow_;exact fa_;first|assumption|(apply Zu;assumption))|(apply lkR;exact ob_;assumption)|(apply lkM;exact ob_;assumption;first|assumption|(apply Zu;assumption))|exact Sl.nil)|fail):Sl E k v l:=h
theorem sc_(h:Sl E k v l:=by first|(first|exact sk_|(apply Sl.cutF;exact sk_;assumption)|(apply Sl.cutU;exact sk_;assumption)|(apply Sl.cutB;exact sk_;assumption))|fail):Sl E k v l:=h
theorem bx_(h:∃w,k.m r=some (.cells w cs):=by first|(first|(apply Zu6;exact ow_;exact fb_)|(apply ZqI;exact ow_;assumption)|(apply ZqJ;exact ow_;assumption))|fail):∃w,k.m r=some (.cells w cs):=h
theorem ic_{z:Int}{n:Nat}(h:0<=z/\z<(n:Int):=by first|(first|assumption|(apply lnC;exact ln_;assumption))|fail):0<=z/\z<(n:Int):=h
theorem jl_{n:Nat}(h:j<n:=by first|(first|assumption|(apply Zu;assumption)|(apply lnD;exact ln_;apply Zu;assumption))|fail):j<n:=h
theorem cl_(h:v.cells=ws:=by first|(first|apply ZsB|apply Zuy|apply Zuw|apply Zuz|apply ZsC|apply ZsD|apply Zux|(apply Sl.cells;exact sk_))|fail):v.cells=ws:=h
theorem ZlX(h:ws.all V.one=true:=by first|(solve|(repeat first|exact all_nil|(apply all_cons;first|rfl|(apply Sl.oneV;exact sk_))))|fail):ws.all V.one=true:=h
theorem hn_{h:Hp}{nr:Nat}(h':k.m nr=none/\h.n<=nr:=by first|(first|(apply Own.fr;exact ow_)|(apply Fq.fr;assumption;exact Nat.le_of_ble_eq_true rfl;exact Nat.le_of_ble_eq_true rfl))|fail):k.m nr=none/\h.n<=nr:=h'
theorem fi_{e:Opd->V}{ps:List (Nat×Nat×Opd)}(h:Fi e cs ps ws:=by first|(solve|(repeat first|exact Fi.n|(apply Fi.c;exact rdv;exact cl_;rfl;exact ov_)))|fail):Fi e cs ps ws:=h
theorem ml_{sz:Nat}(h:MkL E sz cs l:=by first|(solve|(repeat first|exact MkL.n|(apply MkL.c;(solve|(repeat first|exact Ch.z|apply Ch.s));infer_instance)))|fail):MkL E sz cs l:=h
theorem zr_{n:Nat}(h:Zr ws n cs:=by first|(solve|(repeat first|exact Zr.z|apply Zr.s|rfl))|fail):Zr ws n cs:=h
theorem od_{b:Nat}(h:∀q∈Za0 v,q<b:=by first|(first|(apply ZuG;assumption;exact fb_)|(apply ZuL;assumption;exact fs_)|(apply ZuJ;assumption;assumption)|(apply Ztm;assumption;assumption;exact jl_)|(apply ZuK;assumption;assumption)|(apply Ztl;assumption;assumption;exact jl_)|(apply ZuF;exact ow_;exact fa_;exact jl_)|(apply ZuI;exact ow_;assumption;exact jl_;exact jl_)|(apply ZuH;exact ow_;assumption;exact jl_;exact jl_))|fail):∀q∈Za0 v,q<b:=h
theorem pk_{l Ω R:List Ent}(h:Pk l Ω R:=by first|(solve|(repeat first|exact Pk.z|(apply Pk.s;exact dl_)))|fail):Pk l Ω R:=h
end
section
variable {rd:Nat->Option Obj}{nr:Nat}{e:Opd->V}{o:Option (V×List (Nat×Obj))}
theorem Ztk{p:BinOp}{x y:Opd}(h:act rd nr e (.bin p x y)=o:=by first|(first|(apply Zam;rfl;rfl;assumption)|(apply ZaH;rfl;rfl)|(apply Zle;rfl;rfl;assumption)|(apply Zlb;rfl;rfl)|(apply Zlc;rfl;rfl)|(apply Zs3;rfl;rfl)|(apply Zf5;rfl;rfl;(first|decide|assumption))|(apply Zie;rfl;rfl;assumption)|(apply Zld;rfl;rfl;assumption)|(apply Zqh;rfl;rfl;assumption)|(apply Zt5;rfl;rfl)|(apply ZuY;rfl;rfl)|(apply ZtH;rfl;rfl)|(apply ZnG;rfl;rfl)|(apply Zt4;rfl;rfl;rfl)|(apply ZtG;rfl;rfl;rfl)|(apply ZtD;rfl;rfl;rfl)|(apply ZtE;rfl;rfl;(first|assumption|decide))|(apply ZtF;rfl;rfl;(first|assumption|decide)))|fail):act rd nr e (.bin p x y)=o:=h
theorem ZuD{n:Bool}{q:Eq}{x y:Opd}(h:act rd nr e (.eq n q x y)=o:=by first|(first|(apply Zem;rfl;rfl)|(apply Zf4;rfl;rfl)|(apply Zsx;rfl;rfl)|(apply Zp2;rfl;rfl)|(apply Zsy;rfl;rfl)|(apply Zs4;rfl;rfl)|(apply Zqd;rfl;rfl)|(apply Zqe;rfl;rfl)|(apply Zs0;rfl;rfl)|(apply Zs5;rfl;rfl)|(apply Zla;rfl;rfl;(apply Zc.same))|(apply Zmy;rfl;rfl;(apply Zc.same))|(apply Zla;rfl;rfl;(apply ZU.same))|(apply Zmy;rfl;rfl;(apply ZU.same))|(apply Zla;rfl;rfl;(apply Zy.same))|(apply Zmy;rfl;rfl;(apply Zy.same)))|fail):act rd nr e (.eq n q x y)=o:=h
theorem ZuE{p:UnOp}{x:Opd}(h:act rd nr e (.un p x)=o:=by first|(first|(apply ZeU;rfl)|(apply Zp3;rfl;assumption))|fail):act rd nr e (.un p x)=o:=h
theorem ZoW{op:Op}(h:act rd nr e op=o:=by first|(first|(apply ZnZ;exact rdv)|(apply ZuW;rfl)|(apply ZbV;rfl;rfl)|(apply Zr6;exact rdv;rfl;exact sc_;exact ln_)|(apply ZtC;exact rdv;rfl;exact sc_)|(apply Zt7;exact rdv;rfl;rfl;exact sc_;rfl;exact ic_)|(apply Zt9;rfl;exact sc_;exact jl_;(first|rfl|(apply ZbN;assumption)|(apply Zbh;assumption)|(apply Zcg;assumption)|(apply Zbw;assumption)|(apply Zcz;assumption)|(apply ZdN;assumption)|(apply Zfw;assumption)|(apply Zfv;assumption)|(apply ldm (E:=ZbI);infer_instance;apply Zfw;assumption)|(apply ldm (E:=Zl);infer_instance;apply Zfv;assumption));(try infer_instance))|(apply ZtB;rfl;exact bx_;(first|rfl|(apply ZbN;assumption)|(apply Zbh;assumption)|(apply Zcg;assumption)|(apply Zbw;assumption)|(apply Zcz;assumption)|(apply ZdN;assumption)|(apply Zfw;assumption)|(apply Zfv;assumption)|(apply ldm (E:=ZbI);infer_instance;apply Zfw;assumption)|(apply ldm (E:=Zl);infer_instance;apply Zfv;assumption)))|(apply Zpr;exact fi_)|(apply Zr5;rfl;exact bx_;rfl)|(apply Zt6;rfl;rfl;exact sc_;exact jl_)|(apply Zt8;rfl;exact sc_;(try infer_instance);rfl;exact jl_)|(apply ZtA;rfl;exact sc_;exact jl_;rfl;(try infer_instance))|(apply Zmx;((conv=>lhs;simp only[List.map])<;>rfl))|(apply Zcr;rfl)|(apply Zqg;rfl)|(apply Zr7;rfl;rfl;exact sc_;exact jl_)|(apply Zs1;rfl;rfl)|(apply Zr4;rfl;rfl;(first|assumption|decide))|(apply Zps;rfl;rfl;rfl;exact sc_;exact jl_;(first|assumption|decide))|(apply Zva;rfl;(first|assumption|rfl);exact rdv)|(apply ZuZ;rfl;(first|assumption|rfl);exact rdv)|(apply Zfa;rfl;assumption)|(apply Zuq;rfl;rfl)|(apply Zup;rfl;rfl)|(apply Zm2;rfl)|(apply Zp0;rfl;rfl;assumption)|(apply Zr9;exact rdv;rfl;rfl;exact sc_;rfl;assumption)|(apply ZrA;exact rdv;rfl;rfl;exact sc_;rfl;assumption)|(apply Zr8;exact rdv;rfl;rfl;rfl;exact sc_;rfl;assumption)|(apply ZuX;rfl;rfl;assumption;(first|rfl|(apply Zip;assumption)|(apply ixm (E:=ZbI);infer_instance;apply Zip;assumption)|(apply Zio;assumption)|(apply ixm (E:=Zl);infer_instance;apply Zio;assumption)))|(refine Ztk)|(refine ZuD)|(refine ZuE))|fail):act rd nr e op=o:=h
end
theorem xx_{k:Hp}{nr:Nat}{e:Opd->V}{op:Op}{P:V->Hp->Prop}(h:X k nr e op P:=by first|(first|(apply Zpw;exact ow_;exact hn_;exact sn_)|(apply ZrL;exact ow_;exact hn_;exact sn_;exact rdv;exact cl_)|(apply ZrO;rfl;exact ow_;exact up_;exact rdv;exact cl_;exact ov_;infer_instance;exact ZlX;rfl;exact Nat.le_of_ble_eq_true rfl)|(apply ZtU;rfl;exact ow_;exact up_;exact rdv;exact cl_;exact ov_;exact ZlX;exact⟨rfl,Nat.le_of_ble_eq_true rfl⟩)|(apply ZtV;rfl;exact ow_;exact up_;exact rdv;exact cl_;exact jl_;exact ov_;infer_instance;exact ZlX;rfl;exact Nat.le_of_ble_eq_true rfl;(try infer_instance))|(apply ZnN;rfl;exact ow_;exact up_;exact rdv;exact cl_;(first|(apply Zei;assumption)|(apply ZdP;assumption)|(apply Zi2;assumption)|(apply Zg7;assumption));exact ZlX;rfl;exact Zjc;(apply Zp9;assumption;decide))|(apply ZnO;rfl;exact ow_;exact up_;exact rdv;exact cl_;exact jl_;(first|(apply Zei;assumption)|(apply ZdP;assumption)|(apply Zi2;assumption)|(apply Zg7;assumption));exact ZlX;rfl;exact Zjc;(apply Zp9;assumption;decide);(try infer_instance))|(apply ZrI;exact rdv;exact ow_;exact hn_;exact rdv;exact sc_;exact dl_;exact up_;exact up_;assumption;decide)|(apply ZrJ;rfl;exact ow_;exact hn_;exact rdv;exact sc_;exact sn_;exact dl_;exact sn_;exact up_;exact up_;decide)|(apply ZtP;exact rdv;exact ow_;exact up_;rfl;exact hn_;exact rdv;exact sc_;(exact λ_=>rfl);assumption;decide)|(apply ZrK;rfl;exact ow_;exact sn_;exact hn_;exact rdv;exact sc_;rfl;(exact λ_=>rfl);(first|assumption|decide);decide)|(apply ZrP;rfl;exact ow_;exact up_;exact rdv;exact cl_;exact jl_;exact jl_;exact ov_;infer_instance;exact ZlX;rfl;exact Nat.le_of_ble_eq_true rfl;(try infer_instance))|(apply ZtS;exact rdv;exact ow_;exact up_;rfl;exact rdv;exact sc_;(exact λ_=>rfl))|(apply ZrN;exact rdv;exact ow_;exact up_;rfl;assumption;exact rdv;exact sc_;(exact λ_=>rfl))|(apply ZrM;exact rdv;exact ow_;exact up_;assumption;infer_instance;(exact λ_=>rfl)))|fail):X k nr e op P:=h
theorem ze_{α:Type}{E:Enc α}{k:Hp}{nr:Nat}{e:Opd->V}{op:Op}{P:V->Hp->Prop}(h:Via E (X k nr e op P):=by first|(first|(apply ZtQ;rfl;exact ow_;exact hn_;exact sn_;exact rdv;exact cl_;infer_instance;exact⟨rfl,rfl⟩)|(apply ZtR;rfl;exact ow_;exact hn_;exact sn_;exact zr_;exact fi_;exact ml_;rfl)|(apply ZtT;rfl;exact ow_;exact hn_;exact sn_;rfl;rfl;infer_instance;assumption;decide))|fail):Via E (X k nr e op P):=h
theorem ap_{l:List Ent}{f:List Ent->List Ent}(h:Ap l f:=by first|(solve|(repeat first|exact Ap.z|apply Ap.s))|fail):Ap l f:=h
theorem S3{P P':Prop}(k:P')(s:P'->P:=by first|(first
 |(with_reducible first|apply zw|apply Za5|apply ZC|apply Zey|apply ZaB|apply Zcp|apply Zaz|apply ZaI|apply ZeV|apply ZaU|apply ZbX|apply Zcx|(apply Zs8;decide))
 |(apply Ze;exact ZoW)|apply Z8|(apply Zu3;rfl;(first|assumption|rfl))|(apply ZsJ;rfl;(first|assumption|rfl))|(apply Zss;rfl)
 |(apply Zui;rfl;rfl;rfl;exact ZoW)|(apply Zuh;rfl;rfl;rfl;exact ZoW)|(apply Zuj;rfl;exact od_;rfl;exact ZoW)|apply Zug|(apply Zsk;rfl;(first|assumption|rfl))|(apply ZpW;rfl;(first|assumption|rfl))|(apply Zsl;rfl)
 |(apply Zul;rfl;exact ow_)|(apply ZpZ;rfl;(first|assumption|rfl))|(apply ZpY;rfl;(first|assumption|rfl))
 |(apply Zsm;exact xx_)|(apply Zse;(first|exact .inl ⟨rfl,rfl,rfl⟩|exact .inr rfl);assumption;exact Nat.le_of_ble_eq_true rfl;exact xx_))|fail):P:=s k
def Hv{α:Type}(E:Enc α):Prop:=True
theorem hv{α:Type}(E:Enc α):Hv E:=trivial
theorem SE{α:Type}{E:Enc α}(e:Hv E){P P':Prop}(k:P')(s:Via E (P'->P):=by first|(first|(apply ZtM;exact ze_)|(apply ZtL;(first|exact .inl ⟨rfl,rfl,rfl⟩|exact .inr rfl);assumption;exact Nat.le_of_ble_eq_true rfl;exact ze_))|fail):P:=s k
theorem ZuC{b:Bool}{P:Prop}(h:b=false):b=true->P:=λh'=>by rw[h]at h';cases h'
theorem pq_{l Ω:List Ent}(h:Pq l Ω:=by first|(solve|(repeat first|exact Pq.z|(apply Pq.s;exact dl_)|apply Pq.n|apply Pq.a|(apply Pq.u;exact dl_;assumption)|(apply Pq.f;exact dl_;assumption)))|fail):Pq l Ω:=h
theorem rR_{k k':Hp}{bs:Nat}{P:Prop}(h:P->∀r,r<bs->k'.m r=k.m r:=by first|(repeat' first|refine exI ?_|refine owB (by assumption)|refine anI ?_|intro _)|fail):P->∀r,r<bs->k'.m r=k.m r:=h
theorem pr_{b:Bool}{P:Prop}(h:b=true->P:=by first|(first|exact ZuC rfl|exact λ_ _ _ _=>rR_)|fail):b=true->P:=h
theorem rd_{P:Prop}(h:P:=by first|(first|(apply Sl.rd;assumption)|exact ZuR|(apply ZuQ;assumption;exact jl_)|(intro _ _;apply Rd.of_N;assumption;assumption))|fail):P:=h
theorem cls{P:Prop}(h:P:=by first|(first|exact rfl|exact trivial|assumption|exact Ztj|exact Zti|(apply Own.pqs;exact ow_;exact pq_)|exact Zuu|exact rd_|(apply gq_;rfl;first|(apply Own.pqs;exact ow_;exact pq_)|exact⟨ow_,by assumption⟩))|fail):P:=h
theorem sdl{P:Prop}(h:P:=by first|(first|assumption|(intro _ _;first|(apply lkN;exact ow_;assumption;assumption)|(apply lkM;exact ow_;assumption;assumption)|(apply lkA;exact ow_;exact fa_;assumption)|(apply Rd.of_N;assumption;assumption))|exact sc_|(apply Own.nil0;assumption)|(apply Sl.rd;assumption)|(apply Pk.toM;exact ow_;exact pk_)|(apply lkB;exact ow_;exact fb_)|(apply ZsO;exact ow_;assumption)|(apply ZsP;exact ow_;assumption)|exact ln_|(intros;apply f0<;>first|assumption|(apply ZsF;exact ow_;assumption))|(intros;have hO:=Own.mv ow_ (by assumption);first|(apply c0 (hp:=by assumption)<;>exact sdl)|(apply c1 (hp:=by assumption)<;>exact sdl)|(apply c2 (hp:=by assumption)<;>exact sdl)|(apply c3 (hp:=by assumption)<;>exact sdl)|(apply c4 (hp:=by assumption)<;>exact sdl)|(apply c5 (hp:=by assumption)<;>exact sdl)|(apply c6 (hp:=by assumption)<;>exact sdl)|(apply c7 (hp:=by assumption)<;>exact sdl)|(apply c8 (hp:=by assumption)<;>exact sdl)|(apply c9 (hp:=by assumption)<;>exact sdl)|(apply c10 (hp:=by assumption)<;>exact sdl)|(apply c11 (hp:=by assumption)<;>exact sdl)))|fail):P:=h
theorem ZsE{fr:Fr}{l:List Opd}{vs:List V}(h:Ev fr l vs:=by first|(solve|(repeat first|exact Ev.n|(apply Ev.c;exact rdv)))|fail):Ev fr l vs:=h
theorem Zuv{l ws r:List V}(h:Cat l ws r:=by first|(solve|(repeat first|exact Cat.z|apply Cat.s))|fail):Cat l ws r:=h
theorem rms{l:List Key}{Ω R:List Ent}(h:Rm l Ω R:=by first|(solve|(repeat first|exact Rm.z|(apply Rm.s;(solve|(repeat first|exact R1.zr|exact R1.zv|exact R1.za|apply R1.s)))))|fail):Rm l Ω R:=h
theorem vl_{l:List Bx}{Ω:List Ent}{az vs:List V}(h:Vl Ω az l vs:=by first|(solve|(repeat first|exact Vl.z|(apply Vl.s;exact fb_;rfl)|(apply Vl.t;exact fb_;rfl)))|fail):Vl Ω az l vs:=h
theorem lh_{α β:Type}{p:Option α}{F:α->Option β}{r:β}(h:p.bind F=some r:=by first|(first|apply hp|(apply bdT;apply hp))|fail):p.bind F=some r:=h
theorem Zjc{a b:Nat}(h:a=b:=by first|((conv=>lhs;whnf)<;>rfl)|fail):a=b:=h
theorem ZqC{j q:Nat}{l l1 l2:List (Nat×Oper)}(h:GrQ j l l1 q l2:=by first|(solve|(repeat first|exact GrQ.z|apply GrQ.s))|fail):GrQ j l l1 q l2:=h
theorem gr_{j q:Nat}{l l1 l2:List Oper}(h:Gr j l l1 q l2:=by first|(solve|(repeat first|exact Gr.z|apply Gr.s))|fail):Gr j l l1 q l2:=h
theorem S4{P P':Prop}(k:P')(s:P'->P:=by first|(first|exact prI|exact unI|exact exI|exact kpI (by assumption)|exact anI|(apply ZrU;(first|exact .inl rfl|exact .inr rfl);(solve|(repeat first|exact ZaF|(apply Zcd;exact rdv)|(apply ZuT;rfl;exact bx_;rfl))))|(apply Zut;exact rdv))|fail):P:=s k
theorem S8{P P':Prop}(k:P')(s:P'->P:=by first|(first|exact owF (by assumption) ow_ ap_|exact ZuO (by assumption) ow_ pk_ ap_|exact owI ow_ ap_|exact Ztq ow_ pk_ ap_)|fail):P:=s k
theorem S5{P P1 P2:Prop}(k1:P1)(k2:P2)(s:P1->P2->P:=by first|(first|(apply ZaC;apply hp;rfl)|exact suI|exact And.intro)|fail):P:=s k1 k2
theorem au0{P:Prop}(h:P:=by first|(repeat' first|refine S3 ?_|refine SE e0 ?_|refine SE e1 ?_|refine SE e2 ?_|refine SE e3 ?_|refine SE e4 ?_|refine SE e5 ?_|refine SE e6 ?_|refine SE e7 ?_|refine ckk hp λ_ hp=>?_|with_reducible refine cbk hp λ_ hp=>?_|(refine Zrh ?_;intro _ hp)|refine S5 ?_ ?_|(apply Zsq;(first|apply hp|(apply bdT;apply hp));rfl;exact gr_;exact Zjc;exact ow_)|(apply Zso;rfl;exact gr_;exact Zjc;exact ow_)|(apply Zsp;rfl;exact gr_;exact Zjc;exact ow_)|(apply Zsj;(first|apply hp|(apply bdT;apply hp));rfl;exact ZqC;exact Zjc;exact ow_;assumption)|(apply Zsh;rfl;exact ZqC;exact Zjc;exact ow_;assumption)|(apply Zsi;rfl;exact ZqC;exact Zjc;exact ow_;assumption)|((first|apply ZrH|apply ZnU);(first|apply hp|(apply bdT;apply hp));rfl;exact ZsE;exact Zuv;exact⟨by decide,rfl⟩;(refine Zrh ?_;intro _ hq;first|(apply c0 (hp:=hq)<;>exact sdl)|(apply c1 (hp:=hq)<;>exact sdl)|(apply c2 (hp:=hq)<;>exact sdl)|(apply c3 (hp:=hq)<;>exact sdl)|(apply c4 (hp:=hq)<;>exact sdl)|(apply c5 (hp:=hq)<;>exact sdl)|(apply c6 (hp:=hq)<;>exact sdl)|(apply c7 (hp:=hq)<;>exact sdl)|(apply c8 (hp:=hq)<;>exact sdl)|(apply c9 (hp:=hq)<;>exact sdl)|(apply c10 (hp:=hq)<;>exact sdl)|(apply c11 (hp:=hq)<;>exact sdl)|(apply c12 (hp:=hq)<;>exact sdl)|(apply c13 (hp:=hq)<;>exact sdl)|(apply c14 (hp:=hq)<;>exact sdl)|(apply c15 (hp:=hq)<;>exact sdl)|(apply c16 (hp:=hq)<;>exact sdl)|(apply c17 (hp:=hq)<;>exact sdl)|(apply c18 (hp:=hq)<;>exact sdl)|(apply c19 (hp:=hq)<;>exact sdl)|(apply c20 (hp:=hq)<;>exact sdl)|(apply c21 (hp:=hq)<;>exact sdl)|(apply c22 (hp:=hq)<;>exact sdl)|(apply c23 (hp:=hq)<;>exact sdl));try exact pr_)|((first|apply Zpv|apply Zmq);(first|apply hp|(apply bdT;apply hp));rfl;exact ZsE;rfl;(refine Zrh ?_;intro _ hq;first|(apply f0<;>first|exact hq|exact Own.ext ow_|exact sdl)|(apply f1<;>first|exact hq|exact Own.ext ow_|exact sdl)|(apply f2<;>first|exact hq|exact Own.ext ow_|exact sdl));try exact pr_)|((first|(apply l0;exact lh_)|(apply l1;exact lh_)|(apply l2;exact lh_)|(apply l3;exact lh_)|(apply l4;exact lh_)|(apply l5;exact lh_)|(apply l6;exact lh_)|(apply l7;exact lh_)|(apply l8;exact lh_)|(apply l9;exact lh_)|(apply l10;exact lh_)|(apply l11;exact lh_)|(apply l12;exact lh_)|(apply l13;exact lh_)|(apply l14;exact lh_)|(apply l15;exact lh_)|(apply l16;exact lh_)|(apply l17;exact lh_)|(apply l18;exact lh_)|(apply l19;exact lh_));exact ow_;exact vl_;exact rms;exact Zjc)|(refine ifk hp (λb_ hp=>?_) (λb_ hp=>?_)<;>subst b_)|with_reducible refine bas hp λhp=>?_|exact cls|(refine S8 ?_;intro _)|refine S4 ?_|(refine hpI ?_;intro hp)|rintro rfl|intro _|(obtain rfl:=Option.some.inj hp;clear hp)|apply Exists.intro|exact noS hp)|fail):P:=h
theorem au{P:Prop}(h:P:=by first|((refine WC.is (Zde ?_);have hO:=Own.start0 h;exact au0))|fail):P:=h
theorem aw{P:Prop}(h:P:=by first|((refine WC.is (Zde ?_);exact au0))|fail):P:=h
end Mu
