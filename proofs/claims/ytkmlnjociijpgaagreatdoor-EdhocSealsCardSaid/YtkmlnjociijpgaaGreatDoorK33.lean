/- squeezed. Walks: Extract and Expand of the r -/
import Derived.Test.YtkmlnjociijpgaaGreatDoorK32
set_option linter.unusedVariables false
set_option linter.unusedSimpArgs false
set_option maxRecDepth 100000
set_option maxHeartbeats 12800000
namespace Go.Proofs.YtkmlnjociijpgaaGreatDoor
open Go.RowKit
theorem jaZ{P:Prop}(h:P:=by
 go_wp2_with fail
 refine K.out.mono ?_
 rintro e w1 ⟨A1,c1,H1,rfl,rs,zY⟩
 have K2:=Hh (KB.out w1 H1 rs);rw[show((m+1:Nat):Int)=(m:Int)+1 from by omega]at K2;have HG:=Hh rs;have Rq:=Hh zY;clear K KB rs zY;go_wp2_with fail
 refine K2.out.mono ?_
 rintro e w2 ⟨A2,c2,H2,rfl,xq,zD⟩
 have Cq:=Hh (HG.out.trans xq);have Ck:=Hh (Rq.out.mono xq.le);have Cj:=Hh zD;clear K2 xq zD HG Rq;go_wp2_with fail
 go_ret3
 exact .inl ⟨E.out,_,_,_,_,_,rfl,Cq.out,by rw[tD,Int.toNat_natCast];exact Ck.out,by rw[ivM,Int.toNat_natCast];exact Cj.out⟩):P:=h
theorem jbF{P:Prop}(h:P:=by
 go_wp2_with fail
 refine K.out.mono ?_
 rintro e w1 ⟨A1,c1,H1,rfl,rs,zY⟩
 have HB:=Hh rs.below;clear K rs zY;go_wp2_with fail
 refine(KB.out _).mono ?_
 rintro e w2 ⟨rfl,rfl⟩
 clear KB;go_wp2_with fail
 go_ret3
 exact .inr ⟨E.out,rfl,HB.out⟩):P:=h
theorem jbJ{P:Prop}(h:P:=by
 have HG:=Hh (Grows.of_below HH.out zE);clear Y7 au zE xX xE JN HW;go_wp2_with fail
 refine EX.out.mono ?_
 rintro e w6 ⟨A6,c6,H6,rfl,y8,wS⟩
 have vm:=HG.out.trans y8;clear y8 EX HG;go_wp2_with fail
 go_ret2
 exact⟨_,_,_,rfl,vm,wS⟩):P:=h
theorem jcn{P:Prop}(h:P:=by
 go_wp2_with fail
 refine K.out.mono ?_
 rintro e w1 ⟨rfl,rfl⟩
 clear K;go_wp2_with fail
 go_ret3
 exact .inr ⟨E.out,rfl,Below.refl _ _⟩):P:=h
theorem jhF{P:Prop}(h:P:=by have xE:=yR.alloc yR.size (.cells #[.slice A1 n1a c1,.slice A2 n2a c2,.slice A3 n3a c3] 22);exact xE):P:=h
theorem jhK{P:Prop}(h:P:=by have HN:=Hh (And.intro hn (And.intro wP (And.intro hk (And.intro hc (And.intro hl eJ)))));exact HN):P:=h
theorem bH {A:Option Addr}{c:Nat}{prk:List UInt8}{np:Nat}(hn:np=prk.length) (wP:prk.length≤1099511627) {B:Option Addr}{d:Nat}{info:List UInt8}{ni:Nat}(hk:ni=info.length) (hmb:info.length≤1099510000) (n:Nat) (eJ:n≤8160) {H:Snap}(w:World) (hH:Holds w H) (hS:Src w A (prk.map zu)) (hT:Src w B (info.map zu)) :
  Calls Tryz.prog 130 #[.slice A np c,.slice B ni d,.int .i64 (n:Int)] w (Qg w H prk info n):=by
 have HN:=Hh (And.intro hn (And.intro hk (And.intro hmb eJ)));have HS:=Hh hS;have HT:=Hh hT;have HM:=Hh (fun(B':Option Addr) (d':Nat) (b:List UInt8) (k:Nat) (hk:k=b.length) (hmb:b.length≤1099511000) (w:World) (hS:Src w A (prk.map zu)) (hT:Src w B' (b.map zu))=>XK (c:=c) (d:=d') hn wP hk hmb w hS hT);have n1:¬ ((n:Int)<0):=by omega
 have n2:¬ ((8160:Int)<(n:Int)):=by omega
 have aZ:=Grows.refl hH;clear hn wP hk hmb eJ hS hT hH;go_enter Tryz.func130,Tryz.ntmps130
 go_wp2_with fail
 go_loopw [8,9,10] (fun v8 v9 v10 wr=>∃ (j no nt oc tc:Nat) (OA TA:Option Addr) (Hr:Snap),v8=.slice OA no oc∧v9=.slice TA nt tc∧v10=.int .i64 ((j:Int)+1)∧Hid (no=32*j∧32*j<n+32∧nt=(tE prk info j).length)∧OwnB wr w.heap.size (.slice OA no oc) (oE prk info j)∧Hid (∀ q,(Value.slice OA no oc).ownBlock=some q→Hr q=none)∧Hid (IsBytes Hr TA tc (tE prk info j))∧Grows w H wr Hr) (fun _ _ v10 _=>300-(intOf v10).toNat)
 case atStart=>exact⟨0,0,0,0,0,none,none,H,rfl,rfl,rfl,⟨rfl,by omega,rfl⟩,OwnB.nil _ _,(fun q hq=>by cases hq),IsBytes.nil _,aZ⟩
 case round =>
 clear aZ;obtain⟨j,no,nt,oc,tc,OA,TA,Hr,rfl,rfl,rfl,HJ,hO,HO,DK,hG⟩:=hrel
 by_cases z9:(no:Int)<(n:Int)
 ·have E6:(j:Int)+1<256:=by have:=HJ.out;have:=HN.out;omega
  have uH:Hid (32*(j+1)<n+32):=by have:=HJ.out.1;rw[Hid];omega
  have I0:Hid ((oE prk info j).length≤8192):=by have:=HJ.out;have:=HN.out;rw[Hid,sC];omega
  have K1:IntKind.u8.wrap ((j:Int)+1)=(j:Int)+1:=IntWalk.u8_in _ (by omega);have hb:=hG.below
  have oW:=SrcR.lit3 (n1:=nt) (c1:=tc) (n2:=ni) (c2:=d) (n3:=1) (c3:=1) (wr.alloc (.cells #[.int .u8 ((j:Int)+1)] 5)) 22 HJ.out.2.2 HN.out.2.1 (l3:=[UInt8.ofNat (j+1)]) rfl
   ((Src.of_row DK.out.row hG.holds).alloc _) ((HT.out.below hb).alloc _) (Src.new wr #[.int .u8 ((j:Int)+1)] 5 wr.heap.size rfl _ (by simp only[List.map_cons,List.map_nil];rw[aB (j+1) (by omega),Int.natCast_add];rfl))
  obtain⟨xq,ui⟩:=jfN;obtain⟨P0,al⟩:∃ P,wr.heap.size=P:=⟨_,rfl⟩
  obtain⟨w1,tv⟩:∃ w1,wr.alloc (.cells #[.int .u8 ((j:Int)+1)] 5)=w1:=⟨_,rfl⟩
  rw[al,tv]at oW xq ui;have jC:w1.heap.size=P0+1:=by rw[← tv,za,al]
  obtain⟨w2,qE⟩:∃ w2,w1.alloc (.cells #[.slice TA nt tc,.slice B ni d,.slice (some ⟨P0,0,none⟩) 1 1] 22)=w2:=⟨_,rfl⟩
  rw[qE]at oW xq ui;rw[jC]at oW;have HW:=Hh (And.intro al (And.intro tv qE));have JN:=Hh (XM (n:=3) (c:=3) rfl (by simp) (by have h1:=ku prk info j;have h2:=HN.out.2.2.1;simp;omega) w2 oW);exact jah
 have kS:=jhD;have tu:=sC prk info j;have rj:n≤(oE prk info j).length:=by rw[tu];have:=HJ.out.1;omega
 obtain⟨H6,Is,Im,vF,_,wS⟩:=hO.snap hG.holds (fun q hq=>HO.out q (by cases OA with | none=>cases hq | some p=>exact hq));have WZ:=wS.le;have Gx:(n:Int)≤(oc:Int):=by omega
 have HR:Hid (∃ A' c',A'=A'∧c'=c'):=⟨0,0,rfl,rfl⟩
 have y8:Grows w H wr H6:=⟨hG.below,hG.le.trans Is,Im,fun q o hq=>by
  rcases vF q o hq with h | h
  ·exact hG.fresh q o h
  exact .inr (hO.lt q (by cases OA with | none=>cases h | some p=>exact h)).1⟩
 have Cl:=Hh (wS.take' n);have HB7:=Hh wS.max;clear hO hG Is Im vF tu WZ rj wS HR;go_wp2_with fail
 go_ret2
 refine⟨_,_,H6,rfl,y8, ?_⟩
 rw[← kS.out]
 exact Cl.out
def Qh (w:World) (H:Snap) (b:List UInt8) (n:Nat) (e:Ending) (w':World):Prop:=∃ A c H',e=.returned (.tuple #[.slice A n c,.int .i64 0])∧Grows w H w' H'∧IsBytes H' A c b
theorem du {A:Option Addr}{c:Nat}{prk:List UInt8}{np:Nat}(hn:np=prk.length) (wP:prk.length≤1099511627) {B:Option Addr}{d:Nat}{ctx:List UInt8}{k:Nat}(hk:k=ctx.length) (hc:ctx.length≤2400) (label n:Nat) (hl:label≤1048576) (eJ:n≤8160) {H:Snap}(w:World) (hH:Holds w H) (hS:Src w A (prk.map zu)) (hT:Src w B (ctx.map zu)) :
  Calls Tryz.prog 88 #[.slice A np c,.int .i64 (label:Int),.slice B k d,.int .i64 (n:Int)] w (Qh w H (Uw prk label ctx n) n):=by
 have HN:=jhK;have HS:=Hh hS;have HT:=Hh hT;have n1:¬ ((label:Int)<0):=by omega
 have n2:¬ ((1048576:Int)<(label:Int)):=by omega
 have n3:¬ ((n:Int)<0):=by omega
 have n4:¬ ((8160:Int)<(n:Int)):=by omega
 have n5:¬ ((2400:Int)<(k:Int)):=by omega
 have HH:=Hh hH;have yB:=Below.refl w.heap.size w;clear hn wP hk hc hl eJ hS hT hH;go_enter Tryz.func88,Tryz.ntmps88
 go_wp2_with fail
 refine(lB (label:Int) (by have:=HN.out;omega) (by have:=HN.out;omega) _).mono ?_
 rintro e w1 ⟨r1,rfl,rv⟩
 obtain⟨A1,c1,rfl,_⟩:=rv.own.form;have xZ:=rv.own.src;have zY:=yB.trans (rv.2.mono yB.size);obtain⟨n1a,Y4⟩:∃ q,(va (label:Int)).length=q:=⟨_,rfl⟩
 rw[Y4];have YF:=Hh Y4;clear Y4 rv yB;go_wp2_with fail
 refine(vB (c:=d) HN.out.2.2.1 (by have:=HN.out;omega) _ (HT.out.below zY)).mono ?_
 rintro e w2 ⟨r2,rfl,sj⟩
 obtain⟨A2,c2,rfl,_⟩:=sj.own.form;have oX:=sj.own.src;replace xZ:=xZ.below sj.2;have zD:=jgN;obtain⟨n2a,Y5⟩:∃ q,(yL ctx).length=q:=⟨_,rfl⟩
 rw[Y5];have oP:=Hh Y5;clear Y5 sj zY;go_wp2_with fail
 refine(lB (n:Int) (by have:=HN.out;omega) (by have:=HN.out;omega) _).mono ?_
 rintro e w3 ⟨r3,rfl,tr⟩
 obtain⟨A3,c3,rfl,_⟩:=tr.own.form;have my:=tr.own.src;replace xZ:=xZ.below tr.2;replace oX:=oX.below tr.2;have yR:=jhJ;obtain⟨n3a,Y6⟩:∃ q,(va (n:Int)).length=q:=⟨_,rfl⟩
 rw[Y6];have PB:=Hh Y6;clear Y6 tr zD;have hl:=jgi;have xE:=jhF;obtain⟨P,hP⟩:∃ P,w3.heap.size=P:=⟨_,rfl⟩
 rw[hP]at hl;obtain⟨w4,av⟩:∃ w4,w3.alloc (.cells #[.slice A1 n1a c1,.slice A2 n2a c2,.slice A3 n3a c3] 22)=w4:=⟨_,rfl⟩
 rw[av]at hl xE;have HW:=Hh (And.intro hP av);have Hv:Hid ([va (label:Int),yL ctx,va (n:Int)].flatten=o9 label ctx n):=Tc label ctx n;have Rs:=Hh (dM label ctx n);have JN:=Hh (gA (n:=3) (c:=3) rfl (by simp) (by rw[Hv.out];have:=Rs.out;have:=HN.out;omega) w4 hl);clear hP av hl yR xZ oX my;go_wp2_with fail
 rw[HW.out.1,HW.out.2]
 refine JN.out.mono ?_
 rintro e w5 ⟨r5,rfl,xX⟩
 rw[Hv.out]at xX;obtain⟨A5,c5,rfl,_⟩:=xX.own.form;have au:=xX.own.src;have zE:=jhI;obtain⟨n5a,Y7⟩:∃ q,(o9 label ctx n).length=q:=⟨_,rfl⟩
 rw[Y7];have EX:=Hh (Wz (c:=c) (d:=c5) HN.out.1 HN.out.2.1 (ni:=n5a) Y7.symm (by have:=Rs.out;have:=HN.out;omega) n (by have:=HN.out;omega) w5 (HH.out.below zE (Nat.le_refl _)) (HS.out.below zE) au);exact jbJ
theorem dg {A:Option Addr}{c:Nat}{prk:List UInt8}{np:Nat}(hn:np=prk.length) (wP:prk.length≤1099511627) {B:Option Addr}{d:Nat}{ctx:List UInt8}{k:Nat}(hk:k=ctx.length) (hc:ctx.length≤2400) (label n:Nat) (hl:label≤1048576) (eJ:n≤8160) {H:Snap}(w:World) (hH:Holds w H) (hS:Src w A (prk.map zu)) (hT:Src w B (ctx.map zu)) :
  Calls Tryz.prog 93 #[.slice A np c,.int .i64 (label:Int),.slice B k d,.int .i64 (n:Int)] w (Qh w H (Uw prk label ctx n) n):=by
 have HN:=jhK;have HS:=Hh hS;have HT:=Hh hT;have n1:¬ ((label:Int)<0):=by omega
 have n2:¬ ((1048576:Int)<(label:Int)):=by omega
 have n3:¬ ((n:Int)<0):=by omega
 have n4:¬ ((8160:Int)<(n:Int)):=by omega
 have n5:¬ ((2400:Int)<(k:Int)):=by omega
 have HH:=Hh hH;have yB:=Below.refl w.heap.size w;have u1:IntKind.u64.wrap (label:Int)=(label:Int):=by rw[IntKind.wrap_u64];omega
 have u2:IntKind.u64.wrap (n:Int)=(n:Int):=by rw[IntKind.wrap_u64];omega
 clear hn wP hk hc hl eJ hS hT hH;go_enter Tryz.func93,Tryz.ntmps93
 go_wp2_with fail
 refine(te 0 (label:Int) _ (by omega) (by omega) (by omega) (by have:=HN.out;omega)).mono ?_
 rintro e w1 ⟨r1,rfl,rv⟩
 rw[show zV (0:Int).toNat (label:Int).toNat=zV 0 label from by rw[show(0:Int).toNat=0 from rfl,Int.toNat_natCast]]at rv;obtain⟨A1,c1,rfl,_⟩:=rv.own.form;have xZ:=rv.own.src;have zY:=yB.trans (rv.2.mono yB.size);obtain⟨n1a,Y4⟩:∃ q,(zV 0 label).length=q:=⟨_,rfl⟩
 rw[Y4];have YF:=Hh Y4;clear Y4 rv yB;go_wp2_with fail
 refine(iV (c:=d) HN.out.2.2.1 (by have:=HN.out;omega) _ (HT.out.below zY)).mono ?_
 rintro e w2 ⟨r2,rfl,sj⟩
 obtain⟨A2,c2,rfl,_⟩:=sj.own.form;have oX:=sj.own.src;replace xZ:=xZ.below sj.2;have zD:=jgN;obtain⟨n2a,Y5⟩:∃ q,(yL ctx).length=q:=⟨_,rfl⟩
 rw[Y5];have oP:=Hh Y5;clear Y5 sj zY;go_wp2_with fail
 refine(te 0 (n:Int) _ (by omega) (by omega) (by omega) (by have:=HN.out;omega)).mono ?_
 rintro e w3 ⟨r3,rfl,tr⟩
 rw[show zV (0:Int).toNat (n:Int).toNat=zV 0 n from by rw[show(0:Int).toNat=0 from rfl,Int.toNat_natCast]]at tr;obtain⟨A3,c3,rfl,_⟩:=tr.own.form;have my:=tr.own.src;replace xZ:=xZ.below tr.2;replace oX:=oX.below tr.2;have yR:=jhJ;obtain⟨n3a,Y6⟩:∃ q,(zV 0 n).length=q:=⟨_,rfl⟩
 rw[Y6];have PB:=Hh Y6;clear Y6 tr zD;have hl:=jgi;have xE:=jhF;obtain⟨P,hP⟩:∃ P,w3.heap.size=P:=⟨_,rfl⟩
 rw[hP]at hl;obtain⟨w4,av⟩:∃ w4,w3.alloc (.cells #[.slice A1 n1a c1,.slice A2 n2a c2,.slice A3 n3a c3] 22)=w4:=⟨_,rfl⟩
 rw[av]at hl xE;have HW:=Hh (And.intro hP av);have Hv:Hid ([zV 0 label,yL ctx,zV 0 n].flatten=o9 label ctx n):=Td label ctx n;have Rs:=Hh (dM label ctx n);have JN:=Hh (Zu (n:=3) (c:=3) rfl (by simp) (by rw[Hv.out];have:=Rs.out;have:=HN.out;omega) w4 hl);clear hP av hl yR xZ oX my;go_wp2_with fail
 rw[HW.out.1,HW.out.2]
 refine JN.out.mono ?_
 rintro e w5 ⟨r5,rfl,xX⟩
 rw[Hv.out]at xX;obtain⟨A5,c5,rfl,_⟩:=xX.own.form;have au:=xX.own.src;have zE:=jhI;obtain⟨n5a,Y7⟩:∃ q,(o9 label ctx n).length=q:=⟨_,rfl⟩
 rw[Y7];have EX:=Hh (bH (c:=c) (d:=c5) HN.out.1 HN.out.2.1 (ni:=n5a) Y7.symm (by have:=Rs.out;have:=HN.out;omega) n (by have:=HN.out;omega) w5 (HH.out.below zE (Nat.le_refl _)) (HS.out.below zE) au);exact jbJ
theorem mU (A:Option Addr) (np c:Nat) (label:Int) (B:Option Addr) (k d:Nat) (n:Int) (hl:label<0∨1048576<label) (w:World) :
  Calls Tryz.prog 88 #[.slice A np c,.int .i64 label,.slice B k d,.int .i64 n] w fun e w'=>e=.returned (.tuple #[.slice none 0 0,.int .i64 1])∧w'=w:=by
 by_cases h0:label<0
 ·have d0:decide (label<0)=true:=decide_eq_true h0;clear hl;go_enter Tryz.func88,Tryz.ntmps88
  exact jeu
 have d0:decide (label<0)=false:=decide_eq_false h0;have h1:(1048576:Int)<label:=by omega
 have d1:decide ((1048576:Int)<label)=true:=decide_eq_true h1;clear hl;go_enter Tryz.func88,Tryz.ntmps88
 exact jeu
theorem mR (A:Option Addr) (np c:Nat) (label:Int) (B:Option Addr) (k d:Nat) (n:Int) (hl:label<0∨1048576<label) (w:World) :
  Calls Tryz.prog 93 #[.slice A np c,.int .i64 label,.slice B k d,.int .i64 n] w fun e w'=>e=.returned (.tuple #[.slice none 0 0,.int .i64 1])∧w'=w:=by
 by_cases h0:label<0
 ·have d0:decide (label<0)=true:=decide_eq_true h0;clear hl;go_enter Tryz.func93,Tryz.ntmps93
  exact jeu
 have d0:decide (label<0)=false:=decide_eq_false h0;have h1:(1048576:Int)<label:=by omega
 have d1:decide ((1048576:Int)<label)=true:=decide_eq_true h1;clear hl;go_enter Tryz.func93,Tryz.ntmps93
 exact jeu
def ZM (w:World) (H:Snap) (prk:List UInt8) (label:Int) (th:List UInt8) (e:Ending) (w':World):Prop :=
 (tz label=0∧∃ KA kc NA nc H',e=.returned (.tuple #[.slice KA 16 kc,.slice NA 13 nc,.int .i64 0])∧Grows w H w' H'∧IsBytes H' KA kc (tD prk label th)∧IsBytes H' NA nc (ivM prk label th))∨
 (tz label=1∧e=.returned (.tuple #[.slice none 0 0,.slice none 0 0,.int .i64 1])∧Below w.heap.size w w')
theorem jY {A:Option Addr}{c:Nat}{prk:List UInt8}{np:Nat}(hn:np=prk.length) (wP:prk.length≤1099511627) {B:Option Addr}{d:Nat}{th:List UInt8}{k:Nat}(hk:k=th.length) (hc:th.length≤2400) (label:Int) {H:Snap}(w:World) (hH:Holds w H) (hS:IsBytes H A c prk) (hT:IsBytes H B d th) :
  Calls Tryz.prog 46 #[.slice A np c,.int .i64 label,.slice B k d] w (ZM w H prk label th):=by
 by_cases h0:label<0∨1048576<label
 ·have K:=Hh (mU A np c label B k d 16 h0 w);have E:=Hh (ov (label:=label) (by omega));clear hn wP hk hc hH hS hT h0;go_enter Tryz.func46,Tryz.ntmps46
  exact jcn
 obtain⟨m,rfl⟩:∃ m:Nat,label=(m:Int):=⟨label.toNat,by omega⟩
 have K:=Hh (du (c:=c) hn wP (d:=d) hk hc m 16 (by omega) (by omega) w hH (Src.of_row hS.row hH) (Src.of_row hT.row hH));have W1:IntKind.i64.wrap ((m:Int)+1)=(m:Int)+1:=IntWalk.i64_in _ (by omega)
 by_cases h1:m=1048576
 ·have KB:=Hh (fun w1=>mU A np c ((m:Int)+1) B k d 13 (.inr (by omega)) w1);have E:=Hh (ov (label:=(m:Int)) (by omega));clear hn wP hk hc hH hS hT h0 h1;go_enter Tryz.func46,Tryz.ntmps46
  exact jbF
 have E:=Hh (dN (label:=(m:Int)) (by omega) (by omega));have KB:=Hh (fun w1 H1 (hG:Grows w H w1 H1)=>du (c:=c) hn wP (d:=d) hk hc (m+1) 13 (by omega) (by omega) w1 hG.holds (Src.of_row (hS.mono hG.le).row hG.holds) (Src.of_row (hT.mono hG.le).row hG.holds));clear hn wP hk hc hH hS hT h0 h1;go_enter Tryz.func46,Tryz.ntmps46
 exact jaZ
theorem jR {A:Option Addr}{c:Nat}{prk:List UInt8}{np:Nat}(hn:np=prk.length) (wP:prk.length≤1099511627) {B:Option Addr}{d:Nat}{th:List UInt8}{k:Nat}(hk:k=th.length) (hc:th.length≤2400) (label:Int) {H:Snap}(w:World) (hH:Holds w H) (hS:IsBytes H A c prk) (hT:IsBytes H B d th) :
  Calls Tryz.prog 50 #[.slice A np c,.int .i64 label,.slice B k d] w (ZM w H prk label th):=by
 by_cases h0:label<0∨1048576<label
 ·have K:=Hh (mR A np c label B k d 16 h0 w);have E:=Hh (ov (label:=label) (by omega));clear hn wP hk hc hH hS hT h0;go_enter Tryz.func50,Tryz.ntmps50
  exact jcn
 obtain⟨m,rfl⟩:∃ m:Nat,label=(m:Int):=⟨label.toNat,by omega⟩
 have K:=Hh (dg (c:=c) hn wP (d:=d) hk hc m 16 (by omega) (by omega) w hH (Src.of_row hS.row hH) (Src.of_row hT.row hH));have W1:IntKind.i64.wrap ((m:Int)+1)=(m:Int)+1:=IntWalk.i64_in _ (by omega)
 by_cases h1:m=1048576
 ·have KB:=Hh (fun w1=>mR A np c ((m:Int)+1) B k d 13 (.inr (by omega)) w1);have E:=Hh (ov (label:=(m:Int)) (by omega));clear hn wP hk hc hH hS hT h0 h1;go_enter Tryz.func50,Tryz.ntmps50
  exact jbF
 have E:=Hh (dN (label:=(m:Int)) (by omega) (by omega));have KB:=Hh (fun w1 H1 (hG:Grows w H w1 H1)=>dg (c:=c) hn wP (d:=d) hk hc (m+1) 13 (by omega) (by omega) w1 hG.holds (Src.of_row (hS.mono hG.le).row hG.holds) (Src.of_row (hT.mono hG.le).row hG.holds));clear hn wP hk hc hH hS hT h0 h1;go_enter Tryz.func50,Tryz.ntmps50
 exact jaZ
theorem mV (suite:Int) (w:World):Calls Tryz.prog 45 #[.int .i64 suite,.bool true] w fun e w'=>e=.returned (.int .i64 (yI suite:Nat))∧w'=w:=by
 by_cases h0:suite=0
 ·subst h0;go_enter Tryz.func45,Tryz.ntmps45
  exact jal
 by_cases h1:suite=1
 ·subst h1;clear h0;go_enter Tryz.func45,Tryz.ntmps45
  exact jal
 have E:Hid (yI suite=0):=by rw[Hid,yI,if_neg h0,if_neg h1]
 have a0:(suite != 0)=true:=by rw[bne_iff_ne];exact h0
 have a1:(suite != 1)=true:=by rw[bne_iff_ne];exact h1
 have b0:(suite==0)=false:=by rw[beq_eq_false_iff_ne];exact h0
 have b1:(suite==1)=false:=by rw[beq_eq_false_iff_ne];exact h1
 have c0:=eq_false h0;have c1:=eq_false h1;clear h0 h1;go_enter Tryz.func45,Tryz.ntmps45
 exact jax
theorem dh (suite:Int) (w:World):Calls Tryz.prog 49 #[.int .i64 suite] w fun e w'=>e=.returned (.int .i64 (yI suite:Nat))∧w'=w:=by
 by_cases h0:suite=0
 ·subst h0;go_enter Tryz.func49,Tryz.ntmps49
  exact jal
 by_cases h1:suite=1
 ·subst h1;clear h0;go_enter Tryz.func49,Tryz.ntmps49
  exact jal
 have E:Hid (yI suite=0):=by rw[Hid,yI,if_neg h0,if_neg h1]
 have a0:(suite != 0)=true:=by rw[bne_iff_ne];exact h0
 have a1:(suite != 1)=true:=by rw[bne_iff_ne];exact h1
 have b0:(suite==0)=false:=by rw[beq_eq_false_iff_ne];exact h0
 have b1:(suite==1)=false:=by rw[beq_eq_false_iff_ne];exact h1
 have c0:=eq_false h0;have c1:=eq_false h1;clear h0 h1;go_enter Tryz.func49,Tryz.ntmps49
 exact jax
theorem ot {l:List UInt8}{q:Nat}(h:xz l=.error q):q≠0:=by
 unfold xz at h
 split at h
 ·exact jcJ
 split at h
 ·rename_i e hp
  injection h with h
  subst h
  exact zN _ _ _ _ hp
 split at h
 ·exact jcJ
 cases h
def Uk (i:Nat):List UInt8:=i.rec ((List.replicate 256 0).set 0 99) fun i l=>l.set (vE i).toNat (vE ((255-i)%255) ^^^ wu (vE ((255-i)%255)) 1 ^^^ wu (vE ((255-i)%255)) 2 ^^^ wu (vE ((255-i)%255)) 3 ^^^ wu (vE ((255-i)%255)) 4 ^^^ 99)
theorem bV:Uk 255=ri:=by decide +kernel
def YD (a:List UInt8) (i k:Nat):UInt8:=qN (at_ a (4*(i/4)+k)) ([2,3,1,1].getD ((k+4-i%4)%4) 0)
theorem NN (a:List UInt8) {i:Nat}(h:i<16):0 ^^^ YD a i 0 ^^^ YD a i 1 ^^^ YD a i 2 ^^^ YD a i 3=0 ^^^ iE a i 0 ^^^ iE a i 1 ^^^ iE a i 2 ^^^ iE a i 3:=by
 have hr:i%4=0∨i%4=1∨i%4=2∨i%4=3:=by omega
 rcases hr with e | e | e | e <;> simp only[YD,iE,e] <;> simp only[Nat.reduceAdd,Nat.reduceMod,Nat.reduceSub,List.getD_cons_succ,List.getD_cons_zero,UInt8.zero_xor] <;> ac_rfl
theorem Ue (x b:List UInt8) (n:Nat):xA x (b++List.replicate n 0)=xA x b:=by
 apply List.map_congr_left
 intro i hi
 congr 1
 simp only[at_,List.getD_eq_getElem?_getD]
 by_cases h:i<b.length
 ·rw[List.getElem?_append_left h]
 rw[List.getElem?_append_right (by omega),List.getElem?_eq_none (by omega:b.length≤i)]
 by_cases h2:i-b.length<n
 ·rw[List.getElem?_replicate_of_lt h2];rfl
 rw[List.getElem?_eq_none (by simp;omega)]
def mq (b:List UInt8):List UInt8:=b++List.replicate ((16-b.length%16)%16) 0
theorem pu (b:List UInt8):(mq b).length=16*((b.length+15)/16):=by simp[mq];omega
theorem k6 (key b x:List UInt8) (n j:Nat):uZ key (b++List.replicate n 0) x j=uZ key b x j:=by
 induction j with
 | zero=>rfl
 | succ j ih =>
 rw[uZ,uZ,ih];congr 1
 rw[List.drop_append,List.take_append];obtain⟨m,hm⟩:∃ m,List.take (16-(List.drop (16*j) b).length) (List.drop (16*j-b.length) (List.replicate n (0:UInt8)))=List.replicate m 0:=⟨_,by rw[List.drop_replicate,List.take_replicate]⟩
 rw[hm,Ue]
theorem k5 (key a b x:List UInt8) {n:Nat}(h:a.length=16*n) (j:Nat):uZ key (a++b) x (n+j)=uZ key b (uZ key a x n) j:=by
 induction j with
 | zero =>
  have:∀ i,i≤n→uZ key (a++b) x i=uZ key a x i:=by
   intro i
   induction i with
   | zero=>intro _;rfl
   | succ i ih =>
   intro hi
   rw[uZ,uZ,ih (by omega),List.drop_append_of_le_length (by omega),List.take_append_of_le_length (by rw[List.length_drop];omega)]
  exact this n (Nat.le_refl _)
 | succ j ih =>
 rw[show n+(j+1)=(n+j)+1 by omega,uZ,uZ,ih,show 16*(n+j)=16*n+16*j by omega,← h,← List.drop_drop,List.drop_left]
def nP (nonce aad plain:List UInt8) (t:Nat):List UInt8:=uQ (vK nonce aad t) nonce plain.length++(if aad.length=0 then [] else mq (pW aad))++mq plain
theorem Cf (key nonce aad plain:List UInt8) (hn:nonce.length≤13) (t:Nat) :
  uZ key (nP nonce aad plain t) (List.replicate 16 0) ((nP nonce aad plain t).length/16)=oH key nonce aad plain t:=by
 have hc:=sA (vK nonce aad t) hn plain.length
 have h1:uZ key (uQ (vK nonce aad t) nonce plain.length) (List.replicate 16 0) 1=kK key (List.replicate 16 0) (uQ (vK nonce aad t) nonce plain.length):=by
  rw[kK,hc]
 rw[oH]
 by_cases h:aad.length=0
 ·rw[if_pos h,nP,if_pos h,List.append_nil];rw[List.length_append,hc,pu,show(16+16*((plain.length+15)/16))/16=1+(plain.length+15)/16 by omega,k5 _ _ _ _ (n:=1) (by omega),h1,mq,k6];rfl
 rw[if_neg h,nP,if_neg h];rw[List.length_append,List.length_append,hc,pu,pu,show(16+16*(((pW aad).length+15)/16)+16*((plain.length+15)/16))/16=1+(((pW aad).length+15)/16)+(plain.length+15)/16 by omega];rw[k5 _ _ _ _ (by rw[List.length_append,hc,pu];omega),k5 _ _ _ _ (n:=1) (by omega),h1,mq,mq,k6,k6];rfl
theorem G6 {key nonce aad cipher:List UInt8}{t:Nat}(ht:t≤16) (hc:t≤cipher.length) :
  (tj key nonce aad (tO key nonce cipher t) t==cipher)=qM key nonce aad cipher t:=by
 have e0:qC key nonce (tO key nonce cipher t)=cipher.take (cipher.length-t):=by rw[tO,Xa]
 have lt:=lA key nonce aad (tO key nonce cipher t) t;have ld:(cipher.drop (cipher.length-t)).length=t:=by rw[List.length_drop];omega
 rw[Bool.eq_iff_iff,beq_iff_eq,qM,beq_iff_eq,tj,e0];constructor
 ·intro h
  have h2:(uD key nonce (oH key nonce aad (tO key nonce cipher t) t)).take t=cipher.drop (cipher.length-t):=by
   have h3:=congrArg (List.drop (cipher.length-t)) h;rwa [List.drop_left' (by rw[List.length_take];omega)]at h3
  rw[← h2,Q0 _ _ _ lt ht]
 intro h
 have h2:(uD key nonce (oH key nonce aad (tO key nonce cipher t) t)).take t=cipher.drop (cipher.length-t):=by
  apply List.ext_getElem (by rw[ld,List.length_take,uD,yX];omega)
  intro k h4 h5
  have hk:k<t:=by omega
  have h6:((uD key nonce (cipher.drop (cipher.length-t))).take t)[k]? = ((oH key nonce aad (tO key nonce cipher t) t).take t)[k]? :=by rw[h]
  rw[List.getElem?_take_of_lt hk,List.getElem?_take_of_lt hk,List.getElem?_eq_getElem (by rw[uD,yX];omega),List.getElem?_eq_getElem (by omega),Option.some.injEq,← mX,← mX,uD,xA,kH _ (by omega)]at h6;rw[List.getElem_take,← mX (by rw[uD,yX];omega),uD,xA,kH _ (by omega),← h6,kG,mX h5]
 rw[h2,List.take_append_drop]
def j9:Nat→UInt8→Nat→UInt8→UInt8
 | 0,_,_,p=>p
 | n+1,a,b,p=>j9 n (sH a) (b/2) (if b%2=1 then p ^^^ a else p)
theorem nI:∀ (n:Nat) (a p:UInt8),j9 n a 0 p=p
 | 0,_,_=>rfl
 | n+1,a,p=>by rw[j9,Nat.zero_div,if_neg (by omega),nI n]
theorem NP (a:UInt8) {m:Nat}(hm:m=1∨m=2∨m=3):j9 8 a m 0=qN a m:=by
 rcases hm with rfl | rfl | rfl
 ·rw[j9,if_pos (by decide),nI,UInt8.zero_xor,qN,if_pos rfl]
 ·rw[j9,if_neg (by decide),j9,if_pos (by decide),nI,UInt8.zero_xor,qN,if_neg (by decide),if_pos rfl]
 rw[j9,if_pos (by decide),j9,if_pos (by decide),nI,UInt8.zero_xor,qN,if_neg (by decide),if_neg (by decide)]
theorem UP {b:Nat}(h:b≤3):bits .and .u8 (b:Int) 1=((b%2:Nat):Int)∧((b:Int)/2)=((b/2:Nat):Int):=by
 rcases(by omega:b=0∨b=1∨b=2∨b=3) with rfl | rfl | rfl | rfl <;> exact⟨by kernel_rfl,by omega⟩
theorem bi (a:UInt8) (m:Nat) (hm:m=1∨m=2∨m=3) (w:World) :
  Calls Tryz.prog 194 #[zu a,.int .u8 (m:Int)] w fun e w'=>e=.returned (zu (qN a m))∧w=w':=by
 have HE:=Hh (NP a hm);have HM:=Hh hm;clear hm;go_enter Tryz.func194,Tryz.ntmps194
 go_wp2_with fail
 go_loopw [0,1,5,7] (fun v0 v1 v5 v7 wx=>∃ (i b:Nat) (x p:UInt8),v0=zu x∧v1=.int .u8 (b:Int)∧v5=zu p∧v7=.int .i64 (i:Int)∧i≤8∧b≤3∧Hid (j9 (8-i) x b p=qN a m)∧wx=w) (fun _ _ _ v7 _=>(8-intOf v7).toNat)
 case atStart=>exact⟨0,m,a,0,rfl,rfl,rfl,rfl,by omega,by have:=HM.out;omega,HE,rfl⟩
 case round =>
 obtain⟨i,b,x,p,rfl,rfl,rfl,rfl,hi,hb,hS,rfl⟩:=hrel
 by_cases z9:(i:Int)<8
 ·obtain⟨s1,s2⟩:=UP hb;obtain⟨d1,d2,d3,d4,_⟩:=jx x;have X:=yx p x;obtain⟨o,ho⟩:∃ o,b%2=o:=⟨_,rfl⟩
  obtain⟨b2,zD⟩:∃ o,b/2=o:=⟨_,rfl⟩
  rw[ho]at s1;rw[zD]at s2;obtain⟨y,hy⟩:∃ y,x <<< 1=y:=⟨_,rfl⟩
  rw[hy]at d2 d3;obtain⟨q,hq⟩:∃ q,p ^^^ x=q:=⟨_,rfl⟩
  rw[hq]at X;obtain⟨z,hz⟩:∃ z,y ^^^ 27=z:=⟨_,rfl⟩
  rw[hz]at d3;obtain⟨t,ht⟩:∃ t,x.toNat/128=t:=⟨_,rfl⟩
  have t1:(x.toNat:Int)/128=(t:Int):=by rw[← ht];rfl
  rw[ht]at d4;have BN:t=0∨t=1:=by have:=x.toNat_lt;omega
  have hoo:o=0∨o=1:=by omega
  have HY:Hid (sH x=if t=1 then z else y):=by
   rw[Hid,sH,hy,hz]
   by_cases h0:x &&& 128=0
   ·rw[if_pos h0,if_neg (fun h=>d4.1 h h0)]
   rw[if_neg h0,if_pos (d4.2 h0)]
  have Lh:Hid (j9 (8-(i+1)) (sH x) b2 (if o=1 then q else p)=qN a m):=by
   have h:=hS.out;rw[show 8-i=(8-(i+1))+1 by omega,j9,ho,zD,hq]at h
   exact h
  have yR:b2≤3:=by omega
  clear d1 d4 ht hy hq hz ho zD hS hb;have X1:(bits .xor .u8 (p.toNat:Int) (x.toNat:Int))=(q.toNat:Int):=X;clear X
  rcases hoo with rfl | rfl
  ·rcases BN with rfl | rfl
   ·go_wp2_with fail
    go_roundw
    case rel=>exact⟨i+1,b2,y,p,rfl,rfl,rfl,by go_num,by omega,yR,by have h1:=Lh.out;have h2:=HY.out;rw[h2]at h1;exact h1,by trivial⟩
    case measure=>simp[intOf];omega
   go_wp2_with fail
   go_roundw
   case rel=>exact⟨i+1,b2,z,p,rfl,rfl,rfl,by go_num,by omega,yR,by have h1:=Lh.out;have h2:=HY.out;rw[h2]at h1;exact h1,by trivial⟩
   case measure=>simp[intOf];omega
  rcases BN with rfl | rfl
  ·go_wp2_with fail
   go_roundw
   case rel=>exact⟨i+1,b2,y,q,rfl,rfl,rfl,by go_num,by omega,yR,by have h1:=Lh.out;have h2:=HY.out;rw[h2]at h1;exact h1,by trivial⟩
   case measure=>simp[intOf];omega
  go_wp2_with fail
  go_roundw
  case rel=>exact⟨i+1,b2,z,q,rfl,rfl,rfl,by go_num,by omega,yR,by have h1:=Lh.out;have h2:=HY.out;rw[h2]at h1;exact h1,by trivial⟩
  case measure=>simp[intOf];omega
 obtain rfl:i=8:=by omega
 have HR:Hid (p=qN a m):=by have h:=hS.out;exact h
 clear hS;go_wp2_with fail
 go_ret
 exact⟨by first | rfl | (rw[HR.out];rfl),rfl⟩
theorem Nb (b:UInt8) (k:Nat) (hk:k=1∨k=2∨k=3∨k=4) (w:World) :
  Calls Tryz.prog 195 #[zu b,.int .i64 (k:Int)] w fun e w'=>e=.returned (zu (wu b k))∧w=w':=by
 have R:=dk b (show k<5 by omega);have E:Hid (zu (wu b k)=.int .u8 (bits .or .u8 (IntKind.u8.wrap ((b.toNat:Int)*2 ^ k)) ((b.toNat:Int)/2 ^ (8-k)))):=by rw[Hid,R]
 clear R
 rcases hk with rfl | rfl | rfl | rfl
 all_goals
  go_enter Tryz.func195,Tryz.ntmps195
  go_wp2_with fail
  go_ret
  exact⟨by rw[E.out];rfl,rfl⟩
def lT (n:Nat):List UInt8:=(List.range n).map vE++List.replicate (255-n) 0
theorem qz {n:Nat}(h:n≤255):(lT n).length=255:=by simp[lT];omega
theorem QG {n:Nat}(h:n<255):(lT n).set n (vE n)=lT (n+1):=by
 rw[lT,lT,List.set_append_right _ _ (by simp),show 255-n=(255-(n+1))+1 by omega,List.replicate_succ]
 simp[List.range_succ]
theorem nV {i n:Nat}(h:i<n):at_ (lT n) i=vE i:=by
 rw[at_,lT,List.getD_eq_getElem?_getD,List.getElem?_append_left (by simpa using h)]
 simp[h]
theorem gH (i:Nat):(Uk i).length=256:=by
 induction i with
 | zero=>show((List.replicate 256 (0:UInt8)).set 0 99).length=256;rw[List.length_set,List.length_replicate]
 | succ i ih=>exact(List.length_set ..).trans ih
theorem TC (i:Nat):(Uk i).set (vE i).toNat (vE ((255-i)%255) ^^^ wu (vE ((255-i)%255)) 1 ^^^ wu (vE ((255-i)%255)) 2 ^^^ wu (vE ((255-i)%255)) 3 ^^^ wu (vE ((255-i)%255)) 4 ^^^ 99)=Uk (i+1):=rfl
theorem gZ:Tryz.zeroCells151=zn (List.replicate 256 0):=by kernel_rfl
theorem Qf:Tryz.zeroCells232=zn (lT 0):=by kernel_rfl
theorem iu (w:World) :
  Calls Tryz.prog 164 #[] w fun e w'=>e=.returned (.agg (zn ri))∧Below w.heap.size w w':=by
 have oR:=Blk.new w 151 (zn (List.replicate 256 0));have al:=Blk.new (w.alloc (.cells (zn (List.replicate 256 0)) 151)) 232 (zn (lT 0));have yB:=zX w (.cells (zn (List.replicate 256 0)) 151);have zY:=yB.alloc yB.size (.cells (zn (lT 0)) 232);replace oR:=oR.alloc (.cells (zn (lT 0)) 232);rw[za]at al;go_enter Tryz.func164,Tryz.ntmps164
 go_wp2_with fail
 rw[gZ,Qf];go_loopw [2,7] (fun v2 v7 wr=>∃ i:Nat,v7=.int .i64 (i:Int)∧v2=zu (vE i)∧i≤255∧Blk wr (w.heap.size+1) 232 (zn (lT i))∧Blk wr w.heap.size 151 (zn (List.replicate 256 0))∧Below w.heap.size w wr) (fun _ v7 _=>(255-intOf v7).toNat)
 case atStart=>exact⟨0,rfl,rfl,by omega,al,oR,zY⟩
 case round =>
 clear al oR zY;obtain⟨i,rfl,rfl,hi,hP,hR,hb⟩:=hrel
 by_cases z9:(i:Int)<255
 ·have P1:Hid (qN (vE i) 3=vE (i+1)):=rfl;obtain⟨u,hu⟩:∃ u,vE i=u:=⟨_,rfl⟩
  rw[hu]at P1⊢;have S1:=Hh (QG (n:=i) (by omega));rw[hu]at S1;clear hu;go_wp2_with (with_reducible refine zx ?_)
  refine zw rfl _ _ _ rfl rfl (w.heap.size+1) i (zu u) rfl rfl _ _ hP yH (by rw[zg,qz (by omega)];omega) rfl fun w5 YW zK=>?_
  rw[xS,S1.out]at YW;have PM:=hR.gr zK (by omega);have zE:=hb.grown zK hb.size (by rintro q ⟨⟩;omega);clear hP hR hb zK S1;go_wp2_with fail
  refine(bi u 3 (by omega) _).mono ?_
  rintro e w6 ⟨rfl,rfl⟩
  rw[P1.out];go_wp2_with fail
  go_roundw
  case rel=>exact⟨i+1,by go_num,rfl,by omega,YW,PM,zE⟩
  case measure=>simp[intOf];omega
 obtain rfl:i=255:=by omega
 rw[show((255:Nat):Int)=255 from rfl];have hS:=Blk.new wr 151 (zn (List.replicate 256 0));have YW:=hP.alloc (.cells (zn (List.replicate 256 0)) 151);have PM:=hR.alloc (.cells (zn (List.replicate 256 0)) 151);have zE:=hb.alloc hb.size (.cells (zn (List.replicate 256 0)) 151);obtain⟨N,hN⟩:∃ N,wr.heap.size=N:=⟨_,rfl⟩
 have HN:=Hh (And.intro hN (show w.heap.size+2≤N by have:=hP.lt;omega));rw[hN]at hS;clear hP hR hb hN z9;go_upto_region 10 with fail
 rw[gZ]
 try rw[HN.out.1]
 generalize wr.alloc (.cells (zn (List.replicate 256 0)) 151)=w7 at hS YW PM zE⊢
 go_wp2_with (with_reducible refine zx ?_)
 refine zw rfl _ _ _ rfl rfl N 0 (zu 99) rfl rfl _ _ hS yH (by rw[zg];simp) rfl fun w8 VK hg8=>?_
 rw[xS]at VK;replace VK:Blk w8 N 151 (zn (Uk 0)):=VK;have hP8:=YW.grown hg8 (by intro e;injection e with e;have:=HN.out;omega);have WR:=PM.grown hg8 (by intro e;injection e with e;have:=HN.out;omega);have uk:=zE.grown hg8 zE.size (by rintro q ⟨⟩;have:=HN.out;omega);clear hS YW PM zE hg8;go_wp2_with fail
 go_loopw [17] (fun v17 wx=>∃ i:Nat,v17=.int .i64 (i:Int)∧i≤255∧Blk wx N 151 (zn (Uk i))∧Blk wx (w.heap.size+1) 232 (zn (lT 255))∧Blk wx w.heap.size 151 (zn (List.replicate 256 0))∧Below w.heap.size w wx) (fun v17 _=>(255-intOf v17).toNat)
 case atStart=>exact⟨0,rfl,by omega,VK,hP8,WR,uk⟩
 case round =>
 clear VK hP8 WR uk;obtain⟨i,rfl,hi,hS,hP,hR,hb⟩:=hrel
 by_cases z9:(i:Int)<255
 ·obtain⟨m,hm⟩:∃ m,(255-i)%255=m:=⟨_,rfl⟩
  obtain⟨d,hd⟩:∃ d,255-i=d:=⟨_,rfl⟩
  have W1:IntKind.i64.wrap (255-(i:Int))=(d:Int):=by rw[← hd,show((255-i:Nat):Int)=255-(i:Int) by omega];exact IntWalk.i64_in _ (by omega)
  have T1:(d:Int).tmod 255=(m:Int):=by rw[← hm,hd];exact(Int.ofNat_tmod d 255).symm
  have l1:(m:Int)<255:=by omega
  have b1:=hP.cell i (zI _ _ (by rw[qz (by omega)];omega));have b2:=hP.cell m (zI _ _ (by rw[qz (by omega)];omega));rw[nV (by omega)]at b1;rw[nV (by omega)]at b2;have S1:=Hh (TC i);rw[hm]at S1;obtain⟨a,ha⟩:∃ u,vE i=u:=⟨_,rfl⟩
  obtain⟨b,pf⟩:∃ v,vE m=v:=⟨_,rfl⟩
  rw[ha]at b1 S1;rw[pf]at b2 S1;have Uy:=Hh ha;clear hm hd ha pf;have R:=Hh (fun k hk w=>Nb b k hk w);have X1:=yx b (wu b 1);have X2:=yx (b ^^^ wu b 1) (wu b 2);have X3:=yx (b ^^^ wu b 1 ^^^ wu b 2) (wu b 3);have X4:=yx (b ^^^ wu b 1 ^^^ wu b 2 ^^^ wu b 3) (wu b 4);have X5:=yx (b ^^^ wu b 1 ^^^ wu b 2 ^^^ wu b 3 ^^^ wu b 4) 99;have hx:∀ x:Int,bits .xor .u8 x ((99:UInt8).toNat:Int)=bits .xor .u8 x 99:=fun _=>rfl
  rw[hx]at X5;obtain⟨c1,Mo⟩:∃ c,b ^^^ wu b 1=c:=⟨_,rfl⟩
  rw[Mo]at X1 X2 X3 X4 X5 S1;obtain⟨c2,SF⟩:∃ c,c1 ^^^ wu b 2=c:=⟨_,rfl⟩
  rw[SF]at X2 X3 X4 X5 S1;obtain⟨c3,JU⟩:∃ c,c2 ^^^ wu b 3=c:=⟨_,rfl⟩
  rw[JU]at X3 X4 X5 S1;obtain⟨c4,eF⟩:∃ c,c3 ^^^ wu b 4=c:=⟨_,rfl⟩
  rw[eF]at X4 X5 S1;obtain⟨c5,At⟩:∃ c,c4 ^^^ 99=c:=⟨_,rfl⟩
  rw[At]at X5 S1;clear Mo SF JU eF At hx;have la:(a.toNat:Int)<256:=by have:=a.toNat_lt;omega
  have hlN:N<wr.heap.size:=hS.lt;go_upto_region 15 with fail
  have b1':=hP.drew.cell i (zI _ _ (by rw[qz (by omega)];omega));rw[nV (by omega)]at b1'
  have b1'':(wr.drew).cell? ⟨w.heap.size+1,i,none⟩=some (zu a):=by
   have h:=hP.drew.cell i (zI _ _ (by rw[qz (by omega)];omega));have h2:wr.cell? ⟨w.heap.size+1,i,none⟩=some (zu (vE i)):=by have h3:=hP.cell i (zI _ _ (by rw[qz (by omega)];omega));rwa [nV (by omega)]at h3
   rw[nV (by omega)]at h;rw[h2]at b1;rw[h,b1]
  clear b1 b2 b1';replace hS:=hS.drew;replace hP:=hP.drew;replace hR:=hR.drew;replace hb:=hb.drew
  refine zr 19 (fun wx=>wx.cell? ⟨w.heap.size+1,i,none⟩=some (zu a)) (by kernel_rfl) (b1'') (fun zy=>?_)
  refine TkS 0 rfl zy ?_
  refine TkS 1 rfl zy ?_
  refine TkS 2 rfl zy ?_
  refine TkS 3 rfl zy ?_
  refine TkS 4 rfl zy ?_
  refine TkS 7 rfl zy ?_
  refine TkS 10 rfl zy ?_
  refine TkS 13 rfl zy ?_
  refine To 5 rfl fun K hK=>?_
  go_simp
  refine(R.out 1 (by omega) _).mono ?_
  rintro e w5 ⟨rfl,rfl⟩
  refine Ko hK ?_ fun zy=>?_
  ·exact b1''
  clear hK K
  refine TkS 6 rfl zy ?_
  refine To 8 rfl fun K hK=>?_
  go_simp
  refine(R.out 2 (by omega) _).mono ?_
  rintro e w5 ⟨rfl,rfl⟩
  refine Ko hK ?_ fun zy=>?_
  ·exact b1''
  clear hK K
  refine TkS 9 rfl zy ?_
  refine To 11 rfl fun K hK=>?_
  go_simp
  refine(R.out 3 (by omega) _).mono ?_
  rintro e w5 ⟨rfl,rfl⟩
  refine Ko hK ?_ fun zy=>?_
  ·exact b1''
  clear hK K
  refine TkS 12 rfl zy ?_
  refine To 14 rfl fun K hK=>?_
  go_simp
  refine(R.out 4 (by omega) _).mono ?_
  rintro e w5 ⟨rfl,rfl⟩
  refine Ko hK ?_ fun zy=>?_
  ·exact b1''
  clear hK K
  refine TkS 15 rfl zy ?_
  refine TkS 16 rfl zy ?_
  refine TkS 17 rfl zy ?_
  refine To 18 rfl fun K hK=>?_
  rw[if_pos (by rfl)]
  refine zO _ _ _ rfl N a.toNat (zu c5) rfl rfl _ _ hS yH (by rw[zg,gH];omega) rfl fun w6 hS6 vt=>?_
  rw[xS]at hS6;replace hP:=hP.grown vt (by intro e;injection e with e;have:=HN.out;omega);replace hR:=hR.grown vt (by intro e;injection e with e;have:=HN.out;omega);replace hb:=hb.grown vt hb.size (by rintro q ⟨⟩;have:=HN.out;omega)
  refine Ko hK ?_ fun zy=>?_
  ·exact(by have h3:=hP.cell i (zI _ _ (by rw[qz (by omega)];omega));rwa [nV (by omega),Uy.out]at h3)
  clear hK K
  refine Wd ?_
  rw[S1.out]at hS6;clear zy hS X1 X2 X3 X4 X5 la W1 T1 l1;go_wp2_with fail
  go_roundw
  case rel=>exact⟨i+1,by go_num,by omega,hS6,hP,hR,hb⟩
  case measure=>simp[intOf];omega
 obtain rfl:i=255:=by omega
 rw[show((255:Nat):Int)=255 from rfl];rw[bV]at hS;have hl:ri.length=256:=by rw[← bV];exact gH 255
 have HL:=Hh hl;clear z9 hl;go_wp2_with (with_reducible refine vy 151 ?_)
 refine zM rfl _ _ rfl N 0 256 rfl hS (by rw[HL.out];omega) _ Tryz.underlying151 rfl (by kernel_rfl) ?_
 rw[xT HL.out];go_wp2_with (with_reducible refine zx ?_)
 refine xy rfl _ _ _ rfl rfl w.heap.size 0 ri rfl rfl hR (by rw[HL.out];kernel_rfl) (by rw[HL.out];simp) fun w8 WR hg8=>?_
 rw[pH (by rw[HL.out];simp)]at WR;have uk:=jgc;clear hS hP hR hb hg8;go_wp2_with fail
 exact xU rfl rfl WR rfl rfl (by rw[zg,HL.out];kernel_rfl) rfl ⟨rfl,uk⟩
end Go.Proofs.YtkmlnjociijpgaaGreatDoor
