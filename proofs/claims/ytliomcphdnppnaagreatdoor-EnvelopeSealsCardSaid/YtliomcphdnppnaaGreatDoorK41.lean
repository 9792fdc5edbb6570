/- squeezed. Walks: an envelope is sealed, by t -/
import Derived.Test.YtliomcphdnppnaaGreatDoorK40
set_option linter.unusedVariables false
set_option linter.unusedSimpArgs false
set_option maxRecDepth 100000
set_option maxHeartbeats 25600000
namespace Go.Proofs.YtliomcphdnppnaaGreatDoor
open Go.RowKit
theorem pR {H:Snap}(hTab:Tabs H) {p u:Itm}{a b:Ad}(hp:IsItem H a.ba a.bc a.ia a.ic p) (hu:IsItem H b.ba b.bc b.ia b.ic u) (w:World) (hH:Holds w H) :
  Calls Tryz.prog 34 #[.agg (zY p a u b)] w fun e w'=>e=.returned (.int .i64 (vE (vt p u):Nat))∧Below w.heap.size w w':=by
 have hB:=Blk.new w 28 (zY p a u b);have hG:=(Grows.refl hH).alloc (.cells (zY p a u b) 28);have A:=Hh (Zc hTab hp hu _ hG.holds);have c0:=hB.cell 0 rfl;have c1:=hB.cell 1 rfl;have c2:=hB.cell 2 rfl;have c3:=hB.cell 3 rfl;have c4:=hB.cell 4 rfl;have c5:=hB.cell 5 rfl;have c6:=hB.cell 6 rfl;have c7:=hB.cell 7 rfl;obtain⟨g,hg⟩:∃ g,vt p u=g:=⟨_,rfl⟩
 rw[hg]at A⊢;clear hp hu hTab hH hg
 by_cases h4:g=10
 ·subst h4;go_enter Tryz.func34,Tryz.ntmps34
  go_wp2_with fail
  refine A.out.mono ?_
  rintro e w2 ⟨rfl,zG⟩
  have hb:=(hG.below_ zG).below;clear A hB hG c0 c1 c2 c3 c4 c5 c6 c7;go_wp2_with fail
  go_ret
  exact⟨rfl,hb⟩
 have k4:(g==10)=false:=by simpa using h4
 have t4:=eq_false h4
 by_cases h5:g=30
 ·subst h5;go_enter Tryz.func34,Tryz.ntmps34
  go_wp2_with fail
  refine A.out.mono ?_
  rintro e w2 ⟨rfl,zG⟩
  have hb:=(hG.below_ zG).below;clear A hB hG c0 c1 c2 c3 c4 c5 c6 c7;go_wp2_with fail
  go_ret
  exact⟨rfl,hb⟩
 have k5:(g==30)=false:=by simpa using h5
 have t5:=eq_false h5;have e0:=Hh (show vE g=0 by rw[vE,if_neg h4,if_neg h5]);clear h4 h5;go_enter Tryz.func34,Tryz.ntmps34
 go_wp2_with fail
 refine A.out.mono ?_
 rintro e w2 ⟨rfl,zG⟩
 have hb:=(hG.below_ zG).below;clear A hB hG c0 c1 c2 c3 c4 c5 c6 c7;go_wp2_with fail
 go_ret
 exact⟨by rw[e0.out];rfl,hb⟩
theorem cW {H:Snap}(hTab:Tabs H) {p u:Itm}{a b:Ad}(hp:IsItem H a.ba a.bc a.ia a.ic p) (hu:IsItem H b.ba b.bc b.ia b.ic u)
  {EA:Option Addr} {en ec:Nat} {ext:List UInt8} (dn:en=ext.length) (hext:IsBytes H EA ec ext) (xI:ext.length≤1048576) {PA:Option Addr} {pn pc:Nat} {plain:List UInt8} (hpn:pn=plain.length) (hplain:IsBytes H PA pc plain)
  {KA:Option Addr} {kn kc:Nat} {key:List UInt8} (uN:kn=key.length) (uM:IsBytes H KA kc key) {NA:Option Addr} {nn nc:Nat} {nonce:List UInt8} (wd:nn=nonce.length) (uI:IsBytes H NA nc nonce) (w:World) (hH:Holds w H) :
  Calls Tryz.prog 12 #[.agg (zY p a u b),.slice EA en ec,.slice PA pn pc,.slice KA kn kc,.slice NA nn nc] w (ESealOut w H p u ext plain key nonce):=by
 have hB:=(Blk.new w 28 (zY p a u b)).alloc (.cells tC 36);have hR:=Blk.new (w.alloc (.cells (zY p a u b) 28)) 36 tC
 simp only[zu]at hR
 have hG:=((Grows.refl hH).alloc (.cells (zY p a u b) 28)).alloc (.cells tC 36);have fb:H (w.heap.size+1)=none:=hH.none_of_ge (by omega);have HP:=Hh hp;have HU:=Hh hu;have HT:=Hh hTab;have HX:=Hh (And.intro dn (And.intro hext xI));have HY:=Hh (And.intro hpn hplain);have HK:=Hh (And.intro uN uM);have ow:=Hh (And.intro wd uI);have V:=Hh (vj hTab hp hu _ hG.holds);clear hp hu hTab hH dn hext xI hpn hplain uN uM wd uI;have c0:=hB.cell 0 rfl;have c1:=hB.cell 1 rfl;have c2:=hB.cell 2 rfl;have c3:=hB.cell 3 rfl;have c4:=hB.cell 4 rfl;have c5:=hB.cell 5 rfl;have c6:=hB.cell 6 rfl;have c7:=hB.cell 7 rfl;go_enter Tryz.func12,Tryz.ntmps12
 go_wp2_with fail
 refine V.out.mono ?_
 rintro e w2 ⟨rfl,zG⟩
 replace hB:=hB.below zG;replace hR:=hR.below zG;replace hG:=hG.below_ zG;clear V zG c0 c1 c2 c3 c4 c5 c6 c7
 cases hv:zV p u with
 | false =>
  have E:=Hh (show uy p u ext plain key nonce=1 by rw[uy,if_pos hv]);clear hv hB;go_wp2_with (with_reducible refine zx ?_)
  refine zt rfl _ _ _ rfl rfl _ _ rfl rfl _ _ hR xF rfl (vM) fun wz hRz wm=>?_
  have uX:=hG.grownOwn fb (by omega) wm;clear hR wm;go_wp2_with fail
  refine zf rfl rfl hRz rfl rfl xF rfl ?_
  exact ESealOut.bad E.out (by omega) uX rfl
 | true =>
 have HV:=Hh hv;clear hv;have TG:=Hh (pR HT.out HP.out HU.out _ hG.holds);have c0:=hB.cell 0 rfl;have c1:=hB.cell 1 rfl;have c2:=hB.cell 2 rfl;have c3:=hB.cell 3 rfl;have c4:=hB.cell 4 rfl;have c5:=hB.cell 5 rfl;have c6:=hB.cell 6 rfl;have c7:=hB.cell 7 rfl;have rL:=oD (vt p u);obtain⟨n,hn⟩:∃ n,vE (vt p u)=n:=⟨_,rfl⟩
 rw[hn]at rL TG;have HN:Hid (vE (vt p u)=n):=hn;clear hn;have SK:=Hh rL;go_wp2_with fail
 refine TG.out.mono ?_
 rintro e w3 ⟨rfl,xn⟩
 replace hB:=hB.below xn;replace hR:=hR.below xn;replace hG:=hG.below_ xn;clear TG xn c0 c1 c2 c3 c4 c5 c6 c7
 by_cases h0:n=0
 ·subst h0;have E:=Hh (show uy p u ext plain key nonce=12 by rw[uy,if_neg (by rw[HV.out];simp),if_pos HN.out]);clear hB rL;go_wp2_with (with_reducible refine zx ?_)
  refine zt rfl _ _ _ rfl rfl _ _ rfl rfl _ _ hR xF rfl (vM) fun wz hRz wm=>?_
  have uX:=hG.grownOwn fb (by omega) wm;clear hR wm;go_wp2_with fail
  refine zf rfl rfl hRz rfl rfl xF rfl ?_
  exact ESealOut.bad E.out (by omega) uX rfl
 have n0:((n:Int)==0)=false:=by rw[beq_eq_false_iff_ne];omega
 have n1:((n:Int)=0)=False:=eq_false (by omega);have N0:=Hh h0;clear h0 rL;have c0:=hB.cell 0 rfl;have c1:=hB.cell 1 rfl;have c2:=hB.cell 2 rfl;have c3:=hB.cell 3 rfl;have c4:=hB.cell 4 rfl;have c5:=hB.cell 5 rfl;have c6:=hB.cell 6 rfl;have c7:=hB.cell 7 rfl;have IN:=Hh (mf (HT.out.mono hG.le) (HP.out.mono hG.le) (HU.out.mono hG.le) ⟨#[69,110,99,114,121,112,116,48]⟩ (by show(8:Nat)≤_;omega) (HX.out.2.1.mono hG.le) HX.out.2.2 (IsRows.nil0 _) (by simp) (fun l hl=>by cases hl) _ hG.holds);rw[← HX.out.1]at IN;go_wp2_with fail
 refine IN.out.mono ?_
 rintro e w5 ⟨r5,l5,rfl,wL,tQ⟩
 have Yh:([69,110,99,114,121,112,116,48]:List UInt8)=xW:=rfl
 try simp only[]at tQ
 rw[Yh]at tQ⊢;clear Yh IN;obtain⟨B5,d5,rfl,sL,_⟩:=wL.own.form;replace hB:=hB.below wL.2;have YW:=hR.lt;replace hR:=hR.below wL.2;clear c0 c1 c2 c3 c4 c5 c6 c7;obtain⟨E5,dR⟩:∃ E,yj xW p u ext []=E:=⟨_,rfl⟩
 rw[dR]at tQ⊢;have gv:Hid (yj xW p u ext []=E5):=dR;clear dR
 by_cases hE0:E5=0
 case neg =>
  have e0:(E5 != 0)=true:=by rw[bne_iff_ne];exact hE0
  have e1:=eq_false hE0;have Vc:=hG.below_ wL.2;have Ry:=Hh hE0;have Oj:Hid (uy p u ext plain key nonce=E5):=by rw[Hid,mj HV.out (by rw[HN.out];exact N0.out) (by rw[gv.out];exact hE0),gv.out]
  clear hB wL tQ hG hE0 sL;go_wp2_with (with_reducible refine zx ?_)
  refine zt rfl _ _ _ rfl rfl _ _ rfl rfl _ _ hR xF rfl (vM) fun wz hRz wm=>?_
  have uX:=Vc.grownOwn fb (by omega) wm;clear hR wm;go_wp2_with fail
  refine zf rfl rfl hRz rfl rfl xF rfl ?_
  exact ESealOut.bad Oj.out Ry.out uX rfl
 case pos =>
 subst hE0;rw[if_pos rfl]at tQ;obtain⟨H5,wn,m8,du⟩:=Fresh.snapB hG.holds wL;have Lu:=Hh (And.intro tQ sL);have Y9:=wn.none fb YW;replace hG:=hG.trans wn;have K8:=Hh m8;have SI:Hid (uy p u ext plain key nonce=(wO key nonce l5 plain n).1):=by rw[Hid,kR HV.out (by rw[HN.out];exact N0.out) gv.out,qW,HN.out,tQ]
 have Ot:Hid ((qW p u ext plain key nonce).2=(wO key nonce l5 plain n).2):=by rw[Hid,qW,HN.out,tQ]
 have TG:=Hh (pR (HT.out.mono hG.le) (HP.out.mono hG.le) (HU.out.mono hG.le) _ hG.holds);rw[HN.out]at TG;have c0:=hB.cell 0 rfl;have c1:=hB.cell 1 rfl;have c2:=hB.cell 2 rfl;have c3:=hB.cell 3 rfl;have c4:=hB.cell 4 rfl;have c5:=hB.cell 5 rfl;have c6:=hB.cell 6 rfl;have c7:=hB.cell 7 rfl;obtain⟨n5,Rn⟩:∃ n,l5.length=n:=⟨_,rfl⟩
 have KL:=Hh Rn;rw[Rn];clear Rn;go_wp2_with fail
 refine TG.out.mono ?_
 rintro e w5b ⟨rfl,Uv⟩
 replace hB:=hB.below Uv;replace hR:=hR.below Uv;replace hG:=hG.below_ Uv;clear TG Uv c0 c1 c2 c3 c4 c5 c6 c7
 have SL:=Hh (kM (kc:=kc) HK.out.1 (nc:=nc) ow.out.1 (an:=n5) (ac:=d5) KL.out.symm (pc:=pc) HY.out.1 n (by have:=SK.out;omega) w5b
  (Src.of_row (HK.out.2.mono hG.le).row hG.holds) (Src.of_row (ow.out.2.mono hG.le).row hG.holds) (Src.of_row m8.row hG.holds) (Src.of_row (HY.out.2.mono hG.le).row hG.holds))
 have Xy:=Y9;clear wL tQ du wn m8 YW sL Y9;have Oo:=Hh Xy;go_wp2_with fail
 refine SL.out.mono ?_
 rintro e w6 ⟨v6,rfl,WS,xT⟩
 have uk:Fresh w5b (wO key nonce l5 plain n).2 v6 w6:=⟨WS,xT⟩
 obtain⟨B6,d6,rfl,qZ,_⟩:=OwnB.form WS;replace hB:=hB.below xT;have YW:=hR.lt;replace hR:=hR.below xT;clear SL WS;obtain⟨E6,SV⟩:∃ E,(wO key nonce l5 plain n).1=E:=⟨_,rfl⟩
 obtain⟨s6,Tg⟩:∃ s,(wO key nonce l5 plain n).2=s:=⟨_,rfl⟩
 rw[SV]at SI⊢;rw[Tg]at Ot uk qZ⊢;clear SV Tg
 by_cases hE0:E6=0
 case neg =>
  have e0:(E6 != 0)=true:=by rw[bne_iff_ne];exact hE0
  have e1:=eq_false hE0;have SW:=hG.below_ xT;have Vc:Grows w H w6 H:=⟨SW.below,Snap.le.refl _,SW.holds.mono hG.le,fun _ _ h=>.inl h⟩
  have Ry:=Hh hE0;clear hB uk hG hE0 qZ xT SW;go_wp2_with (with_reducible refine zx ?_)
  refine zt rfl _ _ _ rfl rfl _ _ rfl rfl _ _ hR xF rfl (vM) fun wz hRz wm=>?_
  have uX:=Vc.grownOwn fb (by omega) wm;clear hR wm;go_wp2_with fail
  refine zf rfl rfl hRz rfl rfl xF rfl ?_
  exact ESealOut.bad SI.out Ry.out uX rfl
 case pos =>
 subst hE0;obtain⟨H6,xH,QN,mO⟩:=Fresh.snapB hG.holds uk;have YB:=xH.none Oo.out YW;replace hG:=hG.trans xH;have Od:=Hh QN;clear uk mO QN xH Oo xT qZ;have vv:=yZ HV.out;have WE:=Hh vv;clear vv;have c0:=hB.cell 0 rfl;have c1:=hB.cell 1 rfl;have c2:=hB.cell 2 rfl;have c3:=hB.cell 3 rfl;have c4:=hB.cell 4 rfl;have c5:=hB.cell 5 rfl;have c6:=hB.cell 6 rfl;have c7:=hB.cell 7 rfl;obtain⟨n6,mO⟩:∃ n,s6.length=n:=⟨_,rfl⟩
 have KM:=Hh mO;rw[mO];clear mO;go_wp2_with fail
 refine(kN (zE WE.out.1) (zE WE.out.2.1) (HP.out.mono hG.le) (HU.out.mono hG.le) _ hG.holds).mono ?_
 rintro e w7 ⟨v7,rfl,xa,xb,H7,rfl,wF,PG,PH⟩
 have RQ:=wF.none YB hR.lt;replace hR:=hR.below wF.below;replace hG:=hG.trans wF;have S6:=Hh (And.intro PG (And.intro PH (Od.out.mono wF.le)));clear hB PG PH YB wF c0 c1 c2 c3 c4 c5 c6 c7;go_wp2_with (with_reducible refine zx ?_)
 refine zt rfl _ _ _ rfl rfl _ _ rfl rfl _ _ hR xF rfl (Xh p u xa xb _ _ _ _ _ _) fun w9 hR9 xr=>?_
 have uX:=hG.grownOwn RQ (by omega) xr;clear hG hR xr;go_wp2_with fail
 refine zf rfl rfl hR9 rfl rfl xF rfl ?_
 exact ESealOut.good SI.out uX S6.out.1 S6.out.2.1 Ot.out KM.out.symm S6.out.2.2 rfl
theorem cU {H:Snap}(hTab:Tabs H) {v:Ev}{a:EvAd}(hv:EvA H v a)
  {EA:Option Addr} {en ec:Nat} {ext:List UInt8} (dn:en=ext.length) (hext:IsBytes H EA ec ext) (xI:ext.length≤1048576)
  {KA:Option Addr} {kn kc:Nat} {key:List UInt8} (uN:kn=key.length) (uM:IsBytes H KA kc key) {NA:Option Addr} {nn nc:Nat} {nonce:List UInt8} (wd:nn=nonce.length) (uI:IsBytes H NA nc nonce) (w:World) (hH:Holds w H) :
  Calls Tryz.prog 16 #[.agg (evQ v a),.slice EA en ec,.slice KA kn kc,.slice NA nn nc] w (wI w (wE v ext key nonce)):=by
 have hB:=Blk.new w 36 (evQ v a);have hG:=(Grows.refl hH).alloc (.cells (evQ v a) 36);obtain⟨p,u,body,tag⟩:=v;obtain⟨bn,nW⟩:∃ n,body.length=n:=⟨_,rfl⟩
 obtain⟨tn,rL⟩:∃ n,tag.length=n:=⟨_,rfl⟩
 have HN:=Hh (And.intro nW rL);have EQ0:evQ ⟨p,u,body,tag⟩ a=evC p a.a u a.b a.ba bn a.bc a.ta tn a.tc:=by rw[← nW,← rL]
 rw[EQ0]at hB hG⊢;have HT:=Hh hTab;have oQ:Hid (IsItem H a.a.ba a.a.bc a.a.ia a.a.ic p∧IsItem H a.b.ba a.b.bc a.b.ia a.b.ic u∧IsBytes H a.ba a.bc body):=⟨hv.p,hv.u,hv.body⟩
 have HX:=Hh (And.intro dn (And.intro hext xI));have HK:=Hh (And.intro uN uM);have ow:=Hh (And.intro wd uI);have V:=Hh (vj HT.out oQ.out.1 oQ.out.2.1 _ hG.holds)
 have NO:∀ c:Int,wE ⟨p,u,body,tag⟩ ext key nonce=(c,[])→∀ w',Below w.heap.size w w'→Hid (wI w (wE ⟨p,u,body,tag⟩ ext key nonce) (.returned (.tuple #[.slice none 0 0,.int .i64 c])) w'):=fun c h w' hb=>by
  rw[h]
  exact⟨_,rfl,OwnB.nil _ _,hb⟩
 have O1:zV p u=false∨0<tn→wE ⟨p,u,body,tag⟩ ext key nonce=(1,[]):=fun h=>by rw[wE,if_pos (by rw[← rL]at h;exact h)]
 have O2:zV p u=true→tn=0→vE (vt p u)=0→wE ⟨p,u,body,tag⟩ ext key nonce=(12,[]):=fun h h0 h1=>by rw[wE,if_neg (by simp[h,rL,h0]),if_pos h1]
 have O3:zV p u=true→tn=0→vE (vt p u)≠0→∀ E,yj xW p u ext []=E→E≠0→wE ⟨p,u,body,tag⟩ ext key nonce=(E,[]):=fun h h0 h1 E h2 h3=>by rw[wE,if_neg (by simp[h,rL,h0]),if_neg h1,if_pos (by rw[h2];exact h3),h2]
 have O4:zV p u=true→tn=0→vE (vt p u)≠0→yj xW p u ext []=0→wE ⟨p,u,body,tag⟩ ext key nonce=wD key nonce (zh (we xW p ext [])) body (vE (vt p u)):=fun h h0 h1 h2=>by rw[wE,if_neg (by simp[h,rL,h0]),if_neg h1,if_neg (by rw[h2];simp)]
 have HO:=Hh (And.intro O1 (And.intro O2 (And.intro O3 O4)));have jQ:=Hh NO;clear EQ0 hTab hv dn hext xI uN uM wd uI hH nW rL NO O1 O2 O3 O4;have c0:=hB.cell 0 rfl;have c1:=hB.cell 1 rfl;have c2:=hB.cell 2 rfl;have c3:=hB.cell 3 rfl;have c4:=hB.cell 4 rfl;have c5:=hB.cell 5 rfl;have c6:=hB.cell 6 rfl;have c7:=hB.cell 7 rfl;go_enter Tryz.func16,Tryz.ntmps16
 go_wp2_with fail
 refine V.out.mono ?_
 rintro e w2 ⟨rfl,zG⟩
 replace hB:=hB.below zG;replace hG:=hG.below_ zG;clear V zG c0 c1 c2 c3 c4 c5 c6 c7;have c9:=hB.cell 9 rfl
 cases hvh:zV p u with
 | false =>
  have R:=(jQ.out 1 (HO.out.1 (.inl hvh)) _ hG.below)
  clear hvh hB hG;go_wp2_with fail
  go_ret2
  exact R.out
 | true =>
 have HV:=Hh hvh;clear hvh
 by_cases WU:tn=0
 case neg =>
  have t0:(0:Int)<(tn:Int):=by omega
  have R:=(jQ.out 1 (HO.out.1 (.inr (by omega))) _ hG.below)
  clear hB hG WU;go_wp2_with fail
  go_ret2
  exact R.out
 case pos =>
 subst WU;have TG:=Hh (pR (HT.out.mono hG.le) (oQ.out.1.mono hG.le) (oQ.out.2.1.mono hG.le) _ hG.holds);have c0:=hB.cell 0 rfl;have c1:=hB.cell 1 rfl;have c2:=hB.cell 2 rfl;have c3:=hB.cell 3 rfl;have c4:=hB.cell 4 rfl;have c5:=hB.cell 5 rfl;have c6:=hB.cell 6 rfl;have c7:=hB.cell 7 rfl;have rL:=oD (vt p u);obtain⟨n,hn⟩:∃ n,vE (vt p u)=n:=⟨_,rfl⟩
 rw[hn]at rL TG;have TP:Hid (vE (vt p u)=n):=hn;clear hn;have SK:=Hh rL;go_wp2_with fail
 refine TG.out.mono ?_
 rintro e w3 ⟨rfl,xn⟩
 replace hB:=hB.below xn;replace hG:=hG.below_ xn;clear TG xn c0 c1 c2 c3 c4 c5 c6 c7 c9
 by_cases h0:n=0
 ·subst h0;have R:=(jQ.out 12 (HO.out.2.1 HV.out (by trivial) TP.out) _ hG.below)
  clear hB hG rL;go_wp2_with fail
  go_ret2
  exact R.out
 have n0:((n:Int)==0)=false:=by rw[beq_eq_false_iff_ne];omega
 have n1:((n:Int)=0)=False:=eq_false (by omega);have N0:Hid (vE (vt p u)≠0):=by rw[Hid,TP.out];exact h0
 clear h0 rL;have c0:=hB.cell 0 rfl;have c1:=hB.cell 1 rfl;have c2:=hB.cell 2 rfl;have c3:=hB.cell 3 rfl;have c4:=hB.cell 4 rfl;have c5:=hB.cell 5 rfl;have c6:=hB.cell 6 rfl;have c7:=hB.cell 7 rfl;have IN:=Hh (mf (HT.out.mono hG.le) (oQ.out.1.mono hG.le) (oQ.out.2.1.mono hG.le) ⟨#[69,110,99,114,121,112,116,48]⟩ (by show(8:Nat)≤_;omega) (HX.out.2.1.mono hG.le) HX.out.2.2 (IsRows.nil0 _) (by simp) (fun l hl=>by cases hl) _ hG.holds);rw[← HX.out.1]at IN;go_wp2_with fail
 refine IN.out.mono ?_
 rintro e w5 ⟨r5,l5,rfl,wL,tQ⟩
 have Yh:([69,110,99,114,121,112,116,48]:List UInt8)=xW:=rfl
 try simp only[]at tQ
 rw[Yh]at tQ⊢;clear Yh IN;obtain⟨B5,d5,rfl,sL,wZ⟩:=wL.own.form;clear wZ;replace hB:=hB.below wL.2;clear c0 c1 c2 c3 c4 c5 c6 c7;obtain⟨E5,dR⟩:∃ E,yj xW p u ext []=E:=⟨_,rfl⟩
 rw[dR]at tQ⊢;have gv:Hid (yj xW p u ext []=E5):=dR;clear dR
 by_cases hE0:E5=0
 case neg =>
  have e0:(E5 != 0)=true:=by rw[bne_iff_ne];exact hE0
  have e1:=eq_false hE0;have R:=(jQ.out E5 (HO.out.2.2.1 HV.out (by trivial) N0.out E5 gv.out hE0) w5 (hG.below_ wL.2).below)
  clear hB wL tQ hG hE0 sL;go_wp2_with fail
  go_ret2
  exact R.out
 case pos =>
 subst hE0;rw[if_pos rfl]at tQ;obtain⟨H5,wn,m8,wZ⟩:=Fresh.snapB hG.holds wL;clear wZ;have zC:=hG.le.trans wn.le;replace hG:=hG.trans wn;obtain⟨n5,du⟩:∃ n,l5.length=n:=⟨_,rfl⟩
 rw[du];have KL:=Hh du
 have TG:Hid (∀ W:World,Holds W H5→Calls Tryz.prog 34 #[.agg (zY p a.a u a.b)] W fun e w'=>e=.returned (.int .i64 (n:Nat))∧Below W.heap.size W w'):=fun W hW=>by
  rw[← TP.out]
  exact pR (HT.out.mono zC) (oQ.out.1.mono zC) (oQ.out.2.1.mono zC) W hW
 have OP:Hid (∀ W:World,Holds W H5→Calls Tryz.prog 40 #[.slice KA kn kc,.slice NA nn nc,.slice B5 n5 d5,.slice a.ba bn a.bc,.int .i64 (n:Int)] W (wI W (wD key nonce l5 body n))):=fun W hW =>
  cS (kc:=kc) HK.out.1 (nc:=nc) ow.out.1 (an:=n5) (ac:=d5) KL.out.symm (cn:=bn) (cc:=a.bc) HN.out.1.symm (by have:=oQ.out.2.2.le;have:=HN.out.1;omega) n (by have:=SK.out;omega) W
   (Src.of_row (HK.out.2.mono zC).row hW) (Src.of_row (ow.out.2.mono zC).row hW) (Src.of_row m8.row hW) (Src.of_row (oQ.out.2.2.mono zC).row hW)
 have HR:Hid (wE ⟨p,u,body,tag⟩ ext key nonce=wD key nonce l5 body n):=by rw[Hid,HO.out.2.2.2 HV.out (by trivial) N0.out gv.out,TP.out,tQ]
 clear wL tQ wn zC sL du;go_upto_region 8 with fail
 replace hG:=hG.drew;replace hB:=hB.below (Below.refl _ _).drew
 refine zw 13 (fun wx=>wx.cell? ⟨w.heap.size,0,none⟩=some (.int .i64 p.kind)∧wx.cell? ⟨w.heap.size,1,none⟩=some (.int .u64 p.n)∧wx.cell? ⟨w.heap.size,2,none⟩=some (.slice a.a.ba p.bytes.length a.a.bc)∧wx.cell? ⟨w.heap.size,3,none⟩=some (.slice a.a.ia p.items.length a.a.ic)∧wx.cell? ⟨w.heap.size,4,none⟩=some (.int .i64 u.kind)∧wx.cell? ⟨w.heap.size,5,none⟩=some (.int .u64 u.n)∧wx.cell? ⟨w.heap.size,6,none⟩=some (.slice a.b.ba u.bytes.length a.b.bc)∧wx.cell? ⟨w.heap.size,7,none⟩=some (.slice a.b.ia u.items.length a.b.ic)∧wx.cell? ⟨w.heap.size,8,none⟩=some (.slice a.ba bn a.bc)) (by kernel_rfl) (⟨hB.cell 0 rfl,hB.cell 1 rfl,hB.cell 2 rfl,hB.cell 3 rfl,hB.cell 4 rfl,hB.cell 5 rfl,hB.cell 6 rfl,hB.cell 7 rfl,hB.cell 8 rfl⟩) (fun zy=>?_)
 refine TkS 0 rfl zy ?_
 refine TkS 1 rfl zy ?_
 refine TkS 2 rfl zy ?_
 refine TkS 3 rfl zy ?_
 refine TkS 4 rfl zy ?_
 refine TkS 5 rfl zy ?_
 refine TkS 6 rfl zy ?_
 refine To 7 rfl fun K hK=>?_
 go_simp
 refine(TG.out _ hG.holds).mono ?_
 rintro e w7 ⟨rfl,vh⟩
 replace hB:=hB.below vh;replace hG:=hG.below_ vh
 refine Ko hK ?_ fun zy=>?_
 ·exact⟨hB.cell 0 rfl,hB.cell 1 rfl,hB.cell 2 rfl,hB.cell 3 rfl,hB.cell 4 rfl,hB.cell 5 rfl,hB.cell 6 rfl,hB.cell 7 rfl,hB.cell 8 rfl⟩
 clear hK K
 refine To 8 rfl fun K hK=>?_
 go_simp
 have Rx:=Hh hG.below
 refine(OP.out _ hG.holds).mono ?_
 rintro e w8 ⟨v8,rfl,G1,rm⟩
 have Gc:Hid (OwnB w8 w.heap.size v8 (wD key nonce l5 body n).2∧Below w.heap.size w w8):=⟨OwnB.more G1 Rx.out.size,Rx.out.trans (rm.mono Rx.out.size)⟩
 replace hB:=hB.below rm
 refine Ko hK ?_ fun zy=>?_
 ·exact⟨hB.cell 0 rfl,hB.cell 1 rfl,hB.cell 2 rfl,hB.cell 3 rfl,hB.cell 4 rfl,hB.cell 5 rfl,hB.cell 6 rfl,hB.cell 7 rfl,hB.cell 8 rfl⟩
 clear hK K
 refine TkS 9 rfl zy ?_
 refine TkS 10 rfl zy ?_
 refine TkS 11 rfl zy ?_
 refine TkS 12 rfl zy ?_
 refine Wd ?_
 clear zy hB;go_wp2_with fail
 go_ret2
 exact⟨_,by rw[HR.out];rfl,by rw[HR.out];exact Gc.out.1,Gc.out.2⟩
end Go.Proofs.YtliomcphdnppnaaGreatDoor
