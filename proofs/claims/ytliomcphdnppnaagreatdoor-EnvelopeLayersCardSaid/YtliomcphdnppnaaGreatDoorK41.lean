/- squeezed. Walks: an envelope is sealed, by t -/
import Derived.Test.YtliomcphdnppnaaGreatDoorK40
set_option linter.unusedVariables false
set_option linter.unusedSimpArgs false
set_option maxRecDepth 100000
set_option maxHeartbeats 25600000
namespace Go.Proofs.YtliomcphdnppnaaGreatDoor
open Go.RowKit
theorem Uu (g:Int) (w:World):Calls Tryz.prog 30 #[.int .i64 g] w fun e w'=>e=.returned (.int .i64 (nt g:Nat))∧w=w':=by
 by_cases h4:g=10
 ·subst h4;go_enter Tryz.func30,Tryz.ntmps30
  go_wp2_with fail
  go_ret
  exact⟨rfl,rfl⟩
 have k4:(g==10)=false:=by simpa using h4
 have t4:=eq_false h4
 by_cases h5:g=30
 ·subst h5;go_enter Tryz.func30,Tryz.ntmps30
  go_wp2_with fail
  go_ret
  exact⟨rfl,rfl⟩
 have k5:(g==30)=false:=by simpa using h5
 have t5:=eq_false h5;have e0:=Hh (show nt g=0 by rw[nt,if_neg h4,if_neg h5]);clear h4 h5;go_enter Tryz.func30,Tryz.ntmps30
 go_wp2_with fail
 go_ret
 exact⟨by rw[e0.out];rfl,rfl⟩
theorem iG {H:Snap}(hTab:Tabs H) {p u:Itm}{a b:Ad}(hp:IsItem H a.ba a.bc a.ia a.ic p) (hu:IsItem H b.ba b.bc b.ia b.ic u)
  {EA:Option Addr} {en ec:Nat} {ext:List UInt8} (Qa:en=ext.length) (hext:IsBytes H EA ec ext) (xA:ext.length≤1048576) {PA:Option Addr} {pn pc:Nat} {plain:List UInt8} (hpn:pn=plain.length) (hplain:IsBytes H PA pc plain)
  {KA:Option Addr} {kn kc:Nat} {key:List UInt8} (j8:kn=key.length) (tH:IsBytes H KA kc key) {NA:Option Addr} {nn nc:Nat} {nonce:List UInt8} (rL:nn=nonce.length) (oG:IsBytes H NA nc nonce) (w:World) (hH:Holds w H) :
  Calls Tryz.prog 11 #[.agg (zF p a u b),.slice EA en ec,.slice PA pn pc,.slice KA kn kc,.slice NA nn nc] w (ESealOut w H p u ext plain key nonce):=by
 have hB:=(Blk.new w 28 (zF p a u b)).alloc (.cells sp 36);have hR:=Blk.new (w.alloc (.cells (zF p a u b) 28)) 36 sp
 simp only[zr]at hR
 have hG:=((Grows.refl hH).alloc (.cells (zF p a u b) 28)).alloc (.cells sp 36);have Ze:H (w.heap.size+1)=none:=hH.none_of_ge (by omega);have HP:=Hh hp;have HU:=Hh hu;have HT:=Hh hTab;have HX:=Hh (And.intro Qa (And.intro hext xA));have HY:=Hh (And.intro hpn hplain);have HK:=Hh (And.intro j8 tH);have Yo:=Hh (And.intro rL oG);have V:=Hh (sm hTab hp hu _ hG.holds);clear hp hu hTab hH Qa hext xA hpn hplain j8 tH rL oG;have c0:=hB.cell 0 rfl;have c1:=hB.cell 1 rfl;have c2:=hB.cell 2 rfl;have c3:=hB.cell 3 rfl;have c4:=hB.cell 4 rfl;have c5:=hB.cell 5 rfl;have c6:=hB.cell 6 rfl;have c7:=hB.cell 7 rfl;go_enter Tryz.func11,Tryz.ntmps11
 go_wp2_with fail
 refine V.out.mono ?_
 rintro e w2 ⟨rfl,zK⟩
 replace hB:=hB.below zK;replace hR:=hR.below zK;replace hG:=hG.below_ zK;clear V zK c0 c1 c2 c3 c4 c5 c6 c7
 cases hv:zI p u with
 | false =>
  have E:=Hh (show sy p u ext plain key nonce=1 by rw[sy,if_pos hv]);clear hv hB;go_wp2_with (with_reducible refine zx ?_)
  refine zv rfl _ _ _ rfl rfl _ _ rfl rfl _ _ hR xY rfl (vt) fun wz hRz xI=>?_
  have tr:=hG.grownOwn Ze (by omega) xI;clear hR xI;go_wp2_with fail
  refine zY rfl rfl hRz rfl rfl xY rfl ?_
  exact ESealOut.bad E.out (by omega) tr rfl
 | true =>
 have HV:=Hh hv;clear hv;have AL:=Hh (jO HT.out HP.out HU.out _ hG.holds);have c0:=hB.cell 0 rfl;have c1:=hB.cell 1 rfl;have c2:=hB.cell 2 rfl;have c3:=hB.cell 3 rfl;have c4:=hB.cell 4 rfl;have c5:=hB.cell 5 rfl;have c6:=hB.cell 6 rfl;have c7:=hB.cell 7 rfl;obtain⟨g,hg⟩:∃ g,rF p u=g:=⟨_,rfl⟩
 rw[hg]at AL;have HG:=Hh hg;clear hg;go_wp2_with fail
 refine AL.out.mono ?_
 rintro e w3 ⟨rfl,xz⟩
 replace hB:=hB.below xz;replace hR:=hR.below xz;replace hG:=hG.below_ xz;clear AL xz c0 c1 c2 c3 c4 c5 c6 c7;have TB:=Hh (Uu g w3);have Z0:=Sp g;obtain⟨n,hn⟩:∃ n,nt g=n:=⟨_,rfl⟩
 rw[hn]at Z0 TB;have HN:Hid (nt (rF p u)=n):=by rw[Hid,HG.out,hn]
 clear hn HG;have KN:=Hh Z0;go_wp2_with fail
 refine TB.out.mono ?_
 rintro e w3' ⟨rfl,rfl⟩
 clear TB
 by_cases h0:n=0
 ·subst h0;have E:=Hh (show sy p u ext plain key nonce=12 by rw[sy,if_neg (by rw[HV.out];simp),if_pos HN.out]);clear hB Z0;go_wp2_with (with_reducible refine zx ?_)
  refine zv rfl _ _ _ rfl rfl _ _ rfl rfl _ _ hR xY rfl (vt) fun wz hRz xI=>?_
  have tr:=hG.grownOwn Ze (by omega) xI;clear hR xI;go_wp2_with fail
  refine zY rfl rfl hRz rfl rfl xY rfl ?_
  exact ESealOut.bad E.out (by omega) tr rfl
 have n0:((n:Int)==0)=false:=by rw[beq_eq_false_iff_ne];omega
 have n1:((n:Int)=0)=False:=eq_false (by omega);have N0:=Hh h0;clear h0 Z0;have c0:=hB.cell 0 rfl;have c1:=hB.cell 1 rfl;have c2:=hB.cell 2 rfl;have c3:=hB.cell 3 rfl;have c4:=hB.cell 4 rfl;have c5:=hB.cell 5 rfl;have c6:=hB.cell 6 rfl;have c7:=hB.cell 7 rfl;have IN:=Hh (vL (HT.out.mono hG.le) (HP.out.mono hG.le) (HU.out.mono hG.le) ⟨#[69,110,99,114,121,112,116,48]⟩ (by show(8:Nat)≤_;omega) (HX.out.2.1.mono hG.le) HX.out.2.2 (IsRows.nil0 _) (by simp) (fun l hl=>by cases hl) _ hG.holds);rw[← HX.out.1]at IN;go_wp2_with fail
 refine IN.out.mono ?_
 rintro e w5 ⟨r5,l5,rfl,vC,qL⟩
 have Wt:([69,110,99,114,121,112,116,48]:List UInt8)=wW:=rfl
 try simp only[]at qL
 rw[Wt]at qL⊢;clear Wt IN;obtain⟨B5,d5,rfl,pE,_⟩:=vC.own.form;replace hB:=hB.below vC.2;have Tf:=hR.lt;replace hR:=hR.below vC.2;clear c0 c1 c2 c3 c4 c5 c6 c7;obtain⟨E5,RF⟩:∃ E,yU wW p u ext []=E:=⟨_,rfl⟩
 rw[RF]at qL⊢;have WI:Hid (yU wW p u ext []=E5):=RF;clear RF
 by_cases hE0:E5=0
 case neg =>
  have e0:(E5 != 0)=true:=by rw[bne_iff_ne];exact hE0
  have e1:=eq_false hE0;have Ta:=hG.below_ vC.2;have Md:=Hh hE0;have No:Hid (sy p u ext plain key nonce=E5):=by rw[Hid,dM HV.out (by rw[HN.out];exact N0.out) (by rw[WI.out];exact hE0),WI.out]
  clear hB vC qL hG hE0 pE;go_wp2_with (with_reducible refine zx ?_)
  refine zv rfl _ _ _ rfl rfl _ _ rfl rfl _ _ hR xY rfl (vt) fun wz hRz xI=>?_
  have tr:=Ta.grownOwn Ze (by omega) xI;clear hR xI;go_wp2_with fail
  refine zY rfl rfl hRz rfl rfl xY rfl ?_
  exact ESealOut.bad No.out Md.out tr rfl
 case pos =>
 subst hE0;rw[if_pos rfl]at qL;obtain⟨H5,vB,ev,Yx⟩:=Fresh.snapB hG.holds vC;have ix:=Hh (And.intro qL pE);have Vr:=vB.none Ze Tf;replace hG:=hG.trans vB;have Qz:=Hh ev;have QI:Hid (sy p u ext plain key nonce=(uU key nonce l5 plain n).1):=by rw[Hid,jZ HV.out (by rw[HN.out];exact N0.out) WI.out,ng,HN.out,qL]
 have Ex:Hid ((ng p u ext plain key nonce).2=(uU key nonce l5 plain n).2):=by rw[Hid,ng,HN.out,qL]
 have SL:=Hh (de (kc:=kc) HK.out.1 (by have:=HK.out.2.le;have:=HK.out.1;omega) (nc:=nc) Yo.out.1 (an:=l5.length) (ac:=d5) rfl (by have:=ev.le;omega) (pc:=pc) HY.out.1 (by have:=HY.out.2.le;have:=HY.out.1;omega) n (by have:=KN.out;omega) w5
  (Src.of_row (HK.out.2.mono hG.le).row hG.holds) (Src.of_row (Yo.out.2.mono hG.le).row hG.holds) (Src.of_row ev.row hG.holds) (Src.of_row (HY.out.2.mono hG.le).row hG.holds))
 have LD:=Vr;clear vC qL Yx vB ev Tf pE Vr;have Ew:=Hh LD;go_wp2_with fail
 refine SL.out.mono ?_
 rintro e w6 ⟨v6,rfl,Jj,xT⟩
 have tC:Fresh w5 (uU key nonce l5 plain n).2 v6 w6:=⟨Jj,xT⟩
 obtain⟨B6,d6,rfl,py,_⟩:=OwnB.form Jj;replace hB:=hB.below xT;have Tf:=hR.lt;replace hR:=hR.below xT;clear SL Jj;obtain⟨E6,FT⟩:∃ E,(uU key nonce l5 plain n).1=E:=⟨_,rfl⟩
 obtain⟨s6,Nc⟩:∃ s,(uU key nonce l5 plain n).2=s:=⟨_,rfl⟩
 rw[FT]at QI⊢;rw[Nc]at Ex tC py⊢;clear FT Nc
 by_cases hE0:E6=0
 case neg =>
  have e0:(E6 != 0)=true:=by rw[bne_iff_ne];exact hE0
  have e1:=eq_false hE0;have J6:=hG.below_ xT;have Ta:Grows w H w6 H:=⟨J6.below,Snap.le.refl _,J6.holds.mono hG.le,fun _ _ h=>.inl h⟩
  have Md:=Hh hE0;clear hB tC hG hE0 py xT J6;go_wp2_with (with_reducible refine zx ?_)
  refine zv rfl _ _ _ rfl rfl _ _ rfl rfl _ _ hR xY rfl (vt) fun wz hRz xI=>?_
  have tr:=Ta.grownOwn Ze (by omega) xI;clear hR xI;go_wp2_with fail
  refine zY rfl rfl hRz rfl rfl xY rfl ?_
  exact ESealOut.bad QI.out Md.out tr rfl
 case pos =>
 subst hE0;obtain⟨H6,wl,Ja,Yy⟩:=Fresh.snapB hG.holds tC;have Vs:=wl.none Ew.out Tf;replace hG:=hG.trans wl;have Ic:=Hh Ja;clear tC Yy Ja wl Ew xT py;have vv:=xr HV.out;have We:=Hh vv;clear vv;have c0:=hB.cell 0 rfl;have c1:=hB.cell 1 rfl;have c2:=hB.cell 2 rfl;have c3:=hB.cell 3 rfl;have c4:=hB.cell 4 rfl;have c5:=hB.cell 5 rfl;have c6:=hB.cell 6 rfl;have c7:=hB.cell 7 rfl;obtain⟨n6,Yy⟩:∃ n,s6.length=n:=⟨_,rfl⟩
 have Ck:=Hh Yy;rw[Yy];clear Yy;go_wp2_with fail
 refine(pF (HT.out.mono hG.le) We.out.1 We.out.2.1 We.out.2.2.1 We.out.2.2.2 (HP.out.mono hG.le) (HU.out.mono hG.le) _ hG.holds).mono ?_
 rintro e w7 ⟨v7,rfl,xa,xb,H7,rfl,vV,Fb,Fd⟩
 have Sy:=vV.none Vs hR.lt;replace hR:=hR.below vV.below;replace hG:=hG.trans vV;have TP:=Hh (And.intro Fb (And.intro Fd (Ic.out.mono vV.le)));clear hB Fb Fd Vs vV c0 c1 c2 c3 c4 c5 c6 c7;go_wp2_with (with_reducible refine zx ?_)
 refine zv rfl _ _ _ rfl rfl _ _ rfl rfl _ _ hR xY rfl (VF p u xa xb _ _ _ _ _ _) fun w9 bx yL=>?_
 have tr:=hG.grownOwn Sy (by omega) yL;clear hG hR yL;go_wp2_with fail
 refine zY rfl rfl bx rfl rfl xY rfl ?_
 exact ESealOut.good QI.out tr TP.out.1 TP.out.2.1 Ex.out Ck.out.symm TP.out.2.2 rfl
theorem fQ {w:World}{o:Oper}{a:Act}{K:Act→World→Prop}{Q:Exit→Act→World→Prop}(s:Operand)
  (ho:o.op=.convert 23 9 s) (A:Option Addr) (n c:Nat) (l:List UInt8) (hs:a.eval s=.slice A n c) (hn:n=l.length) (hS:Src w A (l.map zq))
  (h:K (a.put o.dst (.string ⟨l.toArray⟩)) w):o.wp Tryz.prog a w K Q:=by
 have W9:=vP hS n c hn
 unfold Oper.wp execOp
 simp only[ho,hs,Sem.run_bind,Sem.run_pure,Result.andThen_ok,W9]
 exact h
theorem fJ {H:Snap}(hTab:Tabs H) {A:Option Addr}{c:Nat}{l:List Int}(hl:IsInts H A c l)
  {XA:Option Addr} {xn xc:Nat} {x:List UInt8} (hxn:xn=x.length) (hx:IsBytes H XA xc x) {YA:Option Addr} {yn yc:Nat} {y:List UInt8} (hyn:yn=y.length) (hy:IsBytes H YA yc y) (z:Int) (w:World) (hH:Holds w H) :
  Calls Tryz.prog 4 #[.slice A l.length c,.slice XA xn xc,.slice YA yn yc,.int .i64 z] w fun e w'=>e=.returned (.bool true)∧Below w.heap.size w w':=by
 obtain⟨H1,sQ,ik,Ql⟩:=ov (Grows.refl hH) 23 [.slice XA xn xc,.slice YA yn yc] [x,y] (by simp) (fun j hj=>by
  match j,hj with
  | 0,_=>exact⟨XA,xc,by rw[hxn];rfl,hx⟩
  | 1,_=>exact⟨YA,yc,by rw[hyn];rfl,hy⟩)
 have SH:=Hh (dA Ql _ sQ.holds);have ke:=Hh (And.intro hxn hyn);clear Ql hxn hyn;go_enter Tryz.func4,Tryz.ntmps4
 go_wp2_with fail
 refine SH.out.mono ?_
 rintro e w1' ⟨rfl,rfl⟩
 clear SH
 generalize w.alloc (.cells [Value.slice XA xn xc,.slice YA yn yc].toArray 23)=w1 at sQ⊢
 cases hpb:([x,y].all fun l=>decide (l.length≤600)) with
 | false =>
  have HG:=sQ;clear hpb sQ;have AW:=Hh (lh (hTab.mono HG.le) _ HG.holds);have tV:=HG.below;clear HG;go_wp2_with fail
  refine AW.out.mono ?_
  rintro e wz ⟨rfl,zA⟩
  have pw:=tV.trans (zA.mono tV.size);go_wp2_with fail
  go_ret
  exact⟨rfl,pw⟩
 | true =>
 have TS:=Hh (show x.length≤600∧y.length≤600 by simpa using hpb);clear hpb;have NW:=Hh (P7 (hl.mono ik) w1);go_wp2_with fail
 refine NW.out.mono ?_
 rintro e w2 ⟨rfl,M4,zK⟩
 have xB:=sQ.below_ zK;have m6:DeckIn w2 w1.heap.size H1:=⟨M4,xB.holds,sQ.holds.none_of_ge (Nat.le_refl _)⟩
 have qr:=sQ.size;clear NW M4 zK sQ;go_wp2_with fail
 refine(ZI (n:=16) z (by omega) w2).mono ?_
 rintro e w3 ⟨KA,kc,key,rfl,Yg,G9⟩
 obtain⟨H3,yN,tH,I4⟩:=Fresh.snapB m6.holds G9;clear I4;have hd:=m6.grows yN;have Gs:=Hh Yg;clear G9 yN Yg;obtain⟨z5,L8⟩:∃ q,z.tdiv 5=q:=⟨_,rfl⟩
 go_wp2_with fail
 refine(ZI (n:=13) _ (by omega) w3).mono ?_
 rintro e w4 ⟨NA,nc,nonce,rfl,Yh,Tz⟩
 obtain⟨H4,xl,oG,I5⟩:=Fresh.snapB hd.holds Tz;clear I5;replace hd:=hd.grown xl;have St:=Hh Yh;clear Yh;replace tH:=tH.mono xl.le;clear Tz xl;have Ea:=Hh (lj (hTab.mono (ik.trans hd.le)) w4 hd.deck 10 (by omega) (by omega));go_wp2_with fail
 refine Ea.out.mono ?_
 rintro e w5 ⟨p,u,a,b,H5,rfl,pE,hp,hu,iq,cU,hk⟩
 have Ts:=Hh (hk (dY (k:=10) (by omega)));replace hd:=hd.trans pE;replace tH:=tH.mono pE.le;replace oG:=oG.mono pE.le;clear Ea pE hk iq cU;have Eb:=Hh (lj (hTab.mono (ik.trans hd.le)) w5 hd.deck 5 (by omega) (by omega));go_wp2_with fail
 refine Eb.out.mono ?_
 rintro e w6 ⟨p',u',a',b',H6,rfl,py,sS,mu,sN,sO,GG⟩
 have WJ:=Hh (GG (dY (k:=5) (by omega)));replace hd:=hd.trans py;have wl:=Dealt.toGrows xB hd qr;have yx:=ik.trans hd.le;have HT:=Hh (hTab.mono yx);have HX:=Hh (hx.mono yx);have HY:=Hh (hy.mono yx);have Zc:=Hh (And.intro Gs.out (tH.mono py.le));have Yo:=Hh (And.intro St.out (oG.mono py.le));have Nq:=Hh (And.intro (hp.mono py.le) (hu.mono py.le));have Nr:=Hh (And.intro sS mu);clear Eb py GG sN sO hd xB qr m6 tH oG hp hu sS mu hx hy hl yx ik hTab;have LS:=Hh (dB (t:=8) (alg:=10) Ts.out.1 Ts.out.2.1 Nq.out.1.nums Nq.out.2.nums (.inl ⟨rfl,rfl⟩) Ts.out.2.2 TS.out.1 TS.out.2 Zc.out.1 (by rw[Yo.out.1];omega) (by rw[Yo.out.1];omega));have LM:=Hh (aZ (t:=32) (alg:=5) WJ.out.1 WJ.out.2.1 Nr.out.1.nums Nr.out.2.nums (.inl ⟨rfl,rfl⟩) WJ.out.2.2 TS.out.1 TS.out.2 Zc.out.1)
 have hA:=(Blk.new w6 28 (zF zn ⟨none,0,none,0⟩ zn ⟨none,0,none,0⟩)).alloc xG;have hB:=Blk.new (w6.alloc xG) 28 (zF zn ⟨none,0,none,0⟩ zn ⟨none,0,none,0⟩)
 simp only[zr]at hB
 have vV:=(wl.alloc xG).alloc xG;have GM:H6 w6.heap.size=none:=wl.holds.none_of_ge (Nat.le_refl _);have GN:H6 (w6.heap.size+1)=none:=wl.holds.none_of_ge (by omega);have cI:=wl.size;go_wp2_with (with_reducible refine zx ?_)
 refine zv rfl _ _ _ rfl rfl _ _ rfl rfl _ _ hA zN rfl (ww _ _ _ _) fun w7 QM wh=>?_
 have WO:=hB.gr wh (by omega);replace vV:=vV.grownOwn GM cI wh;clear hA hB wh;go_wp2_with (with_reducible refine zx ?_)
 refine zv rfl _ _ _ rfl rfl _ _ rfl rfl _ _ WO zN rfl (ww _ _ _ _) fun w8 i8 hg8=>?_
 have WN:=QM.gr hg8 (by omega);have yA:=vV.grownOwn GN (by omega) hg8;clear QM WO hg8 vV wl GM GN cI;obtain⟨N12,Pe⟩:∃ N,w6.heap.size=N:=⟨_,rfl⟩
 rw[Pe]at WN i8;have Gt:=Hh Pe;have SE:=Hh (iG HT.out Nq.out.1 Nq.out.2 (ec:=xc) ke.out.1 HX.out (by have:=TS.out;omega) (pc:=yc) ke.out.2 HY.out (kn:=16) (kc:=kc) Zc.out.1.symm Zc.out.2 (nn:=13) (nc:=nc) Yo.out.1.symm Yo.out.2 w8 yA.holds);have k0:=WN.cell 0 rfl;have k1:=WN.cell 1 rfl;have k2:=WN.cell 2 rfl;have k3:=WN.cell 3 rfl;have k4:=WN.cell 4 rfl;have k5:=WN.cell 5 rfl;have k6:=WN.cell 6 rfl;have k7:=WN.cell 7 rfl;clear Pe;go_upto_region 6 with fail
 try rw[Gt.out]
 go_wp2_with fail
 refine SE.out.mono ?_
 rintro e w9 ⟨xa,H9,rfl,tI,O6⟩
 clear SE k0 k1 k2 k3 k4 k5 k6 k7;rw[LS.out.2.1];obtain⟨V,hV⟩:∃ V,nh p u x y key nonce=V:=⟨_,rfl⟩
 rw[hV]at O6⊢;obtain⟨C,hC⟩:∃ C,ly key nonce (zi (yD wW p x [])) y 8=C:=⟨_,rfl⟩
 have HV:Hid (V.body=C∧V.tag=[]∧uU key nonce (zi (yD wW p x [])) y 8=(0,C)):=by
  rw[Hid,← hV,LS.out.2.2.1,← hC]
  exact⟨rfl,rfl,LS.out.2.2.2⟩
 have LE:=Hh tI.le;have WG:=Hh O6;clear hV hC O6;have tT:=(yA.trans tI).alloc (.cells (evQ V xa) 36);have PU:=(WN.below tI.below).alloc (.cells (evQ V xa) 36);have qi:=(i8.below tI.below).alloc (.cells (evQ V xa) 36);have Sz:=Blk.new w9 36 (evQ V xa);obtain⟨w10,Q4⟩:∃ w10,w9.alloc (.cells (evQ V xa) 36)=w10:=⟨_,rfl⟩
 obtain⟨N14,Pf⟩:∃ N,w9.heap.size=N:=⟨_,rfl⟩
 have PP:=Hh (And.intro Q4 Pf);rw[Q4]at tT PU qi Sz;rw[Pf]at Sz;clear yA tI WN i8 Q4 Pf;have ME:=Hh (fH (HT.out.mono LE.out) (Nr.out.1.mono LE.out) (Nr.out.2.mono LE.out) (ec:=xc) ke.out.1 (HX.out.mono LE.out) (by have:=TS.out;omega) (pc:=yc) ke.out.2 (HY.out.mono LE.out) (kn:=16) (kc:=kc) Zc.out.1.symm (Zc.out.2.mono LE.out) (by have:=Zc.out.1;omega) w10 tT.holds);have k0:=qi.cell 0 rfl;have k1:=qi.cell 1 rfl;have k2:=qi.cell 2 rfl;have k3:=qi.cell 3 rfl;have k4:=qi.cell 4 rfl;have k5:=qi.cell 5 rfl;have k6:=qi.cell 6 rfl;have k7:=qi.cell 7 rfl;go_upto_region 7 with fail
 try rw[PP.out.1]
 try rw[PP.out.2]
 go_wp2_with fail
 refine ME.out.mono ?_
 rintro e w11 ⟨xm,ER,rfl,nj,J1⟩
 clear ME k0 k1 k2 k3 k4 k5 k6 k7 PP;rw[LM.out.2.1];obtain⟨M,hM⟩:∃ M,fv p' u' x y key=M:=⟨_,rfl⟩
 rw[hM]at J1⊢
 have HM:Hid (M.tag=sx key (zi (yD rg p' x [y]))):=by
  rw[Hid,← hM,LM.out.2.2]
  exact aQ _ _
 replace LE:=Hh (LE.out.trans nj.le);replace WG:=Hh (WG.out.mono nj.le);have TO:=Hh J1;clear hM J1;have zX:=(tT.trans nj).alloc (.cells (evQ M xm) 36);have iW:=(PU.below nj.below).alloc (.cells (evQ M xm) 36);have oH:=(qi.below nj.below).alloc (.cells (evQ M xm) 36);have tG:=(Sz.below nj.below).alloc (.cells (evQ M xm) 36);have rs:=Blk.new w11 36 (evQ M xm);obtain⟨w12,Q5⟩:∃ w12,w11.alloc (.cells (evQ M xm) 36)=w12:=⟨_,rfl⟩
 obtain⟨N16,Pg⟩:∃ N,w11.heap.size=N:=⟨_,rfl⟩
 have PQ:=Hh (And.intro Q5 Pg);rw[Q5]at zX iW oH tG rs;rw[Pg]at rs;clear tT nj PU qi Sz Q5 Pg;have IN1:=Hh (vL (HT.out.mono LE.out) (Nq.out.1.mono LE.out) (Nq.out.2.mono LE.out) ⟨#[69,110,99,114,121,112,116,48]⟩ (by show(8:Nat)≤_;omega) (HX.out.mono LE.out) (by have:=TS.out;omega) (IsRows.nil _) (by simp) (fun l hl=>by cases hl) w12 zX.holds);rw[← ke.out.1]at IN1;have k0:=iW.cell 0 rfl;have k1:=iW.cell 1 rfl;have k2:=iW.cell 2 rfl;have k3:=iW.cell 3 rfl;have k4:=iW.cell 4 rfl;have k5:=iW.cell 5 rfl;have k6:=iW.cell 6 rfl;have k7:=iW.cell 7 rfl;go_upto_region 8 with fail
 try rw[PQ.out.1]
 try rw[PQ.out.2]
 go_wp2_with fail
 refine IN1.out.mono ?_
 rintro e w13 ⟨r13,l13,rfl,Ye,Ps⟩
 have rK:yU (⟨#[69,110,99,114,121,112,116,48]⟩:ByteArray).data.toList p u x []=0:=LS.out.1;rw[if_pos rK]at Ps;rw[rK];obtain⟨B13,d13,rfl,_⟩:=Ye.own.form;obtain⟨CE,tF,M8,I6⟩:=Fresh.snapB zX.holds Ye;clear I6;have iT:Hid (l13=zi (yD wW p x [])∧IsBytes CE B13 d13 l13):=⟨Ps,M8⟩
 replace oH:=oH.below Ye.2;replace tG:=tG.below Ye.2;replace rs:=rs.below Ye.2;replace LE:=Hh (LE.out.trans tF.le);replace WG:=Hh (WG.out.mono tF.le);replace TO:=Hh (TO.out.mono tF.le);have oW:=zX.trans tF;clear IN1 iW k0 k1 k2 k3 k4 k5 k6 k7 PQ rK Ps M8 zX tF Ye
 obtain⟨HR,WQ,Tn,GU⟩:=ov oW 23 [.slice YA yn yc] [y] (by simp) (fun j hj=>by
  have:j=0:=by simpa using hj
  subst this
  exact⟨YA,yc,by rw[ke.out.2];rfl,HY.out.mono LE.out⟩)
 have IN2:=Hh (vL (HT.out.mono (LE.out.trans Tn)) (Nr.out.1.mono (LE.out.trans Tn)) (Nr.out.2.mono (LE.out.trans Tn)) ⟨#[77,65,67,48]⟩ (by show(4:Nat)≤_;omega) (HX.out.mono (LE.out.trans Tn)) (by have:=TS.out;omega) GU (by simp) (fun l hl=>by simp at hl;subst hl;have:=TS.out;omega) _ WQ.holds);rw[← ke.out.1]at IN2;replace tG:=tG.alloc (.cells [Value.slice YA yn yc].toArray 23);replace rs:=rs.alloc (.cells [Value.slice YA yn yc].toArray 23);replace LE:=Hh (LE.out.trans Tn);replace WG:=Hh (WG.out.mono Tn);replace TO:=Hh (TO.out.mono Tn);replace iT:=Hh (And.intro iT.out.1 (iT.out.2.mono Tn));have k0:=oH.cell 0 rfl;have k1:=oH.cell 1 rfl;have k2:=oH.cell 2 rfl;have k3:=oH.cell 3 rfl;have k4:=oH.cell 4 rfl;have k5:=oH.cell 5 rfl;have k6:=oH.cell 6 rfl;have k7:=oH.cell 7 rfl;clear oW Tn GU oH
 obtain⟨n13,Yh⟩:∃ n,l13.length=n:=⟨_,rfl⟩
 have St:=Hh Yh;rw[Yh];clear Yh;go_wp2_with fail
 generalize w13.alloc (.cells [Value.slice YA yn yc].toArray 23)=w14 at IN2 WQ tG rs⊢
 refine IN2.out.mono ?_
 rintro e w15 ⟨r15,l15,rfl,Vu,Pt⟩
 have f7:yU (⟨#[77,65,67,48]⟩:ByteArray).data.toList p' u' x [y]=0:=LM.out.1;rw[if_pos f7]at Pt;rw[f7];obtain⟨B15,d15,rfl,_⟩:=Vu.own.form;obtain⟨CF,fj,M9,I7⟩:=Fresh.snapB WQ.holds Vu;clear I7;have YY:Hid (l15=zi (yD rg p' x [y])∧IsBytes CF B15 d15 l15):=⟨Pt,M9⟩
 replace tG:=tG.below Vu.2;replace rs:=rs.below Vu.2;replace LE:=Hh (LE.out.trans fj.le);replace WG:=Hh (WG.out.mono fj.le);replace TO:=Hh (TO.out.mono fj.le);replace iT:=Hh (And.intro iT.out.1 (iT.out.2.mono fj.le));have oW:=WQ.trans fj;clear IN2 k0 k1 k2 k3 k4 k5 k6 k7 f7 Pt M9 WQ fj Vu;obtain⟨n15,Vx⟩:∃ n,l15.length=n:=⟨_,rfl⟩
 have Gu:=Hh Vx;rw[Vx];clear Vx
 have CS:=Hh (de (kn:=16) (kc:=kc) Zc.out.1.symm (by have:=Zc.out.2.le;have:=Zc.out.1;omega) (nn:=13) (nc:=nc) Yo.out.1.symm (an:=n13) (ac:=d13) St.out.symm (by have:=iT.out.2.le;have:=St.out;omega) (pn:=yn) (pc:=yc) ke.out.2 (by have:=HY.out.le;have:=ke.out.2;omega) 8 (by omega) w15
  (Src.of_row (Zc.out.2.mono LE.out).row oW.holds) (Src.of_row (Yo.out.2.mono LE.out).row oW.holds) (Src.of_row iT.out.2.row oW.holds) (Src.of_row (HY.out.mono LE.out).row oW.holds))
 go_wp2_with fail
 refine CS.out.mono ?_
 rintro e w16 ⟨v16,rfl,TH,T0⟩
 have hO:uU key nonce l13 y 8=(0,C):=by rw[iT.out.1];exact HV.out.2.2
 have wD:(uU key nonce l13 y 8).1=0:=by rw[hO]
 have rj:(uU key nonce l13 y 8).2=C:=by rw[hO]
 rw[wD];rw[rj]at TH;have M6:Fresh w15 C v16 w16:=⟨TH,T0⟩
 obtain⟨B16,d16,rfl,Dr,_⟩:=OwnB.form TH;obtain⟨Mb,ea,lH,I8⟩:=Fresh.snapB oW.holds M6;clear I8;replace tG:=tG.below T0;replace rs:=rs.below T0;replace LE:=Hh (LE.out.trans ea.le);replace WG:=Hh (WG.out.mono ea.le);replace TO:=Hh (TO.out.mono ea.le);replace YY:=Hh (And.intro YY.out.1 (YY.out.2.mono ea.le));replace oW:=oW.trans ea;have HC:=Hh lH;clear CS hO wD rj TH M6 T0 ea lH Dr iT;obtain⟨cn,QZ⟩:∃ n,C.length=n:=⟨_,rfl⟩
 have Aw:=Hh QZ;rw[QZ];obtain⟨hm,JW⟩:∃ m,sx key l15=m:=⟨_,rfl⟩
 have Mf:Hid (M.tag=hm∧hm.length=32):=by
  rw[Hid,HM.out,← JW,YY.out.1]
  exact⟨rfl,ot _ _⟩
 have c8:∀ W:World,Blk W N14 36 (evQ V xa)→W.cell? ⟨N14,8,none⟩=some (.slice xa.ba cn xa.bc):=fun W h=>by rw[← QZ,← HV.out.1];exact h.cell 8 rfl
 have c9:∀ W:World,Blk W N14 36 (evQ V xa)→W.cell? ⟨N14,9,none⟩=some (.slice xa.ta 0 xa.tc):=fun W h=>by
  have h9:W.cell? ⟨N14,9,none⟩=some (.slice xa.ta V.tag.length xa.tc):=h.cell 9 rfl;rw[HV.out.2.1]at h9
  exact h9
 have m9:∀ W:World,Blk W N16 36 (evQ M xm)→W.cell? ⟨N16,9,none⟩=some (.slice xm.ta 32 xm.tc):=fun W h=>by
  have h9:W.cell? ⟨N16,9,none⟩=some (.slice xm.ta M.tag.length xm.tc):=h.cell 9 rfl;rw[Mf.out.1,Mf.out.2]at h9
  exact h9
 obtain⟨st,vd⟩:∃ st,(⟨C.toArray⟩:ByteArray)=st:=⟨_,rfl⟩
 obtain⟨ht,JX⟩:∃ st,(⟨hm.toArray⟩:ByteArray)=st:=⟨_,rfl⟩
 have V1:∀ W:World,Holds W Mb→(convert 23 9 (.slice xa.ba cn xa.bc)).run Tryz.prog W=.ok (.string st) W:=fun W h=>by
  rw[← vd]
  exact vP (Src.of_row (by have:=WG.out.body;rw[HV.out.1]at this;exact this.row) h) cn xa.bc QZ.symm
 have V2:∀ W:World,Holds W Mb→(convert 23 9 (.slice B16 cn d16)).run Tryz.prog W=.ok (.string st) W:=fun W h=>by
  rw[← vd]
  exact vP (Src.of_row HC.out.row h) cn d16 QZ.symm
 have V3:∀ W:World,Holds W Mb→(convert 23 9 (.slice xm.ta 32 xm.tc)).run Tryz.prog W=.ok (.string ht) W:=fun W h=>by
  rw[← JX]
  exact vP (Src.of_row (by have:=TO.out.tag;rw[Mf.out.1]at this;exact this.row) h) 32 xm.tc Mf.out.2.symm
 have HH:=Hh (fun(W:World) (h:Holds W Mb)=>du (n:=16) Zc.out.1.symm (by have:=Zc.out.1;omega) (c:=kc) (b:=l15) (k:=n15) Gu.out.symm (by rw[YY.out.1];have:=qP LM.out.1;omega) (d:=d15) W (Src.of_row (Zc.out.2.mono LE.out).row h) (Src.of_row YY.out.2.row h));rw[JW]at HH;have AW:=Hh (fun(W:World) (h:Holds W Mb)=>lh (HT.out.mono LE.out) W h);have bm:=Hh JX;have Ei:=Hh Mf.out.2;have KC8:=Hh c8;have KC9:=Hh c9;have KM9:=Hh m9;have KV1:=Hh V1;have KV2:=Hh V2;have KV3:=Hh V3;clear QZ JW vd JX c8 c9 m9 V1 V2 V3;go_upto_region 11 with fail
 replace oW:=oW.drew;replace tG:=tG.drew;replace rs:=rs.drew
 refine zw 46 (fun wx=>wx.cell? ⟨N14,8,none⟩=some (.slice xa.ba cn xa.bc)∧wx.cell? ⟨N14,9,none⟩=some (.slice xa.ta 0 xa.tc)∧wx.cell? ⟨N16,9,none⟩=some (.slice xm.ta 32 xm.tc)∧(convert 23 9 (.slice xa.ba cn xa.bc)).run Tryz.prog wx=.ok (.string st) wx∧(convert 23 9 (.slice B16 cn d16)).run Tryz.prog wx=.ok (.string st) wx∧(convert 23 9 (.slice xm.ta 32 xm.tc)).run Tryz.prog wx=.ok (.string ht) wx) (by kernel_rfl) (⟨KC8.out _ tG,KC9.out _ tG,KM9.out _ rs,KV1.out _ oW.holds,KV2.out _ oW.holds,KV3.out _ oW.holds⟩) (fun zy=>?_)
 refine TkS 0 rfl zy ?_
 refine TkS 1 rfl zy ?_
 refine TkS 2 rfl zy ?_
 refine sq 3 rfl zy ?_
 refine sq 4 rfl zy ?_
 refine TkS 5 rfl zy ?_
 refine TkS 6 rfl zy ?_
 refine sq 7 rfl zy ?_
 refine sq 8 rfl zy ?_
 refine TkS 9 rfl zy ?_
 refine TkS 10 rfl zy ?_
 refine sq 11 rfl zy ?_
 refine sq 12 rfl zy ?_
 refine TkS 13 rfl zy ?_
 refine TkS 14 rfl zy ?_
 refine sq 15 rfl zy ?_
 refine sq 16 rfl zy ?_
 refine TkS 17 rfl zy ?_
 refine TkS 18 rfl zy ?_
 refine sq 19 rfl zy ?_
 refine sq 20 rfl zy ?_
 refine sq 21 rfl zy ?_
 refine sq 22 rfl zy ?_
 refine sq 23 rfl zy ?_
 refine sq 24 rfl zy ?_
 refine TkS 25 rfl zy ?_
 refine TkS 26 rfl zy ?_
 refine sq 27 rfl zy ?_
 refine sq 28 rfl zy ?_
 refine sq 29 rfl zy ?_
 refine sq 30 rfl zy ?_
 refine sq 31 rfl zy ?_
 refine To 32 rfl fun K hK=>?_
 go_simp
 refine(HH.out _ oW.holds).mono ?_
 rintro e w32 ⟨r32,rfl,Yf⟩
 obtain⟨B32,d32,rfl,cC⟩:=Yf.own.form;clear cC;rw[Ei.out];have IR:=Yf.own.src;replace tG:=tG.below Yf.2;replace rs:=rs.below Yf.2;replace oW:=oW.below_ Yf.2;clear Yf
 refine Ko hK ?_ fun zy=>?_
 ·exact⟨KC8.out _ tG,KC9.out _ tG,KM9.out _ rs,KV1.out _ oW.holds,KV2.out _ oW.holds,KV3.out _ oW.holds⟩
 clear hK K
 refine To 33 rfl fun K hK=>?_
 rw[if_pos (by rfl)]
 refine fQ _ rfl _ 32 d32 hm rfl Ei.out.symm IR ?_
 rw[bm.out]
 refine Ko hK ?_ fun zy=>?_
 ·exact⟨KC8.out _ tG,KC9.out _ tG,KM9.out _ rs,KV1.out _ oW.holds,KV2.out _ oW.holds,KV3.out _ oW.holds⟩
 clear hK K
 refine sq 34 rfl zy ?_
 refine TkS 35 rfl zy ?_
 refine TkS 36 rfl zy ?_
 refine sq 37 rfl zy ?_
 refine sq 38 rfl zy ?_
 refine sq 39 rfl zy ?_
 refine sq 40 rfl zy ?_
 refine TkS 41 rfl zy ?_
 refine TkS 42 rfl zy ?_
 refine To 43 rfl fun K hK=>?_
 go_simp
 refine(AW.out _ oW.holds).mono ?_
 rintro e w43 ⟨rfl,T5⟩
 replace tG:=tG.below T5;replace rs:=rs.below T5;replace oW:=oW.below_ T5;clear T5
 refine Ko hK ?_ fun zy=>?_
 ·exact⟨KC8.out _ tG,KC9.out _ tG,KM9.out _ rs,KV1.out _ oW.holds,KV2.out _ oW.holds,KV3.out _ oW.holds⟩
 clear hK K
 refine TkS 44 rfl zy ?_
 refine TkS 45 rfl zy ?_
 refine Wd ?_
 have pw:=oW.below;clear zy tG rs oW;go_wp2_with fail
 go_ret
 exact⟨rfl,pw⟩
end Go.Proofs.YtliomcphdnppnaaGreatDoor
