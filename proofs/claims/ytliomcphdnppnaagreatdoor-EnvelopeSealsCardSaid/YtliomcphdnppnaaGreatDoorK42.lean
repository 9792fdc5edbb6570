/- squeezed. The walk of EnvelopeSeals. -/
import Derived.Test.YtliomcphdnppnaaGreatDoorK41
set_option linter.unusedVariables false
set_option linter.unusedSimpArgs false
set_option maxRecDepth 100000
set_option maxHeartbeats 25600000
namespace Go.Proofs.YtliomcphdnppnaaGreatDoor
open Go.RowKit
structure FourS (wr:World) (H:Snap) (R k:Nat) (v:Ev) (y:EvAd):Prop where
 c0:wr.cell? ⟨R,k*10,none⟩=some (.int .i64 v.p.kind)
 c1:wr.cell? ⟨R,k*10+1,none⟩=some (.int .u64 v.p.n)
 c2:wr.cell? ⟨R,k*10+2,none⟩=some (.slice y.a.ba v.p.bytes.length y.a.bc)
 c3:wr.cell? ⟨R,k*10+3,none⟩=some (.slice y.a.ia v.p.items.length y.a.ic)
 c4:wr.cell? ⟨R,k*10+4,none⟩=some (.int .i64 v.u.kind)
 c5:wr.cell? ⟨R,k*10+5,none⟩=some (.int .u64 v.u.n)
 c6:wr.cell? ⟨R,k*10+6,none⟩=some (.slice y.b.ba v.u.bytes.length y.b.bc)
 c7:wr.cell? ⟨R,k*10+7,none⟩=some (.slice y.b.ia v.u.items.length y.b.ic)
 c8:wr.cell? ⟨R,k*10+8,none⟩=some (.slice y.ba v.body.length y.bc)
 c9:wr.cell? ⟨R,k*10+9,none⟩=some (.slice y.ta v.tag.length y.tc)
 is:EvA H v y
theorem mn:(Tryz.prog.info? 23).map (·.size)=some 1:=by kernel_rfl
theorem gC (p u:Itm) (ext plain key nonce:List UInt8):Modest (qX p u ext plain key nonce).p∧Modest (qX p u ext plain key nonce).u:=by
 unfold qX
 split
 ·rename_i h
  have hv:zV p u=true:=by
   cases hv:zV p u with
   | true=>rfl
   | false=>rw[uy,if_pos hv]at h;cases h
  have vv:=yZ hv
  exact⟨zE vv.1,zE vv.2.1⟩
 have hz:Modest zm:=by rw[Modest,ModestL];simp
 exact⟨hz,hz⟩
theorem Zl (p u:Itm) (ext plain key nonce:List UInt8) (hp:plain.length≤600):(qX p u ext plain key nonce).body.length≤616:=by
 unfold qX
 split
 ·show(qW p u ext plain key nonce).2.length≤616
  have ht:=oD (vt p u);rw[qW,wO]
  split
  ·simp
  split
  ·simp
  show(rf _ _ _ _ _).length≤616
  rw[Zj _ _ _ _ (by omega)]
  omega
 simp[ii]
theorem cJ {w wr:World}{H Hr:Snap}(h:Grows w H wr Hr) (b:UInt8) :
  ∃ H',Grows w H (wr.alloc (.cells #[zv b] 5)) H'∧Hr.le H'∧IsBytes H' (some ⟨wr.heap.size,0,none⟩) 1 [b]∧∀ q,q<wr.heap.size→Hr q=none→H' q=none:=by
 have h0:Hr wr.heap.size=none:=h.holds.none_of_ge (Nat.le_refl _);have hG:=(h.alloc (.cells #[zv b] 5)).withOwn (g:=wr.heap.size) h0 h.size (heap_alloc_new wr _)
 refine⟨_,hG,Snap.le_with h0,⟨by simp,by omega,fun _=>⟨wr.heap.size,0,rfl,fun j v hj=>?_⟩⟩,fun q hq hn=>?_⟩
 ·match j,hj with
  | 0,hj =>
   simp at hj
   simp[Snap.cell?,Snap.with,hj]
  | j+1,hj=>simp at hj
 unfold Snap.with
 rw[if_neg (by omega)]
 exact hn
theorem eJ {H:Snap}(hTab:Tabs H) {p u:Itm}{a b:Ad}(hp:IsItem H a.ba a.bc a.ia a.ic p) (hu:IsItem H b.ba b.bc b.ia b.ic u) {A:Option Addr}{c:Nat}{l:List Int}(hl:IsInts H A c l)
  {EA:Option Addr} {en ec:Nat} {ext:List UInt8} (dn:en=ext.length) (hext:IsBytes H EA ec ext) {PA:Option Addr} {pn pc:Nat} {pay:List UInt8} (hpn:pn=pay.length) (hpay:IsBytes H PA pc pay) (z at_ by_:Int) (w:World) (hH:Holds w H) :
  Calls Tryz.prog 3 #[.agg (zY p a u b),.slice A l.length c,.slice EA en ec,.slice PA pn pc,.int .i64 z,.int .i64 at_,.int .i64 by_] w fun e w'=>e=.returned (.bool true)∧Below w.heap.size w w':=by
 have hB:=Blk.new w 28 (zY p a u b);have hG:=(Grows.refl hH).alloc (.cells (zY p a u b) 28);have HX:=Hh (And.intro dn hext);have HY:=Hh (And.intro hpn hpay);have MD:=Hh (fun(v m:Int) (h0:0<m) (h1:m≤100) (w:World)=>gT v m h0 (by omega) w);obtain⟨ln,QQ⟩:∃ n,l.length=n:=⟨_,rfl⟩
 have Oi:=Hh QQ;rw[QQ];obtain⟨w1,qe⟩:∃ w1,w.alloc (.cells (zY p a u b) 28)=w1:=⟨_,rfl⟩
 have vT:w1.heap.size=w.heap.size+1:=by rw[← qe,zu]
 rw[qe]at hB hG
 obtain⟨H2,xR,pA,Pm⟩:=iY hG 23 [.slice EA en ec,.slice PA pn pc] [ext,pay] (by simp) (fun j hj=>by
  match j,hj with
  | 0,_=>exact⟨EA,ec,by rw[HX.out.1];rfl,HX.out.2.mono hG.le⟩
  | 1,_=>exact⟨PA,pc,by rw[HY.out.1];rfl,HY.out.2.mono hG.le⟩)
 rw[vT]at Pm;have yV:=hB.alloc (.cells [Value.slice EA en ec,.slice PA pn pc].toArray 23);obtain⟨w9,Lh⟩:∃ w9,w1.alloc (.cells [Value.slice EA en ec,.slice PA pn pc].toArray 23)=w9:=⟨_,rfl⟩
 rw[Lh]at xR yV;have Gn:Hid ((w.alloc (.cells (zY p a u b) 28)).alloc (.cells #[Value.slice EA en ec,.slice PA pn pc] 23)=w9):=by rw[Hid,qe];exact Lh
 have SH:=Hh (eK Pm w9 xR.holds);clear Pm pA hB hG dn hext hpn hpay QQ qe Lh vT;go_enter Tryz.func3,Tryz.ntmps3
 go_wp2_with fail
 rw[Gn.out]
 refine SH.out.mono ?_
 rintro e w2 ⟨rfl,rfl⟩
 clear SH Gn
 cases hpb:([ext,pay].all fun l=>decide (l.length≤600)) with
 | false =>
  have HG:=xR;clear hpb xR yV;have AW:=Hh (mY (hTab.mono HG.le) _ HG.holds);have tO:=HG.below;clear HG;go_wp2_with fail
  refine AW.out.mono ?_
  rintro e wz ⟨rfl,zJ⟩
  have qY:=tO.trans (zJ.mono tO.size);go_wp2_with fail
  go_ret
  exact⟨rfl,qY⟩
 | true =>
 have Ol:Hid (ext.length≤600∧pay.length≤600):=by
  simp only[List.all_cons,List.all_nil,Bool.and_eq_true,decide_eq_true_eq,and_true]at hpb
  exact⟨hpb.1,hpb.2⟩
 clear hpb;have k0:=yV.cell 0 rfl;have k1:=yV.cell 1 rfl;have k2:=yV.cell 2 rfl;have k3:=yV.cell 3 rfl;have k4:=yV.cell 4 rfl;have k5:=yV.cell 5 rfl;have k6:=yV.cell 6 rfl;have k7:=yV.cell 7 rfl;have KD:=Hh (jC (hTab.mono xR.le) (hp.mono xR.le) (hu.mono xR.le) (hl.mono xR.le) _ xR.holds);rw[Oi.out]at KD;clear yV hp hu hl;go_wp2_with fail
 refine KD.out.mono ?_
 rintro e w3 ⟨p',u',a',b',H3,rfl,ye,tx,qN⟩
 have hD:=Blk.new w3 28 (zY p' a' u' b');have yJ:=(xR.trans ye).alloc (.cells (zY p' a' u' b') 28);obtain⟨w4,Le⟩:∃ w4,w3.alloc (.cells (zY p' a' u' b') 28)=w4:=⟨_,rfl⟩
 obtain⟨N15,RF⟩:∃ N,w3.heap.size=N:=⟨_,rfl⟩
 have KR:=Hh (And.intro Le RF);rw[Le]at hD yJ;rw[RF]at hD;clear KD xR ye k0 k1 k2 k3 k4 k5 k6 k7 Le RF;go_upto_region 4 with fail
 try rw[KR.out.1]
 try rw[KR.out.2]
 clear KR;go_wp2_with fail
 refine(gM (n:=16) z (by omega) w4).mono ?_
 rintro e w5 ⟨KA,kc,key,rfl,lW,wL⟩
 obtain⟨H5,wn,uM,wZ⟩:=Fresh.snapB yJ.holds wL;clear wZ;replace hD:=hD.below wn.below;replace yJ:=yJ.trans wn;replace tx:=tx.mono wn.le;replace qN:=qN.mono wn.le;clear wL wn;go_wp2_with fail
 refine(gM (n:=13) _ (by omega) w5).mono ?_
 rintro e w6 ⟨NA,nc,nonce,rfl,fX,uk⟩
 obtain⟨H6,xH,uI,wZ⟩:=Fresh.snapB yJ.holds uk;clear wZ;replace hD:=hD.below xH.below;replace yJ:=yJ.trans xH;replace tx:=tx.mono xH.le;replace qN:=qN.mono xH.le;replace uM:=uM.mono xH.le;clear uk xH;go_wp2_with fail
 refine(MD.out z 7 (by omega) (by omega) w6).mono ?_
 rintro e w6' ⟨rfl,rfl⟩
 obtain⟨q7,Ia⟩:∃ q,mK z 7=q:=⟨_,rfl⟩
 rw[Ia];have KJ:=Hh (And.intro lW uM);have ow:=Hh (And.intro fX uI);have oQ:=Hh (And.intro tx qN);clear Ia lW uM fX uI tx qN;go_upto_if 46 with fail
 go_cut [16] (fun s16 wx=>∃ (KA':Option Addr) (kn kc':Nat) (key':List UInt8) (H':Snap),s16=.slice KA' kn kc'∧kn=key'.length∧Grows w6 H6 wx H'∧IsBytes H' KA' kc' key')
 case first =>
  by_cases h6:q7=6
  ·subst h6;go_wp2_with fail
   refine(MD.out by_ 20 (by omega) (by omega) w6).mono ?_
   rintro e w7 ⟨rfl,rfl⟩
   obtain⟨q,hq⟩:∃ q,mK by_ 20=q:=⟨_,rfl⟩
   have mb:=o3 by_ 20 (by omega);rw[hq]at mb⊢;obtain⟨m,rfl⟩:=Int.eq_ofNat_of_zero_le mb.1;have hm:m≤128:=by omega
   clear hq mb;go_wp2_with fail
   refine(gM (n:=m) z hm w6).mono ?_
   rintro e w7 ⟨KA',kc',key',rfl,QP,Yc⟩
   obtain⟨H7,wF,N7,wZ⟩:=Fresh.snapB yJ.holds Yc;clear Yc;go_wp2_with fail
   go_meet
   rename_i hqe
   injection hqe with hqe
   subst hqe
   exact⟨KA',m,kc',key',H7,rfl,QP.symm,wF,N7⟩
  have fh:(q7==6)=false:=by rw[beq_eq_false_iff_ne];exact h6
  have fj:=eq_false h6;clear h6;go_wp2_with fail
  go_meet
  exact⟨KA,16,kc,key,H6,rfl,KJ.out.1.symm,Grows.refl yJ.holds,KJ.out.2⟩
 case rest =>
 obtain⟨KB,kn,kd,kk,H7,rfl,uN,wF,ji⟩:=hcut;replace hD:=hD.below wF.below;replace yJ:=yJ.trans wF;replace oQ:=Hh (And.intro (oQ.out.1.mono wF.le) (oQ.out.2.mono wF.le));replace ow:=Hh (And.intro ow.out.1 (ow.out.2.mono wF.le));have HK:=Hh (And.intro uN ji);clear KJ uN ji wF;have HT:=Hh (hTab.mono yJ.le);replace HX:=Hh (And.intro HX.out.1 (HX.out.2.mono yJ.le));replace HY:=Hh (And.intro HY.out.1 (HY.out.2.mono yJ.le));obtain⟨wa,Ip⟩:∃ wa,wc=wa:=⟨_,rfl⟩
 rw[Ip]at yJ hD⊢;clear Ip;have M1:=Hh (iy HT.out oQ.out.1 oQ.out.2 (ec:=ec) HX.out.1 HX.out.2 (by have:=Ol.out;omega) (pc:=pc) HY.out.1 HY.out.2 (kc:=kd) HK.out.1 HK.out.2 (nn:=13) (nc:=nc) ow.out.1.symm ow.out.2 wa yJ.holds);have j0:=hD.cell 0 rfl;have j1:=hD.cell 1 rfl;have j2:=hD.cell 2 rfl;have j3:=hD.cell 3 rfl;have j4:=hD.cell 4 rfl;have j5:=hD.cell 5 rfl;have j6:=hD.cell 6 rfl;have j7:=hD.cell 7 rfl;go_wp2_with fail
 refine M1.out.mono ?_
 rintro e w5 ⟨x,H8,rfl,wn,hx⟩
 obtain⟨V,hV⟩:∃ V,qX p' u' ext pay kk nonce=V:=⟨_,rfl⟩
 obtain⟨E,hE⟩:∃ E,uy p' u' ext pay kk nonce=E:=⟨_,rfl⟩
 have HV:=Hh hV;have HE:=Hh hE;rw[hV]at hx⊢;rw[hE];have xH:=(yJ.trans wn).alloc (.cells (evQ V x) 36);have dg:=(hD.below wn.below).alloc (.cells (evQ V x) 36);have pD:=Blk.new w5 36 (evQ V x);obtain⟨w6,Mt⟩:∃ w6,w5.alloc (.cells (evQ V x) 36)=w6:=⟨_,rfl⟩
 obtain⟨N16,RG⟩:∃ N,w5.heap.size=N:=⟨_,rfl⟩
 have KT:=Hh (And.intro Mt RG);rw[Mt]at xH dg pD;rw[RG]at pD;have Ew:=Hh hx;have TM:=Hh wn.le;have GX:=Hh (cW (HT.out.mono wn.le) (oQ.out.1.mono wn.le) (oQ.out.2.mono wn.le) (ec:=ec) HX.out.1 (HX.out.2.mono wn.le) (by have:=Ol.out;omega) (pc:=pc) HY.out.1 (HY.out.2.mono wn.le) (kc:=kd) HK.out.1 (HK.out.2.mono wn.le) (nn:=13) (nc:=nc) ow.out.1.symm (ow.out.2.mono wn.le) w6 xH.holds);clear M1 yJ wn hD hx hV hE Mt RG j0 j1 j2 j3 j4 j5 j6 j7;have j0:=dg.cell 0 rfl;have j1:=dg.cell 1 rfl;have j2:=dg.cell 2 rfl;have j3:=dg.cell 3 rfl;have j4:=dg.cell 4 rfl;have j5:=dg.cell 5 rfl;have j6:=dg.cell 6 rfl;have j7:=dg.cell 7 rfl;go_upto_region 8 with fail
 try rw[KT.out.1]
 try rw[KT.out.2]
 go_wp2_with fail
 refine GX.out.mono ?_
 rintro e w7 ⟨y,H9,rfl,wF,hy⟩
 rw[HV.out]at hy⊢;rw[HE.out];have xp:=(xH.trans wF).alloc (.cells (evQ V y) 36);have uK:=(dg.below wF.below).alloc (.cells (evQ V y) 36);replace pD:=(pD.below wF.below).alloc (.cells (evQ V y) 36);have xu:=Blk.new w7 36 (evQ V y);obtain⟨w8,Lg⟩:∃ w8,w7.alloc (.cells (evQ V y) 36)=w8:=⟨_,rfl⟩
 obtain⟨N18,RH⟩:∃ N,w7.heap.size=N:=⟨_,rfl⟩
 have KU:=Hh (And.intro Lg RH);rw[Lg]at xp uK pD xu;rw[RH]at xu;have KZ:=Hh hy;have Mb:=gC p' u' ext pay kk nonce;have Kv:=Zl p' u' ext pay kk nonce Ol.out.2;rw[HV.out]at Mb Kv;have SN:=Hh Kv;have SM:=Hh (cV Mb.1 Mb.2 (Ew.out.mono wF.le) KZ.out _ xp.holds);replace TM:=Hh (TM.out.trans wF.le);clear GX xH wF dg hy Lg RH KT Mb Kv j0 j1 j2 j3 j4 j5 j6 j7;have j0:=pD.cell 0 rfl;have j1:=pD.cell 1 rfl;have j2:=pD.cell 2 rfl;have j3:=pD.cell 3 rfl;have j4:=pD.cell 4 rfl;have j5:=pD.cell 5 rfl;have j6:=pD.cell 6 rfl;have j7:=pD.cell 7 rfl;have j8:=pD.cell 8 rfl;have j9:=pD.cell 9 rfl;have k0:=xu.cell 0 rfl;have k1:=xu.cell 1 rfl;have k2:=xu.cell 2 rfl;have k3:=xu.cell 3 rfl;have k4:=xu.cell 4 rfl;have k5:=xu.cell 5 rfl;have k6:=xu.cell 6 rfl;have k7:=xu.cell 7 rfl
 have k8:=xu.cell 8 rfl;have k9:=xu.cell 9 rfl;go_upto_region 9 with fail
 try rw[KU.out.1]
 try rw[KU.out.2]
 go_wp2_with fail
 refine SM.out.mono ?_
 rintro e w9 ⟨rfl,nV⟩
 replace uK:=uK.below nV;replace xu:=xu.below nV;have hG:=xp.below_ nV;clear SM xp nV pD KU j0 j1 j2 j3 j4 j5 j6 j7 j8 j9 k0 k1 k2 k3 k4 k5 k6 k7 k8 k9;go_upto_region 11 with fail
 have k0:=xu.cell 0 rfl;have k1:=xu.cell 1 rfl;have k2:=xu.cell 2 rfl;have k3:=xu.cell 3 rfl;have k4:=xu.cell 4 rfl;have k5:=xu.cell 5 rfl;have k6:=xu.cell 6 rfl;have k7:=xu.cell 7 rfl;have k8:=xu.cell 8 rfl;have k9:=xu.cell 9 rfl;have dG:=Blk.new w9 36 (evQ V y);have YE:H9 w9.heap.size=none:=hG.holds.none_of_ge (Nat.le_refl _);have Rg:=hG.size;have VK:=Hh (And.intro uK.lt xu.lt);replace hG:=hG.alloc (.cells (evQ V y) 36);replace uK:=uK.alloc (.cells (evQ V y) 36);replace xu:=xu.alloc (.cells (evQ V y) 36);obtain⟨wx,Yj⟩:∃ wx,w9.alloc (.cells (evQ V y) 36)=wx:=⟨_,rfl⟩
 obtain⟨N20,RI⟩:∃ N,w9.heap.size=N:=⟨_,rfl⟩
 have YP:=Hh (And.intro Yj RI);rw[Yj]at hG uK xu dG;rw[RI]at dG YE Rg VK;clear Yj RI;go_upto_region 12 with fail
 try rw[YP.out.1]
 try rw[YP.out.2]
 clear YP k0 k1 k2 k3 k4 k5 k6 k7 k8 k9;have S1:=Hh (ZU (c:=y.bc) _ hG.holds rfl KZ.out.body (by have:=SN.out;omega) at_ by_);have k8:=xu.cell 8 rfl;go_wp2_with fail
 refine S1.out.mono ?_
 rintro e w10 ⟨BA,bc,bd,rfl,EQ,oZ,vG⟩
 have uD:=dG.lt;replace dG:=dG.below oZ.below;replace uK:=uK.below oZ.below;replace xu:=xu.below oZ.below;replace YE:=oZ.none YE uD;replace hG:=hG.trans oZ;have NZ:=Hh oZ.le;have Vy:=Hh vG;clear S1 k8 vG uD oZ;obtain⟨bn,nW⟩:∃ n,bd.length=n:=⟨_,rfl⟩
 have Lp:=Hh nW;rw[nW];go_wp2_with (with_reducible refine zx ?_)
 refine zT rfl _ _ _ rfl rfl N20 8 (.slice BA bn bc) rfl rfl _ _ dG mn (by simp[evQ,evC]) rfl fun w11 hB11 tZ=>?_
 replace uK:=uK.grown tZ (fun e=>by injection e with e;have:=VK.out;omega);replace xu:=xu.grown tZ (fun e=>by injection e with e;have:=VK.out;omega);replace hG:=hG.grownOwn YE Rg tZ;have rh:Blk w11 N20 36 (evC V.p y.a V.u y.b BA bn bc y.ta V.tag.length y.tc):=hB11;clear hB11 dG tZ nW YE Rg VK;go_upto_region 13 with fail
 have k0:=xu.cell 0 rfl;have k1:=xu.cell 1 rfl;have k2:=xu.cell 2 rfl;have k3:=xu.cell 3 rfl;have k4:=xu.cell 4 rfl;have k5:=xu.cell 5 rfl;have k6:=xu.cell 6 rfl;have k7:=xu.cell 7 rfl;have k8:=xu.cell 8 rfl;have k9:=xu.cell 9 rfl;have Y6:=Blk.new w11 36 (evQ V y);have Rm:EQ w11.heap.size=none:=hG.holds.none_of_ge (Nat.le_refl _);have Rh:=hG.size;have YG:=Hh (And.intro uK.lt (And.intro xu.lt rh.lt));replace hG:=hG.alloc (.cells (evQ V y) 36);replace uK:=uK.alloc (.cells (evQ V y) 36);replace xu:=xu.alloc (.cells (evQ V y) 36);replace rh:=rh.alloc (.cells (evQ V y) 36);obtain⟨wx,Yj⟩:∃ wx,w11.alloc (.cells (evQ V y) 36)=wx:=⟨_,rfl⟩
 obtain⟨N30,RK⟩:∃ N,w11.heap.size=N:=⟨_,rfl⟩
 have YP:=Hh (And.intro Yj RK);rw[Yj]at hG uK xu Y6 rh;rw[RK]at Y6 Rm Rh YG;clear Yj RK;go_upto_region 14 with fail
 try rw[YP.out.1]
 try rw[YP.out.2]
 clear YP k0 k1 k2 k3 k4 k5 k6 k7 k8 k9;obtain⟨Vx,mF,T6,gi,ot⟩:=cJ hG 1;have uD:=Y6.lt;have R5:=Y6.alloc (.cells #[zv 1] 5);replace uK:=uK.alloc (.cells #[zv 1] 5);replace xu:=xu.alloc (.cells #[zv 1] 5);replace rh:=rh.alloc (.cells #[zv 1] 5);have OM:Vx N30=none:=ot _ uD Rm;obtain⟨N31,RL⟩:∃ N,wx.heap.size=N:=⟨_,rfl⟩
 obtain⟨wy,Lk⟩:∃ wy,wx.alloc (.cells #[zv 1] 5)=wy:=⟨_,rfl⟩
 have KV:Hid (wx.alloc (.cells #[Value.int .u8 1] 5)=wy∧wx.heap.size=N31):=⟨Lk,RL⟩
 rw[Lk]at mF R5 uK xu rh;rw[RL]at gi;have R1:=Hh T6;have dE:=Hh gi;clear Lk RL hG Y6 Rm T6 gi ot uD;go_wp2_with (with_reducible refine zx ?_)
 unfold yy
 try rw[KV.out.1]
 try rw[KV.out.2]
 clear KV
 refine zT rfl _ _ _ rfl rfl N30 9 (.slice (some ⟨N31,0,none⟩) 1 1) rfl rfl _ _ R5 mn (by simp[evQ,evC]) rfl fun w13 hB32 hg13=>?_
 replace uK:=uK.grown hg13 (fun e=>by injection e with e;have:=YG.out;omega);replace xu:=xu.grown hg13 (fun e=>by injection e with e;have:=YG.out;omega);replace rh:=rh.grown hg13 (fun e=>by injection e with e;have:=YG.out;omega);replace mF:=mF.grownOwn OM Rh hg13;have lT:Blk w13 N30 36 (evC V.p y.a V.u y.b y.ba V.body.length y.bc (some ⟨N31,0,none⟩) 1 1):=hB32;clear R5 hB32 hg13 OM Rh YG;have hR:=Blk.new w13 36 #[.int .i64 V.p.kind,.int .u64 V.p.n,.slice y.a.ba V.p.bytes.length y.a.bc,.slice y.a.ia V.p.items.length y.a.ic,.int .i64 V.u.kind,.int .u64 V.u.n,.slice y.b.ba V.u.bytes.length y.b.bc,.slice y.b.ia V.u.items.length y.b.ic,.slice y.ba V.body.length y.bc,.slice y.ta V.tag.length y.tc,.int .i64 V.p.kind,.int .u64 V.p.n,.slice y.a.ba V.p.bytes.length y.a.bc,.slice y.a.ia V.p.items.length y.a.ic,.int .i64 V.u.kind,.int .u64 V.u.n,.slice y.b.ba V.u.bytes.length y.b.bc,.slice y.b.ia V.u.items.length y.b.ic,.slice BA bn bc,.slice y.ta V.tag.length y.tc,.int .i64 V.p.kind,.int .u64 V.p.n,.slice y.a.ba V.p.bytes.length y.a.bc,.slice y.a.ia V.p.items.length y.a.ic,.int .i64 V.u.kind,.int .u64 V.u.n,.slice y.b.ba V.u.bytes.length y.b.bc,.slice y.b.ia V.u.items.length y.b.ic,.slice y.ba V.body.length y.bc,.slice (some ⟨N31,0,none⟩) 1 1,.int .i64 p'.kind,.int .u64 p'.n,.slice a'.ba p'.bytes.length a'.bc,.slice a'.ia p'.items.length a'.ic,.int .i64 u'.kind,.int .u64 u'.n,.slice b'.ba u'.bytes.length b'.bc,.slice b'.ia u'.items.length b'.ic,.slice PA pn pc,.slice none 0 0]
 have sr:=mF.alloc (.cells #[.int .i64 V.p.kind,.int .u64 V.p.n,.slice y.a.ba V.p.bytes.length y.a.bc,.slice y.a.ia V.p.items.length y.a.ic,.int .i64 V.u.kind,.int .u64 V.u.n,.slice y.b.ba V.u.bytes.length y.b.bc,.slice y.b.ia V.u.items.length y.b.ic,.slice y.ba V.body.length y.bc,.slice y.ta V.tag.length y.tc,.int .i64 V.p.kind,.int .u64 V.p.n,.slice y.a.ba V.p.bytes.length y.a.bc,.slice y.a.ia V.p.items.length y.a.ic,.int .i64 V.u.kind,.int .u64 V.u.n,.slice y.b.ba V.u.bytes.length y.b.bc,.slice y.b.ia V.u.items.length y.b.ic,.slice BA bn bc,.slice y.ta V.tag.length y.tc,.int .i64 V.p.kind,.int .u64 V.p.n,.slice y.a.ba V.p.bytes.length y.a.bc,.slice y.a.ia V.p.items.length y.a.ic,.int .i64 V.u.kind,.int .u64 V.u.n,.slice y.b.ba V.u.bytes.length y.b.bc,.slice y.b.ia V.u.items.length y.b.ic,.slice y.ba V.body.length y.bc,.slice (some ⟨N31,0,none⟩) 1 1,.int .i64 p'.kind,.int .u64 p'.n,.slice a'.ba p'.bytes.length a'.bc,.slice a'.ia p'.items.length a'.ic,.int .i64 u'.kind,.int .u64 u'.n,.slice b'.ba u'.bytes.length b'.bc,.slice b'.ia u'.items.length b'.ic,.slice PA pn pc,.slice none 0 0] 36)
 have j0:=xu.cell 0 rfl;have j1:=xu.cell 1 rfl;have j2:=xu.cell 2 rfl;have j3:=xu.cell 3 rfl;have j4:=xu.cell 4 rfl;have j5:=xu.cell 5 rfl;have j6:=xu.cell 6 rfl;have j7:=xu.cell 7 rfl;have j8:=xu.cell 8 rfl;have j9:=xu.cell 9 rfl;have k0:=rh.cell 0 rfl;have k1:=rh.cell 1 rfl;have k2:=rh.cell 2 rfl;have k3:=rh.cell 3 rfl;have k4:=rh.cell 4 rfl;have k5:=rh.cell 5 rfl;have k6:=rh.cell 6 rfl;have k7:=rh.cell 7 rfl;have k8:=rh.cell 8 rfl;have k9:=rh.cell 9 rfl;have l0:=lT.cell 0 rfl;have l1:=lT.cell 1 rfl;have l2:=lT.cell 2 rfl;have l3:=lT.cell 3 rfl;have l4:=lT.cell 4 rfl;have l5:=lT.cell 5 rfl;have l6:=lT.cell 6 rfl;have l7:=lT.cell 7 rfl;have l8:=lT.cell 8 rfl;have l9:=lT.cell 9 rfl;have m0:=uK.cell 0 rfl;have m1:=uK.cell 1 rfl;have m2:=uK.cell 2 rfl;have m3:=uK.cell 3 rfl
 have m4:=uK.cell 4 rfl;have m5:=uK.cell 5 rfl;have m6:=uK.cell 6 rfl;have m7:=uK.cell 7 rfl;obtain⟨w14,Rr⟩:∃ w14,w13.alloc (.cells #[.int .i64 V.p.kind,.int .u64 V.p.n,.slice y.a.ba V.p.bytes.length y.a.bc,.slice y.a.ia V.p.items.length y.a.ic,.int .i64 V.u.kind,.int .u64 V.u.n,.slice y.b.ba V.u.bytes.length y.b.bc,.slice y.b.ia V.u.items.length y.b.ic,.slice y.ba V.body.length y.bc,.slice y.ta V.tag.length y.tc,.int .i64 V.p.kind,.int .u64 V.p.n,.slice y.a.ba V.p.bytes.length y.a.bc,.slice y.a.ia V.p.items.length y.a.ic,.int .i64 V.u.kind,.int .u64 V.u.n,.slice y.b.ba V.u.bytes.length y.b.bc,.slice y.b.ia V.u.items.length y.b.ic,.slice BA bn bc,.slice y.ta V.tag.length y.tc,.int .i64 V.p.kind,.int .u64 V.p.n,.slice y.a.ba V.p.bytes.length y.a.bc,.slice y.a.ia V.p.items.length y.a.ic,.int .i64 V.u.kind,.int .u64 V.u.n,.slice y.b.ba V.u.bytes.length y.b.bc,.slice y.b.ia V.u.items.length y.b.ic,.slice y.ba V.body.length y.bc,.slice (some ⟨N31,0,none⟩) 1 1,.int .i64 p'.kind,.int .u64 p'.n,.slice a'.ba p'.bytes.length a'.bc,.slice a'.ia p'.items.length a'.ic,.int .i64 u'.kind,.int .u64 u'.n,.slice b'.ba u'.bytes.length b'.bc,.slice b'.ia u'.items.length b'.ic,.slice PA pn pc,.slice none 0 0] 36)=w14:=⟨_,rfl⟩
 obtain⟨R,fb⟩:∃ N,w13.heap.size=N:=⟨_,rfl⟩
 have R2:=Hh (And.intro Rr fb);rw[Rr]at hR sr;rw[fb]at hR;clear Rr fb mF uK xu rh lT;go_upto_region 16 with fail
 try rw[R2.out.1]
 try rw[R2.out.2]
 clear R2 j0 j1 j2 j3 j4 j5 j6 j7 j8 j9 k0 k1 k2 k3 k4 k5 k6 k7 k8 k9 l0 l1 l2 l3 l4 l5 l6 l7 l8 l9 m0 m1 m2 m3 m4 m5 m6 m7
 have four:∀ k,k<4→∃ v q,FourS w14 Vx R k v q:=fun k hk=>by
  have zC:=NZ.out.trans R1.out;have h1:=KZ.out.mono zC;have e2:=Lp.out;subst e2;have e4:=HY.out.1;subst e4
  rcases(by omega:k=0∨k=1∨k=2∨k=3) with rfl | rfl | rfl | rfl
  ·exact⟨V,y,hR.cell 0 rfl,hR.cell 1 rfl,hR.cell 2 rfl,hR.cell 3 rfl,hR.cell 4 rfl,hR.cell 5 rfl,hR.cell 6 rfl,hR.cell 7 rfl,hR.cell 8 rfl,hR.cell 9 rfl,h1⟩
  ·exact⟨⟨V.p,V.u,bd,V.tag⟩,⟨y.a,y.b,BA,bc,y.ta,y.tc⟩,hR.cell 10 rfl,hR.cell 11 rfl,hR.cell 12 rfl,hR.cell 13 rfl,hR.cell 14 rfl,hR.cell 15 rfl,hR.cell 16 rfl,hR.cell 17 rfl,hR.cell 18 rfl,hR.cell 19 rfl,h1.p,h1.u,Vy.out.mono R1.out,h1.tag⟩
  ·exact⟨⟨V.p,V.u,V.body,[1]⟩,⟨y.a,y.b,y.ba,y.bc,some ⟨N31,0,none⟩,1⟩,hR.cell 20 rfl,hR.cell 21 rfl,hR.cell 22 rfl,hR.cell 23 rfl,hR.cell 24 rfl,hR.cell 25 rfl,hR.cell 26 rfl,hR.cell 27 rfl,hR.cell 28 rfl,hR.cell 29 rfl,h1.p,h1.u,h1.body,dE.out⟩
  exact⟨⟨p',u',pay,[]⟩,⟨a',b',PA,pc,none,0⟩,hR.cell 30 rfl,hR.cell 31 rfl,hR.cell 32 rfl,hR.cell 33 rfl,hR.cell 34 rfl,hR.cell 35 rfl,hR.cell 36 rfl,hR.cell 37 rfl,hR.cell 38 rfl,hR.cell 39 rfl,oQ.out.1.mono (TM.out.trans zC),oQ.out.2.mono (TM.out.trans zC),HY.out.2.mono (TM.out.trans zC),IsBytes.nil _⟩
 have FV:=Hh four;have NV:=Hh sr;have TJ:=Hh (TM.out.trans (NZ.out.trans R1.out));have C1:Hid (∀ (v:Ev) (q:EvAd),EvA Vx v q→∀ W,Holds W Vx→Calls Tryz.prog 15 #[.agg (evQ v q),.slice EA en ec,.slice KB kn kd,.slice NA 13 nc] W (wI W (wE v ext kk nonce))):=fun v q hq W hW=>ix (HT.out.mono TJ.out) hq HX.out.1 (HX.out.2.mono TJ.out) (by have:=Ol.out;omega) HK.out.1 (HK.out.2.mono TJ.out) ow.out.1.symm (ow.out.2.mono TJ.out) W hW
 have C2:Hid (∀ (v:Ev) (q:EvAd),EvA Vx v q→∀ W,Holds W Vx→Calls Tryz.prog 16 #[.agg (evQ v q),.slice EA en ec,.slice KB kn kd,.slice NA 13 nc] W (wI W (wE v ext kk nonce))):=fun v q hq W hW=>cU (HT.out.mono TJ.out) hq HX.out.1 (HX.out.2.mono TJ.out) (by have:=Ol.out;omega) HK.out.1 (HK.out.2.mono TJ.out) ow.out.1.symm (ow.out.2.mono TJ.out) W hW
 clear four hR sr;go_loopw [96] (fun v96 wr=>∃ k:Nat,k≤4∧v96=.int .i64 (k:Int)∧Below w14.heap.size w14 wr) (fun v96 _=>4-(intOf v96).toNat)
 case atStart=>exact⟨0,by omega,rfl,Below.refl _ _⟩
 case round =>
 obtain⟨k,hk,rfl,yS⟩:=hrel;have HG:=NV.out.trans (Grows.of_below NV.out.holds yS)
 by_cases zB:k<4
 ·obtain⟨v,q,f⟩:=FV.out k zB;have F:=Hh f.is;have q0:=zU f.c0 yS;have q1:=zU f.c1 yS;have q2:=zU f.c2 yS;have q3:=zU f.c3 yS;have q4:=zU f.c4 yS;have q5:=zU f.c5 yS;have q6:=zU f.c6 yS;have q7:=zU f.c7 yS;have q8:=zU f.c8 yS;have q9:=zU f.c9 yS;have YD:(k:Int)<4:=by omega
  have gz:(k:Int)+1≤9223372036854775807:=by omega
  have hS:=Blk.new wr 36 (evQ v q);have bL:=HG.alloc (.cells (evQ v q) 36);have yw:=yS.alloc yS.size (.cells (evQ v q) 36);obtain⟨wx,Yj⟩:∃ wx,wr.alloc (.cells (evQ v q) 36)=wx:=⟨_,rfl⟩
  obtain⟨N23,RJ⟩:∃ N,wr.heap.size=N:=⟨_,rfl⟩
  have YP:=Hh (And.intro Yj RJ);rw[Yj]at hS bL yw;rw[RJ]at hS;clear f Yj RJ;go_upto_region 18 with fail
  try rw[YP.out.1]
  try rw[YP.out.2]
  clear HG YP q0 q1 q2 q3 q4 q5 q6 q7 q8 q9;obtain⟨⟨oc,os⟩,ho⟩:∃ r,wE v ext kk nonce=r:=⟨_,rfl⟩
  obtain⟨on,IX⟩:∃ n,os.length=n:=⟨_,rfl⟩
  have D1:Hid (∀ W,Holds W Vx→Calls Tryz.prog 15 #[.agg (evQ v q),.slice EA en ec,.slice KB kn kd,.slice NA 13 nc] W fun e w'=>∃ v,e=.returned (.tuple #[v,.int .i64 oc])∧OwnB w' W.heap.size v os∧Below W.heap.size W w'):=fun W hW=>by
   have h:=C1.out v q F.out W hW;rw[ho]at h
   exact h
  have D2:Hid (∀ W,Holds W Vx→Calls Tryz.prog 16 #[.agg (evQ v q),.slice EA en ec,.slice KB kn kd,.slice NA 13 nc] W fun e w'=>∃ v,e=.returned (.tuple #[v,.int .i64 oc])∧OwnB w' W.heap.size v os∧Below W.heap.size W w'):=fun W hW=>by
   have h:=C2.out v q F.out W hW;rw[ho]at h
   exact h
  have Lx:=Hh IX;clear ho IX;have k0:=hS.cell 0 rfl;have k1:=hS.cell 1 rfl;have k2:=hS.cell 2 rfl;have k3:=hS.cell 3 rfl;have k4:=hS.cell 4 rfl;have k5:=hS.cell 5 rfl;have k6:=hS.cell 6 rfl;have k7:=hS.cell 7 rfl;have k8:=hS.cell 8 rfl;have k9:=hS.cell 9 rfl;go_wp2_with fail
  refine(D1.out _ bL.holds).mono ?_
  rintro e wa ⟨ra,rfl,LN,Si⟩
  obtain⟨BX,dx,rfl,LE,_⟩:=OwnB.form LN;have PX:Fresh wx os _ wa:=⟨LN,Si⟩
  obtain⟨HA,Ki,tf,Rf⟩:=Fresh.snapB bL.holds PX;replace hS:=hS.below Si;replace yw:=yw.trans (Si.mono yw.size);replace bL:=bL.trans Ki;have WB:=Hh Ki.le;have Ls:=Hh tf;rw[Lx.out];clear LE LN Si PX Rf Ki tf D1 k0 k1 k2 k3 k4 k5 k6 k7 k8 k9;have k0:=hS.cell 0 rfl;have k1:=hS.cell 1 rfl;have k2:=hS.cell 2 rfl;have k3:=hS.cell 3 rfl;have k4:=hS.cell 4 rfl;have k5:=hS.cell 5 rfl;have k6:=hS.cell 6 rfl;have k7:=hS.cell 7 rfl;have k8:=hS.cell 8 rfl;have k9:=hS.cell 9 rfl;go_wp2_with fail
  refine(D2.out _ (bL.holds.mono WB.out)).mono ?_
  rintro e wb ⟨rb,rfl,LP,tO⟩
  obtain⟨BY,dy,rfl,LE,_⟩:=OwnB.form LP;have IF:Fresh wa os _ wb:=⟨LP,tO⟩
  obtain⟨DB,Kj,Mj,Rf⟩:=Fresh.snapB bL.holds IF;replace yw:=yw.trans (tO.mono yw.size);replace bL:=bL.trans Kj;rw[Lx.out];obtain⟨ys,Ll⟩:∃ st,(⟨os.toArray⟩:ByteArray)=st:=⟨_,rfl⟩
  have V1:(convert 23 9 (.slice BX on dx)).run Tryz.prog wb=.ok (.string ys) wb:=by
   rw[← Ll]
   exact xV (Src.of_row (Ls.out.mono Kj.le).row bL.holds) on dx Lx.out.symm
  have V2:(convert 23 9 (.slice BY on dy)).run Tryz.prog wb=.ok (.string ys) wb:=by
   rw[← Ll]
   exact xV (Src.of_row Mj.row bL.holds) on dy Lx.out.symm
  clear Ll LE LP tO IF Rf Kj Mj D2 Ls WB bL hS k0 k1 k2 k3 k4 k5 k6 k7 k8 k9;go_wp2_with fail
  go_roundw
  case rel=>exact⟨k+1,by omega,by go_num,yw⟩
  case measure=>simp[intOf];omega
 have YD:¬ (k:Int)<4:=by omega
 have AW:=Hh (mY (hTab.mono HG.le) _ HG.holds);have tO:=HG.below;clear HG;go_wp2_with fail
 refine AW.out.mono ?_
 rintro e wz ⟨rfl,zJ⟩
 have qY:=tO.trans (zJ.mono tO.size);go_wp2_with fail
 go_ret
 exact⟨rfl,qY⟩
end Go.Proofs.YtliomcphdnppnaaGreatDoor
