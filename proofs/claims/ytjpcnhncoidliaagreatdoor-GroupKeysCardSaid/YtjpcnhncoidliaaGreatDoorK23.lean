/- squeezed. Walks: the key of an item, by the  -/
import Derived.Test.YtjpcnhncoidliaaGreatDoorK22
set_option linter.unusedVariables false
set_option linter.unusedSimpArgs false
set_option maxRecDepth 100000
set_option maxHeartbeats 51200000
namespace Go.Proofs.YtjpcnhncoidliaaGreatDoor
open Go.RowKit
theorem Zv (q:Ky) (l:List Itm) (j:Nat) (h:j+1<l.length):vP q (l.drop j)=vP (vm q (l[j]'(by omega)) l[j+1]) (l.drop (j+2)):=by
 rw[List.drop_eq_getElem_cons (by omega:j<l.length),List.drop_eq_getElem_cons h,vP]
theorem jq {z:Itm} : -9223372036854775808≤nmR z∧nmR z≤9223372036854775807:=by
 obtain⟨k,m,b,l⟩:=z;rw[nmR]
 split <;> omega
structure FR (W0:World) (H:Snap) (R K:Nat) (xc kc:Array Value) (w:World) (Hr:Snap):Prop where
 kn:KN W0 H R K kc w Hr
 box:Blk w W0.heap.size 78 xc
 nb:K≠W0.heap.size
section
variable {W0 w w':World} {H Hr Hs:Snap} {R K:Nat} {xc kc kc':Array Value}
theorem FR.grow (h:FR W0 H R K xc kc w Hr) (k:Grows w Hr w' Hs):FR W0 H R K xc kc w' Hs:=⟨h.kn.grow k,h.box.below k.below,h.nb⟩
theorem FR.below (h:FR W0 H R K xc kc w Hr) (k:Below w.heap.size w w'):FR W0 H R K xc kc w' Hr:=h.grow (Grows.of_below h.kn.grows.holds k)
theorem FR.alloc (h:FR W0 H R K xc kc w Hr) (o:Obj):FR W0 H R K xc kc (w.alloc o) Hr:=h.below (zl w o)
theorem FR.drew (h:FR W0 H R K xc kc w Hr):FR W0 H R K xc kc w.drew Hr:=h.below (Below.refl _ _).drew
theorem FR.set (h:FR W0 H R K xc kc w Hr) (hB:Blk w' K 88 kc') (hg:w.grownBy w' (some K)):FR W0 H R K xc kc' w' Hr :=
 ⟨h.kn.set hB hg,h.box.grown hg (fun e=>by injection e with e;exact h.nb e),h.nb⟩
end
theorem fY {H:Snap}(hTab:Tabs H) {x:Itm}{ba:Option Addr}{bc:Nat}{ia:Option Addr}{ic:Nat}(hx:IsItem H ba bc ia ic x) (w:World) (hH:Holds w H) :
  Calls Tryz.prog 90 #[ua x ba bc ia ic] w (XT w H x):=by
 have hX:=(Blk.new w 78 #[.int .i64 x.kind,.int .u64 x.n,.slice ba x.bytes.length bc,.slice ia x.items.length ic]).alloc (.cells jT 88);have hR:=Blk.new (w.alloc (zH x ba bc ia ic)) 88 jT;rw[zW]at hR;have Nm:H (w.heap.size+1)=none:=hH.none_of_ge (by omega);have hG:=((Grows.refl hH).alloc (zH x ba bc ia ic)).alloc (.cells jT 88);have HT:=Hh hTab;have HI:=Hh hx;have a0:=hX.cell 0 rfl;have a1:=hX.cell 1 rfl;have a2:=hX.cell 2 rfl;have a3:=hX.cell 3 rfl;clear hTab hx hH;go_enter Tryz.func90,Tryz.ntmps90
 go_wp2_with fail
 refine(nL HT.out HI.out.arg _ hG.holds).mono ?_
 rintro e w1 ⟨rfl,zP⟩
 replace hX:=hX.below zP;replace hR:=hR.below zP;replace hG:=hG.below_ zP;clear zP a0 a1 a2 a3
 cases hv:yG x with
 | false =>
  have HV:=Hh hv;clear hv hX;go_wp2_with (with_reducible refine zx ?_)
  refine zu rfl _ _ _ rfl rfl _ _ rfl rfl _ _ hR tU rfl (X9 _ _ _ _ _ _ _ rfl rfl rfl rfl rfl rfl rfl) fun wz hRz z8=>?_
  have yx:=hG.grownOwn Nm (by omega) z8;go_wp2_with fail
  refine zw rfl rfl hRz rfl rfl tU rfl ?_
  exact .inl ⟨HV.out,rfl,yx.below⟩
 | true =>
 have HV:=Hh hv;clear hv;have a0:=hX.cell 0 rfl
 by_cases h5:x.kind=5
 case neg =>
  have b5:(x.kind != 5)=true:=by simp[h5]
  have p5:(x.kind=5)=False:=eq_false h5;have H5:=Hh h5;clear h5 hX;go_wp2_with (with_reducible refine zx ?_)
  refine zu rfl _ _ _ rfl rfl _ _ rfl rfl _ _ hR tU rfl (X9 _ _ _ _ _ _ _ rfl rfl rfl rfl rfl rfl rfl) fun wz hRz z8=>?_
  have yx:=hG.grownOwn Nm (by omega) z8;clear a0;go_wp2_with fail
  refine zw rfl rfl hRz rfl rfl tU rfl ?_
  exact .inr (.inl ⟨HV.out,RF H5.out,rfl,yx.below⟩)
 have b5:(x.kind != 5)=false:=by simp[h5]
 have p5:(x.kind=5)=True:=eq_true h5;have Xq:=Hh (jE HV.out h5);clear h5;obtain⟨Kb,hK⟩:∃ Kb,w1.heap.size=Kb:=⟨_,rfl⟩
 have ws:FR w H (w.heap.size+1) w1.heap.size #[.int .i64 x.kind,.int .u64 x.n,.slice ba x.bytes.length bc,.slice ia x.items.length ic] (mu vK ⟨none,0,none,0,none,0,none,0⟩) (w1.alloc (.cells jT 88)) H:=⟨⟨hG.alloc _,hR.alloc _,Blk.new _ _ _,Nm,hG.holds.none_of_ge (Nat.le_refl _),by have:=hR.lt;omega,by omega,hG.size⟩,hX.alloc _,by have:=hX.lt;omega⟩
 rw[hK]at ws;clear hX hR hG;go_wp2_with fail
 try rw[hK]
 clear b5 p5 a0;go_loopw [5] (fun v7 wr=>∃ (j:Nat) (q:Ky) (a:KAd) (Hr:Snap),j≤x.items.length∧j%2=0∧v7=.int .i64 (j:Int)∧FR w H (w.heap.size+1) Kb #[.int .i64 x.kind,.int .u64 x.n,.slice ba x.bytes.length bc,.slice ia x.items.length ic] (mu q a) wr Hr∧KeyA Hr q a∧vP q (x.items.drop j)=vP vK x.items) (fun v7 _=>x.items.length-(intOf v7).toNat)
 case atStart=>exact⟨0,vK,⟨none,0,none,0,none,0,none,0⟩,H,Nat.zero_le _,rfl,rfl,ws,⟨by simp[vK],by simp[vK],by simp[vK],IsBytes.nil _,IsBytes.nil _,IsBytes.nil _,IsBytes.nil _⟩,by rw[List.drop_zero]⟩
 case round =>
 clear ws hK;obtain⟨j,q,a,Hr,hj,Qf,rfl,ws,Ft,NE⟩:=hrel;have eZ:=Hh Qf;have qy:=Hh Ft;have ZP:=Hh NE;clear Qf Ft NE;have a3:=ws.box.cell 3 rfl
 by_cases yy:j<x.items.length
 case neg =>
  have sX:j=x.items.length:=by omega
  subst sX;clear yy hj;have HF:Hid (vP vK x.items=q):=by rw[Hid,← ZP.out,List.drop_length,lp]
  clear ZP;have k0:=ws.kn.key.cell 0 rfl;have k1:=ws.kn.key.cell 1 rfl;have k2:=ws.kn.key.cell 2 rfl;have k3:=ws.kn.key.cell 3 rfl;have k4:=ws.kn.key.cell 4 rfl;have k5:=ws.kn.key.cell 5 rfl;have k6:=ws.kn.key.cell 6 rfl;go_wp2_with fail
  refine(kZ (HT.out.mono ws.kn.grows.le) qy.out _ ws.kn.grows.holds).mono ?_
  rintro e w9 ⟨v9,rfl,ya,yb,yc,yd,H9,rfl,tZ,QV⟩
  replace ws:=(ws.grow tZ)
  replace qy:=Hh (qy.out.mono tZ.le);clear k0 k1 k2 k3 k4 k5 k6 a3 tZ
  cases hvq:wV q with
  | false =>
   have Sf:Hid (¬ ∃ q,pY x q):=fun⟨q2,h2⟩=>by
    have e:=HF.out;rw[lm h2]at e;obtain rfl:=e;rw[h2.1]at hvq
    cases hvq
   have E:Hid (oA q=1∧iC q=lB):=⟨by rw[oA,if_neg (by rw[hvq];simp)],by rw[iC,if_neg (by rw[hvq];simp)]⟩
   rw[E.out.1,E.out.2];clear hvq QV;replace ws:=ws.alloc (zH lB ya yb yc yd);go_upto_region 25 with fail
   have Uy:=ws.kn.res;have Xr:=Hh ws.kn;clear ws;go_wp2_with (with_reducible refine zx ?_)
   refine zu rfl _ _ _ rfl rfl _ _ rfl rfl _ _ Uy tU rfl (X9 _ _ _ _ _ _ _ rfl rfl rfl rfl rfl rfl rfl) fun wz hRz z8=>?_
   have yx:=Xr.out.grows.grownOwn Xr.out.hR Xr.out.wR z8;clear Xr Uy z8;go_wp2_with fail
   refine zw rfl rfl hRz rfl rfl tU rfl ?_
   exact .inr (.inl ⟨HV.out,Sf.out,rfl,yx.below⟩)
  | true =>
  have E:Hid (oA q=0∧iC q=sk q):=⟨by rw[oA,if_pos hvq],by rw[iC,if_pos hvq]⟩
  have Cu:=Hh hvq;rw[E.out.1,E.out.2];rw[E.out.2]at QV;have Mm:=Hh (ob hvq);obtain⟨y,hy⟩:∃ y,sk q=y:=⟨_,rfl⟩
  have HY:=Hh hy;rw[hy]at QV⊢;rw[HY.out]at Mm;have EW:=Hh (And.intro (HI.out.mono ws.kn.grows.le) QV);replace ws:=ws.alloc (zH y ya yb yc yd);have x0:=ws.box.cell 0 rfl;have x1:=ws.box.cell 1 rfl;have x2:=ws.box.cell 2 rfl;have x3:=ws.box.cell 3 rfl;clear hvq QV hy;go_wp2_with fail
  refine(gg x y _ _ _ _ _ _ _ _ _ _ _ _ _ _ _ _ _ _ (vM HV.out) (vM Mm.out) EW.out.1.arg EW.out.2.arg ws.kn.grows.holds).mono ?_
  rintro e w10 ⟨rfl,xY⟩
  replace ws:=ws.below xY;clear xY x0 x1 x2 x3;have Ej:=Hh (nN x y)
  cases VZ:sR x y with
  | false =>
   have Sf:Hid (¬ ∃ q,pY x q):=fun⟨q2,h2⟩=>by
    have e:=HF.out;rw[lm h2]at e;obtain rfl:=e;have e2:x=y:=by rw[← h2.2];exact HY.out
    rw[(Ej.out).2 e2]at VZ
    cases VZ
   clear VZ;have Uy:=ws.kn.res;have Xr:=Hh ws.kn;clear ws;go_wp2_with (with_reducible refine zx ?_)
   refine zu rfl _ _ _ rfl rfl _ _ rfl rfl _ _ Uy tU rfl (X9 _ _ _ _ _ _ _ rfl rfl rfl rfl rfl rfl rfl) fun wz hRz z8=>?_
   have yx:=Xr.out.grows.grownOwn Xr.out.hR Xr.out.wR z8;clear Xr Uy z8;go_wp2_with fail
   refine zw rfl rfl hRz rfl rfl tU rfl ?_
   exact .inr (.inl ⟨HV.out,Sf.out,rfl,yx.below⟩)
  | true =>
  have IK:Hid (x=y):=Ej.out.1 VZ;clear VZ;have k0:=ws.kn.key.cell 0 rfl;have k1:=ws.kn.key.cell 1 rfl;have k2:=ws.kn.key.cell 2 rfl;have k3:=ws.kn.key.cell 3 rfl;have k4:=ws.kn.key.cell 4 rfl;have k5:=ws.kn.key.cell 5 rfl;have k6:=ws.kn.key.cell 6 rfl;have Uy:=ws.kn.res;have Xr:=Hh ws.kn;clear ws;go_wp2_with (with_reducible refine zx ?_)
  refine zu rfl _ _ _ rfl rfl _ _ rfl rfl _ _ Uy tU rfl (X9 _ _ _ _ _ _ _ rfl rfl rfl rfl rfl rfl rfl) fun wz hRz z8=>?_
  have yx:=Xr.out.grows.grownOwn Xr.out.hR Xr.out.wR z8;clear Xr Uy z8;go_wp2_with fail
  refine zw rfl rfl hRz rfl rfl tU rfl ?_
  exact .inr (.inr ⟨q,a,_,HV.out,⟨Cu.out,by rw[IK.out];exact HY.out⟩,rfl,yx,qy.out⟩)
 have mi:j+1<x.items.length:=by have:=eZ.out;have:=Xq.out;omega
 have bV:x.items.length≤256:=(uh HV.out).2.1;have PH:(j:Int)<x.items.length:=by omega
 have UK:(j:Int)+1<x.items.length:=by omega
 have Rf:(0:Int)≤(j:Int)+1:=by omega
 have lQ:IntKind.i64.wrap ((j:Int)+2)=(j:Int)+2:=IntWalk.i64_in _ (by omega);have QS:IntKind.i64.wrap ((j:Int)+1)=(j:Int)+1:=IntWalk.i64_in _ (by omega);obtain⟨ib,io,qI,vI⟩:=HI.out.items (by omega);obtain⟨y1,y2,y3,y4,q0,q1,q2,q3,ND⟩:=vI.get j yy;obtain⟨z1,z2,z3,z4,s0,s1,s2,s3,V5⟩:=vI.get (j+1) mi;subst qI;have fQ:=Hh (Zv q x.items j mi);have Nf:=Hh (pw HV.out (List.getElem_mem mi));have tR:=Hh (And.intro yy (And.intro mi bV))
 generalize x.items[j]'yy=y at *
 generalize x.items[j+1]'mi=z at *
 have Si:=Hh (And.intro ND V5);have hh:=ws.kn.grows.holds.mono ws.kn.grows.le;have s0:=hh.cell s0;have s1:=hh.cell s1;have s2:=hh.cell s2;have s3:=hh.cell s3;have hP:=Blk.new wr 78 #[.int .i64 z.kind,.int .u64 z.n,.slice z1 z.bytes.length z2,.slice z3 z.items.length z4];replace ws:=ws.alloc (zH z z1 z2 z3 z4);have iq:=ws.kn.grows.holds.mono ws.kn.grows.le;have q0:=iq.cell q0;have q1:=iq.cell q1;have q2:=iq.cell q2;have q3:=iq.cell q3;have a3b:=ws.box.cell 3 rfl;clear iq;clear vI ND V5 yy mi hh hj bV;go_wp2_with fail
 refine(rE Si.out.1.arg _).mono ?_
 rintro e w5 ⟨rfl,xz⟩
 replace ws:=ws.below xz;replace hP:=hP.below xz;clear xz q0 q1 q2 q3 s0 s1 s2 s3 a3 a3b;obtain⟨P,oS⟩:∃ P,wr.heap.size=P:=⟨_,rfl⟩
 rw[oS]at hP⊢;clear oS;obtain⟨k,hk⟩:∃ k,nmR y=k:=⟨_,rfl⟩
 have HK:=Hh hk;rw[hk];clear hk;have z0:=hP.cell 0 rfl;have z1c:=hP.cell 1 rfl;have zb:=hP.cell 2 rfl;have z3c:=hP.cell 3 rfl
 by_cases ha:k=1
 ·subst ha;have oK:Hid (vm q y z={ q with kty:=nmR z }):=by rw[Hid,vm,HK.out];rfl
  clear HK;go_wp2_with fail
  refine(rE Si.out.2.arg _).mono ?_
  rintro e w6 ⟨rfl,y9⟩
  replace ws:=ws.below y9;clear y9 z0 z1c zb z3c;obtain⟨n,hn⟩:∃ n,nmR z=n:=⟨_,rfl⟩
  have QR:=Hh (jq (z:=z));rw[hn]at oK QR⊢;clear hn;go_wp2_with (with_reducible refine zx ?_)
  refine zr rfl _ _ _ rfl rfl Kb 0 (.int .i64 n) rfl rfl _ _ ws.kn.key (by kernel_rfl) (by simp) rfl fun wt hBt hgt=>?_
  replace ws:=ws.set (kc':=mu { q with kty:=n } a) hBt hgt;clear hBt hgt;go_wp2_with fail
  go_roundw
  case rel=>exact⟨j+2,{ q with kty:=n },a,_,by have:=tR.out;omega,by have:=eZ.out;omega,by go_num,ws,⟨QR.out,qy.out.crv,qy.out.alg,qy.out.kid,qy.out.x,qy.out.d,qy.out.k⟩,by rw[← ZP.out,fQ.out,oK.out]⟩
  case measure=>have:=tR.out;simp[intOf];omega
 have bha:(k==1)=false:=by rw[beq_eq_false_iff_ne];exact ha
 have pha:(k=1)=False:=eq_false ha
 by_cases hb:k=2
 ·subst hb;have oK:Hid (vm q y z={ q with kid:=z.bytes }):=by rw[Hid,vm,HK.out];rfl
  clear HK;go_wp2_with (at_builtin;refine zf ?_)
  refine zv rfl _ _ rfl _ (.slice none 0 0) [] rfl (OwnB.nil _ _) _ _ _ z.bytes rfl rfl (Src.of_row (Si.out.2.mono ws.kn.grows.le).bytes.row ws.kn.grows.holds) (by have:=(uh Nf.out).1;simp;omega) (Nat.le_refl _) fun v7 w7 wY hg7 hat7=>?_
  rw[List.nil_append]at wY;obtain⟨A7,c7,rfl,ut⟩:=wY.form;clear ut;obtain⟨H7,uw,xU,ut⟩:=Fresh.snapB ws.kn.grows.holds ⟨wY,yT hg7⟩;clear ut wY hg7 hat7;replace ws:=ws.grow uw;replace qy:=Hh (qy.out.mono uw.le);have Sb:=Hh xU;clear uw xU z0 z1c zb z3c;go_wp2_with (with_reducible refine zx ?_)
  refine zr rfl _ _ _ rfl rfl Kb 3 (.slice A7 z.bytes.length c7) rfl rfl _ _ ws.kn.key (by kernel_rfl) (by simp) rfl fun wt hBt hgt=>?_
  replace ws:=ws.set (kc':=mu { q with kid:=z.bytes } { a with ia:=A7,ic:=c7 }) hBt hgt;clear hBt hgt;go_wp2_with fail
  go_roundw
  case rel=>exact⟨j+2,{ q with kid:=z.bytes },{ a with ia:=A7,ic:=c7 },_,by have:=tR.out;omega,by have:=eZ.out;omega,by go_num,ws,⟨qy.out.kty,qy.out.crv,qy.out.alg,Sb.out,qy.out.x,qy.out.d,qy.out.k⟩,by rw[← ZP.out,fQ.out,oK.out]⟩
  case measure=>have:=tR.out;simp[intOf];omega
 have bhb:(k==2)=false:=by rw[beq_eq_false_iff_ne];exact hb
 have phb:(k=2)=False:=eq_false hb
 by_cases hc:k=3
 ·subst hc;have oK:Hid (vm q y z={ q with alg:=nmR z }):=by rw[Hid,vm,HK.out];rfl
  clear HK;go_wp2_with fail
  refine(rE Si.out.2.arg _).mono ?_
  rintro e w6 ⟨rfl,y9⟩
  replace ws:=ws.below y9;clear y9 z0 z1c zb z3c;obtain⟨n,hn⟩:∃ n,nmR z=n:=⟨_,rfl⟩
  have QR:=Hh (jq (z:=z));rw[hn]at oK QR⊢;clear hn;go_wp2_with (with_reducible refine zx ?_)
  refine zr rfl _ _ _ rfl rfl Kb 2 (.int .i64 n) rfl rfl _ _ ws.kn.key (by kernel_rfl) (by simp) rfl fun wt hBt hgt=>?_
  replace ws:=ws.set (kc':=mu { q with alg:=n } a) hBt hgt;clear hBt hgt;go_wp2_with fail
  go_roundw
  case rel=>exact⟨j+2,{ q with alg:=n },a,_,by have:=tR.out;omega,by have:=eZ.out;omega,by go_num,ws,⟨qy.out.kty,qy.out.crv,QR.out,qy.out.kid,qy.out.x,qy.out.d,qy.out.k⟩,by rw[← ZP.out,fQ.out,oK.out]⟩
  case measure=>have:=tR.out;simp[intOf];omega
 have bhc:(k==3)=false:=by rw[beq_eq_false_iff_ne];exact hc
 have phc:(k=3)=False:=eq_false hc
 by_cases hd:k = -1
 ·subst hd;have oK:Hid (vm q y z={ q with crv:=nmR z,k:=z.bytes }):=by rw[Hid,vm,HK.out];rfl
  clear HK;obtain⟨n,hn⟩:∃ n,nmR z=n:=⟨_,rfl⟩
  have rK:=Hh hn;have QR:=Hh (jq (z:=z));rw[hn]at oK QR;clear hn;go_upto_region 18 with fail
  replace ws:=ws.drew;replace hP:=hP.drew
  refine yw 6 (fun wx=>wx.cell? ⟨P,0,none⟩=some (.int .i64 z.kind)∧wx.cell? ⟨P,1,none⟩=some (.int .u64 z.n)∧wx.cell? ⟨P,2,none⟩=some (.slice z1 z.bytes.length z2)∧wx.cell? ⟨P,3,none⟩=some (.slice z3 z.items.length z4)) (by kernel_rfl) (⟨z0,z1c,zb,z3c⟩) (fun zy=>?_)
  refine Zk 0 rfl zy ?_
  refine Zk 2 rfl zy ?_
  refine Zk 3 rfl zy ?_
  refine Zo 1 rfl fun K hK=>?_
  go_simp
  refine(rE Si.out.2.arg _).mono ?_
  rintro e w6 ⟨rfl,y9⟩
  rw[rK.out];replace ws:=ws.below y9;replace hP:=hP.below y9;clear y9
  refine Ko hK ?_ fun zy=>?_
  ·exact⟨hP.cell 0 rfl,hP.cell 1 rfl,hP.cell 2 rfl,hP.cell 3 rfl⟩
  clear hK K
  refine Zk 5 rfl zy ?_
  refine Zo 4 rfl fun K hK=>?_
  rw[if_pos (by rfl)]
  refine wD _ _ rfl _ (.slice none 0 0) [] rfl (OwnB.nil _ _) _ _ _ z.bytes rfl rfl (Src.of_row (Si.out.2.mono ws.kn.grows.le).bytes.row ws.kn.grows.holds) (by have:=(uh Nf.out).1;simp;omega) (Nat.le_refl _) fun v7 w7 wY hg7 hat7=>?_
  rw[List.nil_append]at wY;obtain⟨A7,c7,rfl,ut⟩:=wY.form;clear ut;obtain⟨H7,uw,xU,ut⟩:=Fresh.snapB ws.kn.grows.holds ⟨wY,yT hg7⟩;clear ut wY hg7 hat7;replace ws:=ws.grow uw;replace hP:=hP.below uw.below;replace qy:=Hh (qy.out.mono uw.le);have Sb:=Hh xU;clear uw xU
  refine Ko hK ?_ fun zy=>?_
  ·exact⟨hP.cell 0 rfl,hP.cell 1 rfl,hP.cell 2 rfl,hP.cell 3 rfl⟩
  clear hK K
  refine Zo 6 rfl fun K hK=>?_
  rw[if_pos (by rfl)]
  refine yq _ _ _ rfl Kb 1 (.int .i64 n) rfl rfl _ _ ws.kn.key (by kernel_rfl) (by simp) rfl fun wt hBt hgt=>?_
  replace ws:=ws.set (kc':=mu { q with crv:=n } a) hBt hgt;clear hBt hgt
  refine Kz hK ?_
  clear hK K
  refine ZkT 7 rfl (fun h=>absurd h (by decide)) ?_
  refine Zo 8 rfl fun K hK=>?_
  rw[if_pos (by rfl)]
  refine yq _ _ _ rfl Kb 6 (.slice A7 z.bytes.length c7) rfl rfl _ _ ws.kn.key (by kernel_rfl) (by simp) rfl fun wt hBt hgt=>?_
  replace ws:=ws.set (kc':=mu { q with crv:=n,k:=z.bytes } { a with ka:=A7,kc:=c7 }) hBt hgt;clear hBt hgt
  refine Kz hK ?_
  clear hK K
  refine WaysZ.done (by kernel_rfl) ?_
  clear zy z0 z1c zb z3c hP;go_wp2_with fail
  go_roundw
  case rel=>exact⟨j+2,{ q with crv:=n,k:=z.bytes },{ a with ka:=A7,kc:=c7 },_,by have:=tR.out;omega,by have:=eZ.out;omega,by go_num,ws,⟨qy.out.kty,QR.out,qy.out.alg,qy.out.kid,qy.out.x,qy.out.d,Sb.out⟩,by rw[← ZP.out,fQ.out,oK.out]⟩
  case measure=>have:=tR.out;simp[intOf];omega
 have bhd:(k == -1)=false:=by rw[beq_eq_false_iff_ne];exact hd
 have phd:(k = -1)=False:=eq_false hd
 by_cases he:k = -2
 ·subst he;have oK:Hid (vm q y z={ q with x:=z.bytes }):=by rw[Hid,vm,HK.out];rfl
  clear HK;go_wp2_with (at_builtin;refine zf ?_)
  refine zv rfl _ _ rfl _ (.slice none 0 0) [] rfl (OwnB.nil _ _) _ _ _ z.bytes rfl rfl (Src.of_row (Si.out.2.mono ws.kn.grows.le).bytes.row ws.kn.grows.holds) (by have:=(uh Nf.out).1;simp;omega) (Nat.le_refl _) fun v7 w7 wY hg7 hat7=>?_
  rw[List.nil_append]at wY;obtain⟨A7,c7,rfl,ut⟩:=wY.form;clear ut;obtain⟨H7,uw,xU,ut⟩:=Fresh.snapB ws.kn.grows.holds ⟨wY,yT hg7⟩;clear ut wY hg7 hat7;replace ws:=ws.grow uw;replace qy:=Hh (qy.out.mono uw.le);have Sb:=Hh xU;clear uw xU z0 z1c zb z3c;go_wp2_with (with_reducible refine zx ?_)
  refine zr rfl _ _ _ rfl rfl Kb 4 (.slice A7 z.bytes.length c7) rfl rfl _ _ ws.kn.key (by kernel_rfl) (by simp) rfl fun wt hBt hgt=>?_
  replace ws:=ws.set (kc':=mu { q with x:=z.bytes } { a with xa:=A7,xc:=c7 }) hBt hgt;clear hBt hgt;go_wp2_with fail
  go_roundw
  case rel=>exact⟨j+2,{ q with x:=z.bytes },{ a with xa:=A7,xc:=c7 },_,by have:=tR.out;omega,by have:=eZ.out;omega,by go_num,ws,⟨qy.out.kty,qy.out.crv,qy.out.alg,qy.out.kid,Sb.out,qy.out.d,qy.out.k⟩,by rw[← ZP.out,fQ.out,oK.out]⟩
  case measure=>have:=tR.out;simp[intOf];omega
 have bhe:(k == -2)=false:=by rw[beq_eq_false_iff_ne];exact he
 have phe:(k = -2)=False:=eq_false he
 by_cases hf:k = -4
 ·subst hf;have oK:Hid (vm q y z={ q with d:=z.bytes }):=by rw[Hid,vm,HK.out];rfl
  clear HK;go_wp2_with (at_builtin;refine zf ?_)
  refine zv rfl _ _ rfl _ (.slice none 0 0) [] rfl (OwnB.nil _ _) _ _ _ z.bytes rfl rfl (Src.of_row (Si.out.2.mono ws.kn.grows.le).bytes.row ws.kn.grows.holds) (by have:=(uh Nf.out).1;simp;omega) (Nat.le_refl _) fun v7 w7 wY hg7 hat7=>?_
  rw[List.nil_append]at wY;obtain⟨A7,c7,rfl,ut⟩:=wY.form;clear ut;obtain⟨H7,uw,xU,ut⟩:=Fresh.snapB ws.kn.grows.holds ⟨wY,yT hg7⟩;clear ut wY hg7 hat7;replace ws:=ws.grow uw;replace qy:=Hh (qy.out.mono uw.le);have Sb:=Hh xU;clear uw xU z0 z1c zb z3c;go_wp2_with (with_reducible refine zx ?_)
  refine zr rfl _ _ _ rfl rfl Kb 5 (.slice A7 z.bytes.length c7) rfl rfl _ _ ws.kn.key (by kernel_rfl) (by simp) rfl fun wt hBt hgt=>?_
  replace ws:=ws.set (kc':=mu { q with d:=z.bytes } { a with da:=A7,dc:=c7 }) hBt hgt;clear hBt hgt;go_wp2_with fail
  go_roundw
  case rel=>exact⟨j+2,{ q with d:=z.bytes },{ a with da:=A7,dc:=c7 },_,by have:=tR.out;omega,by have:=eZ.out;omega,by go_num,ws,⟨qy.out.kty,qy.out.crv,qy.out.alg,qy.out.kid,qy.out.x,Sb.out,qy.out.k⟩,by rw[← ZP.out,fQ.out,oK.out]⟩
  case measure=>have:=tR.out;simp[intOf];omega
 have bhf:(k == -4)=false:=by rw[beq_eq_false_iff_ne];exact hf
 have phf:(k = -4)=False:=eq_false hf;have oK:Hid (vm q y z=q):=by rw[Hid,vm,HK.out,if_neg ha,if_neg hb,if_neg hc,if_neg hd,if_neg he,if_neg hf]
 clear HK ha hb hc hd he hf hP z0 z1c zb z3c;go_wp2_with fail
 go_roundw
 case rel=>exact⟨j+2,q,a,_,by have:=tR.out;omega,by have:=eZ.out;omega,by go_num,ws,qy.out,by rw[← ZP.out,fQ.out,oK.out]⟩
 case measure=>have:=tR.out;simp[intOf];omega
theorem jC {H:Snap}(hTab:Tabs H) (s:ByteArray) (hs:s.size≤1099511627) (w:World) (hH:Holds w H) :
  Calls Tryz.prog 81 #[.string s] w fun e w'=>e=.returned (.bool (uE s))∧Below w.heap.size w w':=by
 obtain⟨n,hn⟩:∃ n,s.size=n:=⟨_,rfl⟩
 have Q6:((s.size:Nat):Int)=(n:Int):=by rw[hn]
 have VS:=Hh (utf8_ValidString hTab w hH s (by omega))
 by_cases h:n≤64
 ·have E:Hid (uE s=Lib.validD s.data.toList):=by rw[Hid,uE,hn,decide_eq_true h,Bool.true_and]
  obtain⟨q,hq⟩:∃ q,Lib.validD s.data.toList=q:=⟨_,rfl⟩
  rw[hq]at E VS;have hi:(n:Int)≤64:=by omega
  clear hq hn hTab hH hs h;go_enter Tryz.func81,Tryz.ntmps81
  go_wp2_with fail
  refine VS.out.mono ?_
  rintro e w1 ⟨rfl,zP⟩
  go_wp2_with fail
  go_ret
  exact⟨by rw[E.out];rfl,zP⟩
 have E:Hid (uE s=false):=by rw[Hid,uE,hn,decide_eq_false h,Bool.false_and]
 have hi:¬ (n:Int)≤64:=by omega
 clear hn hTab hH hs h VS;go_enter Tryz.func81,Tryz.ntmps81
 go_wp2_with fail
 go_ret
 exact⟨by rw[E.out];rfl,Below.refl _ _⟩
structure Cl where
 issuer:ByteArray
 subject:ByteArray
 since:Int
 till:Int
 key:Ky
abbrev clC (i s:ByteArray) (f u t v g:Int) (Ai:Option Addr) (ni ci:Nat) (Ax:Option Addr) (nx cx:Nat) (Ad:Option Addr) (nd cd:Nat) (Ak:Option Addr) (nk ck:Nat):Array Value :=
 #[.string i,.string s,.int .i64 f,.int .i64 u,.int .i64 t,.int .i64 v,.int .i64 g,.slice Ai ni ci,.slice Ax nx cx,.slice Ad nd cd,.slice Ak nk ck]
abbrev clQ (c:Cl) (a:KAd):Array Value:=clC c.issuer c.subject c.since c.till c.key.kty c.key.crv c.key.alg a.ia c.key.kid.length a.ic a.xa c.key.x.length a.xc a.da c.key.d.length a.dc a.ka c.key.k.length a.kc
structure ClA (H:Snap) (c:Cl) (a:KAd):Prop where
 issuer:c.issuer.size≤1099511627
 subject:c.subject.size≤1099511627
 since : -9223372036854775808≤c.since∧c.since≤9223372036854775807
 till : -9223372036854775808≤c.till∧c.till≤9223372036854775807
 key:KeyA H c.key a
theorem ClA.mono {H K:Snap}{c:Cl}{a:KAd}(h:ClA H c a) (hl:H.le K):ClA K c a:=⟨h.issuer,h.subject,h.since,h.till,h.key.mono hl⟩
def xE (c:Cl):Bool:=uE c.issuer&&uE c.subject&&decide (c.subject≠⟨#[]⟩)&&decide (0≤c.since)&&decide (c.since≤1073741824)&&decide (0≤c.till)&&decide (c.till≤1073741824)&&decide (¬ (0<c.till∧c.till<c.since))&&wV c.key&&decide (c.key.kty=1)&&decide (0<c.key.x.length)&&decide (c.key.d.length=0)
theorem sE (c:Cl):xE c=true↔uE c.issuer=true∧uE c.subject=true∧c.subject≠⟨#[]⟩∧0≤c.since∧c.since≤1073741824∧0≤c.till∧c.till≤1073741824∧¬ (0<c.till∧c.till<c.since)∧wV c.key=true∧c.key.kty=1∧0<c.key.x.length∧c.key.d.length=0:=by
 simp only[xE,Bool.and_eq_true,decide_eq_true_eq,and_assoc]
theorem Wv {c:Cl}(h:¬ (uE c.issuer=true∧uE c.subject=true∧c.subject≠⟨#[]⟩∧0≤c.since∧c.since≤1073741824∧0≤c.till∧c.till≤1073741824∧¬ (0<c.till∧c.till<c.since)∧wV c.key=true∧c.key.kty=1∧0<c.key.x.length∧c.key.d.length=0)):xE c=false:=by
 cases hv:xE c with
 | false=>rfl
 | true=>exact absurd ((sE c).1 hv) h
theorem nG (s:ByteArray):s.toList.isEmpty=true↔s=⟨#[]⟩:=by
 rw[List.isEmpty_iff,ByteArray.toList_eq]
 cases s with
 | mk d=>simp
theorem jB {H:Snap}(hTab:Tabs H) {c:Cl}{a:KAd}(hc:ClA H c a) (w:World) (hH:Holds w H) :
  Calls Tryz.prog 67 #[.agg (clQ c a)] w fun e w'=>e=.returned (.bool (xE c))∧Below w.heap.size w w':=by
 obtain⟨nx,JF⟩:∃ n,n=c.key.x.length:=⟨_,rfl⟩
 obtain⟨nd,Kd⟩:∃ n,n=c.key.d.length:=⟨_,rfl⟩
 have HN:=Hh (And.intro JF Kd);have HC:=Hh hc;have N1:=Hh (fun w hH=>jC hTab c.issuer hc.issuer w hH);have N2:=Hh (fun w hH=>jC hTab c.subject hc.subject w hH);have V:Hid (∀ W,Calls Tryz.prog 82 #[.agg (mr c.key.kty c.key.crv c.key.alg a.ia c.key.kid.length a.ic a.xa c.key.x.length a.xc a.da c.key.d.length a.dc a.ka c.key.k.length a.kc)] W fun e w'=>e=.returned (.bool (wV c.key))∧Below W.heap.size W w'):=fun W=>gK c.key.kty c.key.crv c.key.alg a.ia c.key.kid.length a.ic a.xa c.key.x.length a.xc a.da c.key.d.length a.dc a.ka c.key.k.length a.kc W hc.key.len.1 hc.key.len.2
 show Calls Tryz.prog 67 #[.agg (clC c.issuer c.subject c.since c.till c.key.kty c.key.crv c.key.alg a.ia c.key.kid.length a.ic a.xa c.key.x.length a.xc a.da c.key.d.length a.dc a.ka c.key.k.length a.kc)] w _
 rw[← JF,← Kd]at V⊢;obtain⟨ni,Ke⟩:∃ n,c.key.kid.length=n:=⟨_,rfl⟩
 obtain⟨nk,G0⟩:∃ n,c.key.k.length=n:=⟨_,rfl⟩
 rw[Ke,G0]at V⊢;have hB:=Blk.new w 90 (clC c.issuer c.subject c.since c.till c.key.kty c.key.crv c.key.alg a.ia ni a.ic a.xa nx a.xc a.da nd a.dc a.ka nk a.kc);have hb:=zl w (.cells (clC c.issuer c.subject c.since c.till c.key.kty c.key.crv c.key.alg a.ia ni a.ic a.xa nx a.xc a.da nd a.dc a.ka nk a.kc) 90);have HH:=Hh hH;have Zc:=Hh (fun h=>Wv (c:=c) h);have Cw:=Hh (sE c);have c0:=hB.cell 0 rfl;clear JF Kd Ke G0 hTab hc hH;go_enter Tryz.func67,Tryz.ntmps67
 go_wp2_with fail
 refine(N1.out _ (HH.out.below hb (Nat.le_refl _))).mono ?_
 rintro e w2 ⟨rfl,yz⟩
 replace hB:=hB.below yz;replace hb:=hb.trans (yz.mono hb.size);clear yz c0 N1
 cases h1:uE c.issuer with
 | false =>
  have E:Hid (xE c=false):=Zc.out (fun h=>by rw[h1]at h;exact absurd h.1 (by decide));clear hB h1;go_wp2_with fail
  go_ret
  exact⟨by rw[E.out];rfl,hb⟩
 | true =>
 have H1:=Hh h1;clear h1;have c1:=hB.cell 1 rfl;go_wp2_with fail
 refine(N2.out _ (HH.out.below hb (Nat.le_refl _))).mono ?_
 rintro e w3 ⟨rfl,vg⟩
 replace hB:=hB.below vg;replace hb:=hb.trans (vg.mono hb.size);clear vg c1 N2
 cases h2:uE c.subject with
 | false =>
  have E:Hid (xE c=false):=Zc.out (fun h=>by rw[h2]at h;exact absurd h.2.1 (by decide));clear hB h2;go_wp2_with fail
  go_ret
  exact⟨by rw[E.out];rfl,hb⟩
 | true =>
 have H2:=Hh h2;clear h2;have c1:=hB.cell 1 rfl;have c2:=hB.cell 2 rfl;have c3:=hB.cell 3 rfl
 by_cases hs:c.subject=⟨#[]⟩
 ·have E:Hid (xE c=false):=Zc.out (fun h=>h.2.2.1 hs);have s2:c.subject.toList.isEmpty=true:=(nG _).2 hs;clear hs;clear hB;go_wp2_with fail
  go_ret
  exact⟨by rw[E.out];rfl,hb⟩
 have s2:c.subject.toList.isEmpty=false:=by cases h:c.subject.toList.isEmpty with | false=>rfl | true=>exact absurd ((nG _).1 h) hs
 have HS:=Hh hs;clear hs
 by_cases f0:c.since<0
 ·have E:Hid (xE c=false):=Zc.out (fun h=>by have:=h.2.2.2.1;omega);clear hB;go_wp2_with fail
  go_ret
  exact⟨by rw[E.out];rfl,hb⟩
 by_cases f1:1073741824<c.since
 ·have E:Hid (xE c=false):=Zc.out (fun h=>by have:=h.2.2.2.2.1;omega);clear hB;go_wp2_with fail
  go_ret
  exact⟨by rw[E.out];rfl,hb⟩
 by_cases u0:c.till<0
 ·have E:Hid (xE c=false):=Zc.out (fun h=>by have:=h.2.2.2.2.2.1;omega);clear hB;go_wp2_with fail
  go_ret
  exact⟨by rw[E.out];rfl,hb⟩
 by_cases u1:1073741824<c.till
 ·have E:Hid (xE c=false):=Zc.out (fun h=>by have:=h.2.2.2.2.2.2.1;omega);clear hB;go_wp2_with fail
  go_ret
  exact⟨by rw[E.out];rfl,hb⟩
 have HF:=Hh (And.intro f0 (And.intro f1 (And.intro u0 u1)))
 by_cases hfu:0<c.till∧c.till<c.since
 ·have E:Hid (xE c=false):=Zc.out (fun h=>h.2.2.2.2.2.2.2.1 hfu);obtain⟨g0,g1⟩:=hfu;clear hB;go_wp2_with fail
  go_ret
  exact⟨by rw[E.out];rfl,hb⟩
 have CF:=Hh hfu;have c4:=hB.cell 4 rfl;have c5:=hB.cell 5 rfl;have c6:=hB.cell 6 rfl;have c7:=hB.cell 7 rfl;have c8:=hB.cell 8 rfl;have c9:=hB.cell 9 rfl;have c10:=hB.cell 10 rfl;have fin:∀ (w':World),True:=fun _=>trivial
 have go2:Hid (xE c=(wV c.key&&decide (c.key.kty=1)&&decide (0<nx)&&decide (nd=0))):=by
  rw[Hid,HN.out.1,HN.out.2,Bool.eq_iff_iff,Cw.out]
  simp only[Bool.and_eq_true,decide_eq_true_eq,and_assoc]
  have e:=HF.out
  exact⟨fun h=>⟨h.2.2.2.2.2.2.2.2.1,h.2.2.2.2.2.2.2.2.2.1,h.2.2.2.2.2.2.2.2.2.2.1,h.2.2.2.2.2.2.2.2.2.2.2⟩,fun h=>⟨H1.out,H2.out,HS.out,by omega,by omega,by omega,by omega,CF.out,h.1,h.2.1,h.2.2.1,h.2.2.2⟩⟩
 by_cases g0:0<c.till
 ·have g1:¬ c.till<c.since:=fun h=>hfu ⟨g0,h⟩
  clear hfu fin;go_wp2_with fail
  refine(V.out _).mono ?_
  rintro e w4 ⟨rfl,sW⟩
  replace hB:=hB.below sW;replace hb:=hb.trans (sW.mono hb.size);clear sW V c1 c2 c3 c4 c5 c6 c7 c8 c9 c10
  cases hv:wV c.key with
  | false =>
   rw[hv]at go2;clear hB hv;go_wp2_with fail
   go_ret
   exact⟨by rw[go2.out];simp,hb⟩
  | true =>
  rw[hv]at go2;clear hv;have c4:=hB.cell 4 rfl;have c8:=hB.cell 8 rfl;have c9:=hB.cell 9 rfl
  by_cases hk:c.key.kty=1
  ·have k1:(c.key.kty=1)=True:=eq_true hk;have k2:(c.key.kty==1)=true:=by simpa using hk
   by_cases hx:0<nx
   ·have x1:(0:Int)<(nx:Int):=by omega
    by_cases hd:nd=0
    ·subst hd;clear hB hk;go_wp2_with fail
     go_ret
     exact⟨by rw[go2.out];simp[k1,hx],hb⟩
    have d1:((nd:Int)=0)=False:=eq_false (by omega);have d2:(nd=0)=False:=eq_false hd;have d3:((nd:Int)==0)=false:=by simpa using hd
    clear hB hk;go_wp2_with fail
    go_ret
    exact⟨by rw[go2.out];simp[hd],hb⟩
   have x1:¬ (0:Int)<(nx:Int):=by omega
   clear hB hk;go_wp2_with fail
   go_ret
   exact⟨by rw[go2.out];simp[hx],hb⟩
  have k1:(c.key.kty=1)=False:=eq_false hk;have k2:(c.key.kty==1)=false:=by simpa using hk
  clear hB;go_wp2_with fail
  go_ret
  exact⟨by rw[go2.out];simp[hk],hb⟩
 clear hfu fin;go_wp2_with fail
 refine(V.out _).mono ?_
 rintro e w4 ⟨rfl,sW⟩
 replace hB:=hB.below sW;replace hb:=hb.trans (sW.mono hb.size);clear sW V c1 c2 c3 c4 c5 c6 c7 c8 c9 c10
 cases hv:wV c.key with
 | false =>
  rw[hv]at go2;clear hB hv;go_wp2_with fail
  go_ret
  exact⟨by rw[go2.out];simp,hb⟩
 | true =>
 rw[hv]at go2;clear hv;have c4:=hB.cell 4 rfl;have c8:=hB.cell 8 rfl;have c9:=hB.cell 9 rfl
 by_cases hk:c.key.kty=1
 ·have k1:(c.key.kty=1)=True:=eq_true hk;have k2:(c.key.kty==1)=true:=by simpa using hk
  by_cases hx:0<nx
  ·have x1:(0:Int)<(nx:Int):=by omega
   by_cases hd:nd=0
   ·subst hd;clear hB hk;go_wp2_with fail
    go_ret
    exact⟨by rw[go2.out];simp[k1,hx],hb⟩
   have d1:((nd:Int)=0)=False:=eq_false (by omega);have d2:(nd=0)=False:=eq_false hd;have d3:((nd:Int)==0)=false:=by simpa using hd
   clear hB hk;go_wp2_with fail
   go_ret
   exact⟨by rw[go2.out];simp[hd],hb⟩
  have x1:¬ (0:Int)<(nx:Int):=by omega
  clear hB hk;go_wp2_with fail
  go_ret
  exact⟨by rw[go2.out];simp[hx],hb⟩
 have k1:(c.key.kty=1)=False:=eq_false hk;have k2:(c.key.kty==1)=false:=by simpa using hk
 clear hB;go_wp2_with fail
 go_ret
 exact⟨by rw[go2.out];simp[hk],hb⟩
def sr (s:ByteArray):Itm:=.mk 3 0 s.data.toList []
def Z6 (q:Ky):Itm:=.mk 5 0 [] [zh 1,sk q]
def ti (s:ByteArray):List Itm:=if s=⟨#[]⟩ then [] else [zh 1,sr s]
def wQ (k n:Int):List Itm:=if 0<n then [zh k,zh n] else []
def va (c:Cl):List Itm:=ti c.issuer++[zh 2,sr c.subject]++wQ 4 c.till++wQ 5 c.since++[zh 8,Z6 c.key]
def pO (c:Cl):Itm:=.mk 5 0 [] (va c)
theorem YW:Lib.compareBytes (zX (zh 1)) (zX (zh 2))<0∧Lib.compareBytes (zX (zh 2)) (zX (zh 4))<0∧Lib.compareBytes (zX (zh 2)) (zX (zh 5))<0∧Lib.compareBytes (zX (zh 2)) (zX (zh 8))<0∧
  Lib.compareBytes (zX (zh 4)) (zX (zh 5))<0∧Lib.compareBytes (zX (zh 4)) (zX (zh 8))<0∧Lib.compareBytes (zX (zh 5)) (zX (zh 8))<0:=by
 rw[wW,wW,wW,wW,wW];decide +kernel
theorem fg (c:Cl):xj (va c)=true:=by
 obtain⟨K8,n9,DF,DG,DJ,DK,DL⟩:=YW
 unfold va ti wQ
 repeat' split
 all_goals simp[xj,K8,n9,DF,DG,DJ,DK,DL]
theorem lx (c:Cl):(va c).length%2=0∧4≤(va c).length∧(va c).length≤10:=by
 unfold va ti wQ
 repeat' split
 all_goals simp
theorem kh {s:ByteArray}(h:uE s=true):s.data.toList.length≤64∧Lib.validD s.data.toList=true:=by
 unfold uE at h
 rw[Bool.and_eq_true,decide_eq_true_eq]at h
 exact⟨by rw[Array.length_toList];exact h.1,h.2⟩
theorem dz {s:ByteArray}(h:uE s=true) (lv:Nat):Good (sr s) lv:=rj 3 (.inr rfl) _ lv (fun _=>(kh h).2)
theorem gU {l:List Itm}{lv:Nat}(hlv:lv≤7) (he:l.length%2=0) (hg:GoodL l (lv+1)) (ha:xj l=true):Good (.mk 5 0 [] l) lv:=by
 refine Good.of ?_ hg (fun _=>ha)
 rw[yF,if_neg (by rw[yh];simp[Itm.kind]),vV]
 simp[Itm.kind,Itm.bytes,Itm.items,Itm.n,he]
 omega
theorem Zq (q:Ky):Good (sk q) 2:=gU (by omega) (nf q) (kX q 3) (la q)
theorem Vq (q:Ky):Good (Z6 q) 1:=gU (by omega) (by simp) (by simp[GoodL,ww,Zq]) rfl
theorem YH {c:Cl}(h:xE c=true):Good (pO c) 0:=by
 have hv:=(sE c).1 h
 refine gU (by omega) (lx c).1 (GoodL.of fun x hx=>?_) (fg c)
 unfold va ti wQ at hx
 simp only[List.mem_append]at hx
 rcases hx with (((hx | hx) | hx) | hx) | hx
 ·split at hx
  ·simp at hx
  simp at hx
  rcases hx with rfl | rfl
  ·exact ww _ _
  exact dz hv.1 _
 ·simp at hx
  rcases hx with rfl | rfl
  ·exact ww _ _
  exact dz hv.2.1 _
 ·split at hx
  ·simp at hx
   rcases hx with rfl | rfl <;> exact ww _ _
  simp at hx
 ·split at hx
  ·simp at hx
   rcases hx with rfl | rfl <;> exact ww _ _
  simp at hx
 simp at hx
 rcases hx with rfl | rfl
 ·exact ww _ _
 exact Vq _
theorem eA {s:ByteArray}(h:uE s=true):eX (sr s):=by
 refine⟨by simp[sr,cnt,xO], ?_⟩
 have h1:=rh 3 0 s.data.toList [] (by decide) (by decide);have h2:=(kh h).1
 simp only[ym,List.length_nil]at h1
 simp only[sr]
 omega
theorem Qs {q:Ky}(h:wV q=true):cnt (Z6 q)≤15∧(zX (Z6 q)).length≤1000:=by
 have hs:=ks (y7 q) (j6 h);have hl:=ly q;have h1:=vw 1;have hk:=rh 5 0 [] (y7 q) (by decide) (by decide);have hc:=rh 5 0 [] [zh 1,sk q] (by decide) (by decide);have e:ym [zh 1,sk q]=zX (zh 1)++zX (sk q):=by simp[ym]
 have e2:zX (sk q)=zX (.mk 5 0 [] (y7 q)):=rfl;rw[e,List.length_append,e2]at hc;have h2:=h1.2;have h3:=h1.1
 refine⟨?_, ?_⟩
 ·show cnt (.mk 5 0 [] [zh 1,.mk 5 0 [] (y7 q)])≤15
  simp only[cnt,xO]
  rw[hs.1]
  omega
 show(zX (.mk 5 0 [] [zh 1,sk q])).length≤1000
 simp only[List.length_nil]at hk hc
 omega
def jP (c:Cl):List Itm:=ti c.issuer++[zh 2,sr c.subject]++wQ 4 c.till++wQ 5 c.since
theorem YU {c:Cl}(h:xE c=true):∀ x∈jP c,eX x:=by
 have hv:=(sE c).1 h
 intro x hx
 unfold jP ti wQ at hx
 simp only[List.mem_append]at hx
 rcases hx with ((hx | hx) | hx) | hx
 ·split at hx
  ·simp at hx
  simp at hx
  rcases hx with rfl | rfl
  ·exact vw _
  exact eA hv.1
 ·simp at hx
  rcases hx with rfl | rfl
  ·exact vw _
  exact eA hv.2.1
 ·split at hx
  ·simp at hx
   rcases hx with rfl | rfl <;> exact vw _
  simp at hx
 split at hx
 ·simp at hx
  rcases hx with rfl | rfl <;> exact vw _
 simp at hx
theorem dv:∀ l m:List Itm,xO (l++m)=xO l+xO m
 | [],m=>by simp[xO]
 | x::l,m=>by rw[List.cons_append,xO,xO,dv l m];omega
theorem Vv (c:Cl):(jP c).length≤8:=by
 unfold jP ti wQ
 repeat' split
 all_goals simp
theorem jn {c:Cl}(h:xE c=true):cnt (pO c)≤26∧(zX (pO c)).length≤1700:=by
 have hv:=(sE c).1 h;have hs:=ks (jP c) (YU h);have hl:=Vv c;have hk:=Qs hv.2.2.2.2.2.2.2.2.1;have h1:=vw 8;have hc:=rh 5 0 [] (va c) (by decide) (by decide)
 have e:ym (va c)=ym (jP c)++(zX (zh 8)++zX (Z6 c.key)):=by
  show ym (jP c++[zh 8,Z6 c.key])=_
  rw[re]
  simp[ym]
 rw[e,List.length_append,List.length_append]at hc;have h2:=h1.2;have h3:=h1.1
 refine⟨?_, ?_⟩
 ·show cnt (.mk 5 0 [] (jP c++[zh 8,Z6 c.key]))≤26
  rw[cnt,dv,hs.1]
  simp only[xO]
  omega
 show(zX (.mk 5 0 [] (va c))).length≤1700
 simp only[List.length_nil]at hc
 omega
theorem sb {c:Cl}(h:xE c=true):yG (pO c)=true :=
 (vO _).mpr ⟨YH h,by have:=(jn h).1;omega,by have:=(jn h).2;omega⟩
theorem Tm {c:Cl}(h:xE c=true):(va c).length%2=0∧xj (va c)=true∧(∀ x∈va c,yG x=true)∧yG (.mk 5 0 [] (va c))=true :=
 ⟨(lx c).1,fg c,fun x hx=>pw (sb h) (show x∈(pO c).items from hx),sb h⟩
def oW (x:Itm):Ky:=if yG x&&wV (vP vK x.items)&&sR (sk (vP vK x.items)) x then vP vK x.items else vK
theorem TK {x:Itm}{q:Ky}(hv:yG x=true) (h:pY x q):oW x=q:=by
 have e:=lm h
 unfold oW
 rw[e,hv,h.1,(nN _ _).2 h.2];rfl
theorem ar {x:Itm}(h:¬ (yG x=true∧∃ q,pY x q)):oW x=vK:=by
 unfold oW
 split
 ·rename_i hc
  rw[Bool.and_eq_true,Bool.and_eq_true]at hc
  exact absurd ⟨hc.1.1,_,hc.1.2,(nN _ _).1 hc.2⟩ h
 rfl
def q9 (b:List UInt8):ByteArray:=⟨b.toArray⟩
def jK (n:Nat):Int:=((min n 1099511627776:Nat):Int)
def kA:Cl:=⟨⟨#[]⟩,⟨#[]⟩,0,0,vK⟩
def sf (c:Cl) (k v:Itm):Cl :=
 if k.n=1 then { c with issuer:=q9 v.bytes } else if k.n=2 then { c with subject:=q9 v.bytes } else if k.n=4 then { c with till:=jK v.n }
 else if k.n=5 then { c with since:=jK v.n } else if k.n=8 then(match v.items with | [_,b]=>if v.kind=5 then { c with key:=oW b } else c | _=>c) else c
def pz:Cl→List Itm→Option Cl
 | c,k::v::l=>if k.kind=0 then pz (sf c k v) l else none
 | c,_=>some c
def tu (x:Itm):Option Cl:=if x.kind=5 then(match pz kA x.items with | none=>none | some c=>if xE c&&sR (pO c) x then some c else none) else none
theorem Vj (c:Cl):pz c []=some c:=by simp[pz]
theorem Y6 (c:Cl) (l:List Itm) (j:Nat) (h:j+1<l.length):pz c (l.drop j)=if(l[j]'(by omega)).kind=0 then pz (sf c (l[j]'(by omega)) l[j+1]) (l.drop (j+2)) else none:=by
 rw[List.drop_eq_getElem_cons (by omega:j<l.length),List.drop_eq_getElem_cons h,pz]
structure IS (W0:World) (H:Snap) (cc:Array Value) (v:Value) (L:List Itm) (w:World) (Hr:Snap):Prop where
 grows:Grows W0 H w Hr
 hB:Hr W0.heap.size=none
 hT:Hr (W0.heap.size+1)=none
 box:Blk w W0.heap.size 90 cc
 res:Blk w (W0.heap.size+1) 78 tE
 own:OwnI w (W0.heap.size+2) v Hr L
 apart:∀ g,v.ownBlock=some g→Hr g=none
section
variable {W0 w w':World} {H Hr Hs:Snap} {cc:Array Value} {v v':Value} {L news:List Itm}
theorem IS.grow (h:IS W0 H cc v L w Hr) (k:Grows w Hr w' Hs):IS W0 H cc v L w' Hs :=
 ⟨h.grows.trans k,k.none h.hB h.box.lt,k.none h.hT h.res.lt,h.box.below k.below,h.res.below k.below,(h.own.below k.below).mono k.le,fun g hg=>k.none (h.apart g hg) (h.own.lt g hg).2⟩
theorem IS.below (h:IS W0 H cc v L w Hr) (k:Below w.heap.size w w'):IS W0 H cc v L w' Hr:=h.grow (Grows.of_below h.grows.holds k)
theorem IS.alloc (h:IS W0 H cc v L w Hr) (o:Obj):IS W0 H cc v L (w.alloc o) Hr:=h.below (zl w o)
theorem IS.drew (h:IS W0 H cc v L w Hr):IS W0 H cc v L w.drew Hr:=h.below (Below.refl _ _).drew
theorem IS.base (h:IS W0 H cc v L w Hr):W0.heap.size+2≤w.heap.size:=by have:=h.res.lt;omega
theorem IS.litZ (h:IS W0 H cc v L w Hr) (cs:Array Value) (e:TypeId):Src (w.alloc (.cells cs e)) (some ⟨w.heap.size,0,none⟩) cs.toList:=Src.lit w cs e
theorem IS.app (h:IS W0 H cc v L w Hr) (hO:OwnI w' (W0.heap.size+2) v' Hr (L++news)) (hg:w.grownBy w' v.ownBlock) (ha:At0 w v.ownBlock v'.ownBlock):IS W0 H cc v' (L++news) w' Hr :=
 ⟨h.grows.grownRow h.apart (fun g hg=>by have:=(h.own.lt g hg).1;omega) hg,h.hB,h.hT,h.box.grown hg (fun e=>by have:=(h.own.lt _ e).1;omega),h.res.grown hg (fun e=>by have:=(h.own.lt _ e).1;omega),hO,fun g hv=>by
  rcases ha with e | ⟨g',e,hs⟩
  ·exact h.apart g (by rw[← e,hv])
  rw[hv]at e;injection e with e
  subst e
  exact h.grows.hidden hs⟩
theorem IS.nil (hG:Grows W0 H w Hr) (hK:Hr W0.heap.size=none) (hT:Hr (W0.heap.size+1)=none) (hk:Blk w W0.heap.size 90 cc) (hr:Blk w (W0.heap.size+1) 78 tE):IS W0 H cc (.slice none 0 0) [] w Hr :=
 ⟨hG,hK,hT,hk,hr,OwnI.nil _ _ _,fun g hg=>by simp[Value.ownBlock]at hg⟩
theorem IS.freeze {A:Option Addr}{m c:Nat}(h:IS W0 H cc (.slice A m c) L w Hr):∃ H',Grows W0 H w H'∧m=L.length∧IsRowI H' A c L∧H' (W0.heap.size+1)=none:=by
 obtain⟨H',hl,hh,hf,rfl,mN,mO,vI⟩:=h.own.snap h.grows.holds (fun g hg=>h.apart g (by cases A <;> simp_all [Value.ownBlock]))
 refine⟨H',⟨h.grows.below,h.grows.le.trans hl,hh,fun b o hb=>?_⟩,rfl,⟨mN,mO,vI⟩, ?_⟩
 ·rcases hf b o hb with h1 | h1
  ·exact h.grows.fresh b o h1
  exact .inr (by have:=(h.own.lt b (by cases A <;> simp_all [Value.ownBlock])).1;omega)
 cases hx:H' (W0.heap.size+1) with
 | none=>rfl
 | some o =>
 rcases hf _ o hx with h1 | h1
 ·rw[h.hT]at h1;cases h1
 have:=(h.own.lt (W0.heap.size+1) (by cases A <;> simp_all [Value.ownBlock])).1
 omega
end
def ISt (W0:World) (H:Snap) (cc:Array Value) (v:Value) (L:List Itm) (w:World):Prop:=∃ Hr A m c,v=.slice A m c∧m=L.length∧IS W0 H cc (.slice A m c) L w Hr
theorem ISt.box {W0 w:World}{H:Snap}{cc:Array Value}{v:Value}{L:List Itm}(h:ISt W0 H cc v L w):Blk w W0.heap.size 90 cc:=by
 obtain⟨Hr,A,m,c,_,_,hP⟩:=h
 exact hP.box
theorem Y4 {w w':World}{H:Snap}{c:Cl}{e:Ending}(hv:xE c=true) (h:fe w H (va c) e w'):∃ xa xb xc xd H6,e=.returned (.tuple #[ua (.mk 5 0 [] (va c)) xa xb xc xd,.int .i64 0])∧Grows w H w' H6∧IsItem H6 xa xb xc xd (.mk 5 0 [] (va c)):=by
 obtain⟨v,h⟩:=h
 rcases h with ⟨l,rfl,⟨xa,xb,xc,xd,H6,rfl,zK,VV⟩,_,_,hl⟩ | ⟨_,_,_,_,Zh⟩
 ·obtain rfl:=hl (Tm hv).2.1
  exact⟨xa,xb,xc,xd,H6,rfl,zK,VV⟩
 exact absurd (Tm hv) Zh
def T5 (w:World) (H:Snap) (c:Cl) (e:Ending) (w':World):Prop:=∃ v,e=.returned v∧Gives w H (pO c) v w'
theorem gI {H:Snap}(hTab:Tabs H) {c:Cl}{a:KAd}(hc:ClA H c a) (vD:xE c=true) (w:World) (hH:Holds w H) :
  Calls Tryz.prog 69 #[.agg (clQ c a)] w (T5 w H c):=by
 have hP:=IS.nil (((Grows.refl hH).alloc (.cells (clQ c a) 90)).alloc (.cells tE 78)) (hH.none_of_ge (Nat.le_refl _)) (hH.none_of_ge (by omega)) ((Blk.new w 90 (clQ c a)).alloc (.cells tE 78)) (by have h:=Blk.new (w.alloc (.cells (clQ c a) 90)) 78 tE;rw[zW]at h;exact h);have HC:=Hh hc;have HT:=Hh hTab;have HV:=Hh vD;have Em:=Hh ((sE c).1 vD);have c0:((w.alloc (.cells (clQ c a) 90)).alloc (.cells tE 78)).cell? ⟨w.heap.size,0,none⟩=some (.string c.issuer):=hP.box.cell 0 rfl;clear hc hH hTab vD;go_enter Tryz.func69,Tryz.ntmps69
 obtain⟨W1,Sm⟩:∃ W1,(w.alloc (.cells (clQ c a) 90)).alloc (.cells tE 78)=W1:=⟨_,rfl⟩
 go_upto_region 2 with fail
 rw[Sm]at hP c0;clear Sm;go_upto_if 10 with fail
 go_cut [3] (fun s3 wx=>ISt w H (clQ c a) s3 (ti c.issuer) wx)
 case first =>
  by_cases hs:c.issuer=⟨#[]⟩
  case pos =>
   have s2:c.issuer.toList.isEmpty=true:=(nG _).2 hs;have E:Hid (ti c.issuer=[]):=if_pos hs;have hS:ISt w H (clQ c a) (.slice none 0 0) [] W1:=⟨_,_,_,_,rfl,rfl,hP⟩
   have HS:=Hh hS;clear hS hs hP
   simp only[s2,Bool.not_true]
   go_wp2_with fail
   go_meet
   rw[E.out]
   exact HS.out
  have s2:c.issuer.toList.isEmpty=false:=by cases h:c.issuer.toList.isEmpty with | false=>rfl | true=>exact absurd ((nG _).1 h) hs
  simp only[s2,Bool.not_false]
  obtain⟨LL,qG⟩:∃ LL:List Itm,LL=[]:=⟨_,rfl⟩
  rw[← qG]at hP;have rb:=Hh qG;have HL:Hid (0=LL.length∧LL.length≤1000):=by rw[qG];exact⟨rfl,by simp⟩
  have E:Hid (ti c.issuer=LL++[zh 1,sr c.issuer]):=by rw[qG];exact if_neg hs
  clear qG hs;clear c0;go_upto_region 3 with fail
  have c0:World.cell? _ ⟨w.heap.size,0,none⟩=some (.string c.issuer):=hP.box.cell 0 rfl;replace hP:=hP.drew
  refine yw 6 (fun wx=>wx.cell? ⟨w.heap.size,0,none⟩=some (.string c.issuer)) (by kernel_rfl) (c0) (fun zy=>?_)
  refine Zk 0 rfl zy ?_
  refine Zk 2 rfl zy ?_
  refine Zk 3 rfl zy ?_
  refine Zo 1 rfl fun K hK=>?_
  go_simp
  refine(xJ (1) (by omega) (by omega) _ hP.grows.holds).mono ?_
  rintro e w3 ⟨v1,rfl,xa1,xb1,xc1,xd1,H1,rfl,um,tG⟩
  have hP:=hP.grow um
  refine Ko hK ?_ fun zy=>?_
  ·exact hP.box.cell 0 rfl
  clear hK K
  refine Zo 4 rfl fun K hK=>?_
  go_simp
  refine(gh c.issuer (by have:=HC.out.issuer;omega) _ hP.grows.holds).mono ?_
  rintro e w4 ⟨v2,rfl,xa2,xb2,xc2,xd2,H2,rfl,yY,lR⟩
  have hP:=hP.grow yY;have tG:=tG.mono yY.le
  refine Ko hK ?_ fun zy=>?_
  ·exact hP.box.cell 0 rfl
  clear hK K
  refine Zo 5 rfl fun K hK=>?_
  go_simp
  have hZ:=hP.litZ (zT (zh (1)) xa1 xb1 xc1 xd1++zT (sr c.issuer) xa2 xb2 xc2 xd2).toArray 78;have hP:=hP.alloc (.cells (zT (zh (1)) xa1 xb1 xc1 xd1++zT (sr c.issuer) xa2 xb2 xc2 xd2).toArray 78)
  refine Ko hK ?_ fun zy=>?_
  ·exact hP.box.cell 0 rfl
  clear hK K
  refine Zo 6 rfl fun K hK=>?_
  rw[if_pos (by rfl)]
  refine yV _ _ rfl _ _ _ _ rfl hP.own _ _ _ _ [_,_] rfl rfl ((ItemsC.one tG).app (ItemsC.one lR)) hZ (by have:=HL.out;simp;omega) hP.base fun v7 w7 hown7 hg7 hat7=>?_
  have hP:=hP.app hown7 hg7 hat7;obtain⟨A7,c7,rfl,_⟩:=hown7.form;obtain⟨m7,pC⟩:∃ m7,(LL++[zh (1),(.mk 3 0 c.issuer.data.toList [])]).length=m7:=⟨_,rfl⟩
  rw[pC]at hP⊢;have cK:=Hh pC;clear hown7 hg7 hat7 hZ pC
  refine Kz hK ?_
  clear hK K
  refine ZkT 7 rfl (fun h=>absurd h (by decide)) ?_
  refine WaysZ.done (by kernel_rfl) ?_
  clear zy;go_wp2_with fail
  go_meet
  exact(by rw[E.out];exact⟨_,_,_,_,rfl,cK.out.symm,hP⟩)
 case rest =>
 clear hP c0;have hS:=hcut;clear hcut;have pF:Hid ((ti c.issuer).length≤1000):=by rw[Hid,ti];split <;> simp
 go_upto_region 4 with fail
 go_cut [3] (fun s3 wx=>ISt w H (clQ c a) s3 (ti c.issuer++[zh 2,sr c.subject]) wx)
 case first =>
  obtain⟨LL,qG⟩:∃ LL,LL=ti c.issuer:=⟨_,rfl⟩
  rw[← qG]at hS pF;have rb:=Hh qG;clear qG;obtain⟨Hr,VA,m,vc,rfl,hm,hP⟩:=hS;have HL:=Hh (And.intro hm pF.out);clear hm;have c1:World.cell? _ ⟨w.heap.size,1,none⟩=some (.string c.subject):=hP.box.cell 1 rfl;replace hP:=hP.drew
  refine yw 6 (fun wx=>wx.cell? ⟨w.heap.size,1,none⟩=some (.string c.subject)) (by kernel_rfl) (c1) (fun zy=>?_)
  refine Zk 0 rfl zy ?_
  refine Zk 2 rfl zy ?_
  refine Zk 3 rfl zy ?_
  refine Zo 1 rfl fun K hK=>?_
  go_simp
  refine(xJ (2) (by omega) (by omega) _ hP.grows.holds).mono ?_
  rintro e w3 ⟨v1,rfl,xa1,xb1,xc1,xd1,H1,rfl,um,tG⟩
  have hP:=hP.grow um
  refine Ko hK ?_ fun zy=>?_
  ·exact hP.box.cell 1 rfl
  clear hK K
  refine Zo 4 rfl fun K hK=>?_
  go_simp
  refine(gh c.subject (by have:=HC.out.subject;omega) _ hP.grows.holds).mono ?_
  rintro e w4 ⟨v2,rfl,xa2,xb2,xc2,xd2,H2,rfl,yY,lR⟩
  have hP:=hP.grow yY;have tG:=tG.mono yY.le
  refine Ko hK ?_ fun zy=>?_
  ·exact hP.box.cell 1 rfl
  clear hK K
  refine Zo 5 rfl fun K hK=>?_
  go_simp
  have hZ:=hP.litZ (zT (zh (2)) xa1 xb1 xc1 xd1++zT (sr c.subject) xa2 xb2 xc2 xd2).toArray 78;have hP:=hP.alloc (.cells (zT (zh (2)) xa1 xb1 xc1 xd1++zT (sr c.subject) xa2 xb2 xc2 xd2).toArray 78)
  refine Ko hK ?_ fun zy=>?_
  ·exact hP.box.cell 1 rfl
  clear hK K
  refine Zo 6 rfl fun K hK=>?_
  rw[if_pos (by rfl)]
  refine yV _ _ rfl _ _ _ _ rfl hP.own _ _ _ _ [_,_] rfl rfl ((ItemsC.one tG).app (ItemsC.one lR)) hZ (by have:=HL.out;simp;omega) hP.base fun v7 w7 hown7 hg7 hat7=>?_
  have hP:=hP.app hown7 hg7 hat7;obtain⟨A7,c7,rfl,_⟩:=hown7.form;obtain⟨m7,pC⟩:∃ m7,(LL++[zh (2),(.mk 3 0 c.subject.data.toList [])]).length=m7:=⟨_,rfl⟩
  rw[pC]at hP⊢;have cK:=Hh pC;clear hown7 hg7 hat7 hZ pC
  refine Kz hK ?_
  clear hK K
  refine ZkT 7 rfl (fun h=>absurd h (by decide)) ?_
  refine WaysZ.done (by kernel_rfl) ?_
  clear zy;go_wp2_with fail
  go_meet
  exact(by rw[← rb.out];exact⟨_,_,_,_,rfl,cK.out.symm,hP⟩)
 case rest =>
 clear hS pF;have hS:=hcut;clear hcut;have pF:Hid ((ti c.issuer++[zh 2,sr c.subject]).length≤1000):=by rw[Hid,ti];split <;> simp
 have c3:World.cell? _ ⟨w.heap.size,3,none⟩=some (.int .i64 c.till):=hS.box.cell 3 rfl;go_upto_if 27 with fail
 go_cut [3] (fun s3 wx=>ISt w H (clQ c a) s3 (ti c.issuer++[zh 2,sr c.subject]++wQ 4 c.till) wx)
 case first =>
  by_cases h0:0<c.till
  case neg =>
   have E:Hid (ti c.issuer++[zh 2,sr c.subject]++wQ 4 c.till=ti c.issuer++[zh 2,sr c.subject]):=by rw[Hid,show wQ 4 c.till=[] from if_neg h0,List.append_nil]
   have oM:decide (0<c.till)=false:=decide_eq_false h0;have HS:=Hh hS;clear hS;go_wp2_with fail
   go_meet
   rw[E.out]
   exact HS.out
  have oM:decide (0<c.till)=true:=decide_eq_true h0;have E:Hid (ti c.issuer++[zh 2,sr c.subject]++wQ 4 c.till=ti c.issuer++[zh 2,sr c.subject]++[zh 4,zh c.till]):=by rw[Hid,show wQ 4 c.till=[zh 4,zh c.till] from if_pos h0]
  obtain⟨LL,qG⟩:∃ LL,LL=ti c.issuer++[zh 2,sr c.subject]:=⟨_,rfl⟩
  rw[← qG]at hS pF;have rb:=Hh qG;clear qG;obtain⟨Hr,VA,m,vc,rfl,hm,hP⟩:=hS;have HL:=Hh (And.intro hm pF.out);clear hm;clear c3;go_upto_region 6 with fail
  clear h0 oM;have c3:World.cell? _ ⟨w.heap.size,3,none⟩=some (.int .i64 c.till):=hP.box.cell 3 rfl;replace hP:=hP.drew
  refine yw 6 (fun wx=>wx.cell? ⟨w.heap.size,3,none⟩=some (.int .i64 c.till)) (by kernel_rfl) (c3) (fun zy=>?_)
  refine Zk 0 rfl zy ?_
  refine Zk 2 rfl zy ?_
  refine Zk 3 rfl zy ?_
  refine Zo 1 rfl fun K hK=>?_
  go_simp
  refine(xJ (4) (by omega) (by omega) _ hP.grows.holds).mono ?_
  rintro e w3 ⟨v1,rfl,xa1,xb1,xc1,xd1,H1,rfl,um,tG⟩
  have hP:=hP.grow um
  refine Ko hK ?_ fun zy=>?_
  ·exact hP.box.cell 3 rfl
  clear hK K
  refine Zo 4 rfl fun K hK=>?_
  go_simp
  refine(xJ c.till HC.out.till.1 HC.out.till.2 _ hP.grows.holds).mono ?_
  rintro e w4 ⟨v2,rfl,xa2,xb2,xc2,xd2,H2,rfl,yY,lR⟩
  have hP:=hP.grow yY;have tG:=tG.mono yY.le
  refine Ko hK ?_ fun zy=>?_
  ·exact hP.box.cell 3 rfl
  clear hK K
  refine Zo 5 rfl fun K hK=>?_
  go_simp
  have hZ:=hP.litZ (zT (zh (4)) xa1 xb1 xc1 xd1++zT (zh c.till) xa2 xb2 xc2 xd2).toArray 78;have hP:=hP.alloc (.cells (zT (zh (4)) xa1 xb1 xc1 xd1++zT (zh c.till) xa2 xb2 xc2 xd2).toArray 78)
  refine Ko hK ?_ fun zy=>?_
  ·exact hP.box.cell 3 rfl
  clear hK K
  refine Zo 6 rfl fun K hK=>?_
  rw[if_pos (by rfl)]
  refine yV _ _ rfl _ _ _ _ rfl hP.own _ _ _ _ [_,_] rfl rfl ((ItemsC.one tG).app (ItemsC.one lR)) hZ (by have:=HL.out;simp;omega) hP.base fun v7 w7 hown7 hg7 hat7=>?_
  have hP:=hP.app hown7 hg7 hat7;obtain⟨A7,c7,rfl,_⟩:=hown7.form;obtain⟨m7,pC⟩:∃ m7,(LL++[zh (4),(zh c.till)]).length=m7:=⟨_,rfl⟩
  rw[pC]at hP⊢;have cK:=Hh pC;clear hown7 hg7 hat7 hZ pC
  refine Kz hK ?_
  clear hK K
  refine ZkT 7 rfl (fun h=>absurd h (by decide)) ?_
  refine WaysZ.done (by kernel_rfl) ?_
  clear zy;go_wp2_with fail
  go_meet
  exact(by rw[E.out,← rb.out];exact⟨_,_,_,_,rfl,cK.out.symm,hP⟩)
 case rest =>
 clear hS pF c3;have hS:=hcut;clear hcut;have pF:Hid ((ti c.issuer++[zh 2,sr c.subject]++wQ 4 c.till).length≤1000):=by rw[Hid,ti,wQ];split <;> split <;> simp
 have c2:World.cell? _ ⟨w.heap.size,2,none⟩=some (.int .i64 c.since):=hS.box.cell 2 rfl;go_upto_if 37 with fail
 go_cut [3] (fun s3 wx=>ISt w H (clQ c a) s3 (ti c.issuer++[zh 2,sr c.subject]++wQ 4 c.till++wQ 5 c.since) wx)
 case first =>
  by_cases h0:0<c.since
  case neg =>
   have E:Hid (ti c.issuer++[zh 2,sr c.subject]++wQ 4 c.till++wQ 5 c.since=ti c.issuer++[zh 2,sr c.subject]++wQ 4 c.till):=by rw[Hid,show wQ 5 c.since=[] from if_neg h0,List.append_nil]
   have oM:decide (0<c.since)=false:=decide_eq_false h0;have HS:=Hh hS;clear hS;go_wp2_with fail
   go_meet
   rw[E.out]
   exact HS.out
  have oM:decide (0<c.since)=true:=decide_eq_true h0;have E:Hid (ti c.issuer++[zh 2,sr c.subject]++wQ 4 c.till++wQ 5 c.since=ti c.issuer++[zh 2,sr c.subject]++wQ 4 c.till++[zh 5,zh c.since]):=by rw[Hid,show wQ 5 c.since=[zh 5,zh c.since] from if_pos h0]
  obtain⟨LL,qG⟩:∃ LL,LL=ti c.issuer++[zh 2,sr c.subject]++wQ 4 c.till:=⟨_,rfl⟩
  rw[← qG]at hS pF;have rb:=Hh qG;clear qG;obtain⟨Hr,VA,m,vc,rfl,hm,hP⟩:=hS;have HL:=Hh (And.intro hm pF.out);clear hm;clear c2;go_upto_region 8 with fail
  clear h0 oM;have c2:World.cell? _ ⟨w.heap.size,2,none⟩=some (.int .i64 c.since):=hP.box.cell 2 rfl;replace hP:=hP.drew
  refine yw 6 (fun wx=>wx.cell? ⟨w.heap.size,2,none⟩=some (.int .i64 c.since)) (by kernel_rfl) (c2) (fun zy=>?_)
  refine Zk 0 rfl zy ?_
  refine Zk 2 rfl zy ?_
  refine Zk 3 rfl zy ?_
  refine Zo 1 rfl fun K hK=>?_
  go_simp
  refine(xJ (5) (by omega) (by omega) _ hP.grows.holds).mono ?_
  rintro e w3 ⟨v1,rfl,xa1,xb1,xc1,xd1,H1,rfl,um,tG⟩
  have hP:=hP.grow um
  refine Ko hK ?_ fun zy=>?_
  ·exact hP.box.cell 2 rfl
  clear hK K
  refine Zo 4 rfl fun K hK=>?_
  go_simp
  refine(xJ c.since HC.out.since.1 HC.out.since.2 _ hP.grows.holds).mono ?_
  rintro e w4 ⟨v2,rfl,xa2,xb2,xc2,xd2,H2,rfl,yY,lR⟩
  have hP:=hP.grow yY;have tG:=tG.mono yY.le
  refine Ko hK ?_ fun zy=>?_
  ·exact hP.box.cell 2 rfl
  clear hK K
  refine Zo 5 rfl fun K hK=>?_
  go_simp
  have hZ:=hP.litZ (zT (zh (5)) xa1 xb1 xc1 xd1++zT (zh c.since) xa2 xb2 xc2 xd2).toArray 78;have hP:=hP.alloc (.cells (zT (zh (5)) xa1 xb1 xc1 xd1++zT (zh c.since) xa2 xb2 xc2 xd2).toArray 78)
  refine Ko hK ?_ fun zy=>?_
  ·exact hP.box.cell 2 rfl
  clear hK K
  refine Zo 6 rfl fun K hK=>?_
  rw[if_pos (by rfl)]
  refine yV _ _ rfl _ _ _ _ rfl hP.own _ _ _ _ [_,_] rfl rfl ((ItemsC.one tG).app (ItemsC.one lR)) hZ (by have:=HL.out;simp;omega) hP.base fun v7 w7 hown7 hg7 hat7=>?_
  have hP:=hP.app hown7 hg7 hat7;obtain⟨A7,c7,rfl,_⟩:=hown7.form;obtain⟨m7,pC⟩:∃ m7,(LL++[zh (5),(zh c.since)]).length=m7:=⟨_,rfl⟩
  rw[pC]at hP⊢;have cK:=Hh pC;clear hown7 hg7 hat7 hZ pC
  refine Kz hK ?_
  clear hK K
  refine ZkT 7 rfl (fun h=>absurd h (by decide)) ?_
  refine WaysZ.done (by kernel_rfl) ?_
  clear zy;go_wp2_with fail
  go_meet
  exact(by rw[E.out,← rb.out];exact⟨_,_,_,_,rfl,cK.out.symm,hP⟩)
 case rest =>
 clear hS pF c2;have hS:=hcut;clear hcut;have pF:Hid ((ti c.issuer++[zh 2,sr c.subject]++wQ 4 c.till++wQ 5 c.since).length≤1000):=by rw[Hid,ti,wQ,wQ];split <;> split <;> split <;> simp
 obtain⟨LL,qG⟩:∃ LL,LL=ti c.issuer++[zh 2,sr c.subject]++wQ 4 c.till++wQ 5 c.since:=⟨_,rfl⟩
 rw[← qG]at hS pF;have rb:=Hh qG;clear qG;obtain⟨Hr,VA,m,vc,rfl,hm,hP⟩:=hS;have HL:=Hh (And.intro hm pF.out);clear hm;have c4:=hP.box.cell 4 rfl;have c5:=hP.box.cell 5 rfl;have c6:=hP.box.cell 6 rfl;have c7:=hP.box.cell 7 rfl;have c8:=hP.box.cell 8 rfl;have c9:=hP.box.cell 9 rfl;have c10:=hP.box.cell 10 rfl;go_upto_region 9 with fail
 go_wp2_with fail
 refine(kZ (HT.out.mono hP.grows.le) (HC.out.key.mono hP.grows.le) _ hP.grows.holds).mono ?_
 rintro e w5 ⟨v5,rfl,yg⟩
 have EK:Hid (oA c.key=0∧iC c.key=sk c.key):=⟨by rw[oA,if_pos Em.out.2.2.2.2.2.2.2.2.1],by rw[iC,if_pos Em.out.2.2.2.2.2.2.2.2.1]⟩
 rw[EK.out.2]at yg;rw[EK.out.1];obtain⟨ya,yb,yc,yd,H5,rfl,xC,fR⟩:=yg;replace hP:=hP.grow xC;clear xC c4 c5 c6 c7 c8 c9 c10;obtain⟨y,hy⟩:∃ y,y=sk c.key:=⟨_,rfl⟩
 rw[← hy]at fR⊢;have HY:=Hh hy;clear hy;have hQ:=Blk.new w5 78 #[.int .i64 y.kind,.int .u64 y.n,.slice ya y.bytes.length yb,.slice yc y.items.length yd];replace hP:=hP.alloc (zH y ya yb yc yd);obtain⟨Q,iG⟩:∃ Q,w5.heap.size=Q:=⟨_,rfl⟩
 obtain⟨w6,pE⟩:∃ w6,w5.alloc (zH y ya yb yc yd)=w6:=⟨_,rfl⟩
 rw[iG,pE]at hQ;rw[pE]at hP;go_upto_region 10 with fail
 clear iG pE;go_cut [3] (fun s3 wx=>ISt w H (clQ c a) s3 (va c) wx)
 case first =>
  replace hP:=hP.drew;replace hQ:=hQ.below (Below.refl _ _).drew
  refine yw 7 (fun wx=>wx.cell? ⟨Q,0,none⟩=some (.int .i64 y.kind)∧wx.cell? ⟨Q,1,none⟩=some (.int .u64 y.n)∧wx.cell? ⟨Q,2,none⟩=some (.slice ya y.bytes.length yb)∧wx.cell? ⟨Q,3,none⟩=some (.slice yc y.items.length yd)) (by kernel_rfl) (⟨hQ.cell 0 rfl,hQ.cell 1 rfl,hQ.cell 2 rfl,hQ.cell 3 rfl⟩) (fun zy=>?_)
  refine Zk 0 rfl zy ?_
  refine Zk 3 rfl zy ?_
  refine Zo 1 rfl fun K hK=>?_
  go_simp
  refine(xJ 8 (by omega) (by omega) _ hP.grows.holds).mono ?_
  rintro e w7 ⟨v1,rfl,xa1,xb1,xc1,xd1,H1,rfl,um,tG⟩
  have hP:=hP.grow um;have hQ:=hQ.below um.below;have fR:=fR.mono um.le;clear um
  refine Ko hK ?_ fun zy=>?_
  ·exact⟨hQ.cell 0 rfl,hQ.cell 1 rfl,hQ.cell 2 rfl,hQ.cell 3 rfl⟩
  clear hK K
  refine Zo 2 rfl fun K hK=>?_
  go_simp
  refine(xJ 1 (by omega) (by omega) _ hP.grows.holds).mono ?_
  rintro e w8 ⟨v2,rfl,xa2,xb2,xc2,xd2,H2,rfl,yY,lR⟩
  have hP:=hP.grow yY;have hQ:=hQ.below yY.below;have fR:=fR.mono yY.le;have tG:=tG.mono yY.le;clear yY
  refine Ko hK ?_ fun zy=>?_
  ·exact⟨hQ.cell 0 rfl,hQ.cell 1 rfl,hQ.cell 2 rfl,hQ.cell 3 rfl⟩
  clear hK K
  refine Zo 4 rfl fun K hK=>?_
  go_simp
  obtain⟨H4,uv,E3,O1⟩:=nI (l:=[zh 1,y]) (Grows.refl hP.grows.holds) ((ItemsC.one lR).app (ItemsC.one fR)) (by simp);have Da:=O1.item 5 (by omega) 0 (by omega);clear E3 O1;have hP:=hP.grow uv;have tG:=tG.mono uv.le;have hQ:=hQ.below uv.below;clear uv
  refine Ko hK ?_ fun zy=>?_
  ·exact⟨hQ.cell 0 rfl,hQ.cell 1 rfl,hQ.cell 2 rfl,hQ.cell 3 rfl⟩
  clear hK K
  refine Zk 5 rfl zy ?_
  refine Zo 6 rfl fun K hK=>?_
  go_simp
  have hP:=hP.alloc (.cells (zT (zh 8) xa1 xb1 xc1 xd1++zT (.mk 5 0 [] [zh 1,y]) none 0 (some ⟨w8.heap.size,0,none⟩) 2).toArray 78);have hQ:=hQ.alloc (.cells (zT (zh 8) xa1 xb1 xc1 xd1++zT (.mk 5 0 [] [zh 1,y]) none 0 (some ⟨w8.heap.size,0,none⟩) 2).toArray 78)
  refine Ko hK ?_ fun zy=>?_
  ·exact⟨hQ.cell 0 rfl,hQ.cell 1 rfl,hQ.cell 2 rfl,hQ.cell 3 rfl⟩
  clear hK K
  refine Zo 7 rfl fun K hK=>?_
  rw[if_pos (by rfl)]
  refine yV _ _ rfl _ _ _ _ rfl hP.own _ _ _ _ [_,_] rfl rfl ((ItemsC.one tG).app (ItemsC.one Da)) (Src.new _ _ _ _ (by rw[zW]) _ rfl) (by have:=HL.out;simp;omega) hP.base fun v9 w9 hown9 hg9 hat9=>?_
  have hP:=hP.app hown9 hg9 hat9;obtain⟨A9,c9,rfl,_⟩:=hown9.form;obtain⟨m9,St⟩:∃ m9,(LL++[zh 8,.mk 5 0 [] [zh 1,y]]).length=m9:=⟨_,rfl⟩
  rw[St]at hP⊢;have CZ:=Hh St;clear hown9 hg9 hat9 St hQ
  refine Kz hK ?_
  clear hK K
  refine ZkT 8 rfl (fun h=>absurd h (by decide)) ?_
  refine WaysZ.done (by kernel_rfl) ?_
  clear zy;go_wp2_with fail
  go_meet
  have EP:Hid (va c=LL++[zh 8,.mk 5 0 [] [zh 1,y]]):=by rw[rb.out,HY.out];exact rfl
  exact(by rw[EP.out];exact⟨_,_,_,_,rfl,CZ.out.symm,hP⟩)
 case rest =>
 clear hP hQ fR;obtain⟨Ba,VA2,m2,vc2,rfl,iK,hP⟩:=hcut;obtain⟨H9,tZ,St,Kh,VG⟩:=hP.freeze;have hT:=hP.res;have HB:=Hh (gJ (HT.out.mono tZ.le) Kh (by have:=(lx c).2.2;omega) _ tZ.holds);rw[← iK]at HB;clear hP Kh St iK;go_wp2_with fail
 refine HB.out.mono ?_
 intro e w10 K7
 obtain⟨xa,xb,xc,xd,H6,rfl,zK,VV⟩:=Y4 HV.out K7;clear K7 HB;have uw:=tZ.trans zK;have pD:=zK.none VG hT.lt;replace hT:=hT.below zK.below;clear zK tZ VG;replace hT:=hT.alloc (zH (.mk 5 0 [] (va c)) xa xb xc xd);replace uw:=uw.alloc (zH (.mk 5 0 [] (va c)) xa xb xc xd);go_upto_region 12 with fail
 go_wp2_with (with_reducible refine zx ?_)
 refine stI hT fun w11 UX hg11=>?_
 have uT:=uw.grownOwn pD (by omega) hg11;clear hT uw hg11;go_wp2_with fail
 refine xS rfl rfl UX rfl rfl zp rfl ?_
 exact⟨_,rfl,xa,xb,xc,xd,H6,rfl,uT,VV⟩
end Go.Proofs.YtjpcnhncoidliaaGreatDoor
