/- squeezed. Walks: the key of an item, by the  -/
import Derived.Test.YtgcjjhibdbafmabGreatDoorK18
set_option linter.unusedVariables false
set_option linter.unusedSimpArgs false
set_option maxRecDepth 100000
set_option maxHeartbeats 51200000
namespace Go.Proofs.YtgcjjhibdbafmabGreatDoor
open Go.RowKit
theorem cZ (q:Ky) (l:List Itm) (j:Nat) (h:j+1<l.length):vg q (l.drop j)=vg (vh q (l[j]'(by omega)) l[j+1]) (l.drop (j+2)):=by
 rw[List.drop_eq_getElem_cons (by omega:j<l.length),List.drop_eq_getElem_cons h,vg]
theorem ly {z:Itm} : -9223372036854775808≤nmR z∧nmR z≤9223372036854775807:=by
 obtain⟨k,m,b,l⟩:=z;rw[nmR]
 split <;> omega
structure FR (W0:World) (H:Snap) (R K:Nat) (xc kc:Array Value) (w:World) (Hr:Snap):Prop where
 kn:KN W0 H R K kc w Hr
 box:Blk w W0.heap.size 57 xc
 nb:K≠W0.heap.size
section
variable {W0 w w':World} {H Hr Hs:Snap} {R K:Nat} {xc kc kc':Array Value}
theorem FR.grow (h:FR W0 H R K xc kc w Hr) (k:Grows w Hr w' Hs):FR W0 H R K xc kc w' Hs:=⟨h.kn.grow k,h.box.below k.below,h.nb⟩
theorem FR.below (h:FR W0 H R K xc kc w Hr) (k:Below w.heap.size w w'):FR W0 H R K xc kc w' Hr:=h.grow (Grows.of_below h.kn.grows.holds k)
theorem FR.alloc (h:FR W0 H R K xc kc w Hr) (o:Obj):FR W0 H R K xc kc (w.alloc o) Hr:=h.below (zi w o)
theorem FR.drew (h:FR W0 H R K xc kc w Hr):FR W0 H R K xc kc w.drew Hr:=h.below (Below.refl _ _).drew
theorem FR.set (h:FR W0 H R K xc kc w Hr) (hB:Blk w' K 24 kc') (hg:w.grownBy w' (some K)):FR W0 H R K xc kc' w' Hr :=
 ⟨h.kn.set hB hg,h.box.grown hg (fun e=>by injection e with e;exact h.nb e),h.nb⟩
end
theorem ii {H:Snap}(hTab:Tabs H) {x:Itm}{ba:Option Addr}{bc:Nat}{ia:Option Addr}{ic:Nat}(hx:IsItem H ba bc ia ic x) (w:World) (hH:Holds w H) :
  Calls Tryz.prog 58 #[xj x ba bc ia ic] w (fT w H x):=by
 have hX:=(Blk.new w 57 #[.int .i64 x.kind,.int .u64 x.n,.slice ba x.bytes.length bc,.slice ia x.items.length ic]).alloc (.cells tM 24);have hR:=Blk.new (w.alloc (zS x ba bc ia ic)) 24 tM;rw[zX]at hR;have Xh:H (w.heap.size+1)=none:=hH.none_of_ge (by omega);have hG:=((Grows.refl hH).alloc (zS x ba bc ia ic)).alloc (.cells tM 24);have HT:=Hh hTab;have HI:=Hh hx;have a0:=hX.cell 0 rfl;have a1:=hX.cell 1 rfl;have a2:=hX.cell 2 rfl;have a3:=hX.cell 3 rfl;clear hTab hx hH;go_enter Tryz.func58,Tryz.ntmps58
 go_wp2_with fail
 refine(pF HT.out HI.out.arg _ hG.holds).mono ?_
 rintro e w1 ⟨rfl,wU⟩
 replace hX:=hX.below wU;replace hR:=hR.below wU;replace hG:=hG.below_ wU;clear wU a0 a1 a2 a3
 cases hv:zL x with
 | false =>
  have HV:=Hh hv;clear hv hX;go_wp2_with (with_reducible refine zx ?_)
  refine zp rfl _ _ _ rfl rfl _ _ rfl rfl _ _ hR yh rfl (rE _ _ _ _ _ _ _ rfl rfl rfl rfl rfl rfl rfl) fun wz hRz zT=>?_
  have zQ:=hG.grownOwn Xh (by omega) zT;go_wp2_with fail
  refine zw rfl rfl hRz rfl rfl yh rfl ?_
  exact .inl ⟨HV.out,rfl,zQ.below⟩
 | true =>
 have HV:=Hh hv;clear hv;have a0:=hX.cell 0 rfl
 by_cases h5:x.kind=5
 case neg =>
  have b5:(x.kind != 5)=true:=by simp[h5]
  have p5:(x.kind=5)=False:=eq_false h5;have H5:=Hh h5;clear h5 hX;go_wp2_with (with_reducible refine zx ?_)
  refine zp rfl _ _ _ rfl rfl _ _ rfl rfl _ _ hR yh rfl (rE _ _ _ _ _ _ _ rfl rfl rfl rfl rfl rfl rfl) fun wz hRz zT=>?_
  have zQ:=hG.grownOwn Xh (by omega) zT;clear a0;go_wp2_with fail
  refine zw rfl rfl hRz rfl rfl yh rfl ?_
  exact .inr (.inl ⟨HV.out,ZO H5.out,rfl,zQ.below⟩)
 have b5:(x.kind != 5)=false:=by simp[h5]
 have p5:(x.kind=5)=True:=eq_true h5;have cF:=Hh (rY HV.out h5);clear h5;obtain⟨Kb,hK⟩:∃ Kb,w1.heap.size=Kb:=⟨_,rfl⟩
 have zD:FR w H (w.heap.size+1) w1.heap.size #[.int .i64 x.kind,.int .u64 x.n,.slice ba x.bytes.length bc,.slice ia x.items.length ic] (vV yF ⟨none,0,none,0,none,0,none,0⟩) (w1.alloc (.cells tM 24)) H:=⟨⟨hG.alloc _,hR.alloc _,Blk.new _ _ _,Xh,hG.holds.none_of_ge (Nat.le_refl _),by have:=hR.lt;omega,by omega,hG.size⟩,hX.alloc _,by have:=hX.lt;omega⟩
 rw[hK]at zD;clear hX hR hG;go_wp2_with fail
 try rw[hK]
 clear b5 p5 a0;go_loopw [5] (fun v7 wr=>∃ (j:Nat) (q:Ky) (a:KAd) (Hr:Snap),j≤x.items.length∧j%2=0∧v7=.int .i64 (j:Int)∧FR w H (w.heap.size+1) Kb #[.int .i64 x.kind,.int .u64 x.n,.slice ba x.bytes.length bc,.slice ia x.items.length ic] (vV q a) wr Hr∧KeyA Hr q a∧vg q (x.items.drop j)=vg yF x.items) (fun v7 _=>x.items.length-(intOf v7).toNat)
 case atStart=>exact⟨0,yF,⟨none,0,none,0,none,0,none,0⟩,H,Nat.zero_le _,rfl,rfl,zD,⟨by simp[yF],by simp[yF],by simp[yF],IsBytes.nil _,IsBytes.nil _,IsBytes.nil _,IsBytes.nil _⟩,by rw[List.drop_zero]⟩
 case round =>
 clear zD hK;obtain⟨j,q,a,Hr,hj,Zg,rfl,zD,QD,TU⟩:=hrel;have nN:=Hh Zg;have wJ:=Hh QD;have nM:=Hh TU;clear Zg QD TU;have a3:=zD.box.cell 3 rfl
 by_cases ye:j<x.items.length
 case neg =>
  have sZ:j=x.items.length:=by omega
  subst sZ;clear ye hj;have HF:Hid (vg yF x.items=q):=by rw[Hid,← nM.out,List.drop_length,nr]
  clear nM;have k0:=zD.kn.key.cell 0 rfl;have k1:=zD.kn.key.cell 1 rfl;have k2:=zD.kn.key.cell 2 rfl;have k3:=zD.kn.key.cell 3 rfl;have k4:=zD.kn.key.cell 4 rfl;have k5:=zD.kn.key.cell 5 rfl;have k6:=zD.kn.key.cell 6 rfl;go_wp2_with fail
  refine(ma (HT.out.mono zD.kn.grows.le) wJ.out _ zD.kn.grows.holds).mono ?_
  rintro e w9 ⟨v9,rfl,ya,yb,yc,yd,H9,rfl,rJ,ll⟩
  replace zD:=(zD.grow rJ)
  replace wJ:=Hh (wJ.out.mono rJ.le);clear k0 k1 k2 k3 k4 k5 k6 a3 rJ
  cases hvq:xp q with
  | false =>
   have Sg:Hid (¬ ∃ q,tV x q):=fun⟨q2,h2⟩=>by
    have e:=HF.out;rw[qQ h2]at e;obtain rfl:=e;rw[h2.1]at hvq
    cases hvq
   have E:Hid (uE q=1∧rR q=zG):=⟨by rw[uE,if_neg (by rw[hvq];simp)],by rw[rR,if_neg (by rw[hvq];simp)]⟩
   rw[E.out.1,E.out.2];clear hvq ll;replace zD:=zD.alloc (zS zG ya yb yc yd);go_upto_region 25 with fail
   have qG:=zD.kn.res;have uX:=Hh zD.kn;clear zD;go_wp2_with (with_reducible refine zx ?_)
   refine zp rfl _ _ _ rfl rfl _ _ rfl rfl _ _ qG yh rfl (rE _ _ _ _ _ _ _ rfl rfl rfl rfl rfl rfl rfl) fun wz hRz zT=>?_
   have zQ:=uX.out.grows.grownOwn uX.out.hR uX.out.wR zT;clear uX qG zT;go_wp2_with fail
   refine zw rfl rfl hRz rfl rfl yh rfl ?_
   exact .inr (.inl ⟨HV.out,Sg.out,rfl,zQ.below⟩)
  | true =>
  have E:Hid (uE q=0∧rR q=vj q):=⟨by rw[uE,if_pos hvq],by rw[rR,if_pos hvq]⟩
  have MQ:=Hh hvq;rw[E.out.1,E.out.2];rw[E.out.2]at ll;have Uj:=Hh (vS hvq);obtain⟨y,hy⟩:∃ y,vj q=y:=⟨_,rfl⟩
  have HY:=Hh hy;rw[hy]at ll⊢;rw[HY.out]at Uj;have Se:=Hh (And.intro (HI.out.mono zD.kn.grows.le) ll);replace zD:=zD.alloc (zS y ya yb yc yd);have x0:=zD.box.cell 0 rfl;have x1:=zD.box.cell 1 rfl;have x2:=zD.box.cell 2 rfl;have x3:=zD.box.cell 3 rfl;clear hvq ll hy;go_wp2_with fail
  refine(jj x y _ _ _ _ _ _ _ _ _ _ _ _ _ _ _ _ _ _ (wV HV.out) (wV Uj.out) Se.out.1.arg Se.out.2.arg zD.kn.grows.holds).mono ?_
  rintro e w10 ⟨rfl,vu⟩
  replace zD:=zD.below vu;clear vu x0 x1 x2 x3;have Je:=Hh (vZ x y)
  cases Xl:tq x y with
  | false =>
   have Sg:Hid (¬ ∃ q,tV x q):=fun⟨q2,h2⟩=>by
    have e:=HF.out;rw[qQ h2]at e;obtain rfl:=e;have e2:x=y:=by rw[← h2.2];exact HY.out
    rw[(Je.out).2 e2]at Xl
    cases Xl
   clear Xl;have qG:=zD.kn.res;have uX:=Hh zD.kn;clear zD;go_wp2_with (with_reducible refine zx ?_)
   refine zp rfl _ _ _ rfl rfl _ _ rfl rfl _ _ qG yh rfl (rE _ _ _ _ _ _ _ rfl rfl rfl rfl rfl rfl rfl) fun wz hRz zT=>?_
   have zQ:=uX.out.grows.grownOwn uX.out.hR uX.out.wR zT;clear uX qG zT;go_wp2_with fail
   refine zw rfl rfl hRz rfl rfl yh rfl ?_
   exact .inr (.inl ⟨HV.out,Sg.out,rfl,zQ.below⟩)
  | true =>
  have Pq:Hid (x=y):=Je.out.1 Xl;clear Xl;have k0:=zD.kn.key.cell 0 rfl;have k1:=zD.kn.key.cell 1 rfl;have k2:=zD.kn.key.cell 2 rfl;have k3:=zD.kn.key.cell 3 rfl;have k4:=zD.kn.key.cell 4 rfl;have k5:=zD.kn.key.cell 5 rfl;have k6:=zD.kn.key.cell 6 rfl;have qG:=zD.kn.res;have uX:=Hh zD.kn;clear zD;go_wp2_with (with_reducible refine zx ?_)
  refine zp rfl _ _ _ rfl rfl _ _ rfl rfl _ _ qG yh rfl (rE _ _ _ _ _ _ _ rfl rfl rfl rfl rfl rfl rfl) fun wz hRz zT=>?_
  have zQ:=uX.out.grows.grownOwn uX.out.hR uX.out.wR zT;clear uX qG zT;go_wp2_with fail
  refine zw rfl rfl hRz rfl rfl yh rfl ?_
  exact .inr (.inr ⟨q,a,_,HV.out,⟨MQ.out,by rw[Pq.out];exact HY.out⟩,rfl,zQ,wJ.out⟩)
 have tb:j+1<x.items.length:=by have:=nN.out;have:=cF.out;omega
 have ld:x.items.length≤256:=(xu HV.out).2.1;have mG:(j:Int)<x.items.length:=by omega
 have eS:(j:Int)+1<x.items.length:=by omega
 have UQ:(0:Int)≤(j:Int)+1:=by omega
 have Nc:IntKind.i64.wrap ((j:Int)+2)=(j:Int)+2:=IntWalk.i64_in _ (by omega);have Qf:IntKind.i64.wrap ((j:Int)+1)=(j:Int)+1:=IntWalk.i64_in _ (by omega);obtain⟨ib,io,rH,vD⟩:=HI.out.items (by omega);obtain⟨y1,y2,y3,y4,q0,q1,q2,q3,fu⟩:=vD.get j ye;obtain⟨z1,z2,z3,z4,s0,s1,s2,s3,oI⟩:=vD.get (j+1) tb;subst rH;have ol:=Hh (cZ q x.items j tb);have XQ:=Hh (ue HV.out (List.getElem_mem tb));have sU:=Hh (And.intro ye (And.intro tb ld))
 generalize x.items[j]'ye=y at *
 generalize x.items[j+1]'tb=z at *
 have eZ:=Hh (And.intro fu oI);have hh:=zD.kn.grows.holds.mono zD.kn.grows.le;have s0:=hh.cell s0;have s1:=hh.cell s1;have s2:=hh.cell s2;have s3:=hh.cell s3;have hP:=Blk.new wr 57 #[.int .i64 z.kind,.int .u64 z.n,.slice z1 z.bytes.length z2,.slice z3 z.items.length z4];replace zD:=zD.alloc (zS z z1 z2 z3 z4);have Us:=zD.kn.grows.holds.mono zD.kn.grows.le;have q0:=Us.cell q0;have q1:=Us.cell q1;have q2:=Us.cell q2;have q3:=Us.cell q3;have a3b:=zD.box.cell 3 rfl;clear Us;clear vD fu oI ye tb hh hj ld;go_wp2_with fail
 refine(sM eZ.out.1.arg _).mono ?_
 rintro e w5 ⟨rfl,rG⟩
 replace zD:=zD.below rG;replace hP:=hP.below rG;clear rG q0 q1 q2 q3 s0 s1 s2 s3 a3 a3b;obtain⟨P,XU⟩:∃ P,wr.heap.size=P:=⟨_,rfl⟩
 rw[XU]at hP⊢;clear XU;obtain⟨k,hk⟩:∃ k,nmR y=k:=⟨_,rfl⟩
 have HK:=Hh hk;rw[hk];clear hk;have z0:=hP.cell 0 rfl;have z1c:=hP.cell 1 rfl;have zb:=hP.cell 2 rfl;have z3c:=hP.cell 3 rfl
 by_cases ha:k=1
 ·subst ha;have mH:Hid (vh q y z={ q with kty:=nmR z }):=by rw[Hid,vh,HK.out];rfl
  clear HK;go_wp2_with fail
  refine(sM eZ.out.2.arg _).mono ?_
  rintro e w6 ⟨rfl,tf⟩
  replace zD:=zD.below tf;clear tf z0 z1c zb z3c;obtain⟨n,hn⟩:∃ n,nmR z=n:=⟨_,rfl⟩
  have Xe:=Hh (ly (z:=z));rw[hn]at mH Xe⊢;clear hn;go_wp2_with (with_reducible refine zx ?_)
  refine zu rfl _ _ _ rfl rfl Kb 0 (.int .i64 n) rfl rfl _ _ zD.kn.key (by kernel_rfl) (by simp) rfl fun wt hBt hgt=>?_
  replace zD:=zD.set (kc':=vV { q with kty:=n } a) hBt hgt;clear hBt hgt;go_wp2_with fail
  go_roundw
  case rel=>exact⟨j+2,{ q with kty:=n },a,_,by have:=sU.out;omega,by have:=nN.out;omega,by go_num,zD,⟨Xe.out,wJ.out.crv,wJ.out.alg,wJ.out.kid,wJ.out.x,wJ.out.d,wJ.out.k⟩,by rw[← nM.out,ol.out,mH.out]⟩
  case measure=>have:=sU.out;simp[intOf];omega
 have bha:(k==1)=false:=by rw[beq_eq_false_iff_ne];exact ha
 have pha:(k=1)=False:=eq_false ha
 by_cases hb:k=2
 ·subst hb;have mH:Hid (vh q y z={ q with kid:=z.bytes }):=by rw[Hid,vh,HK.out];rfl
  clear HK;go_wp2_with (at_builtin;refine yf ?_)
  refine zR rfl _ _ rfl _ (.slice none 0 0) [] rfl (OwnB.nil _ _) _ _ _ z.bytes rfl rfl (Src.of_row (eZ.out.2.mono zD.kn.grows.le).bytes.row zD.kn.grows.holds) (by have:=(xu XQ.out).1;simp;omega) (Nat.le_refl _) fun v7 w7 vo hg7 hat7=>?_
  rw[List.nil_append]at vo;obtain⟨A7,c7,rfl,sS⟩:=vo.form;clear sS;obtain⟨H7,wu,vJ,sS⟩:=Fresh.snapB zD.kn.grows.holds ⟨vo,zC hg7⟩;clear sS vo hg7 hat7;replace zD:=zD.grow wu;replace wJ:=Hh (wJ.out.mono wu.le);have en:=Hh vJ;clear wu vJ z0 z1c zb z3c;go_wp2_with (with_reducible refine zx ?_)
  refine zu rfl _ _ _ rfl rfl Kb 3 (.slice A7 z.bytes.length c7) rfl rfl _ _ zD.kn.key (by kernel_rfl) (by simp) rfl fun wt hBt hgt=>?_
  replace zD:=zD.set (kc':=vV { q with kid:=z.bytes } { a with ia:=A7,ic:=c7 }) hBt hgt;clear hBt hgt;go_wp2_with fail
  go_roundw
  case rel=>exact⟨j+2,{ q with kid:=z.bytes },{ a with ia:=A7,ic:=c7 },_,by have:=sU.out;omega,by have:=nN.out;omega,by go_num,zD,⟨wJ.out.kty,wJ.out.crv,wJ.out.alg,en.out,wJ.out.x,wJ.out.d,wJ.out.k⟩,by rw[← nM.out,ol.out,mH.out]⟩
  case measure=>have:=sU.out;simp[intOf];omega
 have bhb:(k==2)=false:=by rw[beq_eq_false_iff_ne];exact hb
 have phb:(k=2)=False:=eq_false hb
 by_cases hc:k=3
 ·subst hc;have mH:Hid (vh q y z={ q with alg:=nmR z }):=by rw[Hid,vh,HK.out];rfl
  clear HK;go_wp2_with fail
  refine(sM eZ.out.2.arg _).mono ?_
  rintro e w6 ⟨rfl,tf⟩
  replace zD:=zD.below tf;clear tf z0 z1c zb z3c;obtain⟨n,hn⟩:∃ n,nmR z=n:=⟨_,rfl⟩
  have Xe:=Hh (ly (z:=z));rw[hn]at mH Xe⊢;clear hn;go_wp2_with (with_reducible refine zx ?_)
  refine zu rfl _ _ _ rfl rfl Kb 2 (.int .i64 n) rfl rfl _ _ zD.kn.key (by kernel_rfl) (by simp) rfl fun wt hBt hgt=>?_
  replace zD:=zD.set (kc':=vV { q with alg:=n } a) hBt hgt;clear hBt hgt;go_wp2_with fail
  go_roundw
  case rel=>exact⟨j+2,{ q with alg:=n },a,_,by have:=sU.out;omega,by have:=nN.out;omega,by go_num,zD,⟨wJ.out.kty,wJ.out.crv,Xe.out,wJ.out.kid,wJ.out.x,wJ.out.d,wJ.out.k⟩,by rw[← nM.out,ol.out,mH.out]⟩
  case measure=>have:=sU.out;simp[intOf];omega
 have bhc:(k==3)=false:=by rw[beq_eq_false_iff_ne];exact hc
 have phc:(k=3)=False:=eq_false hc
 by_cases hd:k = -1
 ·subst hd;have mH:Hid (vh q y z={ q with crv:=nmR z,k:=z.bytes }):=by rw[Hid,vh,HK.out];rfl
  clear HK;obtain⟨n,hn⟩:∃ n,nmR z=n:=⟨_,rfl⟩
  have bf:=Hh hn;have Xe:=Hh (ly (z:=z));rw[hn]at mH Xe;clear hn;go_upto_region 18 with fail
  replace zD:=zD.drew;replace hP:=hP.drew
  refine zO 6 (fun wx=>wx.cell? ⟨P,0,none⟩=some (.int .i64 z.kind)∧wx.cell? ⟨P,1,none⟩=some (.int .u64 z.n)∧wx.cell? ⟨P,2,none⟩=some (.slice z1 z.bytes.length z2)∧wx.cell? ⟨P,3,none⟩=some (.slice z3 z.items.length z4)) (by kernel_rfl) (⟨z0,z1c,zb,z3c⟩) (fun zy=>?_)
  refine Zk 0 rfl zy ?_
  refine Zk 2 rfl zy ?_
  refine Zk 3 rfl zy ?_
  refine Zo 1 rfl fun K hK=>?_
  go_simp
  refine(sM eZ.out.2.arg _).mono ?_
  rintro e w6 ⟨rfl,tf⟩
  rw[bf.out];replace zD:=zD.below tf;replace hP:=hP.below tf;clear tf
  refine Ko hK ?_ fun zy=>?_
  ·exact⟨hP.cell 0 rfl,hP.cell 1 rfl,hP.cell 2 rfl,hP.cell 3 rfl⟩
  clear hK K
  refine Zk 5 rfl zy ?_
  refine Zo 4 rfl fun K hK=>?_
  rw[if_pos (by rfl)]
  refine yV _ _ rfl _ (.slice none 0 0) [] rfl (OwnB.nil _ _) _ _ _ z.bytes rfl rfl (Src.of_row (eZ.out.2.mono zD.kn.grows.le).bytes.row zD.kn.grows.holds) (by have:=(xu XQ.out).1;simp;omega) (Nat.le_refl _) fun v7 w7 vo hg7 hat7=>?_
  rw[List.nil_append]at vo;obtain⟨A7,c7,rfl,sS⟩:=vo.form;clear sS;obtain⟨H7,wu,vJ,sS⟩:=Fresh.snapB zD.kn.grows.holds ⟨vo,zC hg7⟩;clear sS vo hg7 hat7;replace zD:=zD.grow wu;replace hP:=hP.below wu.below;replace wJ:=Hh (wJ.out.mono wu.le);have en:=Hh vJ;clear wu vJ
  refine Ko hK ?_ fun zy=>?_
  ·exact⟨hP.cell 0 rfl,hP.cell 1 rfl,hP.cell 2 rfl,hP.cell 3 rfl⟩
  clear hK K
  refine Zo 6 rfl fun K hK=>?_
  rw[if_pos (by rfl)]
  refine xF _ _ _ rfl Kb 1 (.int .i64 n) rfl rfl _ _ zD.kn.key (by kernel_rfl) (by simp) rfl fun wt hBt hgt=>?_
  replace zD:=zD.set (kc':=vV { q with crv:=n } a) hBt hgt;clear hBt hgt
  refine Kz hK ?_
  clear hK K
  refine ZkT 7 rfl (fun h=>absurd h (by decide)) ?_
  refine Zo 8 rfl fun K hK=>?_
  rw[if_pos (by rfl)]
  refine xF _ _ _ rfl Kb 6 (.slice A7 z.bytes.length c7) rfl rfl _ _ zD.kn.key (by kernel_rfl) (by simp) rfl fun wt hBt hgt=>?_
  replace zD:=zD.set (kc':=vV { q with crv:=n,k:=z.bytes } { a with ka:=A7,kc:=c7 }) hBt hgt;clear hBt hgt
  refine Kz hK ?_
  clear hK K
  refine WaysZ.done (by kernel_rfl) ?_
  clear zy z0 z1c zb z3c hP;go_wp2_with fail
  go_roundw
  case rel=>exact⟨j+2,{ q with crv:=n,k:=z.bytes },{ a with ka:=A7,kc:=c7 },_,by have:=sU.out;omega,by have:=nN.out;omega,by go_num,zD,⟨wJ.out.kty,Xe.out,wJ.out.alg,wJ.out.kid,wJ.out.x,wJ.out.d,en.out⟩,by rw[← nM.out,ol.out,mH.out]⟩
  case measure=>have:=sU.out;simp[intOf];omega
 have bhd:(k == -1)=false:=by rw[beq_eq_false_iff_ne];exact hd
 have phd:(k = -1)=False:=eq_false hd
 by_cases he:k = -2
 ·subst he;have mH:Hid (vh q y z={ q with x:=z.bytes }):=by rw[Hid,vh,HK.out];rfl
  clear HK;go_wp2_with (at_builtin;refine yf ?_)
  refine zR rfl _ _ rfl _ (.slice none 0 0) [] rfl (OwnB.nil _ _) _ _ _ z.bytes rfl rfl (Src.of_row (eZ.out.2.mono zD.kn.grows.le).bytes.row zD.kn.grows.holds) (by have:=(xu XQ.out).1;simp;omega) (Nat.le_refl _) fun v7 w7 vo hg7 hat7=>?_
  rw[List.nil_append]at vo;obtain⟨A7,c7,rfl,sS⟩:=vo.form;clear sS;obtain⟨H7,wu,vJ,sS⟩:=Fresh.snapB zD.kn.grows.holds ⟨vo,zC hg7⟩;clear sS vo hg7 hat7;replace zD:=zD.grow wu;replace wJ:=Hh (wJ.out.mono wu.le);have en:=Hh vJ;clear wu vJ z0 z1c zb z3c;go_wp2_with (with_reducible refine zx ?_)
  refine zu rfl _ _ _ rfl rfl Kb 4 (.slice A7 z.bytes.length c7) rfl rfl _ _ zD.kn.key (by kernel_rfl) (by simp) rfl fun wt hBt hgt=>?_
  replace zD:=zD.set (kc':=vV { q with x:=z.bytes } { a with xa:=A7,xc:=c7 }) hBt hgt;clear hBt hgt;go_wp2_with fail
  go_roundw
  case rel=>exact⟨j+2,{ q with x:=z.bytes },{ a with xa:=A7,xc:=c7 },_,by have:=sU.out;omega,by have:=nN.out;omega,by go_num,zD,⟨wJ.out.kty,wJ.out.crv,wJ.out.alg,wJ.out.kid,en.out,wJ.out.d,wJ.out.k⟩,by rw[← nM.out,ol.out,mH.out]⟩
  case measure=>have:=sU.out;simp[intOf];omega
 have bhe:(k == -2)=false:=by rw[beq_eq_false_iff_ne];exact he
 have phe:(k = -2)=False:=eq_false he
 by_cases hf:k = -4
 ·subst hf;have mH:Hid (vh q y z={ q with d:=z.bytes }):=by rw[Hid,vh,HK.out];rfl
  clear HK;go_wp2_with (at_builtin;refine yf ?_)
  refine zR rfl _ _ rfl _ (.slice none 0 0) [] rfl (OwnB.nil _ _) _ _ _ z.bytes rfl rfl (Src.of_row (eZ.out.2.mono zD.kn.grows.le).bytes.row zD.kn.grows.holds) (by have:=(xu XQ.out).1;simp;omega) (Nat.le_refl _) fun v7 w7 vo hg7 hat7=>?_
  rw[List.nil_append]at vo;obtain⟨A7,c7,rfl,sS⟩:=vo.form;clear sS;obtain⟨H7,wu,vJ,sS⟩:=Fresh.snapB zD.kn.grows.holds ⟨vo,zC hg7⟩;clear sS vo hg7 hat7;replace zD:=zD.grow wu;replace wJ:=Hh (wJ.out.mono wu.le);have en:=Hh vJ;clear wu vJ z0 z1c zb z3c;go_wp2_with (with_reducible refine zx ?_)
  refine zu rfl _ _ _ rfl rfl Kb 5 (.slice A7 z.bytes.length c7) rfl rfl _ _ zD.kn.key (by kernel_rfl) (by simp) rfl fun wt hBt hgt=>?_
  replace zD:=zD.set (kc':=vV { q with d:=z.bytes } { a with da:=A7,dc:=c7 }) hBt hgt;clear hBt hgt;go_wp2_with fail
  go_roundw
  case rel=>exact⟨j+2,{ q with d:=z.bytes },{ a with da:=A7,dc:=c7 },_,by have:=sU.out;omega,by have:=nN.out;omega,by go_num,zD,⟨wJ.out.kty,wJ.out.crv,wJ.out.alg,wJ.out.kid,wJ.out.x,en.out,wJ.out.k⟩,by rw[← nM.out,ol.out,mH.out]⟩
  case measure=>have:=sU.out;simp[intOf];omega
 have bhf:(k == -4)=false:=by rw[beq_eq_false_iff_ne];exact hf
 have phf:(k = -4)=False:=eq_false hf;have mH:Hid (vh q y z=q):=by rw[Hid,vh,HK.out,if_neg ha,if_neg hb,if_neg hc,if_neg hd,if_neg he,if_neg hf]
 clear HK ha hb hc hd he hf hP z0 z1c zb z3c;go_wp2_with fail
 go_roundw
 case rel=>exact⟨j+2,q,a,_,by have:=sU.out;omega,by have:=nN.out;omega,by go_num,zD,wJ.out,by rw[← nM.out,ol.out,mH.out]⟩
 case measure=>have:=sU.out;simp[intOf];omega
structure IS (W0:World) (H:Snap) (cc:Array Value) (v:Value) (L:List Itm) (w:World) (Hr:Snap):Prop where
 grows:Grows W0 H w Hr
 hB:Hr W0.heap.size=none
 hT:Hr (W0.heap.size+1)=none
 box:Blk w W0.heap.size 26 cc
 res:Blk w (W0.heap.size+1) 57 xZ
 own:OwnI w (W0.heap.size+2) v Hr L
 apart:∀ g,v.ownBlock=some g→Hr g=none
section
variable {W0 w w':World} {H Hr Hs:Snap} {cc:Array Value} {v v':Value} {L news:List Itm}
theorem IS.grow (h:IS W0 H cc v L w Hr) (k:Grows w Hr w' Hs):IS W0 H cc v L w' Hs :=
 ⟨h.grows.trans k,k.none h.hB h.box.lt,k.none h.hT h.res.lt,h.box.below k.below,h.res.below k.below,(h.own.below k.below).mono k.le,fun g hg=>k.none (h.apart g hg) (h.own.lt g hg).2⟩
theorem IS.below (h:IS W0 H cc v L w Hr) (k:Below w.heap.size w w'):IS W0 H cc v L w' Hr:=h.grow (Grows.of_below h.grows.holds k)
theorem IS.alloc (h:IS W0 H cc v L w Hr) (o:Obj):IS W0 H cc v L (w.alloc o) Hr:=h.below (zi w o)
theorem IS.drew (h:IS W0 H cc v L w Hr):IS W0 H cc v L w.drew Hr:=h.below (Below.refl _ _).drew
theorem IS.base (h:IS W0 H cc v L w Hr):W0.heap.size+2≤w.heap.size:=by have:=h.res.lt;omega
theorem IS.litZ (h:IS W0 H cc v L w Hr) (cs:Array Value) (e:TypeId):Src (w.alloc (.cells cs e)) (some ⟨w.heap.size,0,none⟩) cs.toList:=Src.lit w cs e
theorem IS.app (h:IS W0 H cc v L w Hr) (hO:OwnI w' (W0.heap.size+2) v' Hr (L++news)) (hg:w.grownBy w' v.ownBlock) (ha:At0 w v.ownBlock v'.ownBlock):IS W0 H cc v' (L++news) w' Hr :=
 ⟨h.grows.grownRow h.apart (fun g hg=>by have:=(h.own.lt g hg).1;omega) hg,h.hB,h.hT,h.box.grown hg (fun e=>by have:=(h.own.lt _ e).1;omega),h.res.grown hg (fun e=>by have:=(h.own.lt _ e).1;omega),hO,fun g hv=>by
  rcases ha with e | ⟨g',e,hs⟩
  ·exact h.apart g (by rw[← e,hv])
  rw[hv]at e;injection e with e
  subst e
  exact h.grows.hidden hs⟩
theorem IS.nil (hG:Grows W0 H w Hr) (hK:Hr W0.heap.size=none) (hT:Hr (W0.heap.size+1)=none) (hk:Blk w W0.heap.size 26 cc) (hr:Blk w (W0.heap.size+1) 57 xZ):IS W0 H cc (.slice none 0 0) [] w Hr :=
 ⟨hG,hK,hT,hk,hr,OwnI.nil _ _ _,fun g hg=>by simp[Value.ownBlock]at hg⟩
theorem IS.freeze {A:Option Addr}{m c:Nat}(h:IS W0 H cc (.slice A m c) L w Hr):∃ H',Grows W0 H w H'∧m=L.length∧IsRowI H' A c L∧H' (W0.heap.size+1)=none:=by
 obtain⟨H',hl,hh,hf,rfl,rq,rs,vD⟩:=h.own.snap h.grows.holds (fun g hg=>h.apart g (by cases A <;> simp_all [Value.ownBlock]))
 refine⟨H',⟨h.grows.below,h.grows.le.trans hl,hh,fun b o hb=>?_⟩,rfl,⟨rq,rs,vD⟩, ?_⟩
 ·rcases hf b o hb with h1 | h1
  ·exact h.grows.fresh b o h1
  exact .inr (by have:=(h.own.lt b (by cases A <;> simp_all [Value.ownBlock])).1;omega)
 cases hx:H' (W0.heap.size+1) with
 | none=>rfl
 | some o =>
 rcases hf _ o hx with h1 | h1
 ·rw[h.hT]at h1;cases h1
 have:=(h.own.lt (W0.heap.size+1) (by cases A <;> simp_all [Value.ownBlock])).1
 omega
end
def ISt (W0:World) (H:Snap) (cc:Array Value) (v:Value) (L:List Itm) (w:World):Prop:=∃ Hr A m c,v=.slice A m c∧m=L.length∧IS W0 H cc (.slice A m c) L w Hr
theorem ISt.box {W0 w:World}{H:Snap}{cc:Array Value}{v:Value}{L:List Itm}(h:ISt W0 H cc v L w):Blk w W0.heap.size 26 cc:=by
 obtain⟨Hr,A,m,c,_,_,hP⟩:=h
 exact hP.box
theorem Zu {w w':World}{H:Snap}{c:Cl}{e:Ending}(hv:zB c=true) (h:im w H (yE c) e w'):∃ xa xb xc xd H6,e=.returned (.tuple #[xj (.mk 5 0 [] (yE c)) xa xb xc xd,.int .i64 0])∧Grows w H w' H6∧IsItem H6 xa xb xc xd (.mk 5 0 [] (yE c)):=by
 obtain⟨v,h⟩:=h
 rcases h with ⟨l,rfl,⟨xa,xb,xc,xd,H6,rfl,zP,XS⟩,_,_,hl⟩ | ⟨_,_,_,_,l9⟩
 ·obtain rfl:=hl (jp hv).2.1
  exact⟨xa,xb,xc,xd,H6,rfl,zP,XS⟩
 exact absurd (jp hv) l9
def dR (w:World) (H:Snap) (c:Cl) (e:Ending) (w':World):Prop:=∃ v,e=.returned v∧Gives w H (xI c) v w'
theorem jL {H:Snap}(hTab:Tabs H) {c:Cl}{a:KAd}(hc:ClA H c a) (vH:zB c=true) (w:World) (hH:Holds w H) :
  Calls Tryz.prog 25 #[.agg (clQ c a)] w (dR w H c):=by
 have hP:=IS.nil (((Grows.refl hH).alloc (.cells (clQ c a) 26)).alloc (.cells xZ 57)) (hH.none_of_ge (Nat.le_refl _)) (hH.none_of_ge (by omega)) ((Blk.new w 26 (clQ c a)).alloc (.cells xZ 57)) (by have h:=Blk.new (w.alloc (.cells (clQ c a) 26)) 57 xZ;rw[zX]at h;exact h);have HC:=Hh hc;have HT:=Hh hTab;have HV:=Hh vH;have XP:=Hh ((wW c).1 vH);have c0:((w.alloc (.cells (clQ c a) 26)).alloc (.cells xZ 57)).cell? ⟨w.heap.size,0,none⟩=some (.string c.issuer):=hP.box.cell 0 rfl;clear hc hH hTab vH;go_enter Tryz.func25,Tryz.ntmps25
 obtain⟨W1,bm⟩:∃ W1,(w.alloc (.cells (clQ c a) 26)).alloc (.cells xZ 57)=W1:=⟨_,rfl⟩
 go_upto_region 2 with fail
 rw[bm]at hP c0;clear bm;go_upto_if 10 with fail
 go_cut [3] (fun s3 wx=>ISt w H (clQ c a) s3 (xN c.issuer) wx)
 case first =>
  by_cases hs:c.issuer=⟨#[]⟩
  case pos =>
   have s2:c.issuer.toList.isEmpty=true:=(tl _).2 hs;have E:Hid (xN c.issuer=[]):=if_pos hs;have hS:ISt w H (clQ c a) (.slice none 0 0) [] W1:=⟨_,_,_,_,rfl,rfl,hP⟩
   have HS:=Hh hS;clear hS hs hP
   simp only[s2,Bool.not_true]
   go_wp2_with fail
   go_meet
   rw[E.out]
   exact HS.out
  have s2:c.issuer.toList.isEmpty=false:=by cases h:c.issuer.toList.isEmpty with | false=>rfl | true=>exact absurd ((tl _).1 h) hs
  simp only[s2,Bool.not_false]
  obtain⟨LL,tc⟩:∃ LL:List Itm,LL=[]:=⟨_,rfl⟩
  rw[← tc]at hP;have mL:=Hh tc;have HL:Hid (0=LL.length∧LL.length≤1000):=by rw[tc];exact⟨rfl,by simp⟩
  have E:Hid (xN c.issuer=LL++[zt 1,xf c.issuer]):=by rw[tc];exact if_neg hs
  clear tc hs;clear c0;go_upto_region 3 with fail
  have c0:World.cell? _ ⟨w.heap.size,0,none⟩=some (.string c.issuer):=hP.box.cell 0 rfl;replace hP:=hP.drew
  refine zO 6 (fun wx=>wx.cell? ⟨w.heap.size,0,none⟩=some (.string c.issuer)) (by kernel_rfl) (c0) (fun zy=>?_)
  refine Zk 0 rfl zy ?_
  refine Zk 2 rfl zy ?_
  refine Zk 3 rfl zy ?_
  refine Zo 1 rfl fun K hK=>?_
  go_simp
  refine(ve (1) (by omega) (by omega) _ hP.grows.holds).mono ?_
  rintro e w3 ⟨v1,rfl,xa1,xb1,xc1,xd1,H1,rfl,xE,vy⟩
  have hP:=hP.grow xE
  refine Ko hK ?_ fun zy=>?_
  ·exact hP.box.cell 0 rfl
  clear hK K
  refine Zo 4 rfl fun K hK=>?_
  go_simp
  refine(eH c.issuer (by have:=qT XP.out.1;omega) _ hP.grows.holds).mono ?_
  rintro e w4 ⟨v2,rfl,xa2,xb2,xc2,xd2,H2,rfl,yq,sY⟩
  have hP:=hP.grow yq;have vy:=vy.mono yq.le
  refine Ko hK ?_ fun zy=>?_
  ·exact hP.box.cell 0 rfl
  clear hK K
  refine Zo 5 rfl fun K hK=>?_
  go_simp
  have hZ:=hP.litZ (zY (zt (1)) xa1 xb1 xc1 xd1++zY (xf c.issuer) xa2 xb2 xc2 xd2).toArray 57;have hP:=hP.alloc (.cells (zY (zt (1)) xa1 xb1 xc1 xd1++zY (xf c.issuer) xa2 xb2 xc2 xd2).toArray 57)
  refine Ko hK ?_ fun zy=>?_
  ·exact hP.box.cell 0 rfl
  clear hK K
  refine Zo 6 rfl fun K hK=>?_
  rw[if_pos (by rfl)]
  refine zA _ _ rfl _ _ _ _ rfl hP.own _ _ _ _ [_,_] rfl rfl ((ItemsC.one vy).app (ItemsC.one sY)) hZ (by have:=HL.out;simp;omega) hP.base fun v7 w7 hown7 hg7 hat7=>?_
  have hP:=hP.app hown7 hg7 hat7;obtain⟨A7,c7,rfl,_⟩:=hown7.form;obtain⟨m7,sa⟩:∃ m7,(LL++[zt (1),(.mk 3 0 c.issuer.data.toList [])]).length=m7:=⟨_,rfl⟩
  rw[sa]at hP⊢;have kT:=Hh sa;clear hown7 hg7 hat7 hZ sa
  refine Kz hK ?_
  clear hK K
  refine ZkT 7 rfl (fun h=>absurd h (by decide)) ?_
  refine WaysZ.done (by kernel_rfl) ?_
  clear zy;go_wp2_with fail
  go_meet
  exact(by rw[E.out];exact⟨_,_,_,_,rfl,kT.out.symm,hP⟩)
 case rest =>
 clear hP c0;have hS:=hcut;clear hcut;have tw:Hid ((xN c.issuer).length≤1000):=by rw[Hid,xN];split <;> simp
 go_upto_region 4 with fail
 go_cut [3] (fun s3 wx=>ISt w H (clQ c a) s3 (xN c.issuer++[zt 2,xf c.subject]) wx)
 case first =>
  obtain⟨LL,tc⟩:∃ LL,LL=xN c.issuer:=⟨_,rfl⟩
  rw[← tc]at hS tw;have mL:=Hh tc;clear tc;obtain⟨Hr,VA,m,vc,rfl,hm,hP⟩:=hS;have HL:=Hh (And.intro hm tw.out);clear hm;have c1:World.cell? _ ⟨w.heap.size,1,none⟩=some (.string c.subject):=hP.box.cell 1 rfl;replace hP:=hP.drew
  refine zO 6 (fun wx=>wx.cell? ⟨w.heap.size,1,none⟩=some (.string c.subject)) (by kernel_rfl) (c1) (fun zy=>?_)
  refine Zk 0 rfl zy ?_
  refine Zk 2 rfl zy ?_
  refine Zk 3 rfl zy ?_
  refine Zo 1 rfl fun K hK=>?_
  go_simp
  refine(ve (2) (by omega) (by omega) _ hP.grows.holds).mono ?_
  rintro e w3 ⟨v1,rfl,xa1,xb1,xc1,xd1,H1,rfl,xE,vy⟩
  have hP:=hP.grow xE
  refine Ko hK ?_ fun zy=>?_
  ·exact hP.box.cell 1 rfl
  clear hK K
  refine Zo 4 rfl fun K hK=>?_
  go_simp
  refine(eH c.subject (by have:=qT XP.out.2.1;omega) _ hP.grows.holds).mono ?_
  rintro e w4 ⟨v2,rfl,xa2,xb2,xc2,xd2,H2,rfl,yq,sY⟩
  have hP:=hP.grow yq;have vy:=vy.mono yq.le
  refine Ko hK ?_ fun zy=>?_
  ·exact hP.box.cell 1 rfl
  clear hK K
  refine Zo 5 rfl fun K hK=>?_
  go_simp
  have hZ:=hP.litZ (zY (zt (2)) xa1 xb1 xc1 xd1++zY (xf c.subject) xa2 xb2 xc2 xd2).toArray 57;have hP:=hP.alloc (.cells (zY (zt (2)) xa1 xb1 xc1 xd1++zY (xf c.subject) xa2 xb2 xc2 xd2).toArray 57)
  refine Ko hK ?_ fun zy=>?_
  ·exact hP.box.cell 1 rfl
  clear hK K
  refine Zo 6 rfl fun K hK=>?_
  rw[if_pos (by rfl)]
  refine zA _ _ rfl _ _ _ _ rfl hP.own _ _ _ _ [_,_] rfl rfl ((ItemsC.one vy).app (ItemsC.one sY)) hZ (by have:=HL.out;simp;omega) hP.base fun v7 w7 hown7 hg7 hat7=>?_
  have hP:=hP.app hown7 hg7 hat7;obtain⟨A7,c7,rfl,_⟩:=hown7.form;obtain⟨m7,sa⟩:∃ m7,(LL++[zt (2),(.mk 3 0 c.subject.data.toList [])]).length=m7:=⟨_,rfl⟩
  rw[sa]at hP⊢;have kT:=Hh sa;clear hown7 hg7 hat7 hZ sa
  refine Kz hK ?_
  clear hK K
  refine ZkT 7 rfl (fun h=>absurd h (by decide)) ?_
  refine WaysZ.done (by kernel_rfl) ?_
  clear zy;go_wp2_with fail
  go_meet
  exact(by rw[← mL.out];exact⟨_,_,_,_,rfl,kT.out.symm,hP⟩)
 case rest =>
 clear hS tw;have hS:=hcut;clear hcut;have tw:Hid ((xN c.issuer++[zt 2,xf c.subject]).length≤1000):=by rw[Hid,xN];split <;> simp
 have c3:World.cell? _ ⟨w.heap.size,3,none⟩=some (.int .i64 c.till):=hS.box.cell 3 rfl;go_upto_if 27 with fail
 go_cut [3] (fun s3 wx=>ISt w H (clQ c a) s3 (xN c.issuer++[zt 2,xf c.subject]++yp 4 c.till) wx)
 case first =>
  by_cases h0:0<c.till
  case neg =>
   have E:Hid (xN c.issuer++[zt 2,xf c.subject]++yp 4 c.till=xN c.issuer++[zt 2,xf c.subject]):=by rw[Hid,show yp 4 c.till=[] from if_neg h0,List.append_nil]
   have qn:decide (0<c.till)=false:=decide_eq_false h0;have HS:=Hh hS;clear hS;go_wp2_with fail
   go_meet
   rw[E.out]
   exact HS.out
  have qn:decide (0<c.till)=true:=decide_eq_true h0;have E:Hid (xN c.issuer++[zt 2,xf c.subject]++yp 4 c.till=xN c.issuer++[zt 2,xf c.subject]++[zt 4,zt c.till]):=by rw[Hid,show yp 4 c.till=[zt 4,zt c.till] from if_pos h0]
  obtain⟨LL,tc⟩:∃ LL,LL=xN c.issuer++[zt 2,xf c.subject]:=⟨_,rfl⟩
  rw[← tc]at hS tw;have mL:=Hh tc;clear tc;obtain⟨Hr,VA,m,vc,rfl,hm,hP⟩:=hS;have HL:=Hh (And.intro hm tw.out);clear hm;clear c3;go_upto_region 6 with fail
  clear h0 qn;have c3:World.cell? _ ⟨w.heap.size,3,none⟩=some (.int .i64 c.till):=hP.box.cell 3 rfl;replace hP:=hP.drew
  refine zO 6 (fun wx=>wx.cell? ⟨w.heap.size,3,none⟩=some (.int .i64 c.till)) (by kernel_rfl) (c3) (fun zy=>?_)
  refine Zk 0 rfl zy ?_
  refine Zk 2 rfl zy ?_
  refine Zk 3 rfl zy ?_
  refine Zo 1 rfl fun K hK=>?_
  go_simp
  refine(ve (4) (by omega) (by omega) _ hP.grows.holds).mono ?_
  rintro e w3 ⟨v1,rfl,xa1,xb1,xc1,xd1,H1,rfl,xE,vy⟩
  have hP:=hP.grow xE
  refine Ko hK ?_ fun zy=>?_
  ·exact hP.box.cell 3 rfl
  clear hK K
  refine Zo 4 rfl fun K hK=>?_
  go_simp
  refine(ve c.till HC.out.till.1 HC.out.till.2 _ hP.grows.holds).mono ?_
  rintro e w4 ⟨v2,rfl,xa2,xb2,xc2,xd2,H2,rfl,yq,sY⟩
  have hP:=hP.grow yq;have vy:=vy.mono yq.le
  refine Ko hK ?_ fun zy=>?_
  ·exact hP.box.cell 3 rfl
  clear hK K
  refine Zo 5 rfl fun K hK=>?_
  go_simp
  have hZ:=hP.litZ (zY (zt (4)) xa1 xb1 xc1 xd1++zY (zt c.till) xa2 xb2 xc2 xd2).toArray 57;have hP:=hP.alloc (.cells (zY (zt (4)) xa1 xb1 xc1 xd1++zY (zt c.till) xa2 xb2 xc2 xd2).toArray 57)
  refine Ko hK ?_ fun zy=>?_
  ·exact hP.box.cell 3 rfl
  clear hK K
  refine Zo 6 rfl fun K hK=>?_
  rw[if_pos (by rfl)]
  refine zA _ _ rfl _ _ _ _ rfl hP.own _ _ _ _ [_,_] rfl rfl ((ItemsC.one vy).app (ItemsC.one sY)) hZ (by have:=HL.out;simp;omega) hP.base fun v7 w7 hown7 hg7 hat7=>?_
  have hP:=hP.app hown7 hg7 hat7;obtain⟨A7,c7,rfl,_⟩:=hown7.form;obtain⟨m7,sa⟩:∃ m7,(LL++[zt (4),(zt c.till)]).length=m7:=⟨_,rfl⟩
  rw[sa]at hP⊢;have kT:=Hh sa;clear hown7 hg7 hat7 hZ sa
  refine Kz hK ?_
  clear hK K
  refine ZkT 7 rfl (fun h=>absurd h (by decide)) ?_
  refine WaysZ.done (by kernel_rfl) ?_
  clear zy;go_wp2_with fail
  go_meet
  exact(by rw[E.out,← mL.out];exact⟨_,_,_,_,rfl,kT.out.symm,hP⟩)
 case rest =>
 clear hS tw c3;have hS:=hcut;clear hcut;have tw:Hid ((xN c.issuer++[zt 2,xf c.subject]++yp 4 c.till).length≤1000):=by rw[Hid,xN,yp];split <;> split <;> simp
 have c2:World.cell? _ ⟨w.heap.size,2,none⟩=some (.int .i64 c.since):=hS.box.cell 2 rfl;go_upto_if 37 with fail
 go_cut [3] (fun s3 wx=>ISt w H (clQ c a) s3 (xN c.issuer++[zt 2,xf c.subject]++yp 4 c.till++yp 5 c.since) wx)
 case first =>
  by_cases h0:0<c.since
  case neg =>
   have E:Hid (xN c.issuer++[zt 2,xf c.subject]++yp 4 c.till++yp 5 c.since=xN c.issuer++[zt 2,xf c.subject]++yp 4 c.till):=by rw[Hid,show yp 5 c.since=[] from if_neg h0,List.append_nil]
   have qn:decide (0<c.since)=false:=decide_eq_false h0;have HS:=Hh hS;clear hS;go_wp2_with fail
   go_meet
   rw[E.out]
   exact HS.out
  have qn:decide (0<c.since)=true:=decide_eq_true h0;have E:Hid (xN c.issuer++[zt 2,xf c.subject]++yp 4 c.till++yp 5 c.since=xN c.issuer++[zt 2,xf c.subject]++yp 4 c.till++[zt 5,zt c.since]):=by rw[Hid,show yp 5 c.since=[zt 5,zt c.since] from if_pos h0]
  obtain⟨LL,tc⟩:∃ LL,LL=xN c.issuer++[zt 2,xf c.subject]++yp 4 c.till:=⟨_,rfl⟩
  rw[← tc]at hS tw;have mL:=Hh tc;clear tc;obtain⟨Hr,VA,m,vc,rfl,hm,hP⟩:=hS;have HL:=Hh (And.intro hm tw.out);clear hm;clear c2;go_upto_region 8 with fail
  clear h0 qn;have c2:World.cell? _ ⟨w.heap.size,2,none⟩=some (.int .i64 c.since):=hP.box.cell 2 rfl;replace hP:=hP.drew
  refine zO 6 (fun wx=>wx.cell? ⟨w.heap.size,2,none⟩=some (.int .i64 c.since)) (by kernel_rfl) (c2) (fun zy=>?_)
  refine Zk 0 rfl zy ?_
  refine Zk 2 rfl zy ?_
  refine Zk 3 rfl zy ?_
  refine Zo 1 rfl fun K hK=>?_
  go_simp
  refine(ve (5) (by omega) (by omega) _ hP.grows.holds).mono ?_
  rintro e w3 ⟨v1,rfl,xa1,xb1,xc1,xd1,H1,rfl,xE,vy⟩
  have hP:=hP.grow xE
  refine Ko hK ?_ fun zy=>?_
  ·exact hP.box.cell 2 rfl
  clear hK K
  refine Zo 4 rfl fun K hK=>?_
  go_simp
  refine(ve c.since HC.out.since.1 HC.out.since.2 _ hP.grows.holds).mono ?_
  rintro e w4 ⟨v2,rfl,xa2,xb2,xc2,xd2,H2,rfl,yq,sY⟩
  have hP:=hP.grow yq;have vy:=vy.mono yq.le
  refine Ko hK ?_ fun zy=>?_
  ·exact hP.box.cell 2 rfl
  clear hK K
  refine Zo 5 rfl fun K hK=>?_
  go_simp
  have hZ:=hP.litZ (zY (zt (5)) xa1 xb1 xc1 xd1++zY (zt c.since) xa2 xb2 xc2 xd2).toArray 57;have hP:=hP.alloc (.cells (zY (zt (5)) xa1 xb1 xc1 xd1++zY (zt c.since) xa2 xb2 xc2 xd2).toArray 57)
  refine Ko hK ?_ fun zy=>?_
  ·exact hP.box.cell 2 rfl
  clear hK K
  refine Zo 6 rfl fun K hK=>?_
  rw[if_pos (by rfl)]
  refine zA _ _ rfl _ _ _ _ rfl hP.own _ _ _ _ [_,_] rfl rfl ((ItemsC.one vy).app (ItemsC.one sY)) hZ (by have:=HL.out;simp;omega) hP.base fun v7 w7 hown7 hg7 hat7=>?_
  have hP:=hP.app hown7 hg7 hat7;obtain⟨A7,c7,rfl,_⟩:=hown7.form;obtain⟨m7,sa⟩:∃ m7,(LL++[zt (5),(zt c.since)]).length=m7:=⟨_,rfl⟩
  rw[sa]at hP⊢;have kT:=Hh sa;clear hown7 hg7 hat7 hZ sa
  refine Kz hK ?_
  clear hK K
  refine ZkT 7 rfl (fun h=>absurd h (by decide)) ?_
  refine WaysZ.done (by kernel_rfl) ?_
  clear zy;go_wp2_with fail
  go_meet
  exact(by rw[E.out,← mL.out];exact⟨_,_,_,_,rfl,kT.out.symm,hP⟩)
 case rest =>
 clear hS tw c2;have hS:=hcut;clear hcut;have tw:Hid ((xN c.issuer++[zt 2,xf c.subject]++yp 4 c.till++yp 5 c.since).length≤1000):=by rw[Hid,xN,yp,yp];split <;> split <;> split <;> simp
 obtain⟨LL,tc⟩:∃ LL,LL=xN c.issuer++[zt 2,xf c.subject]++yp 4 c.till++yp 5 c.since:=⟨_,rfl⟩
 rw[← tc]at hS tw;have mL:=Hh tc;clear tc;obtain⟨Hr,VA,m,vc,rfl,hm,hP⟩:=hS;have HL:=Hh (And.intro hm tw.out);clear hm;have c4:=hP.box.cell 4 rfl;have c5:=hP.box.cell 5 rfl;have c6:=hP.box.cell 6 rfl;have c7:=hP.box.cell 7 rfl;have c8:=hP.box.cell 8 rfl;have c9:=hP.box.cell 9 rfl;have c10:=hP.box.cell 10 rfl;go_upto_region 9 with fail
 go_wp2_with fail
 refine(ma (HT.out.mono hP.grows.le) (HC.out.key.mono hP.grows.le) _ hP.grows.holds).mono ?_
 rintro e w5 ⟨v5,rfl,tR⟩
 have EK:Hid (uE c.key=0∧rR c.key=vj c.key):=⟨by rw[uE,if_pos XP.out.2.2.2.2.2.2.2.2.1],by rw[rR,if_pos XP.out.2.2.2.2.2.2.2.2.1]⟩
 rw[EK.out.2]at tR;rw[EK.out.1];obtain⟨ya,yb,yc,yd,H5,rfl,xM,Ys⟩:=tR;replace hP:=hP.grow xM;clear xM c4 c5 c6 c7 c8 c9 c10;obtain⟨y,hy⟩:∃ y,y=vj c.key:=⟨_,rfl⟩
 rw[← hy]at Ys⊢;have HY:=Hh hy;clear hy;have hQ:=Blk.new w5 57 #[.int .i64 y.kind,.int .u64 y.n,.slice ya y.bytes.length yb,.slice yc y.items.length yd];replace hP:=hP.alloc (zS y ya yb yc yd);obtain⟨Q,Q6⟩:∃ Q,w5.heap.size=Q:=⟨_,rfl⟩
 obtain⟨w6,Xc⟩:∃ w6,w5.alloc (zS y ya yb yc yd)=w6:=⟨_,rfl⟩
 rw[Q6,Xc]at hQ;rw[Xc]at hP;go_upto_region 10 with fail
 clear Q6 Xc;go_cut [3] (fun s3 wx=>ISt w H (clQ c a) s3 (yE c) wx)
 case first =>
  replace hP:=hP.drew;replace hQ:=hQ.below (Below.refl _ _).drew
  refine zO 7 (fun wx=>wx.cell? ⟨Q,0,none⟩=some (.int .i64 y.kind)∧wx.cell? ⟨Q,1,none⟩=some (.int .u64 y.n)∧wx.cell? ⟨Q,2,none⟩=some (.slice ya y.bytes.length yb)∧wx.cell? ⟨Q,3,none⟩=some (.slice yc y.items.length yd)) (by kernel_rfl) (⟨hQ.cell 0 rfl,hQ.cell 1 rfl,hQ.cell 2 rfl,hQ.cell 3 rfl⟩) (fun zy=>?_)
  refine Zk 0 rfl zy ?_
  refine Zk 3 rfl zy ?_
  refine Zo 1 rfl fun K hK=>?_
  go_simp
  refine(ve 8 (by omega) (by omega) _ hP.grows.holds).mono ?_
  rintro e w7 ⟨v1,rfl,xa1,xb1,xc1,xd1,H1,rfl,xE,vy⟩
  have hP:=hP.grow xE;have hQ:=hQ.below xE.below;have Ys:=Ys.mono xE.le;clear xE
  refine Ko hK ?_ fun zy=>?_
  ·exact⟨hQ.cell 0 rfl,hQ.cell 1 rfl,hQ.cell 2 rfl,hQ.cell 3 rfl⟩
  clear hK K
  refine Zo 2 rfl fun K hK=>?_
  go_simp
  refine(ve 1 (by omega) (by omega) _ hP.grows.holds).mono ?_
  rintro e w8 ⟨v2,rfl,xa2,xb2,xc2,xd2,H2,rfl,yq,sY⟩
  have hP:=hP.grow yq;have hQ:=hQ.below yq.below;have Ys:=Ys.mono yq.le;have vy:=vy.mono yq.le;clear yq
  refine Ko hK ?_ fun zy=>?_
  ·exact⟨hQ.cell 0 rfl,hQ.cell 1 rfl,hQ.cell 2 rfl,hQ.cell 3 rfl⟩
  clear hK K
  refine Zo 4 rfl fun K hK=>?_
  go_simp
  obtain⟨H4,wh,N5,ew⟩:=lw (l:=[zt 1,y]) (Grows.refl hP.grows.holds) ((ItemsC.one sY).app (ItemsC.one Ys)) (by simp);have IZ:=ew.item 5 (by omega) 0 (by omega);clear N5 ew;have hP:=hP.grow wh;have vy:=vy.mono wh.le;have hQ:=hQ.below wh.below;clear wh
  refine Ko hK ?_ fun zy=>?_
  ·exact⟨hQ.cell 0 rfl,hQ.cell 1 rfl,hQ.cell 2 rfl,hQ.cell 3 rfl⟩
  clear hK K
  refine Zk 5 rfl zy ?_
  refine Zo 6 rfl fun K hK=>?_
  go_simp
  have hP:=hP.alloc (.cells (zY (zt 8) xa1 xb1 xc1 xd1++zY (.mk 5 0 [] [zt 1,y]) none 0 (some ⟨w8.heap.size,0,none⟩) 2).toArray 57);have hQ:=hQ.alloc (.cells (zY (zt 8) xa1 xb1 xc1 xd1++zY (.mk 5 0 [] [zt 1,y]) none 0 (some ⟨w8.heap.size,0,none⟩) 2).toArray 57)
  refine Ko hK ?_ fun zy=>?_
  ·exact⟨hQ.cell 0 rfl,hQ.cell 1 rfl,hQ.cell 2 rfl,hQ.cell 3 rfl⟩
  clear hK K
  refine Zo 7 rfl fun K hK=>?_
  rw[if_pos (by rfl)]
  refine zA _ _ rfl _ _ _ _ rfl hP.own _ _ _ _ [_,_] rfl rfl ((ItemsC.one vy).app (ItemsC.one IZ)) (Src.new _ _ _ _ (by rw[zX]) _ rfl) (by have:=HL.out;simp;omega) hP.base fun v9 w9 hown9 nU hat9=>?_
  have hP:=hP.app hown9 nU hat9;obtain⟨A9,c9,rfl,_⟩:=hown9.form;obtain⟨m9,Sw⟩:∃ m9,(LL++[zt 8,.mk 5 0 [] [zt 1,y]]).length=m9:=⟨_,rfl⟩
  rw[Sw]at hP⊢;have Hg:=Hh Sw;clear hown9 nU hat9 Sw hQ
  refine Kz hK ?_
  clear hK K
  refine ZkT 8 rfl (fun h=>absurd h (by decide)) ?_
  refine WaysZ.done (by kernel_rfl) ?_
  clear zy;go_wp2_with fail
  go_meet
  have EP:Hid (yE c=LL++[zt 8,.mk 5 0 [] [zt 1,y]]):=by rw[mL.out,HY.out];exact rfl
  exact(by rw[EP.out];exact⟨_,_,_,_,rfl,Hg.out.symm,hP⟩)
 case rest =>
 clear hP hQ Ys;obtain⟨Hv,VA2,m2,vc2,rfl,el,hP⟩:=hcut;obtain⟨H9,rJ,Sw,T1,QK⟩:=hP.freeze;have hT:=hP.res;have HB:=Hh (jM (HT.out.mono rJ.le) T1 (by have:=(rz c).2.2;omega) _ rJ.holds);rw[← el]at HB;clear hP T1 Sw el;go_wp2_with fail
 refine HB.out.mono ?_
 intro e w10 h10
 obtain⟨xa,xb,xc,xd,H6,rfl,zP,XS⟩:=Zu HV.out h10;clear h10 HB;have wu:=rJ.trans zP;have tS:=zP.none QK hT.lt;replace hT:=hT.below zP.below;clear zP rJ QK;replace hT:=hT.alloc (zS (.mk 5 0 [] (yE c)) xa xb xc xd);replace wu:=wu.alloc (zS (.mk 5 0 [] (yE c)) xa xb xc xd);go_upto_region 12 with fail
 go_wp2_with (with_reducible refine zx ?_)
 refine stI hT fun w11 fh hg11=>?_
 have iC:=wu.grownOwn tS (by omega) hg11;clear hT wu hg11;go_wp2_with fail
 refine vK rfl rfl fh rfl rfl zv rfl ?_
 exact⟨_,rfl,xa,xb,xc,xd,H6,rfl,iC,XS⟩
end Go.Proofs.YtgcjjhibdbafmabGreatDoor
