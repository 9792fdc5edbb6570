/- squeezed. Walks: the key of an item, by the  -/
import Derived.Test.YtnlinmoiakgedaaGreatDoorK40
set_option linter.unusedVariables false
set_option linter.unusedSimpArgs false
set_option maxRecDepth 100000
set_option maxHeartbeats 51200000
namespace Go.Proofs.YtnlinmoiakgedaaGreatDoor
open Go.RowKit
theorem el (q:Ky) (l:List Itm) (j:Nat) (h:j+1<l.length):uk q (l.drop j)=uk (vo q (l[j]'(by omega)) l[j+1]) (l.drop (j+2)):=by
 rw[List.drop_eq_getElem_cons (by omega:j<l.length),List.drop_eq_getElem_cons h,uk]
theorem ml {z:Itm} : -9223372036854775808≤nmR z∧nmR z≤9223372036854775807:=by
 obtain⟨k,m,b,l⟩:=z;rw[nmR]
 split <;> omega
structure FR (W0:World) (H:Snap) (R K:Nat) (xc kc:Array Value) (w:World) (Hr:Snap):Prop where
 kn:KN W0 H R K kc w Hr
 box:Blk w W0.heap.size 26 xc
 nb:K≠W0.heap.size
section
variable {W0 w w':World} {H Hr Hs:Snap} {R K:Nat} {xc kc kc':Array Value}
theorem FR.grow (h:FR W0 H R K xc kc w Hr) (k:Grows w Hr w' Hs):FR W0 H R K xc kc w' Hs:=⟨h.kn.grow k,h.box.below k.below,h.nb⟩
theorem FR.below (h:FR W0 H R K xc kc w Hr) (k:Below w.heap.size w w'):FR W0 H R K xc kc w' Hr:=h.grow (Grows.of_below h.kn.grows.holds k)
theorem FR.alloc (h:FR W0 H R K xc kc w Hr) (o:Obj):FR W0 H R K xc kc (w.alloc o) Hr:=h.below (zi w o)
theorem FR.drew (h:FR W0 H R K xc kc w Hr):FR W0 H R K xc kc w.drew Hr:=h.below (Below.refl _ _).drew
theorem FR.set (h:FR W0 H R K xc kc w Hr) (hB:Blk w' K 33 kc') (hg:w.grownBy w' (some K)):FR W0 H R K xc kc' w' Hr :=
 ⟨h.kn.set hB hg,h.box.grown hg (fun e=>by injection e with e;exact h.nb e),h.nb⟩
end
theorem pZ {H:Snap}(hTab:Tabs H) {x:Itm}{ba:Option Addr}{bc:Nat}{ia:Option Addr}{ic:Nat}(hx:IsItem H ba bc ia ic x) (w:World) (hH:Holds w H) :
  Calls Tryz.prog 17 #[xN x ba bc ia ic] w (FromOut w H x):=by
 have hX:=(Blk.new w 26 #[.int .i64 x.kind,.int .u64 x.n,.slice ba x.bytes.length bc,.slice ia x.items.length ic]).alloc (.cells vp 33);have hR:=Blk.new (w.alloc (zW x ba bc ia ic)) 33 vp;rw[zV]at hR;have eG:H (w.heap.size+1)=none:=hH.none_of_ge (by omega);have hG:=((Grows.refl hH).alloc (zW x ba bc ia ic)).alloc (.cells vp 33);have HT:=Hh hTab;have HI:=Hh hx;have a0:=hX.cell 0 rfl;have a1:=hX.cell 1 rfl;have a2:=hX.cell 2 rfl;have a3:=hX.cell 3 rfl;clear hTab hx hH;go_enter Tryz.func17,Tryz.ntmps17
 go_wp2_with fail
 refine(rK HT.out HI.out.arg _ hG.holds).mono ?_
 rintro e w1 ⟨rfl,vg⟩
 replace hX:=hX.below vg;replace hR:=hR.below vg;replace hG:=hG.below_ vg;clear vg a0 a1 a2 a3
 cases hv:yW x with
 | false =>
  have HV:=Hh hv;clear hv hX;go_wp2_with (with_reducible refine zx ?_)
  refine zc rfl _ _ _ rfl rfl _ _ rfl rfl _ _ hR zM rfl (tm _ _ _ _ _ _ _ rfl rfl rfl rfl rfl rfl rfl) fun wz hRz zU=>?_
  have zP:=hG.grownOwn eG (by omega) zU;go_wp2_with fail
  refine zv rfl rfl hRz rfl rfl zM rfl ?_
  exact .inl ⟨HV.out,rfl,zP.below⟩
 | true =>
 have HV:=Hh hv;clear hv;have a0:=hX.cell 0 rfl
 by_cases h5:x.kind=5
 case neg =>
  have b5:(x.kind != 5)=true:=by simp[h5]
  have p5:(x.kind=5)=False:=eq_false h5;have H5:=Hh h5;clear h5 hX;go_wp2_with (with_reducible refine zx ?_)
  refine zc rfl _ _ _ rfl rfl _ _ rfl rfl _ _ hR zM rfl (tm _ _ _ _ _ _ _ rfl rfl rfl rfl rfl rfl rfl) fun wz hRz zU=>?_
  have zP:=hG.grownOwn eG (by omega) zU;clear a0;go_wp2_with fail
  refine zv rfl rfl hRz rfl rfl zM rfl ?_
  exact .inr (.inl ⟨HV.out,bV H5.out,rfl,zP.below⟩)
 have b5:(x.kind != 5)=false:=by simp[h5]
 have p5:(x.kind=5)=True:=eq_true h5;have br:=Hh (mX HV.out h5);clear h5;obtain⟨Kb,hK⟩:∃ Kb,w1.heap.size=Kb:=⟨_,rfl⟩
 have yz:FR w H (w.heap.size+1) w1.heap.size #[.int .i64 x.kind,.int .u64 x.n,.slice ba x.bytes.length bc,.slice ia x.items.length ic] (xU wh ⟨none,0,none,0,none,0,none,0⟩) (w1.alloc (.cells vp 33)) H:=⟨⟨hG.alloc _,hR.alloc _,Blk.new _ _ _,eG,hG.holds.none_of_ge (Nat.le_refl _),by have:=hR.lt;omega,by omega,hG.size⟩,hX.alloc _,by have:=hX.lt;omega⟩
 rw[hK]at yz;clear hX hR hG;go_wp2_with fail
 try rw[hK]
 clear b5 p5 a0;go_loopw [5] (fun v7 wr=>∃ (j:Nat) (q:Ky) (a:KAd) (Hr:Snap),j≤x.items.length∧j%2=0∧v7=.int .i64 (j:Int)∧FR w H (w.heap.size+1) Kb #[.int .i64 x.kind,.int .u64 x.n,.slice ba x.bytes.length bc,.slice ia x.items.length ic] (xU q a) wr Hr∧KeyA Hr q a∧uk q (x.items.drop j)=uk wh x.items) (fun v7 _=>x.items.length-(intOf v7).toNat)
 case atStart=>exact⟨0,wh,⟨none,0,none,0,none,0,none,0⟩,H,Nat.zero_le _,rfl,rfl,yz,⟨by simp[wh],by simp[wh],by simp[wh],IsBytes.nil _,IsBytes.nil _,IsBytes.nil _,IsBytes.nil _⟩,by rw[List.drop_zero]⟩
 case round =>
  clear yz hK;obtain⟨j,q,a,Hr,hj,Zc,rfl,yz,T2,Sy⟩:=hrel;have gQ:=Hh Zc;have wJ:=Hh T2;have lI:=Hh Sy;clear Zc T2 Sy;have a3:=yz.box.cell 3 rfl
  by_cases yi:j<x.items.length
  case neg =>
   have so:j=x.items.length:=by omega
   subst so;clear yi hj;have HF:Hid (uk wh x.items=q):=by rw[Hid,← lI.out,List.drop_length,oI]
   clear lI;have k0:=yz.kn.key.cell 0 rfl;have k1:=yz.kn.key.cell 1 rfl;have k2:=yz.kn.key.cell 2 rfl;have k3:=yz.kn.key.cell 3 rfl;have k4:=yz.kn.key.cell 4 rfl;have k5:=yz.kn.key.cell 5 rfl;have k6:=yz.kn.key.cell 6 rfl;go_wp2_with fail
   refine(qW (HT.out.mono yz.kn.grows.le) wJ.out _ yz.kn.grows.holds).mono ?_
   rintro e w9 ⟨v9,rfl,ya,yb,yc,yd,H9,rfl,px,ZS⟩
   replace yz:=(yz.grow px)
   replace wJ:=Hh (wJ.out.mono px.le);clear k0 k1 k2 k3 k4 k5 k6 a3 px
   cases hvq:xF q with
   | false =>
    have Ul:Hid (¬ ∃ q,sm x q):=fun⟨q2,h2⟩=>by
     have e:=HF.out;rw[kE h2]at e;obtain rfl:=e;rw[h2.1]at hvq
     cases hvq
    have E:Hid (vb q=1∧sM q=zt):=⟨by rw[vb,if_neg (by rw[hvq];simp)],by rw[sM,if_neg (by rw[hvq];simp)]⟩
    rw[E.out.1,E.out.2];clear hvq ZS;replace yz:=yz.alloc (zW zt ya yb yc yd);go_upto_region 25 with fail
    have sf:=yz.kn.res;have uE:=Hh yz.kn;clear yz;go_wp2_with (with_reducible refine zx ?_)
    refine zc rfl _ _ _ rfl rfl _ _ rfl rfl _ _ sf zM rfl (tm _ _ _ _ _ _ _ rfl rfl rfl rfl rfl rfl rfl) fun wz hRz zU=>?_
    have zP:=uE.out.grows.grownOwn uE.out.hR uE.out.wR zU;clear uE sf zU;go_wp2_with fail
    refine zv rfl rfl hRz rfl rfl zM rfl ?_
    exact .inr (.inl ⟨HV.out,Ul.out,rfl,zP.below⟩)
   | true =>
    have E:Hid (vb q=0∧sM q=tu q):=⟨by rw[vb,if_pos hvq],by rw[sM,if_pos hvq]⟩
    have P8:=Hh hvq;rw[E.out.1,E.out.2];rw[E.out.2]at ZS;have Ww:=Hh (wE hvq);obtain⟨y,hy⟩:∃ y,tu q=y:=⟨_,rfl⟩
    have HY:=Hh hy;rw[hy]at ZS⊢;rw[HY.out]at Ww;have iR:=Hh (And.intro (HI.out.mono yz.kn.grows.le) ZS);replace yz:=yz.alloc (zW y ya yb yc yd);have x0:=yz.box.cell 0 rfl;have x1:=yz.box.cell 1 rfl;have x2:=yz.box.cell 2 rfl;have x3:=yz.box.cell 3 rfl;clear hvq ZS hy;go_wp2_with fail
    refine(YF x y _ _ _ _ _ _ _ _ _ _ _ _ _ _ _ _ _ _ (uo HV.out) (uo Ww.out) iR.out.1.arg iR.out.2.arg yz.kn.grows.holds).mono ?_
    rintro e w10 ⟨rfl,vx⟩
    replace yz:=yz.below vx;clear vx x0 x1 x2 x3;have Md:=Hh (j9 x y)
    cases Zq:rz x y with
    | false =>
     have Ul:Hid (¬ ∃ q,sm x q):=fun⟨q2,h2⟩=>by
      have e:=HF.out;rw[kE h2]at e;obtain rfl:=e;have e2:x=y:=by rw[← h2.2];exact HY.out
      rw[(Md.out).2 e2]at Zq
      cases Zq
     clear Zq;have sf:=yz.kn.res;have uE:=Hh yz.kn;clear yz;go_wp2_with (with_reducible refine zx ?_)
     refine zc rfl _ _ _ rfl rfl _ _ rfl rfl _ _ sf zM rfl (tm _ _ _ _ _ _ _ rfl rfl rfl rfl rfl rfl rfl) fun wz hRz zU=>?_
     have zP:=uE.out.grows.grownOwn uE.out.hR uE.out.wR zU;clear uE sf zU;go_wp2_with fail
     refine zv rfl rfl hRz rfl rfl zM rfl ?_
     exact .inr (.inl ⟨HV.out,Ul.out,rfl,zP.below⟩)
    | true =>
    have VT:Hid (x=y):=Md.out.1 Zq;clear Zq;have k0:=yz.kn.key.cell 0 rfl;have k1:=yz.kn.key.cell 1 rfl;have k2:=yz.kn.key.cell 2 rfl;have k3:=yz.kn.key.cell 3 rfl;have k4:=yz.kn.key.cell 4 rfl;have k5:=yz.kn.key.cell 5 rfl;have k6:=yz.kn.key.cell 6 rfl;have sf:=yz.kn.res;have uE:=Hh yz.kn;clear yz;go_wp2_with (with_reducible refine zx ?_)
    refine zc rfl _ _ _ rfl rfl _ _ rfl rfl _ _ sf zM rfl (tm _ _ _ _ _ _ _ rfl rfl rfl rfl rfl rfl rfl) fun wz hRz zU=>?_
    have zP:=uE.out.grows.grownOwn uE.out.hR uE.out.wR zU;clear uE sf zU;go_wp2_with fail
    refine zv rfl rfl hRz rfl rfl zM rfl ?_
    exact .inr (.inr ⟨q,a,_,HV.out,⟨P8.out,by rw[VT.out];exact HY.out⟩,rfl,zP,wJ.out⟩)
  have qs:j+1<x.items.length:=by have:=gQ.out;have:=br.out;omega
  have gF:x.items.length≤256:=(we HV.out).2.1;have lG:(j:Int)<x.items.length:=by omega
  have Yu:(j:Int)+1<x.items.length:=by omega
  have Rr:(0:Int)≤(j:Int)+1:=by omega
  have PA:IntKind.i64.wrap ((j:Int)+2)=(j:Int)+2:=IntWalk.i64_in _ (by omega);have QM:IntKind.i64.wrap ((j:Int)+1)=(j:Int)+1:=IntWalk.i64_in _ (by omega);obtain⟨ib,io,tj,wI⟩:=HI.out.items (by omega);obtain⟨y1,y2,y3,y4,q0,q1,q2,q3,iW⟩:=wI.get j yi;obtain⟨z1,z2,z3,z4,s0,s1,s2,s3,ji⟩:=wI.get (j+1) qs;subst tj;have mc:=Hh (el q x.items j qs);have Zn:=Hh (pg HV.out (List.getElem_mem qs));have nw:=Hh (And.intro yi (And.intro qs gF))
  generalize x.items[j]'yi=y at *
  generalize x.items[j+1]'qs=z at *
  have eC:=Hh (And.intro iW ji);have hh:=yz.kn.grows.holds.mono yz.kn.grows.le;have s0:=hh.cell s0;have s1:=hh.cell s1;have s2:=hh.cell s2;have s3:=hh.cell s3;have hP:=Blk.new wr 26 #[.int .i64 z.kind,.int .u64 z.n,.slice z1 z.bytes.length z2,.slice z3 z.items.length z4];replace yz:=yz.alloc (zW z z1 z2 z3 z4);have Sz:=yz.kn.grows.holds.mono yz.kn.grows.le;have q0:=Sz.cell q0;have q1:=Sz.cell q1;have q2:=Sz.cell q2;have q3:=Sz.cell q3;have a3b:=yz.box.cell 3 rfl;clear Sz;clear wI iW ji yi qs hh hj gF;go_wp2_with fail
  refine(sX eC.out.1.arg _).mono ?_
  rintro e w5 ⟨rfl,ow⟩
  replace yz:=yz.below ow;replace hP:=hP.below ow;clear ow q0 q1 q2 q3 s0 s1 s2 s3 a3 a3b;obtain⟨P,ZW⟩:∃ P,wr.heap.size=P:=⟨_,rfl⟩
  rw[ZW]at hP⊢;clear ZW;obtain⟨k,hk⟩:∃ k,nmR y=k:=⟨_,rfl⟩
  have HK:=Hh hk;rw[hk];clear hk;have z0:=hP.cell 0 rfl;have z1c:=hP.cell 1 rfl;have zb:=hP.cell 2 rfl;have z3c:=hP.cell 3 rfl
  by_cases ha:k=1
  ·subst ha;have eR:Hid (vo q y z={ q with kty:=nmR z }):=by rw[Hid,vo,HK.out];rfl
   clear HK;go_wp2_with fail
   refine(sX eC.out.2.arg _).mono ?_
   rintro e w6 ⟨rfl,wQ⟩
   replace yz:=yz.below wQ;clear wQ z0 z1c zb z3c;obtain⟨n,hn⟩:∃ n,nmR z=n:=⟨_,rfl⟩
   have Zj:=Hh (ml (z:=z));rw[hn]at eR Zj⊢;clear hn;go_wp2_with (with_reducible refine zx ?_)
   refine zu rfl _ _ _ rfl rfl Kb 0 (.int .i64 n) rfl rfl _ _ yz.kn.key (by kernel_rfl) (by simp) rfl fun wt hBt hgt=>?_
   replace yz:=yz.set (kc':=xU { q with kty:=n } a) hBt hgt;clear hBt hgt;go_wp2_with fail
   go_roundw
   case rel=>exact⟨j+2,{ q with kty:=n },a,_,by have:=nw.out;omega,by have:=gQ.out;omega,by go_num,yz,⟨Zj.out,wJ.out.crv,wJ.out.alg,wJ.out.kid,wJ.out.x,wJ.out.d,wJ.out.k⟩,by rw[← lI.out,mc.out,eR.out]⟩
   case measure=>have:=nw.out;simp[intOf];omega
  have bha:(k==1)=false:=by rw[beq_eq_false_iff_ne];exact ha
  have pha:(k=1)=False:=eq_false ha
  by_cases hb:k=2
  ·subst hb;have eR:Hid (vo q y z={ q with kid:=z.bytes }):=by rw[Hid,vo,HK.out];rfl
   clear HK;go_wp2_with (at_builtin;refine ye ?_)
   refine zO rfl _ _ rfl _ (.slice none 0 0) [] rfl (OwnB.nil _ _) _ _ _ z.bytes rfl rfl (Src.of_row (eC.out.2.mono yz.kn.grows.le).bytes.row yz.kn.grows.holds) (by have:=(we Zn.out).1;simp;omega) (Nat.le_refl _) fun v7 w7 xK hg7 hat7=>?_
   rw[List.nil_append]at xK;obtain⟨A7,c7,rfl,uD⟩:=xK.form;clear uD;obtain⟨H7,wP,wj,uD⟩:=Fresh.snapB yz.kn.grows.holds ⟨xK,yo hg7⟩;clear uD xK hg7 hat7;replace yz:=yz.grow wP;replace wJ:=Hh (wJ.out.mono wP.le);have e8:=Hh wj;clear wP wj z0 z1c zb z3c;go_wp2_with (with_reducible refine zx ?_)
   refine zu rfl _ _ _ rfl rfl Kb 3 (.slice A7 z.bytes.length c7) rfl rfl _ _ yz.kn.key (by kernel_rfl) (by simp) rfl fun wt hBt hgt=>?_
   replace yz:=yz.set (kc':=xU { q with kid:=z.bytes } { a with ia:=A7,ic:=c7 }) hBt hgt;clear hBt hgt;go_wp2_with fail
   go_roundw
   case rel=>exact⟨j+2,{ q with kid:=z.bytes },{ a with ia:=A7,ic:=c7 },_,by have:=nw.out;omega,by have:=gQ.out;omega,by go_num,yz,⟨wJ.out.kty,wJ.out.crv,wJ.out.alg,e8.out,wJ.out.x,wJ.out.d,wJ.out.k⟩,by rw[← lI.out,mc.out,eR.out]⟩
   case measure=>have:=nw.out;simp[intOf];omega
  have bhb:(k==2)=false:=by rw[beq_eq_false_iff_ne];exact hb
  have phb:(k=2)=False:=eq_false hb
  by_cases hc:k=3
  ·subst hc;have eR:Hid (vo q y z={ q with alg:=nmR z }):=by rw[Hid,vo,HK.out];rfl
   clear HK;go_wp2_with fail
   refine(sX eC.out.2.arg _).mono ?_
   rintro e w6 ⟨rfl,wQ⟩
   replace yz:=yz.below wQ;clear wQ z0 z1c zb z3c;obtain⟨n,hn⟩:∃ n,nmR z=n:=⟨_,rfl⟩
   have Zj:=Hh (ml (z:=z));rw[hn]at eR Zj⊢;clear hn;go_wp2_with (with_reducible refine zx ?_)
   refine zu rfl _ _ _ rfl rfl Kb 2 (.int .i64 n) rfl rfl _ _ yz.kn.key (by kernel_rfl) (by simp) rfl fun wt hBt hgt=>?_
   replace yz:=yz.set (kc':=xU { q with alg:=n } a) hBt hgt;clear hBt hgt;go_wp2_with fail
   go_roundw
   case rel=>exact⟨j+2,{ q with alg:=n },a,_,by have:=nw.out;omega,by have:=gQ.out;omega,by go_num,yz,⟨wJ.out.kty,wJ.out.crv,Zj.out,wJ.out.kid,wJ.out.x,wJ.out.d,wJ.out.k⟩,by rw[← lI.out,mc.out,eR.out]⟩
   case measure=>have:=nw.out;simp[intOf];omega
  have bhc:(k==3)=false:=by rw[beq_eq_false_iff_ne];exact hc
  have phc:(k=3)=False:=eq_false hc
  by_cases hd:k = -1
  ·subst hd;have eR:Hid (vo q y z={ q with crv:=nmR z,k:=z.bytes }):=by rw[Hid,vo,HK.out];rfl
   clear HK;obtain⟨n,hn⟩:∃ n,nmR z=n:=⟨_,rfl⟩
   have rh:=Hh hn;have Zj:=Hh (ml (z:=z));rw[hn]at eR Zj;clear hn;go_upto_region 18 with fail
   replace yz:=yz.drew;replace hP:=hP.drew
   refine yt 6 (fun wx=>wx.cell? ⟨P,0,none⟩=some (.int .i64 z.kind)∧wx.cell? ⟨P,1,none⟩=some (.int .u64 z.n)∧wx.cell? ⟨P,2,none⟩=some (.slice z1 z.bytes.length z2)∧wx.cell? ⟨P,3,none⟩=some (.slice z3 z.items.length z4)) (by kernel_rfl) (⟨z0,z1c,zb,z3c⟩) (fun zy=>?_)
   refine Zk 0 rfl zy ?_
   refine Zk 2 rfl zy ?_
   refine Zk 3 rfl zy ?_
   refine Zo 1 rfl fun K hK=>?_
   go_simp
   refine(sX eC.out.2.arg _).mono ?_
   rintro e w6 ⟨rfl,wQ⟩
   rw[rh.out];replace yz:=yz.below wQ;replace hP:=hP.below wQ;clear wQ
   refine hK.out _ _ (fun _=>?_) (fun zy=>?_)
   ·exact⟨hP.cell 0 rfl,hP.cell 1 rfl,hP.cell 2 rfl,hP.cell 3 rfl⟩
   clear hK K;have zy:=zy (by decide)
   try simp only[Act.put,zz1,zz2,zz3,zz4,zz5,zz6]
   refine Zk 5 rfl zy ?_
   refine Zo 4 rfl fun K hK=>?_
   rw[if_pos (by rfl)]
   refine yS _ _ rfl _ (.slice none 0 0) [] rfl (OwnB.nil _ _) _ _ _ z.bytes rfl rfl (Src.of_row (eC.out.2.mono yz.kn.grows.le).bytes.row yz.kn.grows.holds) (by have:=(we Zn.out).1;simp;omega) (Nat.le_refl _) fun v7 w7 xK hg7 hat7=>?_
   rw[List.nil_append]at xK;obtain⟨A7,c7,rfl,uD⟩:=xK.form;clear uD;obtain⟨H7,wP,wj,uD⟩:=Fresh.snapB yz.kn.grows.holds ⟨xK,yo hg7⟩;clear uD xK hg7 hat7;replace yz:=yz.grow wP;replace hP:=hP.below wP.below;replace wJ:=Hh (wJ.out.mono wP.le);have e8:=Hh wj;clear wP wj
   refine hK.out _ _ (fun _=>?_) (fun zy=>?_)
   ·exact⟨hP.cell 0 rfl,hP.cell 1 rfl,hP.cell 2 rfl,hP.cell 3 rfl⟩
   clear hK K;have zy:=zy (by decide)
   try simp only[Act.put,zz1,zz2,zz3,zz4,zz5,zz6]
   refine Zo 6 rfl fun K hK=>?_
   rw[if_pos (by rfl)]
   refine ze _ _ _ rfl Kb 1 (.int .i64 n) rfl rfl _ _ yz.kn.key (by kernel_rfl) (by simp) rfl fun wt hBt hgt=>?_
   replace yz:=yz.set (kc':=xU { q with crv:=n } a) hBt hgt;clear hBt hgt
   refine hK.out _ _ (fun h=>absurd h (by decide)) (fun _=>?_)
   clear hK K
   try simp only[Act.put,zz1,zz2,zz3,zz4,zz5,zz6]
   refine ZkT 7 rfl (fun h=>absurd h (by decide)) ?_
   refine Zo 8 rfl fun K hK=>?_
   rw[if_pos (by rfl)]
   refine ze _ _ _ rfl Kb 6 (.slice A7 z.bytes.length c7) rfl rfl _ _ yz.kn.key (by kernel_rfl) (by simp) rfl fun wt hBt hgt=>?_
   replace yz:=yz.set (kc':=xU { q with crv:=n,k:=z.bytes } { a with ka:=A7,kc:=c7 }) hBt hgt;clear hBt hgt
   refine hK.out _ _ (fun h=>absurd h (by decide)) (fun _=>?_)
   clear hK K
   try simp only[Act.put,zz1,zz2,zz3,zz4,zz5,zz6]
   refine WaysZ.done (by kernel_rfl) ?_
   clear zy z0 z1c zb z3c hP;go_wp2_with fail
   go_roundw
   case rel=>exact⟨j+2,{ q with crv:=n,k:=z.bytes },{ a with ka:=A7,kc:=c7 },_,by have:=nw.out;omega,by have:=gQ.out;omega,by go_num,yz,⟨wJ.out.kty,Zj.out,wJ.out.alg,wJ.out.kid,wJ.out.x,wJ.out.d,e8.out⟩,by rw[← lI.out,mc.out,eR.out]⟩
   case measure=>have:=nw.out;simp[intOf];omega
  have bhd:(k == -1)=false:=by rw[beq_eq_false_iff_ne];exact hd
  have phd:(k = -1)=False:=eq_false hd
  by_cases he:k = -2
  ·subst he;have eR:Hid (vo q y z={ q with x:=z.bytes }):=by rw[Hid,vo,HK.out];rfl
   clear HK;go_wp2_with (at_builtin;refine ye ?_)
   refine zO rfl _ _ rfl _ (.slice none 0 0) [] rfl (OwnB.nil _ _) _ _ _ z.bytes rfl rfl (Src.of_row (eC.out.2.mono yz.kn.grows.le).bytes.row yz.kn.grows.holds) (by have:=(we Zn.out).1;simp;omega) (Nat.le_refl _) fun v7 w7 xK hg7 hat7=>?_
   rw[List.nil_append]at xK;obtain⟨A7,c7,rfl,uD⟩:=xK.form;clear uD;obtain⟨H7,wP,wj,uD⟩:=Fresh.snapB yz.kn.grows.holds ⟨xK,yo hg7⟩;clear uD xK hg7 hat7;replace yz:=yz.grow wP;replace wJ:=Hh (wJ.out.mono wP.le);have e8:=Hh wj;clear wP wj z0 z1c zb z3c;go_wp2_with (with_reducible refine zx ?_)
   refine zu rfl _ _ _ rfl rfl Kb 4 (.slice A7 z.bytes.length c7) rfl rfl _ _ yz.kn.key (by kernel_rfl) (by simp) rfl fun wt hBt hgt=>?_
   replace yz:=yz.set (kc':=xU { q with x:=z.bytes } { a with xa:=A7,xc:=c7 }) hBt hgt;clear hBt hgt;go_wp2_with fail
   go_roundw
   case rel=>exact⟨j+2,{ q with x:=z.bytes },{ a with xa:=A7,xc:=c7 },_,by have:=nw.out;omega,by have:=gQ.out;omega,by go_num,yz,⟨wJ.out.kty,wJ.out.crv,wJ.out.alg,wJ.out.kid,e8.out,wJ.out.d,wJ.out.k⟩,by rw[← lI.out,mc.out,eR.out]⟩
   case measure=>have:=nw.out;simp[intOf];omega
  have bhe:(k == -2)=false:=by rw[beq_eq_false_iff_ne];exact he
  have phe:(k = -2)=False:=eq_false he
  by_cases hf:k = -4
  ·subst hf;have eR:Hid (vo q y z={ q with d:=z.bytes }):=by rw[Hid,vo,HK.out];rfl
   clear HK;go_wp2_with (at_builtin;refine ye ?_)
   refine zO rfl _ _ rfl _ (.slice none 0 0) [] rfl (OwnB.nil _ _) _ _ _ z.bytes rfl rfl (Src.of_row (eC.out.2.mono yz.kn.grows.le).bytes.row yz.kn.grows.holds) (by have:=(we Zn.out).1;simp;omega) (Nat.le_refl _) fun v7 w7 xK hg7 hat7=>?_
   rw[List.nil_append]at xK;obtain⟨A7,c7,rfl,uD⟩:=xK.form;clear uD;obtain⟨H7,wP,wj,uD⟩:=Fresh.snapB yz.kn.grows.holds ⟨xK,yo hg7⟩;clear uD xK hg7 hat7;replace yz:=yz.grow wP;replace wJ:=Hh (wJ.out.mono wP.le);have e8:=Hh wj;clear wP wj z0 z1c zb z3c;go_wp2_with (with_reducible refine zx ?_)
   refine zu rfl _ _ _ rfl rfl Kb 5 (.slice A7 z.bytes.length c7) rfl rfl _ _ yz.kn.key (by kernel_rfl) (by simp) rfl fun wt hBt hgt=>?_
   replace yz:=yz.set (kc':=xU { q with d:=z.bytes } { a with da:=A7,dc:=c7 }) hBt hgt;clear hBt hgt;go_wp2_with fail
   go_roundw
   case rel=>exact⟨j+2,{ q with d:=z.bytes },{ a with da:=A7,dc:=c7 },_,by have:=nw.out;omega,by have:=gQ.out;omega,by go_num,yz,⟨wJ.out.kty,wJ.out.crv,wJ.out.alg,wJ.out.kid,wJ.out.x,e8.out,wJ.out.k⟩,by rw[← lI.out,mc.out,eR.out]⟩
   case measure=>have:=nw.out;simp[intOf];omega
  have bhf:(k == -4)=false:=by rw[beq_eq_false_iff_ne];exact hf
  have phf:(k = -4)=False:=eq_false hf;have eR:Hid (vo q y z=q):=by rw[Hid,vo,HK.out,if_neg ha,if_neg hb,if_neg hc,if_neg hd,if_neg he,if_neg hf]
  clear HK ha hb hc hd he hf hP z0 z1c zb z3c;go_wp2_with fail
  go_roundw
  case rel=>exact⟨j+2,q,a,_,by have:=nw.out;omega,by have:=gQ.out;omega,by go_num,yz,wJ.out,by rw[← lI.out,mc.out,eR.out]⟩
  case measure=>have:=nw.out;simp[intOf];omega
theorem tI {l:List UInt8}{q:Nat}(h:xB l=.error q):q≠0:=by
 unfold xB at h
 split at h
 ·injection h with h;omega
 ·split at h
  ·rename_i e hp
   injection h with h
   subst h
   exact yJ _ _ _ _ hp
  ·split at h
   ·injection h with h;omega
   ·cases h
def DecKOut (w:World) (H:Snap) (l:List UInt8) (e:Ending) (w':World):Prop :=
 match xB l with
 | .error q=>e=.returned (.tuple #[.agg vp,.int .i64 (q:Int)])∧Below w.heap.size w w'
 | .ok x=>FromOut w H x e w'
theorem cz {H:Snap}(hTab:Tabs H) (w:World) (hH:Holds w H) {A:Option Addr}{n c:Nat}{l:List UInt8}(hn:n=l.length) (hl:IsBytes H A c l) :
  Calls Tryz.prog 20 #[.slice A n c] w (DecKOut w H l):=by
 have hR:=Blk.new w 33 vp;have eG:H w.heap.size=none:=hH.none_of_ge (Nat.le_refl _);have hG:=(Grows.refl hH).alloc (.cells vp 33);have DC:=Hh (ea hTab _ hG.holds hn hl);have HT:=Hh hTab;clear hn hl hTab hH;go_enter Tryz.func20,Tryz.ntmps20
 go_wp2_with fail
 refine DC.out.mono ?_
 intro e w2 hs
 clear DC
 unfold vv at hs
 cases hd:xB l with
 | error q =>
  rw[hd]at hs;obtain⟨rfl,wg⟩:=hs;have oA:((q:Int) != 0)=true:=by rw[bne_iff_ne];have:=tI hd;omega
  have gX:((q:Int)=0)=False:=eq_false (by have:=tI hd;omega);have HD:=Hh hd;replace hR:=hR.below wg;replace hG:=hG.below_ wg;replace hR:=hR.alloc zr;replace hG:=hG.alloc zr;clear hd wg;go_upto_region 3 with fail
  go_wp2_with (with_reducible refine zx ?_)
  refine zc rfl _ _ _ rfl rfl _ _ rfl rfl _ _ hR zM rfl (tm _ _ _ _ _ _ _ rfl rfl rfl rfl rfl rfl rfl) fun wz hRz zU=>?_
  have zP:=hG.grownOwn eG (Nat.le_refl _) zU;clear hG hR zU;go_wp2_with fail
  refine zv rfl rfl hRz rfl rfl zM rfl ?_
  unfold DecKOut
  rw[HD.out]
  exact⟨rfl,zP.below⟩
 | ok x =>
  rw[hd]at hs;obtain⟨ja,jb,jc,jd,H2,rfl,yp,un⟩:=hs;have HD:=Hh hd;replace hR:=(hR.below yp.below).alloc (zW x ja jb jc jd);have gI:=yp.none eG (by simp);replace hG:=(hG.trans yp).alloc (zW x ja jb jc jd);have Pf:=Hh hR.lt;have FR:=Hh (nP (HT.out.mono hG.le) un _ hG.holds);clear hd yp un;go_wp2_with fail
  refine FR.out.mono ?_
  intro e w5 hs
  clear FR;have hz:=hG.size
  have Ub:∃ (cs:List Value) (c0 c1 c2 c3 c4 c5 c6:Value) (cd:Int) (H5:Snap),e=.returned (.tuple #[.agg #[c0,c1,c2,c3,c4,c5,c6],.int .i64 cd])∧(#[c0,c1,c2,c3,c4,c5,c6]:Array Value).all (·.oneCell')=true∧Grows (w2.alloc (zW x ja jb jc jd)) H2 w5 H5∧
    (∀ wz:World,Grows w H wz H5→FromOut w H x (.returned (.tuple #[.agg #[c0,c1,c2,c3,c4,c5,c6],.int .i64 cd])) wz):=by
   rcases hs with ⟨h1,rfl,hb⟩ | ⟨h1,h2,rfl,hb⟩ | ⟨q,a,H5,h1,h2,rfl,xH,hk⟩
   ·exact⟨[],_,_,_,_,_,_,_,_,H2,rfl,tm _ _ _ _ _ _ _ rfl rfl rfl rfl rfl rfl rfl,Grows.of_below hG.holds hb,fun wz hz=>.inl ⟨h1,rfl,hz.below⟩⟩
   ·exact⟨[],_,_,_,_,_,_,_,_,H2,rfl,tm _ _ _ _ _ _ _ rfl rfl rfl rfl rfl rfl rfl,Grows.of_below hG.holds hb,fun wz hz=>.inr (.inl ⟨h1,h2,rfl,hz.below⟩)⟩
   ·exact⟨[],_,_,_,_,_,_,_,_,H5,rfl,tm _ _ _ _ _ _ _ rfl rfl rfl rfl rfl rfl rfl,xH,fun wz hz=>.inr (.inr ⟨q,a,H5,h1,h2,rfl,hz,hk⟩)⟩
  clear hs;obtain⟨_,c0,c1,c2,c3,c4,c5,c6,cd,H5,rfl,tX,xH,tW⟩:=Ub;replace hR:=hR.below xH.below;have UH:=xH.none gI Pf.out;replace hG:=hG.trans xH;have HF:=Hh (And.intro tW tX);clear tW tX xH hz gI;go_wp2_with (with_reducible refine zx ?_)
  refine zc rfl _ _ _ rfl rfl _ _ rfl rfl _ _ hR zM rfl HF.out.2 fun wz hRz zU=>?_
  have zP:=hG.grownOwn UH (Nat.le_refl _) zU;clear hG hR zU;go_wp2_with fail
  refine zv rfl rfl hRz rfl rfl zM rfl ?_
  unfold DecKOut
  rw[HD.out]
  exact HF.out.1 _ zP
theorem gz {H:Snap}(hTab:Tabs H) (w:World) (hH:Holds w H) {A:Option Addr}{n c:Nat}{l:List UInt8}(hn:n=l.length) (hl:IsBytes H A c l) :
  Calls Tryz.prog 21 #[.slice A n c] w (DecKOut w H l):=by
 have hR:=Blk.new w 33 vp;have eG:H w.heap.size=none:=hH.none_of_ge (Nat.le_refl _);have hG:=(Grows.refl hH).alloc (.cells vp 33);have DC:=Hh (dN hTab _ hG.holds hn hl);have HT:=Hh hTab;clear hn hl hTab hH;go_enter Tryz.func21,Tryz.ntmps21
 go_wp2_with fail
 refine DC.out.mono ?_
 intro e w2 hs
 clear DC
 unfold vv at hs
 cases hd:xB l with
 | error q =>
  rw[hd]at hs;obtain⟨rfl,wg⟩:=hs;have oA:((q:Int) != 0)=true:=by rw[bne_iff_ne];have:=tI hd;omega
  have gX:((q:Int)=0)=False:=eq_false (by have:=tI hd;omega);have HD:=Hh hd;replace hR:=hR.below wg;replace hG:=hG.below_ wg;replace hR:=hR.alloc zr;replace hG:=hG.alloc zr;clear hd wg;go_upto_region 3 with fail
  go_wp2_with (with_reducible refine zx ?_)
  refine zc rfl _ _ _ rfl rfl _ _ rfl rfl _ _ hR zM rfl (tm _ _ _ _ _ _ _ rfl rfl rfl rfl rfl rfl rfl) fun wz hRz zU=>?_
  have zP:=hG.grownOwn eG (Nat.le_refl _) zU;clear hG hR zU;go_wp2_with fail
  refine zv rfl rfl hRz rfl rfl zM rfl ?_
  unfold DecKOut
  rw[HD.out]
  exact⟨rfl,zP.below⟩
 | ok x =>
  rw[hd]at hs;obtain⟨ja,jb,jc,jd,H2,rfl,yp,un⟩:=hs;have HD:=Hh hd;replace hR:=(hR.below yp.below).alloc (zW x ja jb jc jd);have gI:=yp.none eG (by simp);replace hG:=(hG.trans yp).alloc (zW x ja jb jc jd);have Pf:=Hh hR.lt;have FR:=Hh (pZ (HT.out.mono hG.le) un _ hG.holds);clear hd yp un;go_wp2_with fail
  refine FR.out.mono ?_
  intro e w5 hs
  clear FR;have hz:=hG.size
  have Ub:∃ (cs:List Value) (c0 c1 c2 c3 c4 c5 c6:Value) (cd:Int) (H5:Snap),e=.returned (.tuple #[.agg #[c0,c1,c2,c3,c4,c5,c6],.int .i64 cd])∧(#[c0,c1,c2,c3,c4,c5,c6]:Array Value).all (·.oneCell')=true∧Grows (w2.alloc (zW x ja jb jc jd)) H2 w5 H5∧
    (∀ wz:World,Grows w H wz H5→FromOut w H x (.returned (.tuple #[.agg #[c0,c1,c2,c3,c4,c5,c6],.int .i64 cd])) wz):=by
   rcases hs with ⟨h1,rfl,hb⟩ | ⟨h1,h2,rfl,hb⟩ | ⟨q,a,H5,h1,h2,rfl,xH,hk⟩
   ·exact⟨[],_,_,_,_,_,_,_,_,H2,rfl,tm _ _ _ _ _ _ _ rfl rfl rfl rfl rfl rfl rfl,Grows.of_below hG.holds hb,fun wz hz=>.inl ⟨h1,rfl,hz.below⟩⟩
   ·exact⟨[],_,_,_,_,_,_,_,_,H2,rfl,tm _ _ _ _ _ _ _ rfl rfl rfl rfl rfl rfl rfl,Grows.of_below hG.holds hb,fun wz hz=>.inr (.inl ⟨h1,h2,rfl,hz.below⟩)⟩
   ·exact⟨[],_,_,_,_,_,_,_,_,H5,rfl,tm _ _ _ _ _ _ _ rfl rfl rfl rfl rfl rfl rfl,xH,fun wz hz=>.inr (.inr ⟨q,a,H5,h1,h2,rfl,hz,hk⟩)⟩
  clear hs;obtain⟨_,c0,c1,c2,c3,c4,c5,c6,cd,H5,rfl,tX,xH,tW⟩:=Ub;replace hR:=hR.below xH.below;have UH:=xH.none gI Pf.out;replace hG:=hG.trans xH;have HF:=Hh (And.intro tW tX);clear tW tX xH hz gI;go_wp2_with (with_reducible refine zx ?_)
  refine zc rfl _ _ _ rfl rfl _ _ rfl rfl _ _ hR zM rfl HF.out.2 fun wz hRz zU=>?_
  have zP:=hG.grownOwn UH (Nat.le_refl _) zU;clear hG hR zU;go_wp2_with fail
  refine zv rfl rfl hRz rfl rfl zM rfl ?_
  unfold DecKOut
  rw[HD.out]
  exact HF.out.1 _ zP
theorem kL {H:Snap}{q:Ky}{a b:KAd}(ha:KeyA H q a) (hb:KeyA H q b) (w:World) (hH:Holds w H) :
  Calls Tryz.prog 18 #[.agg (xU q a),.agg (xU q b)] w fun e w'=>e=.returned (.bool true)∧Below w.heap.size w w':=by
 have hX:=(Blk.new w 33 (xU q a)).alloc (.cells (xU q b) 33);have hY:=Blk.new (w.alloc (.cells (xU q a) 33)) 33 (xU q b);rw[zV]at hY;have Uv:=(zi w (.cells (xU q a) 33)).alloc (zi w (.cells (xU q a) 33)).size (.cells (xU q b) 33);have hh:=(hH.alloc (.cells (xU q a) 33)).alloc (.cells (xU q b) 33);have x0:=hX.cell 0 rfl;have x1:=hX.cell 1 rfl;have x2:=hX.cell 2 rfl;have x3:=hX.cell 3 rfl;have x4:=hX.cell 4 rfl;have x5:=hX.cell 5 rfl;have x6:=hX.cell 6 rfl;have y0:=hY.cell 0 rfl;have y1:=hY.cell 1 rfl;have y2:=hY.cell 2 rfl;have y3:=hY.cell 3 rfl;have y4:=hY.cell 4 rfl;have y5:=hY.cell 5 rfl;have y6:=hY.cell 6 rfl;have k1:=vl (Src.of_row ha.kid.row hh) _ a.ic rfl;have k2:=vl (Src.of_row hb.kid.row hh) _ b.ic rfl;have k3:=vl (Src.of_row ha.x.row hh) _ a.xc rfl;have k4:=vl (Src.of_row hb.x.row hh) _ b.xc rfl
 have k5:=vl (Src.of_row ha.d.row hh) _ a.dc rfl;have k6:=vl (Src.of_row hb.d.row hh) _ b.dc rfl;have k7:=vl (Src.of_row ha.k.row hh) _ a.kc rfl;have k8:=vl (Src.of_row hb.k.row hh) _ b.kc rfl;clear hX hY ha hb hh hH;go_enter Tryz.func18,Tryz.ntmps18
 go_wp2_with fail
 go_ret
 exact⟨rfl,Uv⟩
def FromIs (x:Itm) (q:Ky) (cd:Int):Prop :=
 (yW x=false∧q=wh∧cd=1)∨(yW x=true∧(¬ ∃ q,sm x q)∧q=wh∧cd=12)∨(yW x=true∧sm x q∧cd=0)
theorem FromIs.eq {x:Itm}{q q':Ky}{cd cd':Int}(h:FromIs x q cd) (h':FromIs x q' cd'):q'=q∧cd'=cd:=by
 rcases h with ⟨h1,h2,h3⟩ | ⟨h1,h2,h3,h4⟩ | ⟨h1,h2,h3⟩ <;> rcases h' with ⟨k1,k2,k3⟩ | ⟨k1,k2,k3,k4⟩ | ⟨k1,k2,k3⟩
 ·exact⟨k2.trans h2.symm,k3.trans h3.symm⟩
 ·rw[h1]at k1;cases k1
 ·rw[h1]at k1;cases k1
 ·rw[h1]at k1;cases k1
 ·exact⟨k3.trans h3.symm,k4.trans h4.symm⟩
 ·exact absurd ⟨_,k2⟩ h2
 ·rw[h1]at k1;cases k1
 ·exact absurd ⟨_,h2⟩ k2
 ·exact⟨aC k2.1 h2.1 (k2.2.trans h2.2.symm),k3.trans h3.symm⟩
def DecIs (l:List UInt8) (q:Ky) (cd:Int):Prop :=
 match xB l with
 | .error e=>q=wh∧cd=(e:Int)
 | .ok x=>FromIs x q cd
theorem DecIs.eq {l:List UInt8}{q q':Ky}{cd cd':Int}(h:DecIs l q cd) (h':DecIs l q' cd'):q'=q∧cd'=cd:=by
 unfold DecIs at h h'
 split at h
 ·rename_i e he
  rw[he]at h'
  exact⟨h'.1.trans h.1.symm,h'.2.trans h.2.symm⟩
 ·rename_i x hx
  rw[hx]at h'
  exact h.eq h'
def bq:KAd:=⟨none,0,none,0,none,0,none,0⟩
theorem kY (H:Snap):KeyA H wh bq:=⟨by simp[wh],by simp[wh],by simp[wh],IsBytes.nil _,IsBytes.nil _,IsBytes.nil _,IsBytes.nil _⟩
theorem FromOut.is {w:World}{H:Snap}{x:Itm}{e:Ending}{w':World}(hH:Holds w H) (h:FromOut w H x e w') :
  ∃ q a cd H',e=.returned (.tuple #[.agg (xU q a),.int .i64 cd])∧FromIs x q cd∧Grows w H w' H'∧KeyA H' q a:=by
 rcases h with ⟨h1,rfl,hb⟩ | ⟨h1,h2,rfl,hb⟩ | ⟨q,a,H',h1,h2,rfl,hG,hk⟩
 ·exact⟨wh,bq,1,H,rfl,.inl ⟨h1,rfl,rfl⟩,Grows.of_below hH hb,kY H⟩
 ·exact⟨wh,bq,12,H,rfl,.inr (.inl ⟨h1,h2,rfl,rfl⟩),Grows.of_below hH hb,kY H⟩
 ·exact⟨q,a,0,H',rfl,.inr (.inr ⟨h1,h2,rfl⟩),hG,hk⟩
theorem DecKOut.is {w:World}{H:Snap}{l:List UInt8}{e:Ending}{w':World}(hH:Holds w H) (h:DecKOut w H l e w') :
  ∃ q a cd H',e=.returned (.tuple #[.agg (xU q a),.int .i64 cd])∧DecIs l q cd∧Grows w H w' H'∧KeyA H' q a:=by
 unfold DecKOut at h
 unfold DecIs
 split at h
 ·rename_i e he
  obtain⟨rfl,hb⟩:=h
  exact⟨wh,bq,e,H,rfl,by first | exact⟨rfl,rfl⟩ | (rw[he];exact⟨rfl,rfl⟩),Grows.of_below hH hb,kY H⟩
 ·rename_i x hx
  obtain⟨q,a,cd,H',h1,h2,h3,h4⟩:=h.is hH
  exact⟨q,a,cd,H',h1,by first | exact h2 | (rw[hx];exact h2),h3,h4⟩
end Go.Proofs.YtnlinmoiakgedaaGreatDoor
