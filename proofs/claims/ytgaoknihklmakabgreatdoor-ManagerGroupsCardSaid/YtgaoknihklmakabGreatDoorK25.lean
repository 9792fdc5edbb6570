/- squeezed. Walks: the key of an item, by the  -/
import Derived.Test.YtgaoknihklmakabGreatDoorK24
set_option linter.unusedVariables false
set_option linter.unusedSimpArgs false
set_option maxRecDepth 100000
set_option maxHeartbeats 51200000
namespace Go.Proofs.YtgaoknihklmakabGreatDoor
open Go.RowKit
theorem jae{P:Prop}(h:P:=by
 go_wp2_with fail
 refine(V.out _).mono ?_
 rintro e w4 ⟨rfl,pd⟩
 replace hB:=hB.below pd;replace hb:=hb.trans (pd.mono hb.size);clear pd V c1 c2 c3 c4 c5 c6 c7 c8 c9 c10
 cases hv:xY c.key with
 | false =>
  rw[hv]at go2;clear hB hv;go_wp2_with fail
  go_ret
  exact⟨by rw[go2.out];simp,hb⟩
 | true =>
 rw[hv]at go2;clear hv;have c4:=hB.cell 4 rfl;have c8:=hB.cell 8 rfl;have c9:=hB.cell 9 rfl
 by_cases hk:c.key.kty=1
 ·have k1:(c.key.kty=1)=True:=eq_true hk;have k2:(c.key.kty==1)=true:=by simpa using hk
  by_cases hx:0<nx
  ·have x1:(0:Int)<(nx:Int):=by omega
   by_cases hd:nd=0
   ·subst hd;clear hB hk;go_wp2_with fail
    go_ret
    exact⟨by rw[go2.out];simp[k1,hx],hb⟩
   have d1:((nd:Int)=0)=False:=eq_false (by omega);have d2:(nd=0)=False:=eq_false hd;have d3:((nd:Int)==0)=false:=by simpa using hd
   clear hB hk;go_wp2_with fail
   go_ret
   exact⟨by rw[go2.out];simp[hd],hb⟩
  have x1:¬ (0:Int)<(nx:Int):=by omega
  clear hB hk;go_wp2_with fail
  go_ret
  exact⟨by rw[go2.out];simp[hx],hb⟩
 have k1:(c.key.kty=1)=False:=eq_false hk;have k2:(c.key.kty==1)=false:=by simpa using hk
 clear hB;go_wp2_with fail
 go_ret
 exact⟨by rw[go2.out];simp[hk],hb⟩):P:=h
theorem ja3{P:Prop}(h:P:=by exact⟨hQ.cell 0 rfl,hQ.cell 1 rfl,hQ.cell 2 rfl,hQ.cell 3 rfl⟩):P:=h
theorem jbj{P:Prop}(h:P:=by
 rw[Hid,HN.out.1,HN.out.2,Bool.eq_iff_iff,Hj.out]
 simp only[Bool.and_eq_true,decide_eq_true_eq,and_assoc]
 have e:=HF.out
 exact⟨fun h=>⟨h.2.2.2.2.2.2.2.2.1,h.2.2.2.2.2.2.2.2.2.1,h.2.2.2.2.2.2.2.2.2.2.1,h.2.2.2.2.2.2.2.2.2.2.2⟩,fun h=>⟨H1.out,H2.out,HS.out,by omega,by omega,by omega,by omega,RD.out,h.1,h.2.1,h.2.2.1,h.2.2.2⟩⟩):P:=h
theorem jbw{P:Prop}(h:P:=by
 rw[ry]at hP⊢;have iH:=Hh ry;clear hown7 yQ hat7 hZ ry
 refine Kz hK ?_
 clear hK K
 refine ZkT 7 rfl (fun h=>absurd h (by decide)) ?_
 refine WaysZ.done (by kernel_rfl) ?_
 clear zy;go_wp2_with fail
 go_meet
 exact(by rw[E.out,← sk.out];exact⟨_,_,_,_,rfl,iH.out.symm,hP⟩)):P:=h
theorem jbL{P:Prop}(h:P:=by
 go_wp2_with (with_reducible refine zx ?_)
 refine stI hT fun w11 cg hg11=>?_
 have pV:=xp.grownOwn sM (by omega) hg11;clear hT xp hg11;go_wp2_with fail
 refine vo rfl rfl cg rfl rfl zt rfl ?_
 exact⟨_,rfl,xa,xb,xc,xd,H6,rfl,pV,UU⟩):P:=h
theorem jcK{P:Prop}(h:P:=by
 go_wp2_with fail
 refine VS.out.mono ?_
 rintro e w1 ⟨rfl,xR⟩
 go_wp2_with fail
 go_ret
 exact⟨by rw[E.out];rfl,xR⟩):P:=h
theorem jdn{P:Prop}(h:P:=by exact hP.box.cell 3 rfl):P:=h
theorem jdo{P:Prop}(h:P:=by exact hP.box.cell 2 rfl):P:=h
theorem jdz{P:Prop}(h:P:=by
 rw[ue];have e:zr k=.mk 0 k.toNat [] []:=by rw[zr,if_neg (by omega)]
 rw[e];rfl):P:=h
theorem jdB{P:Prop}(h:P:=by
 split at hx
 ·simp at hx
  rcases hx with rfl | rfl <;> exact tx _ _
 simp at hx):P:=h
theorem jdE{P:Prop}(h:P:=by
 split at hx
 ·simp at hx
  rcases hx with rfl | rfl <;> exact wl _
 simp at hx):P:=h
theorem jdN{P:Prop}(h:P:=by exact⟨hP.cell 0 rfl,hP.cell 1 rfl,hP.cell 2 rfl,hP.cell 3 rfl⟩):P:=h
theorem jdR{P:Prop}(h:P:=by
 go_wp2_with fail
 go_ret
 exact⟨by rw[E.out];rfl,Below.refl _ _⟩):P:=h
theorem jej{P:Prop}(h:P:=by clear hB;exact jai):P:=h
theorem jeJ{P:Prop}(h:P:=by have E:Hid (zE c=false):=oP.out (fun h=>by rw[h2]at h;exact absurd h.2.1 (by decide));clear hB h2;exact jai):P:=h
theorem jeK{P:Prop}(h:P:=by have E:Hid (zE c=false):=oP.out (fun h=>by rw[h1]at h;exact absurd h.1 (by decide));clear hB h1;exact jai):P:=h
theorem jfh{P:Prop}(h:P:=by have E:Hid (zE c=false):=oP.out (fun h=>h.2.2.1 hs);have s2:c.subject.toList.isEmpty=true:=(t8 _).2 hs;clear hs;exact jej):P:=h
theorem jfo{P:Prop}(h:P:=by have E:Hid (zE c=false):=oP.out (fun h=>by have:=h.2.2.2.2.2.2.1;omega);exact jej):P:=h
theorem jfp{P:Prop}(h:P:=by have E:Hid (zE c=false):=oP.out (fun h=>by have:=h.2.2.2.2.2.1;omega);exact jej):P:=h
theorem jfq{P:Prop}(h:P:=by have E:Hid (zE c=false):=oP.out (fun h=>by have:=h.2.2.2.2.1;omega);exact jej):P:=h
theorem jfr{P:Prop}(h:P:=by have E:Hid (zE c=false):=oP.out (fun h=>by have:=h.2.2.2.1;omega);exact jej):P:=h
theorem jgd{P:Prop}(h:P:=by have c1:=hB.cell 1 rfl;have c2:=hB.cell 2 rfl;have c3:=hB.cell 3 rfl;exact And.intro c1 (And.intro c2 c3)):P:=h
theorem jgh{P:Prop}(h:P:=by have hP:=IS.nil (((Grows.refl hH).alloc (.cells (clQ c a) 63)).alloc (.cells xi 83)) (hH.none_of_ge (Nat.le_refl _)) (hH.none_of_ge (by omega)) ((Blk.new w 63 (clQ c a)).alloc (.cells xi 83)) (by have h:=Blk.new (w.alloc (.cells (clQ c a) 63)) 83 xi;rw[zh]at h;exact h);exact hP):P:=h
theorem jgi{P:Prop}(h:P:=by have hB:=Blk.new w 63 (clC c.issuer c.subject c.since c.till c.key.kty c.key.crv c.key.alg a.ia ni a.ic a.xa nx a.xc a.da nd a.dc a.ka nk a.kc);have hb:=zm w (.cells (clC c.issuer c.subject c.since c.till c.key.kty c.key.crv c.key.alg a.ia ni a.ic a.xa nx a.xc a.da nd a.dc a.ka nk a.kc) 63);have HH:=Hh hH;have oP:=Hh (fun h=>du (c:=c) h);exact And.intro hB (And.intro hb (And.intro HH oP))):P:=h
theorem jgR{P:Prop}(h:P:=by have hZ:=hP.litZ (ze (zr (1)) xa1 xb1 xc1 xd1++ze (xq c.issuer) xa2 xb2 xc2 xd2).toArray 83;have hP:=hP.alloc (.cells (ze (zr (1)) xa1 xb1 xc1 xd1++ze (xq c.issuer) xa2 xb2 xc2 xd2).toArray 83);exact And.intro hZ hP):P:=h
theorem jgU{P:Prop}(h:P:=by have hZ:=hP.litZ (ze (zr (5)) xa1 xb1 xc1 xd1++ze (zr c.since) xa2 xb2 xc2 xd2).toArray 83;have hP:=hP.alloc (.cells (ze (zr (5)) xa1 xb1 xc1 xd1++ze (zr c.since) xa2 xb2 xc2 xd2).toArray 83);exact And.intro hZ hP):P:=h
theorem jgW{P:Prop}(h:P:=by have hZ:=hP.litZ (ze (zr (4)) xa1 xb1 xc1 xd1++ze (zr c.till) xa2 xb2 xc2 xd2).toArray 83;have hP:=hP.alloc (.cells (ze (zr (4)) xa1 xb1 xc1 xd1++ze (zr c.till) xa2 xb2 xc2 xd2).toArray 83);exact And.intro hZ hP):P:=h
theorem jhB{P:Prop}(h:P:=by have hQ:=Blk.new w5 83 #[.int .i64 y.kind,.int .u64 y.n,.slice ya y.bytes.length yb,.slice yc y.items.length yd];exact hQ):P:=h
theorem jhW{P:Prop}(h:P:=by have c1:World.cell? _ ⟨w.heap.size,1,none⟩=some (.string c.subject):=hP.box.cell 1 rfl;exact c1):P:=h
theorem jhX{P:Prop}(h:P:=by have c2:World.cell? _ ⟨w.heap.size,2,none⟩=some (.int .i64 c.since):=hS.box.cell 2 rfl;exact c2):P:=h
theorem jhY{P:Prop}(h:P:=by have c2:World.cell? _ ⟨w.heap.size,2,none⟩=some (.int .i64 c.since):=hP.box.cell 2 rfl;exact c2):P:=h
theorem jhZ{P:Prop}(h:P:=by have c0:World.cell? _ ⟨w.heap.size,0,none⟩=some (.string c.issuer):=hP.box.cell 0 rfl;exact c0):P:=h
theorem jh0{P:Prop}(h:P:=by have c3:World.cell? _ ⟨w.heap.size,3,none⟩=some (.int .i64 c.till):=hS.box.cell 3 rfl;exact c3):P:=h
theorem jh1{P:Prop}(h:P:=by have c3:World.cell? _ ⟨w.heap.size,3,none⟩=some (.int .i64 c.till):=hP.box.cell 3 rfl;exact c3):P:=h
theorem ZS (q:Ky) (l:List Itm) (j:Nat) (h:j+1<l.length):vU q (l.drop j)=vU (vV q (l[j]'(by omega)) l[j+1]) (l.drop (j+2)):=by
 rw[List.drop_eq_getElem_cons (by omega:j<l.length),List.drop_eq_getElem_cons h,vU]
theorem jp {z:Itm} : -9223372036854775808≤nmR z∧nmR z≤9223372036854775807:=by
 obtain⟨k,m,b,l⟩:=z;rw[nmR]
 split <;> omega
structure FR (W0:World) (H:Snap) (R K:Nat) (xc kc:Array Value) (w:World) (Hr:Snap):Prop where
 kn:KN W0 H R K kc w Hr
 box:Blk w W0.heap.size 83 xc
 nb:K≠W0.heap.size
section
variable {W0 w w':World} {H Hr Hs:Snap} {R K:Nat} {xc kc kc':Array Value}
theorem FR.grow (h:FR W0 H R K xc kc w Hr) (k:Grows w Hr w' Hs):FR W0 H R K xc kc w' Hs:=⟨h.kn.grow k,h.box.below k.below,h.nb⟩
theorem FR.below (h:FR W0 H R K xc kc w Hr) (k:Below w.heap.size w w'):FR W0 H R K xc kc w' Hr:=h.grow (Grows.of_below h.kn.grows.holds k)
theorem FR.alloc (h:FR W0 H R K xc kc w Hr) (o:Obj):FR W0 H R K xc kc (w.alloc o) Hr:=h.below (zm w o)
theorem FR.drew (h:FR W0 H R K xc kc w Hr):FR W0 H R K xc kc w.drew Hr:=h.below (Below.refl _ _).drew
theorem FR.set (h:FR W0 H R K xc kc w Hr) (hB:Blk w' K 61 kc') (hg:w.grownBy w' (some K)):FR W0 H R K xc kc' w' Hr :=
 ⟨h.kn.set hB hg,h.box.grown hg (fun e=>by injection e with e;exact h.nb e),h.nb⟩
end
theorem fH {H:Snap}(hTab:Tabs H) {x:Itm}{ba:Option Addr}{bc:Nat}{ia:Option Addr}{ic:Nat}(hx:IsItem H ba bc ia ic x) (w:World) (hH:Holds w H) :
  Calls Tryz.prog 73 #[xx x ba bc ia ic] w (cO w H x):=by
 obtain⟨hX,hR⟩:=jgX;rw[zh]at hR;obtain⟨Un,hG⟩:=jhP;have HT:=Hh hTab;have HI:=Hh hx;have a0:=hX.cell 0 rfl;have a1:=hX.cell 1 rfl;have a2:=hX.cell 2 rfl;have a3:=hX.cell 3 rfl;clear hTab hx hH;go_enter Tryz.func73,Tryz.ntmps73
 go_wp2_with fail
 refine(nQ HT.out HI.out.arg _ hG.holds).mono ?_
 rintro e w1 ⟨rfl,xR⟩
 replace hX:=hX.below xR;replace hR:=hR.below xR;replace hG:=hG.below_ xR;clear xR a0 a1 a2 a3
 cases hv:zR x with
 | false =>
  have HV:=Hh hv;clear hv hX;exact jbr
 | true =>
 have HV:=Hh hv;clear hv;have a0:=hX.cell 0 rfl
 by_cases h5:x.kind=5
 case neg =>
  have b5:(x.kind != 5)=true:=by simp[h5]
  have p5:(x.kind=5)=False:=eq_false h5;have H5:=Hh h5;clear h5 hX;go_wp2_with (with_reducible refine zx ?_)
  refine zv rfl _ _ _ rfl rfl _ _ rfl rfl _ _ hR yk rfl (oT _ _ _ _ _ _ _ rfl rfl rfl rfl rfl rfl rfl) fun wz hRz zS=>?_
  have yl:=hG.grownOwn Un (by omega) zS;clear a0;exact jcN
 have b5:(x.kind != 5)=false:=by simp[h5]
 have p5:(x.kind=5)=True:=eq_true h5;have Z0:=Hh (qE HV.out h5);clear h5;obtain⟨Kb,hK⟩:∃ Kb,w1.heap.size=Kb:=⟨_,rfl⟩
 have zN:FR w H (w.heap.size+1) w1.heap.size #[.int .i64 x.kind,.int .u64 x.n,.slice ba x.bytes.length bc,.slice ia x.items.length ic] (tY yP ⟨none,0,none,0,none,0,none,0⟩) (w1.alloc (.cells sI 61)) H:=⟨⟨hG.alloc _,hR.alloc _,Blk.new _ _ _,Un,hG.holds.none_of_ge (Nat.le_refl _),by have:=hR.lt;omega,by omega,hG.size⟩,hX.alloc _,by have:=hX.lt;omega⟩
 rw[hK]at zN;clear hX hR hG;go_wp2_with fail
 try rw[hK]
 clear b5 p5 a0;go_loopw [5] (fun v7 wr=>∃ (j:Nat) (q:Ky) (a:KAd) (Hr:Snap),j≤x.items.length∧j%2=0∧v7=.int .i64 (j:Int)∧FR w H (w.heap.size+1) Kb #[.int .i64 x.kind,.int .u64 x.n,.slice ba x.bytes.length bc,.slice ia x.items.length ic] (tY q a) wr Hr∧KeyA Hr q a∧vU q (x.items.drop j)=vU yP x.items) (fun v7 _=>x.items.length-(intOf v7).toNat)
 case atStart=>exact⟨0,yP,⟨none,0,none,0,none,0,none,0⟩,H,Nat.zero_le _,rfl,rfl,zN,⟨by simp[yP],by simp[yP],by simp[yP],IsBytes.nil _,IsBytes.nil _,IsBytes.nil _,IsBytes.nil _⟩,by rw[List.drop_zero]⟩
 case round =>
 clear zN hK;obtain⟨j,q,a,Hr,hj,XE,rfl,zN,MO,Ps⟩:=hrel;have lQ:=Hh XE;have wV:=Hh MO;have lP:=Hh Ps;clear XE MO Ps;have a3:=zN.box.cell 3 rfl
 by_cases zB:j<x.items.length
 case neg =>
  have tF:j=x.items.length:=by omega
  subst tF;clear zB hj;have HF:Hid (vU yP x.items=q):=by rw[Hid,← lP.out,List.drop_length,lx]
  clear lP;have k0:=zN.kn.key.cell 0 rfl;have k1:=zN.kn.key.cell 1 rfl;have k2:=zN.kn.key.cell 2 rfl;have k3:=zN.kn.key.cell 3 rfl;have k4:=zN.kn.key.cell 4 rfl;have k5:=zN.kn.key.cell 5 rfl;have k6:=zN.kn.key.cell 6 rfl;go_wp2_with fail
  refine(kY (HT.out.mono zN.kn.grows.le) wV.out _ zN.kn.grows.holds).mono ?_
  rintro e w9 ⟨v9,rfl,ya,yb,yc,yd,H9,rfl,vy,jZ⟩
  replace zN:=(zN.grow vy)
  replace wV:=Hh (wV.out.mono vy.le);clear k0 k1 k2 k3 k4 k5 k6 a3 vy
  cases hvq:xY q with
  | false =>
   have Ol:Hid (¬ ∃ q,sS x q):=fun⟨q2,h2⟩=>by
    have e:=HF.out;rw[oo h2]at e;obtain rfl:=e;rw[h2.1]at hvq
    cases hvq
   have E:Hid (tU q=1∧pu q=zQ):=⟨by rw[tU,if_neg (by rw[hvq];simp)],by rw[pu,if_neg (by rw[hvq];simp)]⟩
   rw[E.out.1,E.out.2];clear hvq jZ;replace zN:=zN.alloc (zU zQ ya yb yc yd);go_upto_region 25 with fail
   exact jax
  | true =>
  have E:Hid (tU q=0∧pu q=vW q):=⟨by rw[tU,if_pos hvq],by rw[pu,if_pos hvq]⟩
  have Gy:=Hh hvq;rw[E.out.1,E.out.2];rw[E.out.2]at jZ;have RM:=Hh (vB hvq);obtain⟨y,hy⟩:∃ y,vW q=y:=⟨_,rfl⟩
  have HY:=Hh hy;rw[hy]at jZ⊢;rw[HY.out]at RM;have Of:=Hh (And.intro (HI.out.mono zN.kn.grows.le) jZ);replace zN:=zN.alloc (zU y ya yb yc yd);have x0:=zN.box.cell 0 rfl;have x1:=zN.box.cell 1 rfl;have x2:=zN.box.cell 2 rfl;have x3:=zN.box.cell 3 rfl;clear hvq jZ hy;go_wp2_with fail
  refine(gI x y _ _ _ _ _ _ _ _ _ _ _ _ _ _ _ _ _ _ (wi HV.out) (wi RM.out) Of.out.1.arg Of.out.2.arg zN.kn.grows.holds).mono ?_
  rintro e w10 ⟨rfl,vd⟩
  replace zN:=zN.below vd;clear vd x0 x1 x2 x3;have Dz:=Hh (vI x y)
  cases Uv:tC x y with
  | false =>
   have Ol:Hid (¬ ∃ q,sS x q):=fun⟨q2,h2⟩=>by
    have e:=HF.out;rw[oo h2]at e;obtain rfl:=e;have e2:x=y:=by rw[← h2.2];exact HY.out
    rw[(Dz.out).2 e2]at Uv
    cases Uv
   clear Uv;exact jax
  | true =>
  have Lu:Hid (x=y):=Dz.out.1 Uv;clear Uv;exact jaM
 have sY:j+1<x.items.length:=by have:=lQ.out;have:=Z0.out;omega
 have jR:x.items.length≤256:=(yD HV.out).2.1;have Yf:(j:Int)<x.items.length:=by omega
 have bB:(j:Int)+1<x.items.length:=by omega
 have Qt:(0:Int)≤(j:Int)+1:=by omega
 have rp:IntKind.i64.wrap ((j:Int)+2)=(j:Int)+2:=IntWalk.i64_in _ (by omega);have Mq:=jgu;obtain⟨ib,io,pf,un⟩:=HI.out.items (by omega);obtain⟨y1,y2,y3,y4,q0,q1,q2,q3,dE⟩:=un.get j zB;obtain⟨z1,z2,z3,z4,s0,s1,s2,s3,mR⟩:=un.get (j+1) sY;subst pf;have oQ:=Hh (ZS q x.items j sY);obtain⟨UP,wT⟩:=jhf
 generalize x.items[j]'zB=y at *
 generalize x.items[j+1]'sY=z at *
 have bP:=Hh (And.intro dE mR);have hh:=zN.kn.grows.holds.mono zN.kn.grows.le;have s0:=hh.cell s0;have s1:=hh.cell s1;have s2:=hh.cell s2;have s3:=hh.cell s3;have hP:=Blk.new wr 83 #[.int .i64 z.kind,.int .u64 z.n,.slice z1 z.bytes.length z2,.slice z3 z.items.length z4];replace zN:=zN.alloc (zU z z1 z2 z3 z4);have MJ:=zN.kn.grows.holds.mono zN.kn.grows.le;have q0:=MJ.cell q0;have q1:=MJ.cell q1;have q2:=MJ.cell q2;have q3:=MJ.cell q3;have a3b:=zN.box.cell 3 rfl;clear MJ;clear un dE mR zB sY hh hj jR;go_wp2_with fail
 refine(rK bP.out.1.arg _).mono ?_
 rintro e w5 ⟨rfl,qe⟩
 replace zN:=zN.below qe;replace hP:=hP.below qe;clear qe q0 q1 q2 q3 s0 s1 s2 s3 a3 a3b;obtain⟨P,uT⟩:∃ P,wr.heap.size=P:=⟨_,rfl⟩
 rw[uT]at hP⊢;clear uT;obtain⟨k,hk⟩:∃ k,nmR y=k:=⟨_,rfl⟩
 have HK:=Hh hk;rw[hk];clear hk;have z0:=hP.cell 0 rfl;have z1c:=hP.cell 1 rfl;have zb:=hP.cell 2 rfl;have z3c:=hP.cell 3 rfl
 by_cases ha:k=1
 ·subst ha;have mP:Hid (vV q y z={ q with kty:=nmR z }):=by rw[Hid,vV,HK.out];rfl
  clear HK;go_wp2_with fail
  refine(rK bP.out.2.arg _).mono ?_
  rintro e w6 ⟨rfl,sm⟩
  replace zN:=zN.below sm;clear sm z0 z1c zb z3c;obtain⟨n,hn⟩:∃ n,nmR z=n:=⟨_,rfl⟩
  have Uk:=Hh (jp (z:=z));rw[hn]at mP Uk⊢;clear hn;go_wp2_with (with_reducible refine zx ?_)
  refine zu rfl _ _ _ rfl rfl Kb 0 (.int .i64 n) rfl rfl _ _ zN.kn.key (by kernel_rfl) (by simp) rfl fun wt hBt hgt=>?_
  replace zN:=zN.set (kc':=tY { q with kty:=n } a) hBt hgt;clear hBt hgt;go_wp2_with fail
  go_roundw
  case rel=>exact⟨j+2,{ q with kty:=n },a,_,by have:=wT.out;omega,by have:=lQ.out;omega,by go_num,zN,⟨Uk.out,wV.out.crv,wV.out.alg,wV.out.kid,wV.out.x,wV.out.d,wV.out.k⟩,by rw[← lP.out,oQ.out,mP.out]⟩
  case measure=>have:=wT.out;simp[intOf];omega
 have bha:(k==1)=false:=by rw[beq_eq_false_iff_ne];exact ha
 have pha:(k=1)=False:=eq_false ha
 by_cases hb:k=2
 ·subst hb;have mP:Hid (vV q y z={ q with kid:=z.bytes }):=by rw[Hid,vV,HK.out];rfl
  clear HK;go_wp2_with (at_builtin;refine yq ?_)
  refine zW rfl _ _ rfl _ (.slice none 0 0) [] rfl (OwnB.nil _ _) _ _ _ z.bytes rfl rfl (Src.of_row (bP.out.2.mono zN.kn.grows.le).bytes.row zN.kn.grows.holds) (by have:=(yD UP.out).1;simp;omega) (Nat.le_refl _) fun v7 w7 vr yQ hat7=>?_
  rw[List.nil_append]at vr;obtain⟨A7,c7,rfl,vJ⟩:=vr.form;clear vJ;obtain⟨H7,xp,uq,vJ⟩:=Fresh.snapB zN.kn.grows.holds ⟨vr,yr yQ⟩;clear vJ vr yQ hat7;replace zN:=zN.grow xp;replace wV:=Hh (wV.out.mono xp.le);have Yk:=Hh uq;clear xp uq z0 z1c zb z3c;go_wp2_with (with_reducible refine zx ?_)
  refine zu rfl _ _ _ rfl rfl Kb 3 (.slice A7 z.bytes.length c7) rfl rfl _ _ zN.kn.key (by kernel_rfl) (by simp) rfl fun wt hBt hgt=>?_
  replace zN:=zN.set (kc':=tY { q with kid:=z.bytes } { a with ia:=A7,ic:=c7 }) hBt hgt;clear hBt hgt;go_wp2_with fail
  go_roundw
  case rel=>exact⟨j+2,{ q with kid:=z.bytes },{ a with ia:=A7,ic:=c7 },_,by have:=wT.out;omega,by have:=lQ.out;omega,by go_num,zN,⟨wV.out.kty,wV.out.crv,wV.out.alg,Yk.out,wV.out.x,wV.out.d,wV.out.k⟩,by rw[← lP.out,oQ.out,mP.out]⟩
  case measure=>have:=wT.out;simp[intOf];omega
 have bhb:(k==2)=false:=by rw[beq_eq_false_iff_ne];exact hb
 have phb:(k=2)=False:=eq_false hb
 by_cases hc:k=3
 ·subst hc;have mP:Hid (vV q y z={ q with alg:=nmR z }):=by rw[Hid,vV,HK.out];rfl
  clear HK;go_wp2_with fail
  refine(rK bP.out.2.arg _).mono ?_
  rintro e w6 ⟨rfl,sm⟩
  replace zN:=zN.below sm;clear sm z0 z1c zb z3c;obtain⟨n,hn⟩:∃ n,nmR z=n:=⟨_,rfl⟩
  have Uk:=Hh (jp (z:=z));rw[hn]at mP Uk⊢;clear hn;go_wp2_with (with_reducible refine zx ?_)
  refine zu rfl _ _ _ rfl rfl Kb 2 (.int .i64 n) rfl rfl _ _ zN.kn.key (by kernel_rfl) (by simp) rfl fun wt hBt hgt=>?_
  replace zN:=zN.set (kc':=tY { q with alg:=n } a) hBt hgt;clear hBt hgt;go_wp2_with fail
  go_roundw
  case rel=>exact⟨j+2,{ q with alg:=n },a,_,by have:=wT.out;omega,by have:=lQ.out;omega,by go_num,zN,⟨wV.out.kty,wV.out.crv,Uk.out,wV.out.kid,wV.out.x,wV.out.d,wV.out.k⟩,by rw[← lP.out,oQ.out,mP.out]⟩
  case measure=>have:=wT.out;simp[intOf];omega
 have bhc:(k==3)=false:=by rw[beq_eq_false_iff_ne];exact hc
 have phc:(k=3)=False:=eq_false hc
 by_cases hd:k = -1
 ·subst hd;have mP:Hid (vV q y z={ q with crv:=nmR z,k:=z.bytes }):=by rw[Hid,vV,HK.out];rfl
  clear HK;obtain⟨n,hn⟩:∃ n,nmR z=n:=⟨_,rfl⟩
  have en:=Hh hn;have Uk:=Hh (jp (z:=z));rw[hn]at mP Uk;clear hn;go_upto_region 18 with fail
  replace zN:=zN.drew;replace hP:=hP.drew
  refine zX 6 (fun wx=>wx.cell? ⟨P,0,none⟩=some (.int .i64 z.kind)∧wx.cell? ⟨P,1,none⟩=some (.int .u64 z.n)∧wx.cell? ⟨P,2,none⟩=some (.slice z1 z.bytes.length z2)∧wx.cell? ⟨P,3,none⟩=some (.slice z3 z.items.length z4)) (by kernel_rfl) (⟨z0,z1c,zb,z3c⟩) (fun zy=>?_)
  refine Zk 0 rfl zy ?_
  refine Zk 2 rfl zy ?_
  refine Zk 3 rfl zy ?_
  refine Zo 1 rfl fun K hK=>?_
  go_simp
  refine(rK bP.out.2.arg _).mono ?_
  rintro e w6 ⟨rfl,sm⟩
  rw[en.out];replace zN:=zN.below sm;replace hP:=hP.below sm;clear sm
  refine Ko hK ?_ fun zy=>?_
  ·exact jdN
  clear hK K
  refine Zk 5 rfl zy ?_
  refine Zo 4 rfl fun K hK=>?_
  rw[if_pos (by rfl)]
  refine vk _ _ rfl _ (.slice none 0 0) [] rfl (OwnB.nil _ _) _ _ _ z.bytes rfl rfl (Src.of_row (bP.out.2.mono zN.kn.grows.le).bytes.row zN.kn.grows.holds) (by have:=(yD UP.out).1;simp;omega) (Nat.le_refl _) fun v7 w7 vr yQ hat7=>?_
  rw[List.nil_append]at vr;obtain⟨A7,c7,rfl,vJ⟩:=vr.form;clear vJ;obtain⟨H7,xp,uq,vJ⟩:=Fresh.snapB zN.kn.grows.holds ⟨vr,yr yQ⟩;clear vJ vr yQ hat7;replace zN:=zN.grow xp;replace hP:=hP.below xp.below;replace wV:=Hh (wV.out.mono xp.le);have Yk:=Hh uq;clear xp uq
  refine Ko hK ?_ fun zy=>?_
  ·exact jdN
  clear hK K
  refine Zo 6 rfl fun K hK=>?_
  rw[if_pos (by rfl)]
  refine yw _ _ _ rfl Kb 1 (.int .i64 n) rfl rfl _ _ zN.kn.key (by kernel_rfl) (by simp) rfl fun wt hBt hgt=>?_
  replace zN:=zN.set (kc':=tY { q with crv:=n } a) hBt hgt;clear hBt hgt
  refine Kz hK ?_
  clear hK K
  refine ZkT 7 rfl (fun h=>absurd h (by decide)) ?_
  refine Zo 8 rfl fun K hK=>?_
  rw[if_pos (by rfl)]
  refine yw _ _ _ rfl Kb 6 (.slice A7 z.bytes.length c7) rfl rfl _ _ zN.kn.key (by kernel_rfl) (by simp) rfl fun wt hBt hgt=>?_
  replace zN:=zN.set (kc':=tY { q with crv:=n,k:=z.bytes } { a with ka:=A7,kc:=c7 }) hBt hgt;clear hBt hgt
  refine Kz hK ?_
  clear hK K
  refine WaysZ.done (by kernel_rfl) ?_
  clear zy z0 z1c zb z3c hP;go_wp2_with fail
  go_roundw
  case rel=>exact⟨j+2,{ q with crv:=n,k:=z.bytes },{ a with ka:=A7,kc:=c7 },_,by have:=wT.out;omega,by have:=lQ.out;omega,by go_num,zN,⟨wV.out.kty,Uk.out,wV.out.alg,wV.out.kid,wV.out.x,wV.out.d,Yk.out⟩,by rw[← lP.out,oQ.out,mP.out]⟩
  case measure=>have:=wT.out;simp[intOf];omega
 have bhd:(k == -1)=false:=by rw[beq_eq_false_iff_ne];exact hd
 have phd:(k = -1)=False:=eq_false hd
 by_cases he:k = -2
 ·subst he;have mP:Hid (vV q y z={ q with x:=z.bytes }):=by rw[Hid,vV,HK.out];rfl
  clear HK;go_wp2_with (at_builtin;refine yq ?_)
  refine zW rfl _ _ rfl _ (.slice none 0 0) [] rfl (OwnB.nil _ _) _ _ _ z.bytes rfl rfl (Src.of_row (bP.out.2.mono zN.kn.grows.le).bytes.row zN.kn.grows.holds) (by have:=(yD UP.out).1;simp;omega) (Nat.le_refl _) fun v7 w7 vr yQ hat7=>?_
  rw[List.nil_append]at vr;obtain⟨A7,c7,rfl,vJ⟩:=vr.form;clear vJ;obtain⟨H7,xp,uq,vJ⟩:=Fresh.snapB zN.kn.grows.holds ⟨vr,yr yQ⟩;clear vJ vr yQ hat7;replace zN:=zN.grow xp;replace wV:=Hh (wV.out.mono xp.le);have Yk:=Hh uq;clear xp uq z0 z1c zb z3c;go_wp2_with (with_reducible refine zx ?_)
  refine zu rfl _ _ _ rfl rfl Kb 4 (.slice A7 z.bytes.length c7) rfl rfl _ _ zN.kn.key (by kernel_rfl) (by simp) rfl fun wt hBt hgt=>?_
  replace zN:=zN.set (kc':=tY { q with x:=z.bytes } { a with xa:=A7,xc:=c7 }) hBt hgt;clear hBt hgt;go_wp2_with fail
  go_roundw
  case rel=>exact⟨j+2,{ q with x:=z.bytes },{ a with xa:=A7,xc:=c7 },_,by have:=wT.out;omega,by have:=lQ.out;omega,by go_num,zN,⟨wV.out.kty,wV.out.crv,wV.out.alg,wV.out.kid,Yk.out,wV.out.d,wV.out.k⟩,by rw[← lP.out,oQ.out,mP.out]⟩
  case measure=>have:=wT.out;simp[intOf];omega
 have bhe:(k == -2)=false:=by rw[beq_eq_false_iff_ne];exact he
 have phe:(k = -2)=False:=eq_false he
 by_cases hf:k = -4
 ·subst hf;have mP:Hid (vV q y z={ q with d:=z.bytes }):=by rw[Hid,vV,HK.out];rfl
  clear HK;go_wp2_with (at_builtin;refine yq ?_)
  refine zW rfl _ _ rfl _ (.slice none 0 0) [] rfl (OwnB.nil _ _) _ _ _ z.bytes rfl rfl (Src.of_row (bP.out.2.mono zN.kn.grows.le).bytes.row zN.kn.grows.holds) (by have:=(yD UP.out).1;simp;omega) (Nat.le_refl _) fun v7 w7 vr yQ hat7=>?_
  rw[List.nil_append]at vr;obtain⟨A7,c7,rfl,vJ⟩:=vr.form;clear vJ;obtain⟨H7,xp,uq,vJ⟩:=Fresh.snapB zN.kn.grows.holds ⟨vr,yr yQ⟩;clear vJ vr yQ hat7;replace zN:=zN.grow xp;replace wV:=Hh (wV.out.mono xp.le);have Yk:=Hh uq;clear xp uq z0 z1c zb z3c;go_wp2_with (with_reducible refine zx ?_)
  refine zu rfl _ _ _ rfl rfl Kb 5 (.slice A7 z.bytes.length c7) rfl rfl _ _ zN.kn.key (by kernel_rfl) (by simp) rfl fun wt hBt hgt=>?_
  replace zN:=zN.set (kc':=tY { q with d:=z.bytes } { a with da:=A7,dc:=c7 }) hBt hgt;clear hBt hgt;go_wp2_with fail
  go_roundw
  case rel=>exact⟨j+2,{ q with d:=z.bytes },{ a with da:=A7,dc:=c7 },_,by have:=wT.out;omega,by have:=lQ.out;omega,by go_num,zN,⟨wV.out.kty,wV.out.crv,wV.out.alg,wV.out.kid,wV.out.x,Yk.out,wV.out.k⟩,by rw[← lP.out,oQ.out,mP.out]⟩
  case measure=>have:=wT.out;simp[intOf];omega
 have bhf:(k == -4)=false:=by rw[beq_eq_false_iff_ne];exact hf
 have phf:(k = -4)=False:=eq_false hf;have mP:Hid (vV q y z=q):=by rw[Hid,vV,HK.out,if_neg ha,if_neg hb,if_neg hc,if_neg hd,if_neg he,if_neg hf]
 clear HK ha hb hc hd he hf hP z0 z1c zb z3c;go_wp2_with fail
 go_roundw
 case rel=>exact⟨j+2,q,a,_,by have:=wT.out;omega,by have:=lQ.out;omega,by go_num,zN,wV.out,by rw[← lP.out,oQ.out,mP.out]⟩
 case measure=>have:=wT.out;simp[intOf];omega
def wZ (s:ByteArray):Bool:=decide (s.size≤64)&&Lib.validD s.data.toList
theorem jJ {H:Snap}(hTab:Tabs H) (s:ByteArray) (hs:s.size≤9223372036854775807) (w:World) (hH:Holds w H) :
  Calls Tryz.prog 55 #[.string s] w fun e w'=>e=.returned (.bool (wZ s))∧Below w.heap.size w w':=by
 obtain⟨n,hn⟩:∃ n,s.size=n:=⟨_,rfl⟩
 have PC:((s.size:Nat):Int)=(n:Int):=by rw[hn]
 by_cases h:n≤64
 ·have VS:=Hh (utf8_ValidString hTab w hH s (by omega));have E:Hid (wZ s=Lib.validD s.data.toList):=by rw[Hid,wZ,hn,decide_eq_true h,Bool.true_and]
  obtain⟨q,hq⟩:∃ q,Lib.validD s.data.toList=q:=⟨_,rfl⟩
  rw[hq]at E VS;have hi:(n:Int)≤64:=by omega
  clear hq hn hTab hH hs h;go_enter Tryz.func55,Tryz.ntmps55
  exact jcK
 have E:Hid (wZ s=false):=by rw[Hid,wZ,hn,decide_eq_false h,Bool.false_and]
 have hi:¬ (n:Int)≤64:=by omega
 clear hn hTab hH hs h;go_enter Tryz.func55,Tryz.ntmps55
 exact jdR
structure Cl where
 issuer:ByteArray
 subject:ByteArray
 since:Int
 till:Int
 key:Ky
abbrev clC (i s:ByteArray) (f u t v g:Int) (Ai:Option Addr) (ni ci:Nat) (Ax:Option Addr) (nx cx:Nat) (Ad:Option Addr) (nd cd:Nat) (Ak:Option Addr) (nk ck:Nat):Array Value :=
 #[.string i,.string s,.int .i64 f,.int .i64 u,.int .i64 t,.int .i64 v,.int .i64 g,.slice Ai ni ci,.slice Ax nx cx,.slice Ad nd cd,.slice Ak nk ck]
abbrev clQ (c:Cl) (a:KAd):Array Value:=clC c.issuer c.subject c.since c.till c.key.kty c.key.crv c.key.alg a.ia c.key.kid.length a.ic a.xa c.key.x.length a.xc a.da c.key.d.length a.dc a.ka c.key.k.length a.kc
structure ClA (H:Snap) (c:Cl) (a:KAd):Prop where
 issuer:c.issuer.size≤9223372036854775807
 subject:c.subject.size≤9223372036854775807
 since : -9223372036854775808≤c.since∧c.since≤9223372036854775807
 till : -9223372036854775808≤c.till∧c.till≤9223372036854775807
 key:KeyA H c.key a
theorem ClA.mono {H K:Snap}{c:Cl}{a:KAd}(h:ClA H c a) (hl:H.le K):ClA K c a:=⟨h.issuer,h.subject,h.since,h.till,h.key.mono hl⟩
def zE (c:Cl):Bool:=wZ c.issuer&&wZ c.subject&&decide (c.subject≠⟨#[]⟩)&&decide (0≤c.since)&&decide (c.since≤1073741824)&&decide (0≤c.till)&&decide (c.till≤1073741824)&&decide (¬ (0<c.till∧c.till<c.since))&&xY c.key&&decide (c.key.kty=1)&&decide (0<c.key.x.length)&&decide (c.key.d.length=0)
theorem vT (c:Cl):zE c=true↔wZ c.issuer=true∧wZ c.subject=true∧c.subject≠⟨#[]⟩∧0≤c.since∧c.since≤1073741824∧0≤c.till∧c.till≤1073741824∧¬ (0<c.till∧c.till<c.since)∧xY c.key=true∧c.key.kty=1∧0<c.key.x.length∧c.key.d.length=0:=by
 simp only[zE,Bool.and_eq_true,decide_eq_true_eq,and_assoc]
theorem du {c:Cl}(h:¬ (wZ c.issuer=true∧wZ c.subject=true∧c.subject≠⟨#[]⟩∧0≤c.since∧c.since≤1073741824∧0≤c.till∧c.till≤1073741824∧¬ (0<c.till∧c.till<c.since)∧xY c.key=true∧c.key.kty=1∧0<c.key.x.length∧c.key.d.length=0)):zE c=false:=by
 cases hv:zE c with
 | false=>rfl
 | true=>exact absurd ((vT c).1 hv) h
theorem t8 (s:ByteArray):s.toList.isEmpty=true↔s=⟨#[]⟩:=by
 rw[List.isEmpty_iff,ByteArray.toList_eq]
 cases s with
 | mk d=>simp
theorem jI {H:Snap}(hTab:Tabs H) {c:Cl}{a:KAd}(hc:ClA H c a) (w:World) (hH:Holds w H) :
  Calls Tryz.prog 47 #[.agg (clQ c a)] w fun e w'=>e=.returned (.bool (zE c))∧Below w.heap.size w w':=by
 obtain⟨nx,Rg⟩:∃ n,n=c.key.x.length:=⟨_,rfl⟩
 obtain⟨nd,Px⟩:∃ n,n=c.key.d.length:=⟨_,rfl⟩
 have HN:=Hh (And.intro Rg Px);have HC:=Hh hc;have N1:=Hh (fun w hH=>jJ hTab c.issuer hc.issuer w hH);have N2:=Hh (fun w hH=>jJ hTab c.subject hc.subject w hH);have V:Hid (∀ W,Calls Tryz.prog 56 #[.agg (uO c.key.kty c.key.crv c.key.alg a.ia c.key.kid.length a.ic a.xa c.key.x.length a.xc a.da c.key.d.length a.dc a.ka c.key.k.length a.kc)] W fun e w'=>e=.returned (.bool (xY c.key))∧Below W.heap.size W w'):=fun W=>fi c.key.kty c.key.crv c.key.alg a.ia c.key.kid.length a.ic a.xa c.key.x.length a.xc a.da c.key.d.length a.dc a.ka c.key.k.length a.kc W hc.key.len.1 hc.key.len.2
 show Calls Tryz.prog 47 #[.agg (clC c.issuer c.subject c.since c.till c.key.kty c.key.crv c.key.alg a.ia c.key.kid.length a.ic a.xa c.key.x.length a.xc a.da c.key.d.length a.dc a.ka c.key.k.length a.kc)] w _
 rw[← Rg,← Px]at V⊢;obtain⟨ni,MS⟩:∃ n,c.key.kid.length=n:=⟨_,rfl⟩
 obtain⟨nk,MT⟩:∃ n,c.key.k.length=n:=⟨_,rfl⟩
 rw[MS,MT]at V⊢;obtain⟨hB,hb,HH,oP⟩:=jgi;have Hj:=Hh (vT c);have c0:=jf8;clear Rg Px MS MT hTab hc hH;go_enter Tryz.func47,Tryz.ntmps47
 go_wp2_with fail
 refine(N1.out _ (HH.out.below hb (Nat.le_refl _))).mono ?_
 rintro e w2 ⟨rfl,zC⟩
 replace hB:=hB.below zC;replace hb:=hb.trans (zC.mono hb.size);clear zC c0 N1
 cases h1:wZ c.issuer with
 | false =>
  exact jeK
 | true =>
 have H1:=Hh h1;clear h1;have c1:=jgG;go_wp2_with fail
 refine(N2.out _ (HH.out.below hb (Nat.le_refl _))).mono ?_
 rintro e w3 ⟨rfl,xy⟩
 replace hB:=hB.below xy;replace hb:=hb.trans (xy.mono hb.size);clear xy c1 N2
 cases h2:wZ c.subject with
 | false =>
  exact jeJ
 | true =>
 have H2:=Hh h2;clear h2;obtain⟨c1,c2,c3⟩:=jgd
 by_cases hs:c.subject=⟨#[]⟩
 ·exact jfh
 have s2:c.subject.toList.isEmpty=false:=by cases h:c.subject.toList.isEmpty with | false=>rfl | true=>exact absurd ((t8 _).1 h) hs
 have HS:=Hh hs;clear hs
 by_cases f0:c.since<0
 ·exact jfr
 by_cases f1:1073741824<c.since
 ·exact jfq
 by_cases u0:c.till<0
 ·exact jfp
 by_cases u1:1073741824<c.till
 ·exact jfo
 have HF:=Hh (And.intro f0 (And.intro f1 (And.intro u0 u1)))
 by_cases hfu:0<c.till∧c.till<c.since
 ·have E:Hid (zE c=false):=oP.out (fun h=>h.2.2.2.2.2.2.2.1 hfu);obtain⟨g0,g1⟩:=hfu;exact jej
 have RD:=Hh hfu;have c4:=hB.cell 4 rfl;have c5:=hB.cell 5 rfl;have c6:=hB.cell 6 rfl;have c7:=hB.cell 7 rfl;have c8:=hB.cell 8 rfl;have c9:=hB.cell 9 rfl;have c10:=hB.cell 10 rfl;have fin:∀ (w':World),True:=fun _=>trivial
 have go2:Hid (zE c=(xY c.key&&decide (c.key.kty=1)&&decide (0<nx)&&decide (nd=0))):=by
  exact jbj
 by_cases g0:0<c.till
 ·have g1:¬ c.till<c.since:=fun h=>hfu ⟨g0,h⟩
  clear hfu fin;exact jae
 clear hfu fin;exact jae
def xq (s:ByteArray):Itm:=.mk 3 0 s.data.toList []
def vu (q:Ky):Itm:=.mk 5 0 [] [zr 1,vW q]
def xQ (s:ByteArray):List Itm:=if s=⟨#[]⟩ then [] else [zr 1,xq s]
def yy (k n:Int):List Itm:=if 0<n then [zr k,zr n] else []
def yR (c:Cl):List Itm:=xQ c.issuer++[zr 2,xq c.subject]++yy 4 c.till++yy 5 c.since++[zr 8,vu c.key]
def xP (c:Cl):Itm:=.mk 5 0 [] (yR c)
theorem Xv:Lib.compareBytes (zf (zr 1)) (zf (zr 2))<0∧Lib.compareBytes (zf (zr 2)) (zf (zr 4))<0∧Lib.compareBytes (zf (zr 2)) (zf (zr 5))<0∧Lib.compareBytes (zf (zr 2)) (zf (zr 8))<0∧
  Lib.compareBytes (zf (zr 4)) (zf (zr 5))<0∧Lib.compareBytes (zf (zr 4)) (zf (zr 8))<0∧Lib.compareBytes (zf (zr 5)) (zf (zr 8))<0:=by
 rw[xG,xG,xG,xG,xG];decide +kernel
theorem lj (c:Cl):xE (yR c)=true:=by
 obtain⟨Yo,tZ,Yp,Ms,J5,J6,J7⟩:=Xv
 unfold yR xQ yy
 repeat' split
 all_goals simp[xE,Yo,tZ,Yp,Ms,J5,J6,J7]
theorem qm (c:Cl):(yR c).length%2=0∧4≤(yR c).length∧(yR c).length≤10:=by
 unfold yR xQ yy
 repeat' split
 all_goals simp
theorem kh {s:ByteArray}(h:wZ s=true):s.data.toList.length≤64∧Lib.validD s.data.toList=true:=by
 unfold wZ at h
 rw[Bool.and_eq_true,decide_eq_true_eq]at h
 exact⟨by rw[Array.length_toList];exact h.1,h.2⟩
theorem ov {s:ByteArray}(h:wZ s=true):s.size≤64:=by
 unfold wZ at h
 rw[Bool.and_eq_true,decide_eq_true_eq]at h
 exact h.1
theorem dd {s:ByteArray}(h:wZ s=true) (lv:Nat):Good (xq s) lv:=aQ 3 (.inr rfl) _ lv (fun _=>(kh h).2)
theorem gA {l:List Itm}{lv:Nat}(hlv:lv≤7) (he:l.length%2=0) (hg:GoodL l (lv+1)) (ha:xE l=true):Good (.mk 5 0 [] l) lv:=by
 refine Good.of ?_ hg (fun _=>ha)
 rw[y9,if_neg (by rw[zP];simp[Itm.kind]),vl]
 simp[Itm.kind,Itm.bytes,Itm.items,Itm.n,he]
 omega
theorem ZQ (q:Ky):Good (vW q) 2:=gA (by omega) (qC q) (kS q 3) (ol q)
theorem VD (q:Ky):Good (vu q) 1:=gA (by omega) (by simp) (by simp[GoodL,tx,ZQ]) rfl
theorem Xh {c:Cl}(h:zE c=true):Good (xP c) 0:=by
 have hv:=(vT c).1 h
 refine gA (by omega) (qm c).1 (GoodL.of fun x hx=>?_) (lj c)
 unfold yR xQ yy at hx
 simp only[List.mem_append]at hx
 rcases hx with (((hx | hx) | hx) | hx) | hx
 ·split at hx
  ·simp at hx
  simp at hx
  rcases hx with rfl | rfl
  ·exact tx _ _
  exact dd hv.1 _
 ·simp at hx
  rcases hx with rfl | rfl
  ·exact tx _ _
  exact dd hv.2.1 _
 ·exact jdB
 ·exact jdB
 simp at hx
 rcases hx with rfl | rfl
 ·exact tx _ _
 exact VD _
theorem dg {s:ByteArray}(h:wZ s=true):dy (xq s):=by
 refine⟨by simp[xq,cnt,xM], ?_⟩
 have h1:=rb 3 0 s.data.toList [] (by decide) (by decide);have h2:=(kh h).1
 simp only[zG,List.length_nil]at h1
 simp only[xq]
 omega
theorem QB {q:Ky}(h:xY q=true):cnt (vu q)≤15∧(zf (vu q)).length≤1000:=by
 have hs:=lD (yI q) (jE h);have hl:=oz q;have h1:=wl 1;have hk:=rb 5 0 [] (yI q) (by decide) (by decide);have hc:=rb 5 0 [] [zr 1,vW q] (by decide) (by decide);have e:zG [zr 1,vW q]=zf (zr 1)++zf (vW q):=by simp[zG]
 have e2:zf (vW q)=zf (.mk 5 0 [] (yI q)):=rfl;rw[e,List.length_append,e2]at hc;have h2:=h1.2;have h3:=h1.1
 refine⟨?_, ?_⟩
 ·show cnt (.mk 5 0 [] [zr 1,.mk 5 0 [] (yI q)])≤15
  simp only[cnt,xM]
  rw[hs.1]
  omega
 show(zf (.mk 5 0 [] [zr 1,vW q])).length≤1000
 simp only[List.length_nil]at hk hc
 omega
def jV (c:Cl):List Itm:=xQ c.issuer++[zr 2,xq c.subject]++yy 4 c.till++yy 5 c.since
theorem Xs {c:Cl}(h:zE c=true):∀ x∈jV c,dy x:=by
 have hv:=(vT c).1 h
 intro x hx
 unfold jV xQ yy at hx
 simp only[List.mem_append]at hx
 rcases hx with ((hx | hx) | hx) | hx
 ·split at hx
  ·simp at hx
  simp at hx
  rcases hx with rfl | rfl
  ·exact wl _
  exact dg hv.1
 ·simp at hx
  rcases hx with rfl | rfl
  ·exact wl _
  exact dg hv.2.1
 ·exact jdE
 exact jdE
theorem dS:∀ l m:List Itm,xM (l++m)=xM l+xM m
 | [],m=>by simp[xM]
 | x::l,m=>by rw[List.cons_append,xM,xM,dS l m];omega
theorem VJ (c:Cl):(jV c).length≤8:=by
 unfold jV xQ yy
 repeat' split
 all_goals simp
theorem jm {c:Cl}(h:zE c=true):cnt (xP c)≤26∧(zf (xP c)).length≤1700:=by
 have hv:=(vT c).1 h;have hs:=lD (jV c) (Xs h);have hl:=VJ c;have hk:=QB hv.2.2.2.2.2.2.2.2.1;have h1:=wl 8;have hc:=rb 5 0 [] (yR c) (by decide) (by decide)
 have e:zG (yR c)=zG (jV c)++(zf (zr 8)++zf (vu c.key)):=by
  show zG (jV c++[zr 8,vu c.key])=_
  rw[sr]
  simp[zG]
 rw[e,List.length_append,List.length_append]at hc;have h2:=h1.2;have h3:=h1.1
 refine⟨?_, ?_⟩
 ·show cnt (.mk 5 0 [] (jV c++[zr 8,vu c.key]))≤26
  rw[cnt,dS,hs.1]
  simp only[xM]
  omega
 show(zf (.mk 5 0 [] (yR c))).length≤1700
 simp only[List.length_nil]at hc
 omega
theorem vj {c:Cl}(h:zE c=true):zR (xP c)=true :=
 (wj _).mpr ⟨Xh h,by have:=(jm h).1;omega,by have:=(jm h).2;omega⟩
theorem gM {c:Cl}(h:zE c=true):(yR c).length%2=0∧xE (yR c)=true∧(∀ x∈yR c,zR x=true)∧zR (.mk 5 0 [] (yR c))=true :=
 ⟨(qm c).1,lj c,fun x hx=>uI (vj h) (show x∈(xP c).items from hx),vj h⟩
def qQ (x:Itm):Ky:=if zR x&&xY (vU yP x.items)&&tC (vW (vU yP x.items)) x then vU yP x.items else yP
theorem ko {x:Itm}{q:Ky}(hv:zR x=true) (h:sS x q):qQ x=q:=by
 have e:=oo h
 unfold qQ
 rw[e,hv,h.1,(vI _ _).2 h.2];rfl
theorem aT {x:Itm}(h:¬ (zR x=true∧∃ q,sS x q)):qQ x=yP:=by
 unfold qQ
 split
 ·rename_i hc
  rw[Bool.and_eq_true,Bool.and_eq_true]at hc
  exact absurd ⟨hc.1.1,_,hc.1.2,(vI _ _).1 hc.2⟩ h
 rfl
def uY (b:List UInt8):ByteArray:=⟨b.toArray⟩
theorem rN (s:ByteArray):uY s.data.toList=s:=by cases s;rfl
def qJ (n:Nat):Int:=((min n 1099511627776:Nat):Int)
def mN:Cl:=⟨⟨#[]⟩,⟨#[]⟩,0,0,yP⟩
def tq (c:Cl) (k v:Itm):Cl :=
 if k.n=1 then { c with issuer:=uY v.bytes } else if k.n=2 then { c with subject:=uY v.bytes } else if k.n=4 then { c with till:=qJ v.n }
 else if k.n=5 then { c with since:=qJ v.n } else if k.n=8 then(match v.items with | [_,b]=>if v.kind=5 then { c with key:=qQ b } else c | _=>c) else c
def ue:Cl→List Itm→Option Cl
 | c,k::v::l=>if k.kind=0 then ue (tq c k v) l else none
 | c,_=>some c
def yE (x:Itm):Option Cl:=if x.kind=5 then(match ue mN x.items with | none=>none | some c=>if zE c&&tC (xP c) x then some c else none) else none
theorem dO (c:Cl):ue c []=some c:=by simp[ue]
theorem XW (c:Cl) (l:List Itm) (j:Nat) (h:j+1<l.length):ue c (l.drop j)=if(l[j]'(by omega)).kind=0 then ue (tq c (l[j]'(by omega)) l[j+1]) (l.drop (j+2)) else none:=by
 rw[List.drop_eq_getElem_cons (by omega:j<l.length),List.drop_eq_getElem_cons h,ue]
theorem od {x:Itm}{c:Cl}(h:yE x=some c):zE c=true∧xP c=x:=by
 unfold yE at h
 split at h
 ·split at h
  ·cases h
  split at h
  ·rename_i hc
   rw[Bool.and_eq_true]at hc;injection h with h
   subst h
   exact⟨hc.1,(vI _ _).1 hc.2⟩
  cases h
 cases h
theorem dQ (c:Cl) (k:Int) (s:ByteArray) (l:List Itm) (hk:0≤k):ue c (zr k::xq s::l)=ue (tq c (.mk 0 k.toNat [] []) (xq s)) l:=by
 exact jdz
theorem aF {n:Int}(h0:0≤n) (h:n≤1073741824):qJ n.toNat=n:=by
 unfold qJ
 omega
theorem dP (c:Cl) (k n:Int) (l:List Itm) (hk:0≤k):ue c (zr k::zr n::l)=ue (tq c (.mk 0 k.toNat [] []) (zr n)) l:=by
 exact jdz
theorem ZK {c:Cl}(h:zE c=true):ue mN (yR c)=some c:=by
 have hv:=(vT c).1 h;have hq:zR (vW c.key)=true∧sS (vW c.key) c.key:=⟨vB hv.2.2.2.2.2.2.2.2.1,hv.2.2.2.2.2.2.2.2.1,rfl⟩
 obtain⟨i,s,f,t,q⟩:=c
 simp only at hv hq
 have last:∀ (c':Cl),c'=⟨i,s,f,t,yP⟩→ue c' [zr 8,vu q]=some ⟨i,s,f,t,q⟩:=by
  rintro _ rfl
  have e:zr 8=.mk 0 8 [] []:=rfl;rw[ue,e,if_pos (show(Itm.mk 0 8 [] []).kind=0 from rfl),dO]
  unfold tq
  simp only[Itm.n,vu,Itm.items,Itm.kind]
  rw[ko hq.1 hq.2];rfl
 have hf:∀ (c':Cl),c'=⟨i,s,0,t,yP⟩→ue c' (yy 5 f++[zr 8,vu q])=some ⟨i,s,f,t,q⟩:=by
  rintro _ rfl
  unfold yy
  split
  ·rw[List.cons_append,List.cons_append,List.nil_append,dP _ _ _ _ (by omega)]
   refine last _ ?_
   show(⟨i,s,qJ (zr f).n,t,yP⟩:Cl)=_
   rw[zr,if_neg (by omega)];show(⟨i,s,qJ f.toNat,t,yP⟩:Cl)=_
   rw[aF (by omega) (by omega)]
  rw[List.nil_append]
  refine last _ ?_
  rw[show f=0 by omega]
 have ht:∀ (c':Cl),c'=⟨i,s,0,0,yP⟩→ue c' (yy 4 t++(yy 5 f++[zr 8,vu q]))=some ⟨i,s,f,t,q⟩:=by
  rintro _ rfl
  rw[yy]
  split
  ·rw[List.cons_append,List.cons_append,List.nil_append,dP _ _ _ _ (by omega)]
   refine hf _ ?_
   show(⟨i,s,0,qJ (zr t).n,yP⟩:Cl)=_
   rw[zr,if_neg (by omega)];show(⟨i,s,0,qJ t.toNat,yP⟩:Cl)=_
   rw[aF (by omega) (by omega)]
  rw[List.nil_append]
  refine hf _ ?_
  rw[show t=0 by omega]
 have hs:∀ (c':Cl),c'=⟨i,⟨#[]⟩,0,0,yP⟩→ue c' ([zr 2,xq s]++(yy 4 t++(yy 5 f++[zr 8,vu q])))=some ⟨i,s,f,t,q⟩:=by
  rintro _ rfl
  rw[List.cons_append,List.cons_append,List.nil_append,dQ _ _ _ _ (by omega)]
  refine ht _ ?_
  show(⟨i,uY s.data.toList,0,0,yP⟩:Cl)=_
  rw[rN]
 unfold yR
 simp only[List.append_assoc]
 rw[xQ]
 split
 ·rename_i hi
  rw[List.nil_append]
  refine hs _ ?_
  show(⟨⟨#[]⟩,⟨#[]⟩,0,0,yP⟩:Cl)=_
  rw[hi]
 rw[List.cons_append,List.cons_append,List.nil_append,dQ _ _ _ _ (by omega)]
 refine hs _ ?_
 show(⟨uY i.data.toList,⟨#[]⟩,0,0,yP⟩:Cl)=_
 rw[rN]
theorem j8 (x:Itm) (c:Cl):yE x=some c↔zE c=true∧xP c=x:=by
 refine⟨od,fun⟨h1,h2⟩=>?_⟩
 subst h2
 unfold yE
 have e:(xP c).items=yR c:=rfl;rw[if_pos (show(xP c).kind=5 from rfl),e,ZK h1]
 simp only[h1,(vI (xP c) (xP c)).2 rfl,Bool.and_self,if_true]
structure IS (W0:World) (H:Snap) (cc:Array Value) (v:Value) (L:List Itm) (w:World) (Hr:Snap):Prop where
 grows:Grows W0 H w Hr
 hB:Hr W0.heap.size=none
 hT:Hr (W0.heap.size+1)=none
 box:Blk w W0.heap.size 63 cc
 res:Blk w (W0.heap.size+1) 83 xi
 own:OwnI w (W0.heap.size+2) v Hr L
 apart:∀ g,v.ownBlock=some g→Hr g=none
section
variable {W0 w w':World} {H Hr Hs:Snap} {cc:Array Value} {v v':Value} {L news:List Itm}
theorem IS.grow (h:IS W0 H cc v L w Hr) (k:Grows w Hr w' Hs):IS W0 H cc v L w' Hs :=
 ⟨h.grows.trans k,k.none h.hB h.box.lt,k.none h.hT h.res.lt,h.box.below k.below,h.res.below k.below,(h.own.below k.below).mono k.le,fun g hg=>k.none (h.apart g hg) (h.own.lt g hg).2⟩
theorem IS.below (h:IS W0 H cc v L w Hr) (k:Below w.heap.size w w'):IS W0 H cc v L w' Hr:=h.grow (Grows.of_below h.grows.holds k)
theorem IS.alloc (h:IS W0 H cc v L w Hr) (o:Obj):IS W0 H cc v L (w.alloc o) Hr:=h.below (zm w o)
theorem IS.drew (h:IS W0 H cc v L w Hr):IS W0 H cc v L w.drew Hr:=h.below (Below.refl _ _).drew
theorem IS.base (h:IS W0 H cc v L w Hr):W0.heap.size+2≤w.heap.size:=by have:=h.res.lt;omega
theorem IS.litZ (h:IS W0 H cc v L w Hr) (cs:Array Value) (e:TypeId):Src (w.alloc (.cells cs e)) (some ⟨w.heap.size,0,none⟩) cs.toList:=Src.lit w cs e
theorem IS.app (h:IS W0 H cc v L w Hr) (hO:OwnI w' (W0.heap.size+2) v' Hr (L++news)) (hg:w.grownBy w' v.ownBlock) (ha:At0 w v.ownBlock v'.ownBlock):IS W0 H cc v' (L++news) w' Hr :=
 ⟨h.grows.grownRow h.apart (fun g hg=>by have:=(h.own.lt g hg).1;omega) hg,h.hB,h.hT,h.box.grown hg (fun e=>by have:=(h.own.lt _ e).1;omega),h.res.grown hg (fun e=>by have:=(h.own.lt _ e).1;omega),hO,fun g hv=>by
  rcases ha with e | ⟨g',e,hs⟩
  ·exact jb0
  rw[hv]at e;injection e with e
  subst e
  exact h.grows.hidden hs⟩
theorem IS.nil (hG:Grows W0 H w Hr) (hK:Hr W0.heap.size=none) (hT:Hr (W0.heap.size+1)=none) (hk:Blk w W0.heap.size 63 cc) (hr:Blk w (W0.heap.size+1) 83 xi):IS W0 H cc (.slice none 0 0) [] w Hr :=
 ⟨hG,hK,hT,hk,hr,OwnI.nil _ _ _,fun g hg=>by simp[Value.ownBlock]at hg⟩
theorem IS.freeze {A:Option Addr}{m c:Nat}(h:IS W0 H cc (.slice A m c) L w Hr):∃ H',Grows W0 H w H'∧m=L.length∧IsRowI H' A c L∧H' (W0.heap.size+1)=none:=by
 obtain⟨H',hl,hh,hf,rfl,qZ,qa,un⟩:=h.own.snap h.grows.holds (fun g hg=>h.apart g (by cases A <;> simp_all [Value.ownBlock]))
 refine⟨H',⟨h.grows.below,h.grows.le.trans hl,hh,fun b o hb=>?_⟩,rfl,⟨qZ,qa,un⟩, ?_⟩
 ·exact jaV
 cases hx:H' (W0.heap.size+1) with
 | none=>rfl
 | some o =>
 rcases hf _ o hx with h1 | h1
 ·rw[h.hT]at h1;cases h1
 exact jdm
end
def ISt (W0:World) (H:Snap) (cc:Array Value) (v:Value) (L:List Itm) (w:World):Prop:=∃ Hr A m c,v=.slice A m c∧m=L.length∧IS W0 H cc (.slice A m c) L w Hr
theorem ISt.box {W0 w:World}{H:Snap}{cc:Array Value}{v:Value}{L:List Itm}(h:ISt W0 H cc v L w):Blk w W0.heap.size 63 cc:=by
 obtain⟨Hr,A,m,c,_,_,hP⟩:=h
 exact hP.box
theorem XQ {w w':World}{H:Snap}{c:Cl}{e:Ending}(hv:zE c=true) (h:fJ w H (yR c) e w'):∃ xa xb xc xd H6,e=.returned (.tuple #[xx (.mk 5 0 [] (yR c)) xa xb xc xd,.int .i64 0])∧Grows w H w' H6∧IsItem H6 xa xb xc xd (.mk 5 0 [] (yR c)):=by
 obtain⟨v,h⟩:=h
 rcases h with ⟨l,rfl,⟨xa,xb,xc,xd,H6,rfl,xW,UU⟩,_,_,hl⟩ | ⟨_,_,_,_,iw⟩
 ·obtain rfl:=hl (gM hv).2.1
  exact⟨xa,xb,xc,xd,H6,rfl,xW,UU⟩
 exact absurd (gM hv) iw
def Zz (w:World) (H:Snap) (c:Cl) (e:Ending) (w':World):Prop:=∃ v,e=.returned v∧Gives w H (xP c) v w'
theorem ff {H:Snap}(hTab:Tabs H) {c:Cl}{a:KAd}(hc:ClA H c a) (ug:zE c=true) (w:World) (hH:Holds w H) :
  Calls Tryz.prog 49 #[.agg (clQ c a)] w (Zz w H c):=by
 have hP:=jgh;have HC:=Hh hc;have HT:=Hh hTab;have HV:=Hh ug;have UO:=Hh ((vT c).1 ug);have c0:((w.alloc (.cells (clQ c a) 63)).alloc (.cells xi 83)).cell? ⟨w.heap.size,0,none⟩=some (.string c.issuer):=hP.box.cell 0 rfl;clear hc hH hTab ug;go_enter Tryz.func49,Tryz.ntmps49
 obtain⟨W1,ZB⟩:∃ W1,(w.alloc (.cells (clQ c a) 63)).alloc (.cells xi 83)=W1:=⟨_,rfl⟩
 go_upto_region 2 with fail
 rw[ZB]at hP c0;clear ZB;go_upto_if 10 with fail
 go_cut [3] (fun s3 wx=>ISt w H (clQ c a) s3 (xQ c.issuer) wx)
 case first =>
  by_cases hs:c.issuer=⟨#[]⟩
  case pos =>
   have s2:c.issuer.toList.isEmpty=true:=(t8 _).2 hs;have E:Hid (xQ c.issuer=[]):=if_pos hs;have hS:ISt w H (clQ c a) (.slice none 0 0) [] W1:=⟨_,_,_,_,rfl,rfl,hP⟩
   have HS:=Hh hS;clear hS hs hP
   simp only[s2,Bool.not_true]
   exact jbf
  have s2:c.issuer.toList.isEmpty=false:=by cases h:c.issuer.toList.isEmpty with | false=>rfl | true=>exact absurd ((t8 _).1 h) hs
  simp only[s2,Bool.not_false]
  obtain⟨LL,se⟩:∃ LL:List Itm,LL=[]:=⟨_,rfl⟩
  rw[← se]at hP;have sk:=Hh se;have HL:Hid (0=LL.length∧LL.length≤1000):=by rw[se];exact⟨rfl,by simp⟩
  have E:Hid (xQ c.issuer=LL++[zr 1,xq c.issuer]):=by rw[se];exact if_neg hs
  clear se hs;clear c0;go_upto_region 3 with fail
  have c0:=jhZ;replace hP:=hP.drew
  refine zX 6 (fun wx=>wx.cell? ⟨w.heap.size,0,none⟩=some (.string c.issuer)) (by kernel_rfl) (c0) (fun zy=>?_)
  refine Zk 0 rfl zy ?_
  refine Zk 2 rfl zy ?_
  refine Zk 3 rfl zy ?_
  refine Zo 1 rfl fun K hK=>?_
  go_simp
  refine(vS (1) (by omega) (by omega) _ hP.grows.holds).mono ?_
  rintro e w3 ⟨v1,rfl,xa1,xb1,xc1,xd1,H1,rfl,xg,vp⟩
  have hP:=jgO
  refine Ko hK ?_ fun zy=>?_
  ·exact jcy
  clear hK K
  refine Zo 4 rfl fun K hK=>?_
  go_simp
  refine(aj c.issuer (by have:=ov UO.out.1;omega) _ hP.grows.holds).mono ?_
  rintro e w4 ⟨v2,rfl,xa2,xb2,xc2,xd2,H2,rfl,zM,rV⟩
  obtain⟨hP,vp⟩:=jgc
  refine Ko hK ?_ fun zy=>?_
  ·exact jcy
  clear hK K
  refine Zo 5 rfl fun K hK=>?_
  go_simp
  obtain⟨hZ,hP⟩:=jgR
  refine Ko hK ?_ fun zy=>?_
  ·exact jcy
  clear hK K
  refine Zo 6 rfl fun K hK=>?_
  rw[if_pos (by rfl)]
  refine zL _ _ rfl _ _ _ _ rfl hP.own _ _ _ _ [_,_] rfl rfl ((ItemsC.one vp).app (ItemsC.one rV)) hZ (by have:=HL.out;simp;omega) hP.base fun v7 w7 hown7 yQ hat7=>?_
  have hP:=jgb;obtain⟨A7,c7,rfl,_⟩:=hown7.form;obtain⟨m7,ry⟩:∃ m7,(LL++[zr (1),(.mk 3 0 c.issuer.data.toList [])]).length=m7:=⟨_,rfl⟩
  rw[ry]at hP⊢;have iH:=Hh ry;clear hown7 yQ hat7 hZ ry
  refine Kz hK ?_
  clear hK K
  refine ZkT 7 rfl (fun h=>absurd h (by decide)) ?_
  refine WaysZ.done (by kernel_rfl) ?_
  clear zy;go_wp2_with fail
  go_meet
  exact(by rw[E.out];exact⟨_,_,_,_,rfl,iH.out.symm,hP⟩)
 case rest =>
 clear hP c0;have hS:=hcut;clear hcut;have tI:Hid ((xQ c.issuer).length≤1000):=by rw[Hid,xQ];split <;> simp
 go_upto_region 4 with fail
 go_cut [3] (fun s3 wx=>ISt w H (clQ c a) s3 (xQ c.issuer++[zr 2,xq c.subject]) wx)
 case first =>
  obtain⟨LL,se⟩:∃ LL,LL=xQ c.issuer:=⟨_,rfl⟩
  rw[← se]at hS tI;have sk:=Hh se;clear se;obtain⟨Hr,VA,m,vc,rfl,hm,hP⟩:=hS;have HL:=jf4;clear hm;have c1:=jhW;replace hP:=hP.drew
  refine zX 6 (fun wx=>wx.cell? ⟨w.heap.size,1,none⟩=some (.string c.subject)) (by kernel_rfl) (c1) (fun zy=>?_)
  refine Zk 0 rfl zy ?_
  refine Zk 2 rfl zy ?_
  refine Zk 3 rfl zy ?_
  refine Zo 1 rfl fun K hK=>?_
  go_simp
  refine(vS (2) (by omega) (by omega) _ hP.grows.holds).mono ?_
  rintro e w3 ⟨v1,rfl,xa1,xb1,xc1,xd1,H1,rfl,xg,vp⟩
  have hP:=jgO
  refine Ko hK ?_ fun zy=>?_
  ·exact hP.box.cell 1 rfl
  clear hK K
  refine Zo 4 rfl fun K hK=>?_
  go_simp
  refine(aj c.subject (by have:=ov UO.out.2.1;omega) _ hP.grows.holds).mono ?_
  rintro e w4 ⟨v2,rfl,xa2,xb2,xc2,xd2,H2,rfl,zM,rV⟩
  obtain⟨hP,vp⟩:=jgc
  refine Ko hK ?_ fun zy=>?_
  ·exact hP.box.cell 1 rfl
  clear hK K
  refine Zo 5 rfl fun K hK=>?_
  go_simp
  have hZ:=hP.litZ (ze (zr (2)) xa1 xb1 xc1 xd1++ze (xq c.subject) xa2 xb2 xc2 xd2).toArray 83;have hP:=hP.alloc (.cells (ze (zr (2)) xa1 xb1 xc1 xd1++ze (xq c.subject) xa2 xb2 xc2 xd2).toArray 83)
  refine Ko hK ?_ fun zy=>?_
  ·exact hP.box.cell 1 rfl
  clear hK K
  refine Zo 6 rfl fun K hK=>?_
  rw[if_pos (by rfl)]
  refine zL _ _ rfl _ _ _ _ rfl hP.own _ _ _ _ [_,_] rfl rfl ((ItemsC.one vp).app (ItemsC.one rV)) hZ (by have:=HL.out;simp;omega) hP.base fun v7 w7 hown7 yQ hat7=>?_
  have hP:=jgb;obtain⟨A7,c7,rfl,_⟩:=hown7.form;obtain⟨m7,ry⟩:∃ m7,(LL++[zr (2),(.mk 3 0 c.subject.data.toList [])]).length=m7:=⟨_,rfl⟩
  rw[ry]at hP⊢;have iH:=Hh ry;clear hown7 yQ hat7 hZ ry
  refine Kz hK ?_
  clear hK K
  refine ZkT 7 rfl (fun h=>absurd h (by decide)) ?_
  refine WaysZ.done (by kernel_rfl) ?_
  clear zy;go_wp2_with fail
  go_meet
  exact(by rw[← sk.out];exact⟨_,_,_,_,rfl,iH.out.symm,hP⟩)
 case rest =>
 clear hS tI;have hS:=hcut;clear hcut;have tI:Hid ((xQ c.issuer++[zr 2,xq c.subject]).length≤1000):=by rw[Hid,xQ];split <;> simp
 have c3:=jh0;go_upto_if 27 with fail
 go_cut [3] (fun s3 wx=>ISt w H (clQ c a) s3 (xQ c.issuer++[zr 2,xq c.subject]++yy 4 c.till) wx)
 case first =>
  by_cases h0:0<c.till
  case neg =>
   have E:Hid (xQ c.issuer++[zr 2,xq c.subject]++yy 4 c.till=xQ c.issuer++[zr 2,xq c.subject]):=by rw[Hid,show yy 4 c.till=[] from if_neg h0,List.append_nil]
   have sZ:decide (0<c.till)=false:=decide_eq_false h0;exact jex
  have sZ:decide (0<c.till)=true:=decide_eq_true h0;have E:Hid (xQ c.issuer++[zr 2,xq c.subject]++yy 4 c.till=xQ c.issuer++[zr 2,xq c.subject]++[zr 4,zr c.till]):=by rw[Hid,show yy 4 c.till=[zr 4,zr c.till] from if_pos h0]
  obtain⟨LL,se⟩:∃ LL,LL=xQ c.issuer++[zr 2,xq c.subject]:=⟨_,rfl⟩
  rw[← se]at hS tI;have sk:=Hh se;clear se;obtain⟨Hr,VA,m,vc,rfl,hm,hP⟩:=hS;have HL:=jf4;clear hm;clear c3;go_upto_region 6 with fail
  clear h0 sZ;have c3:=jh1;replace hP:=hP.drew
  refine zX 6 (fun wx=>wx.cell? ⟨w.heap.size,3,none⟩=some (.int .i64 c.till)) (by kernel_rfl) (c3) (fun zy=>?_)
  refine Zk 0 rfl zy ?_
  refine Zk 2 rfl zy ?_
  refine Zk 3 rfl zy ?_
  refine Zo 1 rfl fun K hK=>?_
  go_simp
  refine(vS (4) (by omega) (by omega) _ hP.grows.holds).mono ?_
  rintro e w3 ⟨v1,rfl,xa1,xb1,xc1,xd1,H1,rfl,xg,vp⟩
  have hP:=jgO
  refine Ko hK ?_ fun zy=>?_
  ·exact jdn
  clear hK K
  refine Zo 4 rfl fun K hK=>?_
  go_simp
  refine(vS c.till HC.out.till.1 HC.out.till.2 _ hP.grows.holds).mono ?_
  rintro e w4 ⟨v2,rfl,xa2,xb2,xc2,xd2,H2,rfl,zM,rV⟩
  obtain⟨hP,vp⟩:=jgc
  refine Ko hK ?_ fun zy=>?_
  ·exact jdn
  clear hK K
  refine Zo 5 rfl fun K hK=>?_
  go_simp
  obtain⟨hZ,hP⟩:=jgW
  refine Ko hK ?_ fun zy=>?_
  ·exact jdn
  clear hK K
  refine Zo 6 rfl fun K hK=>?_
  rw[if_pos (by rfl)]
  refine zL _ _ rfl _ _ _ _ rfl hP.own _ _ _ _ [_,_] rfl rfl ((ItemsC.one vp).app (ItemsC.one rV)) hZ (by have:=HL.out;simp;omega) hP.base fun v7 w7 hown7 yQ hat7=>?_
  have hP:=jgb;obtain⟨A7,c7,rfl,_⟩:=hown7.form;obtain⟨m7,ry⟩:∃ m7,(LL++[zr (4),(zr c.till)]).length=m7:=⟨_,rfl⟩
  exact jbw
 case rest =>
 clear hS tI c3;have hS:=hcut;clear hcut;have tI:Hid ((xQ c.issuer++[zr 2,xq c.subject]++yy 4 c.till).length≤1000):=by rw[Hid,xQ,yy];split <;> split <;> simp
 have c2:=jhX;go_upto_if 37 with fail
 go_cut [3] (fun s3 wx=>ISt w H (clQ c a) s3 (xQ c.issuer++[zr 2,xq c.subject]++yy 4 c.till++yy 5 c.since) wx)
 case first =>
  by_cases h0:0<c.since
  case neg =>
   have E:Hid (xQ c.issuer++[zr 2,xq c.subject]++yy 4 c.till++yy 5 c.since=xQ c.issuer++[zr 2,xq c.subject]++yy 4 c.till):=by rw[Hid,show yy 5 c.since=[] from if_neg h0,List.append_nil]
   have sZ:decide (0<c.since)=false:=decide_eq_false h0;exact jex
  have sZ:decide (0<c.since)=true:=decide_eq_true h0;have E:Hid (xQ c.issuer++[zr 2,xq c.subject]++yy 4 c.till++yy 5 c.since=xQ c.issuer++[zr 2,xq c.subject]++yy 4 c.till++[zr 5,zr c.since]):=by rw[Hid,show yy 5 c.since=[zr 5,zr c.since] from if_pos h0]
  obtain⟨LL,se⟩:∃ LL,LL=xQ c.issuer++[zr 2,xq c.subject]++yy 4 c.till:=⟨_,rfl⟩
  rw[← se]at hS tI;have sk:=Hh se;clear se;obtain⟨Hr,VA,m,vc,rfl,hm,hP⟩:=hS;have HL:=jf4;clear hm;clear c2;go_upto_region 8 with fail
  clear h0 sZ;have c2:=jhY;replace hP:=hP.drew
  refine zX 6 (fun wx=>wx.cell? ⟨w.heap.size,2,none⟩=some (.int .i64 c.since)) (by kernel_rfl) (c2) (fun zy=>?_)
  refine Zk 0 rfl zy ?_
  refine Zk 2 rfl zy ?_
  refine Zk 3 rfl zy ?_
  refine Zo 1 rfl fun K hK=>?_
  go_simp
  refine(vS (5) (by omega) (by omega) _ hP.grows.holds).mono ?_
  rintro e w3 ⟨v1,rfl,xa1,xb1,xc1,xd1,H1,rfl,xg,vp⟩
  have hP:=jgO
  refine Ko hK ?_ fun zy=>?_
  ·exact jdo
  clear hK K
  refine Zo 4 rfl fun K hK=>?_
  go_simp
  refine(vS c.since HC.out.since.1 HC.out.since.2 _ hP.grows.holds).mono ?_
  rintro e w4 ⟨v2,rfl,xa2,xb2,xc2,xd2,H2,rfl,zM,rV⟩
  obtain⟨hP,vp⟩:=jgc
  refine Ko hK ?_ fun zy=>?_
  ·exact jdo
  clear hK K
  refine Zo 5 rfl fun K hK=>?_
  go_simp
  obtain⟨hZ,hP⟩:=jgU
  refine Ko hK ?_ fun zy=>?_
  ·exact jdo
  clear hK K
  refine Zo 6 rfl fun K hK=>?_
  rw[if_pos (by rfl)]
  refine zL _ _ rfl _ _ _ _ rfl hP.own _ _ _ _ [_,_] rfl rfl ((ItemsC.one vp).app (ItemsC.one rV)) hZ (by have:=HL.out;simp;omega) hP.base fun v7 w7 hown7 yQ hat7=>?_
  have hP:=jgb;obtain⟨A7,c7,rfl,_⟩:=hown7.form;obtain⟨m7,ry⟩:∃ m7,(LL++[zr (5),(zr c.since)]).length=m7:=⟨_,rfl⟩
  exact jbw
 case rest =>
 clear hS tI c2;have hS:=hcut;clear hcut;have tI:Hid ((xQ c.issuer++[zr 2,xq c.subject]++yy 4 c.till++yy 5 c.since).length≤1000):=by rw[Hid,xQ,yy,yy];split <;> split <;> split <;> simp
 obtain⟨LL,se⟩:∃ LL,LL=xQ c.issuer++[zr 2,xq c.subject]++yy 4 c.till++yy 5 c.since:=⟨_,rfl⟩
 rw[← se]at hS tI;have sk:=Hh se;clear se;obtain⟨Hr,VA,m,vc,rfl,hm,hP⟩:=hS;have HL:=jf4;clear hm;have c4:=hP.box.cell 4 rfl;have c5:=hP.box.cell 5 rfl;have c6:=hP.box.cell 6 rfl;have c7:=hP.box.cell 7 rfl;have c8:=hP.box.cell 8 rfl;have c9:=hP.box.cell 9 rfl;have c10:=hP.box.cell 10 rfl;go_upto_region 9 with fail
 go_wp2_with fail
 refine(kY (HT.out.mono hP.grows.le) (HC.out.key.mono hP.grows.le) _ hP.grows.holds).mono ?_
 rintro e w5 ⟨v5,rfl,te⟩
 have EK:Hid (tU c.key=0∧pu c.key=vW c.key):=⟨by rw[tU,if_pos UO.out.2.2.2.2.2.2.2.2.1],by rw[pu,if_pos UO.out.2.2.2.2.2.2.2.2.1]⟩
 rw[EK.out.2]at te;rw[EK.out.1];obtain⟨ya,yb,yc,yd,H5,rfl,xT,WI⟩:=te;replace hP:=hP.grow xT;clear xT c4 c5 c6 c7 c8 c9 c10;obtain⟨y,hy⟩:∃ y,y=vW c.key:=⟨_,rfl⟩
 rw[← hy]at WI⊢;have HY:=Hh hy;clear hy;have hQ:=jhB;replace hP:=hP.alloc (zU y ya yb yc yd);obtain⟨Q,qg⟩:∃ Q,w5.heap.size=Q:=⟨_,rfl⟩
 obtain⟨w6,my⟩:∃ w6,w5.alloc (zU y ya yb yc yd)=w6:=⟨_,rfl⟩
 rw[qg,my]at hQ;rw[my]at hP;go_upto_region 10 with fail
 clear qg my;go_cut [3] (fun s3 wx=>ISt w H (clQ c a) s3 (yR c) wx)
 case first =>
  replace hP:=hP.drew;replace hQ:=hQ.below (Below.refl _ _).drew
  refine zX 7 (fun wx=>wx.cell? ⟨Q,0,none⟩=some (.int .i64 y.kind)∧wx.cell? ⟨Q,1,none⟩=some (.int .u64 y.n)∧wx.cell? ⟨Q,2,none⟩=some (.slice ya y.bytes.length yb)∧wx.cell? ⟨Q,3,none⟩=some (.slice yc y.items.length yd)) (by kernel_rfl) (⟨hQ.cell 0 rfl,hQ.cell 1 rfl,hQ.cell 2 rfl,hQ.cell 3 rfl⟩) (fun zy=>?_)
  refine Zk 0 rfl zy ?_
  refine Zk 3 rfl zy ?_
  refine Zo 1 rfl fun K hK=>?_
  go_simp
  refine(vS 8 (by omega) (by omega) _ hP.grows.holds).mono ?_
  rintro e w7 ⟨v1,rfl,xa1,xb1,xc1,xd1,H1,rfl,xg,vp⟩
  have hP:=jgO;have hQ:=hQ.below xg.below;have WI:=WI.mono xg.le;clear xg
  refine Ko hK ?_ fun zy=>?_
  ·exact ja3
  clear hK K
  refine Zo 2 rfl fun K hK=>?_
  go_simp
  refine(vS 1 (by omega) (by omega) _ hP.grows.holds).mono ?_
  rintro e w8 ⟨v2,rfl,xa2,xb2,xc2,xd2,H2,rfl,zM,rV⟩
  have hP:=hP.grow zM;have hQ:=hQ.below zM.below;have WI:=WI.mono zM.le;have vp:=vp.mono zM.le;clear zM
  refine Ko hK ?_ fun zy=>?_
  ·exact ja3
  clear hK K
  refine Zo 4 rfl fun K hK=>?_
  go_simp
  obtain⟨H4,xj,MQ,i7⟩:=jn (l:=[zr 1,y]) (Grows.refl hP.grows.holds) ((ItemsC.one rV).app (ItemsC.one WI)) (by simp);have Rv:=i7.item 5 (by omega) 0 (by omega);clear MQ i7;have hP:=hP.grow xj;have vp:=vp.mono xj.le;have hQ:=hQ.below xj.below;clear xj
  refine Ko hK ?_ fun zy=>?_
  ·exact ja3
  clear hK K
  refine Zk 5 rfl zy ?_
  refine Zo 6 rfl fun K hK=>?_
  go_simp
  have hP:=hP.alloc (.cells (ze (zr 8) xa1 xb1 xc1 xd1++ze (.mk 5 0 [] [zr 1,y]) none 0 (some ⟨w8.heap.size,0,none⟩) 2).toArray 83);have hQ:=hQ.alloc (.cells (ze (zr 8) xa1 xb1 xc1 xd1++ze (.mk 5 0 [] [zr 1,y]) none 0 (some ⟨w8.heap.size,0,none⟩) 2).toArray 83)
  refine Ko hK ?_ fun zy=>?_
  ·exact ja3
  clear hK K
  refine Zo 7 rfl fun K hK=>?_
  rw[if_pos (by rfl)]
  refine zL _ _ rfl _ _ _ _ rfl hP.own _ _ _ _ [_,_] rfl rfl ((ItemsC.one vp).app (ItemsC.one Rv)) (Src.new _ _ _ _ (by rw[zh]) _ rfl) (by have:=HL.out;simp;omega) hP.base fun v9 w9 hown9 yO hat9=>?_
  have hP:=hP.app hown9 yO hat9;obtain⟨A9,c9,rfl,_⟩:=hown9.form;obtain⟨m9,eE⟩:∃ m9,(LL++[zr 8,.mk 5 0 [] [zr 1,y]]).length=m9:=⟨_,rfl⟩
  rw[eE]at hP⊢;have BN:=Hh eE;clear hown9 yO hat9 eE hQ
  refine Kz hK ?_
  clear hK K
  refine ZkT 8 rfl (fun h=>absurd h (by decide)) ?_
  refine WaysZ.done (by kernel_rfl) ?_
  clear zy;go_wp2_with fail
  go_meet
  have EP:Hid (yR c=LL++[zr 8,.mk 5 0 [] [zr 1,y]]):=by rw[sk.out,HY.out];exact rfl
  exact(by rw[EP.out];exact⟨_,_,_,_,rfl,BN.out.symm,hP⟩)
 case rest =>
 clear hP hQ WI;obtain⟨Bp,VA2,m2,vc2,rfl,ir,hP⟩:=hcut;obtain⟨H9,vy,eE,Ri,fA⟩:=hP.freeze;have hT:=hP.res;have HB:=Hh (fh (HT.out.mono vy.le) Ri (by have:=(qm c).2.2;omega) _ vy.holds);rw[← ir]at HB;clear hP Ri eE ir;go_wp2_with fail
 refine HB.out.mono ?_
 intro e w10 Pf
 obtain⟨xa,xb,xc,xd,H6,rfl,xW,UU⟩:=XQ HV.out Pf;clear Pf HB;have xp:=vy.trans xW;have sM:=xW.none fA hT.lt;replace hT:=hT.below xW.below;clear xW vy fA;replace hT:=hT.alloc (zU (.mk 5 0 [] (yR c)) xa xb xc xd);replace xp:=xp.alloc (zU (.mk 5 0 [] (yR c)) xa xb xc xd);go_upto_region 12 with fail
 exact jbL
end Go.Proofs.YtgaoknihklmakabGreatDoor
