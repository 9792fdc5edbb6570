/- squeezed. Walks: the comparison of two valid -/
import Derived.Test.YtgaoknihklmakabGreatDoorK23
set_option linter.unusedVariables false
set_option linter.unusedSimpArgs false
set_option maxRecDepth 100000
set_option maxHeartbeats 51200000
namespace Go.Proofs.YtgaoknihklmakabGreatDoor
open Go.RowKit
theorem jan{P:Prop}(h:P:=by
 have pb:=zN.kn.res;have tN:=Hh zN.kn;clear zN;go_wp2_with (with_reducible refine zx ?_)
 refine zv rfl _ _ _ rfl rfl _ _ rfl rfl _ _ pb yk rfl (oT _ _ _ _ _ _ _ rfl rfl rfl rfl rfl rfl rfl) fun wz hRz zS=>?_
 have yl:=tN.out.grows.grownOwn tN.out.hR tN.out.wR zS;clear tN pb zS;go_wp2_with fail
 refine zw rfl rfl hRz rfl rfl yk rfl ?_
 exact .inr (.inl ⟨HV.out,jz RC.out,rfl,yl.below⟩)):P:=h
theorem jax{P:Prop}(h:P:=by
 have pb:=zN.kn.res;have tN:=Hh zN.kn;clear zN;go_wp2_with (with_reducible refine zx ?_)
 refine zv rfl _ _ _ rfl rfl _ _ rfl rfl _ _ pb yk rfl (oT _ _ _ _ _ _ _ rfl rfl rfl rfl rfl rfl rfl) fun wz hRz zS=>?_
 have yl:=tN.out.grows.grownOwn tN.out.hR tN.out.wR zS;clear tN pb zS;go_wp2_with fail
 refine zw rfl rfl hRz rfl rfl yk rfl ?_
 exact .inr (.inl ⟨HV.out,Ol.out,rfl,yl.below⟩)):P:=h
theorem jaM{P:Prop}(h:P:=by
 have k0:=zN.kn.key.cell 0 rfl;have k1:=zN.kn.key.cell 1 rfl;have k2:=zN.kn.key.cell 2 rfl;have k3:=zN.kn.key.cell 3 rfl;have k4:=zN.kn.key.cell 4 rfl;have k5:=zN.kn.key.cell 5 rfl;have k6:=zN.kn.key.cell 6 rfl;have pb:=zN.kn.res;have tN:=Hh zN.kn;clear zN;go_wp2_with (with_reducible refine zx ?_)
 refine zv rfl _ _ _ rfl rfl _ _ rfl rfl _ _ pb yk rfl (oT _ _ _ _ _ _ _ rfl rfl rfl rfl rfl rfl rfl) fun wz hRz zS=>?_
 have yl:=tN.out.grows.grownOwn tN.out.hR tN.out.wR zS;clear tN pb zS;go_wp2_with fail
 refine zw rfl rfl hRz rfl rfl yk rfl ?_
 exact .inr (.inr ⟨q,a,_,HV.out,⟨Gy.out,by rw[Lu.out];exact HY.out⟩,rfl,yl,wV.out⟩)):P:=h
theorem jbr{P:Prop}(h:P:=by
 go_wp2_with (with_reducible refine zx ?_)
 refine zv rfl _ _ _ rfl rfl _ _ rfl rfl _ _ hR yk rfl (oT _ _ _ _ _ _ _ rfl rfl rfl rfl rfl rfl rfl) fun wz hRz zS=>?_
 have yl:=hG.grownOwn Un (by omega) zS;go_wp2_with fail
 refine zw rfl rfl hRz rfl rfl yk rfl ?_
 exact .inl ⟨HV.out,rfl,yl.below⟩):P:=h
theorem jbx{P:Prop}(h:P:=by exact⟨⟨hX.cell 0 rfl,hX.cell 1 rfl,hX.cell 2 rfl,hX.cell 3 rfl⟩,⟨hY.cell 0 rfl,hY.cell 1 rfl,hY.cell 2 rfl,hY.cell 3 rfl⟩⟩):P:=h
theorem jcN{P:Prop}(h:P:=by
 go_wp2_with fail
 refine zw rfl rfl hRz rfl rfl yk rfl ?_
 exact .inr (.inl ⟨HV.out,Wn H5.out,rfl,yl.below⟩)):P:=h
theorem jcV{P:Prop}(h:P:=by
 have pO:=xC Tryz.underlying124 Tryz.underlying3 zN.m2 (Tryz.zeroValue123 w6) (k);rw[Uw]at pO
 exact pO):P:=h
theorem jdt{P:Prop}(h:P:=by
 split at h
 ·injection h with h;omega
 cases h):P:=h
theorem je8{P:Prop}(h:P:=by
 clear oQ
 rcases Il with rfl | ⟨p,rfl⟩
 ·exact jan
 exact jan):P:=h
theorem jgX{P:Prop}(h:P:=by have hX:=(Blk.new w 83 #[.int .i64 x.kind,.int .u64 x.n,.slice ba x.bytes.length bc,.slice ia x.items.length ic]).alloc (.cells sI 61);have hR:=Blk.new (w.alloc (zU x ba bc ia ic)) 61 sI;exact And.intro hX hR):P:=h
theorem jhf{P:Prop}(h:P:=by have UP:=Hh (uI HV.out (List.getElem_mem sY));have wT:=Hh (And.intro zB (And.intro sY jR));exact And.intro UP wT):P:=h
theorem jhP{P:Prop}(h:P:=by have Un:H (w.heap.size+1)=none:=hH.none_of_ge (by omega);have hG:=((Grows.refl hH).alloc (zU x ba bc ia ic)).alloc (.cells sI 61);exact And.intro Un hG):P:=h
theorem aG {H:Snap}(hTab:Tabs H) {x y:Itm}{xa:Option Addr}{xb:Nat}{xc:Option Addr}{xd:Nat}{ya:Option Addr}{yb:Nat}{yc:Option Addr}{yd:Nat}(hx:IsItem H xa xb xc xd x) (hy:IsItem H ya yb yc yd y)
  (hvx:zR x=true) (hvy:zR y=true) (w:World) (hH:Holds w H) :
  Calls Tryz.prog 70 #[xx x xa xb xc xd,xx y ya yb yc yd] w fun e w'=>e=.returned (.int .i64 (Lib.compareBytes (zf x) (zf y)))∧Below w.heap.size w w':=by
 have hX:=(Blk.new w 83 #[.int .i64 x.kind,.int .u64 x.n,.slice xa x.bytes.length xb,.slice xc x.items.length xd]).alloc (zU y ya yb yc yd);have hY:=Blk.new (w.alloc (zU x xa xb xc xd)) 83 #[.int .i64 y.kind,.int .u64 y.n,.slice ya y.bytes.length yb,.slice yc y.items.length yd];rw[zh]at hY;have hG:=((Grows.refl hH).alloc (zU x xa xb xc xd)).alloc (zU y ya yb yc yd);have HV:=Hh (And.intro hvx hvy);have HX:=Hh (And.intro (sv hvx) (sv hvy));have HT:=Hh hTab;have HI:=Hh (And.intro hx hy);have a0:=hX.cell 0 rfl;have a1:=hX.cell 1 rfl;have a2:=hX.cell 2 rfl;have a3:=hX.cell 3 rfl;clear hvx hvy hTab hx hy hH;go_enter Tryz.func70,Tryz.ntmps70
 go_wp2_with fail
 refine(tG HT.out HI.out.1.arg _ hG.holds).mono ?_
 rintro e w1 ⟨rfl,xR⟩
 rw[HV.out.1];replace hX:=hX.below xR;replace hY:=hY.below xR;replace hG:=hG.below_ xR;clear xR a0 a1 a2 a3;have b0:=hY.cell 0 rfl;have b1:=hY.cell 1 rfl;have b2:=hY.cell 2 rfl;have b3:=hY.cell 3 rfl;go_wp2_with fail
 refine(tG HT.out HI.out.2.arg _ hG.holds).mono ?_
 rintro e w2 ⟨rfl,zC⟩
 rw[HV.out.2];replace hX:=hX.below zC;replace hY:=hY.below zC;replace hG:=hG.below_ zC;clear zC b0 b1 b2 b3;go_upto_region 3 with fail
 replace hX:=hX.drew;replace hY:=hY.drew;replace hG:=hG.drew
 refine zX 5 (fun wx=>(wx.cell? ⟨w.heap.size,0,none⟩=some (.int .i64 x.kind)∧wx.cell? ⟨w.heap.size,1,none⟩=some (.int .u64 x.n)∧wx.cell? ⟨w.heap.size,2,none⟩=some (.slice xa x.bytes.length xb)∧wx.cell? ⟨w.heap.size,3,none⟩=some (.slice xc x.items.length xd))∧(wx.cell? ⟨w.heap.size+1,0,none⟩=some (.int .i64 y.kind)∧wx.cell? ⟨w.heap.size+1,1,none⟩=some (.int .u64 y.n)∧wx.cell? ⟨w.heap.size+1,2,none⟩=some (.slice ya y.bytes.length yb)∧wx.cell? ⟨w.heap.size+1,3,none⟩=some (.slice yc y.items.length yd))) (by kernel_rfl) (⟨⟨hX.cell 0 rfl,hX.cell 1 rfl,hX.cell 2 rfl,hX.cell 3 rfl⟩,⟨hY.cell 0 rfl,hY.cell 1 rfl,hY.cell 2 rfl,hY.cell 3 rfl⟩⟩) (fun zy=>?_)
 refine Zk 0 rfl zy ?_
 refine Zk 2 rfl zy ?_
 refine Zo 1 rfl fun K hK=>?_
 go_simp
 refine(qp x H _ _ _ _ _ _ _ _ _ _ (.slice none 0 0) [] HX.out.1.1 HI.out.1.arg hG.holds (OwnB.nil _ _) (Nat.le_refl _) (by simp[Value.ownBlock]) (by have:=HX.out.1.2.2;simp;omega)).mono ?_
 rintro e w5 ⟨r5,rfl,X9,te,vJ⟩
 have qe:=yr te;obtain⟨A5,c5,rfl,bZ,P9,Jc⟩:=OwnB.form X9;replace hX:=hX.below qe;replace hY:=hY.below qe;replace hG:=hG.below_ qe;clear X9 te qe vJ bZ P9
 refine Ko hK ?_ fun zy=>?_
 ·exact jbx
 clear hK K
 refine Zo 3 rfl fun K hK=>?_
 go_simp
 refine(qp y H _ _ _ _ _ _ _ _ _ _ (.slice none 0 0) [] HX.out.2.1 HI.out.2.arg hG.holds (OwnB.nil _ _) (Nat.le_refl _) (by simp[Value.ownBlock]) (by have:=HX.out.2.2.2;simp;omega)).mono ?_
 rintro e w6 ⟨r6,rfl,pv,tg,vJ⟩
 have sm:=yr tg;obtain⟨A6,c6,rfl,IV,D1,NN⟩:=OwnB.form pv;replace hX:=hX.below sm;replace hY:=hY.below sm;replace Jc:=Jc.below sm;replace hG:=hG.below_ sm;clear pv tg sm vJ IV D1
 refine Ko hK ?_ fun zy=>?_
 ·exact jbx
 clear hK K
 refine Zo 4 rfl fun K hK=>?_
 go_simp
 refine(rq _ A5 A6 (zf x) (zf y) _ _ c5 c6 rfl rfl Jc NN).mono ?_
 rintro e w7 ⟨rfl,rfl⟩
 refine Ko hK ?_ fun zy=>?_
 ·exact jbx
 clear hK K
 refine Zo 5 rfl fun K hK=>?_
 go_simp
 refine Kz hK ?_
 clear hK K
 refine WaysZ.done (by kernel_rfl) ?_
 clear zy;go_wp2_with fail
 go_ret
 exact⟨rfl,hG.below⟩
theorem KN.far {W0 w w':World}{H Hr:Snap}{R K b:Nat}{kc:Array Value}(h:KN W0 H R K kc w Hr) (hg:w.grownBy w' (some b)) (hn:Hr b=none) (hb:W0.heap.size≤b) (h1:b≠R) (h2:b≠K):KN W0 H R K kc w' Hr :=
 ⟨h.grows.grownOwn hn hb hg,h.res.grown hg (fun e=>by injection e with e;exact h1 e),h.key.grown hg (fun e=>by injection e with e;exact h2 e),h.hR,h.hK,h.neRK,h.wR,h.wK⟩
def Tc (K:Nat):List (Int×Value):=[(1,.pointer (some ⟨K,0,none⟩)),(3,.pointer (some ⟨K,2,none⟩)),(-1,.pointer (some ⟨K,1,none⟩))]
def jQ (K:Nat):List (Int×Value):=[(2,.pointer (some ⟨K,3,none⟩)),(-1,.pointer (some ⟨K,6,none⟩)),(-2,.pointer (some ⟨K,4,none⟩)),(-4,.pointer (some ⟨K,5,none⟩))]
structure FM (W0:World) (H:Snap) (R K M1 M2:Nat) (xc kc:Array Value) (w:World) (Hr:Snap):Prop where
 kn:KN W0 H R K kc w Hr
 box:Blk w W0.heap.size 83 xc
 m1:MapIs w M1 (Tc K)
 m2:MapIs w M2 (jQ K)
 n1:K≠M1
 n2:K≠M2
 nb:K≠W0.heap.size
section
variable {W0 w w':World} {H Hr Hs:Snap} {R K M1 M2:Nat} {xc kc kc':Array Value}
theorem FM.grow (h:FM W0 H R K M1 M2 xc kc w Hr) (k:Grows w Hr w' Hs):FM W0 H R K M1 M2 xc kc w' Hs :=
 ⟨h.kn.grow k,h.box.below k.below,h.m1.below k.below,h.m2.below k.below,h.n1,h.n2,h.nb⟩
theorem FM.below (h:FM W0 H R K M1 M2 xc kc w Hr) (k:Below w.heap.size w w'):FM W0 H R K M1 M2 xc kc w' Hr:=h.grow (Grows.of_below h.kn.grows.holds k)
theorem FM.alloc (h:FM W0 H R K M1 M2 xc kc w Hr) (o:Obj):FM W0 H R K M1 M2 xc kc (w.alloc o) Hr:=h.below (zm w o)
theorem FM.set (h:FM W0 H R K M1 M2 xc kc w Hr) (hB:Blk w' K 61 kc') (hg:w.grownBy w' (some K)):FM W0 H R K M1 M2 xc kc' w' Hr :=
 ⟨h.kn.set hB hg,h.box.grown hg (fun e=>by injection e with e;exact h.nb e),h.m1.grown hg (fun e=>by injection e with e;exact h.n1 e),h.m2.grown hg (fun e=>by injection e with e;exact h.n2 e),h.n1,h.n2,h.nb⟩
end
def cO (w:World) (H:Snap) (x:Itm) (e:Ending) (w':World):Prop :=
 (zR x=false∧e=.returned (.tuple #[.agg sI,.int .i64 1])∧Below w.heap.size w w')∨
 (zR x=true∧(¬ ∃ q,sS x q)∧e=.returned (.tuple #[.agg sI,.int .i64 12])∧Below w.heap.size w w')∨
 (∃ q a H',zR x=true∧sS x q∧e=.returned (.tuple #[.agg (tY q a),.int .i64 0])∧Grows w H w' H'∧KeyA H' q a)
theorem Xr (q:Ky) (l:List Itm) (j:Nat) (h:j+1<l.length):wY q (l.drop j)=match rT q (l[j]'(by omega)) l[j+1] with | none=>none | some q'=>wY q' (l.drop (j+2)):=by
 rw[List.drop_eq_getElem_cons (by omega:j<l.length),List.drop_eq_getElem_cons h,wY]
 all_goals (cases rT q (l[j]'(by omega)) l[j+1] <;> rfl)
theorem jz {x:Itm}(h:wY yP x.items=none):¬ ∃ q,sS x q:=fun⟨q,hq⟩=>by rw[lq hq]at h;cases h
theorem Wn {x:Itm}(h:¬ x.kind=5):¬ ∃ q,sS x q:=fun⟨q,hq⟩=>h (by rw[← hq.2];rfl)
def ptr (K f:Nat):Value:=.pointer (some ⟨K,f,none⟩)
theorem ZU {K:Nat}{k:Int}(h1:¬ k=1) (h3:¬ k=3) (h2:¬ k = -1):qR (Tc K) k=none:=by
 simp[qR,Tc,h1,h2,h3]
theorem jF {K:Nat}{k:Int}(h1:¬ k=2) (h2:¬ k = -1) (h3:¬ k = -2) (h4:¬ k = -4):qR (jQ K) k=none:=by
 simp[qR,jQ,h1,h2,h3,h4]
theorem fa (K:Nat) (k:Int):(qR (jQ K) k).getD (.pointer none)=.pointer none∨∃ p,(qR (jQ K) k).getD (.pointer none)=.pointer (some p):=by
 by_cases h1:k=2
 ·subst h1;exact .inr ⟨_,rfl⟩
 by_cases h2:k = -1
 ·subst h2;exact .inr ⟨_,rfl⟩
 by_cases h3:k = -2
 ·subst h3;exact .inr ⟨_,rfl⟩
 by_cases h4:k = -4
 ·subst h4;exact .inr ⟨_,rfl⟩
 rw[jF h1 h2 h3 h4]
 exact .inl rfl
theorem QR {n:Nat}{b:List UInt8}{l:List Itm}:nmP (.mk 2 n b l)=none:=by
 rw[nmP]
 split
 ·rfl
 rfl
theorem VZ {z:Itm}{n:Int}(h:nmP z=some n) : -9223372036854775808≤n∧n≤9223372036854775807:=by
 obtain⟨k,m,b,l⟩:=z;rw[nmP]at h
 split at h
 ·cases h
 split at h
 ·injection h with h;omega
 exact jdt
theorem bm {H:Snap}(hTab:Tabs H) {x:Itm}{ba:Option Addr}{bc:Nat}{ia:Option Addr}{ic:Nat}(hx:IsItem H ba bc ia ic x) (w:World) (hH:Holds w H) :
  Calls Tryz.prog 68 #[xx x ba bc ia ic] w (cO w H x):=by
 obtain⟨hX,hR⟩:=jgX;rw[zh]at hR;obtain⟨Un,hG⟩:=jhP;have HT:=Hh hTab;have HI:=Hh hx;have Re := @run_makeMap Tryz.prog;have a0:=hX.cell 0 rfl;have a1:=hX.cell 1 rfl;have a2:=hX.cell 2 rfl;have a3:=hX.cell 3 rfl;clear hTab hx hH;go_enter Tryz.func68,Tryz.ntmps68
 go_wp2_with fail
 refine(tG HT.out HI.out.arg _ hG.holds).mono ?_
 rintro e w1 ⟨rfl,xR⟩
 replace hX:=hX.below xR;replace hR:=hR.below xR;replace hG:=hG.below_ xR;clear xR a0 a1 a2 a3
 cases hv:zR x with
 | false =>
  have HV:=Hh hv;clear hv Re hX;exact jbr
 | true =>
 have HV:=Hh hv;clear hv;obtain⟨K,hK⟩:∃ K,w1.heap.size=K:=⟨_,rfl⟩
 have iK:KN w H (w.heap.size+1) w1.heap.size sI (w1.alloc (.cells sI 61)) H:=⟨hG.alloc _,hR.alloc _,Blk.new _ _ _,Un,hG.holds.none_of_ge (Nat.le_refl _),by have:=hR.lt;omega,by omega,hG.size⟩
 have eg:=hX.alloc (.cells sI 61);have gm:MapIs ((w1.alloc (.cells sI 61)).alloc (.map #[] 0)) (w1.alloc (.cells sI 61)).heap.size []:=MapIs.new _;replace iK:=iK.alloc (.map #[] 0);replace eg:=eg.alloc (.map #[] 0);rw[zh]at gm;rw[hK]at iK gm;have AS:K≠w.heap.size:=by have:=hX.lt;omega
 have Dj:=Hh (show w.heap.size+1<K by have:=hR.lt;omega);have BG:=Hh (fun b (hb:K≤b)=>hG.holds.none_of_ge (show w1.heap.size≤b by omega));clear hX hR hG;go_wp2_with (with_reducible refine uH ?_)
 unfold z8
 try rw[hK]
 have hRK:w.heap.size+1<K:=by have:=iK.res.lt;have:=iK.neRK;have hq:=eg.lt;have F5:=Dj.out;omega
 have O9:H (K+1)=none:=BG.out _ (by have:=Dj.out;omega)
 refine ut rfl _ _ _ rfl Tryz.underlying122 Tryz.underlying3 gm (1) (ptr K 0) rfl rfl rfl rfl fun wm hMm hgm=>?_
 replace gm:=hMm;replace iK:=iK.far hgm O9 (by omega) (by omega) (by omega);replace eg:=eg.grown hgm (fun e=>by injection e with e;omega);clear hMm hgm;go_wp2_with (with_reducible refine uH ?_)
 refine ut rfl _ _ _ rfl Tryz.underlying122 Tryz.underlying3 gm (3) (ptr K 2) rfl rfl rfl rfl fun wm hMm hgm=>?_
 replace gm:=hMm;replace iK:=iK.far hgm O9 (by omega) (by omega) (by omega);replace eg:=eg.grown hgm (fun e=>by injection e with e;omega);clear hMm hgm;go_wp2_with (with_reducible refine uH ?_)
 refine ut rfl _ _ _ rfl Tryz.underlying122 Tryz.underlying3 gm (-1) (ptr K 1) rfl rfl rfl rfl fun wm hMm hgm=>?_
 replace gm:=hMm;replace iK:=iK.far hgm O9 (by omega) (by omega) (by omega);replace eg:=eg.grown hgm (fun e=>by injection e with e;omega);clear hMm hgm;have WJ:MapIs (wm.alloc (.map #[] 0)) wm.heap.size []:=MapIs.new _;have Tt:H wm.heap.size=none:=iK.grows.holds.none_of_ge (Nat.le_refl _);have Yo:=gm.lt;replace iK:=iK.alloc (.map #[] 0);replace eg:=eg.alloc (.map #[] 0);replace gm:=gm.alloc (.map #[] 0);obtain⟨M2,Kj⟩:∃ M2,wm.heap.size=M2:=⟨_,rfl⟩
 rw[Kj]at WJ Tt Yo;go_wp2_with (with_reducible refine uH ?_)
 unfold z8
 try rw[Kj]
 refine ut rfl _ _ _ rfl Tryz.underlying124 Tryz.underlying3 WJ (2) (ptr K 3) rfl rfl rfl rfl fun wm hMm hgm=>?_
 replace WJ:=hMm;replace iK:=iK.far hgm Tt (by omega) (by omega) (by omega);replace eg:=eg.grown hgm (fun e=>by injection e with e;omega);replace gm:=gm.grown hgm (fun e=>by injection e with e;omega);clear hMm hgm;go_wp2_with (with_reducible refine uH ?_)
 refine ut rfl _ _ _ rfl Tryz.underlying124 Tryz.underlying3 WJ (-1) (ptr K 6) rfl rfl rfl rfl fun wm hMm hgm=>?_
 replace WJ:=hMm;replace iK:=iK.far hgm Tt (by omega) (by omega) (by omega);replace eg:=eg.grown hgm (fun e=>by injection e with e;omega);replace gm:=gm.grown hgm (fun e=>by injection e with e;omega);clear hMm hgm;go_wp2_with (with_reducible refine uH ?_)
 refine ut rfl _ _ _ rfl Tryz.underlying124 Tryz.underlying3 WJ (-2) (ptr K 4) rfl rfl rfl rfl fun wm hMm hgm=>?_
 replace WJ:=hMm;replace iK:=iK.far hgm Tt (by omega) (by omega) (by omega);replace eg:=eg.grown hgm (fun e=>by injection e with e;omega);replace gm:=gm.grown hgm (fun e=>by injection e with e;omega);clear hMm hgm;go_wp2_with (with_reducible refine uH ?_)
 refine ut rfl _ _ _ rfl Tryz.underlying124 Tryz.underlying3 WJ (-4) (ptr K 5) rfl rfl rfl rfl fun wm hMm hgm=>?_
 replace WJ:=hMm;replace iK:=iK.far hgm Tt (by omega) (by omega) (by omega);replace eg:=eg.grown hgm (fun e=>by injection e with e;omega);replace gm:=gm.grown hgm (fun e=>by injection e with e;omega);clear hMm hgm;have zN:FM w H (w.heap.size+1) K (K+1) M2 #[.int .i64 x.kind,.int .u64 x.n,.slice ba x.bytes.length bc,.slice ia x.items.length ic] (tY yP ⟨none,0,none,0,none,0,none,0⟩) wm H:=⟨iK,eg,gm,WJ,by omega,by omega,by omega⟩
 clear iK eg gm WJ Re;have a0:=zN.box.cell 0 rfl
 by_cases h5:x.kind=5
 case neg =>
  have b5:(x.kind != 5)=true:=by simp[h5]
  have p5:(x.kind=5)=False:=eq_false h5;have H5:=Hh h5;clear h5;have pb:=zN.kn.res;have tN:=Hh zN.kn;clear zN;go_wp2_with (with_reducible refine zx ?_)
  refine zv rfl _ _ _ rfl rfl _ _ rfl rfl _ _ pb yk rfl (oT _ _ _ _ _ _ _ rfl rfl rfl rfl rfl rfl rfl) fun wz hRz zS=>?_
  have yl:=tN.out.grows.grownOwn tN.out.hR tN.out.wR zS;clear tN pb zS;exact jcN
 have b5:(x.kind != 5)=false:=by simp[h5]
 have p5:(x.kind=5)=True:=eq_true h5;have Z0:=Hh (qE HV.out h5);have HKD:=Hh h5;clear h5;go_wp2_with fail
 clear b5 p5 a0;go_loopw [7] (fun v7 wr=>∃ (j:Nat) (q:Ky) (a:KAd) (Hr:Snap),j≤x.items.length∧j%2=0∧v7=.int .i64 (j:Int)∧FM w H (w.heap.size+1) K (K+1) M2 #[.int .i64 x.kind,.int .u64 x.n,.slice ba x.bytes.length bc,.slice ia x.items.length ic] (tY q a) wr Hr∧KeyA Hr q a∧wY q (x.items.drop j)=wY yP x.items) (fun v7 _=>x.items.length-(intOf v7).toNat)
 case atStart=>exact⟨0,yP,⟨none,0,none,0,none,0,none,0⟩,H,Nat.zero_le _,rfl,rfl,zN,⟨by simp[yP],by simp[yP],by simp[yP],IsBytes.nil _,IsBytes.nil _,IsBytes.nil _,IsBytes.nil _⟩,by rw[List.drop_zero]⟩
 case round =>
 clear zN;obtain⟨j,q,a,Hr,hj,XE,rfl,zN,MO,Ps⟩:=hrel;have lQ:=Hh XE;have wV:=Hh MO;have lP:=Hh Ps;clear XE MO Ps;have a3:=zN.box.cell 3 rfl
 by_cases zB:j<x.items.length
 case neg =>
  have tF:j=x.items.length:=by omega
  subst tF;clear zB hj;have HF:Hid (wY yP x.items=some q):=by rw[Hid,← lP.out,List.drop_length,lr]
  clear lP;have k0:=zN.kn.key.cell 0 rfl;have k1:=zN.kn.key.cell 1 rfl;have k2:=zN.kn.key.cell 2 rfl;have k3:=zN.kn.key.cell 3 rfl;have k4:=zN.kn.key.cell 4 rfl;have k5:=zN.kn.key.cell 5 rfl;have k6:=zN.kn.key.cell 6 rfl;go_wp2_with fail
  refine(fX (HT.out.mono zN.kn.grows.le) wV.out _ zN.kn.grows.holds).mono ?_
  rintro e w9 ⟨v9,rfl,ya,yb,yc,yd,H9,rfl,vy,jZ⟩
  replace zN:=(zN.grow vy)
  replace wV:=Hh (wV.out.mono vy.le);clear k0 k1 k2 k3 k4 k5 k6 a3 vy
  cases hvq:xY q with
  | false =>
   have Ol:Hid (¬ ∃ q,sS x q):=fun⟨q2,h2⟩=>by
    have e:=HF.out;rw[lq h2]at e;obtain rfl:=Option.some.inj e;rw[h2.1]at hvq
    cases hvq
   have E:Hid (tU q=1∧pu q=zQ):=⟨by rw[tU,if_neg (by rw[hvq];simp)],by rw[pu,if_neg (by rw[hvq];simp)]⟩
   rw[E.out.1,E.out.2];clear hvq jZ;replace zN:=zN.alloc (zU zQ ya yb yc yd);go_upto_region 22 with fail
   exact jax
  | true =>
  have E:Hid (tU q=0∧pu q=vW q):=⟨by rw[tU,if_pos hvq],by rw[pu,if_pos hvq]⟩
  have Gy:=Hh hvq;rw[E.out.1,E.out.2];rw[E.out.2]at jZ;have RM:=Hh (vB hvq);obtain⟨y,hy⟩:∃ y,vW q=y:=⟨_,rfl⟩
  have HY:=Hh hy;rw[hy]at jZ⊢;rw[HY.out]at RM;have Of:=Hh (And.intro (HI.out.mono zN.kn.grows.le) jZ);replace zN:=zN.alloc (zU y ya yb yc yd);have x0:=zN.box.cell 0 rfl;have x1:=zN.box.cell 1 rfl;have x2:=zN.box.cell 2 rfl;have x3:=zN.box.cell 3 rfl;clear hvq jZ hy;go_wp2_with fail
  refine(aG (HT.out.mono zN.kn.grows.le) Of.out.1 Of.out.2 HV.out RM.out _ zN.kn.grows.holds).mono ?_
  rintro e w10 ⟨rfl,vd⟩
  replace zN:=zN.below vd;clear vd x0 x1 x2 x3;obtain⟨cm,mv⟩:∃ cm,Lib.compareBytes (zf x) (zf y)=cm:=⟨_,rfl⟩
  rw[mv]
  by_cases jg:cm=0
  case neg =>
   have Ol:Hid (¬ ∃ q,sS x q):=fun⟨q2,h2⟩=>by
    have e:=HF.out;rw[lq h2]at e;obtain rfl:=Option.some.inj e;have e2:x=y:=by rw[← h2.2];exact HY.out
    rw[e2,uJ]at mv
    exact jg mv.symm
   have bc0:(cm != 0)=true:=by simp[jg]
   have pc0:(cm=0)=False:=eq_false jg;clear jg mv;exact jax
  subst jg
  have Lu:Hid (x=y):=by
   have e3:=(uK _ _).1 mv
   exact(g8 x y 0 0 [] [] (Fits.of HV.out Of.out.1.nums) (Fits.of RM.out Of.out.2.nums) (by rw[e3])).1
  clear mv;exact jaM
 have sY:j+1<x.items.length:=by have:=lQ.out;have:=Z0.out;omega
 have jR:x.items.length≤256:=(yD HV.out).2.1;have Yf:(j:Int)<x.items.length:=by omega
 have bB:(j:Int)+1<x.items.length:=by omega
 have Qt:(0:Int)≤(j:Int)+1:=by omega
 have oH:(j:Int)+2≤9223372036854775807:=by omega
 have Mq:=jgu;obtain⟨ib,io,pf,un⟩:=HI.out.items (by omega);obtain⟨y1,y2,y3,y4,q0,q1,q2,q3,dE⟩:=un.get j zB;obtain⟨z1,z2,z3,z4,s0,s1,s2,s3,mR⟩:=un.get (j+1) sY;subst pf;have oQ:=Hh (Xr q x.items j sY);obtain⟨UP,wT⟩:=jhf
 generalize x.items[j]'zB=y at *
 generalize x.items[j+1]'sY=z at *
 have bP:=Hh (And.intro dE mR);have HS:=Hh (And.intro s0 (And.intro s1 (And.intro s2 s3)));have hh:=zN.kn.grows.holds.mono zN.kn.grows.le;have q0:=hh.cell q0;have q1:=hh.cell q1;have q2:=hh.cell q2;have q3:=hh.cell q3;clear un dE mR s0 s1 s2 s3 zB sY hh hj jR;go_wp2_with fail
 refine(fZ bP.out.1.arg _).mono ?_
 intro e w5 hs
 unfold YO at hs
 have Ti:∃ (ok:Bool) (k:Int),e=.returned (.tuple #[.int .i64 k,.bool ok])∧Below wr.heap.size wr w5∧(ok=true→nmP y=some k)∧(ok=false→nmP y=none∧k=0):=by
  cases hn:nmP y with
  | none=>rw[hn]at hs;exact⟨false,0,hs.1,hs.2,(fun h=>by cases h),(fun _=>⟨rfl,rfl⟩)⟩
  | some k=>rw[hn]at hs;exact⟨true,k,hs.1,hs.2,(fun _=>rfl),(fun h=>by cases h)⟩
 clear hs;obtain⟨ok,k,rfl,qe,rX,qf⟩:=Ti;have Mn:=Hh (And.intro rX qf);clear rX qf;replace zN:=zN.below qe;clear qe q0 q1 q2 q3 a3;have a3:=zN.box.cell 3 rfl;have hh:=zN.kn.grows.holds.mono zN.kn.grows.le;have s0:=hh.cell HS.out.1;have s1:=hh.cell HS.out.2.1;have s2:=hh.cell HS.out.2.2.1;have s3:=hh.cell HS.out.2.2.2;have hP:=Blk.new w5 83 #[.int .i64 z.kind,.int .u64 z.n,.slice z1 z.bytes.length z2,.slice z3 z.items.length z4];replace zN:=zN.alloc (zU z z1 z2 z3 z4);clear hh;go_wp2_with fail
 refine(fZ bP.out.2.arg _).mono ?_
 intro e w6 hs
 unfold YO at hs
 have Ti:∃ (is:Bool) (n:Int),e=.returned (.tuple #[.int .i64 n,.bool is])∧Below (w5.alloc (zU z z1 z2 z3 z4)).heap.size (w5.alloc (zU z z1 z2 z3 z4)) w6∧(is=true→nmP z=some n)∧(is=false→nmP z=none∧n=0):=by
  cases hn:nmP z with
  | none=>rw[hn]at hs;exact⟨false,0,hs.1,hs.2,(fun h=>by cases h),(fun _=>⟨rfl,rfl⟩)⟩
  | some k=>rw[hn]at hs;exact⟨true,k,hs.1,hs.2,(fun _=>rfl),(fun h=>by cases h)⟩
 clear hs;obtain⟨is,n,rfl,sm,pz,rY⟩:=Ti;have oP:=Hh (And.intro pz rY);clear pz rY;obtain⟨P,uT⟩:∃ P,w5.heap.size=P:=⟨_,rfl⟩
 rw[uT]at hP⊢;replace zN:=zN.below sm;replace hP:=hP.below sm;clear sm s0 s1 s2 s3 a3 uT;have z0:=hP.cell 0 rfl;have zb:=hP.cell 2 rfl;clear hP
 cases ok with
 | false =>
  obtain⟨Hi,sL⟩:=Mn.out.2 rfl;subst sL;have Hi:=Hh Hi
  have L2:(Instr.lookup 124 (.map (some M2)) (.int .i64 0) false).run Tryz.prog w6=.ok (.pointer none) w6:=by
   have pO:=xC Tryz.underlying124 Tryz.underlying3 zN.m2 (Tryz.zeroValue123 w6) (0);rw[show qR (jQ K) 0=none from rfl]at pO
   exact pO
  have RC:Hid (wY yP x.items=none):=by rw[Hid,← lP.out,oQ.out];rw[rT,Hi.out]
  clear oQ;exact jan
 | true =>
 have Hk:=Hh (Mn.out.1 rfl);clear Mn
 cases is with
 | true =>
  have Pe:=Hh (oP.out.1 rfl);clear oP;have iV:Hid (rT q y z=cT q k n):=by rw[Hid,rT,Hk.out];simp only[Pe.out]
  have Ir:¬ z.kind=2:=fun h=>by
   obtain⟨zk,zn,zbs,zl⟩:=z;have e:=Pe.out
   simp only[Itm.kind]at h
   subst h;rw[QR]at e
   cases e
  have bz2:(z.kind==2)=false:=by rw[beq_eq_false_iff_ne];exact Ir
  have pz2:(z.kind=2)=False:=eq_false Ir;clear Ir;have pQ : -9223372036854775808≤n∧n≤9223372036854775807:=VZ Pe.out;have Uk:=Hh pQ;clear pQ
  by_cases sL:k=1
  ·subst sL
   have L1:(Instr.lookup 122 (.map (some (K+1))) (.int .i64 1) false).run Tryz.prog w6=.ok (.pointer (some ⟨K,0,none⟩)) w6:=by
    have pO:=xC Tryz.underlying122 Tryz.underlying3 zN.m1 (Tryz.zeroValue121 w6) (1)
    exact pO
   go_wp2_with (with_reducible refine zx ?_)
   refine zu rfl _ _ _ rfl rfl K 0 (.int .i64 n) rfl rfl _ _ zN.kn.key (by kernel_rfl) (by simp) rfl fun wt hBt hgt=>?_
   replace zN:=zN.set (kc':=tY { q with kty:=n } a) hBt hgt;clear hBt hgt L1 z0 zb;go_wp2_with fail
   go_roundw
   case rel=>exact⟨j+2,{ q with kty:=n },a,_,by have:=wT.out;omega,by have:=lQ.out;omega,by go_num,zN,⟨Uk.out,wV.out.crv,wV.out.alg,wV.out.kid,wV.out.x,wV.out.d,wV.out.k⟩,by rw[← lP.out,oQ.out,iV.out];rfl⟩
   case measure=>have:=wT.out;simp[intOf];omega
  by_cases qf:k=3
  ·subst qf
   have L1:(Instr.lookup 122 (.map (some (K+1))) (.int .i64 3) false).run Tryz.prog w6=.ok (.pointer (some ⟨K,2,none⟩)) w6:=by
    have pO:=xC Tryz.underlying122 Tryz.underlying3 zN.m1 (Tryz.zeroValue121 w6) (3)
    exact pO
   go_wp2_with (with_reducible refine zx ?_)
   refine zu rfl _ _ _ rfl rfl K 2 (.int .i64 n) rfl rfl _ _ zN.kn.key (by kernel_rfl) (by simp) rfl fun wt hBt hgt=>?_
   replace zN:=zN.set (kc':=tY { q with alg:=n } a) hBt hgt;clear hBt hgt L1 z0 zb;go_wp2_with fail
   go_roundw
   case rel=>exact⟨j+2,{ q with alg:=n },a,_,by have:=wT.out;omega,by have:=lQ.out;omega,by go_num,zN,⟨wV.out.kty,wV.out.crv,Uk.out,wV.out.kid,wV.out.x,wV.out.d,wV.out.k⟩,by rw[← lP.out,oQ.out,iV.out];rfl⟩
   case measure=>have:=wT.out;simp[intOf];omega
  by_cases rX:k = -1
  ·subst rX
   have L1:(Instr.lookup 122 (.map (some (K+1))) (.int .i64 (-1)) false).run Tryz.prog w6=.ok (.pointer (some ⟨K,1,none⟩)) w6:=by
    have pO:=xC Tryz.underlying122 Tryz.underlying3 zN.m1 (Tryz.zeroValue121 w6) ((-1))
    exact pO
   go_wp2_with (with_reducible refine zx ?_)
   refine zu rfl _ _ _ rfl rfl K 1 (.int .i64 n) rfl rfl _ _ zN.kn.key (by kernel_rfl) (by simp) rfl fun wt hBt hgt=>?_
   replace zN:=zN.set (kc':=tY { q with crv:=n } a) hBt hgt;clear hBt hgt L1 z0 zb;go_wp2_with fail
   go_roundw
   case rel=>exact⟨j+2,{ q with crv:=n },a,_,by have:=wT.out;omega,by have:=lQ.out;omega,by go_num,zN,⟨wV.out.kty,Uk.out,wV.out.alg,wV.out.kid,wV.out.x,wV.out.d,wV.out.k⟩,by rw[← lP.out,oQ.out,iV.out];rfl⟩
   case measure=>have:=wT.out;simp[intOf];omega
  have Pb:=Hh (And.intro sL (And.intro qf rX))
  have L1:(Instr.lookup 122 (.map (some (K+1))) (.int .i64 k) false).run Tryz.prog w6=.ok (.pointer none) w6:=by
   have pO:=xC Tryz.underlying122 Tryz.underlying3 zN.m1 (Tryz.zeroValue121 w6) (k);rw[ZU sL qf rX]at pO
   exact pO
  obtain⟨u2,Uw⟩:∃ u2,(qR (jQ K) k).getD (.pointer none)=u2:=⟨_,rfl⟩
  have L2:(Instr.lookup 124 (.map (some M2)) (.int .i64 k) false).run Tryz.prog w6=.ok (u2) w6:=by
   exact jcV
  have Il:u2=.pointer none∨∃ p,u2=.pointer (some p):=by rw[← Uw];exact fa K k
  clear sL rX qf Uw;have RC:Hid (wY yP x.items=none):=by rw[Hid,← lP.out,oQ.out,iV.out,cT,if_neg Pb.out.1,if_neg Pb.out.2.1,if_neg Pb.out.2.2]
  exact je8
 | false =>
 obtain⟨Pe,yj⟩:=oP.out.2 rfl;subst yj;have Pe:=Hh Pe;clear oP
 by_cases q9:z.kind=2
 case neg =>
  have iV:Hid (rT q y z=none):=by rw[Hid,rT,Hk.out];simp only[Pe.out,if_neg q9]
  have bz2:(z.kind==2)=false:=by rw[beq_eq_false_iff_ne];exact q9
  have pz2:(z.kind=2)=False:=eq_false q9;clear q9;obtain⟨u2,Uw⟩:∃ u2,(qR (jQ K) k).getD (.pointer none)=u2:=⟨_,rfl⟩
  have L2:(Instr.lookup 124 (.map (some M2)) (.int .i64 k) false).run Tryz.prog w6=.ok (u2) w6:=by
   exact jcV
  have Il:u2=.pointer none∨∃ p,u2=.pointer (some p):=by rw[← Uw];exact fa K k
  clear Uw;have RC:Hid (wY yP x.items=none):=by rw[Hid,← lP.out,oQ.out,iV.out]
  exact je8
 have iV:Hid (rT q y z=gO q k z.bytes):=by rw[Hid,rT,Hk.out];simp only[Pe.out,if_pos q9]
 have bz2:(z.kind==2)=true:=by rw[beq_iff_eq];exact q9
 have pz2:(z.kind=2)=True:=eq_true q9;clear q9
 by_cases lZ:k=2
 ·subst lZ
  have L2:(Instr.lookup 124 (.map (some M2)) (.int .i64 2) false).run Tryz.prog w6=.ok (.pointer (some ⟨K,3,none⟩)) w6:=by
   have pO:=xC Tryz.underlying124 Tryz.underlying3 zN.m2 (Tryz.zeroValue123 w6) (2)
   exact pO
  go_wp2_with fail
  refine(vC _ z1 z.bytes z.bytes.length z2 rfl (by have:=(yD UP.out).1;omega) (Src.of_row (bP.out.2.mono zN.kn.grows.le).bytes.row zN.kn.grows.holds)).mono ?_
  rintro e w7 ⟨r7,rfl,dF⟩
  obtain⟨A7,c7,rfl,vJ⟩:=dF.own.form;clear vJ;obtain⟨H7,xp,uq,vJ⟩:=Fresh.snapB zN.kn.grows.holds dF;clear vJ dF;replace zN:=zN.grow xp;replace wV:=Hh (wV.out.mono xp.le);have Yk:=Hh uq;clear xp uq L2 z0 zb;go_wp2_with (with_reducible refine zx ?_)
  refine zu rfl _ _ _ rfl rfl K 3 (.slice A7 z.bytes.length c7) rfl rfl _ _ zN.kn.key (by kernel_rfl) (by simp) rfl fun wt hBt hgt=>?_
  replace zN:=zN.set (kc':=tY { q with kid:=z.bytes } { a with ia:=A7,ic:=c7 }) hBt hgt;clear hBt hgt;go_wp2_with fail
  go_roundw
  case rel=>exact⟨j+2,{ q with kid:=z.bytes },{ a with ia:=A7,ic:=c7 },_,by have:=wT.out;omega,by have:=lQ.out;omega,by go_num,zN,⟨wV.out.kty,wV.out.crv,wV.out.alg,Yk.out,wV.out.x,wV.out.d,wV.out.k⟩,by rw[← lP.out,oQ.out,iV.out];rfl⟩
  case measure=>have:=wT.out;simp[intOf];omega
 by_cases NH:k = -1
 ·subst NH
  have L2:(Instr.lookup 124 (.map (some M2)) (.int .i64 (-1)) false).run Tryz.prog w6=.ok (.pointer (some ⟨K,6,none⟩)) w6:=by
   have pO:=xC Tryz.underlying124 Tryz.underlying3 zN.m2 (Tryz.zeroValue123 w6) ((-1))
   exact pO
  go_wp2_with fail
  refine(vC _ z1 z.bytes z.bytes.length z2 rfl (by have:=(yD UP.out).1;omega) (Src.of_row (bP.out.2.mono zN.kn.grows.le).bytes.row zN.kn.grows.holds)).mono ?_
  rintro e w7 ⟨r7,rfl,dF⟩
  obtain⟨A7,c7,rfl,vJ⟩:=dF.own.form;clear vJ;obtain⟨H7,xp,uq,vJ⟩:=Fresh.snapB zN.kn.grows.holds dF;clear vJ dF;replace zN:=zN.grow xp;replace wV:=Hh (wV.out.mono xp.le);have Yk:=Hh uq;clear xp uq L2 z0 zb;go_wp2_with (with_reducible refine zx ?_)
  refine zu rfl _ _ _ rfl rfl K 6 (.slice A7 z.bytes.length c7) rfl rfl _ _ zN.kn.key (by kernel_rfl) (by simp) rfl fun wt hBt hgt=>?_
  replace zN:=zN.set (kc':=tY { q with k:=z.bytes } { a with ka:=A7,kc:=c7 }) hBt hgt;clear hBt hgt;go_wp2_with fail
  go_roundw
  case rel=>exact⟨j+2,{ q with k:=z.bytes },{ a with ka:=A7,kc:=c7 },_,by have:=wT.out;omega,by have:=lQ.out;omega,by go_num,zN,⟨wV.out.kty,wV.out.crv,wV.out.alg,wV.out.kid,wV.out.x,wV.out.d,Yk.out⟩,by rw[← lP.out,oQ.out,iV.out];rfl⟩
  case measure=>have:=wT.out;simp[intOf];omega
 by_cases Ug:k = -2
 ·subst Ug
  have L2:(Instr.lookup 124 (.map (some M2)) (.int .i64 (-2)) false).run Tryz.prog w6=.ok (.pointer (some ⟨K,4,none⟩)) w6:=by
   have pO:=xC Tryz.underlying124 Tryz.underlying3 zN.m2 (Tryz.zeroValue123 w6) ((-2))
   exact pO
  go_wp2_with fail
  refine(vC _ z1 z.bytes z.bytes.length z2 rfl (by have:=(yD UP.out).1;omega) (Src.of_row (bP.out.2.mono zN.kn.grows.le).bytes.row zN.kn.grows.holds)).mono ?_
  rintro e w7 ⟨r7,rfl,dF⟩
  obtain⟨A7,c7,rfl,vJ⟩:=dF.own.form;clear vJ;obtain⟨H7,xp,uq,vJ⟩:=Fresh.snapB zN.kn.grows.holds dF;clear vJ dF;replace zN:=zN.grow xp;replace wV:=Hh (wV.out.mono xp.le);have Yk:=Hh uq;clear xp uq L2 z0 zb;go_wp2_with (with_reducible refine zx ?_)
  refine zu rfl _ _ _ rfl rfl K 4 (.slice A7 z.bytes.length c7) rfl rfl _ _ zN.kn.key (by kernel_rfl) (by simp) rfl fun wt hBt hgt=>?_
  replace zN:=zN.set (kc':=tY { q with x:=z.bytes } { a with xa:=A7,xc:=c7 }) hBt hgt;clear hBt hgt;go_wp2_with fail
  go_roundw
  case rel=>exact⟨j+2,{ q with x:=z.bytes },{ a with xa:=A7,xc:=c7 },_,by have:=wT.out;omega,by have:=lQ.out;omega,by go_num,zN,⟨wV.out.kty,wV.out.crv,wV.out.alg,wV.out.kid,Yk.out,wV.out.d,wV.out.k⟩,by rw[← lP.out,oQ.out,iV.out];rfl⟩
  case measure=>have:=wT.out;simp[intOf];omega
 by_cases Uh:k = -4
 ·subst Uh
  have L2:(Instr.lookup 124 (.map (some M2)) (.int .i64 (-4)) false).run Tryz.prog w6=.ok (.pointer (some ⟨K,5,none⟩)) w6:=by
   have pO:=xC Tryz.underlying124 Tryz.underlying3 zN.m2 (Tryz.zeroValue123 w6) ((-4))
   exact pO
  go_wp2_with fail
  refine(vC _ z1 z.bytes z.bytes.length z2 rfl (by have:=(yD UP.out).1;omega) (Src.of_row (bP.out.2.mono zN.kn.grows.le).bytes.row zN.kn.grows.holds)).mono ?_
  rintro e w7 ⟨r7,rfl,dF⟩
  obtain⟨A7,c7,rfl,vJ⟩:=dF.own.form;clear vJ;obtain⟨H7,xp,uq,vJ⟩:=Fresh.snapB zN.kn.grows.holds dF;clear vJ dF;replace zN:=zN.grow xp;replace wV:=Hh (wV.out.mono xp.le);have Yk:=Hh uq;clear xp uq L2 z0 zb;go_wp2_with (with_reducible refine zx ?_)
  refine zu rfl _ _ _ rfl rfl K 5 (.slice A7 z.bytes.length c7) rfl rfl _ _ zN.kn.key (by kernel_rfl) (by simp) rfl fun wt hBt hgt=>?_
  replace zN:=zN.set (kc':=tY { q with d:=z.bytes } { a with da:=A7,dc:=c7 }) hBt hgt;clear hBt hgt;go_wp2_with fail
  go_roundw
  case rel=>exact⟨j+2,{ q with d:=z.bytes },{ a with da:=A7,dc:=c7 },_,by have:=wT.out;omega,by have:=lQ.out;omega,by go_num,zN,⟨wV.out.kty,wV.out.crv,wV.out.alg,wV.out.kid,wV.out.x,Yk.out,wV.out.k⟩,by rw[← lP.out,oQ.out,iV.out];rfl⟩
  case measure=>have:=wT.out;simp[intOf];omega
 have Pb:=Hh (And.intro lZ (And.intro NH (And.intro Ug Uh)))
 have L2:(Instr.lookup 124 (.map (some M2)) (.int .i64 k) false).run Tryz.prog w6=.ok (.pointer none) w6:=by
  have pO:=xC Tryz.underlying124 Tryz.underlying3 zN.m2 (Tryz.zeroValue123 w6) (k);rw[jF lZ NH Ug Uh]at pO
  exact pO
 clear lZ Ug Uh NH;have RC:Hid (wY yP x.items=none):=by rw[Hid,← lP.out,oQ.out,iV.out,gO,if_neg Pb.out.1,if_neg Pb.out.2.1,if_neg Pb.out.2.2.1,if_neg Pb.out.2.2.2]
 clear oQ;exact jan
end Go.Proofs.YtgaoknihklmakabGreatDoor
