/- squeezed. Walks: copies of runs, by the prog -/
import Derived.Test.YtnfoilblmhbobaaGreatDoorK07
set_option linter.unusedVariables false
set_option linter.unusedSimpArgs false
set_option maxRecDepth 100000
set_option maxHeartbeats 25600000
namespace Go.Proofs.YtnfoilblmhbobaaGreatDoor
open Go.RowKit
theorem pE {H:Snap}{v:Rn}{a:RnA}(ha:IsRn H v a) (hs:v.Small) (w:World) (hH:Holds w H) :
  Calls Tryz.prog 19 #[.agg (rnC v a)] w fun e w'=>∃ a' H',e=.returned (.agg (rnC v a'))∧Grows w H w' H'∧IsRn H' v a':=by
 have hX:=(Blk.new w 34 (rnC v a)).alloc (.cells yz 34);have hR:=Blk.new (w.alloc (.cells (rnC v a) 34)) 34 yz;rw[zY]at hR;have hG:=((Grows.refl hH).alloc (.cells (rnC v a) 34)).alloc (.cells yz 34);have pO:((w.alloc (.cells (rnC v a) 34)).alloc (.cells yz 34)).heap.size=w.heap.size+2:=by rw[zY,zY]
 have mh:=hH.none_of_ge (Nat.le_refl w.heap.size);have fU:=hH.none_of_ge (show w.heap.size≤w.heap.size+1 by omega);have ew:=hH.none_of_ge (show w.heap.size≤w.heap.size+2 by omega);have HA:=Hh ha;have HS:=Hh hs;clear ha hs hH;go_enter Tryz.func19,Tryz.ntmps19
 obtain⟨W2,sU⟩:∃ W2,(w.alloc (.cells (rnC v a) 34)).alloc (.cells yz 34)=W2:=⟨_,rfl⟩
 go_upto_region 1 with fail
 rw[sU]at hX hR hG pO
 try rw[sU]
 clear sU;go_wp2_with (with_reducible refine zJ ?_)
 refine wpList_load_row rfl _ _ rfl w.heap.size rfl _ (rnC v a) (0,0) _ hX Tryz.underlying34 rfl za ?_
 go_wp2_with (with_reducible refine zx ?_)
 refine zr rfl _ _ _ rfl rfl (w.heap.size+2) (rnC v a) rfl rfl 34 yz (by have h:=Blk.new W2 34 yz;rw[pO]at h;exact h) za rfl (xQ v a) fun w3 hO rO=>?_
 have yw:=hG.alloc (.cells yz 34)
 have hC:CP 34 yz (rnC v a) (rnC v a) w H w3 H :=
  ⟨yw.grownOwn ew (by omega) rO,(hX.alloc _).gr rO (by omega),(hR.alloc _).gr rO (by omega),hO,mh,fU,ew⟩
 clear hX hR hG pO mh fU ew yw hO rO;have x4:w3.cell? ⟨w.heap.size,4,none⟩=some (.slice a.p.cred.a v.p.cred.length a.p.cred.c):=hC.x.cell 4 rfl;have x5:w3.cell? ⟨w.heap.size,5,none⟩=some (.int .i64 v.p.ref):=hC.x.cell 5 rfl;have x6:w3.cell? ⟨w.heap.size,6,none⟩=some (.slice a.p.chain.a v.p.chain.length a.p.chain.c):=hC.x.cell 6 rfl;have x7:w3.cell? ⟨w.heap.size,7,none⟩=some (.int .i64 v.p.kty):=hC.x.cell 7 rfl;have x8:w3.cell? ⟨w.heap.size,8,none⟩=some (.int .i64 v.p.crv):=hC.x.cell 8 rfl;have x9:w3.cell? ⟨w.heap.size,9,none⟩=some (.int .i64 v.p.alg):=hC.x.cell 9 rfl;have x10:w3.cell? ⟨w.heap.size,10,none⟩=some (.slice a.p.kid.a v.p.kid.length a.p.kid.c):=hC.x.cell 10 rfl;have x11:w3.cell? ⟨w.heap.size,11,none⟩=some (.slice a.p.kx.a v.p.kx.length a.p.kx.c):=hC.x.cell 11 rfl;have x12:w3.cell? ⟨w.heap.size,12,none⟩=some (.slice a.p.kd.a v.p.kd.length a.p.kd.c):=hC.x.cell 12 rfl
 have x13:w3.cell? ⟨w.heap.size,13,none⟩=some (.slice a.p.kk.a v.p.kk.length a.p.kk.c):=hC.x.cell 13 rfl;have x14:w3.cell? ⟨w.heap.size,14,none⟩=some (.slice a.p.suites.a v.p.suites.length a.p.suites.c):=hC.x.cell 14 rfl;have x15:w3.cell? ⟨w.heap.size,15,none⟩=some (.slice a.p.known.a v.p.known.length a.p.known.c):=hC.x.cell 15 rfl;have x16:w3.cell? ⟨w.heap.size,16,none⟩=some (.slice a.p.anchors.a v.p.anchors.length a.p.anchors.c):=hC.x.cell 16 rfl;go_wp2_with fail
 refine(pX (HA.out.p.mono hC.grows.le) HS.out.p _ hC.grows.holds).mono ?_
 rintro e y1 ⟨p1,H1,rfl,wu,b1⟩
 replace hC:=hC.grow wu;clear wu x4 x5 x6 x7 x8 x9 x10 x11 x12 x13 x14 x15 x16;go_wp2_with (with_reducible refine zx ?_)
 refine uj rfl _ _ _ rfl rfl (w.heap.size+2) 4 (ptC v.p p1) rfl rfl _ _ hC.o wj (by simp) (jp _ _) fun wt hBt hgt=>?_
 rw[show qa (rnC v a) 4 (ptC v.p p1).toList=rnC v (⟨p1,a.mine,a.other,a.priv,a.gx,a.gy,a.h1,a.th,a.prk,a.peer,a.out,a.heard,a.sent,a.refused⟩:RnA) from by simp[qa]]at hBt;replace hC:=hC.set (os':=rnC v (⟨p1,a.mine,a.other,a.priv,a.gx,a.gy,a.h1,a.th,a.prk,a.peer,a.out,a.heard,a.sent,a.refused⟩:RnA)) hBt hgt;clear hBt hgt;go_upto_region 3 with fail
 replace hC:=hC.drew
 refine zp 30 (fun wx=>wx.cell? ⟨w.heap.size,17,none⟩=some (.slice a.mine.a v.mine.length a.mine.c)∧wx.cell? ⟨w.heap.size,18,none⟩=some (.slice a.other.a v.other.length a.other.c)∧wx.cell? ⟨w.heap.size,19,none⟩=some (.slice a.priv.a v.priv.length a.priv.c)∧wx.cell? ⟨w.heap.size,20,none⟩=some (.slice a.gx.a v.gx.length a.gx.c)∧wx.cell? ⟨w.heap.size,21,none⟩=some (.slice a.gy.a v.gy.length a.gy.c)∧wx.cell? ⟨w.heap.size,22,none⟩=some (.slice a.h1.a v.h1.length a.h1.c)) (by kernel_rfl) (⟨hC.x.cell 17 rfl,hC.x.cell 18 rfl,hC.x.cell 19 rfl,hC.x.cell 20 rfl,hC.x.cell 21 rfl,hC.x.cell 22 rfl⟩) (fun zy=>?_)
 refine TkS 0 rfl zy ?_
 refine TkS 1 rfl zy ?_
 refine TkS 3 rfl zy ?_
 refine TkS 4 rfl zy ?_
 refine TkS 6 rfl zy ?_
 refine TkS 7 rfl zy ?_
 refine TkS 9 rfl zy ?_
 refine TkS 10 rfl zy ?_
 refine TkS 12 rfl zy ?_
 refine TkS 13 rfl zy ?_
 refine TkS 15 rfl zy ?_
 refine TkS 16 rfl zy ?_
 refine To 2 rfl fun K hK=>?_
 go_simp
 refine(ze rfl (by have:=HS.out.mine;omega) (HA.out.mine.mono hC.grows.le) _ hC.grows.holds).mono ?_
 rintro e y2 ⟨A2,c2,H2,rfl,yw,b2⟩
 replace hC:=hC.grow yw;replace b1:=b1.mono yw.le;clear yw
 refine Ko hK ?_ fun zy=>?_
 ·exact⟨hC.x.cell 17 rfl,hC.x.cell 18 rfl,hC.x.cell 19 rfl,hC.x.cell 20 rfl,hC.x.cell 21 rfl,hC.x.cell 22 rfl⟩
 clear hK K
 refine TkS 18 rfl zy ?_
 refine To 5 rfl fun K hK=>?_
 go_simp
 refine(ze rfl (by have:=HS.out.other;omega) (HA.out.other.mono hC.grows.le) _ hC.grows.holds).mono ?_
 rintro e y3 ⟨A3,c3,H3,rfl,yt,b3⟩
 replace hC:=hC.grow yt;replace b1:=b1.mono yt.le;replace b2:=b2.mono yt.le;clear yt
 refine Ko hK ?_ fun zy=>?_
 ·exact⟨hC.x.cell 17 rfl,hC.x.cell 18 rfl,hC.x.cell 19 rfl,hC.x.cell 20 rfl,hC.x.cell 21 rfl,hC.x.cell 22 rfl⟩
 clear hK K
 refine To 8 rfl fun K hK=>?_
 go_simp
 refine(ze rfl (by have:=HS.out.priv;omega) (HA.out.priv.mono hC.grows.le) _ hC.grows.holds).mono ?_
 rintro e y4 ⟨A4,c4,H4,rfl,xm,b4⟩
 replace hC:=hC.grow xm;replace b1:=b1.mono xm.le;replace b2:=b2.mono xm.le;replace b3:=b3.mono xm.le;clear xm
 refine Ko hK ?_ fun zy=>?_
 ·exact⟨hC.x.cell 17 rfl,hC.x.cell 18 rfl,hC.x.cell 19 rfl,hC.x.cell 20 rfl,hC.x.cell 21 rfl,hC.x.cell 22 rfl⟩
 clear hK K
 refine To 11 rfl fun K hK=>?_
 go_simp
 refine(ze rfl (by have:=HS.out.gx;omega) (HA.out.gx.mono hC.grows.le) _ hC.grows.holds).mono ?_
 rintro e y5 ⟨A5,c5,H5,rfl,xv,b5⟩
 replace hC:=hC.grow xv;replace b1:=b1.mono xv.le;replace b2:=b2.mono xv.le;replace b3:=b3.mono xv.le;replace b4:=b4.mono xv.le;clear xv
 refine Ko hK ?_ fun zy=>?_
 ·exact⟨hC.x.cell 17 rfl,hC.x.cell 18 rfl,hC.x.cell 19 rfl,hC.x.cell 20 rfl,hC.x.cell 21 rfl,hC.x.cell 22 rfl⟩
 clear hK K
 refine To 14 rfl fun K hK=>?_
 go_simp
 refine(ze rfl (by have:=HS.out.gy;omega) (HA.out.gy.mono hC.grows.le) _ hC.grows.holds).mono ?_
 rintro e y6 ⟨A6,c6,H6,rfl,yC,b6⟩
 replace hC:=hC.grow yC;replace b1:=b1.mono yC.le;replace b2:=b2.mono yC.le;replace b3:=b3.mono yC.le;replace b4:=b4.mono yC.le;replace b5:=b5.mono yC.le;clear yC
 refine Ko hK ?_ fun zy=>?_
 ·exact⟨hC.x.cell 17 rfl,hC.x.cell 18 rfl,hC.x.cell 19 rfl,hC.x.cell 20 rfl,hC.x.cell 21 rfl,hC.x.cell 22 rfl⟩
 clear hK K
 refine To 17 rfl fun K hK=>?_
 go_simp
 refine(ze rfl (by have:=HS.out.h1;omega) (HA.out.h1.mono hC.grows.le) _ hC.grows.holds).mono ?_
 rintro e y7 ⟨A7,c7,H7,rfl,xp,b7⟩
 replace hC:=hC.grow xp;replace b1:=b1.mono xp.le;replace b2:=b2.mono xp.le;replace b3:=b3.mono xp.le;replace b4:=b4.mono xp.le;replace b5:=b5.mono xp.le;replace b6:=b6.mono xp.le;clear xp
 refine Ko hK ?_ fun zy=>?_
 ·exact⟨hC.x.cell 17 rfl,hC.x.cell 18 rfl,hC.x.cell 19 rfl,hC.x.cell 20 rfl,hC.x.cell 21 rfl,hC.x.cell 22 rfl⟩
 clear hK K
 refine To 19 rfl fun K hK=>?_
 rw[if_pos (by rfl)]
 refine zZ _ _ _ rfl (w.heap.size+2) 17 (.slice A2 v.mine.length c2) rfl rfl _ _ hC.o zI (by simp) rfl fun wt hBt hgt=>?_
 replace hC:=hC.set (os':=rnC v (⟨p1,⟨A2,c2⟩,a.other,a.priv,a.gx,a.gy,a.h1,a.th,a.prk,a.peer,a.out,a.heard,a.sent,a.refused⟩:RnA)) hBt hgt;clear hBt hgt
 refine Ko hK ?_ fun zy=>?_
 ·exact⟨hC.x.cell 17 rfl,hC.x.cell 18 rfl,hC.x.cell 19 rfl,hC.x.cell 20 rfl,hC.x.cell 21 rfl,hC.x.cell 22 rfl⟩
 clear hK K
 refine TkS 20 rfl zy ?_
 refine To 21 rfl fun K hK=>?_
 rw[if_pos (by rfl)]
 refine zZ _ _ _ rfl (w.heap.size+2) 18 (.slice A3 v.other.length c3) rfl rfl _ _ hC.o zI (by simp) rfl fun wt hBt hgt=>?_
 replace hC:=hC.set (os':=rnC v (⟨p1,⟨A2,c2⟩,⟨A3,c3⟩,a.priv,a.gx,a.gy,a.h1,a.th,a.prk,a.peer,a.out,a.heard,a.sent,a.refused⟩:RnA)) hBt hgt;clear hBt hgt
 refine Ko hK ?_ fun zy=>?_
 ·exact⟨hC.x.cell 17 rfl,hC.x.cell 18 rfl,hC.x.cell 19 rfl,hC.x.cell 20 rfl,hC.x.cell 21 rfl,hC.x.cell 22 rfl⟩
 clear hK K
 refine TkS 22 rfl zy ?_
 refine To 23 rfl fun K hK=>?_
 rw[if_pos (by rfl)]
 refine zZ _ _ _ rfl (w.heap.size+2) 19 (.slice A4 v.priv.length c4) rfl rfl _ _ hC.o zI (by simp) rfl fun wt hBt hgt=>?_
 replace hC:=hC.set (os':=rnC v (⟨p1,⟨A2,c2⟩,⟨A3,c3⟩,⟨A4,c4⟩,a.gx,a.gy,a.h1,a.th,a.prk,a.peer,a.out,a.heard,a.sent,a.refused⟩:RnA)) hBt hgt;clear hBt hgt
 refine Ko hK ?_ fun zy=>?_
 ·exact⟨hC.x.cell 17 rfl,hC.x.cell 18 rfl,hC.x.cell 19 rfl,hC.x.cell 20 rfl,hC.x.cell 21 rfl,hC.x.cell 22 rfl⟩
 clear hK K
 refine TkS 24 rfl zy ?_
 refine To 25 rfl fun K hK=>?_
 rw[if_pos (by rfl)]
 refine zZ _ _ _ rfl (w.heap.size+2) 20 (.slice A5 v.gx.length c5) rfl rfl _ _ hC.o zI (by simp) rfl fun wt hBt hgt=>?_
 replace hC:=hC.set (os':=rnC v (⟨p1,⟨A2,c2⟩,⟨A3,c3⟩,⟨A4,c4⟩,⟨A5,c5⟩,a.gy,a.h1,a.th,a.prk,a.peer,a.out,a.heard,a.sent,a.refused⟩:RnA)) hBt hgt;clear hBt hgt
 refine Ko hK ?_ fun zy=>?_
 ·exact⟨hC.x.cell 17 rfl,hC.x.cell 18 rfl,hC.x.cell 19 rfl,hC.x.cell 20 rfl,hC.x.cell 21 rfl,hC.x.cell 22 rfl⟩
 clear hK K
 refine TkS 26 rfl zy ?_
 refine To 27 rfl fun K hK=>?_
 rw[if_pos (by rfl)]
 refine zZ _ _ _ rfl (w.heap.size+2) 21 (.slice A6 v.gy.length c6) rfl rfl _ _ hC.o zI (by simp) rfl fun wt hBt hgt=>?_
 replace hC:=hC.set (os':=rnC v (⟨p1,⟨A2,c2⟩,⟨A3,c3⟩,⟨A4,c4⟩,⟨A5,c5⟩,⟨A6,c6⟩,a.h1,a.th,a.prk,a.peer,a.out,a.heard,a.sent,a.refused⟩:RnA)) hBt hgt;clear hBt hgt
 refine Ko hK ?_ fun zy=>?_
 ·exact⟨hC.x.cell 17 rfl,hC.x.cell 18 rfl,hC.x.cell 19 rfl,hC.x.cell 20 rfl,hC.x.cell 21 rfl,hC.x.cell 22 rfl⟩
 clear hK K
 refine TkS 28 rfl zy ?_
 refine To 29 rfl fun K hK=>?_
 rw[if_pos (by rfl)]
 refine zZ _ _ _ rfl (w.heap.size+2) 22 (.slice A7 v.h1.length c7) rfl rfl _ _ hC.o zI (by simp) rfl fun wt hBt hgt=>?_
 replace hC:=hC.set (os':=rnC v (⟨p1,⟨A2,c2⟩,⟨A3,c3⟩,⟨A4,c4⟩,⟨A5,c5⟩,⟨A6,c6⟩,⟨A7,c7⟩,a.th,a.prk,a.peer,a.out,a.heard,a.sent,a.refused⟩:RnA)) hBt hgt;clear hBt hgt
 refine Ko hK ?_ fun zy=>?_
 ·exact⟨hC.x.cell 17 rfl,hC.x.cell 18 rfl,hC.x.cell 19 rfl,hC.x.cell 20 rfl,hC.x.cell 21 rfl,hC.x.cell 22 rfl⟩
 clear hK K
 refine Wd ?_
 clear zy;go_upto_region 4 with fail
 replace hC:=hC.drew
 refine zp 30 (fun wx=>wx.cell? ⟨w.heap.size,23,none⟩=some (.slice a.th.a v.th.length a.th.c)∧wx.cell? ⟨w.heap.size,24,none⟩=some (.slice a.prk.a v.prk.length a.prk.c)∧wx.cell? ⟨w.heap.size,25,none⟩=some (.slice a.peer.a v.peer.length a.peer.c)∧wx.cell? ⟨w.heap.size,26,none⟩=some (.slice a.out.a v.out.length a.out.c)∧wx.cell? ⟨w.heap.size,27,none⟩=some (.slice a.heard.a v.heard.length a.heard.c)∧wx.cell? ⟨w.heap.size,28,none⟩=some (.slice a.sent.a v.sent.length a.sent.c)) (by kernel_rfl) (⟨hC.x.cell 23 rfl,hC.x.cell 24 rfl,hC.x.cell 25 rfl,hC.x.cell 26 rfl,hC.x.cell 27 rfl,hC.x.cell 28 rfl⟩) (fun zy=>?_)
 refine TkS 0 rfl zy ?_
 refine TkS 1 rfl zy ?_
 refine TkS 3 rfl zy ?_
 refine TkS 4 rfl zy ?_
 refine TkS 6 rfl zy ?_
 refine TkS 7 rfl zy ?_
 refine TkS 9 rfl zy ?_
 refine TkS 10 rfl zy ?_
 refine TkS 12 rfl zy ?_
 refine TkS 13 rfl zy ?_
 refine TkS 15 rfl zy ?_
 refine TkS 16 rfl zy ?_
 refine To 2 rfl fun K hK=>?_
 go_simp
 refine(ze rfl (by have:=HS.out.th;omega) (HA.out.th.mono hC.grows.le) _ hC.grows.holds).mono ?_
 rintro e y8 ⟨A8,c8,H8,rfl,ur,b8⟩
 replace hC:=hC.grow ur;replace b1:=b1.mono ur.le;replace b2:=b2.mono ur.le;replace b3:=b3.mono ur.le;replace b4:=b4.mono ur.le;replace b5:=b5.mono ur.le;replace b6:=b6.mono ur.le;replace b7:=b7.mono ur.le;clear ur
 refine Ko hK ?_ fun zy=>?_
 ·exact⟨hC.x.cell 23 rfl,hC.x.cell 24 rfl,hC.x.cell 25 rfl,hC.x.cell 26 rfl,hC.x.cell 27 rfl,hC.x.cell 28 rfl⟩
 clear hK K
 refine TkS 18 rfl zy ?_
 refine To 5 rfl fun K hK=>?_
 go_simp
 refine(ze rfl (by have:=HS.out.prk;omega) (HA.out.prk.mono hC.grows.le) _ hC.grows.holds).mono ?_
 rintro e y9 ⟨A9,c9,H9,rfl,tG,b9⟩
 replace hC:=hC.grow tG;replace b1:=b1.mono tG.le;replace b2:=b2.mono tG.le;replace b3:=b3.mono tG.le;replace b4:=b4.mono tG.le;replace b5:=b5.mono tG.le;replace b6:=b6.mono tG.le;replace b7:=b7.mono tG.le;replace b8:=b8.mono tG.le;clear tG
 refine Ko hK ?_ fun zy=>?_
 ·exact⟨hC.x.cell 23 rfl,hC.x.cell 24 rfl,hC.x.cell 25 rfl,hC.x.cell 26 rfl,hC.x.cell 27 rfl,hC.x.cell 28 rfl⟩
 clear hK K
 refine To 8 rfl fun K hK=>?_
 go_simp
 refine(ze rfl (by have:=HS.out.peer;omega) (HA.out.peer.mono hC.grows.le) _ hC.grows.holds).mono ?_
 rintro e y10 ⟨A10,c10,Qq,rfl,wB,b10⟩
 replace hC:=hC.grow wB;replace b1:=b1.mono wB.le;replace b2:=b2.mono wB.le;replace b3:=b3.mono wB.le;replace b4:=b4.mono wB.le;replace b5:=b5.mono wB.le;replace b6:=b6.mono wB.le;replace b7:=b7.mono wB.le;replace b8:=b8.mono wB.le;replace b9:=b9.mono wB.le;clear wB
 refine Ko hK ?_ fun zy=>?_
 ·exact⟨hC.x.cell 23 rfl,hC.x.cell 24 rfl,hC.x.cell 25 rfl,hC.x.cell 26 rfl,hC.x.cell 27 rfl,hC.x.cell 28 rfl⟩
 clear hK K
 refine To 11 rfl fun K hK=>?_
 go_simp
 refine(ze rfl (by have:=HS.out.out;omega) (HA.out.out.mono hC.grows.le) _ hC.grows.holds).mono ?_
 rintro e y11 ⟨A11,c11,Qr,rfl,qv,b11⟩
 replace hC:=hC.grow qv;replace b1:=b1.mono qv.le;replace b2:=b2.mono qv.le;replace b3:=b3.mono qv.le;replace b4:=b4.mono qv.le;replace b5:=b5.mono qv.le;replace b6:=b6.mono qv.le;replace b7:=b7.mono qv.le;replace b8:=b8.mono qv.le;replace b9:=b9.mono qv.le;replace b10:=b10.mono qv.le;clear qv
 refine Ko hK ?_ fun zy=>?_
 ·exact⟨hC.x.cell 23 rfl,hC.x.cell 24 rfl,hC.x.cell 25 rfl,hC.x.cell 26 rfl,hC.x.cell 27 rfl,hC.x.cell 28 rfl⟩
 clear hK K
 refine To 14 rfl fun K hK=>?_
 go_simp
 refine(ze rfl (by have:=HS.out.heard;omega) (HA.out.heard.mono hC.grows.le) _ hC.grows.holds).mono ?_
 rintro e y12 ⟨A12,c12,Qs,rfl,zl,b12⟩
 replace hC:=hC.grow zl;replace b1:=b1.mono zl.le;replace b2:=b2.mono zl.le;replace b3:=b3.mono zl.le;replace b4:=b4.mono zl.le;replace b5:=b5.mono zl.le;replace b6:=b6.mono zl.le;replace b7:=b7.mono zl.le;replace b8:=b8.mono zl.le;replace b9:=b9.mono zl.le;replace b10:=b10.mono zl.le;replace b11:=b11.mono zl.le;clear zl
 refine Ko hK ?_ fun zy=>?_
 ·exact⟨hC.x.cell 23 rfl,hC.x.cell 24 rfl,hC.x.cell 25 rfl,hC.x.cell 26 rfl,hC.x.cell 27 rfl,hC.x.cell 28 rfl⟩
 clear hK K
 refine To 17 rfl fun K hK=>?_
 go_simp
 refine(ze rfl (by have:=HS.out.sent;omega) (HA.out.sent.mono hC.grows.le) _ hC.grows.holds).mono ?_
 rintro e y13 ⟨A13,c13,Qt,rfl,sO,b13⟩
 replace hC:=hC.grow sO;replace b1:=b1.mono sO.le;replace b2:=b2.mono sO.le;replace b3:=b3.mono sO.le;replace b4:=b4.mono sO.le;replace b5:=b5.mono sO.le;replace b6:=b6.mono sO.le;replace b7:=b7.mono sO.le;replace b8:=b8.mono sO.le;replace b9:=b9.mono sO.le;replace b10:=b10.mono sO.le;replace b11:=b11.mono sO.le;replace b12:=b12.mono sO.le;clear sO
 refine Ko hK ?_ fun zy=>?_
 ·exact⟨hC.x.cell 23 rfl,hC.x.cell 24 rfl,hC.x.cell 25 rfl,hC.x.cell 26 rfl,hC.x.cell 27 rfl,hC.x.cell 28 rfl⟩
 clear hK K
 refine To 19 rfl fun K hK=>?_
 rw[if_pos (by rfl)]
 refine zZ _ _ _ rfl (w.heap.size+2) 23 (.slice A8 v.th.length c8) rfl rfl _ _ hC.o zI (by simp) rfl fun wt hBt hgt=>?_
 replace hC:=hC.set (os':=rnC v (⟨p1,⟨A2,c2⟩,⟨A3,c3⟩,⟨A4,c4⟩,⟨A5,c5⟩,⟨A6,c6⟩,⟨A7,c7⟩,⟨A8,c8⟩,a.prk,a.peer,a.out,a.heard,a.sent,a.refused⟩:RnA)) hBt hgt;clear hBt hgt
 refine Ko hK ?_ fun zy=>?_
 ·exact⟨hC.x.cell 23 rfl,hC.x.cell 24 rfl,hC.x.cell 25 rfl,hC.x.cell 26 rfl,hC.x.cell 27 rfl,hC.x.cell 28 rfl⟩
 clear hK K
 refine TkS 20 rfl zy ?_
 refine To 21 rfl fun K hK=>?_
 rw[if_pos (by rfl)]
 refine zZ _ _ _ rfl (w.heap.size+2) 24 (.slice A9 v.prk.length c9) rfl rfl _ _ hC.o zI (by simp) rfl fun wt hBt hgt=>?_
 replace hC:=hC.set (os':=rnC v (⟨p1,⟨A2,c2⟩,⟨A3,c3⟩,⟨A4,c4⟩,⟨A5,c5⟩,⟨A6,c6⟩,⟨A7,c7⟩,⟨A8,c8⟩,⟨A9,c9⟩,a.peer,a.out,a.heard,a.sent,a.refused⟩:RnA)) hBt hgt;clear hBt hgt
 refine Ko hK ?_ fun zy=>?_
 ·exact⟨hC.x.cell 23 rfl,hC.x.cell 24 rfl,hC.x.cell 25 rfl,hC.x.cell 26 rfl,hC.x.cell 27 rfl,hC.x.cell 28 rfl⟩
 clear hK K
 refine TkS 22 rfl zy ?_
 refine To 23 rfl fun K hK=>?_
 rw[if_pos (by rfl)]
 refine zZ _ _ _ rfl (w.heap.size+2) 25 (.slice A10 v.peer.length c10) rfl rfl _ _ hC.o zI (by simp) rfl fun wt hBt hgt=>?_
 replace hC:=hC.set (os':=rnC v (⟨p1,⟨A2,c2⟩,⟨A3,c3⟩,⟨A4,c4⟩,⟨A5,c5⟩,⟨A6,c6⟩,⟨A7,c7⟩,⟨A8,c8⟩,⟨A9,c9⟩,⟨A10,c10⟩,a.out,a.heard,a.sent,a.refused⟩:RnA)) hBt hgt;clear hBt hgt
 refine Ko hK ?_ fun zy=>?_
 ·exact⟨hC.x.cell 23 rfl,hC.x.cell 24 rfl,hC.x.cell 25 rfl,hC.x.cell 26 rfl,hC.x.cell 27 rfl,hC.x.cell 28 rfl⟩
 clear hK K
 refine TkS 24 rfl zy ?_
 refine To 25 rfl fun K hK=>?_
 rw[if_pos (by rfl)]
 refine zZ _ _ _ rfl (w.heap.size+2) 26 (.slice A11 v.out.length c11) rfl rfl _ _ hC.o zI (by simp) rfl fun wt hBt hgt=>?_
 replace hC:=hC.set (os':=rnC v (⟨p1,⟨A2,c2⟩,⟨A3,c3⟩,⟨A4,c4⟩,⟨A5,c5⟩,⟨A6,c6⟩,⟨A7,c7⟩,⟨A8,c8⟩,⟨A9,c9⟩,⟨A10,c10⟩,⟨A11,c11⟩,a.heard,a.sent,a.refused⟩:RnA)) hBt hgt;clear hBt hgt
 refine Ko hK ?_ fun zy=>?_
 ·exact⟨hC.x.cell 23 rfl,hC.x.cell 24 rfl,hC.x.cell 25 rfl,hC.x.cell 26 rfl,hC.x.cell 27 rfl,hC.x.cell 28 rfl⟩
 clear hK K
 refine TkS 26 rfl zy ?_
 refine To 27 rfl fun K hK=>?_
 rw[if_pos (by rfl)]
 refine zZ _ _ _ rfl (w.heap.size+2) 27 (.slice A12 v.heard.length c12) rfl rfl _ _ hC.o zI (by simp) rfl fun wt hBt hgt=>?_
 replace hC:=hC.set (os':=rnC v (⟨p1,⟨A2,c2⟩,⟨A3,c3⟩,⟨A4,c4⟩,⟨A5,c5⟩,⟨A6,c6⟩,⟨A7,c7⟩,⟨A8,c8⟩,⟨A9,c9⟩,⟨A10,c10⟩,⟨A11,c11⟩,⟨A12,c12⟩,a.sent,a.refused⟩:RnA)) hBt hgt;clear hBt hgt
 refine Ko hK ?_ fun zy=>?_
 ·exact⟨hC.x.cell 23 rfl,hC.x.cell 24 rfl,hC.x.cell 25 rfl,hC.x.cell 26 rfl,hC.x.cell 27 rfl,hC.x.cell 28 rfl⟩
 clear hK K
 refine TkS 28 rfl zy ?_
 refine To 29 rfl fun K hK=>?_
 rw[if_pos (by rfl)]
 refine zZ _ _ _ rfl (w.heap.size+2) 28 (.slice A13 v.sent.length c13) rfl rfl _ _ hC.o zI (by simp) rfl fun wt hBt hgt=>?_
 replace hC:=hC.set (os':=rnC v (⟨p1,⟨A2,c2⟩,⟨A3,c3⟩,⟨A4,c4⟩,⟨A5,c5⟩,⟨A6,c6⟩,⟨A7,c7⟩,⟨A8,c8⟩,⟨A9,c9⟩,⟨A10,c10⟩,⟨A11,c11⟩,⟨A12,c12⟩,⟨A13,c13⟩,a.refused⟩:RnA)) hBt hgt;clear hBt hgt
 refine Ko hK ?_ fun zy=>?_
 ·exact⟨hC.x.cell 23 rfl,hC.x.cell 24 rfl,hC.x.cell 25 rfl,hC.x.cell 26 rfl,hC.x.cell 27 rfl,hC.x.cell 28 rfl⟩
 clear hK K
 refine Wd ?_
 clear zy;have x31:=hC.x.cell 31 rfl;go_wp2_with (at_builtin;refine zn ?_)
 unfold zj
 obtain⟨cs14,rc14,sr14⟩:=(HA.out.refused.mono hC.grows.le).srcS hC.grows.holds
 refine OwnX.append rfl (.const (.slice none 0 0)) (.tmp 58) 28 rfl Tryz.underlying28 rfl (by omega) oB rfl (OwnX.nil qZ 3 _ _ _) a.refused.a _ _ cs14 v.refused rfl rfl rc14 sr14 (by have:=HS.out.refused;simp only[List.length_nil];omega) (Nat.le_refl _) fun v' wq hOq hgq hatq=>?_
 rw[List.nil_append]at hOq;obtain⟨A14,c14,rfl,ks⟩:=hOq.form;obtain⟨Qu,sw,Vj,Vl,b14⟩:=OwnX.data (Grows.of_below hC.grows.holds (xj hgq)) hOq (tY hC.grows.holds (r0:=none) (fun q hq=>by cases hq) hatq);replace hC:=hC.grow sw;replace b1:=b1.mono sw.le;replace b2:=b2.mono sw.le;replace b3:=b3.mono sw.le;replace b4:=b4.mono sw.le;replace b5:=b5.mono sw.le;replace b6:=b6.mono sw.le;replace b7:=b7.mono sw.le;replace b8:=b8.mono sw.le;replace b9:=b9.mono sw.le;replace b10:=b10.mono sw.le;replace b11:=b11.mono sw.le;replace b12:=b12.mono sw.le;replace b13:=b13.mono sw.le;clear ks sw Vj Vl hOq hgq hatq rc14 sr14 x31;go_wp2_with (with_reducible refine zx ?_)
 refine zv rfl _ _ _ rfl rfl (w.heap.size+2) 31 (.slice A14 v.refused.length c14) rfl rfl _ _ hC.o oQ (by simp) rfl fun wt hBt hgt=>?_
 replace hC:=hC.set (os':=rnC v (⟨p1,⟨A2,c2⟩,⟨A3,c3⟩,⟨A4,c4⟩,⟨A5,c5⟩,⟨A6,c6⟩,⟨A7,c7⟩,⟨A8,c8⟩,⟨A9,c9⟩,⟨A10,c10⟩,⟨A11,c11⟩,⟨A12,c12⟩,⟨A13,c13⟩,⟨A14,c14⟩⟩:RnA)) hBt hgt;clear hBt hgt;go_wp2_with (with_reducible refine zJ ?_)
 refine wpList_load_row rfl _ _ rfl (w.heap.size+2) rfl _ (rnC v (⟨p1,⟨A2,c2⟩,⟨A3,c3⟩,⟨A4,c4⟩,⟨A5,c5⟩,⟨A6,c6⟩,⟨A7,c7⟩,⟨A8,c8⟩,⟨A9,c9⟩,⟨A10,c10⟩,⟨A11,c11⟩,⟨A12,c12⟩,⟨A13,c13⟩,⟨A14,c14⟩⟩:RnA)) (0,0) _ hC.o Tryz.underlying34 rfl za ?_
 go_wp2_with (with_reducible refine zx ?_)
 refine zr rfl _ _ _ rfl rfl (w.heap.size+1) (rnC v (⟨p1,⟨A2,c2⟩,⟨A3,c3⟩,⟨A4,c4⟩,⟨A5,c5⟩,⟨A6,c6⟩,⟨A7,c7⟩,⟨A8,c8⟩,⟨A9,c9⟩,⟨A10,c10⟩,⟨A11,c11⟩,⟨A12,c12⟩,⟨A13,c13⟩,⟨A14,c14⟩⟩:RnA)) rfl rfl _ _ hC.r za rfl (xQ v _) fun w9 vP hg9=>?_
 replace hC:=hC.put vP hg9;go_wp2_with fail
 refine wd rfl rfl hC.r rfl rfl za rfl ?_
 exact⟨(⟨p1,⟨A2,c2⟩,⟨A3,c3⟩,⟨A4,c4⟩,⟨A5,c5⟩,⟨A6,c6⟩,⟨A7,c7⟩,⟨A8,c8⟩,⟨A9,c9⟩,⟨A10,c10⟩,⟨A11,c11⟩,⟨A12,c12⟩,⟨A13,c13⟩,⟨A14,c14⟩⟩:RnA),_,rfl,hC.grows,⟨b1,b2,b3,b4,b5,b6,b7,b8,b9,b10,b11,b12,b13,b14⟩⟩
end Go.Proofs.YtnfoilblmhbobaaGreatDoor
