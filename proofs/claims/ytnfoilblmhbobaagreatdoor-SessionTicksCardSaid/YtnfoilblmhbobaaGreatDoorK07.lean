/- squeezed. Walks: copies of parties and runs, -/
import Derived.Test.YtnfoilblmhbobaaGreatDoorK06
set_option linter.unusedVariables false
set_option linter.unusedSimpArgs false
set_option maxRecDepth 100000
set_option maxHeartbeats 25600000
namespace Go.Proofs.YtnfoilblmhbobaaGreatDoor
open Go.RowKit
theorem oB:(Tryz.prog.info? 3).map (fun i=>(i.zero,i.size,i.bytes))=some (some (.int .i64 0),1,8):=by kernel_rfl
theorem wj:(Tryz.prog.info? 32).map (·.size)=some 13:=by kernel_rfl
theorem za:(Tryz.prog.info? 34).map (·.size)=some 32:=by kernel_rfl
theorem ji:(Tryz.prog.info? 23).map (·.size)=some 1:=by kernel_rfl
theorem oQ:(Tryz.prog.info? 28).map (·.size)=some 1:=by kernel_rfl
theorem jj:(Tryz.prog.info? 30).map (·.size)=some 2:=by kernel_rfl
abbrev sN:Array Value:=#[.slice none 0 0,.int .i64 0,.slice none 0 0,.int .i64 0,.int .i64 0,.int .i64 0,.slice none 0 0,.slice none 0 0,.slice none 0 0,.slice none 0 0,.slice none 0 0,.slice none 0 0,.slice none 0 0]
abbrev yz:Array Value:=#[.int .i64 0,.int .i64 0,.int .i64 0,.int .i64 0,.slice none 0 0,.int .i64 0,.slice none 0 0,.int .i64 0,.int .i64 0,.int .i64 0,.slice none 0 0,.slice none 0 0,.slice none 0 0,.slice none 0 0,.slice none 0 0,.slice none 0 0,.slice none 0 0,.slice none 0 0,.slice none 0 0,.slice none 0 0,.slice none 0 0,.slice none 0 0,.slice none 0 0,.slice none 0 0,.slice none 0 0,.slice none 0 0,.slice none 0 0,.slice none 0 0,.slice none 0 0,.int .i64 0,.int .i64 0,.slice none 0 0]
theorem jp (p:Pty) (a:PtyA):(ptC p a).all (·.oneCell')=true:=by simp[ptC,Value.oneCell']
theorem xQ (r:Rn) (a:RnA):(rnC r a).all (·.oneCell')=true:=by simp[rnC,Value.oneCell']
theorem nJ {w:World}{o:Oper}{a:Act}{K:Act→World→Prop}{Q:Exit→Act→World→Prop}(ty:TypeId) (x y:Operand) (ho:o.op=.store ty x y)
  (g off:Nat) (cells:Array Value) (hx:a.eval x=.pointer (some ⟨g,off,none⟩)) (hy:a.eval y=.agg cells)
  (t:TypeId) (old:Array Value) (hB:Blk w g t old) (hi:(Tryz.prog.info? ty).map (·.size)=some cells.size) (hold:off+cells.size≤old.size) (h1:cells.all (·.oneCell')=true)
  (h:∀ w',Blk w' g t (qa old off cells.toList)→w.grownBy w' (some g)→K (a.put o.dst undef) w') :
  o.wp Tryz.prog a w K Q:=by
 refine wp_store_mid ty x y ho g off cells hx hy (fun j hj=>⟨?_,hB.frozen _⟩) hi h1 ?_
 ·obtain⟨v,hv⟩:∃ v,old[off+j]? = some v:=⟨_,Array.getElem?_eq_getElem (by omega)⟩
  rw[hB.cell _ hv];rfl
 exact h _ (hB.setCells _ _) (yE g _ _ (yg w _))
theorem IsRow.srcS {α:Type}{L:Lie α}{H:Snap}{w:World}{A:Option Addr}{c:Nat}{l:List α}(h:IsRow L H A c l) (hw:Holds w H):∃ cs,RowC L H cs l∧Src w A cs:=by
 cases l with
 | nil=>exact⟨[],RowC.nil _ _,Src.nil _ _⟩
 | cons x t =>
 obtain⟨b,off,cs,e,h1,h2⟩:=h.row (by simp)
 exact⟨cs,h1,fun _=>⟨b,off,e,fun j v hj=>hw.cell (h2 j v hj)⟩⟩
structure CP (t:TypeId) (z xs os:Array Value) (W0:World) (H:Snap) (w:World) (Hr:Snap):Prop where
 grows:Grows W0 H w Hr
 x:Blk w W0.heap.size t xs
 r:Blk w (W0.heap.size+1) t z
 o:Blk w (W0.heap.size+2) t os
 hX:Hr W0.heap.size=none
 hR:Hr (W0.heap.size+1)=none
 hO:Hr (W0.heap.size+2)=none
section
variable {t:TypeId} {z z' xs os os':Array Value} {W0 w w':World} {H Hr Hs:Snap}
theorem CP.grow (h:CP t z xs os W0 H w Hr) (k:Grows w Hr w' Hs):CP t z xs os W0 H w' Hs :=
 ⟨h.grows.trans k,h.x.below k.below,h.r.below k.below,h.o.below k.below,k.none h.hX h.x.lt,k.none h.hR h.r.lt,k.none h.hO h.o.lt⟩
theorem CP.drew (h:CP t z xs os W0 H w Hr):CP t z xs os W0 H w.drew Hr:=h.grow ((Grows.refl h.grows.holds).drew)
theorem CP.set (h:CP t z xs os W0 H w Hr) (hB:Blk w' (W0.heap.size+2) t os') (hg:w.grownBy w' (some (W0.heap.size+2))):CP t z xs os' W0 H w' Hr :=
 ⟨h.grows.grownOwn h.hO (by omega) hg,h.x.gr hg (by omega),h.r.gr hg (by omega),hB,h.hX,h.hR,h.hO⟩
theorem CP.put (h:CP t z xs os W0 H w Hr) (hB:Blk w' (W0.heap.size+1) t z') (hg:w.grownBy w' (some (W0.heap.size+1))):CP t z' xs os W0 H w' Hr :=
 ⟨h.grows.grownOwn h.hR (by omega) hg,h.x.gr hg (by omega),hB,h.o.gr hg (by omega),h.hX,h.hR,h.hO⟩
end
theorem pX {H:Snap}{v:Pty}{a:PtyA}(ha:IsPty H v a) (hs:v.Small) (w:World) (hH:Holds w H) :
  Calls Tryz.prog 29 #[.agg (ptC v a)] w fun e w'=>∃ a' H',e=.returned (.agg (ptC v a'))∧Grows w H w' H'∧IsPty H' v a':=by
 have hX:=(Blk.new w 32 (ptC v a)).alloc (.cells sN 32);have hR:=Blk.new (w.alloc (.cells (ptC v a) 32)) 32 sN;rw[zY]at hR;have hG:=((Grows.refl hH).alloc (.cells (ptC v a) 32)).alloc (.cells sN 32);have pO:((w.alloc (.cells (ptC v a) 32)).alloc (.cells sN 32)).heap.size=w.heap.size+2:=by rw[zY,zY]
 have mh:=hH.none_of_ge (Nat.le_refl w.heap.size);have fU:=hH.none_of_ge (show w.heap.size≤w.heap.size+1 by omega);have ew:=hH.none_of_ge (show w.heap.size≤w.heap.size+2 by omega);have HA:=Hh ha;have HS:=Hh hs;clear ha hs hH;go_enter Tryz.func29,Tryz.ntmps29
 obtain⟨W2,sU⟩:∃ W2,(w.alloc (.cells (ptC v a) 32)).alloc (.cells sN 32)=W2:=⟨_,rfl⟩
 go_upto_region 1 with fail
 rw[sU]at hX hR hG pO
 try rw[sU]
 clear sU;go_wp2_with (with_reducible refine zJ ?_)
 refine wpList_load_row rfl _ _ rfl w.heap.size rfl _ (ptC v a) (0,0) _ hX Tryz.underlying32 rfl wj ?_
 go_wp2_with (with_reducible refine zx ?_)
 refine zr rfl _ _ _ rfl rfl (w.heap.size+2) (ptC v a) rfl rfl 32 sN (by have h:=Blk.new W2 32 sN;rw[pO]at h;exact h) wj rfl (jp v a) fun w3 hO rO=>?_
 have yw:=hG.alloc (.cells sN 32)
 have hC:CP 32 sN (ptC v a) (ptC v a) w H w3 H :=
  ⟨yw.grownOwn ew (by omega) rO,(hX.alloc _).gr rO (by omega),(hR.alloc _).gr rO (by omega),hO,mh,fU,ew⟩
 clear hX hR hG pO mh fU ew yw hO rO;have x0:=hC.x.cell 0 rfl;go_wp2_with fail
 refine(ze rfl (by have:=HS.out.cred;omega) (HA.out.cred.mono hC.grows.le) _ hC.grows.holds).mono ?_
 rintro e y1 ⟨A1,c1,H1,rfl,wu,b1⟩
 replace hC:=hC.grow wu;clear wu x0;go_wp2_with (with_reducible refine zx ?_)
 refine zv rfl _ _ _ rfl rfl (w.heap.size+2) 0 (.slice A1 v.cred.length c1) rfl rfl _ _ hC.o zI (by simp) rfl fun wt hBt hgt=>?_
 replace hC:=hC.set (os':=ptC v (⟨⟨A1,c1⟩,a.chain,a.kid,a.kx,a.kd,a.kk,a.suites,a.known,a.anchors⟩:PtyA)) hBt hgt;clear hBt hgt;have x2:=hC.x.cell 2 rfl;go_wp2_with fail
 refine(uu rfl HS.out.chain (HA.out.chain.mono hC.grows.le) _ hC.grows.holds).mono ?_
 rintro e y2 ⟨A2,c2,H2,rfl,yw,b2⟩
 replace hC:=hC.grow yw;replace b1:=b1.mono yw.le;clear yw x2;go_wp2_with (with_reducible refine zx ?_)
 refine zv rfl _ _ _ rfl rfl (w.heap.size+2) 2 (.slice A2 v.chain.length c2) rfl rfl _ _ hC.o ji (by simp) rfl fun wt hBt hgt=>?_
 replace hC:=hC.set (os':=ptC v (⟨⟨A1,c1⟩,⟨A2,c2⟩,a.kid,a.kx,a.kd,a.kk,a.suites,a.known,a.anchors⟩:PtyA)) hBt hgt;clear hBt hgt;go_upto_region 4 with fail
 replace hC:=hC.drew
 refine zp 36 (fun wx=>wx.cell? ⟨w.heap.size,6,none⟩=some (.slice a.kid.a v.kid.length a.kid.c)∧wx.cell? ⟨w.heap.size,7,none⟩=some (.slice a.kx.a v.kx.length a.kx.c)∧wx.cell? ⟨w.heap.size,8,none⟩=some (.slice a.kd.a v.kd.length a.kd.c)∧wx.cell? ⟨w.heap.size,9,none⟩=some (.slice a.kk.a v.kk.length a.kk.c)) (by kernel_rfl) (⟨hC.x.cell 6 rfl,hC.x.cell 7 rfl,hC.x.cell 8 rfl,hC.x.cell 9 rfl⟩) (fun zy=>?_)
 refine TkS 0 rfl zy ?_
 refine TkS 1 rfl zy ?_
 refine TkS 2 rfl zy ?_
 refine TkS 3 rfl zy ?_
 refine TkS 5 rfl zy ?_
 refine TkS 6 rfl zy ?_
 refine TkS 7 rfl zy ?_
 refine TkS 8 rfl zy ?_
 refine TkS 10 rfl zy ?_
 refine TkS 11 rfl zy ?_
 refine TkS 12 rfl zy ?_
 refine TkS 13 rfl zy ?_
 refine TkS 15 rfl zy ?_
 refine TkS 16 rfl zy ?_
 refine TkS 17 rfl zy ?_
 refine TkS 18 rfl zy ?_
 refine To 4 rfl fun K hK=>?_
 go_simp
 refine(ze rfl (by have:=HS.out.kid;omega) (HA.out.kid.mono hC.grows.le) _ hC.grows.holds).mono ?_
 rintro e y3 ⟨A3,c3,H3,rfl,yt,b3⟩
 replace hC:=hC.grow yt;replace b1:=b1.mono yt.le;replace b2:=b2.mono yt.le;clear yt
 refine Ko hK ?_ fun zy=>?_
 ·exact⟨hC.x.cell 6 rfl,hC.x.cell 7 rfl,hC.x.cell 8 rfl,hC.x.cell 9 rfl⟩
 clear hK K
 refine TkS 20 rfl zy ?_
 refine TkS 21 rfl zy ?_
 refine TkS 22 rfl zy ?_
 refine To 9 rfl fun K hK=>?_
 go_simp
 refine(ze rfl (by have:=HS.out.kx;omega) (HA.out.kx.mono hC.grows.le) _ hC.grows.holds).mono ?_
 rintro e y4 ⟨A4,c4,H4,rfl,xm,b4⟩
 replace hC:=hC.grow xm;replace b1:=b1.mono xm.le;replace b2:=b2.mono xm.le;replace b3:=b3.mono xm.le;clear xm
 refine Ko hK ?_ fun zy=>?_
 ·exact⟨hC.x.cell 6 rfl,hC.x.cell 7 rfl,hC.x.cell 8 rfl,hC.x.cell 9 rfl⟩
 clear hK K
 refine To 14 rfl fun K hK=>?_
 go_simp
 refine(ze rfl (by have:=HS.out.kd;omega) (HA.out.kd.mono hC.grows.le) _ hC.grows.holds).mono ?_
 rintro e y5 ⟨A5,c5,H5,rfl,xv,b5⟩
 replace hC:=hC.grow xv;replace b1:=b1.mono xv.le;replace b2:=b2.mono xv.le;replace b3:=b3.mono xv.le;replace b4:=b4.mono xv.le;clear xv
 refine Ko hK ?_ fun zy=>?_
 ·exact⟨hC.x.cell 6 rfl,hC.x.cell 7 rfl,hC.x.cell 8 rfl,hC.x.cell 9 rfl⟩
 clear hK K
 refine To 19 rfl fun K hK=>?_
 go_simp
 refine(ze rfl (by have:=HS.out.kk;omega) (HA.out.kk.mono hC.grows.le) _ hC.grows.holds).mono ?_
 rintro e y6 ⟨A6,c6,H6,rfl,yC,b6⟩
 replace hC:=hC.grow yC;replace b1:=b1.mono yC.le;replace b2:=b2.mono yC.le;replace b3:=b3.mono yC.le;replace b4:=b4.mono yC.le;replace b5:=b5.mono yC.le;clear yC
 refine Ko hK ?_ fun zy=>?_
 ·exact⟨hC.x.cell 6 rfl,hC.x.cell 7 rfl,hC.x.cell 8 rfl,hC.x.cell 9 rfl⟩
 clear hK K
 refine To 23 rfl fun K hK=>?_
 rw[if_pos (by rfl)]
 refine zZ _ _ _ rfl (w.heap.size+2) 6 (.slice A3 v.kid.length c3) rfl rfl _ _ hC.o zI (by simp) rfl fun wt hBt hgt=>?_
 replace hC:=hC.set (os':=ptC v (⟨⟨A1,c1⟩,⟨A2,c2⟩,⟨A3,c3⟩,a.kx,a.kd,a.kk,a.suites,a.known,a.anchors⟩:PtyA)) hBt hgt;clear hBt hgt
 refine Ko hK ?_ fun zy=>?_
 ·exact⟨hC.x.cell 6 rfl,hC.x.cell 7 rfl,hC.x.cell 8 rfl,hC.x.cell 9 rfl⟩
 clear hK K
 refine TkS 24 rfl zy ?_
 refine TkS 25 rfl zy ?_
 refine TkS 26 rfl zy ?_
 refine To 27 rfl fun K hK=>?_
 rw[if_pos (by rfl)]
 refine zZ _ _ _ rfl (w.heap.size+2) 7 (.slice A4 v.kx.length c4) rfl rfl _ _ hC.o zI (by simp) rfl fun wt hBt hgt=>?_
 replace hC:=hC.set (os':=ptC v (⟨⟨A1,c1⟩,⟨A2,c2⟩,⟨A3,c3⟩,⟨A4,c4⟩,a.kd,a.kk,a.suites,a.known,a.anchors⟩:PtyA)) hBt hgt;clear hBt hgt
 refine Ko hK ?_ fun zy=>?_
 ·exact⟨hC.x.cell 6 rfl,hC.x.cell 7 rfl,hC.x.cell 8 rfl,hC.x.cell 9 rfl⟩
 clear hK K
 refine TkS 28 rfl zy ?_
 refine TkS 29 rfl zy ?_
 refine TkS 30 rfl zy ?_
 refine To 31 rfl fun K hK=>?_
 rw[if_pos (by rfl)]
 refine zZ _ _ _ rfl (w.heap.size+2) 8 (.slice A5 v.kd.length c5) rfl rfl _ _ hC.o zI (by simp) rfl fun wt hBt hgt=>?_
 replace hC:=hC.set (os':=ptC v (⟨⟨A1,c1⟩,⟨A2,c2⟩,⟨A3,c3⟩,⟨A4,c4⟩,⟨A5,c5⟩,a.kk,a.suites,a.known,a.anchors⟩:PtyA)) hBt hgt;clear hBt hgt
 refine Ko hK ?_ fun zy=>?_
 ·exact⟨hC.x.cell 6 rfl,hC.x.cell 7 rfl,hC.x.cell 8 rfl,hC.x.cell 9 rfl⟩
 clear hK K
 refine TkS 32 rfl zy ?_
 refine TkS 33 rfl zy ?_
 refine TkS 34 rfl zy ?_
 refine To 35 rfl fun K hK=>?_
 rw[if_pos (by rfl)]
 refine zZ _ _ _ rfl (w.heap.size+2) 9 (.slice A6 v.kk.length c6) rfl rfl _ _ hC.o zI (by simp) rfl fun wt hBt hgt=>?_
 replace hC:=hC.set (os':=ptC v (⟨⟨A1,c1⟩,⟨A2,c2⟩,⟨A3,c3⟩,⟨A4,c4⟩,⟨A5,c5⟩,⟨A6,c6⟩,a.suites,a.known,a.anchors⟩:PtyA)) hBt hgt;clear hBt hgt
 refine Ko hK ?_ fun zy=>?_
 ·exact⟨hC.x.cell 6 rfl,hC.x.cell 7 rfl,hC.x.cell 8 rfl,hC.x.cell 9 rfl⟩
 clear hK K
 refine Wd ?_
 clear zy;have x10:=hC.x.cell 10 rfl;go_wp2_with (at_builtin;refine zn ?_)
 unfold zj
 obtain⟨cs7,rc7,sr7⟩:=(HA.out.suites.mono hC.grows.le).srcS hC.grows.holds
 refine OwnX.append rfl (.const (.slice none 0 0)) (.tmp 50) 28 rfl Tryz.underlying28 rfl (by omega) oB rfl (OwnX.nil qZ 3 _ _ _) a.suites.a _ _ cs7 v.suites rfl rfl rc7 sr7 (by have:=HS.out.suites;simp only[List.length_nil];omega) (Nat.le_refl _) fun v' wq hOq hgq hatq=>?_
 rw[List.nil_append]at hOq;obtain⟨A7,c7,rfl,ks⟩:=hOq.form;obtain⟨H7,xp,Vj,Vl,b7⟩:=OwnX.data (Grows.of_below hC.grows.holds (xj hgq)) hOq (tY hC.grows.holds (r0:=none) (fun q hq=>by cases hq) hatq);replace hC:=hC.grow xp;replace b1:=b1.mono xp.le;replace b2:=b2.mono xp.le;replace b3:=b3.mono xp.le;replace b4:=b4.mono xp.le;replace b5:=b5.mono xp.le;replace b6:=b6.mono xp.le;clear ks xp Vj Vl hOq hgq hatq rc7 sr7 x10;go_wp2_with (with_reducible refine zx ?_)
 refine zv rfl _ _ _ rfl rfl (w.heap.size+2) 10 (.slice A7 v.suites.length c7) rfl rfl _ _ hC.o oQ (by simp) rfl fun wt hBt hgt=>?_
 replace hC:=hC.set (os':=ptC v (⟨⟨A1,c1⟩,⟨A2,c2⟩,⟨A3,c3⟩,⟨A4,c4⟩,⟨A5,c5⟩,⟨A6,c6⟩,⟨A7,c7⟩,a.known,a.anchors⟩:PtyA)) hBt hgt;clear hBt hgt;go_upto_region 6 with fail
 replace hC:=hC.drew
 refine zp 11 (fun wx=>wx.cell? ⟨w.heap.size,11,none⟩=some (.slice a.known.a v.known.length a.known.c)∧wx.cell? ⟨w.heap.size,12,none⟩=some (.slice a.anchors.a v.anchors.length a.anchors.c)) (by kernel_rfl) (⟨hC.x.cell 11 rfl,hC.x.cell 12 rfl⟩) (fun zy=>?_)
 refine TkS 0 rfl zy ?_
 refine TkS 1 rfl zy ?_
 refine TkS 2 rfl zy ?_
 refine TkS 4 rfl zy ?_
 refine TkS 5 rfl zy ?_
 refine TkS 6 rfl zy ?_
 refine To 3 rfl fun K hK=>?_
 go_simp
 refine(uu rfl HS.out.known (HA.out.known.mono hC.grows.le) _ hC.grows.holds).mono ?_
 rintro e y8 ⟨A8,c8,H8,rfl,ur,b8⟩
 replace hC:=hC.grow ur;replace b1:=b1.mono ur.le;replace b2:=b2.mono ur.le;replace b3:=b3.mono ur.le;replace b4:=b4.mono ur.le;replace b5:=b5.mono ur.le;replace b6:=b6.mono ur.le;replace b7:=b7.mono ur.le;clear ur
 refine Ko hK ?_ fun zy=>?_
 ·exact⟨hC.x.cell 11 rfl,hC.x.cell 12 rfl⟩
 clear hK K
 refine To 7 rfl fun K hK=>?_
 go_simp
 refine(uu rfl HS.out.anchors (HA.out.anchors.mono hC.grows.le) _ hC.grows.holds).mono ?_
 rintro e y9 ⟨A9,c9,H9,rfl,tG,b9⟩
 replace hC:=hC.grow tG;replace b1:=b1.mono tG.le;replace b2:=b2.mono tG.le;replace b3:=b3.mono tG.le;replace b4:=b4.mono tG.le;replace b5:=b5.mono tG.le;replace b6:=b6.mono tG.le;replace b7:=b7.mono tG.le;replace b8:=b8.mono tG.le;clear tG
 refine Ko hK ?_ fun zy=>?_
 ·exact⟨hC.x.cell 11 rfl,hC.x.cell 12 rfl⟩
 clear hK K
 refine TkS 8 rfl zy ?_
 refine TkS 9 rfl zy ?_
 refine To 10 rfl fun K hK=>?_
 rw[if_pos (by rfl)]
 refine nJ _ _ _ rfl (w.heap.size+2) 11 #[.slice A8 v.known.length c8,.slice A9 v.anchors.length c9] rfl rfl _ _ hC.o jj (by simp) (by simp[Value.oneCell']) fun wt hBt hgt=>?_
 replace hC:=hC.set (os':=ptC v (⟨⟨A1,c1⟩,⟨A2,c2⟩,⟨A3,c3⟩,⟨A4,c4⟩,⟨A5,c5⟩,⟨A6,c6⟩,⟨A7,c7⟩,⟨A8,c8⟩,⟨A9,c9⟩⟩:PtyA)) hBt hgt;clear hBt hgt
 refine Ko hK ?_ fun zy=>?_
 ·exact⟨hC.x.cell 11 rfl,hC.x.cell 12 rfl⟩
 clear hK K
 refine Wd ?_
 clear zy;go_wp2_with (with_reducible refine zJ ?_)
 refine wpList_load_row rfl _ _ rfl (w.heap.size+2) rfl _ (ptC v (⟨⟨A1,c1⟩,⟨A2,c2⟩,⟨A3,c3⟩,⟨A4,c4⟩,⟨A5,c5⟩,⟨A6,c6⟩,⟨A7,c7⟩,⟨A8,c8⟩,⟨A9,c9⟩⟩:PtyA)) (0,0) _ hC.o Tryz.underlying32 rfl wj ?_
 go_wp2_with (with_reducible refine zx ?_)
 refine zr rfl _ _ _ rfl rfl (w.heap.size+1) (ptC v (⟨⟨A1,c1⟩,⟨A2,c2⟩,⟨A3,c3⟩,⟨A4,c4⟩,⟨A5,c5⟩,⟨A6,c6⟩,⟨A7,c7⟩,⟨A8,c8⟩,⟨A9,c9⟩⟩:PtyA)) rfl rfl _ _ hC.r wj rfl (jp v _) fun w9 vP hg9=>?_
 replace hC:=hC.put vP hg9;go_wp2_with fail
 refine wd rfl rfl hC.r rfl rfl wj rfl ?_
 exact⟨(⟨⟨A1,c1⟩,⟨A2,c2⟩,⟨A3,c3⟩,⟨A4,c4⟩,⟨A5,c5⟩,⟨A6,c6⟩,⟨A7,c7⟩,⟨A8,c8⟩,⟨A9,c9⟩⟩:PtyA),_,rfl,hC.grows,⟨b1,b2,b3,b4,b5,b6,b7,b8,b9⟩⟩
theorem OwnX.litS {α:Type}{L:Lie α}{H:Snap}{cs:List Value}{l:List α}(hc:RowC L H cs l) (t:TypeId) (w:World) (hm:l.length≤4096) :
  OwnX L t (w.alloc (.cells cs.toArray t)) w.heap.size (.slice (some ⟨w.heap.size,0,none⟩) l.length l.length) H l :=
 ⟨cs,hc,hc.len,.inr ⟨w.heap.size,l.length,cs.toArray,rfl,Nat.le_refl _,heap_alloc_new w _,Nat.le_refl _,by simp only[maxLen];omega,by simp[hc.len],by rw[← hc.len];simp⟩⟩
theorem OwnX.append_sized {α:Type}{L:Lie α}{t:TypeId}{w:World}{base:Nat}{v:Value}{H:Snap}{l:List α}{ops:Array Oper}{rest:List Oper}{o:Oper}{a:Act}{Q:Exit→Act→World→Prop}(rl:o.guard=none) (s x:Operand) (T:TypeId)
  (ho:o.op=.call { callee:=.builtin .append,args:=#[s,x],argTypes:=#[T,T] }) (hT:Tryz.prog.underlying T=some (.slice t)) {z:Value} {bytes:Nat} (dE:z.cells.size=L.k) (hby:1≤bytes)
  (hinfo:(Tryz.prog.info? t).map (fun i=>(i.zero,i.size,i.bytes))=some (some z,L.k,bytes))
  (hs:a.eval s=v) (xR:OwnX L t w base v H l) (A:Option Addr) (m c:Nat) (cs:List Value) (news:List α) (hx:a.eval x=.slice A m c) (hm:m=news.length)
  (hn:RowC L H cs news) (hr:Src w A cs) (xJ:(l.length+news.length)*bytes≤140737488355328) (hbase:base≤w.heap.size)
  (h:∀ v' w',OwnX L t w' base v' H (l++news)→w.grownBy w' v.ownBlock→At0 w v.ownBlock v'.ownBlock→wpList Tryz.prog ops Q rest (a.put o.dst v') w') :
  wpList Tryz.prog ops Q (o::rest) a w:=by
 subst hm;obtain⟨xs,iF,xR⟩:=xR;obtain⟨i0,ot,ko,tB,qn⟩:=info_parts hinfo
 refine wpList_plain rl fun K hK=>wX s x _ ho base t i0 _ L.k bytes hT ot ko tB qn dE L.pos v l.length xs hs xR A news.length c cs hx hn.len hr hn.oneCell
  (by have:=Nat.le_mul_of_pos_right (l.length+news.length) hby;simp only[maxLen];omega) xJ hbase fun v' w' h2 h3 h4=>hK _ _ (h v' w' ?_ h3 ?_)
 ·exact⟨xs++cs,iF.app hn,by simpa using h2⟩
 rcases h4 with h4 | h4
 ·exact .inl h4
 exact .inr ⟨_,h4,Nat.le_refl _⟩
theorem jP (A:Option Addr) (n c:Nat) (w:World) :
  Calls Tryz.prog 16 #[.slice A n c] w fun e w'=>(∃ b:Bool,e=.returned (.bool b)∧(b=true→n≤900))∧w'=w:=by
 have E:Hid (decide ((n:Int)≤900)=decide (n≤900)):=by rw[Hid,Bool.eq_iff_iff,decide_eq_true_eq,decide_eq_true_eq];omega
 go_enter Tryz.func16,Tryz.ntmps16
 go_wp2_with fail
 go_ret
 exact⟨⟨decide ((n:Int)≤900),rfl,by intro h;rw[E.out]at h;simpa using h⟩,rfl⟩
def bA (l:List (List UInt8)) (e:Ending):Prop:=∃ b,e=.returned (.bool b)∧(b=true→l.length≤20∧∀ x∈l,x.length≤900)
theorem tu {H:Snap}(w:World) (hH:Holds w H) {A:Option Addr}{n c:Nat}{l:List (List UInt8)}(hn:n=l.length) (hr:IsRow wO H A c l) :
  Calls Tryz.prog 5 #[.slice A n c] w fun e w'=>bA l e∧w'=w:=by
 have HR:=Hh hr;have HH:=Hh hH;have HN:=Hh hn;have SM:=Hh (fun(A:Option Addr) (n c:Nat) (w:World)=>jP A n c w);clear hr hH hn;go_enter Tryz.func5,Tryz.ntmps5
 go_wp2_with fail
 go_loopw [7] (fun v7 wr=>∃ k:Nat,k≤n∧v7=.int .i64 (k:Int)∧Hid (∀ i (h:i<l.length),i<k→l[i].length≤900)∧wr=w) (fun v7 _=>n-(intOf v7).toNat)
 case atStart=>exact⟨0,Nat.zero_le _,rfl,(fun i h h0=>absurd h0 (by omega)),rfl⟩
 case round =>
 obtain⟨k,hk,rfl,HF,rfl⟩:=hrel;have Qw:=Hh hk;clear hk
 by_cases ku:k<n
 ·have cP:(k:Int)<(n:Int):=by omega
  obtain⟨b,off,rfl,nr⟩:=HR.out.at_ (by have:=HN.out;omega);obtain⟨d,hd,hc⟩:=nr k (by have:=HN.out;omega);obtain⟨YA,yc,rfl,Yp⟩:=hd;obtain⟨x,hx⟩:∃ x,l[k]'(by have:=HN.out;omega)=x:=⟨_,rfl⟩
  rw[hx]at hc Yp;have Rq:Hid (∀ h:k<l.length,l[k]=x):=fun _=>hx
  have q0:=HH.out.cell (hc 0 _ rfl);rw[show off+(k*wO.k+0)=off+k from by show off+(k*1+0)=_;omega]at q0;have HK:=Hh ku;have Yl:(n:Int)≤(c:Int):=by have:=HR.out.le;have:=HN.out;omega
  have RR:(k:Int)+1≤9223372036854775807:=by have h1:=HR.out.le;have h2:=HR.out.max;have:=HN.out;omega
  clear ku nr hc hx Yp;go_wp2_with fail
  refine(SM.out _ _ _ _).mono ?_
  rintro e w4 ⟨⟨b',rfl,ki⟩,rfl⟩
  have gz:=Hh ki;clear ki
  cases b' with
  | false =>
   go_wp2_with fail
   go_ret
   exact⟨⟨false,rfl,fun h=>by cases h⟩,rfl⟩
  | true =>
  go_wp2_with fail
  go_roundw
  case rel=>exact⟨k+1,HK.out,by go_num,(fun i h h1=>by
   by_cases Vb:i=k
   ·subst Vb;rw[Rq.out h]
    exact gz.out (by trivial)
   exact HF.out i h (by omega)),by trivial⟩
  case measure=>have:=HK.out;simp[intOf];omega
 have So:¬ ((k:Int)<(n:Int)):=by omega
 have RS:decide ((k:Int)<(n:Int))=false:=decide_eq_false So;clear ku;go_wp2_with fail
 go_ret
 exact⟨⟨_,rfl,fun hb=>⟨by have h2:=of_decide_eq_true hb;have:=HN.out;omega,fun y hy=>by
  obtain⟨i,hi,rfl⟩:=List.getElem_of_mem hy
  exact HF.out i hi (by have:=HN.out;omega)⟩⟩,rfl⟩
def dG (v:Pty) (e:Ending):Prop:=∃ b,e=.returned (.bool b)∧(b=true→v.Small)
theorem gT {H:Snap}{v:Pty}{a:PtyA}(h:IsPty H v a):RowC wO H [.slice a.cred.a v.cred.length a.cred.c,.slice a.kd.a v.kd.length a.kd.c,.slice a.kx.a v.kx.length a.kx.c,.slice a.kk.a v.kk.length a.kk.c,.slice a.kid.a v.kid.length a.kid.c] [v.cred,v.kd,v.kx,v.kk,v.kid]:=by
 exact⟨_,_,rfl,⟨_,_,rfl,h.cred⟩,⟨_,_,rfl,⟨_,_,rfl,h.kd⟩,⟨_,_,rfl,⟨_,_,rfl,h.kx⟩,⟨_,_,rfl,⟨_,_,rfl,h.kk⟩,⟨_,_,rfl,⟨_,_,rfl,h.kid⟩,RowC.nil _ _⟩⟩⟩⟩⟩
theorem lE {H:Snap}{v:Pty}{a:PtyA}(ha:IsPty H v a) (hc:(v.chain.length+5)*24≤140737488355328) (w:World) (hH:Holds w H) :
  Calls Tryz.prog 4 #[.agg (ptC v a)] w fun e w'=>dG v e∧Below w.heap.size w w':=by
 have hX:=Blk.new w 32 (ptC v a);have hG:=(Grows.refl hH).alloc (.cells (ptC v a) 32);have HA:=Hh ha;have HC:=Hh hc;clear ha hc hH;go_enter Tryz.func4,Tryz.ntmps4
 obtain⟨W1,Zz⟩:∃ W1,w.alloc (.cells (ptC v a) 32)=W1:=⟨_,rfl⟩
 go_upto_region 1 with fail
 rw[Zz]at hX hG
 try rw[Zz]
 clear Zz;have x0:W1.cell? ⟨w.heap.size,0,none⟩=some (.slice a.cred.a v.cred.length a.cred.c):=hX.cell 0 rfl;have x8:W1.cell? ⟨w.heap.size,8,none⟩=some (.slice a.kd.a v.kd.length a.kd.c):=hX.cell 8 rfl;have x7:W1.cell? ⟨w.heap.size,7,none⟩=some (.slice a.kx.a v.kx.length a.kx.c):=hX.cell 7 rfl;have x9:W1.cell? ⟨w.heap.size,9,none⟩=some (.slice a.kk.a v.kk.length a.kk.c):=hX.cell 9 rfl;have x6:W1.cell? ⟨w.heap.size,6,none⟩=some (.slice a.kid.a v.kid.length a.kid.c):=hX.cell 6 rfl;have uJ:=hX.alloc (.cells #[.slice a.cred.a v.cred.length a.cred.c,.slice a.kd.a v.kd.length a.kd.c,.slice a.kx.a v.kx.length a.kx.c,.slice a.kk.a v.kk.length a.kk.c,.slice a.kid.a v.kid.length a.kid.c] 22);have x2:(W1.alloc (.cells #[.slice a.cred.a v.cred.length a.cred.c,.slice a.kd.a v.kd.length a.kd.c,.slice a.kx.a v.kx.length a.kx.c,.slice a.kk.a v.kk.length a.kk.c,.slice a.kid.a v.kid.length a.kid.c] 22)).cell? ⟨w.heap.size,2,none⟩=some (.slice a.chain.a v.chain.length a.chain.c):=uJ.cell 2 rfl
 have Xo:=(Grows.refl hG.holds).alloc (.cells #[.slice a.cred.a v.cred.length a.cred.c,.slice a.kd.a v.kd.length a.kd.c,.slice a.kx.a v.kx.length a.kx.c,.slice a.kk.a v.kk.length a.kk.c,.slice a.kid.a v.kid.length a.kid.c] 22);have hO:=OwnX.litS (L:=wO) (gT (HA.out.mono hG.le)) 22 W1 (by simp)
 have vz:∀ q,(Value.slice (some ⟨W1.heap.size,0,none⟩) 5 5).ownBlock=some q→H q=none:=fun q hq=>by
  have e:W1.heap.size=q:=by simpa [Value.ownBlock] using hq
  exact hG.holds.none_of_ge (by omega)
 obtain⟨cs,rc,sr⟩:=HA.out.chain.srcS (Xo.holds);go_wp2_with (at_builtin;refine zn ?_)
 refine OwnX.append_sized rfl (.tmp 22) (.tmp 25) 23 rfl Tryz.underlying23 rfl (by omega) lr rfl hO a.chain.a _ _ cs v.chain rfl rfl rc sr (by have:=HC.out;simp only[List.length_cons,List.length_nil];omega) Xo.size fun v' wq hOq hgq hatq=>?_
 obtain⟨A1,c1,rfl,ks⟩:=hOq.form;have ti:=tY Xo.holds vz hatq;have wu:=Xo.grownRow vz (fun q hq=>(hO.lt q hq).1) hgq;obtain⟨H2,yw,rh,j4,kh⟩:=hOq.data wu ti;have t8:=hX.below yw.below;have hb:=hG.below.trans (yw.below.mono hG.below.size);have HL:=Hh (fun b (h:b∈[v.cred,v.kd,v.kx,v.kk,v.kid])=>(List.mem_append.2 (.inl h):b∈[v.cred,v.kd,v.kx,v.kk,v.kid]++v.chain));have ae:=Hh (fun b (h:b∈v.chain)=>(List.mem_append.2 (.inr h):b∈[v.cred,v.kd,v.kx,v.kk,v.kid]++v.chain));have ev:Hid (([v.cred,v.kd,v.kx,v.kk,v.kid]++v.chain).length=v.chain.length+5):=by rw[Hid,List.length_append];simp only[List.length_cons,List.length_nil];omega
 obtain⟨LL,Tq⟩:∃ LL,[v.cred,v.kd,v.kx,v.kk,v.kid]++v.chain=LL:=⟨_,rfl⟩
 rw[Tq]at kh HL ae ev⊢;obtain⟨N,hN⟩:∃ N,LL.length=N:=⟨_,rfl⟩
 rw[hN];have AL:=Hh (tu wq yw.holds (n:=N) hN.symm kh);have AK:=Hh (tu wq yw.holds (n:=v.known.length) rfl (HA.out.known.mono yw.le));have AA:=Hh (tu wq yw.holds (n:=v.anchors.length) rfl (HA.out.anchors.mono yw.le));have x11:wq.cell? ⟨w.heap.size,11,none⟩=some (.slice a.known.a v.known.length a.known.c):=t8.cell 11 rfl;have x12:wq.cell? ⟨w.heap.size,12,none⟩=some (.slice a.anchors.a v.anchors.length a.anchors.c):=t8.cell 12 rfl;have x10:wq.cell? ⟨w.heap.size,10,none⟩=some (.slice a.suites.a v.suites.length a.suites.c):=t8.cell 10 rfl;clear hX hG uJ Xo hO vz rc sr hOq hgq hatq ks ti wu yw rh j4 kh t8 Tq hN x2 x0 x8 x7 x9 x6;go_wp2_with fail
 refine AL.out.mono ?_
 rintro e w4 ⟨⟨b4,rfl,h4⟩,rfl⟩
 cases b4 with
 | false =>
  clear h4;go_wp2_with fail
  go_ret
  exact⟨⟨false,rfl,fun h=>by cases h⟩,hb⟩
 | true =>
 have H4:=Hh (h4 rfl);clear h4;go_wp2_with fail
 refine AK.out.mono ?_
 rintro e w5 ⟨⟨b5,rfl,h5⟩,rfl⟩
 cases b5 with
 | false =>
  clear h5;go_wp2_with fail
  go_ret
  exact⟨⟨false,rfl,fun h=>by cases h⟩,hb⟩
 | true =>
 have H5:=Hh (h5 rfl);clear h5;go_wp2_with fail
 refine AA.out.mono ?_
 rintro e w6 ⟨⟨b6,rfl,h6⟩,rfl⟩
 cases b6 with
 | false =>
  clear h6;go_wp2_with fail
  go_ret
  exact⟨⟨false,rfl,fun h=>by cases h⟩,hb⟩
 | true =>
 have H6:=Hh (h6 rfl);clear h6
 by_cases hs:(v.suites.length:Int)≤20
 ·have Sz:decide ((v.suites.length:Int)≤20)=true:=decide_eq_true hs
  have gz:Hid v.Small:=by
   have g:=fun b h=>H4.out.2 b (HL.out b h)
   have gl:=ev.out;have g4:=H4.out.1
   exact⟨by have:=g v.cred (by simp);omega,⟨by omega,fun b h=>by have:=H4.out.2 b (ae.out b h);omega⟩,by have:=g v.kid (by simp);omega,by have:=g v.kx (by simp);omega,by have:=g v.kd (by simp);omega,by have:=g v.kk (by simp);omega,by omega,
    ⟨by have:=H5.out.1;omega,fun b h=>by have:=H5.out.2 b h;omega⟩,⟨by have:=H6.out.1;omega,fun b h=>by have:=H6.out.2 b h;omega⟩⟩
  clear hs;go_wp2_with fail
  go_ret
  exact⟨⟨_,rfl,fun _=>gz.out⟩,hb⟩
 have Sz:decide ((v.suites.length:Int)≤20)=false:=decide_eq_false hs;clear hs;go_wp2_with fail
 go_ret
 exact⟨⟨false,rfl,fun h=>by cases h⟩,hb⟩
section
variable {w w' w'':World} {H H' H'':Snap} {g:Nat}
theorem GrowsBut.refl (hH:Holds w H) (g:Nat):GrowsBut w H w H g:=⟨yg w _,Snap.le.refl _,hH,fun _ _ h=>.inl h⟩
theorem GrowsBut.trans (h:GrowsBut w H w' H' g) (k:GrowsBut w' H' w'' H'' g):GrowsBut w H w'' H'' g :=
 ⟨z8 h.grown k.grown (.inl rfl),h.le.trans k.le,k.holds,fun b o hb=>by
  rcases k.fresh b o hb with h1 | h1
  ·exact h.fresh b o h1
  exact .inr (Nat.le_trans h.grown.size h1)⟩
theorem Grows.but (h:Grows w H w' H') (g:Nat):GrowsBut w H w' H' g:=⟨yD h.below _,h.le,h.holds,h.fresh⟩
theorem GrowsBut.hid (h:GrowsBut w H w' H' g) {k:Nat}(hk:H k=.none) (hl:k<w.heap.size):H' k=.none:=by
 cases hH:H' k with
 | none=>rfl
 | some o =>
 rcases h.fresh k o hH with hx | hx
 ·rw[hk]at hx;cases hx
 omega
structure DeckIn (w:World) (g:Nat) (H:Snap):Prop where
 deck:Deck w g H
 holds:Holds w H
 apart:H g=.none
structure Dealt (w:World) (H:Snap) (w':World) (H':Snap) (g:Nat):Prop where
 grows:GrowsBut w H w' H' g
 deck:DeckIn w' g H'
theorem DeckIn.grows (h:DeckIn w g H) (k:Grows w H w' H'):Dealt w H w' H' g :=
 ⟨k.but g,⟨(h.deck.below k.below).mono k.le,k.holds,k.none h.apart h.deck.lt⟩⟩
theorem Dealt.le (h:Dealt w H w' H' g):H.le H':=h.grows.le
theorem Dealt.holds (h:Dealt w H w' H' g):Holds w' H':=h.deck.holds
theorem Dealt.hid (h:Dealt w H w' H' g) {k:Nat}(hk:H k=.none) (hl:k<w.heap.size):H' k=.none:=h.grows.hid hk hl
end
theorem uk {H:Snap}{g:Nat}(w:World) (hD:DeckIn w g H) (n:Int) (hn:0<n) (kZ:n≤1099511627776) :
  Calls Tryz.prog 8 #[.pointer (some ⟨g,0,none⟩),.int .i64 n] w fun e w'=>∃ r:Nat,e=.returned (.int .i64 (r:Int))∧(r:Int)<n∧Dealt w H w' H g:=by
 refine(bK w hD.deck hD.holds hD.apart n hn kZ).mono ?_
 rintro e w' ⟨r,rfl,h0,h1,h2,h3⟩
 obtain⟨k,rfl⟩:=Int.eq_ofNat_of_zero_le h0;have hH:=hD.holds.grown h3 (by rintro q ⟨⟩;exact hD.apart)
 exact⟨k,rfl,h1,⟨h3,Snap.le.refl _,hH,fun _ _ h=>.inl h⟩,h2,hH,hD.apart⟩
def SrcR (w:World) (A:Option Addr) (ls:List (List UInt8)):Prop:=0<ls.length→∃ b off,A=some ⟨b,off,none⟩∧∀ j (hj:j<ls.length),∃ Aj cj,w.cell? ⟨b,off+j,none⟩=some (.slice Aj ls[j].length cj)∧Src w Aj (ls[j].map zm)
theorem yN (ls:List (List UInt8)) (k:Nat) (hk:k<ls.length):(ls.drop k).flatten=ls[k]++(ls.drop (k+1)).flatten:=by
 rw[List.drop_eq_getElem_cons hk,List.flatten_cons]
theorem OwnB.store_ {w:World}{base:Nat}{A:Option Addr}{n c:Nat}{l:List UInt8}(h:OwnB w base (.slice A n c) l) {k:Nat}(hk:k<l.length):∃ g cur,A=some ⟨g,0,none⟩∧base≤g∧Blk w g 5 cur∧k<cur.size∧
  ∀ (w':World) (x:UInt8),Blk w' g 5 (cur.setIfInBounds k (zm x))→OwnB w' base (.slice A n c) (l.set k x):=by
 rcases h.2 with ⟨hv,hz⟩ | ⟨g,cap,cur,hv,hb,hg,hc,hm,cJ,ht⟩
 ·omega
 cases hv
 refine⟨g,cur,rfl,hb,hg,by omega,fun w' x hB=>⟨by simp,.inr ⟨g,c,_,by simp,hb,hB,by simpa using hc,hm,by rw[Array.size_setIfInBounds,cJ], ?_⟩⟩⟩
 rw[Array.toList_setIfInBounds,List.length_set,List.take_set,ht,List.map_set]
def beN (l:List UInt8):Nat:=l.foldl (fun x c=>x*256+c.toNat) 0
theorem dH (l:List UInt8) (c:UInt8):beN (l++[c])=beN l*256+c.toNat:=by simp[beN]
theorem uV (l:List UInt8):beN l<256 ^ l.length:=by
 suffices h:∀ (l:List UInt8) (a:Nat),l.foldl (fun x c=>x*256+c.toNat) a<(a+1)*256 ^ l.length by
  have:=h l 0;rw[Nat.zero_add,Nat.one_mul]at this
  exact this
 intro l
 induction l with
 | nil=>intro a;simp
 | cons c l ih =>
 intro a
 have hc:=c.toNat_lt;rw[List.foldl_cons,List.length_cons,Nat.pow_succ]
 refine Nat.lt_of_lt_of_le (ih _) ?_
 have:(a*256+c.toNat+1)*256 ^ l.length≤((a+1)*256)*256 ^ l.length:=Nat.mul_le_mul_right _ (by omega);rw[Nat.mul_assoc,Nat.mul_comm 256]at this
 exact this
theorem yA {c:UInt8}{n:Nat}(h:n%256=c.toNat):u8 n=c:=by
 apply UInt8.toNat_inj.1
 rw[qN,h]
theorem aY {l:List UInt8}(h:l.length=1):∃ a,l=[a]:=by
 match l,h with
 | [a],_=>exact⟨a,rfl⟩
theorem aZ {l:List UInt8}(h:l.length=2):∃ a b,l=[a,b]:=by
 match l,h with
 | [a,b],_=>exact⟨a,b,rfl⟩
theorem eC {l:List UInt8}(h:l.length=4):∃ a b c d,l=[a,b,c,d]:=by
 match l,h with
 | [a,b,c,d],_=>exact⟨a,b,c,d,rfl⟩
theorem Wv {l:List UInt8}(h:l.length=8):∃ a b c d e f g i,l=[a,b,c,d,e,f,g,i]:=by
 match l,h with
 | [a,b,c,d,e,f,g,i],_=>exact⟨a,b,c,d,e,f,g,i,rfl⟩
theorem X4 (a:UInt8):beN [a]=a.toNat:=by simp[beN]
theorem X6 (a b:UInt8):beN [a,b]=a.toNat*256+b.toNat:=by simp[beN]
theorem X7 (a b c d:UInt8):beN [a,b,c,d]=a.toNat*16777216+b.toNat*65536+c.toNat*256+d.toNat:=by simp[beN];omega
theorem UO (a b c d e f g i:UInt8):beN [a,b,c,d,e,f,g,i]=a.toNat*72057594037927936+b.toNat*281474976710656+c.toNat*1099511627776+d.toNat*4294967296+e.toNat*16777216+f.toNat*65536+g.toNat*256+i.toNat:=by simp[beN];omega
theorem iH {l:List UInt8}(h:l.length=8):be8 (beN l) 8=l:=by
 obtain⟨a,b,c,d,e,f,g,i,rfl⟩:=Wv h;have ha:=a.toNat_lt;have hb:=b.toNat_lt;have hc:=c.toNat_lt;have hd:=d.toNat_lt;have he:=e.toNat_lt;have hf:=f.toNat_lt;have hg:=g.toNat_lt;have hi:=i.toNat_lt
 rw[UO]
 simp only[be8,Nat.reducePow,Nat.reduceMul,Nat.reduceSub,List.nil_append,List.cons_append]
 rw[yA (c:=a) (by omega),yA (c:=b) (by omega),yA (c:=c) (by omega),yA (c:=d) (by omega),yA (c:=e) (by omega),yA (c:=f) (by omega),yA (c:=g) (by omega),yA (c:=i) (by omega)]
def zR:List UInt8→Except Nat (Nat×Nat×Nat)
 | []=>.error 2
 | f::t =>
 if 27<f.toNat%32 then .error 3
 else if f.toNat%32<24 then .ok (f.toNat,f.toNat%32,1)
 else if t.length<2 ^ (f.toNat%32-24) then .error 2
 else if f.toNat/32<7∧(zW 0 (beN (t.take (2 ^ (f.toNat%32-24))))).length≠1+2 ^ (f.toNat%32-24) then .error 4
 else .ok (f.toNat,beN (t.take (2 ^ (f.toNat%32-24))),1+2 ^ (f.toNat%32-24))
def xY (v:Nat):Nat :=
 if v/1024%32=31 then v/32768*9223372036854775808+9218868437227405312+v%1024*4398046511104
 else if v/1024%32=0 then(if v%1024=0 then v/32768*9223372036854775808 else v/32768*9223372036854775808+(999+(v%1024).log2)*4503599627370496+(v%1024*2 ^ (52-(v%1024).log2)-4503599627370496))
 else v/32768*9223372036854775808+(v/1024%32+1008)*4503599627370496+v%1024*4398046511104
def wn (v:Nat):Nat :=
 if v/8388608%256=255 then v/2147483648*9223372036854775808+9218868437227405312+v%8388608*536870912
 else if v/8388608%256=0 then(if v%8388608=0 then v/2147483648*9223372036854775808 else v/2147483648*9223372036854775808+(874+(v%8388608).log2)*4503599627370496+(v%8388608*2 ^ (52-(v%8388608).log2)-4503599627370496))
 else v/2147483648*9223372036854775808+(v/8388608%256+896)*4503599627370496+v%8388608*536870912
def xH (low n:Nat):Nat:=if low=25 then xY n else if low=26 then wn n else n
def yh (low n:Nat):Except Nat Itm :=
 if low<24 then .ok (.mk 7 n [] [])
 else if low=24 then(if n<32 then .error 4 else .ok (.mk 7 n [] []))
 else if(isNaN (xH low n)&&xH low n != zG)||(zH (xH low n)).length != 1+2 ^ (low-24) then .error 4
 else .ok (.mk 8 (xH low n) [] [])
inductive PL where
 | err (e:Nat)
 | ok (l:List Itm) (k c:Nat)
inductive PR where
 | err (e:Nat)
 | ok (x:Itm) (k c:Nat)
def uy (p:List UInt8→Nat→PR):Nat→List UInt8→Nat→PL
 | 0,_,c=>.ok [] 0 c
 | n+1,b,c=>match p b c with
  | .err e=>.err e
  | .ok x k c'=>match uy p n (b.drop k) c' with
   | .err e=>.err e
   | .ok l k' c''=>.ok (x::l) (k+k') c''
def sP (last:Option (List UInt8)) (key:List UInt8):Option Nat :=
 match last with
 | none=>none
 | some l=>if Lib.compareBytes key l=0 then some 7 else if Lib.compareBytes key l<0 then some 6 else none
def xo (p:List UInt8→Nat→PR):Nat→List UInt8→Nat→Option (List UInt8)→PL
 | 0,_,c,_=>.ok [] 0 c
 | n+1,b,c,last=>match p b c with
  | .err e=>.err e
  | .ok x k c'=>match sP last (b.take k) with
   | some e=>.err e
   | none=>match p (b.drop k) c' with
    | .err e=>.err e
    | .ok y k' c''=>match xo p n (b.drop (k+k')) c'' (some (b.take k)) with
     | .err e=>.err e
     | .ok l k'' c3=>.ok (x::y::l) (k+k'+k'') c3
def zc:Nat→List UInt8→Nat→PR
 | d,b,c =>
 if 256≤c then .err 8
 else match zR b with
  | .error e=>.err e
  | .ok (f,n,k) =>
  if f/32≤1 then .ok (.mk (f/32:Nat) n [] []) k (c+1)
  else if f/32≤3 then
   (if b.length<k+n then .err 2
   else if f/32=3∧Lib.validD ((b.drop k).take n)=false then .err 5
   else .ok (.mk (f/32:Nat) 0 ((b.drop k).take n) []) (k+n) (c+1))
  else if f/32=7 then
   (match yh (f%32) n with
   | .error e=>.err e
   | .ok x=>.ok x k (c+1))
  else match d with
   | 0=>.err 8
   | d+1 =>
   if f/32=6 then(match zc d (b.drop k) (c+1) with
    | .err e=>.err e
    | .ok x k' c'=>.ok (.mk 6 n [] [x]) (k+k') c')
   else if f/32=5 then(match xo (zc d) n (b.drop k) (c+1) none with
    | .err e=>.err e
    | .ok l k' c'=>.ok (.mk 5 0 [] l) (k+k') c')
   else(match uy (zc d) n (b.drop k) (c+1) with
    | .err e=>.err e
    | .ok l k' c'=>.ok (.mk 4 0 [] l) (k+k') c')
theorem jI {m low:Nat}(wL:24≤low∧low≤27) {t:List UInt8}(ht:t.length=2 ^ (low-24)) (h:(zW 0 (beN t)).length=1+2 ^ (low-24)):zW m (beN t)=u8 (m*32+low)::t:=by
 rw[zB]at h
 rcases(by omega:low=24∨low=25∨low=26∨low=27) with rfl | rfl | rfl | rfl
 ·obtain⟨a,rfl⟩:=aY (by simpa using ht);have:=a.toNat_lt;rw[X4]at h⊢;rw[tr]
  have h1:24≤a.toNat:=by
   simp at h
   repeat' split at h
   all_goals omega
  simp only[qR,qS,show ¬ a.toNat<24 by omega,show a.toNat<256 by omega,if_true,if_false]
  rw[yA (n:=a.toNat) (c:=a) (by omega)]
 ·obtain⟨a,b,rfl⟩:=aZ (by simpa using ht);have ha:=a.toNat_lt;have hb:=b.toNat_lt
  rw[X6]at h⊢;obtain⟨q,hq⟩:∃ q,a.toNat*256+b.toNat=q:=⟨_,rfl⟩
  rw[hq]at h⊢
  have h1:256≤q:=by
   simp at h
   repeat' split at h
   all_goals omega
  rw[tr]
  simp only[qR,qS,show ¬ q<24 by omega,show ¬ q<256 by omega,show q<65536 by omega,if_true,if_false]
  rw[yA (n:=q/256) (c:=a) (by omega),yA (n:=q) (c:=b) (by omega)]
 ·obtain⟨a,b,c,d,rfl⟩:=eC (by simpa using ht);have ha:=a.toNat_lt;have hb:=b.toNat_lt;have hc:=c.toNat_lt;have hd:=d.toNat_lt
  rw[X7]at h⊢;obtain⟨q,hq⟩:∃ q,a.toNat*16777216+b.toNat*65536+c.toNat*256+d.toNat=q:=⟨_,rfl⟩
  rw[hq]at h⊢
  have h1:65536≤q:=by
   simp at h
   repeat' split at h
   all_goals omega
  rw[tr]
  simp only[qR,qS,show ¬ q<24 by omega,show ¬ q<256 by omega,show ¬ q<65536 by omega,show q<4294967296 by omega,if_true,if_false]
  rw[yA (n:=q/16777216) (c:=a) (by omega),yA (n:=q/65536) (c:=b) (by omega),yA (n:=q/256) (c:=c) (by omega),yA (n:=q) (c:=d) (by omega)]
 have h1:4294967296≤beN t:=by
  simp at h
  repeat' split at h
  all_goals omega
 rw[tr]
 simp only[qR,qS,show ¬ beN t<24 by omega,show ¬ beN t<256 by omega,show ¬ beN t<65536 by omega,show ¬ beN t<4294967296 by omega,if_false]
 rw[iH (by simpa using ht)]
structure HeadIs (b:List UInt8) (f n k:Nat):Prop where
 le:k≤b.length
 pos:0<k
 f_lt:f<256
 low:f%32≤27
 small:f%32<24→n=f%32∧k=1∧b.take k=[u8 f]
 wide:24≤f%32→k=1+2 ^ (f%32-24)∧∃ t,t.length=2 ^ (f%32-24)∧b.take k=u8 f::t∧n=beN t
 n_lt:n<18446744073709551616
 enc:f/32<7→zW (f/32) n=b.take k
theorem yP {b:List UInt8}{f n k:Nat}(h:zR b=.ok (f,n,k)):HeadIs b f n k:=by
 cases b with
 | nil=>cases h
 | cons g t =>
 have hg:=g.toNat_lt
 simp only[zR]at h
 split at h
 ·cases h
 rename_i q1
 split at h
 ·rename_i q2
  injection h with h
  simp only[Prod.mk.injEq]at h
  obtain⟨rfl,rfl,rfl⟩:=h;have hu:u8 g.toNat=g:=yA (by omega)
  refine⟨by simp,by omega,hg,by omega,fun _=>⟨rfl,rfl,by simp[hu]⟩,fun h=>by omega,by omega,fun h7=>?_⟩
  rw[tr]
  simp only[qR,qS,q2,if_true]
  rw[show g.toNat/32*32+g.toNat%32=g.toNat by omega,hu]
  simp
 rename_i q2
 split at h
 ·cases h
 rename_i q3
 split at h
 ·cases h
 rename_i q4
 injection h with h
 simp only[Prod.mk.injEq]at h
 obtain⟨rfl,rfl,rfl⟩:=h;have hu:u8 g.toNat=g:=yA (by omega);obtain⟨low,wL⟩:∃ low,g.toNat%32=low:=⟨_,rfl⟩
 rw[wL]at q1 q2 q3 q4⊢
 have hz:2 ^ (low-24)≤8:=by
  rcases(by omega:low=24∨low=25∨low=26∨low=27) with rfl | rfl | rfl | rfl <;> decide
 have YI:(t.take (2 ^ (low-24))).length=2 ^ (low-24):=by rw[List.length_take];omega
 have ht:(g::t).take (1+2 ^ (low-24))=g::t.take (2 ^ (low-24)):=by rw[Nat.add_comm,List.take_succ_cons]
 refine⟨by rw[List.length_cons];omega,by omega,hg,by omega,fun h=>by omega,fun _=>⟨by rw[wL],_,by rw[wL];exact YI,by rw[ht,hu],rfl⟩, ?_,fun h7=>?_⟩
 ·refine Nat.lt_of_lt_of_le (uV _) ?_
  rw[YI]
  exact Nat.pow_le_pow_right (n:=256) (by omega) hz
 rw[ht,jI (low:=low) (by omega) YI (by
  rcases Nat.lt_or_ge 0 1 with _ | _
  ·exact Classical.byContradiction fun h=>q4 ⟨h7,h⟩
  exact absurd ‹1≤0› (by omega)),show g.toNat/32*32+low=g.toNat by omega,hu]
end Go.Proofs.YtnfoilblmhbobaaGreatDoor
