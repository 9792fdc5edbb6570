/- squeezed. Walks: the pairs of a key, by the  -/
import Derived.Test.YtgaoknihklmakabGreatDoorK21
import Derived.Shelf.GgSortFunc.SmallK
set_option linter.unusedVariables false
set_option linter.unusedSimpArgs false
set_option maxRecDepth 100000
set_option maxHeartbeats 25600000
namespace Go.Proofs.YtgaoknihklmakabGreatDoor
open Go.RowKit
theorem jaF{P:Prop}(h:P:=by
 rw[ry]at hP⊢;have iH:=Hh ry;clear hown7 yQ hat7 hZ ry
 refine Kz hK ?_
 clear hK K
 refine ZkT 7 rfl (fun h=>absurd h (by decide)) ?_
 refine WaysZ.done (by kernel_rfl) ?_
 clear zy;go_wp2_with fail
 go_meet
 exact(by rw[E.out,sk.out];exact⟨_,_,_,_,rfl,iH.out.symm,hP⟩)):P:=h
theorem jbf{P:Prop}(h:P:=by
 go_wp2_with fail
 go_meet
 rw[E.out]
 exact HS.out):P:=h
theorem jdc{P:Prop}(h:P:=by
 simp at hm
 rcases hm with rfl | rfl <;> exact wl _):P:=h
theorem jex{P:Prop}(h:P:=by have HS:=Hh hS;clear hS;exact jbf):P:=h
def RSt (W0:World) (H:Snap) (kc:Array Value) (v:Value) (L:List Itm) (w:World):Prop:=∃ Hr A m c,v=.slice A m c∧m=L.length∧RS W0 H kc (.slice A m c) L w Hr
theorem RSt.key {W0 w:World}{H:Snap}{kc:Array Value}{v:Value}{L:List Itm}(h:RSt W0 H kc v L w):Blk w W0.heap.size 61 kc:=by
 obtain⟨Hr,A,m,c,_,_,hP⟩:=h
 exact hP.key
theorem Zl {H:Snap}(t v g:Int) (ht : -9223372036854775808≤t∧t≤9223372036854775807) (hv : -9223372036854775808≤v∧v≤9223372036854775807) (hg : -9223372036854775808≤g∧g≤9223372036854775807)
  {Ai:Option Addr} {ci:Nat} {kid:List UInt8} (hi:IsBytes H Ai ci kid) {Ax:Option Addr} {cx:Nat} {x:List UInt8} (hx:IsBytes H Ax cx x)
  {Ad:Option Addr} {cd:Nat} {d:List UInt8} (hd:IsBytes H Ad cd d) {Ak:Option Addr} {ck:Nat} {k:List UInt8} (hk:IsBytes H Ak ck k)
  (hl:kid.length≤64∧x.length≤64∧d.length≤64∧k.length≤64) (Ug:t=4→0<k.length) (w:World) (hH:Holds w H) :
  Calls Tryz.prog 78 #[.agg (uO t v g Ai kid.length ci Ax x.length cx Ad d.length cd Ak k.length ck)] w (aA w H (pq t v g kid x d k)):=by
 have hP:=jgl;have KC:Hid ((uO t v g Ai kid.length ci Ax x.length cx Ad d.length cd Ak k.length ck)=#[.int .i64 t,.int .i64 v,.int .i64 g,.slice Ai kid.length ci,.slice Ax x.length cx,.slice Ad d.length cd,.slice Ak k.length ck]):=rfl;have D:=Hh (And.intro ht (And.intro hv hg));have B1:=Hh (And.intro hi (And.intro hx (And.intro hd hk)));have BL:=Hh hl;have K4:=Hh Ug;clear hi hx hd hk hl ht hv hg hH Ug;go_enter Tryz.func78,Tryz.ntmps78
 go_upto_region 1 with fail
 go_cut [3] (fun s3 wx=>RSt w H (uO t v g Ai kid.length ci Ax x.length cx Ad d.length cd Ak k.length ck) s3 [zr 1,zr t] wx)
 case first =>
  obtain⟨W1,ZB⟩:∃ W1,w.alloc (.cells (uO t v g Ai kid.length ci Ax x.length cx Ad d.length cd Ak k.length ck) 61)=W1:=⟨_,rfl⟩
  rw[ZB]at hP⊢;clear ZB;have c0:=hP.key.cell 0 rfl;replace hP:=hP.drew
  refine zX 5 (fun wx=>wx.cell? ⟨w.heap.size,0,none⟩=some (.int .i64 t)) (by kernel_rfl) (c0) (fun zy=>?_)
  refine Zk 1 rfl zy ?_
  refine Zk 2 rfl zy ?_
  refine Zo 0 rfl fun K hK=>?_
  go_simp
  refine(vS (1) (by omega) (by omega) _ hP.grows.holds).mono ?_
  rintro e w3 ⟨v1,rfl,xa1,xb1,xc1,xd1,H1,rfl,xg,vp⟩
  have hP:=jgO
  refine Ko hK ?_ fun zy=>?_
  ·exact jcY
  clear hK K
  refine Zo 3 rfl fun K hK=>?_
  go_simp
  refine(vS t D.out.1.1 D.out.1.2 _ hP.grows.holds).mono ?_
  rintro e w4 ⟨v2,rfl,xa2,xb2,xc2,xd2,H2,rfl,zM,rV⟩
  obtain⟨hP,vp⟩:=jgc
  refine Ko hK ?_ fun zy=>?_
  ·exact jcY
  clear hK K
  refine Zo 4 rfl fun K hK=>?_
  go_simp
  have hP:=hP.litR ((ItemsC.one vp).app (ItemsC.one rV)) (by simp)
  refine Ko hK ?_ fun zy=>?_
  ·exact jcY
  clear hK K
  refine Zo 5 rfl fun K hK=>?_
  go_simp
  refine Kz hK ?_
  clear hK K
  refine WaysZ.done (by kernel_rfl) ?_
  clear zy;go_wp2_with fail
  go_meet
  exact⟨_,_,_,_,rfl,rfl,hP⟩
 case rest =>
 clear hP;have hS:=hcut;clear hcut;have tI:Hid (([zr 1,zr t]:List Itm).length≤1000):=by rw[Hid];simp
 have c3:=hS.key.cell 3 rfl;go_upto_if 12 with fail
 go_cut [3] (fun s3 wx=>RSt w H (uO t v g Ai kid.length ci Ax x.length cx Ad d.length cd Ak k.length ck) s3 ([zr 1,zr t]++xZ 2 kid) wx)
 case first =>
  by_cases h0:0<kid.length
  case neg =>
   have E:Hid (([zr 1,zr t]++xZ 2 kid)=[zr 1,zr t]):=by rw[Hid,show xZ (2) kid=[] from if_neg h0,List.append_nil]
   have uZ:¬ (0:Int)<(kid.length:Int):=by omega
   have sZ:decide ((0:Int)<(kid.length:Int))=false:=decide_eq_false uZ;have sH:decide (0<kid.length)=false:=decide_eq_false h0;clear h0;exact jex
  have uZ:(0:Int)<(kid.length:Int):=by omega
  have sZ:decide ((0:Int)<(kid.length:Int))=true:=decide_eq_true uZ;have sH:decide (0<kid.length)=true:=decide_eq_true h0;have E:Hid (([zr 1,zr t]++xZ 2 kid)=[zr 1,zr t]++[zr (2),mm kid]):=by rw[Hid,show xZ (2) kid=[zr (2),mm kid] from if_pos h0]
  clear h0;have tI:=tI;obtain⟨LL,se⟩:∃ LL,[zr 1,zr t]=LL:=⟨_,rfl⟩
  rw[se]at hS tI;have sk:=Hh se;clear se;obtain⟨Hr,VA,m,vc,rfl,hm,hP⟩:=hS;have HL:=jf4;clear hm;go_upto_region 3 with fail
  have c3:=hP.key.cell 3 rfl;replace hP:=hP.drew
  refine zX 6 (fun wx=>wx.cell? ⟨w.heap.size,3,none⟩=some (.slice Ai kid.length ci)) (by kernel_rfl) (c3) (fun zy=>?_)
  refine Zk 0 rfl zy ?_
  refine Zk 2 rfl zy ?_
  refine Zk 3 rfl zy ?_
  refine Zo 1 rfl fun K hK=>?_
  go_simp
  refine(vS (2) (by omega) (by omega) _ hP.grows.holds).mono ?_
  rintro e w3 ⟨v1,rfl,xa1,xb1,xc1,xd1,H1,rfl,xg,vp⟩
  have hP:=jgO
  refine Ko hK ?_ fun zy=>?_
  ·exact hP.key.cell 3 rfl
  clear hK K
  refine Zo 4 rfl fun K hK=>?_
  go_simp
  refine(nP rfl (by have:=BL.out;omega) _ (Src.of_row (B1.out.1.row.mono hP.grows.le) hP.grows.holds) hP.grows.holds).mono ?_
  rintro e w4 ⟨v2,rfl,xa2,xb2,xc2,xd2,H2,rfl,zM,rV⟩
  obtain⟨hP,vp⟩:=jgc
  refine Ko hK ?_ fun zy=>?_
  ·exact hP.key.cell 3 rfl
  clear hK K
  refine Zo 5 rfl fun K hK=>?_
  go_simp
  have hZ:=hP.litZ (ze (zr (2)) xa1 xb1 xc1 xd1++ze (.mk 2 0 kid []) xa2 xb2 xc2 xd2).toArray 83;have hP:=hP.alloc (.cells (ze (zr (2)) xa1 xb1 xc1 xd1++ze (.mk 2 0 kid []) xa2 xb2 xc2 xd2).toArray 83)
  refine Ko hK ?_ fun zy=>?_
  ·exact hP.key.cell 3 rfl
  clear hK K
  refine Zo 6 rfl fun K hK=>?_
  rw[if_pos (by rfl)]
  refine zL _ _ rfl _ _ _ _ rfl hP.own _ _ _ _ [_,_] rfl rfl ((ItemsC.one vp).app (ItemsC.one rV)) hZ (by have:=HL.out;simp;omega) hP.base fun v7 w7 hown7 yQ hat7=>?_
  have hP:=jgb;obtain⟨A7,c7,rfl,_⟩:=hown7.form;obtain⟨m7,ry⟩:∃ m7,(LL++[zr (2),.mk 2 0 kid []]).length=m7:=⟨_,rfl⟩
  exact jaF
 case rest =>
 clear hS c3;have hS:=hcut;clear hcut;have tI:Hid (([zr 1,zr t]++xZ 2 kid).length≤1000):=by have:=o7 2 kid;rw[Hid];simp;omega
 have c2:=hS.key.cell 2 rfl;go_upto_if 22 with fail
 go_cut [3] (fun s3 wx=>RSt w H (uO t v g Ai kid.length ci Ax x.length cx Ad d.length cd Ak k.length ck) s3 (yA t g kid) wx)
 case first =>
  by_cases h0:g=0
  case pos =>
   have E:Hid ((yA t g kid)=([zr 1,zr t]++xZ 2 kid)):=by rw[Hid,yA,if_pos h0,List.append_nil]
   subst h0;exact jex
  have b1:(g != 0)=true:=by simp[h0]
  have p1:(g=0)=False:=eq_false h0;have E:Hid ((yA t g kid)=([zr 1,zr t]++xZ 2 kid)++[zr 3,zr g]):=by rw[Hid,yA,if_neg h0]
  clear h0;have tI:=tI;obtain⟨LL,se⟩:∃ LL,([zr 1,zr t]++xZ 2 kid)=LL:=⟨_,rfl⟩
  rw[se]at hS tI;have sk:=Hh se;clear se;obtain⟨Hr,VA,m,vc,rfl,hm,hP⟩:=hS;have HL:=jf4;clear hm;go_upto_region 5 with fail
  have c2:=hP.key.cell 2 rfl;replace hP:=hP.drew
  refine zX 6 (fun wx=>wx.cell? ⟨w.heap.size,2,none⟩=some (.int .i64 g)) (by kernel_rfl) (c2) (fun zy=>?_)
  refine Zk 0 rfl zy ?_
  refine Zk 2 rfl zy ?_
  refine Zk 3 rfl zy ?_
  refine Zo 1 rfl fun K hK=>?_
  go_simp
  refine(vS (3) (by omega) (by omega) _ hP.grows.holds).mono ?_
  rintro e w3 ⟨v1,rfl,xa1,xb1,xc1,xd1,H1,rfl,xg,vp⟩
  have hP:=jgO
  refine Ko hK ?_ fun zy=>?_
  ·exact hP.key.cell 2 rfl
  clear hK K
  refine Zo 4 rfl fun K hK=>?_
  go_simp
  refine(vS g D.out.2.2.1 D.out.2.2.2 _ hP.grows.holds).mono ?_
  rintro e w4 ⟨v2,rfl,xa2,xb2,xc2,xd2,H2,rfl,zM,rV⟩
  obtain⟨hP,vp⟩:=jgc
  refine Ko hK ?_ fun zy=>?_
  ·exact hP.key.cell 2 rfl
  clear hK K
  refine Zo 5 rfl fun K hK=>?_
  go_simp
  have hZ:=hP.litZ (ze (zr (3)) xa1 xb1 xc1 xd1++ze (zr g) xa2 xb2 xc2 xd2).toArray 83;have hP:=hP.alloc (.cells (ze (zr (3)) xa1 xb1 xc1 xd1++ze (zr g) xa2 xb2 xc2 xd2).toArray 83)
  refine Ko hK ?_ fun zy=>?_
  ·exact hP.key.cell 2 rfl
  clear hK K
  refine Zo 6 rfl fun K hK=>?_
  rw[if_pos (by rfl)]
  refine zL _ _ rfl _ _ _ _ rfl hP.own _ _ _ _ [_,_] rfl rfl ((ItemsC.one vp).app (ItemsC.one rV)) hZ (by have:=HL.out;simp;omega) hP.base fun v7 w7 hown7 yQ hat7=>?_
  have hP:=jgb;obtain⟨A7,c7,rfl,_⟩:=hown7.form;obtain⟨m7,ry⟩:∃ m7,(LL++[zr (3),zr g]).length=m7:=⟨_,rfl⟩
  exact jaF
 case rest =>
 clear hS c2;have hS:=hcut;clear hcut;have tI:Hid ((yA t g kid).length≤1000):=by have:=ow t g kid;rw[Hid];omega
 have c0:=hS.key.cell 0 rfl
 by_cases dH:t=4
 case pos =>
  subst dH;have BI:=Hh (K4.out rfl);have E:Hid (pq 4 v g kid x d k=yA 4 g kid++[zr (-1),mm k]):=by rw[Hid,pq,if_pos rfl,xZ,if_pos BI.out]
  clear K4;obtain⟨LL,se⟩:∃ LL,(yA 4 g kid)=LL:=⟨_,rfl⟩
  rw[se]at hS tI;have sk:=Hh se;clear se;obtain⟨Hr,VA,m,vc,rfl,hm,hP⟩:=hS;have HL:=jf4;clear hm;go_upto_region 7 with fail
  have c6:=hP.key.cell 6 rfl;replace hP:=hP.drew
  refine zX 6 (fun wx=>wx.cell? ⟨w.heap.size,6,none⟩=some (.slice Ak k.length ck)) (by kernel_rfl) (c6) (fun zy=>?_)
  refine Zk 0 rfl zy ?_
  refine Zk 2 rfl zy ?_
  refine Zk 3 rfl zy ?_
  refine Zo 1 rfl fun K hK=>?_
  go_simp
  refine(vS (-1) (by omega) (by omega) _ hP.grows.holds).mono ?_
  rintro e w3 ⟨v1,rfl,xa1,xb1,xc1,xd1,H1,rfl,xg,vp⟩
  have hP:=jgO
  refine Ko hK ?_ fun zy=>?_
  ·exact hP.key.cell 6 rfl
  clear hK K
  refine Zo 4 rfl fun K hK=>?_
  go_simp
  refine(nP rfl (by have:=BL.out;omega) _ (Src.of_row (B1.out.2.2.2.row.mono hP.grows.le) hP.grows.holds) hP.grows.holds).mono ?_
  rintro e w4 ⟨v2,rfl,xa2,xb2,xc2,xd2,H2,rfl,zM,rV⟩
  obtain⟨hP,vp⟩:=jgc
  refine Ko hK ?_ fun zy=>?_
  ·exact hP.key.cell 6 rfl
  clear hK K
  refine Zo 5 rfl fun K hK=>?_
  go_simp
  have hZ:=hP.litZ (ze (zr (-1)) xa1 xb1 xc1 xd1++ze (.mk 2 0 k []) xa2 xb2 xc2 xd2).toArray 83;have hP:=hP.alloc (.cells (ze (zr (-1)) xa1 xb1 xc1 xd1++ze (.mk 2 0 k []) xa2 xb2 xc2 xd2).toArray 83)
  refine Ko hK ?_ fun zy=>?_
  ·exact hP.key.cell 6 rfl
  clear hK K
  refine Zo 6 rfl fun K hK=>?_
  rw[if_pos (by rfl)]
  refine zL _ _ rfl _ _ _ _ rfl hP.own _ _ _ _ [_,_] rfl rfl ((ItemsC.one vp).app (ItemsC.one rV)) hZ (by have:=HL.out;simp;omega) hP.base fun v7 w7 hown7 yQ hat7=>?_
  have hP:=jgb;obtain⟨A7,c7,rfl,_⟩:=hown7.form;obtain⟨m7,ry⟩:∃ m7,(LL++[zr (-1),.mk 2 0 k []]).length=m7:=⟨_,rfl⟩
  rw[ry]at hP⊢;have iH:=Hh ry;clear hown7 yQ hat7 hZ ry
  refine Kz hK ?_
  clear hK K
  refine ZkT 7 rfl (fun h=>absurd h (by decide)) ?_
  refine WaysZ.done (by kernel_rfl) ?_
  clear zy;go_wp2_with fail
  go_ret
  exact⟨_,rfl,by rw[E.out,sk.out];exact hP.out⟩
 have b4:(t==4)=false:=by rw[beq_eq_false_iff_ne];exact dH
 have p4:(t=4)=False:=eq_false dH;have EL:Hid (pq t v g kid x d k=yA t g kid++([zr (-1),zr v]++xZ (-2) x++xZ (-4) d)):=by rw[Hid,pq,if_neg dH]
 have Dn:Hid ((yA t g kid).length≤6):=ow t g kid;clear dH K4;go_upto_region 8 with fail
 clear c0;go_cut [3] (fun s3 wx=>RSt w H (uO t v g Ai kid.length ci Ax x.length cx Ad d.length cd Ak k.length ck) s3 (yA t g kid++[zr (-1),zr v]) wx)
 case first =>
  obtain⟨LL,se⟩:∃ LL,(yA t g kid)=LL:=⟨_,rfl⟩
  rw[se]at hS tI;have sk:=Hh se;clear se;obtain⟨Hr,VA,m,vc,rfl,hm,hP⟩:=hS;have HL:=jf4;clear hm;have c1:=hP.key.cell 1 rfl;replace hP:=hP.drew
  refine zX 6 (fun wx=>wx.cell? ⟨w.heap.size,1,none⟩=some (.int .i64 v)) (by kernel_rfl) (c1) (fun zy=>?_)
  refine Zk 0 rfl zy ?_
  refine Zk 2 rfl zy ?_
  refine Zk 3 rfl zy ?_
  refine Zo 1 rfl fun K hK=>?_
  go_simp
  refine(vS (-1) (by omega) (by omega) _ hP.grows.holds).mono ?_
  rintro e w3 ⟨v1,rfl,xa1,xb1,xc1,xd1,H1,rfl,xg,vp⟩
  have hP:=jgO
  refine Ko hK ?_ fun zy=>?_
  ·exact hP.key.cell 1 rfl
  clear hK K
  refine Zo 4 rfl fun K hK=>?_
  go_simp
  refine(vS v D.out.2.1.1 D.out.2.1.2 _ hP.grows.holds).mono ?_
  rintro e w4 ⟨v2,rfl,xa2,xb2,xc2,xd2,H2,rfl,zM,rV⟩
  obtain⟨hP,vp⟩:=jgc
  refine Ko hK ?_ fun zy=>?_
  ·exact hP.key.cell 1 rfl
  clear hK K
  refine Zo 5 rfl fun K hK=>?_
  go_simp
  have hZ:=hP.litZ (ze (zr (-1)) xa1 xb1 xc1 xd1++ze (zr v) xa2 xb2 xc2 xd2).toArray 83;have hP:=hP.alloc (.cells (ze (zr (-1)) xa1 xb1 xc1 xd1++ze (zr v) xa2 xb2 xc2 xd2).toArray 83)
  refine Ko hK ?_ fun zy=>?_
  ·exact hP.key.cell 1 rfl
  clear hK K
  refine Zo 6 rfl fun K hK=>?_
  rw[if_pos (by rfl)]
  refine zL _ _ rfl _ _ _ _ rfl hP.own _ _ _ _ [_,_] rfl rfl ((ItemsC.one vp).app (ItemsC.one rV)) hZ (by have:=HL.out;simp;omega) hP.base fun v7 w7 hown7 yQ hat7=>?_
  have hP:=jgb;obtain⟨A7,c7,rfl,_⟩:=hown7.form;obtain⟨m7,ry⟩:∃ m7,(LL++[zr (-1),zr v]).length=m7:=⟨_,rfl⟩
  rw[ry]at hP⊢;have iH:=Hh ry;clear hown7 yQ hat7 hZ ry
  refine Kz hK ?_
  clear hK K
  refine ZkT 7 rfl (fun h=>absurd h (by decide)) ?_
  refine WaysZ.done (by kernel_rfl) ?_
  clear zy;go_wp2_with fail
  go_meet
  exact(by rw[sk.out];exact⟨_,_,_,_,rfl,iH.out.symm,hP⟩)
 case rest =>
 clear hS tI;have hS:=hcut;clear hcut;have tI:Hid ((yA t g kid++[zr (-1),zr v]).length≤1000):=by have:=Dn.out;rw[Hid];simp;omega
 have c4:=hS.key.cell 4 rfl;go_upto_if 50 with fail
 go_cut [3] (fun s3 wx=>RSt w H (uO t v g Ai kid.length ci Ax x.length cx Ad d.length cd Ak k.length ck) s3 (yA t g kid++[zr (-1),zr v]++xZ (-2) x) wx)
 case first =>
  by_cases h0:0<x.length
  case neg =>
   have E:Hid ((yA t g kid++[zr (-1),zr v]++xZ (-2) x)=(yA t g kid++[zr (-1),zr v])):=by rw[Hid,show xZ (-2) x=[] from if_neg h0,List.append_nil]
   have uZ:¬ (0:Int)<(x.length:Int):=by omega
   have sZ:decide ((0:Int)<(x.length:Int))=false:=decide_eq_false uZ;have sH:decide (0<x.length)=false:=decide_eq_false h0;clear h0;exact jex
  have uZ:(0:Int)<(x.length:Int):=by omega
  have sZ:decide ((0:Int)<(x.length:Int))=true:=decide_eq_true uZ;have sH:decide (0<x.length)=true:=decide_eq_true h0;have E:Hid ((yA t g kid++[zr (-1),zr v]++xZ (-2) x)=(yA t g kid++[zr (-1),zr v])++[zr (-2),mm x]):=by rw[Hid,show xZ (-2) x=[zr (-2),mm x] from if_pos h0]
  clear h0;have tI:=tI;obtain⟨LL,se⟩:∃ LL,(yA t g kid++[zr (-1),zr v])=LL:=⟨_,rfl⟩
  rw[se]at hS tI;have sk:=Hh se;clear se;obtain⟨Hr,VA,m,vc,rfl,hm,hP⟩:=hS;have HL:=jf4;clear hm;go_upto_region 10 with fail
  have c4:=hP.key.cell 4 rfl;replace hP:=hP.drew
  refine zX 6 (fun wx=>wx.cell? ⟨w.heap.size,4,none⟩=some (.slice Ax x.length cx)) (by kernel_rfl) (c4) (fun zy=>?_)
  refine Zk 0 rfl zy ?_
  refine Zk 2 rfl zy ?_
  refine Zk 3 rfl zy ?_
  refine Zo 1 rfl fun K hK=>?_
  go_simp
  refine(vS (-2) (by omega) (by omega) _ hP.grows.holds).mono ?_
  rintro e w3 ⟨v1,rfl,xa1,xb1,xc1,xd1,H1,rfl,xg,vp⟩
  have hP:=jgO
  refine Ko hK ?_ fun zy=>?_
  ·exact hP.key.cell 4 rfl
  clear hK K
  refine Zo 4 rfl fun K hK=>?_
  go_simp
  refine(nP rfl (by have:=BL.out;omega) _ (Src.of_row (B1.out.2.1.row.mono hP.grows.le) hP.grows.holds) hP.grows.holds).mono ?_
  rintro e w4 ⟨v2,rfl,xa2,xb2,xc2,xd2,H2,rfl,zM,rV⟩
  obtain⟨hP,vp⟩:=jgc
  refine Ko hK ?_ fun zy=>?_
  ·exact hP.key.cell 4 rfl
  clear hK K
  refine Zo 5 rfl fun K hK=>?_
  go_simp
  have hZ:=hP.litZ (ze (zr (-2)) xa1 xb1 xc1 xd1++ze (.mk 2 0 x []) xa2 xb2 xc2 xd2).toArray 83;have hP:=hP.alloc (.cells (ze (zr (-2)) xa1 xb1 xc1 xd1++ze (.mk 2 0 x []) xa2 xb2 xc2 xd2).toArray 83)
  refine Ko hK ?_ fun zy=>?_
  ·exact hP.key.cell 4 rfl
  clear hK K
  refine Zo 6 rfl fun K hK=>?_
  rw[if_pos (by rfl)]
  refine zL _ _ rfl _ _ _ _ rfl hP.own _ _ _ _ [_,_] rfl rfl ((ItemsC.one vp).app (ItemsC.one rV)) hZ (by have:=HL.out;simp;omega) hP.base fun v7 w7 hown7 yQ hat7=>?_
  have hP:=jgb;obtain⟨A7,c7,rfl,_⟩:=hown7.form;obtain⟨m7,ry⟩:∃ m7,(LL++[zr (-2),.mk 2 0 x []]).length=m7:=⟨_,rfl⟩
  exact jaF
 case rest =>
 clear hS c4;have hS:=hcut;clear hcut;have tI:Hid ((yA t g kid++[zr (-1),zr v]++xZ (-2) x).length≤1000):=by have:=Dn.out;have:=o7 (-2) x;rw[Hid];simp;omega
 have c5:=hS.key.cell 5 rfl;go_upto_if 61 with fail
 go_cut [3] (fun s3 wx=>RSt w H (uO t v g Ai kid.length ci Ax x.length cx Ad d.length cd Ak k.length ck) s3 (yA t g kid++[zr (-1),zr v]++xZ (-2) x++xZ (-4) d) wx)
 case first =>
  by_cases h0:0<d.length
  case neg =>
   have E:Hid ((yA t g kid++[zr (-1),zr v]++xZ (-2) x++xZ (-4) d)=(yA t g kid++[zr (-1),zr v]++xZ (-2) x)):=by rw[Hid,show xZ (-4) d=[] from if_neg h0,List.append_nil]
   have uZ:¬ (0:Int)<(d.length:Int):=by omega
   have sZ:decide ((0:Int)<(d.length:Int))=false:=decide_eq_false uZ;have sH:decide (0<d.length)=false:=decide_eq_false h0;clear h0;exact jex
  have uZ:(0:Int)<(d.length:Int):=by omega
  have sZ:decide ((0:Int)<(d.length:Int))=true:=decide_eq_true uZ;have sH:decide (0<d.length)=true:=decide_eq_true h0;have E:Hid ((yA t g kid++[zr (-1),zr v]++xZ (-2) x++xZ (-4) d)=(yA t g kid++[zr (-1),zr v]++xZ (-2) x)++[zr (-4),mm d]):=by rw[Hid,show xZ (-4) d=[zr (-4),mm d] from if_pos h0]
  clear h0;have tI:=tI;obtain⟨LL,se⟩:∃ LL,(yA t g kid++[zr (-1),zr v]++xZ (-2) x)=LL:=⟨_,rfl⟩
  rw[se]at hS tI;have sk:=Hh se;clear se;obtain⟨Hr,VA,m,vc,rfl,hm,hP⟩:=hS;have HL:=jf4;clear hm;go_upto_region 12 with fail
  have c5:=hP.key.cell 5 rfl;replace hP:=hP.drew
  refine zX 6 (fun wx=>wx.cell? ⟨w.heap.size,5,none⟩=some (.slice Ad d.length cd)) (by kernel_rfl) (c5) (fun zy=>?_)
  refine Zk 0 rfl zy ?_
  refine Zk 2 rfl zy ?_
  refine Zk 3 rfl zy ?_
  refine Zo 1 rfl fun K hK=>?_
  go_simp
  refine(vS (-4) (by omega) (by omega) _ hP.grows.holds).mono ?_
  rintro e w3 ⟨v1,rfl,xa1,xb1,xc1,xd1,H1,rfl,xg,vp⟩
  have hP:=jgO
  refine Ko hK ?_ fun zy=>?_
  ·exact hP.key.cell 5 rfl
  clear hK K
  refine Zo 4 rfl fun K hK=>?_
  go_simp
  refine(nP rfl (by have:=BL.out;omega) _ (Src.of_row (B1.out.2.2.1.row.mono hP.grows.le) hP.grows.holds) hP.grows.holds).mono ?_
  rintro e w4 ⟨v2,rfl,xa2,xb2,xc2,xd2,H2,rfl,zM,rV⟩
  obtain⟨hP,vp⟩:=jgc
  refine Ko hK ?_ fun zy=>?_
  ·exact hP.key.cell 5 rfl
  clear hK K
  refine Zo 5 rfl fun K hK=>?_
  go_simp
  have hZ:=hP.litZ (ze (zr (-4)) xa1 xb1 xc1 xd1++ze (.mk 2 0 d []) xa2 xb2 xc2 xd2).toArray 83;have hP:=hP.alloc (.cells (ze (zr (-4)) xa1 xb1 xc1 xd1++ze (.mk 2 0 d []) xa2 xb2 xc2 xd2).toArray 83)
  refine Ko hK ?_ fun zy=>?_
  ·exact hP.key.cell 5 rfl
  clear hK K
  refine Zo 6 rfl fun K hK=>?_
  rw[if_pos (by rfl)]
  refine zL _ _ rfl _ _ _ _ rfl hP.own _ _ _ _ [_,_] rfl rfl ((ItemsC.one vp).app (ItemsC.one rV)) hZ (by have:=HL.out;simp;omega) hP.base fun v7 w7 hown7 yQ hat7=>?_
  have hP:=jgb;obtain⟨A7,c7,rfl,_⟩:=hown7.form;obtain⟨m7,ry⟩:∃ m7,(LL++[zr (-4),.mk 2 0 d []]).length=m7:=⟨_,rfl⟩
  exact jaF
 case rest =>
 clear hS c5;have hS:=hcut;clear hcut;obtain⟨Hr,VA,m,vc,rfl,hm,hP⟩:=hS;have hO:=hP.out;clear hP hm;go_wp2_with fail
 go_ret
 exact⟨_,rfl,by rw[EL.out];show gL w H _ (Value.slice VA m vc) _;rw[← List.append_assoc,← List.append_assoc];exact hO⟩
structure Ky where
 kty:Int
 crv:Int
 alg:Int
 kid:List UInt8
 x:List UInt8
 d:List UInt8
 k:List UInt8
def YS (b:List UInt8):Bool:=decide (b.length=0)||decide (b.length=32)
def xY (q:Ky):Bool :=
 decide (q.kid.length≤16)&&decide (-65536≤q.alg)&&decide (q.alg≤65535) &&
 (if q.kty=1 then(decide (q.crv=4)||decide (q.crv=6))&&YS q.x&&YS q.d&&decide (0<q.x.length+q.d.length)&&decide (q.k.length=0)
  else if q.kty=4 then decide (q.crv=0)&&decide (q.x.length+q.d.length=0)&&decide (1≤q.k.length)&&decide (q.k.length≤64) else false)
def n9 (b:List UInt8):Itm:=.mk 2 0 b []
def pZ (n:Int) (b:List UInt8):List Itm:=if 0<b.length then [zr n,n9 b] else []
def yI (q:Ky):List Itm :=
 [zr 1,zr q.kty]++pZ 2 q.kid++(if q.alg=0 then [] else [zr 3,zr q.alg]) ++
  (if q.kty=4 then pZ (-1) q.k else [zr (-1),zr q.crv]++pZ (-2) q.x++pZ (-4) q.d)
def vW (q:Ky):Itm:=.mk 5 0 [] (yI q)
theorem VX:Lib.compareBytes (zf (zr 1)) (zf (zr 2))<0∧Lib.compareBytes (zf (zr 1)) (zf (zr 3))<0∧Lib.compareBytes (zf (zr 1)) (zf (zr (-1)))<0∧
  Lib.compareBytes (zf (zr 2)) (zf (zr 3))<0∧Lib.compareBytes (zf (zr 2)) (zf (zr (-1)))<0∧Lib.compareBytes (zf (zr 3)) (zf (zr (-1)))<0∧
  Lib.compareBytes (zf (zr (-1))) (zf (zr (-2)))<0∧Lib.compareBytes (zf (zr (-1))) (zf (zr (-4)))<0∧Lib.compareBytes (zf (zr (-2))) (zf (zr (-4)))<0:=by
 rw[xG,xG,xG,xG,xG,xG];decide +kernel
theorem ol (q:Ky):xE (yI q)=true:=by
 obtain⟨Yo,Hn,Bw,Ho,C6,C9,ir,Cz,tZ⟩:=VX
 unfold yI pZ
 repeat' split
 all_goals simp[xE,Yo,Hn,Bw,Ho,C6,C9,ir,Cz,tZ]
theorem qo (q:Ky):xY q=true↔(q.kid.length≤16∧-65536≤q.alg∧q.alg≤65535∧
  ((q.kty=1∧(q.crv=4∨q.crv=6)∧(q.x.length=0∨q.x.length=32)∧(q.d.length=0∨q.d.length=32)∧0<q.x.length+q.d.length∧q.k.length=0)∨
   (q.kty=4∧q.crv=0∧q.x.length+q.d.length=0∧1≤q.k.length∧q.k.length≤64))):=by
 unfold xY YS
 split
 ·rename_i h1
  simp[h1,and_assoc]
 split
 ·rename_i h1 h4
  simp[h1,h4,and_assoc]
 rename_i h1 h4
 simp[h1,h4]
theorem VE (b:List UInt8) (lv:Nat):Good (n9 b) lv:=aQ 2 (.inl rfl) b lv (fun h=>by omega)
theorem kS (q:Ky) (lv:Nat):GoodL (yI q) lv:=by
 unfold yI pZ
 repeat' split
 all_goals simp[GoodL,tx,VE]
theorem qC (q:Ky):(yI q).length%2=0:=by
 unfold yI pZ
 repeat' split
 all_goals simp
theorem oz (q:Ky):2≤(yI q).length∧(yI q).length≤12:=by
 unfold yI pZ
 repeat' split
 all_goals simp
theorem Xg (q:Ky):Good (vW q) 0:=by
 refine Good.of ?_ (kS q 1) (fun _=>ol q)
 have h:=qC q;rw[y9,if_neg (by rw[zP];simp[vW,Itm.kind]),vl]
 simp[vW,Itm.kind,Itm.bytes,Itm.items,Itm.n,h]
def dy (x:Itm):Prop:=cnt x=1∧(zf x).length≤73
theorem wl (n:Int):dy (zr n):=by
 unfold zr
 split
 ·refine⟨by simp[cnt,xM], ?_⟩
  have h:=rb 1 (-1-n).toNat [] [] (by decide) (by decide)
  simp[zG]at h
  omega
 refine⟨by simp[cnt,xM], ?_⟩
 have h:=rb 0 n.toNat [] [] (by decide) (by decide)
 simp[zG]at h
 omega
theorem nL {b:List UInt8}(hb:b.length≤64):dy (n9 b):=by
 refine⟨by simp[n9,cnt,xM], ?_⟩
 have h:=rb 2 0 b [] (by decide) (by decide)
 simp[zG]at h
 simp only[n9]
 omega
theorem lD:∀ l:List Itm,(∀ x∈l,dy x)→xM l=l.length∧(zG l).length≤73*l.length
 | [],_=>by simp[xM,zG]
 | x::l,h=>by
  have h1:=h x (by simp);have h2:=lD l fun y hy=>h y (by simp[hy])
  simp only[xM,zG,List.length_cons,List.length_append]
  have:=h1.1;have:=h1.2
  omega
theorem kp {x:Itm}{n:Int}{b:List UInt8}(h:x∈pZ n b):x=zr n∨x=n9 b:=by
 unfold pZ at h
 split at h
 ·simpa using h
 simp at h
theorem jE {q:Ky}(h:xY q=true):∀ x∈yI q,dy x:=by
 have hv:=(qo q).mp h;have hx:q.x.length≤64:=by omega
 have hd:q.d.length≤64:=by omega
 have hk:q.k.length≤64:=by omega
 have hi:q.kid.length≤64:=by omega
 intro x hm
 unfold yI at hm
 simp only[List.mem_append]at hm
 rcases hm with ((hm | hm) | hm) | hm
 ·exact jdc
 ·rcases kp hm with rfl | rfl
  ·exact wl _
  exact nL hi
 ·split at hm
  ·simp at hm
  exact jdc
 split at hm
 ·rcases kp hm with rfl | rfl
  ·exact wl _
  exact nL hk
 simp only[List.mem_append]at hm
 rcases hm with (hm | hm) | hm
 ·exact jdc
 ·rcases kp hm with rfl | rfl
  ·exact wl _
  exact nL hx
 rcases kp hm with rfl | rfl
 ·exact wl _
 exact nL hd
theorem vB {q:Ky}(h:xY q=true):zR (vW q)=true:=by
 have hs:=lD (yI q) (jE h);have hl:=oz q
 refine(wj _).mpr ⟨Xg q, ?_, ?_⟩
 ·rw[oA];show xM (yI q)+1≤256
  omega
 have h2:=rb 5 0 [] (yI q) (by decide) (by decide)
 simp at h2
 show(zf (.mk 5 0 [] (yI q))).length≤4096
 omega
theorem mh {q:Ky}(h:xY q=true):∀ x∈yI q,zR x=true :=
 fun x hx=>uI (vB h) (show x∈(vW q).items from hx)
theorem TF {q:Ky}(h:xY q=true):(yI q).length%2=0∧xE (yI q)=true∧(∀ x∈yI q,zR x=true)∧zR (.mk 5 0 [] (yI q))=true :=
 ⟨qC q,ol q,mh h,vB h⟩
end Go.Proofs.YtgaoknihklmakabGreatDoor
namespace Go.Proofs.YtgaoknihklmakabGreatDoor
open Go.RowKit Go.Shelf
def Qh:Go.Shelf.Ren:=⟨fun | 6=>110 | 10=>129 | 11=>130 | 12=>131 | 13=>132 | 14=>133 | 24=>148 | 25=>149 | 26=>150 | 27=>151 | 28=>152 | 29=>153 | 30=>154 | 31=>155 | 32=>156 | 33=>157 | 34=>160 | 35=>161 | 36=>162 | 37=>163 | 38=>164 | 39=>168 | n=>n,
 fun | 0=>0 | 3=>3 | 4=>4 | 5=>5 | 9=>9 | 12=>12 | 17=>17 | 20=>20 | 26=>150 | 32=>170 | 33=>171 | 35=>173 | 37=>175 | 41=>75 | 44=>181 | 49=>160 | 51=>64 | 53=>192 | 54=>193 | 58=>125 | 60=>198 | 64=>121 | 66=>207 | 67=>208 | 75=>217 | 76=>218 | 77=>219 | 78=>220 | 79=>221 | 80=>222 | 82=>224 | n=>n,fun n=>n⟩
theorem gJ:LaysGg.n6 Tryz.prog Qh where
 mixed:=by kernel_rfl
 f6:=Tryz.func110.trans (congrArg some (by kernel_rfl))
 f10:=Tryz.func129.trans (congrArg some (by kernel_rfl))
 f11:=Tryz.func130.trans (congrArg some (by kernel_rfl))
 f12:=Tryz.func131.trans (congrArg some (by kernel_rfl))
 f13:=Tryz.func132.trans (congrArg some (by kernel_rfl))
 f14:=Tryz.func133.trans (congrArg some (by kernel_rfl))
 f24:=Tryz.func148.trans (congrArg some (by kernel_rfl))
 f25:=Tryz.func149.trans (congrArg some (by kernel_rfl))
 f26:=Tryz.func150.trans (congrArg some (by kernel_rfl))
 f27:=Tryz.func151.trans (congrArg some (by kernel_rfl))
 f28:=Tryz.func152.trans (congrArg some (by kernel_rfl))
 f29:=Tryz.func153.trans (congrArg some (by kernel_rfl))
 f30:=Tryz.func154.trans (congrArg some (by kernel_rfl))
 f31:=Tryz.func155.trans (congrArg some (by kernel_rfl))
 f32:=Tryz.func156.trans (congrArg some (by kernel_rfl))
 f33:=Tryz.func157.trans (congrArg some (by kernel_rfl))
 f34:=Tryz.func160.trans (congrArg some (by kernel_rfl))
 f35:=Tryz.func161.trans (congrArg some (by kernel_rfl))
 f36:=Tryz.func162.trans (congrArg some (by kernel_rfl))
 f37:=Tryz.func163.trans (congrArg some (by kernel_rfl))
 f38:=Tryz.func164.trans (congrArg some (by kernel_rfl))
 f39:=Tryz.func168.trans (congrArg some (by kernel_rfl))
 t0:=Tryz.underlying0
 a0:=Tryz.isAgg0
 z0:=Tryz.sizeOf0
 v0:=Tryz.zeroValue0
 i0:=by kernel_rfl
 t3:=Tryz.underlying3
 a3:=Tryz.isAgg3
 z3:=Tryz.sizeOf3
 v3:=Tryz.zeroValue3
 i3:=by kernel_rfl
 t4:=Tryz.underlying4
 a4:=Tryz.isAgg4
 z4:=Tryz.sizeOf4
 v4:=Tryz.zeroValue4
 i4:=by kernel_rfl
 t5:=Tryz.underlying5
 a5:=Tryz.isAgg5
 z5:=Tryz.sizeOf5
 v5:=Tryz.zeroValue5
 i5:=by kernel_rfl
 t9:=Tryz.underlying9
 a9:=Tryz.isAgg9
 z9:=Tryz.sizeOf9
 v9:=Tryz.zeroValue9
 i9:=by kernel_rfl
 t12:=Tryz.underlying12
 a12:=Tryz.isAgg12
 z12:=Tryz.sizeOf12
 v12:=Tryz.zeroValue12
 i12:=by kernel_rfl
 t17:=Tryz.underlying17
 a17:=Tryz.isAgg17
 z17:=Tryz.sizeOf17
 v17:=Tryz.zeroValue17
 i17:=by kernel_rfl
 t20:=Tryz.underlying20
 a20:=Tryz.isAgg20
 z20:=Tryz.sizeOf20
 v20:=Tryz.zeroValue20
 i20:=by kernel_rfl
 t26:=Tryz.underlying150
 a26:=Tryz.isAgg150
 z26:=Tryz.sizeOf150
 v26:=Tryz.zeroValue150
 i26:=by kernel_rfl
 t32:=Tryz.underlying170
 a32:=Tryz.isAgg170
 z32:=Tryz.sizeOf170
 v32:=Tryz.zeroValue170
 i32:=by kernel_rfl
 t33:=Tryz.underlying171
 a33:=Tryz.isAgg171
 z33:=Tryz.sizeOf171
 v33:=Tryz.zeroValue171
 i33:=by kernel_rfl
 t35:=Tryz.underlying173
 a35:=Tryz.isAgg173
 z35:=Tryz.sizeOf173
 v35:=Tryz.zeroValue173
 i35:=by kernel_rfl
 t37:=Tryz.underlying175
 a37:=Tryz.isAgg175
 z37:=Tryz.sizeOf175
 v37:=Tryz.zeroValue175
 i37:=by kernel_rfl
 t41:=Tryz.underlying75
 a41:=Tryz.isAgg75
 z41:=Tryz.sizeOf75
 v41:=Tryz.zeroValue75
 i41:=by kernel_rfl
 t44:=Tryz.underlying181
 a44:=Tryz.isAgg181
 z44:=Tryz.sizeOf181
 v44:=Tryz.zeroValue181
 i44:=by kernel_rfl
 t49:=Tryz.underlying160
 a49:=Tryz.isAgg160
 z49:=Tryz.sizeOf160
 v49:=Tryz.zeroValue160
 i49:=by kernel_rfl
 t51:=Tryz.underlying64
 a51:=Tryz.isAgg64
 z51:=Tryz.sizeOf64
 v51:=Tryz.zeroValue64
 i51:=by kernel_rfl
 t53:=Tryz.underlying192
 a53:=Tryz.isAgg192
 z53:=Tryz.sizeOf192
 v53:=Tryz.zeroValue192
 i53:=by kernel_rfl
 t54:=Tryz.underlying193
 a54:=Tryz.isAgg193
 z54:=Tryz.sizeOf193
 v54:=Tryz.zeroValue193
 i54:=by kernel_rfl
 t58:=Tryz.underlying125
 a58:=Tryz.isAgg125
 z58:=Tryz.sizeOf125
 v58:=Tryz.zeroValue125
 i58:=by kernel_rfl
 t60:=Tryz.underlying198
 a60:=Tryz.isAgg198
 z60:=Tryz.sizeOf198
 v60:=Tryz.zeroValue198
 i60:=by kernel_rfl
 t64:=Tryz.underlying121
 a64:=Tryz.isAgg121
 z64:=Tryz.sizeOf121
 v64:=Tryz.zeroValue121
 i64:=by kernel_rfl
 t66:=Tryz.underlying207
 a66:=Tryz.isAgg207
 z66:=Tryz.sizeOf207
 v66:=Tryz.zeroValue207
 i66:=by kernel_rfl
 t67:=Tryz.underlying208
 a67:=Tryz.isAgg208
 z67:=Tryz.sizeOf208
 v67:=Tryz.zeroValue208
 i67:=by kernel_rfl
 t75:=Tryz.underlying217
 a75:=Tryz.isAgg217
 z75:=Tryz.sizeOf217
 v75:=Tryz.zeroValue217
 i75:=by kernel_rfl
 t76:=Tryz.underlying218
 a76:=Tryz.isAgg218
 z76:=Tryz.sizeOf218
 v76:=Tryz.zeroValue218
 i76:=by kernel_rfl
 t77:=Tryz.underlying219
 a77:=Tryz.isAgg219
 z77:=Tryz.sizeOf219
 v77:=Tryz.zeroValue219
 i77:=by kernel_rfl
 t78:=Tryz.underlying220
 a78:=Tryz.isAgg220
 z78:=Tryz.sizeOf220
 v78:=Tryz.zeroValue220
 i78:=by kernel_rfl
 t79:=Tryz.underlying221
 a79:=Tryz.isAgg221
 z79:=Tryz.sizeOf221
 v79:=Tryz.zeroValue221
 i79:=by kernel_rfl
 t80:=Tryz.underlying222
 a80:=Tryz.isAgg222
 z80:=Tryz.sizeOf222
 v80:=Tryz.zeroValue222
 i80:=by kernel_rfl
 t82:=Tryz.underlying224
 a82:=Tryz.isAgg224
 z82:=Tryz.sizeOf224
 v82:=Tryz.zeroValue224
 i82:=by kernel_rfl
end Go.Proofs.YtgaoknihklmakabGreatDoor
namespace Go.Proofs.YtgaoknihklmakabGreatDoor
open Go.RowKit
structure PE (H:Snap) where
 A:Option Addr
 cc:Nat
 key:List UInt8
 rest:List Value
 len:rest.length=8
 one:∀ u∈rest,u.oneCell'=true
 is:IsBytes H A cc key
instance (H:Snap):Inhabited (PE H):=⟨⟨none,0,[],List.replicate 8 (.bool false),by simp,by simp[Value.oneCell'],IsBytes.nil H⟩⟩
def xU {H:Snap}(x:PE H):List Value:=.slice x.A x.key.length x.cc::x.rest
def bM {H:Snap}(a b:PE H):Bool:=decide (Lib.compareBytes a.key b.key<0)
theorem Xu {H:Snap}(blk off c Bs size:Nat) (W:World) (hW:Holds W H) (G:Nat→PE H) (hs:W.cell? ⟨Bs,0,none⟩=some (.slice (some ⟨blk,off,none⟩) size c))
  (hc:∀ t,t<size→W.cell? ⟨blk,off+t*9,none⟩=some (.slice (G t).A (G t).key.length (G t).cc)) (i j:Nat) (hi:i<size) (hj:j<size) :
  Calls Tryz.prog 111 #[.int .i64 i,.int .i64 j,.pointer (some ⟨Bs,0,none⟩)] W fun e w'=>e=.returned (.bool (bM (G i) (G j)))∧∃ q,w'=W.drewN q:=by
 have ci:=hc i hi;have cj:=hc j hj;have si:=Src.of_row (G i).is.row hW;have sj:=Src.of_row (G j).is.row hW;have hiI:(i:Int)<size:=by omega
 have AF:(j:Int)<size:=by omega
 have E:Hid (bM (G i) (G j)=decide (Lib.compareBytes (G i).key (G j).key<0)):=rfl;obtain⟨x,hx⟩:∃ x,G i=x:=⟨_,rfl⟩
 obtain⟨y,hy⟩:∃ y,G j=y:=⟨_,rfl⟩
 rw[hx]at ci si E⊢;rw[hy]at cj sj E⊢;rw[E.out];have CMP:True:=trivial;have SX:=si;have SY:=sj;clear hc hx hy si sj E hW CMP;have HB:=Hh (And.intro hi hj);go_enter Tryz.func111,Tryz.ntmps111
 go_upto_region 1 with fail
 refine zX 12 (fun wx=>wx.cell? ⟨Bs,0,none⟩=some (.slice (some ⟨blk,off,none⟩) size c)∧wx.cell? ⟨blk,off+i*9,none⟩=some (.slice x.A x.key.length x.cc)∧wx.cell? ⟨blk,off+j*9,none⟩=some (.slice y.A y.key.length y.cc)) (by kernel_rfl) (⟨hs,ci,cj⟩) (fun zy=>?_)
 refine Zk 0 rfl zy ?_
 refine Zk 1 rfl zy ?_
 refine Zk 2 rfl zy ?_
 refine Zk 3 rfl zy ?_
 refine Zk 4 rfl zy ?_
 refine Zk 5 rfl zy ?_
 refine Zk 6 rfl zy ?_
 refine Zk 7 rfl zy ?_
 refine Zk 8 rfl zy ?_
 refine Zk 9 rfl zy ?_
 refine Zo 10 rfl fun K hK=>?_
 go_simp
 refine(show Calls Tryz.prog 91 #[.slice x.A x.key.length x.cc,.slice y.A y.key.length y.cc] W.drew fun e w'=>e=.returned (.int .i64 (Lib.compareBytes x.key y.key))∧W.drew=w' from rq W.drew x.A y.A x.key y.key x.key.length y.key.length x.cc y.cc rfl rfl SX SY).mono ?_
 rintro e w3 ⟨rfl,rfl⟩
 refine Ko hK ?_ fun zy=>?_
 ·exact⟨hs,ci,cj⟩
 clear hK K
 refine Zk 11 rfl zy ?_
 refine Zo 12 rfl fun K hK=>?_
 go_simp
 refine Kz hK ?_
 clear hK K
 refine WaysZ.done (by kernel_rfl) ?_
 clear zy;go_wp2_with fail
 go_ret
 exact⟨rfl,1,rfl⟩
end Go.Proofs.YtgaoknihklmakabGreatDoor
namespace Go.Proofs.YtgaoknihklmakabGreatDoor
open Go.RowKit Go.Shelf Go.Lib
noncomputable def pairTI:TypeInfo:=(Tryz.prog.info? 146).get (by kernel_rfl)
noncomputable def pairEI:TypeInfo:=(Tryz.prog.info? 148).get (by kernel_rfl)
theorem Nq (n:Nat) (h2:2≤n):Lib.swapperK n pairEI 25=9:=by
 have a:pairEI.hasPointers=true:=by kernel_rfl
 have b:(pairEI.bytes==8)=false:=by kernel_rfl
 have c:(n==0)=false:=by simp;omega
 have d:(n==1)=false:=by simp;omega
 simp[Lib.swapperK,a,b,c,d]
theorem VB {H:Snap}(x:PE H):(xU x).length=9:=by simp[xU,x.len]
end Go.Proofs.YtgaoknihklmakabGreatDoor
