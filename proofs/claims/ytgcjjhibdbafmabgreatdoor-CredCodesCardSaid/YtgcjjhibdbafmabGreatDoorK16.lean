/- squeezed. Walks: the pairs of a key, by the  -/
import Derived.Test.YtgcjjhibdbafmabGreatDoorK15
import Derived.Shelf.GgSortFunc.SmallK
set_option linter.unusedVariables false
set_option linter.unusedSimpArgs false
set_option maxRecDepth 100000
set_option maxHeartbeats 25600000
namespace Go.Proofs.YtgcjjhibdbafmabGreatDoor
open Go.RowKit
def RSt (W0:World) (H:Snap) (kc:Array Value) (v:Value) (L:List Itm) (w:World):Prop:=∃ Hr A m c,v=.slice A m c∧m=L.length∧RS W0 H kc (.slice A m c) L w Hr
theorem RSt.key {W0 w:World}{H:Snap}{kc:Array Value}{v:Value}{L:List Itm}(h:RSt W0 H kc v L w):Blk w W0.heap.size 24 kc:=by
 obtain⟨Hr,A,m,c,_,_,hP⟩:=h
 exact hP.key
theorem dF {H:Snap}(t v g:Int) (ht : -9223372036854775808≤t∧t≤9223372036854775807) (hv : -9223372036854775808≤v∧v≤9223372036854775807) (hg : -9223372036854775808≤g∧g≤9223372036854775807)
  {Ai:Option Addr} {ci:Nat} {kid:List UInt8} (hi:IsBytes H Ai ci kid) {Ax:Option Addr} {cx:Nat} {x:List UInt8} (hx:IsBytes H Ax cx x)
  {Ad:Option Addr} {cd:Nat} {d:List UInt8} (hd:IsBytes H Ad cd d) {Ak:Option Addr} {ck:Nat} {k:List UInt8} (hk:IsBytes H Ak ck k)
  (hl:kid.length≤64∧x.length≤64∧d.length≤64∧k.length≤64) (VE:t=4→0<k.length) (w:World) (hH:Holds w H) :
  Calls Tryz.prog 63 #[.agg (un t v g Ai kid.length ci Ax x.length cx Ad d.length cd Ak k.length ck)] w (dS w H (rO t v g kid x d k)):=by
 have hP:=RS.nil ((Grows.refl hH).alloc (.cells (un t v g Ai kid.length ci Ax x.length cx Ad d.length cd Ak k.length ck) 24)) (hH.none_of_ge (Nat.le_refl _)) (Blk.new w 24 (un t v g Ai kid.length ci Ax x.length cx Ad d.length cd Ak k.length ck));have KC:Hid ((un t v g Ai kid.length ci Ax x.length cx Ad d.length cd Ak k.length ck)=#[.int .i64 t,.int .i64 v,.int .i64 g,.slice Ai kid.length ci,.slice Ax x.length cx,.slice Ad d.length cd,.slice Ak k.length ck]):=rfl;have D:=Hh (And.intro ht (And.intro hv hg));have B1:=Hh (And.intro hi (And.intro hx (And.intro hd hk)));have BL:=Hh hl;have K4:=Hh VE;clear hi hx hd hk hl ht hv hg hH VE;go_enter Tryz.func63,Tryz.ntmps63
 go_upto_region 1 with fail
 go_cut [3] (fun s3 wx=>RSt w H (un t v g Ai kid.length ci Ax x.length cx Ad d.length cd Ak k.length ck) s3 [zt 1,zt t] wx)
 case first =>
  obtain⟨W1,bm⟩:∃ W1,w.alloc (.cells (un t v g Ai kid.length ci Ax x.length cx Ad d.length cd Ak k.length ck) 24)=W1:=⟨_,rfl⟩
  rw[bm]at hP⊢;clear bm;have c0:=hP.key.cell 0 rfl;replace hP:=hP.drew
  refine zO 5 (fun wx=>wx.cell? ⟨w.heap.size,0,none⟩=some (.int .i64 t)) (by kernel_rfl) (c0) (fun zy=>?_)
  refine Zk 1 rfl zy ?_
  refine Zk 2 rfl zy ?_
  refine Zo 0 rfl fun K hK=>?_
  go_simp
  refine(ve (1) (by omega) (by omega) _ hP.grows.holds).mono ?_
  rintro e w3 ⟨v1,rfl,xa1,xb1,xc1,xd1,H1,rfl,xE,vy⟩
  have hP:=hP.grow xE
  refine Ko hK ?_ fun zy=>?_
  ·exact hP.key.cell 0 rfl
  clear hK K
  refine Zo 3 rfl fun K hK=>?_
  go_simp
  refine(ve t D.out.1.1 D.out.1.2 _ hP.grows.holds).mono ?_
  rintro e w4 ⟨v2,rfl,xa2,xb2,xc2,xd2,H2,rfl,yq,sY⟩
  have hP:=hP.grow yq;have vy:=vy.mono yq.le
  refine Ko hK ?_ fun zy=>?_
  ·exact hP.key.cell 0 rfl
  clear hK K
  refine Zo 4 rfl fun K hK=>?_
  go_simp
  have hP:=hP.litR ((ItemsC.one vy).app (ItemsC.one sY)) (by simp)
  refine Ko hK ?_ fun zy=>?_
  ·exact hP.key.cell 0 rfl
  clear hK K
  refine Zo 5 rfl fun K hK=>?_
  go_simp
  refine Kz hK ?_
  clear hK K
  refine WaysZ.done (by kernel_rfl) ?_
  clear zy;go_wp2_with fail
  go_meet
  exact⟨_,_,_,_,rfl,rfl,hP⟩
 case rest =>
 clear hP;have hS:=hcut;clear hcut;have tw:Hid (([zt 1,zt t]:List Itm).length≤1000):=by rw[Hid];simp
 have c3:=hS.key.cell 3 rfl;go_upto_if 12 with fail
 go_cut [3] (fun s3 wx=>RSt w H (un t v g Ai kid.length ci Ax x.length cx Ad d.length cd Ak k.length ck) s3 ([zt 1,zt t]++xU 2 kid) wx)
 case first =>
  by_cases h0:0<kid.length
  case neg =>
   have E:Hid (([zt 1,zt t]++xU 2 kid)=[zt 1,zt t]):=by rw[Hid,show xU (2) kid=[] from if_neg h0,List.append_nil]
   have uq:¬ (0:Int)<(kid.length:Int):=by omega
   have qn:decide ((0:Int)<(kid.length:Int))=false:=decide_eq_false uq;have mJ:decide (0<kid.length)=false:=decide_eq_false h0;clear h0;have HS:=Hh hS;clear hS;go_wp2_with fail
   go_meet
   rw[E.out]
   exact HS.out
  have uq:(0:Int)<(kid.length:Int):=by omega
  have qn:decide ((0:Int)<(kid.length:Int))=true:=decide_eq_true uq;have mJ:decide (0<kid.length)=true:=decide_eq_true h0;have E:Hid (([zt 1,zt t]++xU 2 kid)=[zt 1,zt t]++[zt (2),oW kid]):=by rw[Hid,show xU (2) kid=[zt (2),oW kid] from if_pos h0]
  clear h0;have tw:=tw;obtain⟨LL,tc⟩:∃ LL,[zt 1,zt t]=LL:=⟨_,rfl⟩
  rw[tc]at hS tw;have mL:=Hh tc;clear tc;obtain⟨Hr,VA,m,vc,rfl,hm,hP⟩:=hS;have HL:=Hh (And.intro hm tw.out);clear hm;go_upto_region 3 with fail
  have c3:=hP.key.cell 3 rfl;replace hP:=hP.drew
  refine zO 6 (fun wx=>wx.cell? ⟨w.heap.size,3,none⟩=some (.slice Ai kid.length ci)) (by kernel_rfl) (c3) (fun zy=>?_)
  refine Zk 0 rfl zy ?_
  refine Zk 2 rfl zy ?_
  refine Zk 3 rfl zy ?_
  refine Zo 1 rfl fun K hK=>?_
  go_simp
  refine(ve (2) (by omega) (by omega) _ hP.grows.holds).mono ?_
  rintro e w3 ⟨v1,rfl,xa1,xb1,xc1,xd1,H1,rfl,xE,vy⟩
  have hP:=hP.grow xE
  refine Ko hK ?_ fun zy=>?_
  ·exact hP.key.cell 3 rfl
  clear hK K
  refine Zo 4 rfl fun K hK=>?_
  go_simp
  refine(pE rfl (by have:=BL.out;omega) _ (Src.of_row (B1.out.1.row.mono hP.grows.le) hP.grows.holds) hP.grows.holds).mono ?_
  rintro e w4 ⟨v2,rfl,xa2,xb2,xc2,xd2,H2,rfl,yq,sY⟩
  have hP:=hP.grow yq;have vy:=vy.mono yq.le
  refine Ko hK ?_ fun zy=>?_
  ·exact hP.key.cell 3 rfl
  clear hK K
  refine Zo 5 rfl fun K hK=>?_
  go_simp
  have hZ:=hP.litZ (zY (zt (2)) xa1 xb1 xc1 xd1++zY (.mk 2 0 kid []) xa2 xb2 xc2 xd2).toArray 57;have hP:=hP.alloc (.cells (zY (zt (2)) xa1 xb1 xc1 xd1++zY (.mk 2 0 kid []) xa2 xb2 xc2 xd2).toArray 57)
  refine Ko hK ?_ fun zy=>?_
  ·exact hP.key.cell 3 rfl
  clear hK K
  refine Zo 6 rfl fun K hK=>?_
  rw[if_pos (by rfl)]
  refine zA _ _ rfl _ _ _ _ rfl hP.own _ _ _ _ [_,_] rfl rfl ((ItemsC.one vy).app (ItemsC.one sY)) hZ (by have:=HL.out;simp;omega) hP.base fun v7 w7 hown7 hg7 hat7=>?_
  have hP:=hP.app hown7 hg7 hat7;obtain⟨A7,c7,rfl,_⟩:=hown7.form;obtain⟨m7,sa⟩:∃ m7,(LL++[zt (2),.mk 2 0 kid []]).length=m7:=⟨_,rfl⟩
  rw[sa]at hP⊢;have kT:=Hh sa;clear hown7 hg7 hat7 hZ sa
  refine Kz hK ?_
  clear hK K
  refine ZkT 7 rfl (fun h=>absurd h (by decide)) ?_
  refine WaysZ.done (by kernel_rfl) ?_
  clear zy;go_wp2_with fail
  go_meet
  exact(by rw[E.out,mL.out];exact⟨_,_,_,_,rfl,kT.out.symm,hP⟩)
 case rest =>
 clear hS c3;have hS:=hcut;clear hcut;have tw:Hid (([zt 1,zt t]++xU 2 kid).length≤1000):=by have:=pb 2 kid;rw[Hid];simp;omega
 have c2:=hS.key.cell 2 rfl;go_upto_if 22 with fail
 go_cut [3] (fun s3 wx=>RSt w H (un t v g Ai kid.length ci Ax x.length cx Ad d.length cd Ak k.length ck) s3 (xt t g kid) wx)
 case first =>
  by_cases h0:g=0
  case pos =>
   have E:Hid ((xt t g kid)=([zt 1,zt t]++xU 2 kid)):=by rw[Hid,xt,if_pos h0,List.append_nil]
   subst h0;have HS:=Hh hS;clear hS;go_wp2_with fail
   go_meet
   rw[E.out]
   exact HS.out
  have b1:(g != 0)=true:=by simp[h0]
  have p1:(g=0)=False:=eq_false h0;have E:Hid ((xt t g kid)=([zt 1,zt t]++xU 2 kid)++[zt 3,zt g]):=by rw[Hid,xt,if_neg h0]
  clear h0;have tw:=tw;obtain⟨LL,tc⟩:∃ LL,([zt 1,zt t]++xU 2 kid)=LL:=⟨_,rfl⟩
  rw[tc]at hS tw;have mL:=Hh tc;clear tc;obtain⟨Hr,VA,m,vc,rfl,hm,hP⟩:=hS;have HL:=Hh (And.intro hm tw.out);clear hm;go_upto_region 5 with fail
  have c2:=hP.key.cell 2 rfl;replace hP:=hP.drew
  refine zO 6 (fun wx=>wx.cell? ⟨w.heap.size,2,none⟩=some (.int .i64 g)) (by kernel_rfl) (c2) (fun zy=>?_)
  refine Zk 0 rfl zy ?_
  refine Zk 2 rfl zy ?_
  refine Zk 3 rfl zy ?_
  refine Zo 1 rfl fun K hK=>?_
  go_simp
  refine(ve (3) (by omega) (by omega) _ hP.grows.holds).mono ?_
  rintro e w3 ⟨v1,rfl,xa1,xb1,xc1,xd1,H1,rfl,xE,vy⟩
  have hP:=hP.grow xE
  refine Ko hK ?_ fun zy=>?_
  ·exact hP.key.cell 2 rfl
  clear hK K
  refine Zo 4 rfl fun K hK=>?_
  go_simp
  refine(ve g D.out.2.2.1 D.out.2.2.2 _ hP.grows.holds).mono ?_
  rintro e w4 ⟨v2,rfl,xa2,xb2,xc2,xd2,H2,rfl,yq,sY⟩
  have hP:=hP.grow yq;have vy:=vy.mono yq.le
  refine Ko hK ?_ fun zy=>?_
  ·exact hP.key.cell 2 rfl
  clear hK K
  refine Zo 5 rfl fun K hK=>?_
  go_simp
  have hZ:=hP.litZ (zY (zt (3)) xa1 xb1 xc1 xd1++zY (zt g) xa2 xb2 xc2 xd2).toArray 57;have hP:=hP.alloc (.cells (zY (zt (3)) xa1 xb1 xc1 xd1++zY (zt g) xa2 xb2 xc2 xd2).toArray 57)
  refine Ko hK ?_ fun zy=>?_
  ·exact hP.key.cell 2 rfl
  clear hK K
  refine Zo 6 rfl fun K hK=>?_
  rw[if_pos (by rfl)]
  refine zA _ _ rfl _ _ _ _ rfl hP.own _ _ _ _ [_,_] rfl rfl ((ItemsC.one vy).app (ItemsC.one sY)) hZ (by have:=HL.out;simp;omega) hP.base fun v7 w7 hown7 hg7 hat7=>?_
  have hP:=hP.app hown7 hg7 hat7;obtain⟨A7,c7,rfl,_⟩:=hown7.form;obtain⟨m7,sa⟩:∃ m7,(LL++[zt (3),zt g]).length=m7:=⟨_,rfl⟩
  rw[sa]at hP⊢;have kT:=Hh sa;clear hown7 hg7 hat7 hZ sa
  refine Kz hK ?_
  clear hK K
  refine ZkT 7 rfl (fun h=>absurd h (by decide)) ?_
  refine WaysZ.done (by kernel_rfl) ?_
  clear zy;go_wp2_with fail
  go_meet
  exact(by rw[E.out,mL.out];exact⟨_,_,_,_,rfl,kT.out.symm,hP⟩)
 case rest =>
 clear hS c2;have hS:=hcut;clear hcut;have tw:Hid ((xt t g kid).length≤1000):=by have:=qU t g kid;rw[Hid];omega
 have c0:=hS.key.cell 0 rfl
 by_cases fw:t=4
 case pos =>
  subst fw;have Hb:=Hh (K4.out rfl);have E:Hid (rO 4 v g kid x d k=xt 4 g kid++[zt (-1),oW k]):=by rw[Hid,rO,if_pos rfl,xU,if_pos Hb.out]
  clear K4;obtain⟨LL,tc⟩:∃ LL,(xt 4 g kid)=LL:=⟨_,rfl⟩
  rw[tc]at hS tw;have mL:=Hh tc;clear tc;obtain⟨Hr,VA,m,vc,rfl,hm,hP⟩:=hS;have HL:=Hh (And.intro hm tw.out);clear hm;go_upto_region 7 with fail
  have c6:=hP.key.cell 6 rfl;replace hP:=hP.drew
  refine zO 6 (fun wx=>wx.cell? ⟨w.heap.size,6,none⟩=some (.slice Ak k.length ck)) (by kernel_rfl) (c6) (fun zy=>?_)
  refine Zk 0 rfl zy ?_
  refine Zk 2 rfl zy ?_
  refine Zk 3 rfl zy ?_
  refine Zo 1 rfl fun K hK=>?_
  go_simp
  refine(ve (-1) (by omega) (by omega) _ hP.grows.holds).mono ?_
  rintro e w3 ⟨v1,rfl,xa1,xb1,xc1,xd1,H1,rfl,xE,vy⟩
  have hP:=hP.grow xE
  refine Ko hK ?_ fun zy=>?_
  ·exact hP.key.cell 6 rfl
  clear hK K
  refine Zo 4 rfl fun K hK=>?_
  go_simp
  refine(pE rfl (by have:=BL.out;omega) _ (Src.of_row (B1.out.2.2.2.row.mono hP.grows.le) hP.grows.holds) hP.grows.holds).mono ?_
  rintro e w4 ⟨v2,rfl,xa2,xb2,xc2,xd2,H2,rfl,yq,sY⟩
  have hP:=hP.grow yq;have vy:=vy.mono yq.le
  refine Ko hK ?_ fun zy=>?_
  ·exact hP.key.cell 6 rfl
  clear hK K
  refine Zo 5 rfl fun K hK=>?_
  go_simp
  have hZ:=hP.litZ (zY (zt (-1)) xa1 xb1 xc1 xd1++zY (.mk 2 0 k []) xa2 xb2 xc2 xd2).toArray 57;have hP:=hP.alloc (.cells (zY (zt (-1)) xa1 xb1 xc1 xd1++zY (.mk 2 0 k []) xa2 xb2 xc2 xd2).toArray 57)
  refine Ko hK ?_ fun zy=>?_
  ·exact hP.key.cell 6 rfl
  clear hK K
  refine Zo 6 rfl fun K hK=>?_
  rw[if_pos (by rfl)]
  refine zA _ _ rfl _ _ _ _ rfl hP.own _ _ _ _ [_,_] rfl rfl ((ItemsC.one vy).app (ItemsC.one sY)) hZ (by have:=HL.out;simp;omega) hP.base fun v7 w7 hown7 hg7 hat7=>?_
  have hP:=hP.app hown7 hg7 hat7;obtain⟨A7,c7,rfl,_⟩:=hown7.form;obtain⟨m7,sa⟩:∃ m7,(LL++[zt (-1),.mk 2 0 k []]).length=m7:=⟨_,rfl⟩
  rw[sa]at hP⊢;have kT:=Hh sa;clear hown7 hg7 hat7 hZ sa
  refine Kz hK ?_
  clear hK K
  refine ZkT 7 rfl (fun h=>absurd h (by decide)) ?_
  refine WaysZ.done (by kernel_rfl) ?_
  clear zy;go_wp2_with fail
  go_ret
  exact⟨_,rfl,by rw[E.out,mL.out];exact hP.out⟩
 have b4:(t==4)=false:=by rw[beq_eq_false_iff_ne];exact fw
 have p4:(t=4)=False:=eq_false fw;have EL:Hid (rO t v g kid x d k=xt t g kid++([zt (-1),zt v]++xU (-2) x++xU (-4) d)):=by rw[Hid,rO,if_neg fw]
 have JV:Hid ((xt t g kid).length≤6):=qU t g kid;clear fw K4;go_upto_region 8 with fail
 clear c0;go_cut [3] (fun s3 wx=>RSt w H (un t v g Ai kid.length ci Ax x.length cx Ad d.length cd Ak k.length ck) s3 (xt t g kid++[zt (-1),zt v]) wx)
 case first =>
  obtain⟨LL,tc⟩:∃ LL,(xt t g kid)=LL:=⟨_,rfl⟩
  rw[tc]at hS tw;have mL:=Hh tc;clear tc;obtain⟨Hr,VA,m,vc,rfl,hm,hP⟩:=hS;have HL:=Hh (And.intro hm tw.out);clear hm;have c1:=hP.key.cell 1 rfl;replace hP:=hP.drew
  refine zO 6 (fun wx=>wx.cell? ⟨w.heap.size,1,none⟩=some (.int .i64 v)) (by kernel_rfl) (c1) (fun zy=>?_)
  refine Zk 0 rfl zy ?_
  refine Zk 2 rfl zy ?_
  refine Zk 3 rfl zy ?_
  refine Zo 1 rfl fun K hK=>?_
  go_simp
  refine(ve (-1) (by omega) (by omega) _ hP.grows.holds).mono ?_
  rintro e w3 ⟨v1,rfl,xa1,xb1,xc1,xd1,H1,rfl,xE,vy⟩
  have hP:=hP.grow xE
  refine Ko hK ?_ fun zy=>?_
  ·exact hP.key.cell 1 rfl
  clear hK K
  refine Zo 4 rfl fun K hK=>?_
  go_simp
  refine(ve v D.out.2.1.1 D.out.2.1.2 _ hP.grows.holds).mono ?_
  rintro e w4 ⟨v2,rfl,xa2,xb2,xc2,xd2,H2,rfl,yq,sY⟩
  have hP:=hP.grow yq;have vy:=vy.mono yq.le
  refine Ko hK ?_ fun zy=>?_
  ·exact hP.key.cell 1 rfl
  clear hK K
  refine Zo 5 rfl fun K hK=>?_
  go_simp
  have hZ:=hP.litZ (zY (zt (-1)) xa1 xb1 xc1 xd1++zY (zt v) xa2 xb2 xc2 xd2).toArray 57;have hP:=hP.alloc (.cells (zY (zt (-1)) xa1 xb1 xc1 xd1++zY (zt v) xa2 xb2 xc2 xd2).toArray 57)
  refine Ko hK ?_ fun zy=>?_
  ·exact hP.key.cell 1 rfl
  clear hK K
  refine Zo 6 rfl fun K hK=>?_
  rw[if_pos (by rfl)]
  refine zA _ _ rfl _ _ _ _ rfl hP.own _ _ _ _ [_,_] rfl rfl ((ItemsC.one vy).app (ItemsC.one sY)) hZ (by have:=HL.out;simp;omega) hP.base fun v7 w7 hown7 hg7 hat7=>?_
  have hP:=hP.app hown7 hg7 hat7;obtain⟨A7,c7,rfl,_⟩:=hown7.form;obtain⟨m7,sa⟩:∃ m7,(LL++[zt (-1),zt v]).length=m7:=⟨_,rfl⟩
  rw[sa]at hP⊢;have kT:=Hh sa;clear hown7 hg7 hat7 hZ sa
  refine Kz hK ?_
  clear hK K
  refine ZkT 7 rfl (fun h=>absurd h (by decide)) ?_
  refine WaysZ.done (by kernel_rfl) ?_
  clear zy;go_wp2_with fail
  go_meet
  exact(by rw[mL.out];exact⟨_,_,_,_,rfl,kT.out.symm,hP⟩)
 case rest =>
 clear hS tw;have hS:=hcut;clear hcut;have tw:Hid ((xt t g kid++[zt (-1),zt v]).length≤1000):=by have:=JV.out;rw[Hid];simp;omega
 have c4:=hS.key.cell 4 rfl;go_upto_if 50 with fail
 go_cut [3] (fun s3 wx=>RSt w H (un t v g Ai kid.length ci Ax x.length cx Ad d.length cd Ak k.length ck) s3 (xt t g kid++[zt (-1),zt v]++xU (-2) x) wx)
 case first =>
  by_cases h0:0<x.length
  case neg =>
   have E:Hid ((xt t g kid++[zt (-1),zt v]++xU (-2) x)=(xt t g kid++[zt (-1),zt v])):=by rw[Hid,show xU (-2) x=[] from if_neg h0,List.append_nil]
   have uq:¬ (0:Int)<(x.length:Int):=by omega
   have qn:decide ((0:Int)<(x.length:Int))=false:=decide_eq_false uq;have mJ:decide (0<x.length)=false:=decide_eq_false h0;clear h0;have HS:=Hh hS;clear hS;go_wp2_with fail
   go_meet
   rw[E.out]
   exact HS.out
  have uq:(0:Int)<(x.length:Int):=by omega
  have qn:decide ((0:Int)<(x.length:Int))=true:=decide_eq_true uq;have mJ:decide (0<x.length)=true:=decide_eq_true h0;have E:Hid ((xt t g kid++[zt (-1),zt v]++xU (-2) x)=(xt t g kid++[zt (-1),zt v])++[zt (-2),oW x]):=by rw[Hid,show xU (-2) x=[zt (-2),oW x] from if_pos h0]
  clear h0;have tw:=tw;obtain⟨LL,tc⟩:∃ LL,(xt t g kid++[zt (-1),zt v])=LL:=⟨_,rfl⟩
  rw[tc]at hS tw;have mL:=Hh tc;clear tc;obtain⟨Hr,VA,m,vc,rfl,hm,hP⟩:=hS;have HL:=Hh (And.intro hm tw.out);clear hm;go_upto_region 10 with fail
  have c4:=hP.key.cell 4 rfl;replace hP:=hP.drew
  refine zO 6 (fun wx=>wx.cell? ⟨w.heap.size,4,none⟩=some (.slice Ax x.length cx)) (by kernel_rfl) (c4) (fun zy=>?_)
  refine Zk 0 rfl zy ?_
  refine Zk 2 rfl zy ?_
  refine Zk 3 rfl zy ?_
  refine Zo 1 rfl fun K hK=>?_
  go_simp
  refine(ve (-2) (by omega) (by omega) _ hP.grows.holds).mono ?_
  rintro e w3 ⟨v1,rfl,xa1,xb1,xc1,xd1,H1,rfl,xE,vy⟩
  have hP:=hP.grow xE
  refine Ko hK ?_ fun zy=>?_
  ·exact hP.key.cell 4 rfl
  clear hK K
  refine Zo 4 rfl fun K hK=>?_
  go_simp
  refine(pE rfl (by have:=BL.out;omega) _ (Src.of_row (B1.out.2.1.row.mono hP.grows.le) hP.grows.holds) hP.grows.holds).mono ?_
  rintro e w4 ⟨v2,rfl,xa2,xb2,xc2,xd2,H2,rfl,yq,sY⟩
  have hP:=hP.grow yq;have vy:=vy.mono yq.le
  refine Ko hK ?_ fun zy=>?_
  ·exact hP.key.cell 4 rfl
  clear hK K
  refine Zo 5 rfl fun K hK=>?_
  go_simp
  have hZ:=hP.litZ (zY (zt (-2)) xa1 xb1 xc1 xd1++zY (.mk 2 0 x []) xa2 xb2 xc2 xd2).toArray 57;have hP:=hP.alloc (.cells (zY (zt (-2)) xa1 xb1 xc1 xd1++zY (.mk 2 0 x []) xa2 xb2 xc2 xd2).toArray 57)
  refine Ko hK ?_ fun zy=>?_
  ·exact hP.key.cell 4 rfl
  clear hK K
  refine Zo 6 rfl fun K hK=>?_
  rw[if_pos (by rfl)]
  refine zA _ _ rfl _ _ _ _ rfl hP.own _ _ _ _ [_,_] rfl rfl ((ItemsC.one vy).app (ItemsC.one sY)) hZ (by have:=HL.out;simp;omega) hP.base fun v7 w7 hown7 hg7 hat7=>?_
  have hP:=hP.app hown7 hg7 hat7;obtain⟨A7,c7,rfl,_⟩:=hown7.form;obtain⟨m7,sa⟩:∃ m7,(LL++[zt (-2),.mk 2 0 x []]).length=m7:=⟨_,rfl⟩
  rw[sa]at hP⊢;have kT:=Hh sa;clear hown7 hg7 hat7 hZ sa
  refine Kz hK ?_
  clear hK K
  refine ZkT 7 rfl (fun h=>absurd h (by decide)) ?_
  refine WaysZ.done (by kernel_rfl) ?_
  clear zy;go_wp2_with fail
  go_meet
  exact(by rw[E.out,mL.out];exact⟨_,_,_,_,rfl,kT.out.symm,hP⟩)
 case rest =>
 clear hS c4;have hS:=hcut;clear hcut;have tw:Hid ((xt t g kid++[zt (-1),zt v]++xU (-2) x).length≤1000):=by have:=JV.out;have:=pb (-2) x;rw[Hid];simp;omega
 have c5:=hS.key.cell 5 rfl;go_upto_if 61 with fail
 go_cut [3] (fun s3 wx=>RSt w H (un t v g Ai kid.length ci Ax x.length cx Ad d.length cd Ak k.length ck) s3 (xt t g kid++[zt (-1),zt v]++xU (-2) x++xU (-4) d) wx)
 case first =>
  by_cases h0:0<d.length
  case neg =>
   have E:Hid ((xt t g kid++[zt (-1),zt v]++xU (-2) x++xU (-4) d)=(xt t g kid++[zt (-1),zt v]++xU (-2) x)):=by rw[Hid,show xU (-4) d=[] from if_neg h0,List.append_nil]
   have uq:¬ (0:Int)<(d.length:Int):=by omega
   have qn:decide ((0:Int)<(d.length:Int))=false:=decide_eq_false uq;have mJ:decide (0<d.length)=false:=decide_eq_false h0;clear h0;have HS:=Hh hS;clear hS;go_wp2_with fail
   go_meet
   rw[E.out]
   exact HS.out
  have uq:(0:Int)<(d.length:Int):=by omega
  have qn:decide ((0:Int)<(d.length:Int))=true:=decide_eq_true uq;have mJ:decide (0<d.length)=true:=decide_eq_true h0;have E:Hid ((xt t g kid++[zt (-1),zt v]++xU (-2) x++xU (-4) d)=(xt t g kid++[zt (-1),zt v]++xU (-2) x)++[zt (-4),oW d]):=by rw[Hid,show xU (-4) d=[zt (-4),oW d] from if_pos h0]
  clear h0;have tw:=tw;obtain⟨LL,tc⟩:∃ LL,(xt t g kid++[zt (-1),zt v]++xU (-2) x)=LL:=⟨_,rfl⟩
  rw[tc]at hS tw;have mL:=Hh tc;clear tc;obtain⟨Hr,VA,m,vc,rfl,hm,hP⟩:=hS;have HL:=Hh (And.intro hm tw.out);clear hm;go_upto_region 12 with fail
  have c5:=hP.key.cell 5 rfl;replace hP:=hP.drew
  refine zO 6 (fun wx=>wx.cell? ⟨w.heap.size,5,none⟩=some (.slice Ad d.length cd)) (by kernel_rfl) (c5) (fun zy=>?_)
  refine Zk 0 rfl zy ?_
  refine Zk 2 rfl zy ?_
  refine Zk 3 rfl zy ?_
  refine Zo 1 rfl fun K hK=>?_
  go_simp
  refine(ve (-4) (by omega) (by omega) _ hP.grows.holds).mono ?_
  rintro e w3 ⟨v1,rfl,xa1,xb1,xc1,xd1,H1,rfl,xE,vy⟩
  have hP:=hP.grow xE
  refine Ko hK ?_ fun zy=>?_
  ·exact hP.key.cell 5 rfl
  clear hK K
  refine Zo 4 rfl fun K hK=>?_
  go_simp
  refine(pE rfl (by have:=BL.out;omega) _ (Src.of_row (B1.out.2.2.1.row.mono hP.grows.le) hP.grows.holds) hP.grows.holds).mono ?_
  rintro e w4 ⟨v2,rfl,xa2,xb2,xc2,xd2,H2,rfl,yq,sY⟩
  have hP:=hP.grow yq;have vy:=vy.mono yq.le
  refine Ko hK ?_ fun zy=>?_
  ·exact hP.key.cell 5 rfl
  clear hK K
  refine Zo 5 rfl fun K hK=>?_
  go_simp
  have hZ:=hP.litZ (zY (zt (-4)) xa1 xb1 xc1 xd1++zY (.mk 2 0 d []) xa2 xb2 xc2 xd2).toArray 57;have hP:=hP.alloc (.cells (zY (zt (-4)) xa1 xb1 xc1 xd1++zY (.mk 2 0 d []) xa2 xb2 xc2 xd2).toArray 57)
  refine Ko hK ?_ fun zy=>?_
  ·exact hP.key.cell 5 rfl
  clear hK K
  refine Zo 6 rfl fun K hK=>?_
  rw[if_pos (by rfl)]
  refine zA _ _ rfl _ _ _ _ rfl hP.own _ _ _ _ [_,_] rfl rfl ((ItemsC.one vy).app (ItemsC.one sY)) hZ (by have:=HL.out;simp;omega) hP.base fun v7 w7 hown7 hg7 hat7=>?_
  have hP:=hP.app hown7 hg7 hat7;obtain⟨A7,c7,rfl,_⟩:=hown7.form;obtain⟨m7,sa⟩:∃ m7,(LL++[zt (-4),.mk 2 0 d []]).length=m7:=⟨_,rfl⟩
  rw[sa]at hP⊢;have kT:=Hh sa;clear hown7 hg7 hat7 hZ sa
  refine Kz hK ?_
  clear hK K
  refine ZkT 7 rfl (fun h=>absurd h (by decide)) ?_
  refine WaysZ.done (by kernel_rfl) ?_
  clear zy;go_wp2_with fail
  go_meet
  exact(by rw[E.out,mL.out];exact⟨_,_,_,_,rfl,kT.out.symm,hP⟩)
 case rest =>
 clear hS c5;have hS:=hcut;clear hcut;obtain⟨Hr,VA,m,vc,rfl,hm,hP⟩:=hS;have hO:=hP.out;clear hP hm;go_wp2_with fail
 go_ret
 exact⟨_,rfl,by rw[EL.out];show jn w H _ (Value.slice VA m vc) _;rw[← List.append_assoc,← List.append_assoc];exact hO⟩
structure Ky where
 kty:Int
 crv:Int
 alg:Int
 kid:List UInt8
 x:List UInt8
 d:List UInt8
 k:List UInt8
def fb (b:List UInt8):Bool:=decide (b.length=0)||decide (b.length=32)
def xp (q:Ky):Bool :=
 decide (q.kid.length≤16)&&decide (-65536≤q.alg)&&decide (q.alg≤65535) &&
 (if q.kty=1 then(decide (q.crv=4)||decide (q.crv=6))&&fb q.x&&fb q.d&&decide (0<q.x.length+q.d.length)&&decide (q.k.length=0)
  else if q.kty=4 then decide (q.crv=0)&&decide (q.x.length+q.d.length=0)&&decide (1≤q.k.length)&&decide (q.k.length≤64) else false)
def pm (b:List UInt8):Itm:=.mk 2 0 b []
def rS (n:Int) (b:List UInt8):List Itm:=if 0<b.length then [zt n,pm b] else []
def yH (q:Ky):List Itm :=
 [zt 1,zt q.kty]++rS 2 q.kid++(if q.alg=0 then [] else [zt 3,zt q.alg]) ++
  (if q.kty=4 then rS (-1) q.k else [zt (-1),zt q.crv]++rS (-2) q.x++rS (-4) q.d)
def vj (q:Ky):Itm:=.mk 5 0 [] (yH q)
theorem YG:Lib.compareBytes (zZ (zt 1)) (zZ (zt 2))<0∧Lib.compareBytes (zZ (zt 1)) (zZ (zt 3))<0∧Lib.compareBytes (zZ (zt 1)) (zZ (zt (-1)))<0∧
  Lib.compareBytes (zZ (zt 2)) (zZ (zt 3))<0∧Lib.compareBytes (zZ (zt 2)) (zZ (zt (-1)))<0∧Lib.compareBytes (zZ (zt 3)) (zZ (zt (-1)))<0∧
  Lib.compareBytes (zZ (zt (-1))) (zZ (zt (-2)))<0∧Lib.compareBytes (zZ (zt (-1))) (zZ (zt (-4)))<0∧Lib.compareBytes (zZ (zt (-2))) (zZ (zt (-4)))<0:=by
 rw[wo,wo,wo,wo,wo,wo];decide +kernel
theorem qN (q:Ky):wn (yH q)=true:=by
 obtain⟨ea,I1,I2,I3,I4,I6,el,Iz,te⟩:=YG
 unfold yH rS
 repeat' split
 all_goals simp[wn,ea,I1,I2,I3,I4,I6,el,Iz,te]
theorem tF (q:Ky):xp q=true↔(q.kid.length≤16∧-65536≤q.alg∧q.alg≤65535∧
  ((q.kty=1∧(q.crv=4∨q.crv=6)∧(q.x.length=0∨q.x.length=32)∧(q.d.length=0∨q.d.length=32)∧0<q.x.length+q.d.length∧q.k.length=0)∨
   (q.kty=4∧q.crv=0∧q.x.length+q.d.length=0∧1≤q.k.length∧q.k.length≤64))):=by
 unfold xp fb
 split
 ·rename_i h1
  simp[h1,and_assoc]
 split
 ·rename_i h1 h4
  simp[h1,h4,and_assoc]
 rename_i h1 h4
 simp[h1,h4]
theorem Y0 (b:List UInt8) (lv:Nat):Good (pm b) lv:=dl 2 (.inl rfl) b lv (fun h=>by omega)
theorem mU (q:Ky) (lv:Nat):GoodL (yH q) lv:=by
 unfold yH rS
 repeat' split
 all_goals simp[GoodL,uT,Y0]
theorem rX (q:Ky):(yH q).length%2=0:=by
 unfold yH rS
 repeat' split
 all_goals simp
theorem qV (q:Ky):2≤(yH q).length∧(yH q).length≤12:=by
 unfold yH rS
 repeat' split
 all_goals simp
theorem aG (q:Ky):Good (vj q) 0:=by
 refine Good.of ?_ (mU q 1) (fun _=>qN q)
 have h:=rX q;rw[xr,if_neg (by rw[zE];simp[vj,Itm.kind]),vx]
 simp[vj,Itm.kind,Itm.bytes,Itm.items,Itm.n,h]
def gm (x:Itm):Prop:=cnt x=1∧(zZ x).length≤73
theorem wY (n:Int):gm (zt n):=by
 unfold zt
 split
 ·refine⟨by simp[cnt,xG], ?_⟩
  have h:=sm 1 (-1-n).toNat [] [] (by decide) (by decide)
  simp[yx]at h
  omega
 refine⟨by simp[cnt,xG], ?_⟩
 have h:=sm 0 n.toNat [] [] (by decide) (by decide)
 simp[yx]at h
 omega
theorem p9 {b:List UInt8}(hb:b.length≤64):gm (pm b):=by
 refine⟨by simp[pm,cnt,xG], ?_⟩
 have h:=sm 2 0 b [] (by decide) (by decide)
 simp[yx]at h
 simp only[pm]
 omega
theorem mz:∀ l:List Itm,(∀ x∈l,gm x)→xG l=l.length∧(yx l).length≤73*l.length
 | [],_=>by simp[xG,yx]
 | x::l,h=>by
  have h1:=h x (by simp);have h2:=mz l fun y hy=>h y (by simp[hy])
  simp only[xG,yx,List.length_cons,List.length_append]
  have:=h1.1;have:=h1.2
  omega
theorem mm {x:Itm}{n:Int}{b:List UInt8}(h:x∈rS n b):x=zt n∨x=pm b:=by
 unfold rS at h
 split at h
 ·simpa using h
 simp at h
theorem lN {q:Ky}(h:xp q=true):∀ x∈yH q,gm x:=by
 have hv:=(tF q).mp h;have hx:q.x.length≤64:=by omega
 have hd:q.d.length≤64:=by omega
 have hk:q.k.length≤64:=by omega
 have hi:q.kid.length≤64:=by omega
 intro x hm
 unfold yH at hm
 simp only[List.mem_append]at hm
 rcases hm with ((hm | hm) | hm) | hm
 ·simp at hm
  rcases hm with rfl | rfl <;> exact wY _
 ·rcases mm hm with rfl | rfl
  ·exact wY _
  exact p9 hi
 ·split at hm
  ·simp at hm
  simp at hm
  rcases hm with rfl | rfl <;> exact wY _
 split at hm
 ·rcases mm hm with rfl | rfl
  ·exact wY _
  exact p9 hk
 simp only[List.mem_append]at hm
 rcases hm with (hm | hm) | hm
 ·simp at hm
  rcases hm with rfl | rfl <;> exact wY _
 ·rcases mm hm with rfl | rfl
  ·exact wY _
  exact p9 hx
 rcases mm hm with rfl | rfl
 ·exact wY _
 exact p9 hd
theorem vS {q:Ky}(h:xp q=true):zL (vj q)=true:=by
 have hs:=mz (yH q) (lN h);have hl:=qV q
 refine(wX _).mpr ⟨aG q, ?_, ?_⟩
 ·rw[pc];show xG (yH q)+1≤256
  omega
 have h2:=sm 5 0 [] (yH q) (by decide) (by decide)
 simp at h2
 show(zZ (.mk 5 0 [] (yH q))).length≤4096
 omega
theorem oS {q:Ky}(h:xp q=true):∀ x∈yH q,zL x=true :=
 fun x hx=>ue (vS h) (show x∈(vj q).items from hx)
theorem WI {q:Ky}(h:xp q=true):(yH q).length%2=0∧wn (yH q)=true∧(∀ x∈yH q,zL x=true)∧zL (.mk 5 0 [] (yH q))=true :=
 ⟨rX q,qN q,oS h,vS h⟩
end Go.Proofs.YtgcjjhibdbafmabGreatDoor
namespace Go.Proofs.YtgcjjhibdbafmabGreatDoor
open Go.RowKit Go.Shelf
def UC:Go.Shelf.Ren:=⟨fun | 6=>71 | 10=>97 | 11=>98 | 12=>99 | 13=>100 | 14=>101 | 24=>120 | 25=>121 | 26=>122 | 27=>123 | 28=>124 | 29=>125 | 30=>126 | 31=>127 | 32=>128 | 33=>129 | 34=>134 | 35=>135 | 36=>136 | 37=>137 | 38=>138 | 39=>142 | n=>n,
 fun | 0=>0 | 3=>3 | 4=>4 | 5=>5 | 9=>9 | 12=>12 | 17=>17 | 20=>20 | 26=>98 | 32=>138 | 33=>139 | 35=>141 | 37=>143 | 41=>66 | 44=>149 | 49=>132 | 51=>54 | 53=>164 | 54=>165 | 58=>113 | 60=>173 | 64=>109 | 66=>181 | 67=>182 | 75=>195 | 76=>196 | 77=>197 | 78=>198 | 79=>199 | 80=>200 | 82=>202 | n=>n,fun n=>n⟩
theorem jl:LaysGg.n6 Tryz.prog UC where
 mixed:=by kernel_rfl
 f6:=Tryz.func71.trans (congrArg some (by kernel_rfl))
 f10:=Tryz.func97.trans (congrArg some (by kernel_rfl))
 f11:=Tryz.func98.trans (congrArg some (by kernel_rfl))
 f12:=Tryz.func99.trans (congrArg some (by kernel_rfl))
 f13:=Tryz.func100.trans (congrArg some (by kernel_rfl))
 f14:=Tryz.func101.trans (congrArg some (by kernel_rfl))
 f24:=Tryz.func120.trans (congrArg some (by kernel_rfl))
 f25:=Tryz.func121.trans (congrArg some (by kernel_rfl))
 f26:=Tryz.func122.trans (congrArg some (by kernel_rfl))
 f27:=Tryz.func123.trans (congrArg some (by kernel_rfl))
 f28:=Tryz.func124.trans (congrArg some (by kernel_rfl))
 f29:=Tryz.func125.trans (congrArg some (by kernel_rfl))
 f30:=Tryz.func126.trans (congrArg some (by kernel_rfl))
 f31:=Tryz.func127.trans (congrArg some (by kernel_rfl))
 f32:=Tryz.func128.trans (congrArg some (by kernel_rfl))
 f33:=Tryz.func129.trans (congrArg some (by kernel_rfl))
 f34:=Tryz.func134.trans (congrArg some (by kernel_rfl))
 f35:=Tryz.func135.trans (congrArg some (by kernel_rfl))
 f36:=Tryz.func136.trans (congrArg some (by kernel_rfl))
 f37:=Tryz.func137.trans (congrArg some (by kernel_rfl))
 f38:=Tryz.func138.trans (congrArg some (by kernel_rfl))
 f39:=Tryz.func142.trans (congrArg some (by kernel_rfl))
 t0:=Tryz.underlying0
 a0:=Tryz.isAgg0
 z0:=Tryz.sizeOf0
 v0:=Tryz.zeroValue0
 i0:=by kernel_rfl
 t3:=Tryz.underlying3
 a3:=Tryz.isAgg3
 z3:=Tryz.sizeOf3
 v3:=Tryz.zeroValue3
 i3:=by kernel_rfl
 t4:=Tryz.underlying4
 a4:=Tryz.isAgg4
 z4:=Tryz.sizeOf4
 v4:=Tryz.zeroValue4
 i4:=by kernel_rfl
 t5:=Tryz.underlying5
 a5:=Tryz.isAgg5
 z5:=Tryz.sizeOf5
 v5:=Tryz.zeroValue5
 i5:=by kernel_rfl
 t9:=Tryz.underlying9
 a9:=Tryz.isAgg9
 z9:=Tryz.sizeOf9
 v9:=Tryz.zeroValue9
 i9:=by kernel_rfl
 t12:=Tryz.underlying12
 a12:=Tryz.isAgg12
 z12:=Tryz.sizeOf12
 v12:=Tryz.zeroValue12
 i12:=by kernel_rfl
 t17:=Tryz.underlying17
 a17:=Tryz.isAgg17
 z17:=Tryz.sizeOf17
 v17:=Tryz.zeroValue17
 i17:=by kernel_rfl
 t20:=Tryz.underlying20
 a20:=Tryz.isAgg20
 z20:=Tryz.sizeOf20
 v20:=Tryz.zeroValue20
 i20:=by kernel_rfl
 t26:=Tryz.underlying98
 a26:=Tryz.isAgg98
 z26:=Tryz.sizeOf98
 v26:=Tryz.zeroValue98
 i26:=by kernel_rfl
 t32:=Tryz.underlying138
 a32:=Tryz.isAgg138
 z32:=Tryz.sizeOf138
 v32:=Tryz.zeroValue138
 i32:=by kernel_rfl
 t33:=Tryz.underlying139
 a33:=Tryz.isAgg139
 z33:=Tryz.sizeOf139
 v33:=Tryz.zeroValue139
 i33:=by kernel_rfl
 t35:=Tryz.underlying141
 a35:=Tryz.isAgg141
 z35:=Tryz.sizeOf141
 v35:=Tryz.zeroValue141
 i35:=by kernel_rfl
 t37:=Tryz.underlying143
 a37:=Tryz.isAgg143
 z37:=Tryz.sizeOf143
 v37:=Tryz.zeroValue143
 i37:=by kernel_rfl
 t41:=Tryz.underlying66
 a41:=Tryz.isAgg66
 z41:=Tryz.sizeOf66
 v41:=Tryz.zeroValue66
 i41:=by kernel_rfl
 t44:=Tryz.underlying149
 a44:=Tryz.isAgg149
 z44:=Tryz.sizeOf149
 v44:=Tryz.zeroValue149
 i44:=by kernel_rfl
 t49:=Tryz.underlying132
 a49:=Tryz.isAgg132
 z49:=Tryz.sizeOf132
 v49:=Tryz.zeroValue132
 i49:=by kernel_rfl
 t51:=Tryz.underlying54
 a51:=Tryz.isAgg54
 z51:=Tryz.sizeOf54
 v51:=Tryz.zeroValue54
 i51:=by kernel_rfl
 t53:=Tryz.underlying164
 a53:=Tryz.isAgg164
 z53:=Tryz.sizeOf164
 v53:=Tryz.zeroValue164
 i53:=by kernel_rfl
 t54:=Tryz.underlying165
 a54:=Tryz.isAgg165
 z54:=Tryz.sizeOf165
 v54:=Tryz.zeroValue165
 i54:=by kernel_rfl
 t58:=Tryz.underlying113
 a58:=Tryz.isAgg113
 z58:=Tryz.sizeOf113
 v58:=Tryz.zeroValue113
 i58:=by kernel_rfl
 t60:=Tryz.underlying173
 a60:=Tryz.isAgg173
 z60:=Tryz.sizeOf173
 v60:=Tryz.zeroValue173
 i60:=by kernel_rfl
 t64:=Tryz.underlying109
 a64:=Tryz.isAgg109
 z64:=Tryz.sizeOf109
 v64:=Tryz.zeroValue109
 i64:=by kernel_rfl
 t66:=Tryz.underlying181
 a66:=Tryz.isAgg181
 z66:=Tryz.sizeOf181
 v66:=Tryz.zeroValue181
 i66:=by kernel_rfl
 t67:=Tryz.underlying182
 a67:=Tryz.isAgg182
 z67:=Tryz.sizeOf182
 v67:=Tryz.zeroValue182
 i67:=by kernel_rfl
 t75:=Tryz.underlying195
 a75:=Tryz.isAgg195
 z75:=Tryz.sizeOf195
 v75:=Tryz.zeroValue195
 i75:=by kernel_rfl
 t76:=Tryz.underlying196
 a76:=Tryz.isAgg196
 z76:=Tryz.sizeOf196
 v76:=Tryz.zeroValue196
 i76:=by kernel_rfl
 t77:=Tryz.underlying197
 a77:=Tryz.isAgg197
 z77:=Tryz.sizeOf197
 v77:=Tryz.zeroValue197
 i77:=by kernel_rfl
 t78:=Tryz.underlying198
 a78:=Tryz.isAgg198
 z78:=Tryz.sizeOf198
 v78:=Tryz.zeroValue198
 i78:=by kernel_rfl
 t79:=Tryz.underlying199
 a79:=Tryz.isAgg199
 z79:=Tryz.sizeOf199
 v79:=Tryz.zeroValue199
 i79:=by kernel_rfl
 t80:=Tryz.underlying200
 a80:=Tryz.isAgg200
 z80:=Tryz.sizeOf200
 v80:=Tryz.zeroValue200
 i80:=by kernel_rfl
 t82:=Tryz.underlying202
 a82:=Tryz.isAgg202
 z82:=Tryz.sizeOf202
 v82:=Tryz.zeroValue202
 i82:=by kernel_rfl
end Go.Proofs.YtgcjjhibdbafmabGreatDoor
namespace Go.Proofs.YtgcjjhibdbafmabGreatDoor
open Go.RowKit
structure PE (H:Snap) where
 A:Option Addr
 cc:Nat
 key:List UInt8
 rest:List Value
 len:rest.length=8
 one:∀ u∈rest,u.oneCell'=true
 is:IsBytes H A cc key
instance (H:Snap):Inhabited (PE H):=⟨⟨none,0,[],List.replicate 8 (.bool false),by simp,by simp[Value.oneCell'],IsBytes.nil H⟩⟩
def xS {H:Snap}(x:PE H):List Value:=.slice x.A x.key.length x.cc::x.rest
def eW {H:Snap}(a b:PE H):Bool:=decide (Lib.compareBytes a.key b.key<0)
theorem aU {H:Snap}(blk off c Bs size:Nat) (W:World) (hW:Holds W H) (G:Nat→PE H) (hs:W.cell? ⟨Bs,0,none⟩=some (.slice (some ⟨blk,off,none⟩) size c))
  (hc:∀ t,t<size→W.cell? ⟨blk,off+t*9,none⟩=some (.slice (G t).A (G t).key.length (G t).cc)) (i j:Nat) (hi:i<size) (hj:j<size) :
  Calls Tryz.prog 72 #[.int .i64 i,.int .i64 j,.pointer (some ⟨Bs,0,none⟩)] W fun e w'=>e=.returned (.bool (eW (G i) (G j)))∧∃ q,w'=W.drewN q:=by
 have ci:=hc i hi;have cj:=hc j hj;have si:=Src.of_row (G i).is.row hW;have sj:=Src.of_row (G j).is.row hW;have GB:(i:Int)<size:=by omega
 have GD:(j:Int)<size:=by omega
 have E:Hid (eW (G i) (G j)=decide (Lib.compareBytes (G i).key (G j).key<0)):=rfl;obtain⟨x,hx⟩:∃ x,G i=x:=⟨_,rfl⟩
 obtain⟨y,hy⟩:∃ y,G j=y:=⟨_,rfl⟩
 rw[hx]at ci si E⊢;rw[hy]at cj sj E⊢;rw[E.out];have CMP:True:=trivial;have SX:=si;have SY:=sj;clear hc hx hy si sj E hW CMP;have HB:=Hh (And.intro hi hj);go_enter Tryz.func72,Tryz.ntmps72
 go_upto_region 1 with fail
 refine zO 12 (fun wx=>wx.cell? ⟨Bs,0,none⟩=some (.slice (some ⟨blk,off,none⟩) size c)∧wx.cell? ⟨blk,off+i*9,none⟩=some (.slice x.A x.key.length x.cc)∧wx.cell? ⟨blk,off+j*9,none⟩=some (.slice y.A y.key.length y.cc)) (by kernel_rfl) (⟨hs,ci,cj⟩) (fun zy=>?_)
 refine Zk 0 rfl zy ?_
 refine Zk 1 rfl zy ?_
 refine Zk 2 rfl zy ?_
 refine Zk 3 rfl zy ?_
 refine Zk 4 rfl zy ?_
 refine Zk 5 rfl zy ?_
 refine Zk 6 rfl zy ?_
 refine Zk 7 rfl zy ?_
 refine Zk 8 rfl zy ?_
 refine Zk 9 rfl zy ?_
 refine Zo 10 rfl fun K hK=>?_
 go_simp
 refine(show Calls Tryz.prog 73 #[.slice x.A x.key.length x.cc,.slice y.A y.key.length y.cc] W.drew fun e w'=>e=.returned (.int .i64 (Lib.compareBytes x.key y.key))∧W.drew=w' from sw W.drew x.A y.A x.key y.key x.key.length y.key.length x.cc y.cc rfl rfl SX SY).mono ?_
 rintro e w3 ⟨rfl,rfl⟩
 refine Ko hK ?_ fun zy=>?_
 ·exact⟨hs,ci,cj⟩
 clear hK K
 refine Zk 11 rfl zy ?_
 refine Zo 12 rfl fun K hK=>?_
 go_simp
 refine Kz hK ?_
 clear hK K
 refine WaysZ.done (by kernel_rfl) ?_
 clear zy;go_wp2_with fail
 go_ret
 exact⟨rfl,1,rfl⟩
end Go.Proofs.YtgcjjhibdbafmabGreatDoor
namespace Go.Proofs.YtgcjjhibdbafmabGreatDoor
open Go.RowKit Go.Shelf Go.Lib
noncomputable def pairTI:TypeInfo:=(Tryz.prog.info? 94).get (by kernel_rfl)
noncomputable def pairEI:TypeInfo:=(Tryz.prog.info? 96).get (by kernel_rfl)
theorem RQ (n:Nat) (h2:2≤n):Lib.swapperK n pairEI 25=9:=by
 have a:pairEI.hasPointers=true:=by kernel_rfl
 have b:(pairEI.bytes==8)=false:=by kernel_rfl
 have c:(n==0)=false:=by simp;omega
 have d:(n==1)=false:=by simp;omega
 simp[Lib.swapperK,a,b,c,d]
theorem Xy {H:Snap}(x:PE H):(xS x).length=9:=by simp[xS,x.len]
end Go.Proofs.YtgcjjhibdbafmabGreatDoor
