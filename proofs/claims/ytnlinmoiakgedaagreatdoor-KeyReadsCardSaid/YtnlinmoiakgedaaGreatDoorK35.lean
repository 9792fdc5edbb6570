/- squeezed. Walks: the pairs of a key, by the  -/
import Derived.Test.YtnlinmoiakgedaaGreatDoorK34
import Derived.Test.YtnlinmoiakgedaaGreatDoorK10
import Derived.Shelf.GgSortFunc.SmallK
set_option linter.unusedVariables false
set_option linter.unusedSimpArgs false
set_option maxRecDepth 100000
set_option maxHeartbeats 25600000
namespace Go.Proofs.YtnlinmoiakgedaaGreatDoor
open Go.RowKit
def RSt (W0:World) (H:Snap) (kc:Array Value) (v:Value) (L:List Itm) (w:World):Prop:=∃ Hr A m c,v=.slice A m c∧m=L.length∧RS W0 H kc (.slice A m c) L w Hr
theorem RSt.key {W0 w:World}{H:Snap}{kc:Array Value}{v:Value}{L:List Itm}(h:RSt W0 H kc v L w):Blk w W0.heap.size 33 kc:=by
 obtain⟨Hr,A,m,c,_,_,hP⟩:=h
 exact hP.key
theorem fC {H:Snap}(t v g:Int) (ht : -9223372036854775808≤t∧t≤9223372036854775807) (hv : -9223372036854775808≤v∧v≤9223372036854775807) (hg : -9223372036854775808≤g∧g≤9223372036854775807)
  {Ai:Option Addr} {ci:Nat} {kid:List UInt8} (hi:IsBytes H Ai ci kid) {Ax:Option Addr} {cx:Nat} {x:List UInt8} (hx:IsBytes H Ax cx x)
  {Ad:Option Addr} {cd:Nat} {d:List UInt8} (hd:IsBytes H Ad cd d) {Ak:Option Addr} {ck:Nat} {k:List UInt8} (hk:IsBytes H Ak ck k)
  (hl:kid.length≤64∧x.length≤64∧d.length≤64∧k.length≤64) (XY:t=4→0<k.length) (w:World) (hH:Holds w H) :
  Calls Tryz.prog 28 #[.agg (wX t v g Ai kid.length ci Ax x.length cx Ad d.length cd Ak k.length ck)] w (fN w H (rf t v g kid x d k)):=by
 have hP:=RS.nil ((Grows.refl hH).alloc (.cells (wX t v g Ai kid.length ci Ax x.length cx Ad d.length cd Ak k.length ck) 33)) (hH.none_of_ge (Nat.le_refl _)) (Blk.new w 33 (wX t v g Ai kid.length ci Ax x.length cx Ad d.length cd Ak k.length ck));have KC:Hid ((wX t v g Ai kid.length ci Ax x.length cx Ad d.length cd Ak k.length ck)=#[.int .i64 t,.int .i64 v,.int .i64 g,.slice Ai kid.length ci,.slice Ax x.length cx,.slice Ad d.length cd,.slice Ak k.length ck]):=rfl;have D:=Hh (And.intro ht (And.intro hv hg));have B1:=Hh (And.intro hi (And.intro hx (And.intro hd hk)));have BL:=Hh hl;have K4:=Hh XY;clear hi hx hd hk hl ht hv hg hH XY;go_enter Tryz.func28,Tryz.ntmps28
 go_upto_region 1 with fail
 go_cut [3] (fun s3 wx=>RSt w H (wX t v g Ai kid.length ci Ax x.length cx Ad d.length cd Ak k.length ck) s3 [zX 1,zX t] wx)
 case first =>
  obtain⟨W1,St⟩:∃ W1,w.alloc (.cells (wX t v g Ai kid.length ci Ax x.length cx Ad d.length cd Ak k.length ck) 33)=W1:=⟨_,rfl⟩
  rw[St]at hP⊢;clear St;have c0:=hP.key.cell 0 rfl;replace hP:=hP.drew
  refine yt 5 (fun wx=>wx.cell? ⟨w.heap.size,0,none⟩=some (.int .i64 t)) (by kernel_rfl) (c0) (fun zy=>?_)
  refine Zk 1 rfl zy ?_
  refine Zk 2 rfl zy ?_
  refine Zo 0 rfl fun K hK=>?_
  go_simp
  refine(uR (1) (by omega) (by omega) _ hP.grows.holds).mono ?_
  rintro e w3 ⟨v1,rfl,xa1,xb1,xc1,xd1,H1,rfl,ws,vt⟩
  have hP:=hP.grow ws
  refine hK.out _ _ (fun _=>?_) (fun zy=>?_)
  ·exact hP.key.cell 0 rfl
  clear hK K;have zy:=zy (by decide)
  try simp only[Act.put,zz1,zz2,zz3,zz4,zz5,zz6]
  refine Zo 3 rfl fun K hK=>?_
  go_simp
  refine(uR t D.out.1.1 D.out.1.2 _ hP.grows.holds).mono ?_
  rintro e w4 ⟨v2,rfl,xa2,xb2,xc2,xd2,H2,rfl,yp,un⟩
  have hP:=hP.grow yp;have vt:=vt.mono yp.le
  refine hK.out _ _ (fun _=>?_) (fun zy=>?_)
  ·exact hP.key.cell 0 rfl
  clear hK K;have zy:=zy (by decide)
  try simp only[Act.put,zz1,zz2,zz3,zz4,zz5,zz6]
  refine Zo 4 rfl fun K hK=>?_
  go_simp
  have hP:=hP.litR ((ItemsC.one vt).app (ItemsC.one un)) (by simp)
  refine hK.out _ _ (fun _=>?_) (fun zy=>?_)
  ·exact hP.key.cell 0 rfl
  clear hK K;have zy:=zy (by decide)
  try simp only[Act.put,zz1,zz2,zz3,zz4,zz5,zz6]
  refine Zo 5 rfl fun K hK=>?_
  go_simp
  refine hK.out _ _ (fun h=>absurd h (by decide)) (fun _=>?_)
  clear hK K
  try simp only[Act.put,zz1,zz2,zz3,zz4,zz5,zz6]
  refine WaysZ.done (by kernel_rfl) ?_
  clear zy;go_wp2_with fail
  go_meet
  exact⟨_,_,_,_,rfl,rfl,hP⟩
 case rest =>
  clear hP;have hS:=hcut;clear hcut;have qF:Hid (([zX 1,zX t]:List Itm).length≤1000):=by rw[Hid];simp
  have c3:=hS.key.cell 3 rfl;go_upto_if 12 with fail
  go_cut [3] (fun s3 wx=>RSt w H (wX t v g Ai kid.length ci Ax x.length cx Ad d.length cd Ak k.length ck) s3 ([zX 1,zX t]++xO 2 kid) wx)
  case first =>
   by_cases h0:0<kid.length
   case neg =>
    have E:Hid (([zX 1,zX t]++xO 2 kid)=[zX 1,zX t]):=by rw[Hid,show xO (2) kid=[] from if_neg h0,List.append_nil]
    have xt:¬ (0:Int)<(kid.length:Int):=by omega
    have qC:decide ((0:Int)<(kid.length:Int))=false:=decide_eq_false xt;have o7:decide (0<kid.length)=false:=decide_eq_false h0;clear h0;have HS:=Hh hS;clear hS;go_wp2_with fail
    go_meet
    rw[E.out]
    exact HS.out
   have xt:(0:Int)<(kid.length:Int):=by omega
   have qC:decide ((0:Int)<(kid.length:Int))=true:=decide_eq_true xt;have o7:decide (0<kid.length)=true:=decide_eq_true h0;have E:Hid (([zX 1,zX t]++xO 2 kid)=[zX 1,zX t]++[zX (2),oq kid]):=by rw[Hid,show xO (2) kid=[zX (2),oq kid] from if_pos h0]
   clear h0;have qF:=qF;obtain⟨LL,me⟩:∃ LL,[zX 1,zX t]=LL:=⟨_,rfl⟩
   rw[me]at hS qF;have qD:=Hh me;clear me;obtain⟨Hr,VA,m,vc,rfl,hm,hP⟩:=hS;have HL:=Hh (And.intro hm qF.out);clear hm;go_upto_region 3 with fail
   have c3:=hP.key.cell 3 rfl;replace hP:=hP.drew
   refine yt 6 (fun wx=>wx.cell? ⟨w.heap.size,3,none⟩=some (.slice Ai kid.length ci)) (by kernel_rfl) (c3) (fun zy=>?_)
   refine Zk 0 rfl zy ?_
   refine Zk 2 rfl zy ?_
   refine Zk 3 rfl zy ?_
   refine Zo 1 rfl fun K hK=>?_
   go_simp
   refine(uR (2) (by omega) (by omega) _ hP.grows.holds).mono ?_
   rintro e w3 ⟨v1,rfl,xa1,xb1,xc1,xd1,H1,rfl,ws,vt⟩
   have hP:=hP.grow ws
   refine hK.out _ _ (fun _=>?_) (fun zy=>?_)
   ·exact hP.key.cell 3 rfl
   clear hK K;have zy:=zy (by decide)
   try simp only[Act.put,zz1,zz2,zz3,zz4,zz5,zz6]
   refine Zo 4 rfl fun K hK=>?_
   go_simp
   refine(tS rfl (by have:=BL.out;omega) _ (Src.of_row (B1.out.1.row.mono hP.grows.le) hP.grows.holds) hP.grows.holds).mono ?_
   rintro e w4 ⟨v2,rfl,xa2,xb2,xc2,xd2,H2,rfl,yp,un⟩
   have hP:=hP.grow yp;have vt:=vt.mono yp.le
   refine hK.out _ _ (fun _=>?_) (fun zy=>?_)
   ·exact hP.key.cell 3 rfl
   clear hK K;have zy:=zy (by decide)
   try simp only[Act.put,zz1,zz2,zz3,zz4,zz5,zz6]
   refine Zo 5 rfl fun K hK=>?_
   go_simp
   have hZ:=hP.litZ (zg (zX (2)) xa1 xb1 xc1 xd1++zg (.mk 2 0 kid []) xa2 xb2 xc2 xd2).toArray 26;have hP:=hP.alloc (.cells (zg (zX (2)) xa1 xb1 xc1 xd1++zg (.mk 2 0 kid []) xa2 xb2 xc2 xd2).toArray 26)
   refine hK.out _ _ (fun _=>?_) (fun zy=>?_)
   ·exact hP.key.cell 3 rfl
   clear hK K;have zy:=zy (by decide)
   try simp only[Act.put,zz1,zz2,zz3,zz4,zz5,zz6]
   refine Zo 6 rfl fun K hK=>?_
   rw[if_pos (by rfl)]
   refine ym _ _ rfl _ _ _ _ rfl hP.own _ _ _ _ [_,_] rfl rfl ((ItemsC.one vt).app (ItemsC.one un)) hZ (by have:=HL.out;simp;omega) hP.base fun v7 w7 hown7 hg7 hat7=>?_
   have hP:=hP.app hown7 hg7 hat7;obtain⟨A7,c7,rfl,_⟩:=hown7.form;obtain⟨m7,lR⟩:∃ m7,(LL++[zX (2),.mk 2 0 kid []]).length=m7:=⟨_,rfl⟩
   rw[lR]at hP⊢;have XL:=Hh lR;clear hown7 hg7 hat7 hZ lR
   refine hK.out _ _ (fun h=>absurd h (by decide)) (fun _=>?_)
   clear hK K
   try simp only[Act.put,zz1,zz2,zz3,zz4,zz5,zz6]
   refine ZkT 7 rfl (fun h=>absurd h (by decide)) ?_
   refine WaysZ.done (by kernel_rfl) ?_
   clear zy;go_wp2_with fail
   go_meet
   exact(by rw[E.out,qD.out];exact⟨_,_,_,_,rfl,XL.out.symm,hP⟩)
  case rest =>
   clear hS c3;have hS:=hcut;clear hcut;have qF:Hid (([zX 1,zX t]++xO 2 kid).length≤1000):=by have:=pj 2 kid;rw[Hid];simp;omega
   have c2:=hS.key.cell 2 rfl;go_upto_if 22 with fail
   go_cut [3] (fun s3 wx=>RSt w H (wX t v g Ai kid.length ci Ax x.length cx Ad d.length cd Ak k.length ck) s3 (xh t g kid) wx)
   case first =>
    by_cases h0:g=0
    case pos =>
     have E:Hid ((xh t g kid)=([zX 1,zX t]++xO 2 kid)):=by rw[Hid,xh,if_pos h0,List.append_nil]
     subst h0;have HS:=Hh hS;clear hS;go_wp2_with fail
     go_meet
     rw[E.out]
     exact HS.out
    have b1:(g != 0)=true:=by simp[h0]
    have p1:(g=0)=False:=eq_false h0;have E:Hid ((xh t g kid)=([zX 1,zX t]++xO 2 kid)++[zX 3,zX g]):=by rw[Hid,xh,if_neg h0]
    clear h0;have qF:=qF;obtain⟨LL,me⟩:∃ LL,([zX 1,zX t]++xO 2 kid)=LL:=⟨_,rfl⟩
    rw[me]at hS qF;have qD:=Hh me;clear me;obtain⟨Hr,VA,m,vc,rfl,hm,hP⟩:=hS;have HL:=Hh (And.intro hm qF.out);clear hm;go_upto_region 5 with fail
    have c2:=hP.key.cell 2 rfl;replace hP:=hP.drew
    refine yt 6 (fun wx=>wx.cell? ⟨w.heap.size,2,none⟩=some (.int .i64 g)) (by kernel_rfl) (c2) (fun zy=>?_)
    refine Zk 0 rfl zy ?_
    refine Zk 2 rfl zy ?_
    refine Zk 3 rfl zy ?_
    refine Zo 1 rfl fun K hK=>?_
    go_simp
    refine(uR (3) (by omega) (by omega) _ hP.grows.holds).mono ?_
    rintro e w3 ⟨v1,rfl,xa1,xb1,xc1,xd1,H1,rfl,ws,vt⟩
    have hP:=hP.grow ws
    refine hK.out _ _ (fun _=>?_) (fun zy=>?_)
    ·exact hP.key.cell 2 rfl
    clear hK K;have zy:=zy (by decide)
    try simp only[Act.put,zz1,zz2,zz3,zz4,zz5,zz6]
    refine Zo 4 rfl fun K hK=>?_
    go_simp
    refine(uR g D.out.2.2.1 D.out.2.2.2 _ hP.grows.holds).mono ?_
    rintro e w4 ⟨v2,rfl,xa2,xb2,xc2,xd2,H2,rfl,yp,un⟩
    have hP:=hP.grow yp;have vt:=vt.mono yp.le
    refine hK.out _ _ (fun _=>?_) (fun zy=>?_)
    ·exact hP.key.cell 2 rfl
    clear hK K;have zy:=zy (by decide)
    try simp only[Act.put,zz1,zz2,zz3,zz4,zz5,zz6]
    refine Zo 5 rfl fun K hK=>?_
    go_simp
    have hZ:=hP.litZ (zg (zX (3)) xa1 xb1 xc1 xd1++zg (zX g) xa2 xb2 xc2 xd2).toArray 26;have hP:=hP.alloc (.cells (zg (zX (3)) xa1 xb1 xc1 xd1++zg (zX g) xa2 xb2 xc2 xd2).toArray 26)
    refine hK.out _ _ (fun _=>?_) (fun zy=>?_)
    ·exact hP.key.cell 2 rfl
    clear hK K;have zy:=zy (by decide)
    try simp only[Act.put,zz1,zz2,zz3,zz4,zz5,zz6]
    refine Zo 6 rfl fun K hK=>?_
    rw[if_pos (by rfl)]
    refine ym _ _ rfl _ _ _ _ rfl hP.own _ _ _ _ [_,_] rfl rfl ((ItemsC.one vt).app (ItemsC.one un)) hZ (by have:=HL.out;simp;omega) hP.base fun v7 w7 hown7 hg7 hat7=>?_
    have hP:=hP.app hown7 hg7 hat7;obtain⟨A7,c7,rfl,_⟩:=hown7.form;obtain⟨m7,lR⟩:∃ m7,(LL++[zX (3),zX g]).length=m7:=⟨_,rfl⟩
    rw[lR]at hP⊢;have XL:=Hh lR;clear hown7 hg7 hat7 hZ lR
    refine hK.out _ _ (fun h=>absurd h (by decide)) (fun _=>?_)
    clear hK K
    try simp only[Act.put,zz1,zz2,zz3,zz4,zz5,zz6]
    refine ZkT 7 rfl (fun h=>absurd h (by decide)) ?_
    refine WaysZ.done (by kernel_rfl) ?_
    clear zy;go_wp2_with fail
    go_meet
    exact(by rw[E.out,qD.out];exact⟨_,_,_,_,rfl,XL.out.symm,hP⟩)
   case rest =>
    clear hS c2;have hS:=hcut;clear hcut;have qF:Hid ((xh t g kid).length≤1000):=by have:=qg t g kid;rw[Hid];omega
    have c0:=hS.key.cell 0 rfl
    by_cases ie:t=4
    case pos =>
     subst ie;have Kz:=Hh (K4.out rfl);have E:Hid (rf 4 v g kid x d k=xh 4 g kid++[zX (-1),oq k]):=by rw[Hid,rf,if_pos rfl,xO,if_pos Kz.out]
     clear K4;obtain⟨LL,me⟩:∃ LL,(xh 4 g kid)=LL:=⟨_,rfl⟩
     rw[me]at hS qF;have qD:=Hh me;clear me;obtain⟨Hr,VA,m,vc,rfl,hm,hP⟩:=hS;have HL:=Hh (And.intro hm qF.out);clear hm;go_upto_region 7 with fail
     have c6:=hP.key.cell 6 rfl;replace hP:=hP.drew
     refine yt 6 (fun wx=>wx.cell? ⟨w.heap.size,6,none⟩=some (.slice Ak k.length ck)) (by kernel_rfl) (c6) (fun zy=>?_)
     refine Zk 0 rfl zy ?_
     refine Zk 2 rfl zy ?_
     refine Zk 3 rfl zy ?_
     refine Zo 1 rfl fun K hK=>?_
     go_simp
     refine(uR (-1) (by omega) (by omega) _ hP.grows.holds).mono ?_
     rintro e w3 ⟨v1,rfl,xa1,xb1,xc1,xd1,H1,rfl,ws,vt⟩
     have hP:=hP.grow ws
     refine hK.out _ _ (fun _=>?_) (fun zy=>?_)
     ·exact hP.key.cell 6 rfl
     clear hK K;have zy:=zy (by decide)
     try simp only[Act.put,zz1,zz2,zz3,zz4,zz5,zz6]
     refine Zo 4 rfl fun K hK=>?_
     go_simp
     refine(tS rfl (by have:=BL.out;omega) _ (Src.of_row (B1.out.2.2.2.row.mono hP.grows.le) hP.grows.holds) hP.grows.holds).mono ?_
     rintro e w4 ⟨v2,rfl,xa2,xb2,xc2,xd2,H2,rfl,yp,un⟩
     have hP:=hP.grow yp;have vt:=vt.mono yp.le
     refine hK.out _ _ (fun _=>?_) (fun zy=>?_)
     ·exact hP.key.cell 6 rfl
     clear hK K;have zy:=zy (by decide)
     try simp only[Act.put,zz1,zz2,zz3,zz4,zz5,zz6]
     refine Zo 5 rfl fun K hK=>?_
     go_simp
     have hZ:=hP.litZ (zg (zX (-1)) xa1 xb1 xc1 xd1++zg (.mk 2 0 k []) xa2 xb2 xc2 xd2).toArray 26;have hP:=hP.alloc (.cells (zg (zX (-1)) xa1 xb1 xc1 xd1++zg (.mk 2 0 k []) xa2 xb2 xc2 xd2).toArray 26)
     refine hK.out _ _ (fun _=>?_) (fun zy=>?_)
     ·exact hP.key.cell 6 rfl
     clear hK K;have zy:=zy (by decide)
     try simp only[Act.put,zz1,zz2,zz3,zz4,zz5,zz6]
     refine Zo 6 rfl fun K hK=>?_
     rw[if_pos (by rfl)]
     refine ym _ _ rfl _ _ _ _ rfl hP.own _ _ _ _ [_,_] rfl rfl ((ItemsC.one vt).app (ItemsC.one un)) hZ (by have:=HL.out;simp;omega) hP.base fun v7 w7 hown7 hg7 hat7=>?_
     have hP:=hP.app hown7 hg7 hat7;obtain⟨A7,c7,rfl,_⟩:=hown7.form;obtain⟨m7,lR⟩:∃ m7,(LL++[zX (-1),.mk 2 0 k []]).length=m7:=⟨_,rfl⟩
     rw[lR]at hP⊢;have XL:=Hh lR;clear hown7 hg7 hat7 hZ lR
     refine hK.out _ _ (fun h=>absurd h (by decide)) (fun _=>?_)
     clear hK K
     try simp only[Act.put,zz1,zz2,zz3,zz4,zz5,zz6]
     refine ZkT 7 rfl (fun h=>absurd h (by decide)) ?_
     refine WaysZ.done (by kernel_rfl) ?_
     clear zy;go_wp2_with fail
     go_ret
     exact⟨_,rfl,by rw[E.out,qD.out];exact hP.out⟩
    have b4:(t==4)=false:=by rw[beq_eq_false_iff_ne];exact ie
    have p4:(t=4)=False:=eq_false ie;have EL:Hid (rf t v g kid x d k=xh t g kid++([zX (-1),zX v]++xO (-2) x++xO (-4) d)):=by rw[Hid,rf,if_neg ie]
    have MU:Hid ((xh t g kid).length≤6):=qg t g kid;clear ie K4;go_upto_region 8 with fail
    clear c0;go_cut [3] (fun s3 wx=>RSt w H (wX t v g Ai kid.length ci Ax x.length cx Ad d.length cd Ak k.length ck) s3 (xh t g kid++[zX (-1),zX v]) wx)
    case first =>
     obtain⟨LL,me⟩:∃ LL,(xh t g kid)=LL:=⟨_,rfl⟩
     rw[me]at hS qF;have qD:=Hh me;clear me;obtain⟨Hr,VA,m,vc,rfl,hm,hP⟩:=hS;have HL:=Hh (And.intro hm qF.out);clear hm;have c1:=hP.key.cell 1 rfl;replace hP:=hP.drew
     refine yt 6 (fun wx=>wx.cell? ⟨w.heap.size,1,none⟩=some (.int .i64 v)) (by kernel_rfl) (c1) (fun zy=>?_)
     refine Zk 0 rfl zy ?_
     refine Zk 2 rfl zy ?_
     refine Zk 3 rfl zy ?_
     refine Zo 1 rfl fun K hK=>?_
     go_simp
     refine(uR (-1) (by omega) (by omega) _ hP.grows.holds).mono ?_
     rintro e w3 ⟨v1,rfl,xa1,xb1,xc1,xd1,H1,rfl,ws,vt⟩
     have hP:=hP.grow ws
     refine hK.out _ _ (fun _=>?_) (fun zy=>?_)
     ·exact hP.key.cell 1 rfl
     clear hK K;have zy:=zy (by decide)
     try simp only[Act.put,zz1,zz2,zz3,zz4,zz5,zz6]
     refine Zo 4 rfl fun K hK=>?_
     go_simp
     refine(uR v D.out.2.1.1 D.out.2.1.2 _ hP.grows.holds).mono ?_
     rintro e w4 ⟨v2,rfl,xa2,xb2,xc2,xd2,H2,rfl,yp,un⟩
     have hP:=hP.grow yp;have vt:=vt.mono yp.le
     refine hK.out _ _ (fun _=>?_) (fun zy=>?_)
     ·exact hP.key.cell 1 rfl
     clear hK K;have zy:=zy (by decide)
     try simp only[Act.put,zz1,zz2,zz3,zz4,zz5,zz6]
     refine Zo 5 rfl fun K hK=>?_
     go_simp
     have hZ:=hP.litZ (zg (zX (-1)) xa1 xb1 xc1 xd1++zg (zX v) xa2 xb2 xc2 xd2).toArray 26;have hP:=hP.alloc (.cells (zg (zX (-1)) xa1 xb1 xc1 xd1++zg (zX v) xa2 xb2 xc2 xd2).toArray 26)
     refine hK.out _ _ (fun _=>?_) (fun zy=>?_)
     ·exact hP.key.cell 1 rfl
     clear hK K;have zy:=zy (by decide)
     try simp only[Act.put,zz1,zz2,zz3,zz4,zz5,zz6]
     refine Zo 6 rfl fun K hK=>?_
     rw[if_pos (by rfl)]
     refine ym _ _ rfl _ _ _ _ rfl hP.own _ _ _ _ [_,_] rfl rfl ((ItemsC.one vt).app (ItemsC.one un)) hZ (by have:=HL.out;simp;omega) hP.base fun v7 w7 hown7 hg7 hat7=>?_
     have hP:=hP.app hown7 hg7 hat7;obtain⟨A7,c7,rfl,_⟩:=hown7.form;obtain⟨m7,lR⟩:∃ m7,(LL++[zX (-1),zX v]).length=m7:=⟨_,rfl⟩
     rw[lR]at hP⊢;have XL:=Hh lR;clear hown7 hg7 hat7 hZ lR
     refine hK.out _ _ (fun h=>absurd h (by decide)) (fun _=>?_)
     clear hK K
     try simp only[Act.put,zz1,zz2,zz3,zz4,zz5,zz6]
     refine ZkT 7 rfl (fun h=>absurd h (by decide)) ?_
     refine WaysZ.done (by kernel_rfl) ?_
     clear zy;go_wp2_with fail
     go_meet
     exact(by rw[qD.out];exact⟨_,_,_,_,rfl,XL.out.symm,hP⟩)
    case rest =>
     clear hS qF;have hS:=hcut;clear hcut;have qF:Hid ((xh t g kid++[zX (-1),zX v]).length≤1000):=by have:=MU.out;rw[Hid];simp;omega
     have c4:=hS.key.cell 4 rfl;go_upto_if 50 with fail
     go_cut [3] (fun s3 wx=>RSt w H (wX t v g Ai kid.length ci Ax x.length cx Ad d.length cd Ak k.length ck) s3 (xh t g kid++[zX (-1),zX v]++xO (-2) x) wx)
     case first =>
      by_cases h0:0<x.length
      case neg =>
       have E:Hid ((xh t g kid++[zX (-1),zX v]++xO (-2) x)=(xh t g kid++[zX (-1),zX v])):=by rw[Hid,show xO (-2) x=[] from if_neg h0,List.append_nil]
       have xt:¬ (0:Int)<(x.length:Int):=by omega
       have qC:decide ((0:Int)<(x.length:Int))=false:=decide_eq_false xt;have o7:decide (0<x.length)=false:=decide_eq_false h0;clear h0;have HS:=Hh hS;clear hS;go_wp2_with fail
       go_meet
       rw[E.out]
       exact HS.out
      have xt:(0:Int)<(x.length:Int):=by omega
      have qC:decide ((0:Int)<(x.length:Int))=true:=decide_eq_true xt;have o7:decide (0<x.length)=true:=decide_eq_true h0;have E:Hid ((xh t g kid++[zX (-1),zX v]++xO (-2) x)=(xh t g kid++[zX (-1),zX v])++[zX (-2),oq x]):=by rw[Hid,show xO (-2) x=[zX (-2),oq x] from if_pos h0]
      clear h0;have qF:=qF;obtain⟨LL,me⟩:∃ LL,(xh t g kid++[zX (-1),zX v])=LL:=⟨_,rfl⟩
      rw[me]at hS qF;have qD:=Hh me;clear me;obtain⟨Hr,VA,m,vc,rfl,hm,hP⟩:=hS;have HL:=Hh (And.intro hm qF.out);clear hm;go_upto_region 10 with fail
      have c4:=hP.key.cell 4 rfl;replace hP:=hP.drew
      refine yt 6 (fun wx=>wx.cell? ⟨w.heap.size,4,none⟩=some (.slice Ax x.length cx)) (by kernel_rfl) (c4) (fun zy=>?_)
      refine Zk 0 rfl zy ?_
      refine Zk 2 rfl zy ?_
      refine Zk 3 rfl zy ?_
      refine Zo 1 rfl fun K hK=>?_
      go_simp
      refine(uR (-2) (by omega) (by omega) _ hP.grows.holds).mono ?_
      rintro e w3 ⟨v1,rfl,xa1,xb1,xc1,xd1,H1,rfl,ws,vt⟩
      have hP:=hP.grow ws
      refine hK.out _ _ (fun _=>?_) (fun zy=>?_)
      ·exact hP.key.cell 4 rfl
      clear hK K;have zy:=zy (by decide)
      try simp only[Act.put,zz1,zz2,zz3,zz4,zz5,zz6]
      refine Zo 4 rfl fun K hK=>?_
      go_simp
      refine(tS rfl (by have:=BL.out;omega) _ (Src.of_row (B1.out.2.1.row.mono hP.grows.le) hP.grows.holds) hP.grows.holds).mono ?_
      rintro e w4 ⟨v2,rfl,xa2,xb2,xc2,xd2,H2,rfl,yp,un⟩
      have hP:=hP.grow yp;have vt:=vt.mono yp.le
      refine hK.out _ _ (fun _=>?_) (fun zy=>?_)
      ·exact hP.key.cell 4 rfl
      clear hK K;have zy:=zy (by decide)
      try simp only[Act.put,zz1,zz2,zz3,zz4,zz5,zz6]
      refine Zo 5 rfl fun K hK=>?_
      go_simp
      have hZ:=hP.litZ (zg (zX (-2)) xa1 xb1 xc1 xd1++zg (.mk 2 0 x []) xa2 xb2 xc2 xd2).toArray 26;have hP:=hP.alloc (.cells (zg (zX (-2)) xa1 xb1 xc1 xd1++zg (.mk 2 0 x []) xa2 xb2 xc2 xd2).toArray 26)
      refine hK.out _ _ (fun _=>?_) (fun zy=>?_)
      ·exact hP.key.cell 4 rfl
      clear hK K;have zy:=zy (by decide)
      try simp only[Act.put,zz1,zz2,zz3,zz4,zz5,zz6]
      refine Zo 6 rfl fun K hK=>?_
      rw[if_pos (by rfl)]
      refine ym _ _ rfl _ _ _ _ rfl hP.own _ _ _ _ [_,_] rfl rfl ((ItemsC.one vt).app (ItemsC.one un)) hZ (by have:=HL.out;simp;omega) hP.base fun v7 w7 hown7 hg7 hat7=>?_
      have hP:=hP.app hown7 hg7 hat7;obtain⟨A7,c7,rfl,_⟩:=hown7.form;obtain⟨m7,lR⟩:∃ m7,(LL++[zX (-2),.mk 2 0 x []]).length=m7:=⟨_,rfl⟩
      rw[lR]at hP⊢;have XL:=Hh lR;clear hown7 hg7 hat7 hZ lR
      refine hK.out _ _ (fun h=>absurd h (by decide)) (fun _=>?_)
      clear hK K
      try simp only[Act.put,zz1,zz2,zz3,zz4,zz5,zz6]
      refine ZkT 7 rfl (fun h=>absurd h (by decide)) ?_
      refine WaysZ.done (by kernel_rfl) ?_
      clear zy;go_wp2_with fail
      go_meet
      exact(by rw[E.out,qD.out];exact⟨_,_,_,_,rfl,XL.out.symm,hP⟩)
     case rest =>
      clear hS c4;have hS:=hcut;clear hcut;have qF:Hid ((xh t g kid++[zX (-1),zX v]++xO (-2) x).length≤1000):=by have:=MU.out;have:=pj (-2) x;rw[Hid];simp;omega
      have c5:=hS.key.cell 5 rfl;go_upto_if 61 with fail
      go_cut [3] (fun s3 wx=>RSt w H (wX t v g Ai kid.length ci Ax x.length cx Ad d.length cd Ak k.length ck) s3 (xh t g kid++[zX (-1),zX v]++xO (-2) x++xO (-4) d) wx)
      case first =>
       by_cases h0:0<d.length
       case neg =>
        have E:Hid ((xh t g kid++[zX (-1),zX v]++xO (-2) x++xO (-4) d)=(xh t g kid++[zX (-1),zX v]++xO (-2) x)):=by rw[Hid,show xO (-4) d=[] from if_neg h0,List.append_nil]
        have xt:¬ (0:Int)<(d.length:Int):=by omega
        have qC:decide ((0:Int)<(d.length:Int))=false:=decide_eq_false xt;have o7:decide (0<d.length)=false:=decide_eq_false h0;clear h0;have HS:=Hh hS;clear hS;go_wp2_with fail
        go_meet
        rw[E.out]
        exact HS.out
       have xt:(0:Int)<(d.length:Int):=by omega
       have qC:decide ((0:Int)<(d.length:Int))=true:=decide_eq_true xt;have o7:decide (0<d.length)=true:=decide_eq_true h0;have E:Hid ((xh t g kid++[zX (-1),zX v]++xO (-2) x++xO (-4) d)=(xh t g kid++[zX (-1),zX v]++xO (-2) x)++[zX (-4),oq d]):=by rw[Hid,show xO (-4) d=[zX (-4),oq d] from if_pos h0]
       clear h0;have qF:=qF;obtain⟨LL,me⟩:∃ LL,(xh t g kid++[zX (-1),zX v]++xO (-2) x)=LL:=⟨_,rfl⟩
       rw[me]at hS qF;have qD:=Hh me;clear me;obtain⟨Hr,VA,m,vc,rfl,hm,hP⟩:=hS;have HL:=Hh (And.intro hm qF.out);clear hm;go_upto_region 12 with fail
       have c5:=hP.key.cell 5 rfl;replace hP:=hP.drew
       refine yt 6 (fun wx=>wx.cell? ⟨w.heap.size,5,none⟩=some (.slice Ad d.length cd)) (by kernel_rfl) (c5) (fun zy=>?_)
       refine Zk 0 rfl zy ?_
       refine Zk 2 rfl zy ?_
       refine Zk 3 rfl zy ?_
       refine Zo 1 rfl fun K hK=>?_
       go_simp
       refine(uR (-4) (by omega) (by omega) _ hP.grows.holds).mono ?_
       rintro e w3 ⟨v1,rfl,xa1,xb1,xc1,xd1,H1,rfl,ws,vt⟩
       have hP:=hP.grow ws
       refine hK.out _ _ (fun _=>?_) (fun zy=>?_)
       ·exact hP.key.cell 5 rfl
       clear hK K;have zy:=zy (by decide)
       try simp only[Act.put,zz1,zz2,zz3,zz4,zz5,zz6]
       refine Zo 4 rfl fun K hK=>?_
       go_simp
       refine(tS rfl (by have:=BL.out;omega) _ (Src.of_row (B1.out.2.2.1.row.mono hP.grows.le) hP.grows.holds) hP.grows.holds).mono ?_
       rintro e w4 ⟨v2,rfl,xa2,xb2,xc2,xd2,H2,rfl,yp,un⟩
       have hP:=hP.grow yp;have vt:=vt.mono yp.le
       refine hK.out _ _ (fun _=>?_) (fun zy=>?_)
       ·exact hP.key.cell 5 rfl
       clear hK K;have zy:=zy (by decide)
       try simp only[Act.put,zz1,zz2,zz3,zz4,zz5,zz6]
       refine Zo 5 rfl fun K hK=>?_
       go_simp
       have hZ:=hP.litZ (zg (zX (-4)) xa1 xb1 xc1 xd1++zg (.mk 2 0 d []) xa2 xb2 xc2 xd2).toArray 26;have hP:=hP.alloc (.cells (zg (zX (-4)) xa1 xb1 xc1 xd1++zg (.mk 2 0 d []) xa2 xb2 xc2 xd2).toArray 26)
       refine hK.out _ _ (fun _=>?_) (fun zy=>?_)
       ·exact hP.key.cell 5 rfl
       clear hK K;have zy:=zy (by decide)
       try simp only[Act.put,zz1,zz2,zz3,zz4,zz5,zz6]
       refine Zo 6 rfl fun K hK=>?_
       rw[if_pos (by rfl)]
       refine ym _ _ rfl _ _ _ _ rfl hP.own _ _ _ _ [_,_] rfl rfl ((ItemsC.one vt).app (ItemsC.one un)) hZ (by have:=HL.out;simp;omega) hP.base fun v7 w7 hown7 hg7 hat7=>?_
       have hP:=hP.app hown7 hg7 hat7;obtain⟨A7,c7,rfl,_⟩:=hown7.form;obtain⟨m7,lR⟩:∃ m7,(LL++[zX (-4),.mk 2 0 d []]).length=m7:=⟨_,rfl⟩
       rw[lR]at hP⊢;have XL:=Hh lR;clear hown7 hg7 hat7 hZ lR
       refine hK.out _ _ (fun h=>absurd h (by decide)) (fun _=>?_)
       clear hK K
       try simp only[Act.put,zz1,zz2,zz3,zz4,zz5,zz6]
       refine ZkT 7 rfl (fun h=>absurd h (by decide)) ?_
       refine WaysZ.done (by kernel_rfl) ?_
       clear zy;go_wp2_with fail
       go_meet
       exact(by rw[E.out,qD.out];exact⟨_,_,_,_,rfl,XL.out.symm,hP⟩)
      case rest =>
       clear hS c5;have hS:=hcut;clear hcut;obtain⟨Hr,VA,m,vc,rfl,hm,hP⟩:=hS;have hO:=hP.out;clear hP hm;go_wp2_with fail
       go_ret
       exact⟨_,rfl,by rw[EL.out];show kj w H _ (Value.slice VA m vc) _;rw[← List.append_assoc,← List.append_assoc];exact hO⟩
end Go.Proofs.YtnlinmoiakgedaaGreatDoor
namespace Go.Proofs.YtnlinmoiakgedaaGreatDoor
open Go.RowKit Go.Shelf
def WN:Go.Shelf.Ren:=⟨fun | 6=>67 | 10=>82 | 11=>83 | 12=>84 | 13=>85 | 14=>86 | 24=>108 | 25=>109 | 26=>110 | 27=>111 | 28=>112 | 29=>113 | 30=>114 | 31=>115 | 32=>116 | 33=>117 | 34=>121 | 35=>122 | 36=>123 | 37=>124 | 38=>125 | 39=>129 | n=>n,
 fun | 0=>0 | 3=>3 | 4=>4 | 5=>5 | 9=>9 | 12=>12 | 17=>17 | 20=>20 | 26=>101 | 32=>120 | 33=>121 | 35=>123 | 37=>125 | 41=>78 | 44=>131 | 49=>135 | 51=>22 | 53=>153 | 54=>154 | 58=>71 | 60=>161 | 64=>67 | 66=>168 | 67=>169 | 75=>182 | 76=>183 | 77=>184 | 78=>185 | 79=>186 | 80=>187 | 82=>189 | n=>n,fun n=>n⟩
theorem YL:LaysGg.n6 Tryz.prog WN where
 mixed:=by kernel_rfl
 f6:=Tryz.func67.trans (congrArg some (by kernel_rfl))
 f10:=Tryz.func82.trans (congrArg some (by kernel_rfl))
 f11:=Tryz.func83.trans (congrArg some (by kernel_rfl))
 f12:=Tryz.func84.trans (congrArg some (by kernel_rfl))
 f13:=Tryz.func85.trans (congrArg some (by kernel_rfl))
 f14:=Tryz.func86.trans (congrArg some (by kernel_rfl))
 f24:=Tryz.func108.trans (congrArg some (by kernel_rfl))
 f25:=Tryz.func109.trans (congrArg some (by kernel_rfl))
 f26:=Tryz.func110.trans (congrArg some (by kernel_rfl))
 f27:=Tryz.func111.trans (congrArg some (by kernel_rfl))
 f28:=Tryz.func112.trans (congrArg some (by kernel_rfl))
 f29:=Tryz.func113.trans (congrArg some (by kernel_rfl))
 f30:=Tryz.func114.trans (congrArg some (by kernel_rfl))
 f31:=Tryz.func115.trans (congrArg some (by kernel_rfl))
 f32:=Tryz.func116.trans (congrArg some (by kernel_rfl))
 f33:=Tryz.func117.trans (congrArg some (by kernel_rfl))
 f34:=Tryz.func121.trans (congrArg some (by kernel_rfl))
 f35:=Tryz.func122.trans (congrArg some (by kernel_rfl))
 f36:=Tryz.func123.trans (congrArg some (by kernel_rfl))
 f37:=Tryz.func124.trans (congrArg some (by kernel_rfl))
 f38:=Tryz.func125.trans (congrArg some (by kernel_rfl))
 f39:=Tryz.func129.trans (congrArg some (by kernel_rfl))
 t0:=Tryz.underlying0
 a0:=Tryz.isAgg0
 z0:=Tryz.sizeOf0
 v0:=Tryz.zeroValue0
 i0:=by kernel_rfl
 t3:=Tryz.underlying3
 a3:=Tryz.isAgg3
 z3:=Tryz.sizeOf3
 v3:=Tryz.zeroValue3
 i3:=by kernel_rfl
 t4:=Tryz.underlying4
 a4:=Tryz.isAgg4
 z4:=Tryz.sizeOf4
 v4:=Tryz.zeroValue4
 i4:=by kernel_rfl
 t5:=Tryz.underlying5
 a5:=Tryz.isAgg5
 z5:=Tryz.sizeOf5
 v5:=Tryz.zeroValue5
 i5:=by kernel_rfl
 t9:=Tryz.underlying9
 a9:=Tryz.isAgg9
 z9:=Tryz.sizeOf9
 v9:=Tryz.zeroValue9
 i9:=by kernel_rfl
 t12:=Tryz.underlying12
 a12:=Tryz.isAgg12
 z12:=Tryz.sizeOf12
 v12:=Tryz.zeroValue12
 i12:=by kernel_rfl
 t17:=Tryz.underlying17
 a17:=Tryz.isAgg17
 z17:=Tryz.sizeOf17
 v17:=Tryz.zeroValue17
 i17:=by kernel_rfl
 t20:=Tryz.underlying20
 a20:=Tryz.isAgg20
 z20:=Tryz.sizeOf20
 v20:=Tryz.zeroValue20
 i20:=by kernel_rfl
 t26:=Tryz.underlying101
 a26:=Tryz.isAgg101
 z26:=Tryz.sizeOf101
 v26:=Tryz.zeroValue101
 i26:=by kernel_rfl
 t32:=Tryz.underlying120
 a32:=Tryz.isAgg120
 z32:=Tryz.sizeOf120
 v32:=Tryz.zeroValue120
 i32:=by kernel_rfl
 t33:=Tryz.underlying121
 a33:=Tryz.isAgg121
 z33:=Tryz.sizeOf121
 v33:=Tryz.zeroValue121
 i33:=by kernel_rfl
 t35:=Tryz.underlying123
 a35:=Tryz.isAgg123
 z35:=Tryz.sizeOf123
 v35:=Tryz.zeroValue123
 i35:=by kernel_rfl
 t37:=Tryz.underlying125
 a37:=Tryz.isAgg125
 z37:=Tryz.sizeOf125
 v37:=Tryz.zeroValue125
 i37:=by kernel_rfl
 t41:=Tryz.underlying78
 a41:=Tryz.isAgg78
 z41:=Tryz.sizeOf78
 v41:=Tryz.zeroValue78
 i41:=by kernel_rfl
 t44:=Tryz.underlying131
 a44:=Tryz.isAgg131
 z44:=Tryz.sizeOf131
 v44:=Tryz.zeroValue131
 i44:=by kernel_rfl
 t49:=Tryz.underlying135
 a49:=Tryz.isAgg135
 z49:=Tryz.sizeOf135
 v49:=Tryz.zeroValue135
 i49:=by kernel_rfl
 t51:=Tryz.underlying22
 a51:=Tryz.isAgg22
 z51:=Tryz.sizeOf22
 v51:=Tryz.zeroValue22
 i51:=by kernel_rfl
 t53:=Tryz.underlying153
 a53:=Tryz.isAgg153
 z53:=Tryz.sizeOf153
 v53:=Tryz.zeroValue153
 i53:=by kernel_rfl
 t54:=Tryz.underlying154
 a54:=Tryz.isAgg154
 z54:=Tryz.sizeOf154
 v54:=Tryz.zeroValue154
 i54:=by kernel_rfl
 t58:=Tryz.underlying71
 a58:=Tryz.isAgg71
 z58:=Tryz.sizeOf71
 v58:=Tryz.zeroValue71
 i58:=by kernel_rfl
 t60:=Tryz.underlying161
 a60:=Tryz.isAgg161
 z60:=Tryz.sizeOf161
 v60:=Tryz.zeroValue161
 i60:=by kernel_rfl
 t64:=Tryz.underlying67
 a64:=Tryz.isAgg67
 z64:=Tryz.sizeOf67
 v64:=Tryz.zeroValue67
 i64:=by kernel_rfl
 t66:=Tryz.underlying168
 a66:=Tryz.isAgg168
 z66:=Tryz.sizeOf168
 v66:=Tryz.zeroValue168
 i66:=by kernel_rfl
 t67:=Tryz.underlying169
 a67:=Tryz.isAgg169
 z67:=Tryz.sizeOf169
 v67:=Tryz.zeroValue169
 i67:=by kernel_rfl
 t75:=Tryz.underlying182
 a75:=Tryz.isAgg182
 z75:=Tryz.sizeOf182
 v75:=Tryz.zeroValue182
 i75:=by kernel_rfl
 t76:=Tryz.underlying183
 a76:=Tryz.isAgg183
 z76:=Tryz.sizeOf183
 v76:=Tryz.zeroValue183
 i76:=by kernel_rfl
 t77:=Tryz.underlying184
 a77:=Tryz.isAgg184
 z77:=Tryz.sizeOf184
 v77:=Tryz.zeroValue184
 i77:=by kernel_rfl
 t78:=Tryz.underlying185
 a78:=Tryz.isAgg185
 z78:=Tryz.sizeOf185
 v78:=Tryz.zeroValue185
 i78:=by kernel_rfl
 t79:=Tryz.underlying186
 a79:=Tryz.isAgg186
 z79:=Tryz.sizeOf186
 v79:=Tryz.zeroValue186
 i79:=by kernel_rfl
 t80:=Tryz.underlying187
 a80:=Tryz.isAgg187
 z80:=Tryz.sizeOf187
 v80:=Tryz.zeroValue187
 i80:=by kernel_rfl
 t82:=Tryz.underlying189
 a82:=Tryz.isAgg189
 z82:=Tryz.sizeOf189
 v82:=Tryz.zeroValue189
 i82:=by kernel_rfl
end Go.Proofs.YtnlinmoiakgedaaGreatDoor
