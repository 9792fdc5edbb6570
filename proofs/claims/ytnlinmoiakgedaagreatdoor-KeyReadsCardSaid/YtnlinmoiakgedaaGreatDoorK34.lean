/- squeezed. Walks: the pairs of a key, by the  -/
import Derived.Test.YtnlinmoiakgedaaGreatDoorK33
set_option linter.unusedVariables false
set_option linter.unusedSimpArgs false
set_option maxRecDepth 100000
set_option maxHeartbeats 25600000
namespace Go.Proofs.YtnlinmoiakgedaaGreatDoor
open Go.RowKit
def xh (kty alg:Int) (kid:List UInt8):List Itm:=[zX 1,zX kty]++xO 2 kid++(if alg=0 then [] else [zX 3,zX alg])
def rf (kty crv alg:Int) (kid x d k:List UInt8):List Itm :=
 xh kty alg kid++(if kty=4 then xO (-1) k else [zX (-1),zX crv]++xO (-2) x++xO (-4) d)
theorem pj (n:Int) (b:List UInt8):(xO n b).length≤2:=by
 unfold xO;split <;> simp
theorem qg (kty alg:Int) (kid:List UInt8):(xh kty alg kid).length≤6:=by
 have:=pj 2 kid
 unfold xh
 split <;> simp <;> omega
def fN (w:World) (H:Snap) (L:List Itm) (e:Ending) (w':World):Prop:=∃ v,e=.returned v∧kj w H L v w'
theorem aJ {H:Snap}(t v g:Int) (ht : -9223372036854775808≤t∧t≤9223372036854775807) (hv : -9223372036854775808≤v∧v≤9223372036854775807) (hg : -9223372036854775808≤g∧g≤9223372036854775807)
  {Ai:Option Addr} {ci:Nat} {kid:List UInt8} (hi:IsBytes H Ai ci kid) {Ax:Option Addr} {cx:Nat} {x:List UInt8} (hx:IsBytes H Ax cx x)
  {Ad:Option Addr} {cd:Nat} {d:List UInt8} (hd:IsBytes H Ad cd d) {Ak:Option Addr} {ck:Nat} {k:List UInt8} (hk:IsBytes H Ak ck k)
  (hl:kid.length≤64∧x.length≤64∧d.length≤64∧k.length≤64) (w:World) (hH:Holds w H) :
  Calls Tryz.prog 56 #[.agg (wX t v g Ai kid.length ci Ax x.length cx Ad d.length cd Ak k.length ck)] w (fN w H (rf t v g kid x d k)):=by
 have hP:=RS.nil ((Grows.refl hH).alloc (.cells (wX t v g Ai kid.length ci Ax x.length cx Ad d.length cd Ak k.length ck) 33)) (hH.none_of_ge (Nat.le_refl _)) (Blk.new w 33 (wX t v g Ai kid.length ci Ax x.length cx Ad d.length cd Ak k.length ck));have KC:Hid (wX t v g Ai kid.length ci Ax x.length cx Ad d.length cd Ak k.length ck=#[.int .i64 t,.int .i64 v,.int .i64 g,.slice Ai kid.length ci,.slice Ax x.length cx,.slice Ad d.length cd,.slice Ak k.length ck]):=rfl;have D:=Hh (And.intro ht (And.intro hv hg));have B1:=Hh (And.intro hi (And.intro hx (And.intro hd hk)));have BL:=Hh hl;clear hi hx hd hk hl ht hv hg hH;go_enter Tryz.func56,Tryz.ntmps56
 go_upto_region 1 with fail
 go_cut [3] (fun s3 wx=>∃ B,s3=.pointer (some ⟨B,0,none⟩)∧PSt w H B (wX t v g Ai kid.length ci Ax x.length cx Ad d.length cd Ak k.length ck) [zX 1,zX t] wx)
 case first =>
  obtain⟨W1,St⟩:∃ W1,w.alloc (.cells (wX t v g Ai kid.length ci Ax x.length cx Ad d.length cd Ak k.length ck) 33)=W1:=⟨_,rfl⟩
  rw[St]at hP⊢;clear St;replace hP:=hP.drew;have c0:=hP.key.cell 0 rfl
  refine yt 6 (fun wx=>wx.cell? ⟨w.heap.size,0,none⟩=some (.int .i64 t)) (by kernel_rfl) (c0) (fun zy=>?_)
  refine Zk 1 rfl zy ?_
  refine Zk 2 rfl zy ?_
  refine WaysZ.two (i:=0) (j:=5) rfl rfl (by kernel_rfl) (fun K hK=>?_) (fun K hK=>?_)
  ·go_simp
   refine(wU 1 (by omega) (by omega) _ hP.grows.holds).mono ?_
   rintro e w3 ⟨v1,rfl,xa1,xb1,xc1,xd1,H1,rfl,ws,vt⟩
   have hP:=hP.grow ws
   try (have hM:=hM.grow ws)
   refine hK.out _ _ (fun _=>?_) (fun zy=>?_)
   ·exact hP.key.cell 0 rfl
   clear hK K;have zy:=zy (by decide)
   try simp only[Act.put,zz1,zz2,zz3,zz4,zz5,zz6]
   refine WaysZ.two (i:=3) (j:=5) rfl rfl (by kernel_rfl) (fun K hK=>?_) (fun K hK=>?_)
   ·go_simp
    refine(wU t D.out.1.1 D.out.1.2 _ hP.grows.holds).mono ?_
    rintro e w4 ⟨v2,rfl,xa2,xb2,xc2,xd2,H2,rfl,yp,un⟩
    have hP:=hP.grow yp;have vt:=vt.mono yp.le
    try (have hM:=hM.grow yp)
    refine hK.out _ _ (fun _=>?_) (fun zy=>?_)
    ·exact hP.key.cell 0 rfl
    clear hK K;have zy:=zy (by decide)
    try simp only[Act.put,zz1,zz2,zz3,zz4,zz5,zz6]
    refine WaysZ.two (i:=4) (j:=5) rfl rfl (by kernel_rfl) (fun K hK=>?_) (fun K hK=>?_)
    ·go_simp
     try (have hM:=hM.lit ((ItemsC.one vt).app (ItemsC.one un)) (by simp))
     have hP:=hP.litR ((ItemsC.one vt).app (ItemsC.one un)) (by simp)
     try (simp only[zV,yY]at hM)
     try (simp only[zV,yY]at hP)
     refine hK.out _ _ (fun _=>?_) (fun zy=>?_)
     ·exact hP.key.cell 0 rfl
     clear hK K;have zy:=zy (by decide)
     try simp only[Act.put,zz1,zz2,zz3,zz4,zz5,zz6]
     refine Zo 5 rfl fun K hK=>?_
     go_simp
     have hM:=PM.start (bv:=.slice none 0 0) hP;have hP:=hP.alloc (.cells #[.slice none 0 0] 24)
     try (simp only[zV,yY]at hM)
     refine hK.out _ _ (fun _=>?_) (fun zy=>?_)
     ·exact hP.key.cell 0 rfl
     clear hK K;have zy:=zy (by decide)
     try simp only[Act.put,zz1,zz2,zz3,zz4,zz5,zz6]
     refine Zo 6 rfl fun K hK=>?_
     rw[if_pos (by rfl)]
     refine ze _ _ _ rfl _ 0 _ rfl rfl _ _ hM.box zR (by simp) rfl fun w13 hB13 hg13=>?_
     have hM:=hM.setBox (by simpa using hB13) hg13
     refine hK.out _ _ (fun h=>absurd h (by decide)) (fun _=>?_)
     clear hK K
     try simp only[Act.put,zz1,zz2,zz3,zz4,zz5,zz6]
     refine WaysZ.done (by kernel_rfl) ?_
     clear zy;go_wp2_with fail
     go_meet
     exact⟨_,rfl,_,_,_,_,rfl,hM⟩
    ·go_simp
     have hM:=PM.start (bv:=.slice none 0 0) hP;have hP:=hP.alloc (.cells #[.slice none 0 0] 24)
     try (simp only[zV,yY]at hM)
     refine hK.out _ _ (fun _=>?_) (fun zy=>?_)
     ·exact hP.key.cell 0 rfl
     clear hK K;have zy:=zy (by decide)
     try simp only[Act.put,zz1,zz2,zz3,zz4,zz5,zz6]
     refine Zo 4 rfl fun K hK=>?_
     go_simp
     try (have hM:=hM.lit ((ItemsC.one vt).app (ItemsC.one un)) (by simp))
     have hP:=hP.litR ((ItemsC.one vt).app (ItemsC.one un)) (by simp)
     try (simp only[zV,yY]at hM)
     try (simp only[zV,yY]at hP)
     refine hK.out _ _ (fun _=>?_) (fun zy=>?_)
     ·exact hP.key.cell 0 rfl
     clear hK K;have zy:=zy (by decide)
     try simp only[Act.put,zz1,zz2,zz3,zz4,zz5,zz6]
     refine Zo 6 rfl fun K hK=>?_
     rw[if_pos (by rfl)]
     refine ze _ _ _ rfl _ 0 _ rfl rfl _ _ hM.box zR (by simp) rfl fun w13 hB13 hg13=>?_
     have hM:=hM.setBox (by simpa using hB13) hg13
     refine hK.out _ _ (fun h=>absurd h (by decide)) (fun _=>?_)
     clear hK K
     try simp only[Act.put,zz1,zz2,zz3,zz4,zz5,zz6]
     refine WaysZ.done (by kernel_rfl) ?_
     clear zy;go_wp2_with fail
     go_meet
     exact⟨_,rfl,_,_,_,_,rfl,hM⟩
   ·go_simp
    have hM:=PM.start (bv:=.slice none 0 0) hP;have hP:=hP.alloc (.cells #[.slice none 0 0] 24)
    try (simp only[zV,yY]at hM)
    refine hK.out _ _ (fun _=>?_) (fun zy=>?_)
    ·exact hP.key.cell 0 rfl
    clear hK K;have zy:=zy (by decide)
    try simp only[Act.put,zz1,zz2,zz3,zz4,zz5,zz6]
    refine Zo 3 rfl fun K hK=>?_
    go_simp
    refine(wU t D.out.1.1 D.out.1.2 _ hP.grows.holds).mono ?_
    rintro e w4 ⟨v2,rfl,xa2,xb2,xc2,xd2,H2,rfl,yp,un⟩
    have hP:=hP.grow yp;have vt:=vt.mono yp.le
    try (have hM:=hM.grow yp)
    refine hK.out _ _ (fun _=>?_) (fun zy=>?_)
    ·exact hP.key.cell 0 rfl
    clear hK K;have zy:=zy (by decide)
    try simp only[Act.put,zz1,zz2,zz3,zz4,zz5,zz6]
    refine Zo 4 rfl fun K hK=>?_
    go_simp
    try (have hM:=hM.lit ((ItemsC.one vt).app (ItemsC.one un)) (by simp))
    have hP:=hP.litR ((ItemsC.one vt).app (ItemsC.one un)) (by simp)
    try (simp only[zV,yY]at hM)
    try (simp only[zV,yY]at hP)
    refine hK.out _ _ (fun _=>?_) (fun zy=>?_)
    ·exact hP.key.cell 0 rfl
    clear hK K;have zy:=zy (by decide)
    try simp only[Act.put,zz1,zz2,zz3,zz4,zz5,zz6]
    refine Zo 6 rfl fun K hK=>?_
    rw[if_pos (by rfl)]
    refine ze _ _ _ rfl _ 0 _ rfl rfl _ _ hM.box zR (by simp) rfl fun w13 hB13 hg13=>?_
    have hM:=hM.setBox (by simpa using hB13) hg13
    refine hK.out _ _ (fun h=>absurd h (by decide)) (fun _=>?_)
    clear hK K
    try simp only[Act.put,zz1,zz2,zz3,zz4,zz5,zz6]
    refine WaysZ.done (by kernel_rfl) ?_
    clear zy;go_wp2_with fail
    go_meet
    exact⟨_,rfl,_,_,_,_,rfl,hM⟩
  ·go_simp
   have hM:=PM.start (bv:=.slice none 0 0) hP;have hP:=hP.alloc (.cells #[.slice none 0 0] 24)
   try (simp only[zV,yY]at hM)
   refine hK.out _ _ (fun _=>?_) (fun zy=>?_)
   ·exact hP.key.cell 0 rfl
   clear hK K;have zy:=zy (by decide)
   try simp only[Act.put,zz1,zz2,zz3,zz4,zz5,zz6]
   refine Zo 0 rfl fun K hK=>?_
   go_simp
   refine(wU 1 (by omega) (by omega) _ hP.grows.holds).mono ?_
   rintro e w3 ⟨v1,rfl,xa1,xb1,xc1,xd1,H1,rfl,ws,vt⟩
   have hP:=hP.grow ws
   try (have hM:=hM.grow ws)
   refine hK.out _ _ (fun _=>?_) (fun zy=>?_)
   ·exact hP.key.cell 0 rfl
   clear hK K;have zy:=zy (by decide)
   try simp only[Act.put,zz1,zz2,zz3,zz4,zz5,zz6]
   refine Zo 3 rfl fun K hK=>?_
   go_simp
   refine(wU t D.out.1.1 D.out.1.2 _ hP.grows.holds).mono ?_
   rintro e w4 ⟨v2,rfl,xa2,xb2,xc2,xd2,H2,rfl,yp,un⟩
   have hP:=hP.grow yp;have vt:=vt.mono yp.le
   try (have hM:=hM.grow yp)
   refine hK.out _ _ (fun _=>?_) (fun zy=>?_)
   ·exact hP.key.cell 0 rfl
   clear hK K;have zy:=zy (by decide)
   try simp only[Act.put,zz1,zz2,zz3,zz4,zz5,zz6]
   refine Zo 4 rfl fun K hK=>?_
   go_simp
   try (have hM:=hM.lit ((ItemsC.one vt).app (ItemsC.one un)) (by simp))
   have hP:=hP.litR ((ItemsC.one vt).app (ItemsC.one un)) (by simp)
   try (simp only[zV,yY]at hM)
   try (simp only[zV,yY]at hP)
   refine hK.out _ _ (fun _=>?_) (fun zy=>?_)
   ·exact hP.key.cell 0 rfl
   clear hK K;have zy:=zy (by decide)
   try simp only[Act.put,zz1,zz2,zz3,zz4,zz5,zz6]
   refine Zo 6 rfl fun K hK=>?_
   rw[if_pos (by rfl)]
   refine ze _ _ _ rfl _ 0 _ rfl rfl _ _ hM.box zR (by simp) rfl fun w13 hB13 hg13=>?_
   have hM:=hM.setBox (by simpa using hB13) hg13
   refine hK.out _ _ (fun h=>absurd h (by decide)) (fun _=>?_)
   clear hK K
   try simp only[Act.put,zz1,zz2,zz3,zz4,zz5,zz6]
   refine WaysZ.done (by kernel_rfl) ?_
   clear zy;go_wp2_with fail
   go_meet
   exact⟨_,rfl,_,_,_,_,rfl,hM⟩
 case rest =>
  clear hP;obtain⟨B,rfl,hS⟩:=hcut;have c3:=hS.key.cell 3 rfl;have HS:=Hh hS;clear hS;go_wp2_with fail
  refine(pM 2 (by omega) (by omega) B1.out.1 (by have:=BL.out;omega) (by simp) _ HS.out).mono ?_
  rintro e w2 ⟨rfl,hS⟩
  clear HS c3;have c2:=hS.key.cell 2 rfl;go_upto_if 17 with fail
  go_cut [17] (fun s17 wx=>PSt w H B (wX t v g Ai kid.length ci Ax x.length cx Ad d.length cd Ak k.length ck) (xh t g kid) wx)
  case first =>
   by_cases gc:g=0
   ·subst gc;have HS:=Hh hS;clear hS;go_wp2_with fail
    go_meet
    rw[xh,if_pos rfl,List.append_nil]
    exact HS.out
   ·have b1:(g != 0)=true:=by simp[gc]
    have p1:(g=0)=False:=eq_false gc;have EP:Hid (xh t g kid=[zX 1,zX t]++xO 2 kid++[zX 3,zX g]):=by rw[Hid,xh,if_neg gc]
    have qF:Hid (([zX 1,zX t]++xO 2 kid).length≤1000):=by have:=pj 2 kid;rw[Hid];simp;omega
    clear gc
    generalize [zX 1,zX t]++xO 2 kid=L at hS EP qF
    obtain⟨Hr,VA,m,vc,hm,hP⟩:=hS;have HL:=Hh (And.intro hm qF.out);have Qe:(m:Int)<(m:Int)+2:=by omega
    have Nq:(m:Int)+1<(m:Int)+2:=by omega
    have lQ:(0:Int)≤(m:Int)+1:=by omega
    have Nr:m<m+2:=by omega
    have o3:IntKind.i64.wrap ((m:Int)+1)=(m:Int)+1:=IntWalk.i64_in _ (by have:=qF.out;omega);obtain⟨X1,VZ⟩:∃ X,zX 3=X:=⟨_,rfl⟩
    obtain⟨X2,Va⟩:∃ X,zX g=X:=⟨_,rfl⟩
    have HX:=Hh (And.intro VZ Va);clear hm VZ Va qF;have c0:=hP.box.cell 0 rfl;go_upto_region 5 with fail
    replace hP:=hP.drew
    refine yt 7 (fun wx=>wx.cell? ⟨B,0,none⟩=some (.slice VA m vc)∧wx.cell? ⟨w.heap.size,2,none⟩=some (.int .i64 g)) (by kernel_rfl) (⟨c0,hP.row.key.cell 2 rfl⟩) (fun zy=>?_)
    refine Zk 0 rfl zy ?_
    refine Zk 2 rfl zy ?_
    refine Zk 3 rfl zy ?_
    refine Zk 5 rfl zy ?_
    refine ZkT 10 rfl (fun _=>zy) ?_
    refine WaysZ.two (i:=1) (j:=6) rfl rfl (by kernel_rfl) (fun K hK=>?_) (fun K hK=>?_)
    ·go_simp
     refine(wU (3) (by omega) (by omega) _ hP.row.grows.holds).mono ?_
     rintro e w1 ⟨v1,rfl,xa1,xb1,xc1,xd1,H1,rfl,ws,vt⟩
     rw[HX.out.1]at vt⊢;have hP:=hP.grow ws
     try (have hZ:=hZ.below ws.below)
     refine hK.out _ _ (fun _=>?_) (fun zy=>?_)
     ·exact⟨hP.box.cell 0 rfl,hP.row.key.cell 2 rfl⟩
     clear hK K;have zy:=zy (by decide)
     try simp only[Act.put,zz1,zz2,zz3,zz4,zz5,zz6]
     refine WaysZ.two (i:=4) (j:=6) rfl rfl (by kernel_rfl) (fun K hK=>?_) (fun K hK=>?_)
     ·go_simp
      refine(wU g D.out.2.2.1 D.out.2.2.2 _ hP.row.grows.holds).mono ?_
      rintro e w4 ⟨v2,rfl,xa2,xb2,xc2,xd2,H2,rfl,yp,un⟩
      rw[HX.out.2]at un⊢;have hP:=hP.grow yp
      try (have hZ:=hZ.below yp.below)
      have vt:=vt.mono yp.le
      refine hK.out _ _ (fun _=>?_) (fun zy=>?_)
      ·exact⟨hP.box.cell 0 rfl,hP.row.key.cell 2 rfl⟩
      clear hK K;have zy:=zy (by decide)
      try simp only[Act.put,zz1,zz2,zz3,zz4,zz5,zz6]
      refine Zo 6 rfl fun K hK=>?_
      go_simp
      have hZ:=hP.litZ vM 26;have hP:=hP.alloc (.cells vM 26)
      refine hK.out _ _ (fun _=>?_) (fun zy=>?_)
      ·exact⟨hP.box.cell 0 rfl,hP.row.key.cell 2 rfl⟩
      clear hK K;have zy:=zy (by decide)
      try simp only[Act.put,zz1,zz2,zz3,zz4,zz5,zz6]
      refine Zo 7 rfl fun K hK=>?_
      rw[if_pos (by rfl)]
      refine ym _ _ rfl _ _ _ _ rfl hP.row.own _ _ _ vM.toList [zt,zt] rfl rfl (vW _) hZ (by have:=HL.out;simp;omega) hP.row.base fun v7 w7 hown7 hg7 hat7=>?_
      have hP:=hP.app hown7 hg7 hat7;obtain⟨A7,c7,rfl,_⟩:=hown7.form;rw[show(L++[zt,zt]).length=m+2 by have:=HL.out;simp;omega]at hP⊢;obtain⟨g7,_,jf,_⟩:=hP.put (L1:=L) (z:=zt) (L2:=[zt]) (i:=m) rfl HL.out.1
      cases jf
      clear hown7 hg7 hat7
      refine hK.out _ _ (fun h=>absurd h (by decide)) (fun _=>?_)
      clear hK K
      try simp only[Act.put,zz1,zz2,zz3,zz4,zz5,zz6]
      refine ZkT 8 rfl (fun h=>absurd h (by decide)) ?_
      refine WaysZ.two (i:=9) (j:=13) rfl rfl (by kernel_rfl) (fun K hK=>?_) (fun K hK=>?_)
      ·rw[if_pos (by rfl)];obtain⟨g1,cur1,rF,yM,xE,xx⟩:=hP.put (L1:=L) (z:=zt) (L2:=[zt]) (i:=m) rfl (by have:=HL.out;first | omega | (simp;omega))
       cases rF
       refine za _ _ _ rfl g7 ((m)*4) _ rfl rfl _ _ yM zw xE (wu _ _ _ _ rfl rfl rfl rfl) fun w9 tk hg9=>?_
       have hP:=xx _ _ X1 (L++[X1,zt]) (ItemsC.one vt) rfl tk hg9;clear xx yM xE tk hg9
       refine hK.out _ _ (fun h=>absurd h (by decide)) (fun _=>?_)
       clear hK K
       try simp only[Act.put,zz1,zz2,zz3,zz4,zz5,zz6]
       refine ZkT 11 rfl (fun h=>absurd h (by decide)) ?_
       refine WaysZ.two (i:=12) (j:=13) rfl rfl (by kernel_rfl) (fun K hK=>?_) (fun K hK=>?_)
       ·rw[if_pos (by rfl)];obtain⟨g2,cur2,tc,yu,vO,yx⟩:=hP.put (L1:=L++[X1]) (z:=zt) (L2:=[]) (i:=m+1) (by rw[List.append_assoc];rfl) (by have:=HL.out;first | omega | (simp;omega))
        cases tc
        refine za _ _ _ rfl g7 ((m+1)*4) _ rfl rfl _ _ yu zw vO (wu _ _ _ _ rfl rfl rfl rfl) fun w12 hB12 hg12=>?_
        have hP:=yx _ _ X2 (L++[X1,X2]) (ItemsC.one un) (by rw[List.append_assoc];rfl) hB12 hg12;clear yx yu vO hB12 hg12
        refine hK.out _ _ (fun h=>absurd h (by decide)) (fun _=>?_)
        clear hK K
        try simp only[Act.put,zz1,zz2,zz3,zz4,zz5,zz6]
        refine Zo 13 rfl fun K hK=>?_
        rw[if_pos (by rfl)]
        refine ze _ _ _ rfl B 0 (.slice (some ⟨g7,0,none⟩) (m+2) c7) rfl rfl _ _ hP.box zR (by simp) rfl fun w13 hB13 hg13=>?_
        have hP:=hP.setBox (by simpa using hB13) hg13;clear hB13 hg13
        refine hK.out _ _ (fun h=>absurd h (by decide)) (fun _=>?_)
        clear hK K
        try simp only[Act.put,zz1,zz2,zz3,zz4,zz5,zz6]
        refine WaysZ.done (by kernel_rfl) ?_
        clear zy;go_wp2_with fail
        go_meet
        exact(by rw[EP.out,HX.out.1,HX.out.2];exact⟨_,_,_,_,by have:=HL.out;simp;omega,hP⟩)
       ·rw[if_pos (by rfl)]
        refine ze _ _ _ rfl B 0 (.slice (some ⟨g7,0,none⟩) (m+2) c7) rfl rfl _ _ hP.box zR (by simp) rfl fun w13 hB13 hg13=>?_
        have hP:=hP.setBox (by simpa using hB13) hg13;clear hB13 hg13
        refine hK.out _ _ (fun h=>absurd h (by decide)) (fun _=>?_)
        clear hK K
        try simp only[Act.put,zz1,zz2,zz3,zz4,zz5,zz6]
        refine Zo 12 rfl fun K hK=>?_
        rw[if_pos (by rfl)];obtain⟨g2,cur2,tc,yu,vO,yx⟩:=hP.put (L1:=L++[X1]) (z:=zt) (L2:=[]) (i:=m+1) (by rw[List.append_assoc];rfl) (by have:=HL.out;first | omega | (simp;omega))
        cases tc
        refine za _ _ _ rfl g7 ((m+1)*4) _ rfl rfl _ _ yu zw vO (wu _ _ _ _ rfl rfl rfl rfl) fun w12 hB12 hg12=>?_
        have hP:=yx _ _ X2 (L++[X1,X2]) (ItemsC.one un) (by rw[List.append_assoc];rfl) hB12 hg12;clear yx yu vO hB12 hg12
        refine hK.out _ _ (fun h=>absurd h (by decide)) (fun _=>?_)
        clear hK K
        try simp only[Act.put,zz1,zz2,zz3,zz4,zz5,zz6]
        refine WaysZ.done (by kernel_rfl) ?_
        clear zy;go_wp2_with fail
        go_meet
        exact(by rw[EP.out,HX.out.1,HX.out.2];exact⟨_,_,_,_,by have:=HL.out;simp;omega,hP⟩)
      ·rw[if_pos (by rfl)]
       refine ze _ _ _ rfl B 0 (.slice (some ⟨g7,0,none⟩) (m+2) c7) rfl rfl _ _ hP.box zR (by simp) rfl fun w13 hB13 hg13=>?_
       have hP:=hP.setBox (by simpa using hB13) hg13;clear hB13 hg13
       refine hK.out _ _ (fun h=>absurd h (by decide)) (fun _=>?_)
       clear hK K
       try simp only[Act.put,zz1,zz2,zz3,zz4,zz5,zz6]
       refine Zo 9 rfl fun K hK=>?_
       rw[if_pos (by rfl)];obtain⟨g1,cur1,rF,yM,xE,xx⟩:=hP.put (L1:=L) (z:=zt) (L2:=[zt]) (i:=m) rfl (by have:=HL.out;first | omega | (simp;omega))
       cases rF
       refine za _ _ _ rfl g7 ((m)*4) _ rfl rfl _ _ yM zw xE (wu _ _ _ _ rfl rfl rfl rfl) fun w9 tk hg9=>?_
       have hP:=xx _ _ X1 (L++[X1,zt]) (ItemsC.one vt) rfl tk hg9;clear xx yM xE tk hg9
       refine hK.out _ _ (fun h=>absurd h (by decide)) (fun _=>?_)
       clear hK K
       try simp only[Act.put,zz1,zz2,zz3,zz4,zz5,zz6]
       refine ZkT 11 rfl (fun h=>absurd h (by decide)) ?_
       refine Zo 12 rfl fun K hK=>?_
       rw[if_pos (by rfl)];obtain⟨g2,cur2,tc,yu,vO,yx⟩:=hP.put (L1:=L++[X1]) (z:=zt) (L2:=[]) (i:=m+1) (by rw[List.append_assoc];rfl) (by have:=HL.out;first | omega | (simp;omega))
       cases tc
       refine za _ _ _ rfl g7 ((m+1)*4) _ rfl rfl _ _ yu zw vO (wu _ _ _ _ rfl rfl rfl rfl) fun w12 hB12 hg12=>?_
       have hP:=yx _ _ X2 (L++[X1,X2]) (ItemsC.one un) (by rw[List.append_assoc];rfl) hB12 hg12;clear yx yu vO hB12 hg12
       refine hK.out _ _ (fun h=>absurd h (by decide)) (fun _=>?_)
       clear hK K
       try simp only[Act.put,zz1,zz2,zz3,zz4,zz5,zz6]
       refine WaysZ.done (by kernel_rfl) ?_
       clear zy;go_wp2_with fail
       go_meet
       exact(by rw[EP.out,HX.out.1,HX.out.2];exact⟨_,_,_,_,by have:=HL.out;simp;omega,hP⟩)
     ·go_simp
      have hZ:=hP.litZ vM 26;have hP:=hP.alloc (.cells vM 26)
      refine hK.out _ _ (fun _=>?_) (fun zy=>?_)
      ·exact⟨hP.box.cell 0 rfl,hP.row.key.cell 2 rfl⟩
      clear hK K;have zy:=zy (by decide)
      try simp only[Act.put,zz1,zz2,zz3,zz4,zz5,zz6]
      refine Zo 4 rfl fun K hK=>?_
      go_simp
      refine(wU g D.out.2.2.1 D.out.2.2.2 _ hP.row.grows.holds).mono ?_
      rintro e w4 ⟨v2,rfl,xa2,xb2,xc2,xd2,H2,rfl,yp,un⟩
      rw[HX.out.2]at un⊢;have hP:=hP.grow yp
      try (have hZ:=hZ.below yp.below)
      have vt:=vt.mono yp.le
      refine hK.out _ _ (fun _=>?_) (fun zy=>?_)
      ·exact⟨hP.box.cell 0 rfl,hP.row.key.cell 2 rfl⟩
      clear hK K;have zy:=zy (by decide)
      try simp only[Act.put,zz1,zz2,zz3,zz4,zz5,zz6]
      refine Zo 7 rfl fun K hK=>?_
      rw[if_pos (by rfl)]
      refine ym _ _ rfl _ _ _ _ rfl hP.row.own _ _ _ vM.toList [zt,zt] rfl rfl (vW _) hZ (by have:=HL.out;simp;omega) hP.row.base fun v7 w7 hown7 hg7 hat7=>?_
      have hP:=hP.app hown7 hg7 hat7;obtain⟨A7,c7,rfl,_⟩:=hown7.form;rw[show(L++[zt,zt]).length=m+2 by have:=HL.out;simp;omega]at hP⊢;obtain⟨g7,_,jf,_⟩:=hP.put (L1:=L) (z:=zt) (L2:=[zt]) (i:=m) rfl HL.out.1
      cases jf
      clear hown7 hg7 hat7
      refine hK.out _ _ (fun h=>absurd h (by decide)) (fun _=>?_)
      clear hK K
      try simp only[Act.put,zz1,zz2,zz3,zz4,zz5,zz6]
      refine ZkT 8 rfl (fun h=>absurd h (by decide)) ?_
      refine WaysZ.two (i:=9) (j:=13) rfl rfl (by kernel_rfl) (fun K hK=>?_) (fun K hK=>?_)
      ·rw[if_pos (by rfl)];obtain⟨g1,cur1,rF,yM,xE,xx⟩:=hP.put (L1:=L) (z:=zt) (L2:=[zt]) (i:=m) rfl (by have:=HL.out;first | omega | (simp;omega))
       cases rF
       refine za _ _ _ rfl g7 ((m)*4) _ rfl rfl _ _ yM zw xE (wu _ _ _ _ rfl rfl rfl rfl) fun w9 tk hg9=>?_
       have hP:=xx _ _ X1 (L++[X1,zt]) (ItemsC.one vt) rfl tk hg9;clear xx yM xE tk hg9
       refine hK.out _ _ (fun h=>absurd h (by decide)) (fun _=>?_)
       clear hK K
       try simp only[Act.put,zz1,zz2,zz3,zz4,zz5,zz6]
       refine ZkT 11 rfl (fun h=>absurd h (by decide)) ?_
       refine WaysZ.two (i:=12) (j:=13) rfl rfl (by kernel_rfl) (fun K hK=>?_) (fun K hK=>?_)
       ·rw[if_pos (by rfl)];obtain⟨g2,cur2,tc,yu,vO,yx⟩:=hP.put (L1:=L++[X1]) (z:=zt) (L2:=[]) (i:=m+1) (by rw[List.append_assoc];rfl) (by have:=HL.out;first | omega | (simp;omega))
        cases tc
        refine za _ _ _ rfl g7 ((m+1)*4) _ rfl rfl _ _ yu zw vO (wu _ _ _ _ rfl rfl rfl rfl) fun w12 hB12 hg12=>?_
        have hP:=yx _ _ X2 (L++[X1,X2]) (ItemsC.one un) (by rw[List.append_assoc];rfl) hB12 hg12;clear yx yu vO hB12 hg12
        refine hK.out _ _ (fun h=>absurd h (by decide)) (fun _=>?_)
        clear hK K
        try simp only[Act.put,zz1,zz2,zz3,zz4,zz5,zz6]
        refine Zo 13 rfl fun K hK=>?_
        rw[if_pos (by rfl)]
        refine ze _ _ _ rfl B 0 (.slice (some ⟨g7,0,none⟩) (m+2) c7) rfl rfl _ _ hP.box zR (by simp) rfl fun w13 hB13 hg13=>?_
        have hP:=hP.setBox (by simpa using hB13) hg13;clear hB13 hg13
        refine hK.out _ _ (fun h=>absurd h (by decide)) (fun _=>?_)
        clear hK K
        try simp only[Act.put,zz1,zz2,zz3,zz4,zz5,zz6]
        refine WaysZ.done (by kernel_rfl) ?_
        clear zy;go_wp2_with fail
        go_meet
        exact(by rw[EP.out,HX.out.1,HX.out.2];exact⟨_,_,_,_,by have:=HL.out;simp;omega,hP⟩)
       ·rw[if_pos (by rfl)]
        refine ze _ _ _ rfl B 0 (.slice (some ⟨g7,0,none⟩) (m+2) c7) rfl rfl _ _ hP.box zR (by simp) rfl fun w13 hB13 hg13=>?_
        have hP:=hP.setBox (by simpa using hB13) hg13;clear hB13 hg13
        refine hK.out _ _ (fun h=>absurd h (by decide)) (fun _=>?_)
        clear hK K
        try simp only[Act.put,zz1,zz2,zz3,zz4,zz5,zz6]
        refine Zo 12 rfl fun K hK=>?_
        rw[if_pos (by rfl)];obtain⟨g2,cur2,tc,yu,vO,yx⟩:=hP.put (L1:=L++[X1]) (z:=zt) (L2:=[]) (i:=m+1) (by rw[List.append_assoc];rfl) (by have:=HL.out;first | omega | (simp;omega))
        cases tc
        refine za _ _ _ rfl g7 ((m+1)*4) _ rfl rfl _ _ yu zw vO (wu _ _ _ _ rfl rfl rfl rfl) fun w12 hB12 hg12=>?_
        have hP:=yx _ _ X2 (L++[X1,X2]) (ItemsC.one un) (by rw[List.append_assoc];rfl) hB12 hg12;clear yx yu vO hB12 hg12
        refine hK.out _ _ (fun h=>absurd h (by decide)) (fun _=>?_)
        clear hK K
        try simp only[Act.put,zz1,zz2,zz3,zz4,zz5,zz6]
        refine WaysZ.done (by kernel_rfl) ?_
        clear zy;go_wp2_with fail
        go_meet
        exact(by rw[EP.out,HX.out.1,HX.out.2];exact⟨_,_,_,_,by have:=HL.out;simp;omega,hP⟩)
      ·rw[if_pos (by rfl)]
       refine ze _ _ _ rfl B 0 (.slice (some ⟨g7,0,none⟩) (m+2) c7) rfl rfl _ _ hP.box zR (by simp) rfl fun w13 hB13 hg13=>?_
       have hP:=hP.setBox (by simpa using hB13) hg13;clear hB13 hg13
       refine hK.out _ _ (fun h=>absurd h (by decide)) (fun _=>?_)
       clear hK K
       try simp only[Act.put,zz1,zz2,zz3,zz4,zz5,zz6]
       refine Zo 9 rfl fun K hK=>?_
       rw[if_pos (by rfl)];obtain⟨g1,cur1,rF,yM,xE,xx⟩:=hP.put (L1:=L) (z:=zt) (L2:=[zt]) (i:=m) rfl (by have:=HL.out;first | omega | (simp;omega))
       cases rF
       refine za _ _ _ rfl g7 ((m)*4) _ rfl rfl _ _ yM zw xE (wu _ _ _ _ rfl rfl rfl rfl) fun w9 tk hg9=>?_
       have hP:=xx _ _ X1 (L++[X1,zt]) (ItemsC.one vt) rfl tk hg9;clear xx yM xE tk hg9
       refine hK.out _ _ (fun h=>absurd h (by decide)) (fun _=>?_)
       clear hK K
       try simp only[Act.put,zz1,zz2,zz3,zz4,zz5,zz6]
       refine ZkT 11 rfl (fun h=>absurd h (by decide)) ?_
       refine Zo 12 rfl fun K hK=>?_
       rw[if_pos (by rfl)];obtain⟨g2,cur2,tc,yu,vO,yx⟩:=hP.put (L1:=L++[X1]) (z:=zt) (L2:=[]) (i:=m+1) (by rw[List.append_assoc];rfl) (by have:=HL.out;first | omega | (simp;omega))
       cases tc
       refine za _ _ _ rfl g7 ((m+1)*4) _ rfl rfl _ _ yu zw vO (wu _ _ _ _ rfl rfl rfl rfl) fun w12 hB12 hg12=>?_
       have hP:=yx _ _ X2 (L++[X1,X2]) (ItemsC.one un) (by rw[List.append_assoc];rfl) hB12 hg12;clear yx yu vO hB12 hg12
       refine hK.out _ _ (fun h=>absurd h (by decide)) (fun _=>?_)
       clear hK K
       try simp only[Act.put,zz1,zz2,zz3,zz4,zz5,zz6]
       refine WaysZ.done (by kernel_rfl) ?_
       clear zy;go_wp2_with fail
       go_meet
       exact(by rw[EP.out,HX.out.1,HX.out.2];exact⟨_,_,_,_,by have:=HL.out;simp;omega,hP⟩)
    ·go_simp
     have hZ:=hP.litZ vM 26;have hP:=hP.alloc (.cells vM 26)
     refine hK.out _ _ (fun _=>?_) (fun zy=>?_)
     ·exact⟨hP.box.cell 0 rfl,hP.row.key.cell 2 rfl⟩
     clear hK K;have zy:=zy (by decide)
     try simp only[Act.put,zz1,zz2,zz3,zz4,zz5,zz6]
     refine Zo 1 rfl fun K hK=>?_
     go_simp
     refine(wU (3) (by omega) (by omega) _ hP.row.grows.holds).mono ?_
     rintro e w1 ⟨v1,rfl,xa1,xb1,xc1,xd1,H1,rfl,ws,vt⟩
     rw[HX.out.1]at vt⊢;have hP:=hP.grow ws
     try (have hZ:=hZ.below ws.below)
     refine hK.out _ _ (fun _=>?_) (fun zy=>?_)
     ·exact⟨hP.box.cell 0 rfl,hP.row.key.cell 2 rfl⟩
     clear hK K;have zy:=zy (by decide)
     try simp only[Act.put,zz1,zz2,zz3,zz4,zz5,zz6]
     refine Zo 4 rfl fun K hK=>?_
     go_simp
     refine(wU g D.out.2.2.1 D.out.2.2.2 _ hP.row.grows.holds).mono ?_
     rintro e w4 ⟨v2,rfl,xa2,xb2,xc2,xd2,H2,rfl,yp,un⟩
     rw[HX.out.2]at un⊢;have hP:=hP.grow yp
     try (have hZ:=hZ.below yp.below)
     have vt:=vt.mono yp.le
     refine hK.out _ _ (fun _=>?_) (fun zy=>?_)
     ·exact⟨hP.box.cell 0 rfl,hP.row.key.cell 2 rfl⟩
     clear hK K;have zy:=zy (by decide)
     try simp only[Act.put,zz1,zz2,zz3,zz4,zz5,zz6]
     refine Zo 7 rfl fun K hK=>?_
     rw[if_pos (by rfl)]
     refine ym _ _ rfl _ _ _ _ rfl hP.row.own _ _ _ vM.toList [zt,zt] rfl rfl (vW _) hZ (by have:=HL.out;simp;omega) hP.row.base fun v7 w7 hown7 hg7 hat7=>?_
     have hP:=hP.app hown7 hg7 hat7;obtain⟨A7,c7,rfl,_⟩:=hown7.form;rw[show(L++[zt,zt]).length=m+2 by have:=HL.out;simp;omega]at hP⊢;obtain⟨g7,_,jf,_⟩:=hP.put (L1:=L) (z:=zt) (L2:=[zt]) (i:=m) rfl HL.out.1
     cases jf
     clear hown7 hg7 hat7
     refine hK.out _ _ (fun h=>absurd h (by decide)) (fun _=>?_)
     clear hK K
     try simp only[Act.put,zz1,zz2,zz3,zz4,zz5,zz6]
     refine ZkT 8 rfl (fun h=>absurd h (by decide)) ?_
     refine WaysZ.two (i:=9) (j:=13) rfl rfl (by kernel_rfl) (fun K hK=>?_) (fun K hK=>?_)
     ·rw[if_pos (by rfl)];obtain⟨g1,cur1,rF,yM,xE,xx⟩:=hP.put (L1:=L) (z:=zt) (L2:=[zt]) (i:=m) rfl (by have:=HL.out;first | omega | (simp;omega))
      cases rF
      refine za _ _ _ rfl g7 ((m)*4) _ rfl rfl _ _ yM zw xE (wu _ _ _ _ rfl rfl rfl rfl) fun w9 tk hg9=>?_
      have hP:=xx _ _ X1 (L++[X1,zt]) (ItemsC.one vt) rfl tk hg9;clear xx yM xE tk hg9
      refine hK.out _ _ (fun h=>absurd h (by decide)) (fun _=>?_)
      clear hK K
      try simp only[Act.put,zz1,zz2,zz3,zz4,zz5,zz6]
      refine ZkT 11 rfl (fun h=>absurd h (by decide)) ?_
      refine WaysZ.two (i:=12) (j:=13) rfl rfl (by kernel_rfl) (fun K hK=>?_) (fun K hK=>?_)
      ·rw[if_pos (by rfl)];obtain⟨g2,cur2,tc,yu,vO,yx⟩:=hP.put (L1:=L++[X1]) (z:=zt) (L2:=[]) (i:=m+1) (by rw[List.append_assoc];rfl) (by have:=HL.out;first | omega | (simp;omega))
       cases tc
       refine za _ _ _ rfl g7 ((m+1)*4) _ rfl rfl _ _ yu zw vO (wu _ _ _ _ rfl rfl rfl rfl) fun w12 hB12 hg12=>?_
       have hP:=yx _ _ X2 (L++[X1,X2]) (ItemsC.one un) (by rw[List.append_assoc];rfl) hB12 hg12;clear yx yu vO hB12 hg12
       refine hK.out _ _ (fun h=>absurd h (by decide)) (fun _=>?_)
       clear hK K
       try simp only[Act.put,zz1,zz2,zz3,zz4,zz5,zz6]
       refine Zo 13 rfl fun K hK=>?_
       rw[if_pos (by rfl)]
       refine ze _ _ _ rfl B 0 (.slice (some ⟨g7,0,none⟩) (m+2) c7) rfl rfl _ _ hP.box zR (by simp) rfl fun w13 hB13 hg13=>?_
       have hP:=hP.setBox (by simpa using hB13) hg13;clear hB13 hg13
       refine hK.out _ _ (fun h=>absurd h (by decide)) (fun _=>?_)
       clear hK K
       try simp only[Act.put,zz1,zz2,zz3,zz4,zz5,zz6]
       refine WaysZ.done (by kernel_rfl) ?_
       clear zy;go_wp2_with fail
       go_meet
       exact(by rw[EP.out,HX.out.1,HX.out.2];exact⟨_,_,_,_,by have:=HL.out;simp;omega,hP⟩)
      ·rw[if_pos (by rfl)]
       refine ze _ _ _ rfl B 0 (.slice (some ⟨g7,0,none⟩) (m+2) c7) rfl rfl _ _ hP.box zR (by simp) rfl fun w13 hB13 hg13=>?_
       have hP:=hP.setBox (by simpa using hB13) hg13;clear hB13 hg13
       refine hK.out _ _ (fun h=>absurd h (by decide)) (fun _=>?_)
       clear hK K
       try simp only[Act.put,zz1,zz2,zz3,zz4,zz5,zz6]
       refine Zo 12 rfl fun K hK=>?_
       rw[if_pos (by rfl)];obtain⟨g2,cur2,tc,yu,vO,yx⟩:=hP.put (L1:=L++[X1]) (z:=zt) (L2:=[]) (i:=m+1) (by rw[List.append_assoc];rfl) (by have:=HL.out;first | omega | (simp;omega))
       cases tc
       refine za _ _ _ rfl g7 ((m+1)*4) _ rfl rfl _ _ yu zw vO (wu _ _ _ _ rfl rfl rfl rfl) fun w12 hB12 hg12=>?_
       have hP:=yx _ _ X2 (L++[X1,X2]) (ItemsC.one un) (by rw[List.append_assoc];rfl) hB12 hg12;clear yx yu vO hB12 hg12
       refine hK.out _ _ (fun h=>absurd h (by decide)) (fun _=>?_)
       clear hK K
       try simp only[Act.put,zz1,zz2,zz3,zz4,zz5,zz6]
       refine WaysZ.done (by kernel_rfl) ?_
       clear zy;go_wp2_with fail
       go_meet
       exact(by rw[EP.out,HX.out.1,HX.out.2];exact⟨_,_,_,_,by have:=HL.out;simp;omega,hP⟩)
     ·rw[if_pos (by rfl)]
      refine ze _ _ _ rfl B 0 (.slice (some ⟨g7,0,none⟩) (m+2) c7) rfl rfl _ _ hP.box zR (by simp) rfl fun w13 hB13 hg13=>?_
      have hP:=hP.setBox (by simpa using hB13) hg13;clear hB13 hg13
      refine hK.out _ _ (fun h=>absurd h (by decide)) (fun _=>?_)
      clear hK K
      try simp only[Act.put,zz1,zz2,zz3,zz4,zz5,zz6]
      refine Zo 9 rfl fun K hK=>?_
      rw[if_pos (by rfl)];obtain⟨g1,cur1,rF,yM,xE,xx⟩:=hP.put (L1:=L) (z:=zt) (L2:=[zt]) (i:=m) rfl (by have:=HL.out;first | omega | (simp;omega))
      cases rF
      refine za _ _ _ rfl g7 ((m)*4) _ rfl rfl _ _ yM zw xE (wu _ _ _ _ rfl rfl rfl rfl) fun w9 tk hg9=>?_
      have hP:=xx _ _ X1 (L++[X1,zt]) (ItemsC.one vt) rfl tk hg9;clear xx yM xE tk hg9
      refine hK.out _ _ (fun h=>absurd h (by decide)) (fun _=>?_)
      clear hK K
      try simp only[Act.put,zz1,zz2,zz3,zz4,zz5,zz6]
      refine ZkT 11 rfl (fun h=>absurd h (by decide)) ?_
      refine Zo 12 rfl fun K hK=>?_
      rw[if_pos (by rfl)];obtain⟨g2,cur2,tc,yu,vO,yx⟩:=hP.put (L1:=L++[X1]) (z:=zt) (L2:=[]) (i:=m+1) (by rw[List.append_assoc];rfl) (by have:=HL.out;first | omega | (simp;omega))
      cases tc
      refine za _ _ _ rfl g7 ((m+1)*4) _ rfl rfl _ _ yu zw vO (wu _ _ _ _ rfl rfl rfl rfl) fun w12 hB12 hg12=>?_
      have hP:=yx _ _ X2 (L++[X1,X2]) (ItemsC.one un) (by rw[List.append_assoc];rfl) hB12 hg12;clear yx yu vO hB12 hg12
      refine hK.out _ _ (fun h=>absurd h (by decide)) (fun _=>?_)
      clear hK K
      try simp only[Act.put,zz1,zz2,zz3,zz4,zz5,zz6]
      refine WaysZ.done (by kernel_rfl) ?_
      clear zy;go_wp2_with fail
      go_meet
      exact(by rw[EP.out,HX.out.1,HX.out.2];exact⟨_,_,_,_,by have:=HL.out;simp;omega,hP⟩)
  case rest =>
   clear hS c2;have hS:=hcut;clear hcut;have c0:=hS.key.cell 0 rfl
   by_cases ie:t=4
   ·subst ie;have c6:=hS.key.cell 6 rfl;have HS:=Hh hS;clear hS;go_wp2_with fail
    refine(pM (-1) (by omega) (by omega) B1.out.2.2.2 (by have:=BL.out;omega) (by have:=qg 4 g kid;omega) _ HS.out).mono ?_
    rintro e w5 ⟨rfl,hS⟩
    clear HS c6 c0;obtain⟨A9,m9,c9,cB,hO⟩:=hS.out;clear hS;go_wp2_with fail
    go_ret
    exact⟨_,rfl,by rw[rf,if_pos rfl];exact hO⟩
   ·have b4:(t==4)=false:=by rw[beq_eq_false_iff_ne];exact ie
    have p4:(t=4)=False:=eq_false ie;have EL:Hid (rf t v g kid x d k=xh t g kid++([zX (-1),zX v]++xO (-2) x++xO (-4) d)):=by rw[Hid,rf,if_neg ie]
    have qF:Hid ((xh t g kid).length≤6):=qg t g kid;clear ie
    generalize xh t g kid=L at hS EL qF
    go_upto_region 9 with fail
    go_cut [37] (fun s37 wx=>PSt w H B (wX t v g Ai kid.length ci Ax x.length cx Ad d.length cd Ak k.length ck) (L++[zX (-1),zX v]) wx)
    case first =>
     have c1:=hS.key.cell 1 rfl;obtain⟨Hr,VA,m,vc,hm,hP⟩:=hS;have HL:=Hh (And.intro hm (show L.length≤1000 by have:=qF.out;omega));have Qe:(m:Int)<(m:Int)+2:=by omega
     have Nq:(m:Int)+1<(m:Int)+2:=by omega
     have lQ:(0:Int)≤(m:Int)+1:=by omega
     have Nr:m<m+2:=by omega
     have o3:IntKind.i64.wrap ((m:Int)+1)=(m:Int)+1:=IntWalk.i64_in _ (by have:=qF.out;omega);obtain⟨X1,VZ⟩:∃ X,zX (-1)=X:=⟨_,rfl⟩
     obtain⟨X2,Va⟩:∃ X,zX v=X:=⟨_,rfl⟩
     have HX:=Hh (And.intro VZ Va);clear hm VZ Va;have c0:=hP.box.cell 0 rfl;replace hP:=hP.drew
     refine yt 7 (fun wx=>wx.cell? ⟨B,0,none⟩=some (.slice VA m vc)∧wx.cell? ⟨w.heap.size,1,none⟩=some (.int .i64 v)) (by kernel_rfl) (⟨c0,hP.row.key.cell 1 rfl⟩) (fun zy=>?_)
     refine Zk 0 rfl zy ?_
     refine Zk 2 rfl zy ?_
     refine Zk 3 rfl zy ?_
     refine Zk 5 rfl zy ?_
     refine ZkT 10 rfl (fun _=>zy) ?_
     refine WaysZ.two (i:=1) (j:=6) rfl rfl (by kernel_rfl) (fun K hK=>?_) (fun K hK=>?_)
     ·go_simp
      refine(wU (-1) (by omega) (by omega) _ hP.row.grows.holds).mono ?_
      rintro e w1 ⟨v1,rfl,xa1,xb1,xc1,xd1,H1,rfl,ws,vt⟩
      rw[HX.out.1]at vt⊢;have hP:=hP.grow ws
      try (have hZ:=hZ.below ws.below)
      refine hK.out _ _ (fun _=>?_) (fun zy=>?_)
      ·exact⟨hP.box.cell 0 rfl,hP.row.key.cell 1 rfl⟩
      clear hK K;have zy:=zy (by decide)
      try simp only[Act.put,zz1,zz2,zz3,zz4,zz5,zz6]
      refine WaysZ.two (i:=4) (j:=6) rfl rfl (by kernel_rfl) (fun K hK=>?_) (fun K hK=>?_)
      ·go_simp
       refine(wU v D.out.2.1.1 D.out.2.1.2 _ hP.row.grows.holds).mono ?_
       rintro e w4 ⟨v2,rfl,xa2,xb2,xc2,xd2,H2,rfl,yp,un⟩
       rw[HX.out.2]at un⊢;have hP:=hP.grow yp
       try (have hZ:=hZ.below yp.below)
       have vt:=vt.mono yp.le
       refine hK.out _ _ (fun _=>?_) (fun zy=>?_)
       ·exact⟨hP.box.cell 0 rfl,hP.row.key.cell 1 rfl⟩
       clear hK K;have zy:=zy (by decide)
       try simp only[Act.put,zz1,zz2,zz3,zz4,zz5,zz6]
       refine Zo 6 rfl fun K hK=>?_
       go_simp
       have hZ:=hP.litZ vM 26;have hP:=hP.alloc (.cells vM 26)
       refine hK.out _ _ (fun _=>?_) (fun zy=>?_)
       ·exact⟨hP.box.cell 0 rfl,hP.row.key.cell 1 rfl⟩
       clear hK K;have zy:=zy (by decide)
       try simp only[Act.put,zz1,zz2,zz3,zz4,zz5,zz6]
       refine Zo 7 rfl fun K hK=>?_
       rw[if_pos (by rfl)]
       refine ym _ _ rfl _ _ _ _ rfl hP.row.own _ _ _ vM.toList [zt,zt] rfl rfl (vW _) hZ (by have:=HL.out;simp;omega) hP.row.base fun v7 w7 hown7 hg7 hat7=>?_
       have hP:=hP.app hown7 hg7 hat7;obtain⟨A7,c7,rfl,_⟩:=hown7.form;rw[show(L++[zt,zt]).length=m+2 by have:=HL.out;simp;omega]at hP⊢;obtain⟨g7,_,jf,_⟩:=hP.put (L1:=L) (z:=zt) (L2:=[zt]) (i:=m) rfl HL.out.1
       cases jf
       clear hown7 hg7 hat7
       refine hK.out _ _ (fun h=>absurd h (by decide)) (fun _=>?_)
       clear hK K
       try simp only[Act.put,zz1,zz2,zz3,zz4,zz5,zz6]
       refine ZkT 8 rfl (fun h=>absurd h (by decide)) ?_
       refine WaysZ.two (i:=9) (j:=13) rfl rfl (by kernel_rfl) (fun K hK=>?_) (fun K hK=>?_)
       ·rw[if_pos (by rfl)];obtain⟨g1,cur1,rF,yM,xE,xx⟩:=hP.put (L1:=L) (z:=zt) (L2:=[zt]) (i:=m) rfl (by have:=HL.out;first | omega | (simp;omega))
        cases rF
        refine za _ _ _ rfl g7 ((m)*4) _ rfl rfl _ _ yM zw xE (wu _ _ _ _ rfl rfl rfl rfl) fun w9 tk hg9=>?_
        have hP:=xx _ _ X1 (L++[X1,zt]) (ItemsC.one vt) rfl tk hg9;clear xx yM xE tk hg9
        refine hK.out _ _ (fun h=>absurd h (by decide)) (fun _=>?_)
        clear hK K
        try simp only[Act.put,zz1,zz2,zz3,zz4,zz5,zz6]
        refine ZkT 11 rfl (fun h=>absurd h (by decide)) ?_
        refine WaysZ.two (i:=12) (j:=13) rfl rfl (by kernel_rfl) (fun K hK=>?_) (fun K hK=>?_)
        ·rw[if_pos (by rfl)];obtain⟨g2,cur2,tc,yu,vO,yx⟩:=hP.put (L1:=L++[X1]) (z:=zt) (L2:=[]) (i:=m+1) (by rw[List.append_assoc];rfl) (by have:=HL.out;first | omega | (simp;omega))
         cases tc
         refine za _ _ _ rfl g7 ((m+1)*4) _ rfl rfl _ _ yu zw vO (wu _ _ _ _ rfl rfl rfl rfl) fun w12 hB12 hg12=>?_
         have hP:=yx _ _ X2 (L++[X1,X2]) (ItemsC.one un) (by rw[List.append_assoc];rfl) hB12 hg12;clear yx yu vO hB12 hg12
         refine hK.out _ _ (fun h=>absurd h (by decide)) (fun _=>?_)
         clear hK K
         try simp only[Act.put,zz1,zz2,zz3,zz4,zz5,zz6]
         refine Zo 13 rfl fun K hK=>?_
         rw[if_pos (by rfl)]
         refine ze _ _ _ rfl B 0 (.slice (some ⟨g7,0,none⟩) (m+2) c7) rfl rfl _ _ hP.box zR (by simp) rfl fun w13 hB13 hg13=>?_
         have hP:=hP.setBox (by simpa using hB13) hg13;clear hB13 hg13
         refine hK.out _ _ (fun h=>absurd h (by decide)) (fun _=>?_)
         clear hK K
         try simp only[Act.put,zz1,zz2,zz3,zz4,zz5,zz6]
         refine WaysZ.done (by kernel_rfl) ?_
         clear zy;go_wp2_with fail
         go_meet
         exact(by rw[HX.out.1,HX.out.2];exact⟨_,_,_,_,by have:=HL.out;simp;omega,hP⟩)
        ·rw[if_pos (by rfl)]
         refine ze _ _ _ rfl B 0 (.slice (some ⟨g7,0,none⟩) (m+2) c7) rfl rfl _ _ hP.box zR (by simp) rfl fun w13 hB13 hg13=>?_
         have hP:=hP.setBox (by simpa using hB13) hg13;clear hB13 hg13
         refine hK.out _ _ (fun h=>absurd h (by decide)) (fun _=>?_)
         clear hK K
         try simp only[Act.put,zz1,zz2,zz3,zz4,zz5,zz6]
         refine Zo 12 rfl fun K hK=>?_
         rw[if_pos (by rfl)];obtain⟨g2,cur2,tc,yu,vO,yx⟩:=hP.put (L1:=L++[X1]) (z:=zt) (L2:=[]) (i:=m+1) (by rw[List.append_assoc];rfl) (by have:=HL.out;first | omega | (simp;omega))
         cases tc
         refine za _ _ _ rfl g7 ((m+1)*4) _ rfl rfl _ _ yu zw vO (wu _ _ _ _ rfl rfl rfl rfl) fun w12 hB12 hg12=>?_
         have hP:=yx _ _ X2 (L++[X1,X2]) (ItemsC.one un) (by rw[List.append_assoc];rfl) hB12 hg12;clear yx yu vO hB12 hg12
         refine hK.out _ _ (fun h=>absurd h (by decide)) (fun _=>?_)
         clear hK K
         try simp only[Act.put,zz1,zz2,zz3,zz4,zz5,zz6]
         refine WaysZ.done (by kernel_rfl) ?_
         clear zy;go_wp2_with fail
         go_meet
         exact(by rw[HX.out.1,HX.out.2];exact⟨_,_,_,_,by have:=HL.out;simp;omega,hP⟩)
       ·rw[if_pos (by rfl)]
        refine ze _ _ _ rfl B 0 (.slice (some ⟨g7,0,none⟩) (m+2) c7) rfl rfl _ _ hP.box zR (by simp) rfl fun w13 hB13 hg13=>?_
        have hP:=hP.setBox (by simpa using hB13) hg13;clear hB13 hg13
        refine hK.out _ _ (fun h=>absurd h (by decide)) (fun _=>?_)
        clear hK K
        try simp only[Act.put,zz1,zz2,zz3,zz4,zz5,zz6]
        refine Zo 9 rfl fun K hK=>?_
        rw[if_pos (by rfl)];obtain⟨g1,cur1,rF,yM,xE,xx⟩:=hP.put (L1:=L) (z:=zt) (L2:=[zt]) (i:=m) rfl (by have:=HL.out;first | omega | (simp;omega))
        cases rF
        refine za _ _ _ rfl g7 ((m)*4) _ rfl rfl _ _ yM zw xE (wu _ _ _ _ rfl rfl rfl rfl) fun w9 tk hg9=>?_
        have hP:=xx _ _ X1 (L++[X1,zt]) (ItemsC.one vt) rfl tk hg9;clear xx yM xE tk hg9
        refine hK.out _ _ (fun h=>absurd h (by decide)) (fun _=>?_)
        clear hK K
        try simp only[Act.put,zz1,zz2,zz3,zz4,zz5,zz6]
        refine ZkT 11 rfl (fun h=>absurd h (by decide)) ?_
        refine Zo 12 rfl fun K hK=>?_
        rw[if_pos (by rfl)];obtain⟨g2,cur2,tc,yu,vO,yx⟩:=hP.put (L1:=L++[X1]) (z:=zt) (L2:=[]) (i:=m+1) (by rw[List.append_assoc];rfl) (by have:=HL.out;first | omega | (simp;omega))
        cases tc
        refine za _ _ _ rfl g7 ((m+1)*4) _ rfl rfl _ _ yu zw vO (wu _ _ _ _ rfl rfl rfl rfl) fun w12 hB12 hg12=>?_
        have hP:=yx _ _ X2 (L++[X1,X2]) (ItemsC.one un) (by rw[List.append_assoc];rfl) hB12 hg12;clear yx yu vO hB12 hg12
        refine hK.out _ _ (fun h=>absurd h (by decide)) (fun _=>?_)
        clear hK K
        try simp only[Act.put,zz1,zz2,zz3,zz4,zz5,zz6]
        refine WaysZ.done (by kernel_rfl) ?_
        clear zy;go_wp2_with fail
        go_meet
        exact(by rw[HX.out.1,HX.out.2];exact⟨_,_,_,_,by have:=HL.out;simp;omega,hP⟩)
      ·go_simp
       have hZ:=hP.litZ vM 26;have hP:=hP.alloc (.cells vM 26)
       refine hK.out _ _ (fun _=>?_) (fun zy=>?_)
       ·exact⟨hP.box.cell 0 rfl,hP.row.key.cell 1 rfl⟩
       clear hK K;have zy:=zy (by decide)
       try simp only[Act.put,zz1,zz2,zz3,zz4,zz5,zz6]
       refine Zo 4 rfl fun K hK=>?_
       go_simp
       refine(wU v D.out.2.1.1 D.out.2.1.2 _ hP.row.grows.holds).mono ?_
       rintro e w4 ⟨v2,rfl,xa2,xb2,xc2,xd2,H2,rfl,yp,un⟩
       rw[HX.out.2]at un⊢;have hP:=hP.grow yp
       try (have hZ:=hZ.below yp.below)
       have vt:=vt.mono yp.le
       refine hK.out _ _ (fun _=>?_) (fun zy=>?_)
       ·exact⟨hP.box.cell 0 rfl,hP.row.key.cell 1 rfl⟩
       clear hK K;have zy:=zy (by decide)
       try simp only[Act.put,zz1,zz2,zz3,zz4,zz5,zz6]
       refine Zo 7 rfl fun K hK=>?_
       rw[if_pos (by rfl)]
       refine ym _ _ rfl _ _ _ _ rfl hP.row.own _ _ _ vM.toList [zt,zt] rfl rfl (vW _) hZ (by have:=HL.out;simp;omega) hP.row.base fun v7 w7 hown7 hg7 hat7=>?_
       have hP:=hP.app hown7 hg7 hat7;obtain⟨A7,c7,rfl,_⟩:=hown7.form;rw[show(L++[zt,zt]).length=m+2 by have:=HL.out;simp;omega]at hP⊢;obtain⟨g7,_,jf,_⟩:=hP.put (L1:=L) (z:=zt) (L2:=[zt]) (i:=m) rfl HL.out.1
       cases jf
       clear hown7 hg7 hat7
       refine hK.out _ _ (fun h=>absurd h (by decide)) (fun _=>?_)
       clear hK K
       try simp only[Act.put,zz1,zz2,zz3,zz4,zz5,zz6]
       refine ZkT 8 rfl (fun h=>absurd h (by decide)) ?_
       refine WaysZ.two (i:=9) (j:=13) rfl rfl (by kernel_rfl) (fun K hK=>?_) (fun K hK=>?_)
       ·rw[if_pos (by rfl)];obtain⟨g1,cur1,rF,yM,xE,xx⟩:=hP.put (L1:=L) (z:=zt) (L2:=[zt]) (i:=m) rfl (by have:=HL.out;first | omega | (simp;omega))
        cases rF
        refine za _ _ _ rfl g7 ((m)*4) _ rfl rfl _ _ yM zw xE (wu _ _ _ _ rfl rfl rfl rfl) fun w9 tk hg9=>?_
        have hP:=xx _ _ X1 (L++[X1,zt]) (ItemsC.one vt) rfl tk hg9;clear xx yM xE tk hg9
        refine hK.out _ _ (fun h=>absurd h (by decide)) (fun _=>?_)
        clear hK K
        try simp only[Act.put,zz1,zz2,zz3,zz4,zz5,zz6]
        refine ZkT 11 rfl (fun h=>absurd h (by decide)) ?_
        refine WaysZ.two (i:=12) (j:=13) rfl rfl (by kernel_rfl) (fun K hK=>?_) (fun K hK=>?_)
        ·rw[if_pos (by rfl)];obtain⟨g2,cur2,tc,yu,vO,yx⟩:=hP.put (L1:=L++[X1]) (z:=zt) (L2:=[]) (i:=m+1) (by rw[List.append_assoc];rfl) (by have:=HL.out;first | omega | (simp;omega))
         cases tc
         refine za _ _ _ rfl g7 ((m+1)*4) _ rfl rfl _ _ yu zw vO (wu _ _ _ _ rfl rfl rfl rfl) fun w12 hB12 hg12=>?_
         have hP:=yx _ _ X2 (L++[X1,X2]) (ItemsC.one un) (by rw[List.append_assoc];rfl) hB12 hg12;clear yx yu vO hB12 hg12
         refine hK.out _ _ (fun h=>absurd h (by decide)) (fun _=>?_)
         clear hK K
         try simp only[Act.put,zz1,zz2,zz3,zz4,zz5,zz6]
         refine Zo 13 rfl fun K hK=>?_
         rw[if_pos (by rfl)]
         refine ze _ _ _ rfl B 0 (.slice (some ⟨g7,0,none⟩) (m+2) c7) rfl rfl _ _ hP.box zR (by simp) rfl fun w13 hB13 hg13=>?_
         have hP:=hP.setBox (by simpa using hB13) hg13;clear hB13 hg13
         refine hK.out _ _ (fun h=>absurd h (by decide)) (fun _=>?_)
         clear hK K
         try simp only[Act.put,zz1,zz2,zz3,zz4,zz5,zz6]
         refine WaysZ.done (by kernel_rfl) ?_
         clear zy;go_wp2_with fail
         go_meet
         exact(by rw[HX.out.1,HX.out.2];exact⟨_,_,_,_,by have:=HL.out;simp;omega,hP⟩)
        ·rw[if_pos (by rfl)]
         refine ze _ _ _ rfl B 0 (.slice (some ⟨g7,0,none⟩) (m+2) c7) rfl rfl _ _ hP.box zR (by simp) rfl fun w13 hB13 hg13=>?_
         have hP:=hP.setBox (by simpa using hB13) hg13;clear hB13 hg13
         refine hK.out _ _ (fun h=>absurd h (by decide)) (fun _=>?_)
         clear hK K
         try simp only[Act.put,zz1,zz2,zz3,zz4,zz5,zz6]
         refine Zo 12 rfl fun K hK=>?_
         rw[if_pos (by rfl)];obtain⟨g2,cur2,tc,yu,vO,yx⟩:=hP.put (L1:=L++[X1]) (z:=zt) (L2:=[]) (i:=m+1) (by rw[List.append_assoc];rfl) (by have:=HL.out;first | omega | (simp;omega))
         cases tc
         refine za _ _ _ rfl g7 ((m+1)*4) _ rfl rfl _ _ yu zw vO (wu _ _ _ _ rfl rfl rfl rfl) fun w12 hB12 hg12=>?_
         have hP:=yx _ _ X2 (L++[X1,X2]) (ItemsC.one un) (by rw[List.append_assoc];rfl) hB12 hg12;clear yx yu vO hB12 hg12
         refine hK.out _ _ (fun h=>absurd h (by decide)) (fun _=>?_)
         clear hK K
         try simp only[Act.put,zz1,zz2,zz3,zz4,zz5,zz6]
         refine WaysZ.done (by kernel_rfl) ?_
         clear zy;go_wp2_with fail
         go_meet
         exact(by rw[HX.out.1,HX.out.2];exact⟨_,_,_,_,by have:=HL.out;simp;omega,hP⟩)
       ·rw[if_pos (by rfl)]
        refine ze _ _ _ rfl B 0 (.slice (some ⟨g7,0,none⟩) (m+2) c7) rfl rfl _ _ hP.box zR (by simp) rfl fun w13 hB13 hg13=>?_
        have hP:=hP.setBox (by simpa using hB13) hg13;clear hB13 hg13
        refine hK.out _ _ (fun h=>absurd h (by decide)) (fun _=>?_)
        clear hK K
        try simp only[Act.put,zz1,zz2,zz3,zz4,zz5,zz6]
        refine Zo 9 rfl fun K hK=>?_
        rw[if_pos (by rfl)];obtain⟨g1,cur1,rF,yM,xE,xx⟩:=hP.put (L1:=L) (z:=zt) (L2:=[zt]) (i:=m) rfl (by have:=HL.out;first | omega | (simp;omega))
        cases rF
        refine za _ _ _ rfl g7 ((m)*4) _ rfl rfl _ _ yM zw xE (wu _ _ _ _ rfl rfl rfl rfl) fun w9 tk hg9=>?_
        have hP:=xx _ _ X1 (L++[X1,zt]) (ItemsC.one vt) rfl tk hg9;clear xx yM xE tk hg9
        refine hK.out _ _ (fun h=>absurd h (by decide)) (fun _=>?_)
        clear hK K
        try simp only[Act.put,zz1,zz2,zz3,zz4,zz5,zz6]
        refine ZkT 11 rfl (fun h=>absurd h (by decide)) ?_
        refine Zo 12 rfl fun K hK=>?_
        rw[if_pos (by rfl)];obtain⟨g2,cur2,tc,yu,vO,yx⟩:=hP.put (L1:=L++[X1]) (z:=zt) (L2:=[]) (i:=m+1) (by rw[List.append_assoc];rfl) (by have:=HL.out;first | omega | (simp;omega))
        cases tc
        refine za _ _ _ rfl g7 ((m+1)*4) _ rfl rfl _ _ yu zw vO (wu _ _ _ _ rfl rfl rfl rfl) fun w12 hB12 hg12=>?_
        have hP:=yx _ _ X2 (L++[X1,X2]) (ItemsC.one un) (by rw[List.append_assoc];rfl) hB12 hg12;clear yx yu vO hB12 hg12
        refine hK.out _ _ (fun h=>absurd h (by decide)) (fun _=>?_)
        clear hK K
        try simp only[Act.put,zz1,zz2,zz3,zz4,zz5,zz6]
        refine WaysZ.done (by kernel_rfl) ?_
        clear zy;go_wp2_with fail
        go_meet
        exact(by rw[HX.out.1,HX.out.2];exact⟨_,_,_,_,by have:=HL.out;simp;omega,hP⟩)
     ·go_simp
      have hZ:=hP.litZ vM 26;have hP:=hP.alloc (.cells vM 26)
      refine hK.out _ _ (fun _=>?_) (fun zy=>?_)
      ·exact⟨hP.box.cell 0 rfl,hP.row.key.cell 1 rfl⟩
      clear hK K;have zy:=zy (by decide)
      try simp only[Act.put,zz1,zz2,zz3,zz4,zz5,zz6]
      refine Zo 1 rfl fun K hK=>?_
      go_simp
      refine(wU (-1) (by omega) (by omega) _ hP.row.grows.holds).mono ?_
      rintro e w1 ⟨v1,rfl,xa1,xb1,xc1,xd1,H1,rfl,ws,vt⟩
      rw[HX.out.1]at vt⊢;have hP:=hP.grow ws
      try (have hZ:=hZ.below ws.below)
      refine hK.out _ _ (fun _=>?_) (fun zy=>?_)
      ·exact⟨hP.box.cell 0 rfl,hP.row.key.cell 1 rfl⟩
      clear hK K;have zy:=zy (by decide)
      try simp only[Act.put,zz1,zz2,zz3,zz4,zz5,zz6]
      refine Zo 4 rfl fun K hK=>?_
      go_simp
      refine(wU v D.out.2.1.1 D.out.2.1.2 _ hP.row.grows.holds).mono ?_
      rintro e w4 ⟨v2,rfl,xa2,xb2,xc2,xd2,H2,rfl,yp,un⟩
      rw[HX.out.2]at un⊢;have hP:=hP.grow yp
      try (have hZ:=hZ.below yp.below)
      have vt:=vt.mono yp.le
      refine hK.out _ _ (fun _=>?_) (fun zy=>?_)
      ·exact⟨hP.box.cell 0 rfl,hP.row.key.cell 1 rfl⟩
      clear hK K;have zy:=zy (by decide)
      try simp only[Act.put,zz1,zz2,zz3,zz4,zz5,zz6]
      refine Zo 7 rfl fun K hK=>?_
      rw[if_pos (by rfl)]
      refine ym _ _ rfl _ _ _ _ rfl hP.row.own _ _ _ vM.toList [zt,zt] rfl rfl (vW _) hZ (by have:=HL.out;simp;omega) hP.row.base fun v7 w7 hown7 hg7 hat7=>?_
      have hP:=hP.app hown7 hg7 hat7;obtain⟨A7,c7,rfl,_⟩:=hown7.form;rw[show(L++[zt,zt]).length=m+2 by have:=HL.out;simp;omega]at hP⊢;obtain⟨g7,_,jf,_⟩:=hP.put (L1:=L) (z:=zt) (L2:=[zt]) (i:=m) rfl HL.out.1
      cases jf
      clear hown7 hg7 hat7
      refine hK.out _ _ (fun h=>absurd h (by decide)) (fun _=>?_)
      clear hK K
      try simp only[Act.put,zz1,zz2,zz3,zz4,zz5,zz6]
      refine ZkT 8 rfl (fun h=>absurd h (by decide)) ?_
      refine WaysZ.two (i:=9) (j:=13) rfl rfl (by kernel_rfl) (fun K hK=>?_) (fun K hK=>?_)
      ·rw[if_pos (by rfl)];obtain⟨g1,cur1,rF,yM,xE,xx⟩:=hP.put (L1:=L) (z:=zt) (L2:=[zt]) (i:=m) rfl (by have:=HL.out;first | omega | (simp;omega))
       cases rF
       refine za _ _ _ rfl g7 ((m)*4) _ rfl rfl _ _ yM zw xE (wu _ _ _ _ rfl rfl rfl rfl) fun w9 tk hg9=>?_
       have hP:=xx _ _ X1 (L++[X1,zt]) (ItemsC.one vt) rfl tk hg9;clear xx yM xE tk hg9
       refine hK.out _ _ (fun h=>absurd h (by decide)) (fun _=>?_)
       clear hK K
       try simp only[Act.put,zz1,zz2,zz3,zz4,zz5,zz6]
       refine ZkT 11 rfl (fun h=>absurd h (by decide)) ?_
       refine WaysZ.two (i:=12) (j:=13) rfl rfl (by kernel_rfl) (fun K hK=>?_) (fun K hK=>?_)
       ·rw[if_pos (by rfl)];obtain⟨g2,cur2,tc,yu,vO,yx⟩:=hP.put (L1:=L++[X1]) (z:=zt) (L2:=[]) (i:=m+1) (by rw[List.append_assoc];rfl) (by have:=HL.out;first | omega | (simp;omega))
        cases tc
        refine za _ _ _ rfl g7 ((m+1)*4) _ rfl rfl _ _ yu zw vO (wu _ _ _ _ rfl rfl rfl rfl) fun w12 hB12 hg12=>?_
        have hP:=yx _ _ X2 (L++[X1,X2]) (ItemsC.one un) (by rw[List.append_assoc];rfl) hB12 hg12;clear yx yu vO hB12 hg12
        refine hK.out _ _ (fun h=>absurd h (by decide)) (fun _=>?_)
        clear hK K
        try simp only[Act.put,zz1,zz2,zz3,zz4,zz5,zz6]
        refine Zo 13 rfl fun K hK=>?_
        rw[if_pos (by rfl)]
        refine ze _ _ _ rfl B 0 (.slice (some ⟨g7,0,none⟩) (m+2) c7) rfl rfl _ _ hP.box zR (by simp) rfl fun w13 hB13 hg13=>?_
        have hP:=hP.setBox (by simpa using hB13) hg13;clear hB13 hg13
        refine hK.out _ _ (fun h=>absurd h (by decide)) (fun _=>?_)
        clear hK K
        try simp only[Act.put,zz1,zz2,zz3,zz4,zz5,zz6]
        refine WaysZ.done (by kernel_rfl) ?_
        clear zy;go_wp2_with fail
        go_meet
        exact(by rw[HX.out.1,HX.out.2];exact⟨_,_,_,_,by have:=HL.out;simp;omega,hP⟩)
       ·rw[if_pos (by rfl)]
        refine ze _ _ _ rfl B 0 (.slice (some ⟨g7,0,none⟩) (m+2) c7) rfl rfl _ _ hP.box zR (by simp) rfl fun w13 hB13 hg13=>?_
        have hP:=hP.setBox (by simpa using hB13) hg13;clear hB13 hg13
        refine hK.out _ _ (fun h=>absurd h (by decide)) (fun _=>?_)
        clear hK K
        try simp only[Act.put,zz1,zz2,zz3,zz4,zz5,zz6]
        refine Zo 12 rfl fun K hK=>?_
        rw[if_pos (by rfl)];obtain⟨g2,cur2,tc,yu,vO,yx⟩:=hP.put (L1:=L++[X1]) (z:=zt) (L2:=[]) (i:=m+1) (by rw[List.append_assoc];rfl) (by have:=HL.out;first | omega | (simp;omega))
        cases tc
        refine za _ _ _ rfl g7 ((m+1)*4) _ rfl rfl _ _ yu zw vO (wu _ _ _ _ rfl rfl rfl rfl) fun w12 hB12 hg12=>?_
        have hP:=yx _ _ X2 (L++[X1,X2]) (ItemsC.one un) (by rw[List.append_assoc];rfl) hB12 hg12;clear yx yu vO hB12 hg12
        refine hK.out _ _ (fun h=>absurd h (by decide)) (fun _=>?_)
        clear hK K
        try simp only[Act.put,zz1,zz2,zz3,zz4,zz5,zz6]
        refine WaysZ.done (by kernel_rfl) ?_
        clear zy;go_wp2_with fail
        go_meet
        exact(by rw[HX.out.1,HX.out.2];exact⟨_,_,_,_,by have:=HL.out;simp;omega,hP⟩)
      ·rw[if_pos (by rfl)]
       refine ze _ _ _ rfl B 0 (.slice (some ⟨g7,0,none⟩) (m+2) c7) rfl rfl _ _ hP.box zR (by simp) rfl fun w13 hB13 hg13=>?_
       have hP:=hP.setBox (by simpa using hB13) hg13;clear hB13 hg13
       refine hK.out _ _ (fun h=>absurd h (by decide)) (fun _=>?_)
       clear hK K
       try simp only[Act.put,zz1,zz2,zz3,zz4,zz5,zz6]
       refine Zo 9 rfl fun K hK=>?_
       rw[if_pos (by rfl)];obtain⟨g1,cur1,rF,yM,xE,xx⟩:=hP.put (L1:=L) (z:=zt) (L2:=[zt]) (i:=m) rfl (by have:=HL.out;first | omega | (simp;omega))
       cases rF
       refine za _ _ _ rfl g7 ((m)*4) _ rfl rfl _ _ yM zw xE (wu _ _ _ _ rfl rfl rfl rfl) fun w9 tk hg9=>?_
       have hP:=xx _ _ X1 (L++[X1,zt]) (ItemsC.one vt) rfl tk hg9;clear xx yM xE tk hg9
       refine hK.out _ _ (fun h=>absurd h (by decide)) (fun _=>?_)
       clear hK K
       try simp only[Act.put,zz1,zz2,zz3,zz4,zz5,zz6]
       refine ZkT 11 rfl (fun h=>absurd h (by decide)) ?_
       refine Zo 12 rfl fun K hK=>?_
       rw[if_pos (by rfl)];obtain⟨g2,cur2,tc,yu,vO,yx⟩:=hP.put (L1:=L++[X1]) (z:=zt) (L2:=[]) (i:=m+1) (by rw[List.append_assoc];rfl) (by have:=HL.out;first | omega | (simp;omega))
       cases tc
       refine za _ _ _ rfl g7 ((m+1)*4) _ rfl rfl _ _ yu zw vO (wu _ _ _ _ rfl rfl rfl rfl) fun w12 hB12 hg12=>?_
       have hP:=yx _ _ X2 (L++[X1,X2]) (ItemsC.one un) (by rw[List.append_assoc];rfl) hB12 hg12;clear yx yu vO hB12 hg12
       refine hK.out _ _ (fun h=>absurd h (by decide)) (fun _=>?_)
       clear hK K
       try simp only[Act.put,zz1,zz2,zz3,zz4,zz5,zz6]
       refine WaysZ.done (by kernel_rfl) ?_
       clear zy;go_wp2_with fail
       go_meet
       exact(by rw[HX.out.1,HX.out.2];exact⟨_,_,_,_,by have:=HL.out;simp;omega,hP⟩)
    case rest =>
     clear hS c0;have hS:=hcut;clear hcut;have c4:=hS.key.cell 4 rfl;have HS:=Hh hS;clear hS;go_wp2_with fail
     refine(pM (-2) (by omega) (by omega) B1.out.2.1 (by have:=BL.out;omega) (by have:=qF.out;simp;omega) _ HS.out).mono ?_
     rintro e w5 ⟨rfl,hS⟩
     clear HS c4;have c5:=hS.key.cell 5 rfl;have HS:=Hh hS;clear hS;go_wp2_with fail
     refine(pM (-4) (by omega) (by omega) B1.out.2.2.1 (by have:=BL.out;omega) (by have:=qF.out;have:=pj (-2) x;simp;omega) _ HS.out).mono ?_
     rintro e w6 ⟨rfl,hS⟩
     clear HS c5;obtain⟨A9,m9,c9,cB,hO⟩:=hS.out;clear hS;go_wp2_with fail
     go_ret
     exact⟨_,rfl,by rw[EL.out];show kj w H _ (Value.slice A9 m9 c9) w6;rw[← List.append_assoc,← List.append_assoc];exact hO⟩
end Go.Proofs.YtnlinmoiakgedaaGreatDoor
