/- squeezed. Walks: what is sent again, on both -/
import Derived.Test.YtnfoilblmhbobaaGreatDoorK19
import Derived.Test.YtnfoilblmhbobaaGreatDoorK18
set_option linter.unusedVariables false
set_option linter.unusedSimpArgs false
set_option maxRecDepth 100000
set_option maxHeartbeats 25600000
namespace Go.Proofs.YtnfoilblmhbobaaGreatDoor
open Go.RowKit
theorem uC {a b:Int}(h:a=b):(a=b)=True∧(a==b)=true∧(a != b)=false:=by subst h;simp
theorem vJ {a b:Int}(h:¬ a=b):(a=b)=False∧(a==b)=false∧(a != b)=true:=⟨eq_false h,beq_eq_false_iff_ne.2 h,by rw[bne,beq_eq_false_iff_ne.2 h];rfl⟩
def TickOut (w:World) (H:Snap) (v:Rn) (n:Int) (e:Ending) (w':World):Prop :=
 ∃ a' A c H',e=.returned (.tuple #[.agg (rnC (vy v n).1 a'),.slice A (vy v n).2.length c])∧Grows w H w' H'∧IsRn H' (vy v n).1 a'∧IsBytes H' A c (vy v n).2
theorem TickOut.is {w w':World}{H H':Snap}{v r:Rn}{n:Int}{l:List UInt8}{e:Ending}{a':RnA}{A:Option Addr}{c:Nat}(h:vy v n=(r,l)) (he:e=.returned (.tuple #[.agg (rnC r a'),.slice A l.length c])) (hG:Grows w H w' H') (hr:IsRn H' r a') (hb:IsBytes H' A c l):TickOut w H v n e w':=by
 refine⟨a',A,c,H', ?_,hG, ?_, ?_⟩
 ·rw[h];exact he
 ·rw[h];exact hr
 rw[h];exact hb
theorem IsRn.upd {H:Snap}{v:Rn}{a:RnA}(h:IsRn H v a) (ph d c:Int):IsRn H { v with phase:=ph,due:=d,count:=c } a:=⟨h.p,h.mine,h.other,h.priv,h.gx,h.gy,h.h1,h.th,h.prk,h.peer,h.out,h.heard,h.sent,h.refused⟩
def vx (v:Rn) (n:Int):Bool:=decide (v.role≠1∨(v.phase≠1∧v.phase≠3)∨n<v.due)
structure TK (xs z os:Array Value) (O:Nat) (W0:World) (H:Snap) (w:World) (Hr:Snap):Prop where
 grows:Grows W0 H w Hr
 x:Blk w W0.heap.size 34 xs
 r:Blk w (W0.heap.size+1) 34 z
 o:Blk w O 34 os
 hX:Hr W0.heap.size=none
 hR:Hr (W0.heap.size+1)=none
 hO:Hr O=none
 far:W0.heap.size+2≤O
section
variable {O:Nat} {z z' xs os os':Array Value} {W0 w w':World} {H Hr Hs:Snap}
theorem TK.grow (h:TK xs z os O W0 H w Hr) (k:Grows w Hr w' Hs):TK xs z os O W0 H w' Hs :=
 ⟨h.grows.trans k,h.x.below k.below,h.r.below k.below,h.o.below k.below,k.none h.hX h.x.lt,k.none h.hR h.r.lt,k.none h.hO h.o.lt,h.far⟩
theorem TK.drew (h:TK xs z os O W0 H w Hr):TK xs z os O W0 H w.drew Hr:=h.grow ((Grows.refl h.grows.holds).drew)
theorem TK.set (h:TK xs z os O W0 H w Hr) (hB:Blk w' O 34 os') (hg:w.grownBy w' (some O)):TK xs z os' O W0 H w' Hr :=
 ⟨h.grows.grownOwn h.hO (by have:=h.far;omega) hg,h.x.grown hg (by have:=h.far;intro e;injection e with e;omega),h.r.grown hg (by have:=h.far;intro e;injection e with e;omega),hB,h.hX,h.hR,h.hO,h.far⟩
theorem TK.put (h:TK xs z os O W0 H w Hr) (hB:Blk w' (W0.heap.size+1) 34 z') (hg:w.grownBy w' (some (W0.heap.size+1))):TK xs z' os O W0 H w' Hr :=
 ⟨h.grows.grownOwn h.hR (by omega) hg,h.x.gr hg (by omega),hB,h.o.grown hg (by have:=h.far;intro e;injection e with e;omega),h.hX,h.hR,h.hO,h.far⟩
end
def xZ (n:Int) (k:Nat):Int:=n+2*2 ^ k
theorem o8 (n:Int) (k:Nat):xZ n (k+1)=xZ n k+(xZ n k-n):=by rw[xZ,xZ,Int.pow_succ];omega
theorem iK (n:Int) {k:Nat}(h:k≤5):n≤xZ n k∧xZ n k≤n+64:=by
 rcases(by omega:k=0∨k=1∨k=2∨k=3∨k=4∨k=5) with rfl | rfl | rfl | rfl | rfl | rfl <;> (refine⟨?_, ?_⟩ <;> simp[xZ] <;> omega)
theorem nG {H:Snap}{v:Rn}{a:RnA}(ha:IsRn H v a) (hs:v.Small) (n:Int) (hn : -1099511627776≤n∧n≤1099511627776) (hc:0≤v.count∧v.count≤20) (w:World) (hH:Holds w H) :
  Calls Tryz.prog 9 #[.agg (rnC v a),.int .i64 n] w (TickOut w H v n):=by
 have hX:=(Blk.new w 34 (rnC v a)).alloc (.cells yz 34);have hR:=Blk.new (w.alloc (.cells (rnC v a) 34)) 34 yz;rw[zY]at hR;have hG:=((Grows.refl hH).alloc (.cells (rnC v a) 34)).alloc (.cells yz 34);have pO:((w.alloc (.cells (rnC v a) 34)).alloc (.cells yz 34)).heap.size=w.heap.size+2:=by rw[zY,zY]
 have mh:=hH.none_of_ge (Nat.le_refl w.heap.size);have fU:=hH.none_of_ge (show w.heap.size≤w.heap.size+1 by omega);have HA:=Hh ha;have HS:=Hh hs;have HN:=Hh (And.intro hn hc);clear ha hs hH hn hc;go_enter Tryz.func9,Tryz.ntmps9
 obtain⟨W2,sU⟩:∃ W2,(w.alloc (.cells (rnC v a) 34)).alloc (.cells yz 34)=W2:=⟨_,rfl⟩
 go_upto_region 1 with fail
 rw[sU]at hX hR hG pO
 try rw[sU]
 clear sU;go_wp2_with (with_reducible refine zJ ?_)
 refine wpList_load_row rfl _ _ rfl w.heap.size rfl _ (rnC v a) (0,0) _ hX Tryz.underlying34 rfl za ?_
 go_wp2_with fail
 refine(pE (HA.out.mono hG.le) HS.out _ hG.holds).mono ?_
 rintro e w3 ⟨a1,H1,rfl,wu,Y6⟩
 have t8:=hX.below wu.below;have Yb:=hR.below wu.below;have yt:=hG.trans wu;have Tc:=wu.none mh hX.lt;have TV:=wu.none fU hR.lt;have HF:Hid (w.heap.size+2≤w3.heap.size):=by rw[Hid,← pO];exact wu.below.size
 obtain⟨O,hO⟩:∃ O,w3.heap.size=O:=⟨_,rfl⟩
 have fT:=Hh hO;clear hX hR hG pO mh fU wu hO;go_wp2_with (with_reducible refine zx ?_)
 unfold zj
 rw[fT.out]
 refine zr rfl _ _ _ rfl rfl O (rnC v a1) rfl rfl 34 yz (by have h:=Blk.new w3 34 yz;rw[fT.out]at h;exact h) za rfl (xQ v a1) fun w4 tN hg4=>?_
 have xm:=yt.alloc (.cells yz 34);have hF:=HF.out;rw[fT.out]at hF
 have hT:TK (rnC v a) yz (rnC v a1) O w H w4 H1 :=
  ⟨xm.grownOwn (yt.holds.none_of_ge (by rw[fT.out];exact Nat.le_refl _)) (by omega) hg4,(t8.alloc _).gr hg4 (by omega),(Yb.alloc _).gr hg4 (by omega),tN,Tc,TV,yt.holds.none_of_ge (by rw[fT.out];exact Nat.le_refl _),hF⟩
 clear t8 Yb yt Tc TV HF fT tN hg4 xm hF;have ik:=Hh Y6;clear Y6;go_upto_region 2 with fail
 go_cut [27] (fun s27 wx=>s27=.bool (vx v n)∧TK (rnC v a) yz (rnC v a1) O w H wx H1)
 case first =>
  have x0:w4.cell? ⟨w.heap.size,0,none⟩=some (.int .i64 v.role):=hT.x.cell 0 rfl;have x1:w4.cell? ⟨w.heap.size,1,none⟩=some (.int .i64 v.phase):=hT.x.cell 1 rfl;have x29:w4.cell? ⟨w.heap.size,29,none⟩=some (.int .i64 v.due):=hT.x.cell 29 rfl;obtain⟨ro,aO⟩:∃ q,v.role=q:=⟨_,rfl⟩
  obtain⟨ph,kf⟩:∃ q,v.phase=q:=⟨_,rfl⟩
  obtain⟨du,fF⟩:∃ q,v.due=q:=⟨_,rfl⟩
  rw[aO]at x0;rw[kf]at x1;rw[fF]at x29;have HV:=Hh (And.intro aO (And.intro kf fF));clear aO kf fF
  by_cases h1:ro=1
  ·obtain⟨f1,f2,f3⟩:=uC h1
   by_cases h2:ph=1
   ·obtain⟨g1,g2,g3⟩:=uC h2
    by_cases h3:n<du
    ·have HI:Hid (vx v n=true):=decide_eq_true (by rw[HV.out.1,HV.out.2.1,HV.out.2.2];omega);have d3:decide (n<du)=true:=decide_eq_true h3;clear h1 h2;go_wp2_with fail
     go_meet
     exact⟨by rw[HI.out],hT⟩
    have HI:Hid (vx v n=false):=decide_eq_false (by rw[HV.out.1,HV.out.2.1,HV.out.2.2];omega);have d3:decide (n<du)=false:=decide_eq_false h3;clear h1 h2;go_wp2_with fail
    go_meet
    exact⟨by rw[HI.out],hT⟩
   obtain⟨g1,g2,g3⟩:=vJ h2
   by_cases h4:ph=3
   ·obtain⟨k1,k2,k3⟩:=uC h4
    by_cases h3:n<du
    ·have HI:Hid (vx v n=true):=decide_eq_true (by rw[HV.out.1,HV.out.2.1,HV.out.2.2];omega);have d3:decide (n<du)=true:=decide_eq_true h3;clear h1 h2 h4;go_wp2_with fail
     go_meet
     exact⟨by rw[HI.out],hT⟩
    have HI:Hid (vx v n=false):=decide_eq_false (by rw[HV.out.1,HV.out.2.1,HV.out.2.2];omega);have d3:decide (n<du)=false:=decide_eq_false h3;clear h1 h2 h4;go_wp2_with fail
    go_meet
    exact⟨by rw[HI.out],hT⟩
   obtain⟨k1,k2,k3⟩:=vJ h4;have HI:Hid (vx v n=true):=decide_eq_true (by rw[HV.out.1,HV.out.2.1,HV.out.2.2];omega);clear h1 h2 h4;go_wp2_with fail
   go_meet
   exact⟨by rw[HI.out],hT⟩
  obtain⟨f1,f2,f3⟩:=vJ h1;have HI:Hid (vx v n=true):=decide_eq_true (by rw[HV.out.1,HV.out.2.1,HV.out.2.2];omega);clear h1;go_wp2_with fail
  go_meet
  exact⟨by rw[HI.out],hT⟩
 case rest =>
 clear hT;obtain⟨rfl,hT⟩:=hcut
 cases hid:vx v n with
 | true =>
  have oh:=Hh (of_decide_eq_true hid);clear hid;go_wp2_with (with_reducible refine zJ ?_)
  refine wpList_load_row rfl _ _ rfl O rfl _ (rnC v a1) (0,0) _ hT.o Tryz.underlying34 rfl za ?_
  go_wp2_with (with_reducible refine zx ?_)
  refine zr rfl _ _ _ rfl rfl (w.heap.size+1) (rnC v a1) rfl rfl _ _ hT.r za rfl (xQ v _) fun w9 vP hg9=>?_
  replace hT:=hT.put vP hg9;clear vP hg9;go_wp2_with fail
  refine zo rfl rfl hT.r rfl rfl za rfl ?_
  exact TickOut.is (pz oh.out) rfl hT.grows ik.out (IsBytes.nil _)
 | false =>
 have oh:=Hh (of_decide_eq_false hid);clear hid;obtain⟨cn,fE⟩:∃ q,v.count=q:=⟨_,rfl⟩
 have kQ:=Hh fE;have x30:wc.cell? ⟨w.heap.size,30,none⟩=some (.int .i64 cn):=by rw[← fE];exact hT.x.cell 30 rfl
 clear fE
 by_cases h5:4<cn
 ·have d5:decide (4<cn)=true:=decide_eq_true h5;have et:=Hh h5;clear h5;go_wp2_with (with_reducible refine zx ?_)
  refine zv rfl _ _ _ rfl rfl O 1 (.int .i64 5) rfl rfl _ _ hT.o (by kernel_rfl) (by simp) rfl fun wt hBt hgt=>?_
  replace hT:=hT.set (os':=rnC { v with phase:=5 } a1) hBt hgt;clear hBt hgt x30;go_wp2_with (with_reducible refine zJ ?_)
  refine wpList_load_row rfl _ _ rfl O rfl _ (rnC { v with phase:=5 } a1) (0,0) _ hT.o Tryz.underlying34 rfl za ?_
  go_wp2_with (with_reducible refine zx ?_)
  refine zr rfl _ _ _ rfl rfl (w.heap.size+1) (rnC { v with phase:=5 } a1) rfl rfl _ _ hT.r za rfl (xQ { v with phase:=5 } _) fun w9 vP hg9=>?_
  replace hT:=hT.put vP hg9;clear vP hg9;go_wp2_with fail
  refine zo rfl rfl hT.r rfl rfl za rfl ?_
  exact TickOut.is (py (by have:=oh.out;omega) (by have:=oh.out;omega) (by have:=oh.out;omega) (by rw[kQ.out];have:=et.out;omega)) rfl hT.grows (ik.out.upd 5 v.due v.count) (IsBytes.nil _)
 have d5:decide (4<cn)=false:=decide_eq_false h5;have et:=Hh h5;clear h5;go_upto_region 7 with fail
 go_cut [] (fun wx=>TK (rnC v a) yz (rnC { v with due:=xZ n cn.toNat } a1) O w H wx H1)
 case first =>
  have ti:=HN.out.1
  rcases(by have:=HN.out.2;have:=kQ.out;have:=et.out;omega:cn=0∨cn=1∨cn=2∨cn=3∨cn=4) with rfl | rfl | rfl | rfl | rfl
  ·have q1:IntKind.i64.wrap (n+2)=n+2:=IntWalk.i64_in _ (by omega);have mx:max (0:Int) 0=0:=rfl;clear ti;go_wp2_with (with_reducible refine zx ?_)
   refine zv rfl _ _ _ rfl rfl O 29 (.int .i64 (n+2)) rfl rfl _ _ hT.o (by kernel_rfl) (by simp) rfl fun wt hBt hgt=>?_
   replace hT:=hT.set (os':=rnC { v with due:=xZ n (0:Int).toNat } a1) hBt hgt;clear hBt hgt;go_wp2_with fail
   go_meet
   exact hT
  ·have q1:IntKind.i64.wrap (n+4)=n+4:=IntWalk.i64_in _ (by omega);have mx:max (0:Int) 1=1:=rfl;clear ti;go_wp2_with (with_reducible refine zx ?_)
   refine zv rfl _ _ _ rfl rfl O 29 (.int .i64 (n+4)) rfl rfl _ _ hT.o (by kernel_rfl) (by simp) rfl fun wt hBt hgt=>?_
   replace hT:=hT.set (os':=rnC { v with due:=xZ n (1:Int).toNat } a1) hBt hgt;clear hBt hgt;go_wp2_with fail
   go_meet
   exact hT
  ·have q1:IntKind.i64.wrap (n+8)=n+8:=IntWalk.i64_in _ (by omega);have mx:max (0:Int) 2=2:=rfl;clear ti;go_wp2_with (with_reducible refine zx ?_)
   refine zv rfl _ _ _ rfl rfl O 29 (.int .i64 (n+8)) rfl rfl _ _ hT.o (by kernel_rfl) (by simp) rfl fun wt hBt hgt=>?_
   replace hT:=hT.set (os':=rnC { v with due:=xZ n (2:Int).toNat } a1) hBt hgt;clear hBt hgt;go_wp2_with fail
   go_meet
   exact hT
  ·have q1:IntKind.i64.wrap (n+16)=n+16:=IntWalk.i64_in _ (by omega);have mx:max (0:Int) 3=3:=rfl;clear ti;go_wp2_with (with_reducible refine zx ?_)
   refine zv rfl _ _ _ rfl rfl O 29 (.int .i64 (n+16)) rfl rfl _ _ hT.o (by kernel_rfl) (by simp) rfl fun wt hBt hgt=>?_
   replace hT:=hT.set (os':=rnC { v with due:=xZ n (3:Int).toNat } a1) hBt hgt;clear hBt hgt;go_wp2_with fail
   go_meet
   exact hT
  have q1:IntKind.i64.wrap (n+32)=n+32:=IntWalk.i64_in _ (by omega);have mx:max (0:Int) 4=4:=rfl;clear ti;go_wp2_with (with_reducible refine zx ?_)
  refine zv rfl _ _ _ rfl rfl O 29 (.int .i64 (n+32)) rfl rfl _ _ hT.o (by kernel_rfl) (by simp) rfl fun wt hBt hgt=>?_
  replace hT:=hT.set (os':=rnC { v with due:=xZ n (4:Int).toNat } a1) hBt hgt;clear hBt hgt;go_wp2_with fail
  go_meet
  exact hT
 case rest =>
 clear hT x30;replace hT:=hcut;clear hcut;have o30:wc.cell? ⟨O,30,none⟩=some (.int .i64 cn):=by rw[← kQ.out];exact hT.o.cell 30 rfl
 have Sf:cn≤4∧0≤cn:=by have:=et.out;have:=HN.out.2;have:=kQ.out;omega
 have q2:IntKind.i64.wrap (cn+1)=cn+1:=IntWalk.i64_in _ (by omega);clear Sf;go_wp2_with (with_reducible refine zx ?_)
 refine zv rfl _ _ _ rfl rfl O 30 (.int .i64 (cn+1)) rfl rfl _ _ hT.o (by kernel_rfl) (by simp) rfl fun wt hBt hgt=>?_
 replace hT:=hT.set (os':=rnC { v with due:=xZ n cn.toNat,count:=cn+1 } a1) hBt hgt;clear hBt hgt o30 q2;go_upto_region 9 with fail
 replace hT:=hT.drew
 refine zp 6 (fun wx=>wx.cell? ⟨w.heap.size,28,none⟩=some (.slice a.sent.a v.sent.length a.sent.c)) (by kernel_rfl) (hT.x.cell 28 rfl) (fun zy=>?_)
 refine TkS 1 rfl zy ?_
 refine TkS 2 rfl zy ?_
 refine Ways.two (i:=0) (j:=3) rfl rfl (by kernel_rfl) (fun K hK=>?_) (fun K hK=>?_)
 ·rw[if_pos (by rfl)]
  refine wp_load_row _ _ rfl O rfl _ (rnC { v with due:=xZ n cn.toNat,count:=cn+1 } a1) (0,0) _ hT.o Tryz.underlying34 rfl za ?_
  refine Ko hK ?_ fun zy=>?_
  ·exact hT.x.cell 28 rfl
  clear hK K
  refine To 3 rfl fun K hK=>?_
  go_simp
  refine(ze rfl (by have:=HS.out.sent;omega) (HA.out.sent.mono hT.grows.le) _ hT.grows.holds).mono ?_
  rintro e w5 ⟨A5,c5,H5,rfl,xv,b5⟩
  replace hT:=hT.grow xv;have Ur:=Hh (ik.out.mono xv.le);clear xv
  refine Ko hK ?_ fun zy=>?_
  ·exact hT.x.cell 28 rfl
  clear hK K
  refine To 4 rfl fun K hK=>?_
  rw[if_pos (by rfl)]
  refine zD _ _ _ rfl (w.heap.size+1) (rnC { v with due:=xZ n cn.toNat,count:=cn+1 } a1) rfl rfl _ _ hT.r za rfl (xQ { v with due:=xZ n cn.toNat,count:=cn+1 } a1) fun w9 vP hg9=>?_
  replace hT:=hT.put vP hg9;clear vP hg9
  refine Ko hK ?_ fun zy=>?_
  ·exact hT.x.cell 28 rfl
  clear hK K
  refine TkS 5 rfl zy ?_
  refine Wd ?_
  clear zy;go_wp2_with fail
  refine zo rfl rfl hT.r rfl rfl za rfl ?_
  exact TickOut.is (r:={ v with due:=xZ n cn.toNat,count:=cn+1 }) (l:=v.sent) (by rw[so (by have:=oh.out;omega) (by have:=oh.out;omega) (by have:=oh.out;omega) (by rw[kQ.out];have:=et.out;omega),kQ.out];rfl) rfl hT.grows (Ur.out.upd v.phase _ _) b5
 go_simp
 refine(ze rfl (by have:=HS.out.sent;omega) (HA.out.sent.mono hT.grows.le) _ hT.grows.holds).mono ?_
 rintro e w5 ⟨A5,c5,H5,rfl,xv,b5⟩
 replace hT:=hT.grow xv;have Ur:=Hh (ik.out.mono xv.le);clear xv
 refine Ko hK ?_ fun zy=>?_
 ·exact hT.x.cell 28 rfl
 clear hK K
 refine To 0 rfl fun K hK=>?_
 rw[if_pos (by rfl)]
 refine wp_load_row _ _ rfl O rfl _ (rnC { v with due:=xZ n cn.toNat,count:=cn+1 } a1) (0,0) _ hT.o Tryz.underlying34 rfl za ?_
 refine Ko hK ?_ fun zy=>?_
 ·exact hT.x.cell 28 rfl
 clear hK K
 refine To 4 rfl fun K hK=>?_
 rw[if_pos (by rfl)]
 refine zD _ _ _ rfl (w.heap.size+1) (rnC { v with due:=xZ n cn.toNat,count:=cn+1 } a1) rfl rfl _ _ hT.r za rfl (xQ { v with due:=xZ n cn.toNat,count:=cn+1 } a1) fun w9 vP hg9=>?_
 replace hT:=hT.put vP hg9;clear vP hg9
 refine Ko hK ?_ fun zy=>?_
 ·exact hT.x.cell 28 rfl
 clear hK K
 refine TkS 5 rfl zy ?_
 refine Wd ?_
 clear zy;go_wp2_with fail
 refine zo rfl rfl hT.r rfl rfl za rfl ?_
 exact TickOut.is (r:={ v with due:=xZ n cn.toNat,count:=cn+1 }) (l:=v.sent) (by rw[so (by have:=oh.out;omega) (by have:=oh.out;omega) (by have:=oh.out;omega) (by rw[kQ.out];have:=et.out;omega),kQ.out];rfl) rfl hT.grows (Ur.out.upd v.phase _ _) b5
theorem jY {H:Snap}{v:Rn}{a:RnA}(ha:IsRn H v a) (hs:v.Small) (n:Int) (hn : -1099511627776≤n∧n≤1099511627776) (hc:0≤v.count∧v.count≤20) (w:World) (hH:Holds w H) :
  Calls Tryz.prog 10 #[.agg (rnC v a),.int .i64 n] w (TickOut w H v n):=by
 have hX:=(Blk.new w 34 (rnC v a)).alloc (.cells yz 34);have hR:=Blk.new (w.alloc (.cells (rnC v a) 34)) 34 yz;rw[zY]at hR;have hG:=((Grows.refl hH).alloc (.cells (rnC v a) 34)).alloc (.cells yz 34);have pO:((w.alloc (.cells (rnC v a) 34)).alloc (.cells yz 34)).heap.size=w.heap.size+2:=by rw[zY,zY]
 have mh:=hH.none_of_ge (Nat.le_refl w.heap.size);have fU:=hH.none_of_ge (show w.heap.size≤w.heap.size+1 by omega);have HA:=Hh ha;have HS:=Hh hs;have HN:=Hh (And.intro hn hc);clear ha hs hH hn hc;go_enter Tryz.func10,Tryz.ntmps10
 obtain⟨W2,sU⟩:∃ W2,(w.alloc (.cells (rnC v a) 34)).alloc (.cells yz 34)=W2:=⟨_,rfl⟩
 go_upto_region 1 with fail
 rw[sU]at hX hR hG pO
 try rw[sU]
 clear sU;go_cut [26] (fun s26 wx=>s26=.bool (vx v n)∧wx=W2)
 case first =>
  have x0:W2.cell? ⟨w.heap.size,0,none⟩=some (.int .i64 v.role):=hX.cell 0 rfl;have x1:W2.cell? ⟨w.heap.size,1,none⟩=some (.int .i64 v.phase):=hX.cell 1 rfl;have x29:W2.cell? ⟨w.heap.size,29,none⟩=some (.int .i64 v.due):=hX.cell 29 rfl;obtain⟨ro,aO⟩:∃ q,v.role=q:=⟨_,rfl⟩
  obtain⟨ph,kf⟩:∃ q,v.phase=q:=⟨_,rfl⟩
  obtain⟨du,fF⟩:∃ q,v.due=q:=⟨_,rfl⟩
  rw[aO]at x0;rw[kf]at x1;rw[fF]at x29;have HV:=Hh (And.intro aO (And.intro kf fF));clear aO kf fF
  by_cases h1:ro=1
  ·obtain⟨f1,f2,f3⟩:=uC h1
   by_cases h2:ph=1
   ·obtain⟨g1,g2,g3⟩:=uC h2
    by_cases h3:n<du
    ·have HI:Hid (vx v n=true):=decide_eq_true (by rw[HV.out.1,HV.out.2.1,HV.out.2.2];omega);have d3:decide (n<du)=true:=decide_eq_true h3;clear h1 h2;go_wp2_with fail
     go_meet
     exact⟨by rw[HI.out],rfl⟩
    have HI:Hid (vx v n=false):=decide_eq_false (by rw[HV.out.1,HV.out.2.1,HV.out.2.2];omega);have d3:decide (n<du)=false:=decide_eq_false h3;clear h1 h2;go_wp2_with fail
    go_meet
    exact⟨by rw[HI.out],rfl⟩
   obtain⟨g1,g2,g3⟩:=vJ h2
   by_cases h4:ph=3
   ·obtain⟨k1,k2,k3⟩:=uC h4
    by_cases h3:n<du
    ·have HI:Hid (vx v n=true):=decide_eq_true (by rw[HV.out.1,HV.out.2.1,HV.out.2.2];omega);have d3:decide (n<du)=true:=decide_eq_true h3;clear h1 h2 h4;go_wp2_with fail
     go_meet
     exact⟨by rw[HI.out],rfl⟩
    have HI:Hid (vx v n=false):=decide_eq_false (by rw[HV.out.1,HV.out.2.1,HV.out.2.2];omega);have d3:decide (n<du)=false:=decide_eq_false h3;clear h1 h2 h4;go_wp2_with fail
    go_meet
    exact⟨by rw[HI.out],rfl⟩
   obtain⟨k1,k2,k3⟩:=vJ h4;have HI:Hid (vx v n=true):=decide_eq_true (by rw[HV.out.1,HV.out.2.1,HV.out.2.2];omega);clear h1 h2 h4;go_wp2_with fail
   go_meet
   exact⟨by rw[HI.out],rfl⟩
  obtain⟨f1,f2,f3⟩:=vJ h1;have HI:Hid (vx v n=true):=decide_eq_true (by rw[HV.out.1,HV.out.2.1,HV.out.2.2];omega);clear h1;go_wp2_with fail
  go_meet
  exact⟨by rw[HI.out],rfl⟩
 case rest =>
 obtain⟨rfl,rfl⟩:=hcut
 cases hid:vx v n with
 | true =>
  have oh:=Hh (of_decide_eq_true hid);clear hid;go_wp2_with (with_reducible refine zJ ?_)
  refine wpList_load_row rfl _ _ rfl w.heap.size rfl _ (rnC v a) (0,0) _ hX Tryz.underlying34 rfl za ?_
  go_wp2_with (with_reducible refine zx ?_)
  refine zr rfl _ _ _ rfl rfl (w.heap.size+1) (rnC v a) rfl rfl _ _ hR za rfl (xQ v a) fun w9 vP hg9=>?_
  have tG:=hG.grownOwn fU (by omega) hg9;clear hg9;go_wp2_with fail
  refine zo rfl rfl vP rfl rfl za rfl ?_
  exact TickOut.is (pz oh.out) rfl tG HA.out (IsBytes.nil _)
 | false =>
 have oh:=Hh (of_decide_eq_false hid);clear hid;go_wp2_with (with_reducible refine zJ ?_)
 refine wpList_load_row rfl _ _ rfl w.heap.size rfl _ (rnC v a) (0,0) _ hX Tryz.underlying34 rfl za ?_
 obtain⟨O,hO⟩:∃ O,w.heap.size+2=O:=⟨_,rfl⟩
 have fT:=Hh hO;clear hO;go_wp2_with (with_reducible refine zx ?_)
 unfold zj
 rw[fT.out]
 refine zr rfl _ _ _ rfl rfl O (rnC v a) rfl rfl 34 yz (by have h:=Blk.new wc 34 yz;rw[pO,fT.out]at h;exact h) za rfl (xQ v a) fun w4 tN hg4=>?_
 have xm:=hG.alloc (.cells yz 34);have ew:H O=none:=hG.holds.none_of_ge (by rw[pO,fT.out];exact Nat.le_refl _);have hF:=fT.out
 have hT:TK (rnC v a) yz (rnC v a) O w H w4 H :=
  ⟨xm.grownOwn ew (by omega) hg4,(hX.alloc _).gr hg4 (by omega),(hR.alloc _).gr hg4 (by omega),tN,mh,fU,ew,by omega⟩
 clear hX hR hG mh fU ew fT tN hg4 xm hF pO;obtain⟨cn,fE⟩:∃ q,v.count=q:=⟨_,rfl⟩
 have kQ:=Hh fE;have x30:w4.cell? ⟨w.heap.size,30,none⟩=some (.int .i64 cn):=by rw[← fE];exact hT.x.cell 30 rfl
 clear fE
 by_cases h5:4<cn
 ·have d5:decide (4<cn)=true:=decide_eq_true h5;have et:=Hh h5;clear h5;go_wp2_with (with_reducible refine zx ?_)
  refine zv rfl _ _ _ rfl rfl O 1 (.int .i64 5) rfl rfl _ _ hT.o (by kernel_rfl) (by simp) rfl fun wt hBt hgt=>?_
  replace hT:=hT.set (os':=rnC { v with phase:=5 } a) hBt hgt;clear hBt hgt x30;go_wp2_with (with_reducible refine zJ ?_)
  refine wpList_load_row rfl _ _ rfl O rfl _ (rnC { v with phase:=5 } a) (0,0) _ hT.o Tryz.underlying34 rfl za ?_
  go_wp2_with (with_reducible refine zx ?_)
  refine zr rfl _ _ _ rfl rfl (w.heap.size+1) (rnC { v with phase:=5 } a) rfl rfl _ _ hT.r za rfl (xQ { v with phase:=5 } _) fun w9 vP hg9=>?_
  replace hT:=hT.put vP hg9;clear vP hg9;go_wp2_with fail
  refine zo rfl rfl hT.r rfl rfl za rfl ?_
  exact TickOut.is (py (by have:=oh.out;omega) (by have:=oh.out;omega) (by have:=oh.out;omega) (by rw[kQ.out];have:=et.out;omega)) rfl hT.grows (HA.out.upd 5 v.due v.count) (IsBytes.nil _)
 have d5:decide (4<cn)=false:=decide_eq_false h5;have et:=Hh h5;clear h5;obtain⟨k,rfl⟩:=Int.eq_ofNat_of_zero_le (show 0≤cn by have:=HN.out.2;have:=kQ.out;omega);have W8:Hid (k≤4):=by have:=et.out;rw[Hid];omega
 have ti:=HN.out.1;have q1:IntKind.i64.wrap (n+2)=n+2:=IntWalk.i64_in _ (by omega);clear ti;go_wp2_with (with_reducible refine zx ?_)
 refine zv rfl _ _ _ rfl rfl O 29 (.int .i64 (n+2)) rfl rfl _ _ hT.o (by kernel_rfl) (by simp) rfl fun wt hBt hgt=>?_
 replace hT:=hT.set (os':=rnC { v with due:=n+2 } a) hBt hgt;rw[show n+2=xZ n 0 from by rw[xZ];rfl]at hT;clear hBt hgt x30 q1 d5;go_wp2_with fail
 go_loopw [7] (fun v7 wr=>∃ i:Nat,v7=.int .i64 (i:Int)∧Hid (i≤k)∧TK (rnC v a) yz (rnC { v with due:=xZ n i } a) O w H wr H) (fun v7 _=>k+1-(intOf v7).toNat)
 case atStart=>exact⟨0,rfl,Nat.zero_le _,hT⟩
 case round =>
 clear hT;obtain⟨i,rfl,HI,hT⟩:=hrel;have x30:wr.cell? ⟨w.heap.size,30,none⟩=some (.int .i64 (k:Int)):=by rw[← kQ.out];exact hT.x.cell 30 rfl
 by_cases z6:(i:Int)<(k:Int)
 ·have U3:=iK n (show i≤5 by have:=W8.out;omega);have vS:=iK n (show i+1≤5 by have:=W8.out;omega);have ti:=HN.out.1;have XF:(i:Int)+1≤9223372036854775807:=by have:=W8.out;omega
  have TM:Hid (i+1≤k):=by rw[Hid];omega
  have Rk:=Hh (o8 n i);rw[o8 n i]at vS;have o29:wr.cell? ⟨O,29,none⟩=some (.int .i64 (xZ n i)):=hT.o.cell 29 rfl;obtain⟨D,hD⟩:∃ D,xZ n i=D:=⟨_,rfl⟩
  rw[hD]at o29 U3 vS;have HD:=Hh hD;have q1:IntKind.i64.wrap (D-n)=D-n:=IntWalk.i64_in _ (by omega);have q2:IntKind.i64.wrap (D+(D-n))=D+(D-n):=IntWalk.i64_in _ (by omega);clear hD U3 vS ti;go_wp2_with (with_reducible refine zx ?_)
  refine zv rfl _ _ _ rfl rfl O 29 (.int .i64 (D+(D-n))) rfl rfl _ _ hT.o (by kernel_rfl) (by simp) rfl fun wt hBt hgt=>?_
  replace hT:=hT.set (os':=rnC { v with due:=D+(D-n) } a) hBt hgt;rw[← HD.out,← Rk.out]at hT;clear hBt hgt x30 o29 q1 q2;go_wp2_with fail
  go_roundw
  case rel=>exact⟨i+1,by go_num,TM.out,hT⟩
  case measure=>have:=TM.out;simp[intOf];omega
 have hid:decide ((i:Int)<(k:Int))=false:=decide_eq_false z6;have Vb:i=k:=by have:=HI.out;omega
 subst Vb;have o30:wr.cell? ⟨O,30,none⟩=some (.int .i64 (i:Int)):=by rw[← kQ.out];exact hT.o.cell 30 rfl
 have q2:IntKind.i64.wrap ((i:Int)+1)=(i:Int)+1:=IntWalk.i64_in _ (by have:=W8.out;omega);clear HI;go_wp2_with (with_reducible refine zx ?_)
 refine zv rfl _ _ _ rfl rfl O 30 (.int .i64 ((i:Int)+1)) rfl rfl _ _ hT.o (by kernel_rfl) (by simp) rfl fun wt hBt hgt=>?_
 replace hT:=hT.set (os':=rnC { v with due:=xZ n i,count:=(i:Int)+1 } a) hBt hgt;clear hBt hgt o30 q2 x30;go_upto_region 13 with fail
 replace hT:=hT.drew
 refine zp 5 (fun wx=>wx.cell? ⟨w.heap.size,28,none⟩=some (.slice a.sent.a v.sent.length a.sent.c)) (by kernel_rfl) (hT.x.cell 28 rfl) (fun zy=>?_)
 refine TkS 1 rfl zy ?_
 refine TkS 2 rfl zy ?_
 refine To 0 rfl fun K hK=>?_
 rw[if_pos (by rfl)]
 refine wp_load_row _ _ rfl O rfl _ (rnC { v with due:=xZ n i,count:=(i:Int)+1 } a) (0,0) _ hT.o Tryz.underlying34 rfl za ?_
 refine Ko hK ?_ fun zy=>?_
 ·exact hT.x.cell 28 rfl
 clear hK K
 refine To 3 rfl fun K hK=>?_
 rw[if_pos (by rfl)]
 refine zD _ _ _ rfl (w.heap.size+1) (rnC { v with due:=xZ n i,count:=(i:Int)+1 } a) rfl rfl _ _ hT.r za rfl (xQ { v with due:=xZ n i,count:=(i:Int)+1 } a) fun w9 vP hg9=>?_
 replace hT:=hT.put vP hg9;clear vP hg9
 refine Ko hK ?_ fun zy=>?_
 ·exact hT.x.cell 28 rfl
 clear hK K
 refine TkS 4 rfl zy ?_
 refine Wd ?_
 clear zy;go_wp2_with fail
 refine zo rfl rfl hT.r rfl rfl za rfl ?_
 exact TickOut.is (r:={ v with due:=xZ n i,count:=(i:Int)+1 }) (l:=v.sent) (by rw[so (by have:=oh.out;omega) (by have:=oh.out;omega) (by have:=oh.out;omega) (by rw[kQ.out];have:=et.out;omega),kQ.out];rfl) rfl hT.grows (HA.out.upd v.phase _ _) (HA.out.sent.mono hT.grows.le)
theorem jW {A:Option Addr}{n c:Nat}{ls:List (List UInt8)}(hn:n=ls.length) (hl:ls.length≤1099511627000) (ht:ls.flatten.length≤1099511627000) (w:World) (hs:SrcR w A ls) :
  Calls Tryz.prog 56 #[.slice A n c] w fun e w'=>∃ r,e=.returned r∧Fresh w (ls.flatten) r w':=by
 have HN:=Hh (And.intro hn (And.intro hl ht));clear hn hl ht;go_enter Tryz.func56,Tryz.ntmps56
 have zK:=OwnB.nil w w.heap.size;have zd:=Below.refl w.heap.size w;go_wp2_with fail
 go_loopw [3,5,8] (fun v1 v5 v2 wr=>∃ (k:Nat) (VA:Option Addr) (vc vn:Nat) (l:List UInt8),k≤ls.length∧v2=.int .i64 (k:Int)∧v1=.slice VA vn vc∧OwnB wr w.heap.size (.slice VA vn vc) l∧vn=l.length∧(ls.flatten=l++(ls.drop k).flatten)∧Below w.heap.size w wr) (fun _ _ v2 _=>ls.length-(intOf v2).toNat)
 case atStart=>exact⟨0,_,_,_,_,Nat.zero_le _,rfl,rfl,zK,rfl,by simp,zd⟩
 case round =>
 clear zK zd;obtain⟨k,VA,vc,vn,l,ku,rfl,rfl,vC,fQ,iy,wU⟩:=hrel;have HV:=Hh fQ;have HE:=Hh iy;clear fQ iy
 by_cases z6:k<ls.length
 ·obtain⟨ib,io,rfl,hr⟩:=hs (by omega);have kE:(k:Int)<(n:Int):=by have:=HN.out.1;omega
  obtain⟨Aj,cj,c0,fN⟩:=hr k z6;have q0:=(wU.cell (World.block_lt_of_cell? w _ c0)).trans c0;have fO:=fN.below wU;have kX:(k:Int)+1≤9223372036854775807:=by have:=HN.out.2.1;omega
  have HT:Hid (l.length+ls[k].length≤1099511627776):=by
   have h1:=congrArg List.length HE.out;rw[yN ls k z6]at h1
   simp only[List.length_append]at h1
   have:=HN.out.2.2;skip
   rw[Hid];omega
  have HF:Hid (ls.flatten=(l++ls[k])++(ls.drop (k+1)).flatten):=by rw[Hid,HE.out,yN ls k z6,List.append_assoc]
  clear hr c0 fN;go_wp2_with (at_builtin;refine zn ?_)
  unfold zj
  obtain rfl:=HV.out
  refine zw rfl (.tmp 12) (.tmp 13) rfl w.heap.size _ _ rfl vC Aj _ cj ls[k] rfl rfl fO HT.out wU.size fun v' w7 wE hg7 hat7=>?_
  obtain⟨VA',vc',rfl,_⟩:=wE.form;have nY:OwnB w7 w.heap.size (.slice VA' (l.length+ls[k].length) vc') (l++ls[k]):=by rw[← List.length_append];exact wE
  have uH:=wU.grown hg7 wU.size (fun q hq=>(vC.lt q hq).1);clear vC hg7 hat7 wU q0 fO wE;go_wp2_with fail
  go_roundw
  case rel=>exact⟨k+1,VA',vc',_,_,by omega,by go_num,rfl,nY,by rw[List.length_append],HF.out,uH⟩
  case measure=>simp[intOf];omega
 have cQ:k=ls.length:=by omega
 subst cQ;have kE:¬ ((ls.length:Int)<(n:Int)):=by have:=HN.out.1;omega
 have HZ:Hid (ls.flatten=l):=by rw[Hid,HE.out,List.drop_length];simp
 go_wp2_with fail
 go_ret
 obtain rfl:=HV.out
 exact⟨_,rfl,by rw[HZ.out];exact⟨vC,wU⟩⟩
def Apart (v u:Value):Prop:=∀ q,v.ownBlock=some q→u.ownBlock=some q→False
theorem Apart.ne {v u:Value}(h:Apart v u):u.ownBlock=none∨u.ownBlock≠v.ownBlock:=by
 cases hu:u.ownBlock with
 | none=>exact .inl rfl
 | some q=>exact .inr (fun e=>h q e.symm hu)
theorem Apart.step {v u v':Value}{w:World}{base:Nat}{l:List UInt8}(h:Apart v u) (hO:OwnB w base u l) (nr:At0 w v.ownBlock v'.ownBlock):Apart v' u:=by
 intro q hq hu
 rcases nr with e | ⟨g,e,hg⟩
 ·exact h q (e ▸ hq) hu
 rw[hq]at e;injection e with e
 subst e;have:=(hO.lt q hu).2
 omega
theorem Apart.symm {v u:Value}(h:Apart v u):Apart u v:=fun q h1 h2=>h q h2 h1
theorem px {l:List UInt8}{i:Nat}(h:i<l.length) (m:Int):(l.take i).map (ws m)++[ws m l[i]]=(l.take (i+1)).map (ws m):=by
 rw[List.take_succ_eq_append_getElem h,List.map_append];rfl
theorem jV {A:Option Addr}{c:Nat}{key:List UInt8}{n:Nat}(hn:n=key.length) (yU:key.length≤1099511627) {B:Option Addr}{d:Nat}{b:List UInt8}{k:Nat}(hk:k=b.length) (hmb:b.length≤1099511000) (w:World) (hS:Src w A (key.map zm)) (hT:Src w B (b.map zm)) :
  Calls Tryz.prog 55 #[.slice A n c,.slice B k d] w fun e w'=>∃ r,e=.returned r∧Fresh w (sM key b) r w':=by
 have HN:=Hh (And.intro hn (And.intro yU (And.intro hk hmb)));have HS:=Hh hS;have HT:=Hh hT;clear hn yU hk hmb hS hT;go_enter Tryz.func55,Tryz.ntmps55
 go_wp2_with (at_builtin;refine zn ?_)
 refine zw rfl (.const (.slice none 0 0)) (.tmp 10) rfl w.heap.size (.slice none 0 0) [] rfl (OwnB.nil _ _) A n c key rfl HN.out.1 HS.out (by have:=HN.out.2.1;simp;omega) (Nat.le_refl _) fun v1 w1 zK hg1 hat1=>?_
 rw[List.nil_append]at zK;have zd:=xj (by simpa [Value.ownBlock] using hg1);obtain⟨A1,c1,rfl,_⟩:=zK.form;rw[← HN.out.1]at zK⊢;have SM:=Hh (sj (c:=c1) HN.out.1 HN.out.2.1 w1 zK.src);clear hg1 hat1;go_upto_if 14 with fail
 go_cut [5] (fun s5 wx=>∃ (A2:Option Addr) (n2 c2:Nat),s5=.slice A2 n2 c2∧Hid (n2=(xF key).length)∧OwnB wx w.heap.size (.slice A2 n2 c2) (xF key)∧Below w.heap.size w wx)
 case first =>
  by_cases ag:n≤64
  ·have e:xF key=key:=by rw[xF,if_neg (by have:=HN.out.1;omega)]
   have ZM:¬ ((64:Int)<(n:Int)):=by omega
   have cY:=Hh e;clear e;go_wp2_with fail
   go_meet
   exact⟨A1,n,c1,rfl,by rw[Hid,cY.out];exact HN.out.1,by rw[cY.out];exact zK,zd⟩
  have e:xF key=vB key:=by rw[xF,if_pos (by have:=HN.out.1;omega)]
  have ZM:(64:Int)<(n:Int):=by omega
  have cY:=Hh e;clear e;go_wp2_with fail
  refine SM.out.mono ?_
  rintro e w2 ⟨r2,rfl,rC⟩
  obtain⟨A2,c2,rfl,_⟩:=rC.own.form;have ho:=rC.own.more (base':=w.heap.size) zd.size;have zO:=zd.trans (rC.2.mono zd.size);obtain⟨n1,ti⟩:∃ n1,(vB key).length=n1:=⟨_,rfl⟩
  rw[ti]at ho⊢;have cZ:=Hh ti;clear ti rC;go_wp2_with fail
  go_meet
  exact⟨A2,n1,c2,rfl,by rw[Hid,cY.out];exact cZ.out.symm,by rw[cY.out];exact ho,zO⟩
 case rest =>
 clear SM zK zd;obtain⟨A2,n2,c2,rfl,sS,vO,zO⟩:=hcut;have kR:=Hh (rT key);have ZG:Hid (xb 54 key=(wK (xF key)).map (ws 54)):=rfl;have ZH:Hid (xb 92 key=(wK (xF key)).map (ws 92)):=rfl;obtain⟨K,hK⟩:∃ K,xF key=K:=⟨_,rfl⟩
 rw[hK]at sS kR vO ZG ZH;clear hK;go_wp2_with fail
 go_loopw [5] (fun v5 wr=>∃ (z nz cz:Nat) (AZ:Option Addr),v5=.slice AZ nz cz∧Hid (nz=K.length+z∧z≤64-K.length)∧OwnB wr w.heap.size (.slice AZ nz cz) (K++List.replicate z 0)∧Below w.heap.size w wr) (fun v5 _=>64-wM v5)
 case atStart=>exact⟨0,n2,c2,A2,rfl,⟨sS.out,Nat.zero_le _⟩,by simpa using vO,zO⟩
 case round =>
 clear vO zO;obtain⟨z,nz,cz,AZ,rfl,HZ,hO,hb⟩:=hrel
 by_cases z6:(nz:Int)<64
 ·have zK:=hO.alloc (.cells #[.int .u8 0] 5);have zd:=hb.alloc hb.size (.cells #[.int .u8 0] 5);have Rr:Hid ((K++List.replicate z (0:UInt8)).length=nz):=by rw[Hid,List.length_append,List.length_replicate,HZ.out.1]
  go_wp2_with (at_builtin;refine zn ?_)
  refine zw rfl (.tmp 20) (.tmp 21) rfl w.heap.size _ _ rfl zK _ 1 _ [0] rfl rfl (Src.new _ _ _ _ rfl _ rfl) (by rw[Rr.out];simp only[List.length_singleton];omega) zd.size fun v' w5 zV hg5 hat5=>?_
  have yv:=zu zd hg5 (fun q hq=>(hO.lt q hq).1);rw[List.append_assoc,← List.replicate_succ']at zV;obtain⟨A5,c5,rfl,_⟩:=zV.form;have tL:Hid ((K++List.replicate (z+1) (0:UInt8)).length=nz+1):=by rw[Hid,List.length_append,List.length_replicate];have:=HZ.out.1;omega
  rw[tL.out]at zV⊢;clear hO hb zK zd hg5 hat5;go_wp2_with fail
  go_roundw
  case rel=>exact⟨z+1,nz+1,c5,A5,rfl,⟨by have:=HZ.out.1;omega,by have:=HZ.out;have:=kR.out;omega⟩,zV,yv⟩
  case measure=>simp only[wM];omega
 have hz:z=64-K.length:=by have:=HZ.out;have:=kR.out;omega
 have St:nz=64:=by have:=HZ.out;have:=kR.out;omega
 rw[hz]at hO;have aa:=Hh (rS kR.out);obtain⟨F,hF⟩:∃ F,wK K=F:=⟨_,rfl⟩
 have cA:OwnB wr w.heap.size (.slice AZ nz cz) F:=by rw[← hF];exact hO
 rw[hF]at ZG ZH aa;subst St;obtain⟨W0,Xy⟩:∃ W,W=wr:=⟨_,rfl⟩
 subst Xy;have Ry:=Hh cA.src;have W4:=Hh hb;have wU:=Below.refl W0.heap.size W0;clear hO cA hF hz hb z6;go_wp2_with fail
 go_loopw [6,7,25] (fun v6 v7 v25 wx=>∃ (j ni ci no co:Nat) (AI AO:Option Addr),v6=.slice AI ni ci∧v7=.slice AO no co∧v25=.int .i64 (j:Int)∧Hid (j≤64∧ni=j∧no=j)∧OwnB wx W0.heap.size (.slice AI ni ci) ((F.take j).map (ws 54))∧OwnB wx W0.heap.size (.slice AO no co) ((F.take j).map (ws 92))∧Apart (.slice AI ni ci) (.slice AO no co)∧Below W0.heap.size W0 wx) (fun _ _ v25 _=>(64-intOf v25).toNat)
 case atStart=>exact⟨0,0,0,0,0,none,none,rfl,rfl,rfl,⟨by omega,rfl,rfl⟩,OwnB.nil _ _,OwnB.nil _ _,(fun q hq=>by cases hq),wU⟩
 case round =>
 clear wU;obtain⟨j,ni,ci,no,co,AI,AO,rfl,rfl,rfl,HJ,hI,hO,Y2,hb⟩:=hrel
 by_cases z6:(j:Int)<64
 ·have Yh:j<F.length:=by rw[aa.out];omega
  obtain⟨fb,fo,rfl,pL⟩:=(Ry.out.below hb) (by intro h;have:=congrArg List.length h;rw[List.length_map]at this;simp at this;rw[this]at Yh;simp at Yh)
  have cl:wr.cell? ⟨fb,fo+j,none⟩=some (zm F[j]):=pL j _ (by rw[List.getElem?_map,List.getElem?_eq_getElem Yh];rfl);have ZK:=Hh (qO 54 F[j]);have ZL:=Hh (qO 92 F[j]);have X2:=Hh (px Yh 54);have X3:=Hh (px Yh 92);obtain⟨u,hu⟩:∃ u,F[j]=u:=⟨_,rfl⟩
  rw[hu]at cl ZK ZL X2 X3
  have WB:Hid (((F.take j).map (ws 54)).length=j∧((F.take j).map (ws 92)).length=j∧((F.take (j+1)).map (ws 54)).length=j+1∧((F.take (j+1)).map (ws 92)).length=j+1):=by
   rw[Hid]
   simp only[List.length_map,List.length_take,aa.out]
   omega
  have VG:=hI.alloc (.cells #[zm (ws 54 u)] 5);have zK:=hO.alloc (.cells #[zm (ws 54 u)] 5);have zd:=hb.alloc hb.size (.cells #[zm (ws 54 u)] 5);rw[ZK.out]at VG zK zd;clear hu pL Yh;go_wp2_with (at_builtin;refine zn ?_)
  refine zw rfl (.tmp 29) (.tmp 32) rfl W0.heap.size (.slice AI ni ci) _ rfl VG _ 1 _ [ws 54 u] rfl rfl (Src.new _ _ _ _ rfl _ (by simp only[List.map_cons,List.map_nil];rw[ZK.out])) (by rw[WB.out.1];simp only[List.length_singleton];omega) zd.size fun vi w5 hI5 hg5 hat5=>?_
  have yv:=zu zd hg5 (fun q hq=>(hI.lt q hq).1);have zV:=zK.kept hg5 Y2.ne;have bY:=Y2.step zK hat5;rw[X2.out]at hI5;obtain⟨A5,c5,rfl,_⟩:=hI5.form;rw[WB.out.2.2.1]at hI5 bY⊢;have WR:=hI5.alloc (.cells #[zm (ws 92 u)] 5);have pQ:=zV.alloc (.cells #[zm (ws 92 u)] 5);have wT:=yv.alloc yv.size (.cells #[zm (ws 92 u)] 5);rw[ZL.out]at WR pQ wT;clear hI hO VG zK zd hg5 hat5 Y2 hb cl;go_wp2_with (at_builtin;refine zn ?_)
  refine zw rfl (.tmp 34) (.tmp 37) rfl W0.heap.size (.slice AO no co) _ rfl pQ _ 1 _ [ws 92 u] rfl rfl (Src.new _ _ _ _ rfl _ (by simp only[List.map_cons,List.map_nil];rw[ZL.out])) (by rw[WB.out.2.1];simp only[List.length_singleton];omega) wT.size fun vo w7 wE hg7 hat7=>?_
  have uH:=zu wT hg7 (fun q hq=>(zV.lt q hq).1);have SO:=WR.kept hg7 bY.symm.ne;have XC:=(bY.symm.step WR hat7).symm;rw[X3.out]at wE;obtain⟨A7,c7,rfl,_⟩:=wE.form;rw[WB.out.2.2.2]at wE XC⊢;clear hI5 zV WR pQ yv wT hg7 hat7 bY;go_wp2_with fail
  go_roundw
  case rel=>exact⟨j+1,j+1,c5,j+1,c7,A5,A7,rfl,rfl,by go_num,⟨by omega,rfl,rfl⟩,SO,wE,XC,uH⟩
  case measure=>simp[intOf];omega
 have Uc:j=64:=by have:=HJ.out.1;omega
 have Sr:ni=64:=by have:=HJ.out;omega
 have aM:no=64:=by have:=HJ.out;omega
 subst Uc Sr aM;rw[List.take_of_length_le (by rw[aa.out];exact Nat.le_refl _),← ZG.out]at hI;rw[List.take_of_length_le (by rw[aa.out];exact Nat.le_refl _),← ZH.out]at hO;have tQ:=W4.out.trans (hb.mono W4.out.size);have WC:Hid ((xb 54 key).length+b.length≤1099511627):=by rw[Hid,yF];have:=HN.out.2.2.2;omega
 rw[show((64:Nat):Int)=64 from rfl]at z6⊢;go_wp2_with (at_builtin;refine zn ?_)
 refine zw rfl (.tmp 41) (.tmp 42) rfl W0.heap.size (.slice AI 64 ci) _ rfl hI B k d b rfl HN.out.2.2.1 (HT.out.below tQ) (by have:=WC.out;omega) hb.size fun vi w5 hI5 hg5 hat5=>?_
 have yv:=zu hb hg5 (fun q hq=>(hI.lt q hq).1);have zV:=hO.kept hg5 Y2.ne;have ik:Hid (vB (xb 92 key++vB (xb 54 key++b))=sM key b):=rfl;rw[← List.length_append]at WC;obtain⟨I,Tm⟩:∃ I,xb 54 key++b=I:=⟨_,rfl⟩
 rw[Tm]at hI5 ik WC;obtain⟨A5,c5,rfl,_⟩:=hI5.form;obtain⟨m5,YC⟩:∃ m,I.length=m:=⟨_,rfl⟩
 rw[YC]at hI5⊢;have SM:=Hh (sj (c:=c5) YC.symm WC.out w5 hI5.src);clear hI hO Y2 hb hg5 hat5 Tm hI5 YC;go_wp2_with fail
 refine SM.out.mono ?_
 rintro e w6 ⟨r6,rfl,fG⟩
 obtain⟨A6,c6,rfl,_⟩:=fG.own.form;rw[xU];have pQ:=zV.below fG.2;have wT:=yv.trans (fG.2.mono yv.size);have UB:=fG.own.src;clear zV yv fG SM;go_wp2_with (at_builtin;refine zn ?_)
 refine zw rfl (.tmp 40) (.tmp 44) rfl W0.heap.size (.slice AO 64 co) _ rfl pQ A6 32 c6 (vB I) rfl (xU _).symm UB (by rw[yF,xU];omega) wT.size fun vo w7 wE hg7 hat7=>?_
 have uH:=zu wT hg7 (fun q hq=>(pQ.lt q hq).1);have mu:Hid ((xb 92 key++vB I).length=96):=by rw[Hid,List.length_append,yF,xU]
 obtain⟨O,Ts⟩:∃ O,xb 92 key++vB I=O:=⟨_,rfl⟩
 rw[Ts]at wE mu ik;obtain⟨A7,c7,rfl,_⟩:=wE.form;rw[mu.out]at wE⊢;have SM:=Hh (sj (c:=c7) (n:=96) mu.out.symm (by rw[mu.out];omega) w7 wE.src);have vQ:=W4.out.trans (uH.mono W4.out.size);clear pQ wT UB hg7 hat7 Ts wE uH tQ;go_wp2_with fail
 refine SM.out.mono ?_
 rintro e w8 ⟨r8,rfl,aF⟩
 have ho:=aF.own.more (base':=w.heap.size) vQ.size;have rf:=vQ.trans (aF.2.mono vQ.size);clear aF vQ SM;go_wp2_with fail
 go_ret
 exact⟨_,rfl,by rw[← ik.out];exact⟨ho,rf⟩⟩
theorem nC {A:Option Addr}{c:Nat}{prk:List UInt8}{np:Nat}(hn:np=prk.length) (yU:prk.length≤1099511627) {B:Option Addr}{d:Nat}{info:List UInt8}{ni:Nat}(hk:ni=info.length) (hmb:info.length≤1099510000) (n:Nat) (ow:n≤8160) {H:Snap}(w:World) (hH:Holds w H) (hS:Src w A (prk.map zm)) (hT:Src w B (info.map zm)) :
  Calls Tryz.prog 46 #[.slice A np c,.slice B ni d,.int .i64 (n:Int)] w (dx w H prk info n):=by
 have HN:=Hh (And.intro hn (And.intro hk (And.intro hmb ow)));have HS:=Hh hS;have HT:=Hh hT;have HM:=Hh (fun(B':Option Addr) (d':Nat) (b:List UInt8) (k:Nat) (hk:k=b.length) (hmb:b.length≤1099511000) (w:World) (hS:Src w A (prk.map zm)) (hT:Src w B' (b.map zm))=>jV (c:=c) (d:=d') hn yU hk hmb w hS hT);have n1:¬ ((n:Int)<0):=by omega
 have n2:¬ ((8160:Int)<(n:Int)):=by omega
 have iq:=Grows.refl hH;clear hn yU hk hmb ow hS hT hH;go_enter Tryz.func46,Tryz.ntmps46
 go_wp2_with fail
 go_loopw [8,9,10] (fun v8 v9 v10 wr=>∃ (j no nt oc tc:Nat) (OA TA:Option Addr) (Hr:Snap),v8=.slice OA no oc∧v9=.slice TA nt tc∧v10=.int .i64 ((j:Int)+1)∧Hid (no=32*j∧32*j<n+32∧nt=(xK prk info j).length)∧OwnB wr w.heap.size (.slice OA no oc) (uF prk info j)∧Hid (∀ q,(Value.slice OA no oc).ownBlock=some q→Hr q=none)∧Hid (IsBytes Hr TA tc (xK prk info j))∧Grows w H wr Hr) (fun _ _ v10 _=>300-(intOf v10).toNat)
 case atStart=>exact⟨0,0,0,0,0,none,none,H,rfl,rfl,rfl,⟨rfl,by omega,rfl⟩,OwnB.nil _ _,(fun q hq=>by cases hq),IsBytes.nil _,iq⟩
 case round =>
 clear iq;obtain⟨j,no,nt,oc,tc,OA,TA,Hr,rfl,rfl,rfl,HJ,hO,HO,V0,hG⟩:=hrel
 by_cases z6:(no:Int)<(n:Int)
 ·have Sm:(j:Int)+1<256:=by have:=HJ.out;have:=HN.out;omega
  have wC:Hid (32*(j+1)<n+32):=by have:=HJ.out.1;rw[Hid];omega
  have il:Hid ((uF prk info j).length≤8192):=by have:=HJ.out;have:=HN.out;rw[Hid,wI];omega
  have K1:IntKind.u8.wrap ((j:Int)+1)=(j:Int)+1:=IntWalk.u8_in _ (by omega);have hb:=hG.below
  have rh:=SrcR.lit3 (n1:=nt) (c1:=tc) (n2:=ni) (c2:=d) (n3:=1) (c3:=1) (wr.alloc (.cells #[.int .u8 ((j:Int)+1)] 5)) 22 HJ.out.2.2 HN.out.2.1 (l3:=[UInt8.ofNat (j+1)]) rfl
   ((Src.of_row V0.out.row hG.holds).alloc _) ((HT.out.below hb).alloc _) (Src.new wr #[.int .u8 ((j:Int)+1)] 5 wr.heap.size rfl _ (by simp only[List.map_cons,List.map_nil];rw[mN (j+1) (by omega),Int.natCast_add];rfl))
  have yw:=(hG.alloc (.cells #[.int .u8 ((j:Int)+1)] 5)).alloc (.cells #[.slice TA nt tc,.slice B ni d,.slice (some ⟨wr.heap.size,0,none⟩) 1 1] 22);have vO:=(hO.alloc (.cells #[.int .u8 ((j:Int)+1)] 5)).alloc (.cells #[.slice TA nt tc,.slice B ni d,.slice (some ⟨wr.heap.size,0,none⟩) 1 1] 22);obtain⟨P0,cB⟩:∃ P,wr.heap.size=P:=⟨_,rfl⟩
  obtain⟨w1,vT⟩:∃ w1,wr.alloc (.cells #[.int .u8 ((j:Int)+1)] 5)=w1:=⟨_,rfl⟩
  rw[cB,vT]at rh yw vO;have mj:w1.heap.size=P0+1:=by rw[← vT,zY,cB]
  obtain⟨w2,tR⟩:∃ w2,w1.alloc (.cells #[.slice TA nt tc,.slice B ni d,.slice (some ⟨P0,0,none⟩) 1 1] 22)=w2:=⟨_,rfl⟩
  rw[tR]at rh yw vO;rw[mj]at rh;have HW:=Hh (And.intro cB (And.intro vT tR));have JN:=Hh (jW (n:=3) (c:=3) rfl (by simp) (by have h1:=s9 prk info j;have h2:=HN.out.2.2.1;simp;omega) w2 rh);clear cB vT mj tR rh hG hO hb;go_wp2_with fail
  rw[HW.out.1,HW.out.2.1,HW.out.2.2]
  refine JN.out.mono ?_
  rintro e w3 ⟨r3,rfl,rk⟩
  have ad:Hid ([xK prk info j,info,[UInt8.ofNat (j+1)]].flatten.length≤1099511000):=by have h1:=s9 prk info j;have h2:=HN.out.2.2.1;rw[Hid];simp;omega
  have ik:Hid (sM prk [xK prk info j,info,[UInt8.ofNat (j+1)]].flatten=xK prk info (j+1)):=by rw[Hid];simp[xK]
  obtain⟨I,hI⟩:∃ I,[xK prk info j,info,[UInt8.ofNat (j+1)]].flatten=I:=⟨_,rfl⟩
  rw[hI]at rk ad ik;obtain⟨A3,c3,rfl,_⟩:=rk.own.form;obtain⟨m3,kY⟩:∃ m,I.length=m:=⟨_,rfl⟩
  rw[kY];have yt:=yw.below_ rk.2;have sT:=vO.below rk.2;have sX:=Hh (HM.out _ c3 _ _ kY.symm ad.out w3 (HS.out.below yt.below) rk.own.src);clear hI kY rk yw vO JN;go_wp2_with fail
  refine sX.out.mono ?_
  rintro e w4 ⟨r4,rfl,qd⟩
  rw[ik.out]at qd;have tN:=sT.below qd.2;obtain⟨A4,c4,rfl,_⟩:=qd.own.form;obtain⟨H4,xm,xW,_⟩:=Fresh.snapB yt.holds qd;have xv:=yt.trans xm;have Xa:Hid (∀ q,(Value.slice OA no oc).ownBlock=some q→H4 q=none):=fun q hq=>xm.none (HO.out q hq) (sT.lt q hq).2
  have ms:(xK prk info (j+1)).length=32:=by rw[xK,vj]
  rw[ms];have bp:=Hh xW;clear yt xm xW qd sT sX;go_wp2_with (at_builtin;refine zn ?_)
  refine zw rfl (.tmp 32) (.tmp 33) rfl w.heap.size (.slice OA no oc) _ rfl tN A4 32 c4 (xK prk info (j+1)) rfl ms.symm (Src.of_row bp.out.row xv.holds) (by have:=il.out;rw[ms];omega) xv.below.size fun v' w5 zV hg5 hat5=>?_
  rw[show uF prk info j++xK prk info (j+1)=uF prk info (j+1) from rfl]at zV;obtain⟨A5,c5,rfl,_⟩:=zV.form
  have yC:Grows w H w5 H4:=by
   refine⟨zu xv.below hg5 (fun q hq=>(tN.lt q hq).1),xv.le,xv.holds.grown hg5 (fun q hq=>Xa.out q hq),xv.fresh⟩
  rw[wI]at zV hat5⊢
  have Xb:Hid (∀ q,(Value.slice A5 (32*(j+1)) c5).ownBlock=some q→H4 q=none):=fun q hq=>by
   rcases hat5 with h | ⟨g',h1,h2⟩
   ·exact Xa.out q (by rw[← h,hq])
   rw[hq]at h1;injection h1 with h1
   subst h1
   exact xv.holds.none_of_ge h2
  clear tN hg5 hat5 xv K1 ms;have ap:IntKind.i64.wrap ((j:Int)+1+1)=(j:Int)+1+1:=IntWalk.i64_in _ (by omega);obtain⟨no',kK⟩:∃ x,32*(j+1)=x:=⟨_,rfl⟩
  have Zr:=Hh kK;rw[kK]at zV Xb⊢;clear kK;go_wp2_with fail
  go_roundw
  case rel=>exact⟨j+1,no',32,c5,c4,A5,A4,H4,rfl,rfl,by go_num,⟨Zr.out.symm,wC.out,by rw[xK,vj]⟩,zV,Xb,bp,yC⟩
  case measure=>have:=wC.out;have:=HN.out;simp[intOf];omega
 have cf:Hid ((uF prk info j).take n=uS prk info n):=oG (by have:=HJ.out.1;omega) HJ.out.2.1;have fc:=wI prk info j;have sZ:n≤(uF prk info j).length:=by rw[fc];have:=HJ.out.1;omega
 obtain⟨H6,Y8,Y5,fG,_,wT⟩:=hO.snap hG.holds (fun q hq=>HO.out q (by cases OA with | none=>cases hq | some p=>exact hq));have Yl:=wT.le;have Uf:(n:Int)≤(oc:Int):=by omega
 have HR:Hid (∃ A' c',A'=A'∧c'=c'):=⟨0,0,rfl,rfl⟩
 have yC:Grows w H wr H6:=⟨hG.below,hG.le.trans Y8,Y5,fun q o hq=>by
  rcases fG q o hq with h | h
  ·exact hG.fresh q o h
  exact .inr (hO.lt q (by cases OA with | none=>cases h | some p=>exact h)).1⟩
 have Ul:=Hh (wT.take' n);have TD:=Hh wT.max;clear hO hG Y8 Y5 fG fc Yl sZ wT HR;go_wp2_with fail
 go_ret2
 refine⟨_,_,H6,rfl,yC, ?_⟩
 rw[← cf.out]
 exact Ul.out
end Go.Proofs.YtnfoilblmhbobaaGreatDoor
