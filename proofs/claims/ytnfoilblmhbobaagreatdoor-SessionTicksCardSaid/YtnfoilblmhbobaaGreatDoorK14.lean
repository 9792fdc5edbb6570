/- squeezed. SHA-256: numbers of four words: su -/
import Derived.Test.YtnfoilblmhbobaaGreatDoorK13
import GoSem.Core.Float
import Derived.Laws.FloatArith
set_option linter.unusedVariables false
set_option linter.unusedSimpArgs false
set_option maxRecDepth 100000
set_option maxHeartbeats 6400000
namespace Go.Proofs.YtnfoilblmhbobaaGreatDoor
open Go.RowKit
theorem wJ {P:Program}{ops:Array Oper}{Q:Exit→Act→World→Prop}{rest:List Oper}{a:Act}{w:World}{dst:Option Tmp}{op:BinOp}{x y:Operand}{t2:TypeId}{T:TypeId}{pos:String}{af:Array Edge}{g:Option (Nat×Bool)}
  (h:zj (wpList P ops Q (⟨dst,.binOp op 109 x y t2,T,pos,af,g⟩::rest) a w)):wpList P ops Q (⟨dst,.binOp op 109 x y t2,T,pos,af,g⟩::rest) a w:=h
theorem pv {P:Program}{ops:Array Oper}{Q:Exit→Act→World→Prop}{rest:List Oper}{a:Act}{w:World}{dst:Option Tmp}{x:Operand}{T:TypeId}{pos:String}{af:Array Edge}{g:Option (Nat×Bool)}
  (h:zj (wpList P ops Q (⟨dst,.convert 109 70 x,T,pos,af,g⟩::rest) a w)):wpList P ops Q (⟨dst,.convert 109 70 x,T,pos,af,g⟩::rest) a w:=h
theorem Blk.or {w w':World}{g:Nat}{t:TypeId}{cs:Array Value}(h:Blk w g t cs) (hw:w'=w∨w'=w.drew):Blk w' g t cs:=by
 rcases hw with rfl | rfl
 ·exact h
 exact h.drew
theorem ym {B:Nat}{w0 w w':World}(h:Below B w0 w) (hw:w'=w∨w'=w.drew):Below B w0 w':=by
 rcases hw with rfl | rfl
 ·exact h
 exact h.drew
theorem wk {x:List Nat}(hx:x.length=4) (w:World) :
  Calls Tryz.prog 95 #[.agg (zh x)] w fun e w'=>(∃ f,e=.returned (.float .f64 f))∧Below w.heap.size w w':=by
 have wS:=Blk.new w 145 (zh x);have yY:=zb w (.cells (zh x) 145);have HL:=Hh hx;clear hx;go_enter Tryz.func95,Tryz.ntmps95
 go_wp2_with fail
 go_loopw [3,4] (fun v3 v4 wr=>∃ (k f:Nat),v4=.int .i64 ((k:Int)-1)∧k≤4∧v3=.float .f64 f∧Blk wr w.heap.size 145 (zh x)∧Below w.heap.size w wr) (fun _ v4 _=>(intOf v4+1).toNat)
 case atStart=>exact⟨4,0,by rw[show((4:Nat):Int)-1=3 by omega],by omega,rfl,wS,yY⟩
 case round =>
 clear wS yY;obtain⟨k,f,rfl,aq,rfl,hX,hb⟩:=hrel
 by_cases h0:k=0
 ·subst h0;rw[show((0:Nat):Int)-1 = -1 by omega];go_wp2_with fail
  go_ret
  exact⟨⟨f,rfl⟩,hb⟩
 obtain⟨i,hi⟩:∃ i:Nat,k=i+1:=⟨k-1,by omega⟩
 subst hi;rw[show((i+1:Nat):Int)-1=(i:Int) by omega];have aG:(i:Int)<4:=by omega
 have Y6:IntKind.i64.wrap ((i:Int)-1)=(i:Int)-1:=IntWalk.i64_in _ (by omega);have HK:=Hh aq;clear h0 aq;go_wp2_with (with_reducible refine wJ ?_)
 refine xl rfl _ _ _ _ _ rfl (by simp) _ _ rfl rfl fun r w1 vT=>?_
 have VQ:=hX.or vT;have zd:=ym hb vT;have cx:=VQ.cell i (xB _ _ (by have:=HL.out;omega));clear hX hb vT;go_wp2_with (with_reducible refine wJ ?_)
 refine xl rfl _ _ _ _ _ rfl (by simp) _ _ rfl rfl fun r2 w2 tR=>?_
 have uJ:=VQ.or tR;have zO:=ym zd tR;clear VQ zd tR cx;go_wp2_with fail
 go_roundw
 case rel=>exact⟨i,r2,rfl,by have:=HK.out;omega,rfl,uJ,zO⟩
 case measure=>simp[intOf]
theorem lY (x y:Nat) (w:World):(callFunc 109 #[.int .u64 (x:Int),.int .u64 (y:Int),.int .u64 0]).run Tryz.prog w =
  .ok (.value (.tuple #[.int .u64 (((x+18446744073709551616-y)%18446744073709551616:Nat):Int),.int .u64 ((if x<y then 1 else 0:Nat):Int)])) w:=oN x y 0 (by omega) w
theorem vp (x0 x1 x2 x3 d:Nat) (h0:x0<18446744073709551616) (hd:d<18446744073709551616) (h1:x1+1<18446744073709551616) (w:World) :
  Calls Tryz.prog 100 #[.agg (zh [x0,x1,x2,x3]),.int .u64 (d:Int)] w fun e w'=>e=.returned (.agg (zh [(x0+d)%18446744073709551616,x1+(x0+d)/18446744073709551616,x2,x3]))∧Below w.heap.size w w':=by
 have wS:=(Blk.new w 145 (zh [x0,x1,x2,x3])).alloc (.cells #[.int .u64 0,.int .u64 0,.int .u64 0,.int .u64 0] 145);have rN:=Blk.new (w.alloc (.cells (zh [x0,x1,x2,x3]) 145)) 145 #[.int .u64 0,.int .u64 0,.int .u64 0,.int .u64 0];rw[zY]at rN;have yY:=zb w (.cells (zh [x0,x1,x2,x3]) 145);have zd:=yY.alloc yY.size (.cells #[.int .u64 0,.int .u64 0,.int .u64 0,.int .u64 0] 145);have A:=tp x0 d;obtain⟨s0,aQ⟩:∃ n,(x0+d)%18446744073709551616=n:=⟨_,rfl⟩
 obtain⟨c,hc⟩:∃ n,(x0+d)/18446744073709551616=n:=⟨_,rfl⟩
 have B:IntKind.u64.wrap ((x1:Int)+(c:Int))=((x1+(x0+d)/18446744073709551616:Nat):Int):=by rw[hc,← Int.natCast_add];exact yy _ (by omega)
 obtain⟨s1,xX⟩:∃ n,x1+(x0+d)/18446744073709551616=n:=⟨_,rfl⟩
 rw[aQ,xX];rw[aQ,hc]at A;rw[xX]at B;clear aQ xX hc yY;have c0:((w.alloc (.cells (zh [x0,x1,x2,x3]) 145)).alloc (.cells #[.int .u64 0,.int .u64 0,.int .u64 0,.int .u64 0] 145)).cell? ⟨w.heap.size,0,none⟩=some (.int .u64 (x0:Int)):=wS.cell 0 rfl;go_enter Tryz.func100,Tryz.ntmps100
 go_wp2_with (with_reducible refine zx ?_)
 refine zv rfl _ _ _ rfl rfl w.heap.size 0 (.int .u64 (s0:Int)) rfl rfl _ _ wS xd (by rw[xq];simp) rfl fun w2 uJ us=>?_
 rw[vX]at uJ;replace uJ:Blk w2 w.heap.size 145 (zh [s0,x1,x2,x3]):=uJ;have fW:=rN.grown us (by intro hc;injection hc;omega);have zO:=zd.grown us zd.size (by rintro q ⟨⟩;omega);have c1:w2.cell? ⟨w.heap.size,1,none⟩=some (.int .u64 (x1:Int)):=uJ.cell 1 rfl;clear wS rN zd us c0 A;go_wp2_with (with_reducible refine zx ?_)
 refine zv rfl _ _ _ rfl rfl w.heap.size 1 (.int .u64 (s1:Int)) rfl rfl _ _ uJ xd (by rw[xq];simp) rfl fun w3 t8 rO=>?_
 rw[vX]at t8;replace t8:Blk w3 w.heap.size 145 (zh [s0,s1,x2,x3]):=t8;have Yb:=fW.grown rO (by intro hc;injection hc;omega);have yV:=zO.grown rO zO.size (by rintro q ⟨⟩;omega);clear uJ fW zO rO c1 B;have e0:w3.cell? ⟨w.heap.size,0,none⟩=some (.int .u64 (s0:Int)):=t8.cell 0 rfl;have e1:w3.cell? ⟨w.heap.size,1,none⟩=some (.int .u64 (s1:Int)):=t8.cell 1 rfl;have e2:w3.cell? ⟨w.heap.size,2,none⟩=some (.int .u64 (x2:Int)):=t8.cell 2 rfl;have e3:w3.cell? ⟨w.heap.size,3,none⟩=some (.int .u64 (x3:Int)):=t8.cell 3 rfl;go_wp2_with (with_reducible refine zx ?_)
 refine zr rfl _ _ _ rfl rfl (w.heap.size+1) (zh [s0,s1,x2,x3]) rfl rfl _ _ Yb yW rfl (ya _) fun wz hRz hgz=>?_
 have vQ:=yV.grown hgz yV.size (by rintro q ⟨⟩;omega);clear e0 e1 e2 e3;go_wp2_with fail
 refine wd rfl rfl hRz rfl rfl yW rfl ?_
 exact⟨rfl,vQ⟩
theorem tb (x0 x1 x2 x3 d:Nat) (h1:x1<18446744073709551616) (h2:1≤x1) (w:World) :
  Calls Tryz.prog 98 #[.agg (zh [x0,x1,x2,x3]),.int .u64 (d:Int)] w fun e w'=>e=.returned (.agg (zh [(x0+18446744073709551616-d)%18446744073709551616,x1-(if x0<d then 1 else 0),x2,x3]))∧Below w.heap.size w w':=by
 have wS:=(Blk.new w 145 (zh [x0,x1,x2,x3])).alloc (.cells #[.int .u64 0,.int .u64 0,.int .u64 0,.int .u64 0] 145);have rN:=Blk.new (w.alloc (.cells (zh [x0,x1,x2,x3]) 145)) 145 #[.int .u64 0,.int .u64 0,.int .u64 0,.int .u64 0];rw[zY]at rN;have yY:=zb w (.cells (zh [x0,x1,x2,x3]) 145);have zd:=yY.alloc yY.size (.cells #[.int .u64 0,.int .u64 0,.int .u64 0,.int .u64 0] 145);have A:=lY x0 d;obtain⟨s0,aQ⟩:∃ n,(x0+18446744073709551616-d)%18446744073709551616=n:=⟨_,rfl⟩
 obtain⟨c,hc⟩:∃ n,(if x0<d then 1 else 0)=n:=⟨_,rfl⟩
 have B:IntKind.u64.wrap ((x1:Int)-(c:Int))=((x1-(if x0<d then 1 else 0):Nat):Int):=by
  have ri:c≤1:=by rw[← hc];split <;> omega
  rw[hc,show(x1:Int)-(c:Int)=((x1-c:Nat):Int) by omega]
  exact yy _ (by omega)
 obtain⟨s1,xX⟩:∃ n,x1-(if x0<d then 1 else 0)=n:=⟨_,rfl⟩
 rw[aQ,xX];rw[aQ,hc]at A;rw[xX]at B;clear aQ xX hc yY;have c0:((w.alloc (.cells (zh [x0,x1,x2,x3]) 145)).alloc (.cells #[.int .u64 0,.int .u64 0,.int .u64 0,.int .u64 0] 145)).cell? ⟨w.heap.size,0,none⟩=some (.int .u64 (x0:Int)):=wS.cell 0 rfl;go_enter Tryz.func98,Tryz.ntmps98
 go_wp2_with (with_reducible refine zx ?_)
 refine zv rfl _ _ _ rfl rfl w.heap.size 0 (.int .u64 (s0:Int)) rfl rfl _ _ wS xd (by rw[xq];simp) rfl fun w2 uJ us=>?_
 rw[vX]at uJ;replace uJ:Blk w2 w.heap.size 145 (zh [s0,x1,x2,x3]):=uJ;have fW:=rN.grown us (by intro hc;injection hc;omega);have zO:=zd.grown us zd.size (by rintro q ⟨⟩;omega);have c1:w2.cell? ⟨w.heap.size,1,none⟩=some (.int .u64 (x1:Int)):=uJ.cell 1 rfl;clear wS rN zd us c0 A;go_wp2_with (with_reducible refine zx ?_)
 refine zv rfl _ _ _ rfl rfl w.heap.size 1 (.int .u64 (s1:Int)) rfl rfl _ _ uJ xd (by rw[xq];simp) rfl fun w3 t8 rO=>?_
 rw[vX]at t8;replace t8:Blk w3 w.heap.size 145 (zh [s0,s1,x2,x3]):=t8;have Yb:=fW.grown rO (by intro hc;injection hc;omega);have yV:=zO.grown rO zO.size (by rintro q ⟨⟩;omega);clear uJ fW zO rO c1 B;have e0:w3.cell? ⟨w.heap.size,0,none⟩=some (.int .u64 (s0:Int)):=t8.cell 0 rfl;have e1:w3.cell? ⟨w.heap.size,1,none⟩=some (.int .u64 (s1:Int)):=t8.cell 1 rfl;have e2:w3.cell? ⟨w.heap.size,2,none⟩=some (.int .u64 (x2:Int)):=t8.cell 2 rfl;have e3:w3.cell? ⟨w.heap.size,3,none⟩=some (.int .u64 (x3:Int)):=t8.cell 3 rfl;go_wp2_with (with_reducible refine zx ?_)
 refine zr rfl _ _ _ rfl rfl (w.heap.size+1) (zh [s0,s1,x2,x3]) rfl rfl _ _ Yb yW rfl (ya _) fun wz hRz hgz=>?_
 have vQ:=yV.grown hgz yV.size (by rintro q ⟨⟩;omega);clear e0 e1 e2 e3;go_wp2_with fail
 refine wd rfl rfl hRz rfl rfl yW rfl ?_
 exact⟨rfl,vQ⟩
theorem td {x y:List Nat}(hx:x.length=4) (hy:y.length=4) (w:World) :
  Calls Tryz.prog 99 #[.agg (zh x),.agg (zh y)] w fun e w'=>∃ z,e=.returned (.agg (zh z))∧z.length=4∧Below w.heap.size w w':=by
 have wS:=((Blk.new w 145 (zh x)).alloc (.cells (zh y) 145)).alloc (.cells #[.int .u64 0,.int .u64 0,.int .u64 0,.int .u64 0] 145);have i5:=(Blk.new (w.alloc (.cells (zh x) 145)) 145 (zh y)).alloc (.cells #[.int .u64 0,.int .u64 0,.int .u64 0,.int .u64 0] 145);have rN:=Blk.new ((w.alloc (.cells (zh x) 145)).alloc (.cells (zh y) 145)) 145 #[.int .u64 0,.int .u64 0,.int .u64 0,.int .u64 0]
 simp only[zY]at i5 rN
 have yY:=zb w (.cells (zh x) 145);have zd:=yY.alloc yY.size (.cells (zh y) 145);have zO:=zd.alloc zd.size (.cells #[.int .u64 0,.int .u64 0,.int .u64 0,.int .u64 0] 145);have HL:=Hh (And.intro hx hy);have mh:=Hh hx;clear hx hy yY zd;go_enter Tryz.func99,Tryz.ntmps99
 go_wp2_with fail
 go_loopw [5,7] (fun v5 v7 wr=>∃ (k c:Nat) (xs:List Nat),v7=.int .i64 (k:Int)∧v5=.int .u64 (c:Int)∧c≤1∧k≤4∧xs.length=4∧
   Blk wr w.heap.size 145 (zh xs)∧Blk wr (w.heap.size+1) 145 (zh y)∧Blk wr (w.heap.size+1+1) 145 #[.int .u64 0,.int .u64 0,.int .u64 0,.int .u64 0]∧Below w.heap.size w wr) (fun _ v7 _=>(4-intOf v7).toNat)
 case atStart=>exact⟨0,0,x,rfl,rfl,by omega,by omega,mh.out,wS,i5,rN,zO⟩
 case round =>
 clear wS i5 rN zO mh;obtain⟨k,c,xs,rfl,rfl,hc,aq,j6,hX,hY,hR,hb⟩:=hrel
 by_cases z6:(k:Int)<4
 ·have cx:=hX.drew.cell k (xB _ _ (by omega));have cy:=hY.drew.cell k (xB _ _ (by have:=HL.out;omega));obtain⟨xk,dD⟩:∃ n,zF xs k=n:=⟨_,rfl⟩
  obtain⟨yk,UK⟩:∃ n,zF y k=n:=⟨_,rfl⟩
  rw[dD]at cx;rw[UK]at cy;have A:=oN xk yk c hc;obtain⟨q0,ui⟩:∃ n,(xk+18446744073709551616-yk-c)%18446744073709551616=n:=⟨_,rfl⟩
  obtain⟨q1,j5⟩:∃ n,(if xk<yk+c then 1 else 0)=n:=⟨_,rfl⟩
  have HQ:Hid (q1≤1):=by rw[Hid,← j5];split <;> omega
  rw[ui,j5]at A;have Xi:=Hh j6;have wC:=Hh z6;have U0:=hX.drew;clear dD UK ui j5 hc j6 aq;go_upto_region 5 with fail
  refine uM 13 (fun wx=>wx.cell? ⟨w.heap.size,k,none⟩=some (.int .u64 (xk:Int))∧wx.cell? ⟨w.heap.size+1,k,none⟩=some (.int .u64 (yk:Int))) (by kernel_rfl) (⟨cx,cy⟩) (fun zy=>?_)
  refine Zk 0 rfl zy ?_
  refine Zk 1 rfl zy ?_
  refine Zk 2 rfl zy ?_
  refine Zk 3 rfl zy ?_
  refine Zk 4 rfl zy ?_
  refine Zk 5 rfl zy ?_
  refine Zk 6 rfl zy ?_
  refine Zk 7 rfl zy ?_
  refine Zo 8 rfl fun K hK=>?_
  go_simp
  refine Ko hK ?_ fun zy=>?_
  ·exact⟨cx,cy⟩
  clear hK K
  refine Zk 9 rfl zy ?_
  refine Zk 10 rfl zy ?_
  refine ZkT 11 rfl (fun _=>zy) ?_
  refine Zk 12 rfl zy ?_
  refine Zo 13 rfl fun K hK=>?_
  rw[if_pos (by rfl)]
  refine zZ _ _ _ rfl w.heap.size k (.int .u64 (q0:Int)) rfl rfl _ _ U0 xd (by rw[xq,Xi.out];have:=wC.out;omega) rfl fun w9 nm hg9=>?_
  refine Kz hK ?_
  clear hK K
  refine ZkT 14 rfl (fun h=>absurd h (by decide)) ?_
  refine WaysZ.done (by kernel_rfl) ?_
  rw[vX]at nm;have cu:=hY.drew.grown hg9 (by intro hc;injection hc;omega);have vP:=hR.drew.grown hg9 (by intro hc;injection hc;omega);have rB:=hb.drew.grown hg9 hb.size (by rintro q ⟨⟩;exact Nat.le_refl _);clear hX hY hR hb U0 cx cy A hg9 zy;go_wp2_with fail
  go_roundw
  case rel=>exact⟨k+1,q1,xs.set k q0,by go_num,rfl,HQ.out,by have:=wC.out;omega,by rw[List.length_set];exact Xi.out,nm,cu,vP,rB⟩
  case measure=>have:=wC.out;simp[intOf];omega
 obtain rfl:k=4:=by omega
 rw[show((4:Nat):Int)=4 from rfl]at z6⊢;obtain⟨z0,z1,z2,z3,rfl⟩:=uv j6;have c0:wr.cell? ⟨w.heap.size,0,none⟩=some (.int .u64 (z0:Int)):=hX.cell 0 rfl;have c1:wr.cell? ⟨w.heap.size,1,none⟩=some (.int .u64 (z1:Int)):=hX.cell 1 rfl;have c2:wr.cell? ⟨w.heap.size,2,none⟩=some (.int .u64 (z2:Int)):=hX.cell 2 rfl;have c3:wr.cell? ⟨w.heap.size,3,none⟩=some (.int .u64 (z3:Int)):=hX.cell 3 rfl;clear hc aq j6;go_wp2_with (with_reducible refine zx ?_)
 refine zr rfl _ _ _ rfl rfl (w.heap.size+1+1) (zh [z0,z1,z2,z3]) rfl rfl _ _ hR yW rfl (ya _) fun wz hRz hgz=>?_
 have vQ:=hb.grown hgz hb.size (by rintro q ⟨⟩;omega);clear c0 c1 c2 c3;go_wp2_with fail
 refine wd rfl rfl hRz rfl rfl yW rfl ?_
 exact⟨_,rfl,rfl,vQ⟩
def pJ:Lie Nat where
 k:=1
 pos:=by omega
 E:=fun _ x c=>c=[.int .u64 (x:Int)]
 len:=by rintro _ _ _ rfl;rfl
 one:=by rintro _ _ _ rfl;simp[Value.oneCell']
 mono:=fun _ h=>h
theorem lu:(Tryz.prog.info? 70).map (fun i=>(i.zero,i.size,i.bytes))=some (some (.int .u64 0),1,8):=by kernel_rfl
theorem qj {w:World}{base:Nat}{A:Option Addr}{m c:Nat}{H:Snap}{l:List Nat}(h:OwnX pJ 70 w base (.slice A m c) H l) (h0:0<l.length) :
  ∃ g,A=some ⟨g,0,none⟩∧∀ j (hj:j<l.length),w.cell? ⟨g,j,none⟩=some (.int .u64 (l[j]:Int)):=by
 obtain⟨g,e,_⟩:=h.at_ 0 h0
 refine⟨g,e,fun j hj=>?_⟩
 obtain⟨g',e',d,hd,hc⟩:=h.at_ j hj;rw[e]at e'
 cases e'
 cases hd
 have h1:=hc 0 _ rfl
 simpa [pJ] using h1
theorem ZB (k q:Nat):(((k:Int)+2)%(q:Int) != 0)=((k+2)%q != 0):=by
 rw[Bool.eq_iff_iff,bne_iff_ne,bne_iff_ne];have h:((k:Int)+2)%(q:Int)=(((k+2)%q:Nat):Int):=by rw[Int.natCast_emod,Int.natCast_add];rfl
 rw[h]
 omega
theorem jg (H:Snap) (w:World):Calls Tryz.prog 84 #[.int .i64 64] w fun e w'=>∃ A c,e=.returned (.slice A 64 c)∧OwnX pJ 70 w' w.heap.size (.slice A 64 c) H (xx.take 64)∧Below w.heap.size w w':=by
 have YZ:=OwnX.nil pJ 70 w w.heap.size H;have yY:=Below.refl w.heap.size w;go_enter Tryz.func84,Tryz.ntmps84
 go_wp2_with fail
 go_loopw [3,4] (fun v3 v4 wr=>∃ (k:Nat),v4=.int .u64 ((k:Int)+2)∧Hid (k≤310)∧OwnX pJ 70 wr w.heap.size v3 H (xG k)∧Below w.heap.size w wr) (fun _ v4 _=>400-(intOf v4).toNat)
 case atStart=>exact⟨0,rfl,Nat.zero_le _,YZ,yY⟩
 case round =>
 clear YZ yY;obtain⟨k,rfl,HK,hO,hb⟩:=hrel;obtain⟨A,c,rfl,Yk,oo⟩:=hO.form;have ZJ:Hid (∀ q∈xG k,2≤q∧q≤k+1):=oX k;have iW:Hid (¬ (xG k).length<64→xG k=xx.take 64):=jn HK.out;have W5:Hid ((xG k).length<64→k≤309):=dv;have eH:Hid (xG (k+1)=rL (xG k) (k+2)):=rfl;obtain⟨l,hl⟩:∃ l,xG k=l:=⟨_,rfl⟩
 rw[hl]at hO Yk ZJ iW W5 eH⊢;obtain⟨m,hm⟩:∃ m,l.length=m:=⟨_,rfl⟩
 have WE:=Hh hm;rw[hm]at Yk iW W5⊢;have Qx:=Hh (And.intro Yk oo);have cA:=hO;rw[hm]at cA;clear hl hm Yk oo
 by_cases z6:(m:Int)<64
 ·have RC:IntKind.u64.wrap ((k:Int)+2+1)=(k:Int)+2+1:=by
   rw[IntKind.wrap_u64];have:=HK.out
   omega
  have W9:Hid (k≤309):=W5.out (by omega);have wC:=Hh z6;go_wp2_with fail
  go_loop [5,16] (fun v5 v16=>∃ j:Nat,Hid (j≤m)∧v16=.int .i64 (j:Int)∧v5=.bool ((l.take j).all (fun q=>(k+2)%q != 0))) (fun _ v16=>m-(intOf v16).toNat)
  case atStart=>exact⟨0,Nat.zero_le _,rfl,rfl⟩
  case round =>
  obtain⟨j,HJ,rfl,rfl⟩:=hrel;obtain⟨bb,t9⟩:∃ bb,(l.take j).all (fun q=>(k+2)%q != 0)=bb:=⟨_,rfl⟩
  rw[t9];have Um:=Hh t9;clear t9
  by_cases hj:(j:Int)<(m:Int)
  ·have pT:j<l.length:=by rw[WE.out];omega
   have Uw:=Hh (ox (fun q=>(k+2)%q != 0) l j pT);obtain⟨g,rfl,hg⟩:=qj hO (by omega);have cx:=hg j pT;have HQ:=Hh (ZJ.out l[j] (List.getElem_mem pT));obtain⟨q,hq⟩:∃ q,l[j]=q:=⟨_,rfl⟩
   rw[hq]at cx HQ Uw;have ui:((q:Int)=0)=False:=eq_false (by have:=HQ.out;omega);have j5:(q=0)=False:=eq_false (by have:=HQ.out;omega);have YF:((q:Int)==0)=false:=by rw[beq_eq_false_iff_ne];have:=HQ.out;omega
   have W6:=Hh hj;have TU:Hid ((l.take (j+1)).all (fun q=>(k+2)%q != 0)=(bb&&((k+2)%q != 0))):=by have h:=Uw.out;rw[Um.out]at h;exact h
   clear Uw;clear hg hq pT
   cases bb with
   | false =>
    go_wp2_with fail
    go_round
    ·exact⟨j+1,by have:=W6.out;rw[Hid];omega,by go_num,by rw[TU.out];rfl⟩
    have:=W6.out;simp[intOf];omega
   | true =>
   go_wp2_with fail
   go_round
   ·exact⟨j+1,by have:=W6.out;rw[Hid];omega,by go_num,by rw[TU.out,ZB,Bool.true_and]⟩
   have:=W6.out;simp[intOf];omega
  obtain rfl:j=m:=by have:=HJ.out;omega
  clear hj
  have Ww:Hid (l.all (fun q=>(k+2)%q != 0)=bb):=by
   have h:=Um.out;rw[List.take_of_length_le (by rw[WE.out];omega)]at h
   exact h
  clear Um ZJ iW W5
  cases bb with
  | false =>
   go_wp2_with fail
   go_roundw
   case rel=>exact⟨k+1,by go_num,by have:=W9.out;rw[Hid];omega,by rw[eH.out,dr Ww.out];exact cA,hb⟩
   case measure=>have:=W9.out;simp[intOf];omega
  | true =>
  have zK:=hO.alloc (.cells #[.int .u64 ((k:Int)+2)] 70);have zd:=hb.alloc hb.size (.cells #[.int .u64 ((k:Int)+2)] 70);have Wf:∀ kb,(Value.slice A j c).ownBlock=some kb→w.heap.size≤kb:=fun kb hk=>(cA.lt kb hk).1
  have vO:OwnX pJ 70 (wr.alloc (.cells #[.int .u64 ((k:Int)+2)] 70)) w.heap.size (.slice A j c) H l:=cA.alloc _;go_wp2_with (at_builtin;refine zn ?_)
  refine OwnX.append rfl (.tmp 29) (.tmp 31) 122 rfl Tryz.underlying122 rfl (by omega) lu rfl vO _ 1 _ [.int .u64 ((k:Int)+2)] [k+2] rfl rfl (RowC.one rfl) (Src.new _ _ _ _ rfl _ rfl) (by have:=WE.out;have:=wC.out;simp;omega) zd.size fun v' w6 pQ hg6 hat6=>?_
  have wT:=zu zd hg6 Wf;clear hO cA zK vO hb zd hg6 hat6;go_wp2_with fail
  go_roundw
  case rel=>exact⟨k+1,by go_num,by have:=W9.out;rw[Hid];omega,by rw[eH.out,gi Ww.out];exact pQ,wT⟩
  case measure=>have:=W9.out;simp[intOf];omega
 have HE:Hid (l=xx.take 64):=iW.out (by omega);go_wp2_with fail
 go_ret
 have hm:m=64:=by
  have h1:=WE.out;rw[HE.out]at h1;rw[← h1];rfl
 subst hm
 exact⟨A,c,rfl,by rw[← HE.out];exact cA,hb⟩
end Go.Proofs.YtnfoilblmhbobaaGreatDoor
namespace Go.Proofs.YtnfoilblmhbobaaGreatDoor
abbrev f64:=FloatKind.f64.format
def XR (u:Nat):Option Nat:=if u<9223372036854775808 then some u else none
def iY (x:Nat):Option Nat:=do
 let t:=x/3+3071306043645493248
 let a ← f64.mul t t
 let r ← f64.div a x
 let b ← f64.mul r t
 let s ← f64.add 4603064841997850097 b
 let c ← f64.add s 4609048195788499471
 let d ← f64.div 13827900089180538932 s
 let e ← f64.add c d
 let g ← f64.div 4609916747145206638 e
 let h ← f64.add 4600105333671292343 g
 let u0 ← f64.mul t h
 let u ← XR u0
 let v:=u/1073741824*1073741824+1073741824
 let i ← f64.mul v v
 let j ← f64.div x i
 let k ← f64.add v v
 let l ← f64.sub j v
 let m ← f64.add k j
 let n ← f64.div l m
 let o ← f64.mul v n
 f64.add v o
def qP (x:Nat):Option Nat :=
 match FloatKind.f64.decode x with
 | .nan _ _=>none
 | d=>some (FloatKind.f64.encode (d.integral .down))
def bX (q:Option Nat):Bool :=
 match q with
 | some f=>match qP f with
  | some g=>match floatToIntVal .f64 g .u64 with
   | some k=>decide (1≤k)&&decide (k≤20)
   | none=>false
  | none=>false
 | none=>false
theorem rR {q:Option Nat}(h:bX q=true):∃ f g k:Nat,q=some f∧qP f=some g∧floatToIntVal .f64 g .u64=some (k:Int)∧1≤k∧k≤20:=by
 unfold bX at h
 split at h
 ·rename_i f
  split at h
  ·rename_i g hg
   split at h
   ·rename_i k hk
    simp only[Bool.and_eq_true,decide_eq_true_eq]at h
    exact⟨f,g,k.toNat,rfl,hg,by rw[hk];congr 1;omega,by omega,by omega⟩
   cases h
  cases h
 cases h
def ZD (p:Nat):Option Nat:=f64.sqrt (floatOfInt .f64 (p:Int))
def Yu (p:Nat):Option Nat:=iY (floatOfInt .f64 (p:Int))
end Go.Proofs.YtnfoilblmhbobaaGreatDoor
namespace Go.Proofs.YtnfoilblmhbobaaGreatDoor
open Go.RowKit
theorem dj (x r:Nat) (h:f64.sqrt x=some r) (w:World):(callFunc 103 #[.float .f64 x]).run Tryz.prog w=.ok (.value (.float .f64 r)) w:=by
 rw[run_callFunc_extern Tryz.func103 (by kernel_rfl) (by kernel_rfl) (by kernel_rfl) (e:=Extern.MathSqrt.sqrt) (by kernel_rfl)]
 have e:Extern.MathSqrt.sqrt #[.float .f64 x]=pure (.float .f64 r):=by
  show(match f64.sqrt x with | some r=>pure (Value.float .f64 r) | none=>do pure (Value.float .f64 (← choose (.nanBits .f64 x x))))=_
  rw[h]
 rw[e];rfl
theorem gV (x r:Nat) (h:qP x=some r) (w:World):(callFunc 106 #[.float .f64 x]).run Tryz.prog w=.ok (.value (.float .f64 r)) w:=by
 rw [run_callFunc_extern Tryz.func106 (by kernel_rfl) (by kernel_rfl) (by kernel_rfl) (e := Extern.MathFloor.toIntegral "math.archFloor" .down) (by kernel_rfl)]
 have e : (Extern.MathFloor.toIntegral "math.archFloor" .down #[.float .f64 x]) = pure (.float .f64 r) := by
  show((match FloatKind.f64.decode x with
   | .nan s t =>
    if FloatKind.f64.format.quiet t=t then pure (Value.float .f64 x) else do
    let kept ← choose (.extern "math.Floor,Ceil,Trunc,RoundToEven.signallingNaN kept" 2)
    pure (Value.float .f64 (if kept==1 then x else FloatKind.f64.encode (.nan s (FloatKind.f64.format.quiet t))))
   | d=>pure (Value.float .f64 (FloatKind.f64.encode (d.integral .down)))):Sem Value)=_
  unfold qP at h
  cases hd:FloatKind.f64.decode x with
  | nan s t=>rw[hd]at h;cases h
  | infinity s=>rw[hd]at h;injection h with h;subst h;rfl
  | number s m i=>rw[hd]at h;injection h with h;subst h;rfl
 rw[e];rfl
theorem oD (x r:Nat) (h:f64.sqrt x=some r) (w:World):Calls Tryz.prog 92 #[.float .f64 x] w fun e w'=>e=.returned (.float .f64 r)∧w=w':=by
 have R:=dj x r h;clear h;go_enter Tryz.func92,Tryz.ntmps92
 go_wp2_with fail
 go_ret
 exact⟨rfl,rfl⟩
theorem pm (x r:Nat) (h:qP x=some r) (w:World):Calls Tryz.prog 94 #[.float .f64 x] w fun e w'=>e=.returned (.float .f64 r)∧w=w':=by
 have R:=gV x r h;clear h;go_enter Tryz.func94,Tryz.ntmps94
 go_wp2_with fail
 go_ret
 exact⟨rfl,rfl⟩
def qe (x:Nat):Bool := !(f64.order x 0==some .eq)&&(f64.order x x==some .eq) && !(f64.order x 9218868437227405311==some .gt) && !(f64.order x 0==some .lt) && !(f64.order x 4503599627370496==some .lt)&&decide (x<9223372036854775808)
theorem j7 (x:Nat) (hx:x<9223372036854775808):bits .andNot .u64 (x:Int) 9223372036854775808=(x:Int):=by
 have h1:(BitVec.ofInt 64 (x:Int)).toNat=x:=by
  rw[BitVec.ofInt_natCast,BitVec.toNat_ofNat];exact Nat.mod_eq_of_lt (by omega)
 have h2:(~~~ (BitVec.ofInt 64 (9223372036854775808:Int))).toNat=9223372036854775807:=by decide
 show IntKind.u64.wrap ((BitVec.ofInt 64 (x:Int) &&& ~~~ BitVec.ofInt 64 9223372036854775808).toNat:Int)=_
 have h3:x &&& 9223372036854775807=x:=by
  have:=Nat.and_two_pow_sub_one_eq_mod x 63;have h4:x%2 ^ 63=x:=Nat.mod_eq_of_lt (by omega);rw[h4]at this
  simpa using this
 rw[BitVec.toNat_and,h1,h2,h3]
 exact yy x (by omega)
theorem ff (x:Nat) (hx:x<18446744073709551616):bits .and .u64 (x:Int) 18446744072635809792=((x/1073741824*1073741824:Nat):Int):=by
 have h1:(BitVec.ofInt 64 (x:Int)).toNat=x:=by
  rw[BitVec.ofInt_natCast,BitVec.toNat_ofNat];exact Nat.mod_eq_of_lt (by omega)
 have h2:(BitVec.ofInt 64 (18446744072635809792:Int))=BitVec.ofNat 64 ((2 ^ 34-1) <<< 30):=by decide
 show IntKind.u64.wrap ((BitVec.ofInt 64 (x:Int) &&& BitVec.ofInt 64 18446744072635809792).toNat:Int)=_
 have h3:(BitVec.ofInt 64 (x:Int) &&& BitVec.ofInt 64 18446744072635809792).toNat=x/1073741824*1073741824:=by
  rw[BitVec.toNat_and,h1,h2];have e:(BitVec.ofNat 64 ((2 ^ 34-1) <<< 30)).toNat=(2 ^ 34-1) <<< 30:=by decide
  rw[e]
  have e1:x &&& ((2 ^ 34-1) <<< 30)=((x >>> 30) &&& (2 ^ 34-1)) <<< 30:=by
   apply Nat.eq_of_testBit_eq
   intro i
   simp only[Nat.testBit_and,Nat.testBit_shiftLeft,Nat.testBit_shiftRight]
   by_cases hi:30≤i
   ·simp[hi,Nat.add_sub_cancel' hi]
   simp[hi]
  rw[e1,Nat.and_two_pow_sub_one_eq_mod,Nat.shiftRight_eq_div_pow,Nat.shiftLeft_eq];have e2:x/2 ^ 30%2 ^ 34=x/2 ^ 30:=Nat.mod_eq_of_lt (by omega);rw[e2]
 rw[h3]
 exact yy _ (by omega)
theorem lI (x:Nat) (p2:(f64.order x x != some .eq)=false) (w:World):Calls Tryz.prog 90 #[.float .f64 x] w fun e w'=>e=.returned (.bool false)∧w=w':=by
 go_enter Tryz.func90,Tryz.ntmps90
 go_wp2_with fail
 go_ret
 exact⟨rfl,rfl⟩
theorem g6 (x:Nat) (p6:x<9223372036854775808) (w:World):Calls Tryz.prog 102 #[.float .f64 x] w fun e w'=>e=.returned (.float .f64 x)∧w=w':=by
 have AN:=j7 x p6;have R1:=zT x;have R2:=yo x;clear p6;go_enter Tryz.func102,Tryz.ntmps102
 go_wp2_with fail
 go_ret
 exact⟨rfl,rfl⟩
theorem lH (x:Nat) (p3:(f64.order x 9218868437227405311==some .gt)=false) (p6:x<9223372036854775808) (w:World):Calls Tryz.prog 89 #[.float .f64 x,.int .i64 0] w fun e w'=>e=.returned (.bool false)∧w=w':=by
 have A:=Hh (g6 x p6 w);clear p6;go_enter Tryz.func89,Tryz.ntmps89
 go_wp2_with fail
 refine A.out.mono ?_
 rintro e w1 ⟨rfl,rfl⟩
 go_wp2_with fail
 go_ret
 exact⟨rfl,rfl⟩
theorem g8 (x f:Nat) (hp:qe x=true) (h:iY x=some f) (w:World):Calls Tryz.prog 105 #[.float .f64 x] w fun e w'=>e=.returned (.float .f64 f)∧w=w':=by
 simp only[qe,Bool.and_eq_true,Bool.not_eq_true',decide_eq_true_eq]at hp
 obtain⟨⟨⟨⟨⟨p1,p2⟩,p3⟩,p4⟩,p5⟩,p6⟩:=hp;have p2':(f64.order x x != some .eq)=false:=by rw[bne,p2];rfl
 unfold iY at h
 simp only[Option.bind_eq_bind,Option.bind_eq_some_iff]at h
 obtain⟨a,ha,r,hr,b,hb,s,hs,c,hc,d,hd,e,he,g,hg,k,hk,u0,Yo,u,hu,i,hi,j,hj,k2,ap,l,hl,m,hm,n,hn,o,ho,hf⟩:=h
 have T6:u=u0∧u<9223372036854775808:=by
  unfold XR at hu
  split at hu
  ·injection hu with hu;subst hu;exact⟨rfl,by assumption⟩
  cases hu
 obtain⟨rfl,ul⟩:=T6;clear hu;have hu:=Yo;clear Yo;have T1:(x:Int).tdiv 3=((x/3:Nat):Int):=by rw[Int.tdiv_eq_ediv_of_nonneg (by omega)];omega
 obtain⟨x3,aT⟩:∃ n,x/3=n:=⟨_,rfl⟩
 have Uh:x3<9223372036854775808:=by omega
 rw[aT]at T1 ha hb hu;obtain⟨t,ht⟩:∃ n,x3+3071306043645493248=n:=⟨_,rfl⟩
 rw[ht]at ha hb hu
 have T2:IntKind.u64.wrap ((x3:Int)+3071306043645493248)=(t:Int):=by
  rw[show(x3:Int)+3071306043645493248=((t:Nat):Int) by omega]
  exact yy _ (by omega)
 have T3:IntKind.u64.wrap (x3:Int)=(x3:Int):=yy _ (by omega);obtain⟨u3,Vt⟩:∃ n,u/1073741824*1073741824=n:=⟨_,rfl⟩
 have Ug:u3≤u:=by rw[← Vt];exact Nat.div_mul_le_self u 1073741824
 have AL:=ff u (by omega);rw[Vt]at AL hi ap hl ho hf;obtain⟨v,hv⟩:∃ n,u3+1073741824=n:=⟨_,rfl⟩
 rw[hv]at hi ap hl ho hf
 have T4:IntKind.u64.wrap ((u3:Int)+1073741824)=(v:Int):=by
  rw[show(u3:Int)+1073741824=((v:Nat):Int) by omega]
  exact yy _ (by omega)
 have NA:=Hh (lI x p2' w);have IN:=Hh (lH x p3 p6 w);have R1:=zT x;have R3:=yo t;have R4:=zT u;have R5:=yo v;clear Vt hv aT ht ul p2 Uh Ug p6;go_enter Tryz.func105,Tryz.ntmps105
 go_wp2_with fail
 refine NA.out.mono ?_
 rintro e1 w1 ⟨rfl,rfl⟩
 go_wp2_with fail
 refine IN.out.mono ?_
 rintro e1 w1 ⟨rfl,rfl⟩
 clear NA IN p2' p3;have F0:=fun w=>run_float_arith (P:=Tryz.prog) w .mul 109 .f64 t t a ha
 have F1:=fun w=>run_float_arith (P:=Tryz.prog) w .quo 109 .f64 a x r hr
 have F2:=fun w=>run_float_arith (P:=Tryz.prog) w .mul 109 .f64 r t b hb
 have F3:=fun w=>run_float_arith (P:=Tryz.prog) w .add 109 .f64 4603064841997850097 b s hs
 have F4:=fun w=>run_float_arith (P:=Tryz.prog) w .add 109 .f64 s 4609048195788499471 c hc
 have F5:=fun w=>run_float_arith (P:=Tryz.prog) w .quo 109 .f64 13827900089180538932 s d hd
 have F6:=fun w=>run_float_arith (P:=Tryz.prog) w .add 109 .f64 c d e he
 have F7:=fun w=>run_float_arith (P:=Tryz.prog) w .quo 109 .f64 4609916747145206638 e g hg
 have F8:=fun w=>run_float_arith (P:=Tryz.prog) w .add 109 .f64 4600105333671292343 g k hk
 have F9:=fun w=>run_float_arith (P:=Tryz.prog) w .mul 109 .f64 t k u hu
 have F10:=fun w=>run_float_arith (P:=Tryz.prog) w .mul 109 .f64 v v i hi
 have F11:=fun w=>run_float_arith (P:=Tryz.prog) w .quo 109 .f64 x i j hj
 have F12:=fun w=>run_float_arith (P:=Tryz.prog) w .add 109 .f64 v v k2 ap
 have F13:=fun w=>run_float_arith (P:=Tryz.prog) w .sub 109 .f64 j v l hl
 have F14:=fun w=>run_float_arith (P:=Tryz.prog) w .add 109 .f64 k2 j m hm
 have F15:=fun w=>run_float_arith (P:=Tryz.prog) w .quo 109 .f64 l m n hn
 have F16:=fun w=>run_float_arith (P:=Tryz.prog) w .mul 109 .f64 v n o ho
 have F17:=fun w=>run_float_arith (P:=Tryz.prog) w .add 109 .f64 v o f hf
 clear ha hr hb hs hc hd he hg hk hu hi hj ap hl hm hn ho hf;go_wp2_with fail
 go_ret
 exact⟨rfl,rfl⟩
theorem g7 (x f:Nat) (hp:qe x=true) (h:iY x=some f) (w:World):Calls Tryz.prog 93 #[.float .f64 x] w fun e w'=>e=.returned (.float .f64 f)∧w=w':=by
 have A:=Hh (g8 x f hp h w);clear hp h;go_enter Tryz.func93,Tryz.ntmps93
 go_wp2_with fail
 refine A.out.mono ?_
 rintro e w1 ⟨rfl,rfl⟩
 go_wp2_with fail
 go_ret
 exact⟨rfl,rfl⟩
theorem nW {P:Program}{w:World}{o:Oper}{a:Act}{K:Act→World→Prop}{Q:Exit→Act→World→Prop}(op:BinOp) (t t2:TypeId) (x y:Operand) (ho:o.op=.binOp op t x y t2)
  (hop:op=.add∨op=.sub∨op=.mul∨op=.quo) (fx fy:Nat) (hx:a.eval x=.float .f64 fx) (hy:a.eval y=.float .f64 fy)
  (h:∀ r w',w'=w∨w'=w.drew→K (a.put o.dst (.float .f64 r)) w'):o.wp P a w K Q:=by
 obtain⟨r,w',hr,hw⟩:=o3 (P:=P) w op hop t fx fy
 unfold Oper.wp execOp
 have hg:(eqGuard op t x y (.float .f64 fx) (.float .f64 fy)).run P w=.ok () w:=by rcases hop with rfl | rfl | rfl | rfl <;> simp[eqGuard]
 simp only[ho,hx,hy,Sem.run_bind,hg,hr,Result.andThen_ok,Sem.run_pure]
 exact h r w' hw
theorem sG {P:Program}{w:World}{o:Oper}{a:Act}{K:Act→World→Prop}{Q:Exit→Act→World→Prop}(src dst:TypeId) (x:Operand) (ho:o.op=.convert src dst x)
  (hs:(P.underlying src).isSome=true) (hd:P.underlying dst=some (.int .u64)) (fx:Nat) (hx:a.eval x=.float .f64 fx)
  (h:∀ (n:Nat) w',n<18446744073709551616→w'=w∨w'=w.drew→K (a.put o.dst (.int .u64 (n:Int))) w'):o.wp P a w K Q:=by
 obtain⟨n,hn,w',hr,hw⟩:=lq (P:=P) w src dst fx hs hd
 unfold Oper.wp execOp
 simp only[ho,hx,Sem.run_bind,hr,Result.andThen_ok,Sem.run_pure]
 exact h n w' hn hw
end Go.Proofs.YtnfoilblmhbobaaGreatDoor
