/- squeezed. SHA-256: numbers of four words: su -/
import Derived.Test.YtgcjjhibdbafmaaGreatDoorK18
import Derived.Test.YtgcjjhibdbafmaaGreatDoorK09
import GoSem.Core.Float
import Derived.Laws.FloatArith
import Derived.Deep.DeepCutAuto
import Derived.Deep.CutBlock
set_option linter.unusedVariables false
set_option linter.unusedSimpArgs false
set_option maxRecDepth 100000
set_option maxHeartbeats 6400000
namespace Go.Proofs.YtgcjjhibdbafmaaGreatDoor
open Go.RowKit
theorem stop_fop {P:Program}{ops:Array Oper}{Q:Exit→Act→World→Prop}{rest:List Oper}{a:Act}{w:World}{dst:Option Tmp}{op:BinOp}{x y:Operand}{t2:TypeId}{T:TypeId}{pos:String}{af:Array Edge}{g:Option (Nat×Bool)}
  (h:Stopped (wpList P ops Q (⟨dst,.binOp op 154 x y t2,T,pos,af,g⟩::rest) a w)):wpList P ops Q (⟨dst,.binOp op 154 x y t2,T,pos,af,g⟩::rest) a w:=h
theorem stop_fconv {P:Program}{ops:Array Oper}{Q:Exit→Act→World→Prop}{rest:List Oper}{a:Act}{w:World}{dst:Option Tmp}{x:Operand}{T:TypeId}{pos:String}{af:Array Edge}{g:Option (Nat×Bool)}
  (h:Stopped (wpList P ops Q (⟨dst,.convert 154 22 x,T,pos,af,g⟩::rest) a w)):wpList P ops Q (⟨dst,.convert 154 22 x,T,pos,af,g⟩::rest) a w:=h
theorem Blk.or {w w':World}{g:Nat}{t:TypeId}{cs:Array Value}(h:Blk w g t cs) (hw:w'=w∨w'=w.drew):Blk w' g t cs:=by
 rcases hw with rfl | rfl
 ·exact h
 ·exact h.drew
theorem below_or {B:Nat}{w0 w w':World}(h:Below B w0 w) (hw:w'=w∨w'=w.drew):Below B w0 w':=by
 rcases hw with rfl | rfl
 ·exact h
 ·exact h.drew
theorem wide_float {x:List Nat}(hx:x.length=4) (w:World) :
  Calls Tryz.prog 141 #[.agg (rowN x)] w fun e w'=>(∃ f,e=.returned (.float .f64 f))∧Below w.heap.size w w':=by
 have hX0:=Blk.new w 176 (rowN x);have hb0:=below_box w (.cells (rowN x) 176);have HL:=Hh hx;clear hx;go_enter Tryz.func141,Tryz.ntmps141
 go_wp2_with fail
 go_loopw [3,4] (fun v3 v4 wr=>∃ (k f:Nat),v4=.int .i64 ((k:Int)-1)∧k≤4∧v3=.float .f64 f∧Blk wr w.heap.size 176 (rowN x)∧Below w.heap.size w wr) (fun _ v4 _=>(intOf v4+1).toNat)
 case atStart=>exact⟨4,0,by rw[show((4:Nat):Int)-1=3 by omega],by omega,rfl,hX0,hb0⟩
 case round =>
  clear hX0 hb0;obtain⟨k,f,rfl,hk4,rfl,hX,hb⟩:=hrel
  by_cases h0:k=0
  ·subst h0;rw[show((0:Nat):Int)-1 = -1 by omega];go_wp2_with fail
   go_ret
   exact⟨⟨f,rfl⟩,hb⟩
  ·obtain⟨i,hi⟩:∃ i:Nat,k=i+1:=⟨k-1,by omega⟩
   subst hi;rw[show((i+1:Nat):Int)-1=(i:Int) by omega];have hi4:(i:Int)<4:=by omega
   have hi1:IntKind.i64.wrap ((i:Int)-1)=(i:Int)-1:=IntWalk.i64_in _ (by omega);have HK:=Hh hk4;clear h0 hk4;go_wp2_with (with_reducible refine stop_fop ?_)
   refine wpList_fop rfl _ _ _ _ _ rfl (by simp) _ _ rfl rfl fun r w1 hw1=>?_
   have hX1:=hX.or hw1;have hb1:=below_or hb hw1;have cx:=hX1.cell i (rowN_get _ _ (by have:=HL.out;omega));clear hX hb hw1;go_wp2_with (with_reducible refine stop_fop ?_)
   refine wpList_fop rfl _ _ _ _ _ rfl (by simp) _ _ rfl rfl fun r2 w2 hw2=>?_
   have hX2:=hX1.or hw2;have hb2:=below_or hb1 hw2;clear hX1 hb1 hw2 cx;go_wp2_with fail
   go_roundw
   case rel=>exact⟨i,r2,rfl,by have:=HK.out;omega,rfl,hX2,hb2⟩
   case measure=>simp[intOf]
theorem run_sub64_0 (x y:Nat) (w:World):(callFunc 161 #[.int .u64 (x:Int),.int .u64 (y:Int),.int .u64 0]).run Tryz.prog w =
  .ok (.value (.tuple #[.int .u64 (((x+18446744073709551616-y)%18446744073709551616:Nat):Int),.int .u64 ((if x<y then 1 else 0:Nat):Int)])) w:=run_sub64 x y 0 (by omega) w
theorem sha_raise (x0 x1 x2 x3 d:Nat) (h0:x0<18446744073709551616) (hd:d<18446744073709551616) (h1:x1+1<18446744073709551616) (w:World) :
  Calls Tryz.prog 146 #[.agg (rowN [x0,x1,x2,x3]),.int .u64 (d:Int)] w fun e w'=>e=.returned (.agg (rowN [(x0+d)%18446744073709551616,x1+(x0+d)/18446744073709551616,x2,x3]))∧Below w.heap.size w w':=by
 have hX0:=(Blk.new w 176 (rowN [x0,x1,x2,x3])).alloc (.cells #[.int .u64 0,.int .u64 0,.int .u64 0,.int .u64 0] 176);have hR0:=Blk.new (w.alloc (.cells (rowN [x0,x1,x2,x3]) 176)) 176 #[.int .u64 0,.int .u64 0,.int .u64 0,.int .u64 0];rw[size_alloc]at hR0;have hb0:=below_box w (.cells (rowN [x0,x1,x2,x3]) 176);have hb1:=hb0.alloc hb0.size (.cells #[.int .u64 0,.int .u64 0,.int .u64 0,.int .u64 0] 176);have A:=run_add64_0 x0 d;obtain⟨s0,hs0⟩:∃ n,(x0+d)%18446744073709551616=n:=⟨_,rfl⟩
 obtain⟨c,hc⟩:∃ n,(x0+d)/18446744073709551616=n:=⟨_,rfl⟩
 have B:IntKind.u64.wrap ((x1:Int)+(c:Int))=((x1+(x0+d)/18446744073709551616:Nat):Int):=by rw[hc,← Int.natCast_add];exact wrap64_in _ (by omega)
 obtain⟨s1,hs1⟩:∃ n,x1+(x0+d)/18446744073709551616=n:=⟨_,rfl⟩
 rw[hs0,hs1];rw[hs0,hc]at A;rw[hs1]at B;clear hs0 hs1 hc hb0;have c0:((w.alloc (.cells (rowN [x0,x1,x2,x3]) 176)).alloc (.cells #[.int .u64 0,.int .u64 0,.int .u64 0,.int .u64 0] 176)).cell? ⟨w.heap.size,0,none⟩=some (.int .u64 (x0:Int)):=hX0.cell 0 rfl;go_enter Tryz.func146,Tryz.ntmps146
 go_wp2_with (with_reducible refine stop_store ?_)
 refine wpList_store_cell rfl _ _ _ rfl rfl w.heap.size 0 (.int .u64 (s0:Int)) rfl rfl _ _ hX0 size_u64c (by rw[rowN_size];simp) rfl fun w2 hX2 hg2=>?_
 rw[rowN_set]at hX2;replace hX2:Blk w2 w.heap.size 176 (rowN [s0,x1,x2,x3]):=hX2;have hR2:=hR0.grown hg2 (by intro hc;injection hc;omega);have hb2:=hb1.grown hg2 hb1.size (by rintro q ⟨⟩;omega);have c1:w2.cell? ⟨w.heap.size,1,none⟩=some (.int .u64 (x1:Int)):=hX2.cell 1 rfl;clear hX0 hR0 hb1 hg2 c0 A;go_wp2_with (with_reducible refine stop_store ?_)
 refine wpList_store_cell rfl _ _ _ rfl rfl w.heap.size 1 (.int .u64 (s1:Int)) rfl rfl _ _ hX2 size_u64c (by rw[rowN_size];simp) rfl fun w3 hX3 hg3=>?_
 rw[rowN_set]at hX3;replace hX3:Blk w3 w.heap.size 176 (rowN [s0,s1,x2,x3]):=hX3;have hR3:=hR2.grown hg3 (by intro hc;injection hc;omega);have hb3:=hb2.grown hg3 hb2.size (by rintro q ⟨⟩;omega);clear hX2 hR2 hb2 hg3 c1 B;have e0:w3.cell? ⟨w.heap.size,0,none⟩=some (.int .u64 (s0:Int)):=hX3.cell 0 rfl;have e1:w3.cell? ⟨w.heap.size,1,none⟩=some (.int .u64 (s1:Int)):=hX3.cell 1 rfl;have e2:w3.cell? ⟨w.heap.size,2,none⟩=some (.int .u64 (x2:Int)):=hX3.cell 2 rfl;have e3:w3.cell? ⟨w.heap.size,3,none⟩=some (.int .u64 (x3:Int)):=hX3.cell 3 rfl;go_wp2_with (with_reducible refine stop_store ?_)
 refine wpList_store_item rfl _ _ _ rfl rfl (w.heap.size+1) (rowN [s0,s1,x2,x3]) rfl rfl _ _ hR3 size_w4 rfl (rowN_one _) fun wz hRz hgz=>?_
 have hbz:=hb3.grown hgz hb3.size (by rintro q ⟨⟩;omega);clear e0 e1 e2 e3;go_wp2_with fail
 refine ret_row rfl rfl hRz rfl rfl size_w4 rfl ?_
 exact⟨rfl,hbz⟩
theorem sha_lower (x0 x1 x2 x3 d:Nat) (h1:x1<18446744073709551616) (h2:1≤x1) (w:World) :
  Calls Tryz.prog 144 #[.agg (rowN [x0,x1,x2,x3]),.int .u64 (d:Int)] w fun e w'=>e=.returned (.agg (rowN [(x0+18446744073709551616-d)%18446744073709551616,x1-(if x0<d then 1 else 0),x2,x3]))∧Below w.heap.size w w':=by
 have hX0:=(Blk.new w 176 (rowN [x0,x1,x2,x3])).alloc (.cells #[.int .u64 0,.int .u64 0,.int .u64 0,.int .u64 0] 176);have hR0:=Blk.new (w.alloc (.cells (rowN [x0,x1,x2,x3]) 176)) 176 #[.int .u64 0,.int .u64 0,.int .u64 0,.int .u64 0];rw[size_alloc]at hR0;have hb0:=below_box w (.cells (rowN [x0,x1,x2,x3]) 176);have hb1:=hb0.alloc hb0.size (.cells #[.int .u64 0,.int .u64 0,.int .u64 0,.int .u64 0] 176);have A:=run_sub64_0 x0 d;obtain⟨s0,hs0⟩:∃ n,(x0+18446744073709551616-d)%18446744073709551616=n:=⟨_,rfl⟩
 obtain⟨c,hc⟩:∃ n,(if x0<d then 1 else 0)=n:=⟨_,rfl⟩
 have B:IntKind.u64.wrap ((x1:Int)-(c:Int))=((x1-(if x0<d then 1 else 0):Nat):Int):=by
  have hc1:c≤1:=by rw[← hc];split <;> omega
  rw[hc,show(x1:Int)-(c:Int)=((x1-c:Nat):Int) by omega]
  exact wrap64_in _ (by omega)
 obtain⟨s1,hs1⟩:∃ n,x1-(if x0<d then 1 else 0)=n:=⟨_,rfl⟩
 rw[hs0,hs1];rw[hs0,hc]at A;rw[hs1]at B;clear hs0 hs1 hc hb0;have c0:((w.alloc (.cells (rowN [x0,x1,x2,x3]) 176)).alloc (.cells #[.int .u64 0,.int .u64 0,.int .u64 0,.int .u64 0] 176)).cell? ⟨w.heap.size,0,none⟩=some (.int .u64 (x0:Int)):=hX0.cell 0 rfl;go_enter Tryz.func144,Tryz.ntmps144
 go_wp2_with (with_reducible refine stop_store ?_)
 refine wpList_store_cell rfl _ _ _ rfl rfl w.heap.size 0 (.int .u64 (s0:Int)) rfl rfl _ _ hX0 size_u64c (by rw[rowN_size];simp) rfl fun w2 hX2 hg2=>?_
 rw[rowN_set]at hX2;replace hX2:Blk w2 w.heap.size 176 (rowN [s0,x1,x2,x3]):=hX2;have hR2:=hR0.grown hg2 (by intro hc;injection hc;omega);have hb2:=hb1.grown hg2 hb1.size (by rintro q ⟨⟩;omega);have c1:w2.cell? ⟨w.heap.size,1,none⟩=some (.int .u64 (x1:Int)):=hX2.cell 1 rfl;clear hX0 hR0 hb1 hg2 c0 A;go_wp2_with (with_reducible refine stop_store ?_)
 refine wpList_store_cell rfl _ _ _ rfl rfl w.heap.size 1 (.int .u64 (s1:Int)) rfl rfl _ _ hX2 size_u64c (by rw[rowN_size];simp) rfl fun w3 hX3 hg3=>?_
 rw[rowN_set]at hX3;replace hX3:Blk w3 w.heap.size 176 (rowN [s0,s1,x2,x3]):=hX3;have hR3:=hR2.grown hg3 (by intro hc;injection hc;omega);have hb3:=hb2.grown hg3 hb2.size (by rintro q ⟨⟩;omega);clear hX2 hR2 hb2 hg3 c1 B;have e0:w3.cell? ⟨w.heap.size,0,none⟩=some (.int .u64 (s0:Int)):=hX3.cell 0 rfl;have e1:w3.cell? ⟨w.heap.size,1,none⟩=some (.int .u64 (s1:Int)):=hX3.cell 1 rfl;have e2:w3.cell? ⟨w.heap.size,2,none⟩=some (.int .u64 (x2:Int)):=hX3.cell 2 rfl;have e3:w3.cell? ⟨w.heap.size,3,none⟩=some (.int .u64 (x3:Int)):=hX3.cell 3 rfl;go_wp2_with (with_reducible refine stop_store ?_)
 refine wpList_store_item rfl _ _ _ rfl rfl (w.heap.size+1) (rowN [s0,s1,x2,x3]) rfl rfl _ _ hR3 size_w4 rfl (rowN_one _) fun wz hRz hgz=>?_
 have hbz:=hb3.grown hgz hb3.size (by rintro q ⟨⟩;omega);clear e0 e1 e2 e3;go_wp2_with fail
 refine ret_row rfl rfl hRz rfl rfl size_w4 rfl ?_
 exact⟨rfl,hbz⟩
theorem sha_minus {x y:List Nat}(hx:x.length=4) (hy:y.length=4) (w:World) :
  Calls Tryz.prog 145 #[.agg (rowN x),.agg (rowN y)] w fun e w'=>∃ z,e=.returned (.agg (rowN z))∧z.length=4∧Below w.heap.size w w':=by
 have hX0:=((Blk.new w 176 (rowN x)).alloc (.cells (rowN y) 176)).alloc (.cells #[.int .u64 0,.int .u64 0,.int .u64 0,.int .u64 0] 176);have hY0:=(Blk.new (w.alloc (.cells (rowN x) 176)) 176 (rowN y)).alloc (.cells #[.int .u64 0,.int .u64 0,.int .u64 0,.int .u64 0] 176);have hR0:=Blk.new ((w.alloc (.cells (rowN x) 176)).alloc (.cells (rowN y) 176)) 176 #[.int .u64 0,.int .u64 0,.int .u64 0,.int .u64 0]
 simp only[size_alloc]at hY0 hR0
 have hb0:=below_box w (.cells (rowN x) 176);have hb1:=hb0.alloc hb0.size (.cells (rowN y) 176);have hb2:=hb1.alloc hb1.size (.cells #[.int .u64 0,.int .u64 0,.int .u64 0,.int .u64 0] 176);have HL:=Hh (And.intro hx hy);have HX0:=Hh hx;clear hx hy hb0 hb1;go_enter Tryz.func145,Tryz.ntmps145
 go_wp2_with fail
 go_loopw [5,7] (fun v5 v7 wr=>∃ (k c:Nat) (xs:List Nat),v7=.int .i64 (k:Int)∧v5=.int .u64 (c:Int)∧c≤1∧k≤4∧xs.length=4∧
   Blk wr w.heap.size 176 (rowN xs)∧Blk wr (w.heap.size+1) 176 (rowN y)∧Blk wr (w.heap.size+1+1) 176 #[.int .u64 0,.int .u64 0,.int .u64 0,.int .u64 0]∧Below w.heap.size w wr) (fun _ v7 _=>(4-intOf v7).toNat)
 case atStart=>exact⟨0,0,x,rfl,rfl,by omega,by omega,HX0.out,hX0,hY0,hR0,hb2⟩
 case round =>
  clear hX0 hY0 hR0 hb2 HX0;obtain⟨k,c,xs,rfl,rfl,hc,hk4,hxl,hX,hY,hR,hb⟩:=hrel
  by_cases hlt:(k:Int)<4
  ·have cx:=hX.drew.cell k (rowN_get _ _ (by omega));have cy:=hY.drew.cell k (rowN_get _ _ (by have:=HL.out;omega));obtain⟨xk,hxk⟩:∃ n,getN xs k=n:=⟨_,rfl⟩
   obtain⟨yk,hyk⟩:∃ n,getN y k=n:=⟨_,rfl⟩
   rw[hxk]at cx;rw[hyk]at cy;have A:=run_sub64 xk yk c hc;obtain⟨q0,hq0⟩:∃ n,(xk+18446744073709551616-yk-c)%18446744073709551616=n:=⟨_,rfl⟩
   obtain⟨q1,hq1⟩:∃ n,(if xk<yk+c then 1 else 0)=n:=⟨_,rfl⟩
   have HQ:Hid (q1≤1):=by rw[Hid,← hq1];split <;> omega
   rw[hq0,hq1]at A;have HXL:=Hh hxl;have HLT:=Hh hlt;have hXd:=hX.drew;clear hxk hyk hq0 hq1 hc hxl hk4;go_upto_region 5 with fail
   refine wp_region_waysZ 13 (fun wx=>wx.cell? ⟨w.heap.size,k,none⟩=some (.int .u64 (xk:Int))∧wx.cell? ⟨w.heap.size+1,k,none⟩=some (.int .u64 (yk:Int))) (by kernel_rfl) (⟨cx,cy⟩) (fun hHeld=>?_)
   refine Zk 0 rfl hHeld ?_
   refine Zk 1 rfl hHeld ?_
   refine Zk 2 rfl hHeld ?_
   refine Zk 3 rfl hHeld ?_
   refine Zk 4 rfl hHeld ?_
   refine Zk 5 rfl hHeld ?_
   refine Zk 6 rfl hHeld ?_
   refine Zk 7 rfl hHeld ?_
   refine Zo 8 rfl fun K hK=>?_
   go_simp
   refine Ko hK ?_ fun hHeld=>?_
   ·exact⟨cx,cy⟩
   clear hK K
   refine Zk 9 rfl hHeld ?_
   refine Zk 10 rfl hHeld ?_
   refine ZkT 11 rfl (fun _=>hHeld) ?_
   refine Zk 12 rfl hHeld ?_
   refine Zo 13 rfl fun K hK=>?_
   rw[if_pos (by rfl)]
   refine wp_store_cell _ _ _ rfl w.heap.size k (.int .u64 (q0:Int)) rfl rfl _ _ hXd size_u64c (by rw[rowN_size,HXL.out];have:=HLT.out;omega) rfl fun w9 hX9 hg9=>?_
   refine Kz hK ?_
   clear hK K
   refine ZkT 14 rfl (fun h=>absurd h (by decide)) ?_
   refine WaysZ.done (by kernel_rfl) ?_
   rw[rowN_set]at hX9;have hY9:=hY.drew.grown hg9 (by intro hc;injection hc;omega);have hR9:=hR.drew.grown hg9 (by intro hc;injection hc;omega);have hb9:=hb.drew.grown hg9 hb.size (by rintro q ⟨⟩;exact Nat.le_refl _);clear hX hY hR hb hXd cx cy A hg9 hHeld;go_wp2_with fail
   go_roundw
   case rel=>exact⟨k+1,q1,xs.set k q0,by go_num,rfl,HQ.out,by have:=HLT.out;omega,by rw[List.length_set];exact HXL.out,hX9,hY9,hR9,hb9⟩
   case measure=>have:=HLT.out;simp[intOf];omega
  ·obtain rfl:k=4:=by omega
   rw[show((4:Nat):Int)=4 from rfl]at hlt⊢;obtain⟨z0,z1,z2,z3,rfl⟩:=list4n hxl;have c0:wr.cell? ⟨w.heap.size,0,none⟩=some (.int .u64 (z0:Int)):=hX.cell 0 rfl;have c1:wr.cell? ⟨w.heap.size,1,none⟩=some (.int .u64 (z1:Int)):=hX.cell 1 rfl;have c2:wr.cell? ⟨w.heap.size,2,none⟩=some (.int .u64 (z2:Int)):=hX.cell 2 rfl;have c3:wr.cell? ⟨w.heap.size,3,none⟩=some (.int .u64 (z3:Int)):=hX.cell 3 rfl;clear hc hk4 hxl;go_wp2_with (with_reducible refine stop_store ?_)
   refine wpList_store_item rfl _ _ _ rfl rfl (w.heap.size+1+1) (rowN [z0,z1,z2,z3]) rfl rfl _ _ hR size_w4 rfl (rowN_one _) fun wz hRz hgz=>?_
   have hbz:=hb.grown hgz hb.size (by rintro q ⟨⟩;omega);clear c0 c1 c2 c3;go_wp2_with fail
   refine ret_row rfl rfl hRz rfl rfl size_w4 rfl ?_
   exact⟨_,rfl,rfl,hbz⟩
def lieU:Lie Nat where
 k:=1
 pos:=by omega
 E:=fun _ x c=>c=[.int .u64 (x:Int)]
 len:=by rintro _ _ _ rfl;rfl
 one:=by rintro _ _ _ rfl;simp[Value.oneCell']
 mono:=fun _ h=>h
theorem info_u64:(Tryz.prog.info? 22).map (fun i=>(i.zero,i.size,i.bytes))=some (some (.int .u64 0),1,8):=by kernel_rfl
theorem ownU_at {w:World}{base:Nat}{A:Option Addr}{m c:Nat}{H:Snap}{l:List Nat}(h:OwnX lieU 22 w base (.slice A m c) H l) (h0:0<l.length) :
  ∃ g,A=some ⟨g,0,none⟩∧∀ j (hj:j<l.length),w.cell? ⟨g,j,none⟩=some (.int .u64 (l[j]:Int)):=by
 obtain⟨g,e,_⟩:=h.at_ 0 h0
 refine⟨g,e,fun j hj=>?_⟩
 obtain⟨g',e',d,hd,hc⟩:=h.at_ j hj;rw[e]at e'
 cases e'
 cases hd
 have h1:=hc 0 _ rfl
 simpa [lieU] using h1
theorem mod_ne (k q:Nat):(((k:Int)+2)%(q:Int) != 0)=((k+2)%q != 0):=by
 rw[Bool.eq_iff_iff,bne_iff_ne,bne_iff_ne];have h:((k:Int)+2)%(q:Int)=(((k+2)%q:Nat):Int):=by rw[Int.natCast_emod,Int.natCast_add];rfl
 rw[h]
 omega
theorem sha_primes (H:Snap) (w:World):Calls Tryz.prog 106 #[.int .i64 64] w fun e w'=>∃ A c,e=.returned (.slice A 64 c)∧OwnX lieU 22 w' w.heap.size (.slice A 64 c) H (primesN.take 64)∧Below w.heap.size w w':=by
 have hO0:=OwnX.nil lieU 22 w w.heap.size H;have hb0:=Below.refl w.heap.size w;go_enter Tryz.func106,Tryz.ntmps106
 go_wp2_with fail
 go_loopw [3,4] (fun v3 v4 wr=>∃ (k:Nat),v4=.int .u64 ((k:Int)+2)∧Hid (k≤310)∧OwnX lieU 22 wr w.heap.size v3 H (uptoP k)∧Below w.heap.size w wr) (fun _ v4 _=>400-(intOf v4).toNat)
 case atStart=>exact⟨0,rfl,Nat.zero_le _,hO0,hb0⟩
 case round =>
  clear hO0 hb0;obtain⟨k,rfl,HK,hO,hb⟩:=hrel;obtain⟨A,c,rfl,hmc,hcm⟩:=hO.form;have HPOS:Hid (∀ q∈uptoP k,2≤q∧q≤k+1):=uptoP_pos k;have HSTOP:Hid (¬ (uptoP k).length<64→uptoP k=primesN.take 64):=uptoP_stop HK.out;have HGO:Hid ((uptoP k).length<64→k≤309):=uptoP_go;have HSTEP:Hid (uptoP (k+1)=stepP (uptoP k) (k+2)):=rfl;obtain⟨l,hl⟩:∃ l,uptoP k=l:=⟨_,rfl⟩
  rw[hl]at hO hmc HPOS HSTOP HGO HSTEP⊢;obtain⟨m,hm⟩:∃ m,l.length=m:=⟨_,rfl⟩
  have HML:=Hh hm;rw[hm]at hmc HSTOP HGO⊢;have HMC:=Hh (And.intro hmc hcm);have hO':=hO;rw[hm]at hO';clear hl hm hmc hcm
  by_cases hlt:(m:Int)<64
  ·have hkK:IntKind.u64.wrap ((k:Int)+2+1)=(k:Int)+2+1:=by
    rw[IntKind.wrap_u64];have:=HK.out
    omega
   have HK9:Hid (k≤309):=HGO.out (by omega);have HLT:=Hh hlt;go_wp2_with fail
   go_loop [5,16] (fun v5 v16=>∃ j:Nat,Hid (j≤m)∧v16=.int .i64 (j:Int)∧v5=.bool ((l.take j).all (fun q=>(k+2)%q != 0))) (fun _ v16=>m-(intOf v16).toNat)
   case atStart=>exact⟨0,Nat.zero_le _,rfl,rfl⟩
   case round =>
    obtain⟨j,HJ,rfl,rfl⟩:=hrel;obtain⟨bb,hbb⟩:∃ bb,(l.take j).all (fun q=>(k+2)%q != 0)=bb:=⟨_,rfl⟩
    rw[hbb];have HBB:=Hh hbb;clear hbb
    by_cases hj:(j:Int)<(m:Int)
    ·have hjl:j<l.length:=by rw[HML.out];omega
     have HNX:=Hh (all_take_succ (fun q=>(k+2)%q != 0) l j hjl);obtain⟨g,rfl,hg⟩:=ownU_at hO (by omega);have cx:=hg j hjl;have HQ:=Hh (HPOS.out l[j] (List.getElem_mem hjl));obtain⟨q,hq⟩:∃ q,l[j]=q:=⟨_,rfl⟩
     rw[hq]at cx HQ HNX;have hq0:((q:Int)=0)=False:=eq_false (by have:=HQ.out;omega);have hq1:(q=0)=False:=eq_false (by have:=HQ.out;omega);have hq2:((q:Int)==0)=false:=by rw[beq_eq_false_iff_ne];have:=HQ.out;omega
     have HJJ:=Hh hj;have HNY:Hid ((l.take (j+1)).all (fun q=>(k+2)%q != 0)=(bb&&((k+2)%q != 0))):=by have h:=HNX.out;rw[HBB.out]at h;exact h
     clear HNX;clear hg hq hjl
     cases bb with
     | false =>
      go_wp2_with fail
      go_round
      ·exact⟨j+1,by have:=HJJ.out;rw[Hid];omega,by go_num,by rw[HNY.out];rfl⟩
      ·have:=HJJ.out;simp[intOf];omega
     | true =>
      go_wp2_with fail
      go_round
      ·exact⟨j+1,by have:=HJJ.out;rw[Hid];omega,by go_num,by rw[HNY.out,mod_ne,Bool.true_and]⟩
      ·have:=HJJ.out;simp[intOf];omega
    ·obtain rfl:j=m:=by have:=HJ.out;omega
     clear hj
     have HALL:Hid (l.all (fun q=>(k+2)%q != 0)=bb):=by
      have h:=HBB.out;rw[List.take_of_length_le (by rw[HML.out];omega)]at h
      exact h
     clear HBB HPOS HSTOP HGO
     cases bb with
     | false =>
      go_wp2_with fail
      go_roundw
      case rel=>exact⟨k+1,by go_num,by have:=HK9.out;rw[Hid];omega,by rw[HSTEP.out,stepP_no HALL.out];exact hO',hb⟩
      case measure=>have:=HK9.out;simp[intOf];omega
     | true =>
      have hO1:=hO.alloc (.cells #[.int .u64 ((k:Int)+2)] 22);have hb1:=hb.alloc hb.size (.cells #[.int .u64 ((k:Int)+2)] 22);have hlw:∀ kb,(Value.slice A j c).ownBlock=some kb→w.heap.size≤kb:=fun kb hk=>(hO'.lt kb hk).1
      have hO2:OwnX lieU 22 (wr.alloc (.cells #[.int .u64 ((k:Int)+2)] 22)) w.heap.size (.slice A j c) H l:=hO'.alloc _;go_wp2_with (at_builtin;refine stop_in ?_)
      refine OwnX.append rfl (.tmp 29) (.tmp 31) 100 rfl Tryz.underlying100 rfl (by omega) info_u64 rfl hO2 _ 1 _ [.int .u64 ((k:Int)+2)] [k+2] rfl rfl (RowC.one rfl) (Src.new _ _ _ _ rfl _ rfl) (by have:=HML.out;have:=HLT.out;simp;omega) hb1.size fun v' w6 hO6 hg6 hat6=>?_
      have hb6:=below_of_grown hb1 hg6 hlw;clear hO hO' hO1 hO2 hb hb1 hg6 hat6;go_wp2_with fail
      go_roundw
      case rel=>exact⟨k+1,by go_num,by have:=HK9.out;rw[Hid];omega,by rw[HSTEP.out,stepP_yes HALL.out];exact hO6,hb6⟩
      case measure=>have:=HK9.out;simp[intOf];omega
  ·have HE:Hid (l=primesN.take 64):=HSTOP.out (by omega);go_wp2_with fail
   go_ret
   have hm:m=64:=by
    have h1:=HML.out;rw[HE.out]at h1;rw[← h1];rfl
   subst hm
   exact⟨A,c,rfl,by rw[← HE.out];exact hO',hb⟩
end Go.Proofs.YtgcjjhibdbafmaaGreatDoor
namespace Go.Proofs.YtgcjjhibdbafmaaGreatDoor
abbrev f64:=FloatKind.f64.format
def lowB (u:Nat):Option Nat:=if u<9223372036854775808 then some u else none
def cbrtB (x:Nat):Option Nat:=do
 let t:=x/3+3071306043645493248
 let a ← f64.mul t t
 let r ← f64.div a x
 let b ← f64.mul r t
 let s ← f64.add 4603064841997850097 b
 let c ← f64.add s 4609048195788499471
 let d ← f64.div 13827900089180538932 s
 let e ← f64.add c d
 let g ← f64.div 4609916747145206638 e
 let h ← f64.add 4600105333671292343 g
 let u0 ← f64.mul t h
 let u ← lowB u0
 let v:=u/1073741824*1073741824+1073741824
 let i ← f64.mul v v
 let j ← f64.div x i
 let k ← f64.add v v
 let l ← f64.sub j v
 let m ← f64.add k j
 let n ← f64.div l m
 let o ← f64.mul v n
 f64.add v o
def floorB (x:Nat):Option Nat :=
 match FloatKind.f64.decode x with
 | .nan _ _=>none
 | d=>some (FloatKind.f64.encode (d.integral .down))
def chkB (q:Option Nat):Bool :=
 match q with
 | some f=>match floorB f with
  | some g=>match floatToIntVal .f64 g .u64 with
   | some k=>decide (1≤k)&&decide (k≤20)
   | none=>false
  | none=>false
 | none=>false
theorem chkB_spec {q:Option Nat}(h:chkB q=true):∃ f g k:Nat,q=some f∧floorB f=some g∧floatToIntVal .f64 g .u64=some (k:Int)∧1≤k∧k≤20:=by
 unfold chkB at h
 split at h
 ·rename_i f
  split at h
  ·rename_i g hg
   split at h
   ·rename_i k hk
    simp only[Bool.and_eq_true,decide_eq_true_eq]at h
    exact⟨f,g,k.toNat,rfl,hg,by rw[hk];congr 1;omega,by omega,by omega⟩
   ·cases h
  ·cases h
 ·cases h
def sqrtOf (p:Nat):Option Nat:=f64.sqrt (floatOfInt .f64 (p:Int))
def cbrtOf (p:Nat):Option Nat:=cbrtB (floatOfInt .f64 (p:Int))
end Go.Proofs.YtgcjjhibdbafmaaGreatDoor
namespace Go.Proofs.YtgcjjhibdbafmaaGreatDoor
open Go.RowKit
theorem run_sqrt (x r:Nat) (h:f64.sqrt x=some r) (w:World):(callFunc 155 #[.float .f64 x]).run Tryz.prog w=.ok (.value (.float .f64 r)) w:=by
 rw[run_callFunc_extern Tryz.func155 (by kernel_rfl) (by kernel_rfl) (by kernel_rfl) (e:=Extern.MathSqrt.sqrt) (by kernel_rfl)]
 have e:Extern.MathSqrt.sqrt #[.float .f64 x]=pure (.float .f64 r):=by
  show(match f64.sqrt x with | some r=>pure (Value.float .f64 r) | none=>do pure (Value.float .f64 (← choose (.nanBits .f64 x x))))=_
  rw[h]
 rw[e];rfl
theorem run_floor (x r:Nat) (h:floorB x=some r) (w:World):(callFunc 158 #[.float .f64 x]).run Tryz.prog w=.ok (.value (.float .f64 r)) w:=by
 rw [run_callFunc_extern Tryz.func158 (by kernel_rfl) (by kernel_rfl) (by kernel_rfl) (e := Extern.MathFloor.toIntegral "math.archFloor" .down) (by kernel_rfl)]
 have e : (Extern.MathFloor.toIntegral "math.archFloor" .down #[.float .f64 x]) = pure (.float .f64 r) := by
  show((match FloatKind.f64.decode x with
   | .nan s t =>
    if FloatKind.f64.format.quiet t=t then pure (Value.float .f64 x) else do
    let kept ← choose (.extern "math.Floor,Ceil,Trunc,RoundToEven.signallingNaN kept" 2)
    pure (Value.float .f64 (if kept==1 then x else FloatKind.f64.encode (.nan s (FloatKind.f64.format.quiet t))))
   | d=>pure (Value.float .f64 (FloatKind.f64.encode (d.integral .down)))):Sem Value)=_
  unfold floorB at h
  cases hd:FloatKind.f64.decode x with
  | nan s t=>rw[hd]at h;cases h
  | infinity s=>rw[hd]at h;injection h with h;subst h;rfl
  | number s m i=>rw[hd]at h;injection h with h;subst h;rfl
 rw[e];rfl
theorem math_Sqrt (x r:Nat) (h:f64.sqrt x=some r) (w:World):Calls Tryz.prog 138 #[.float .f64 x] w fun e w'=>e=.returned (.float .f64 r)∧w=w':=by
 have R:=run_sqrt x r h;clear h;go_enter Tryz.func138,Tryz.ntmps138
 go_wp2_with fail
 go_ret
 exact⟨rfl,rfl⟩
theorem math_Floor (x r:Nat) (h:floorB x=some r) (w:World):Calls Tryz.prog 140 #[.float .f64 x] w fun e w'=>e=.returned (.float .f64 r)∧w=w':=by
 have R:=run_floor x r h;clear h;go_enter Tryz.func140,Tryz.ntmps140
 go_wp2_with fail
 go_ret
 exact⟨rfl,rfl⟩
def cbrtPre (x:Nat):Bool := !(f64.order x 0==some .eq)&&(f64.order x x==some .eq) && !(f64.order x 9218868437227405311==some .gt) && !(f64.order x 0==some .lt) && !(f64.order x 4503599627370496==some .lt)&&decide (x<9223372036854775808)
theorem andNot_top (x:Nat) (hx:x<9223372036854775808):bits .andNot .u64 (x:Int) 9223372036854775808=(x:Int):=by
 have h1:(BitVec.ofInt 64 (x:Int)).toNat=x:=by
  rw[BitVec.ofInt_natCast,BitVec.toNat_ofNat];exact Nat.mod_eq_of_lt (by omega)
 have h2:(~~~ (BitVec.ofInt 64 (9223372036854775808:Int))).toNat=9223372036854775807:=by decide
 show IntKind.u64.wrap ((BitVec.ofInt 64 (x:Int) &&& ~~~ BitVec.ofInt 64 9223372036854775808).toNat:Int)=_
 have h3:x &&& 9223372036854775807=x:=by
  have:=Nat.and_two_pow_sub_one_eq_mod x 63;have h4:x%2 ^ 63=x:=Nat.mod_eq_of_lt (by omega);rw[h4]at this
  simpa using this
 rw[BitVec.toNat_and,h1,h2,h3]
 exact wrap64_in x (by omega)
theorem and_low30 (x:Nat) (hx:x<18446744073709551616):bits .and .u64 (x:Int) 18446744072635809792=((x/1073741824*1073741824:Nat):Int):=by
 have h1:(BitVec.ofInt 64 (x:Int)).toNat=x:=by
  rw[BitVec.ofInt_natCast,BitVec.toNat_ofNat];exact Nat.mod_eq_of_lt (by omega)
 have h2:(BitVec.ofInt 64 (18446744072635809792:Int))=BitVec.ofNat 64 ((2 ^ 34-1) <<< 30):=by decide
 show IntKind.u64.wrap ((BitVec.ofInt 64 (x:Int) &&& BitVec.ofInt 64 18446744072635809792).toNat:Int)=_
 have h3:(BitVec.ofInt 64 (x:Int) &&& BitVec.ofInt 64 18446744072635809792).toNat=x/1073741824*1073741824:=by
  rw[BitVec.toNat_and,h1,h2];have e:(BitVec.ofNat 64 ((2 ^ 34-1) <<< 30)).toNat=(2 ^ 34-1) <<< 30:=by decide
  rw[e]
  have e1:x &&& ((2 ^ 34-1) <<< 30)=((x >>> 30) &&& (2 ^ 34-1)) <<< 30:=by
   apply Nat.eq_of_testBit_eq
   intro i
   simp only[Nat.testBit_and,Nat.testBit_shiftLeft,Nat.testBit_shiftRight]
   by_cases hi:30≤i
   ·simp[hi,Nat.add_sub_cancel' hi]
   ·simp[hi]
  rw[e1,Nat.and_two_pow_sub_one_eq_mod,Nat.shiftRight_eq_div_pow,Nat.shiftLeft_eq];have e2:x/2 ^ 30%2 ^ 34=x/2 ^ 30:=Nat.mod_eq_of_lt (by omega);rw[e2]
 rw[h3]
 exact wrap64_in _ (by omega)
theorem math_IsNaNU (x:Nat) (p2:(f64.order x x != some .eq)=false) (w:World):Calls Tryz.prog 164 #[.float .f64 x] w fun e w'=>e=.returned (.bool false)∧w=w':=by
 go_enter Tryz.func164,Tryz.ntmps164
 go_wp2_with fail
 go_ret
 exact⟨rfl,rfl⟩
theorem math_AbsU (x:Nat) (p6:x<9223372036854775808) (w:World):Calls Tryz.prog 168 #[.float .f64 x] w fun e w'=>e=.returned (.float .f64 x)∧w=w':=by
 have AN:=andNot_top x p6;have R1:=run_f64bits x;have R2:=run_f64frombits x;clear p6;go_enter Tryz.func168,Tryz.ntmps168
 go_wp2_with fail
 go_ret
 exact⟨rfl,rfl⟩
theorem math_IsInfU (x:Nat) (p3:(f64.order x 9218868437227405311==some .gt)=false) (p6:x<9223372036854775808) (w:World):Calls Tryz.prog 165 #[.float .f64 x,.int .i64 0] w fun e w'=>e=.returned (.bool false)∧w=w':=by
 have A:=Hh (math_AbsU x p6 w);clear p6;go_enter Tryz.func165,Tryz.ntmps165
 go_wp2_with fail
 refine A.out.mono ?_
 rintro e w1 ⟨rfl,rfl⟩
 go_wp2_with fail
 go_ret
 exact⟨rfl,rfl⟩
theorem math_cbrt (x f:Nat) (hp:cbrtPre x=true) (h:cbrtB x=some f) (w:World):Calls Tryz.prog 157 #[.float .f64 x] w fun e w'=>e=.returned (.float .f64 f)∧w=w':=by
 simp only[cbrtPre,Bool.and_eq_true,Bool.not_eq_true',decide_eq_true_eq]at hp
 obtain⟨⟨⟨⟨⟨p1,p2⟩,p3⟩,p4⟩,p5⟩,p6⟩:=hp;have p2':(f64.order x x != some .eq)=false:=by rw[bne,p2];rfl
 unfold cbrtB at h
 simp only[Option.bind_eq_bind,Option.bind_eq_some_iff]at h
 obtain⟨a,ha,r,hr,b,hb,s,hs,c,hc,d,hd,e,he,g,hg,k,hk,u0,hu0,u,hu,i,hi,j,hj,k2,hk2,l,hl,m,hm,n,hn,o,ho,hf⟩:=h
 have hul:u=u0∧u<9223372036854775808:=by
  unfold lowB at hu
  split at hu
  ·injection hu with hu;subst hu;exact⟨rfl,by assumption⟩
  ·cases hu
 obtain⟨rfl,ul⟩:=hul;clear hu;have hu:=hu0;clear hu0;have T1:(x:Int).tdiv 3=((x/3:Nat):Int):=by rw[Int.tdiv_eq_ediv_of_nonneg (by omega)];omega
 obtain⟨x3,hx3⟩:∃ n,x/3=n:=⟨_,rfl⟩
 have hx3b:x3<9223372036854775808:=by omega
 rw[hx3]at T1 ha hb hu;obtain⟨t,ht⟩:∃ n,x3+3071306043645493248=n:=⟨_,rfl⟩
 rw[ht]at ha hb hu
 have T2:IntKind.u64.wrap ((x3:Int)+3071306043645493248)=(t:Int):=by
  rw[show(x3:Int)+3071306043645493248=((t:Nat):Int) by omega]
  exact wrap64_in _ (by omega)
 have T3:IntKind.u64.wrap (x3:Int)=(x3:Int):=wrap64_in _ (by omega);obtain⟨u3,hu3⟩:∃ n,u/1073741824*1073741824=n:=⟨_,rfl⟩
 have hu3b:u3≤u:=by rw[← hu3];exact Nat.div_mul_le_self u 1073741824
 have AL:=and_low30 u (by omega);rw[hu3]at AL hi hk2 hl ho hf;obtain⟨v,hv⟩:∃ n,u3+1073741824=n:=⟨_,rfl⟩
 rw[hv]at hi hk2 hl ho hf
 have T4:IntKind.u64.wrap ((u3:Int)+1073741824)=(v:Int):=by
  rw[show(u3:Int)+1073741824=((v:Nat):Int) by omega]
  exact wrap64_in _ (by omega)
 have NA:=Hh (math_IsNaNU x p2' w);have IN:=Hh (math_IsInfU x p3 p6 w);have R1:=run_f64bits x;have R3:=run_f64frombits t;have R4:=run_f64bits u;have R5:=run_f64frombits v;clear hu3 hv hx3 ht ul p2 hx3b hu3b p6;go_enter Tryz.func157,Tryz.ntmps157
 go_wp2_with fail
 refine NA.out.mono ?_
 rintro e1 w1 ⟨rfl,rfl⟩
 go_wp2_with fail
 refine IN.out.mono ?_
 rintro e1 w1 ⟨rfl,rfl⟩
 clear NA IN p2' p3;have F0:=fun w=>run_float_arith (P:=Tryz.prog) w .mul 154 .f64 t t a ha
 have F1:=fun w=>run_float_arith (P:=Tryz.prog) w .quo 154 .f64 a x r hr
 have F2:=fun w=>run_float_arith (P:=Tryz.prog) w .mul 154 .f64 r t b hb
 have F3:=fun w=>run_float_arith (P:=Tryz.prog) w .add 154 .f64 4603064841997850097 b s hs
 have F4:=fun w=>run_float_arith (P:=Tryz.prog) w .add 154 .f64 s 4609048195788499471 c hc
 have F5:=fun w=>run_float_arith (P:=Tryz.prog) w .quo 154 .f64 13827900089180538932 s d hd
 have F6:=fun w=>run_float_arith (P:=Tryz.prog) w .add 154 .f64 c d e he
 have F7:=fun w=>run_float_arith (P:=Tryz.prog) w .quo 154 .f64 4609916747145206638 e g hg
 have F8:=fun w=>run_float_arith (P:=Tryz.prog) w .add 154 .f64 4600105333671292343 g k hk
 have F9:=fun w=>run_float_arith (P:=Tryz.prog) w .mul 154 .f64 t k u hu
 have F10:=fun w=>run_float_arith (P:=Tryz.prog) w .mul 154 .f64 v v i hi
 have F11:=fun w=>run_float_arith (P:=Tryz.prog) w .quo 154 .f64 x i j hj
 have F12:=fun w=>run_float_arith (P:=Tryz.prog) w .add 154 .f64 v v k2 hk2
 have F13:=fun w=>run_float_arith (P:=Tryz.prog) w .sub 154 .f64 j v l hl
 have F14:=fun w=>run_float_arith (P:=Tryz.prog) w .add 154 .f64 k2 j m hm
 have F15:=fun w=>run_float_arith (P:=Tryz.prog) w .quo 154 .f64 l m n hn
 have F16:=fun w=>run_float_arith (P:=Tryz.prog) w .mul 154 .f64 v n o ho
 have F17:=fun w=>run_float_arith (P:=Tryz.prog) w .add 154 .f64 v o f hf
 clear ha hr hb hs hc hd he hg hk hu hi hj hk2 hl hm hn ho hf;go_wp2_with fail
 go_ret
 exact⟨rfl,rfl⟩
theorem math_Cbrt (x f:Nat) (hp:cbrtPre x=true) (h:cbrtB x=some f) (w:World):Calls Tryz.prog 139 #[.float .f64 x] w fun e w'=>e=.returned (.float .f64 f)∧w=w':=by
 have A:=Hh (math_cbrt x f hp h w);clear hp h;go_enter Tryz.func139,Tryz.ntmps139
 go_wp2_with fail
 refine A.out.mono ?_
 rintro e w1 ⟨rfl,rfl⟩
 go_wp2_with fail
 go_ret
 exact⟨rfl,rfl⟩
theorem wp_fop {P:Program}{w:World}{o:Oper}{a:Act}{K:Act→World→Prop}{Q:Exit→Act→World→Prop}(op:BinOp) (t t2:TypeId) (x y:Operand) (ho:o.op=.binOp op t x y t2)
  (hop:op=.add∨op=.sub∨op=.mul∨op=.quo) (fx fy:Nat) (hx:a.eval x=.float .f64 fx) (hy:a.eval y=.float .f64 fy)
  (h:∀ r w',w'=w∨w'=w.drew→K (a.put o.dst (.float .f64 r)) w'):o.wp P a w K Q:=by
 obtain⟨r,w',hr,hw⟩:=arith_any (P:=P) w op hop t fx fy
 unfold Oper.wp execOp
 have hg:(eqGuard op t x y (.float .f64 fx) (.float .f64 fy)).run P w=.ok () w:=by rcases hop with rfl | rfl | rfl | rfl <;> simp[eqGuard]
 simp only[ho,hx,hy,Sem.run_bind,hg,hr,Result.andThen_ok,Sem.run_pure]
 exact h r w' hw
theorem wp_fconv {P:Program}{w:World}{o:Oper}{a:Act}{K:Act→World→Prop}{Q:Exit→Act→World→Prop}(src dst:TypeId) (x:Operand) (ho:o.op=.convert src dst x)
  (hs:(P.underlying src).isSome=true) (hd:P.underlying dst=some (.int .u64)) (fx:Nat) (hx:a.eval x=.float .f64 fx)
  (h:∀ (n:Nat) w',n<18446744073709551616→w'=w∨w'=w.drew→K (a.put o.dst (.int .u64 (n:Int))) w'):o.wp P a w K Q:=by
 obtain⟨n,hn,w',hr,hw⟩:=conv_any (P:=P) w src dst fx hs hd
 unfold Oper.wp execOp
 simp only[ho,hx,Sem.run_bind,hr,Result.andThen_ok,Sem.run_pure]
 exact h n w' hn hw
def primeOK (p:Nat):Bool:=chkB (sqrtOf p)&&chkB (cbrtOf p)&&cbrtPre (floatOfInt .f64 (p:Int))&&decide (1≤p)&&decide (p<1000)
def numAt (w:World) (R:Nat):Nat :=
 (match w.cell? ⟨R,0,none⟩ with | some (.int _ n)=>n.toNat | _=>0)+18446744073709551616*(match w.cell? ⟨R,1,none⟩ with | some (.int _ n)=>n.toNat | _=>0)
theorem numAt_eq {w:World}{R a b:Nat}{t:TypeId}(h:Blk w R t (rowN [a,b,0,0])):numAt w R=a+18446744073709551616*b:=by
 have h0:w.cell? ⟨R,0,none⟩=some (.int .u64 (a:Int)):=h.cell 0 rfl;have h1:w.cell? ⟨R,1,none⟩=some (.int .u64 (b:Int)):=h.cell 1 rfl;rw[numAt,h0,h1]
 simp
theorem num4 (a b:Nat):num [a,b,0,0]=a+18446744073709551616*b:=by simp[num]
theorem num_goal2 (p:Nat):num [0,0,p,0]=p*18446744073709551616 ^ 2:=by simp[num];omega
theorem num_goal3 (p:Nat):num [0,0,0,p]=p*18446744073709551616 ^ 3:=by simp[num];omega
theorem w64_4 {a b:Nat}(ha:a<18446744073709551616) (hb:b≤33):W64 [a,b,0,0]:=by
 intro x hx
 simp at hx
 omega
theorem w64_goal2 {p:Nat}(h:p<1000):W64 [0,0,p,0]:=by
 intro x hx
 simp at hx
 omega
theorem w64_goal3 {p:Nat}(h:p<1000):W64 [0,0,0,p]:=by
 intro x hx
 simp at hx
 omega
theorem sha_lessB {x y:List Nat}(hx:x.length=4) (hy:y.length=4) (hxw:W64 x) (hyw:W64 y) (w:World) :
 Calls Tryz.prog 143 #[.agg (rowN x),.agg (rowN y)] w fun e w'=>∃ bl,e=.returned (.bool bl)∧Hid (bl=decide (num x<num y))∧Below w.heap.size w w' :=
 (sha_less hx hy hxw hyw w).mono fun _ _ h=>⟨_,h.1,rfl,h.2⟩
theorem sha_fraction2 (p c:Nat) (hp:primeOK p=true) (hc:c<18446744073709551616) (hf:isFrac 2 p c=true) (w:World) :
 Calls Tryz.prog 107 #[.int .u64 (p:Int),.int .i64 2] w fun e w'=>e=.returned (.int .u64 (c:Int))∧Below w.heap.size w w':=by
 unfold primeOK at hp
 simp only[Bool.and_eq_true,decide_eq_true_eq]at hp
 obtain⟨⟨⟨⟨hp1,_⟩,_⟩,hp4⟩,hp5⟩:=hp;obtain⟨f,g,k,e1,e2,e3,hk1,hk20⟩:=chkB_spec hp1;have SQ:=Hh (fun w=>math_Sqrt (floatOfInt .f64 (p:Int)) f e1 w);have FL:=Hh (fun w=>math_Floor f g e2 w);have CV:=fun w=>run_convert_float_int (P:=Tryz.prog) w 154 22 .f64 .u64 g (k:Int) (by kernel_rfl) (by kernel_rfl) e3
 have HP:=Hh (And.intro hp4 (And.intro hp5 (And.intro hc (And.intro hf (And.intro hk1 hk20)))));have hG0:=Blk.new w 176 #[.int .u64 0,.int .u64 0,.int .u64 0,.int .u64 0];have hb0:=below_box w (.cells #[.int .u64 0,.int .u64 0,.int .u64 0,.int .u64 0] 176);clear hp1 hp4 hp5 e1 e2 e3 hk1 hk20 hc hf;go_enter Tryz.func107,Tryz.ntmps107
 go_wp2_with (with_reducible refine stop_store ?_)
 refine wpList_store_cell rfl _ _ _ rfl rfl w.heap.size 2 (.int .u64 (p:Int)) rfl rfl _ _ hG0 size_u64c (by simp) rfl fun w2 hG hg2=>?_
 have hb:=hb0.grown hg2 hb0.size (by rintro q ⟨⟩;exact Nat.le_refl _);replace hG:Blk w2 w.heap.size 176 (rowN [0,0,p,0]):=hG;clear hG0 hb0 hg2;go_wp2_with fail
 refine(SQ.out _).mono ?_
 rintro e w3 ⟨rfl,rfl⟩
 go_wp2_with fail
 refine(FL.out _).mono ?_
 rintro e w3 ⟨rfl,rfl⟩
 clear SQ FL;go_wp2_with (with_reducible refine stop_fop ?_)
 refine wpList_fop rfl _ _ _ _ _ rfl (by simp) _ _ rfl rfl fun r1 w4 hw4=>?_
 have hG4:=hG.or hw4;have hb4:=below_or hb hw4;go_wp2_with (with_reducible refine stop_fop ?_)
 refine wpList_fop rfl _ _ _ _ _ rfl (by simp) _ _ rfl rfl fun r2 w5 hw5=>?_
 have hG5:=hG4.or hw5;have hb5:=below_or hb4 hw5;go_wp2_with (with_reducible refine stop_fconv ?_)
 refine wpList_fconv rfl _ _ _ rfl (by kernel_rfl) (by kernel_rfl) _ rfl fun m w6 hm hw6=>?_
 have hG6:=hG5.or hw6;have hb6:=below_or hb5 hw6;clear hG hb hG4 hb4 hG5 hb5 hw4 hw5 hw6
 obtain⟨lo,hlo,hlob⟩:∃ n:Nat,IntKind.u64.wrap ((m:Int)*2)=(n:Int)∧n<18446744073709551616:=by
  rw[IntKind.wrap_u64]
  exact⟨((m:Int)*2%18446744073709551616).toNat,by omega,by omega⟩
 have hR:=Blk.new w6 176 (rowN [lo,k,0,0]);have hG7:=hG6.alloc (.cells (rowN [lo,k,0,0]) 176);have hb7:=hb6.alloc hb6.size (.cells (rowN [lo,k,0,0]) 176);obtain⟨R,hRe⟩:∃ R,w6.heap.size=R:=⟨_,rfl⟩
 have hGR:w.heap.size<R:=by rw[← hRe];exact hG6.lt
 rw[hRe]at hR;have HRE:=Hh hRe;have HGR:=Hh hGR;have HM:=Hh (And.intro hm hlob);clear hG6 hb6 hRe hGR hm hlob;go_wp2_with fail
 rw[HRE.out];go_loopw [9,37] (fun v9 v37 wr=>∃ (j s:Nat),v37=.int .i64 (j:Int)∧j≤1∧v9=.float .f64 s∧Blk wr w.heap.size 176 (rowN [0,0,p,0])∧Blk wr R 176 (rowN [lo,k,0,0])∧Below w.heap.size w wr) (fun _ v37 _=>(1-intOf v37).toNat)
 case atStart=>exact⟨0,_,rfl,by omega,rfl,hG7,hR,hb7⟩
 case round =>
  clear hG7 hR hb7 CV;obtain⟨j,s,rfl,hj1,rfl,hG,hR,hb⟩:=hrel;have d0:wr.cell? ⟨R,0,none⟩=some (.int .u64 (lo:Int)):=hR.cell 0 rfl;have d1:wr.cell? ⟨R,1,none⟩=some (.int .u64 (k:Int)):=hR.cell 1 rfl;have d2:wr.cell? ⟨R,2,none⟩=some (.int .u64 0):=hR.cell 2 rfl;have d3:wr.cell? ⟨R,3,none⟩=some (.int .u64 0):=hR.cell 3 rfl
  by_cases hlt:(j:Int)<1
  ·have F:=Hh (wide_float (x:=[lo,k,0,0]) rfl wr);have HLT:=Hh hlt;go_wp2_with fail
   refine F.out.mono ?_
   rintro e w8 ⟨⟨fl,rfl⟩,hb8⟩
   have hG8:=hG.below hb8;have hR8:=hR.below hb8;have hbb:=hb.trans (hb8.mono hb.size);clear F d0 d1 d2 d3 hG hR hb hb8;go_wp2_with (with_reducible refine stop_fop ?_)
   refine wpList_fop rfl _ _ _ _ _ rfl (by simp) _ _ rfl rfl fun s2 w9 hw9=>?_
   have hG9:=hG8.or hw9;have hR9:=hR8.or hw9;have hb9:=below_or hbb hw9;clear hG8 hR8 hbb hw9;go_wp2_with fail
   go_roundw
   case rel=>exact⟨j+1,s2,by go_num,by have:=HLT.out;omega,rfl,hG9,hR9,hb9⟩
   case measure=>have:=HLT.out;simp[intOf];omega
  ·have hK1:num [lo,k,0,0] ^ 2<18446744073709551616 ^ 4:=by
    refine pow_small (.inl rfl) ?_
    have h1:=HM.out.2;have h2:=HP.out.2.2.2.2.2;have e:num [lo,k,0,0]=lo+18446744073709551616*(k+18446744073709551616*(0+18446744073709551616*(0+18446744073709551616*0))):=rfl
    omega
   have PW:=Hh (sha_power (x:=[lo,k,0,0]) rfl (by have h1:=HM.out.2;have h2:=HP.out.2.2.2.2.2;intro a ha;simp at ha;omega) 2 (by omega) hK1 wr);clear hK1;go_wp2_with fail
   refine PW.out.mono ?_
   rintro e w10 ⟨z,rfl,hz4,hzw,hzn,hb10⟩
   obtain⟨z0,z1,z2,z3,rfl⟩:=list4n hz4;rw[show rowN [z0,z1,z2,z3]=#[.int .u64 (z0:Int),.int .u64 (z1:Int),.int .u64 (z2:Int),.int .u64 (z3:Int)] from rfl];obtain⟨w11,hw11⟩:∃ w11,w10.alloc (.cells #[.int .u64 (z0:Int),.int .u64 (z1:Int),.int .u64 (z2:Int),.int .u64 (z3:Int)] 176)=w11:=⟨_,rfl⟩
   have hG10:Blk w11 w.heap.size 176 (rowN [0,0,p,0]):=by rw[← hw11];exact(hG.below hb10).alloc _
   have hR10:Blk w11 R 176 (rowN [lo,k,0,0]):=by rw[← hw11];exact(hR.below hb10).alloc _
   have hbb:Below w.heap.size w w11:=by rw[← hw11];exact(hb.trans (hb10.mono hb.size)).alloc (Nat.le_trans hb.size hb10.size) _
   obtain⟨Z,hZe⟩:∃ Z,w10.heap.size=Z:=⟨_,rfl⟩
   have hZ10:Blk w11 Z 176 (rowN [z0,z1,z2,z3]):=by rw[← hw11,← hZe];exact Blk.new w10 176 _
   have HW11:=Hh (And.intro hw11 hZe);have HZ:=Hh (And.intro hzw hzn);have LS:=Hh (sha_less (x:=[0,0,p,0]) (y:=[z0,z1,z2,z3]) rfl rfl (by have h2:=HP.out.2.1;intro a ha;simp at ha;omega) hzw w11);obtain⟨bl,hbl⟩:∃ b,decide (num [0,0,p,0]<num [z0,z1,z2,z3])=b:=⟨_,rfl⟩
   rw[hbl]at LS;have HBL:=Hh hbl;clear hz4 hzw hzn PW hb10 hG hR hb d0 d1 d2 d3 hbl hw11 hZe;have g0:w11.cell? ⟨w.heap.size,0,none⟩=some (.int .u64 0):=hG10.cell 0 rfl;have g1:w11.cell? ⟨w.heap.size,1,none⟩=some (.int .u64 0):=hG10.cell 1 rfl;have g2:w11.cell? ⟨w.heap.size,2,none⟩=some (.int .u64 (p:Int)):=hG10.cell 2 rfl;have g3:w11.cell? ⟨w.heap.size,3,none⟩=some (.int .u64 0):=hG10.cell 3 rfl;have y0:w11.cell? ⟨Z,0,none⟩=some (.int .u64 (z0:Int)):=hZ10.cell 0 rfl;have y1:w11.cell? ⟨Z,1,none⟩=some (.int .u64 (z1:Int)):=hZ10.cell 1 rfl;have y2:w11.cell? ⟨Z,2,none⟩=some (.int .u64 (z2:Int)):=hZ10.cell 2 rfl;have y3:w11.cell? ⟨Z,3,none⟩=some (.int .u64 (z3:Int)):=hZ10.cell 3 rfl;go_upto_region 14 with fail
   rw[HW11.out.1,HW11.out.2];go_wp2_with fail
   refine LS.out.mono ?_
   rintro e w12 ⟨rfl,hb12⟩
   have hG12:=hG10.below hb12;have hR12:=hR10.below hb12;have hZ12:=hZ10.below hb12;replace hb12:=hbb.trans (hb12.mono hbb.size);clear g0 g1 g2 g3 y0 y1 y2 y3 hG10 hR10 hZ10 LS hbb;go_upto_if 49 with fail
   go_cut [] (fun wx=>∃ (a b:Nat),a<18446744073709551616∧b≤22∧Blk wx w.heap.size 176 (rowN [0,0,p,0])∧Blk wx R 176 (rowN [a,b,0,0])∧Below w.heap.size w wx)
   case first =>
    cases bl with
    | true =>
     replace hG12:=hG12.drew;replace hR12:=hR12.drew;replace hZ12:=hZ12.drew;replace hb12:=hb12.drew;go_upto_region 15 with fail
     refine wp_region_ways 9 (fun wx=>wx.cell? ⟨R,0,none⟩=some (.int .u64 (lo:Int))∧wx.cell? ⟨R,1,none⟩=some (.int .u64 (k:Int))∧wx.cell? ⟨R,2,none⟩=some (.int .u64 0)∧wx.cell? ⟨R,3,none⟩=some (.int .u64 0)∧wx.cell? ⟨Z,0,none⟩=some (.int .u64 (z0:Int))∧wx.cell? ⟨Z,1,none⟩=some (.int .u64 (z1:Int))∧wx.cell? ⟨Z,2,none⟩=some (.int .u64 (z2:Int))∧wx.cell? ⟨Z,3,none⟩=some (.int .u64 (z3:Int))∧wx.cell? ⟨w.heap.size,0,none⟩=some (.int .u64 0)∧wx.cell? ⟨w.heap.size,1,none⟩=some (.int .u64 0)∧wx.cell? ⟨w.heap.size,2,none⟩=some (.int .u64 (p:Int))∧wx.cell? ⟨w.heap.size,3,none⟩=some (.int .u64 0)) (by kernel_rfl) (⟨hR12.cell 0 rfl,hR12.cell 1 rfl,hR12.cell 2 rfl,hR12.cell 3 rfl,hZ12.cell 0 rfl,hZ12.cell 1 rfl,hZ12.cell 2 rfl,hZ12.cell 3 rfl,hG12.cell 0 rfl,hG12.cell 1 rfl,hG12.cell 2 rfl,hG12.cell 3 rfl⟩) (fun hHeld=>?_)
     refine Tk 0 rfl hHeld ?_
     refine Tk 1 rfl hHeld ?_
     refine Tk 2 rfl hHeld ?_
     refine Tk 5 rfl hHeld ?_
     refine To 3 rfl fun K hK=>?_
     go_simp
     refine(sha_minus (x:=[z0,z1,z2,z3]) (y:=[0,0,p,0]) rfl rfl _).mono ?_
     rintro e w13 ⟨mm,rfl,hmm,hb13⟩
     replace hG12:=hG12.below hb13;replace hR12:=hR12.below hb13;replace hZ12:=hZ12.below hb13;replace hb12:=hb12.trans (hb13.mono hb12.size);clear hb13;clear hHeld
     refine hK.out _ _ (fun _=>?_) (fun hHeld=>?_)
     ·exact⟨hR12.cell 0 rfl,hR12.cell 1 rfl,hR12.cell 2 rfl,hR12.cell 3 rfl,hZ12.cell 0 rfl,hZ12.cell 1 rfl,hZ12.cell 2 rfl,hZ12.cell 3 rfl,hG12.cell 0 rfl,hG12.cell 1 rfl,hG12.cell 2 rfl,hG12.cell 3 rfl⟩
     clear hK K;replace hHeld:=hHeld (by decide)
     try simp only[Act.put,zz1,zz2,zz3,zz4,zz5,zz6]
     refine To 4 rfl fun K hK=>?_
     go_simp
     refine(wide_float hmm _).mono ?_
     rintro e w14 ⟨⟨fl,rfl⟩,hb14⟩
     replace hG12:=hG12.below hb14;replace hR12:=hR12.below hb14;replace hZ12:=hZ12.below hb14;replace hb12:=hb12.trans (hb14.mono hb12.size);clear hb14;clear hHeld
     refine hK.out _ _ (fun _=>?_) (fun hHeld=>?_)
     ·exact⟨hR12.cell 0 rfl,hR12.cell 1 rfl,hR12.cell 2 rfl,hR12.cell 3 rfl,hZ12.cell 0 rfl,hZ12.cell 1 rfl,hZ12.cell 2 rfl,hZ12.cell 3 rfl,hG12.cell 0 rfl,hG12.cell 1 rfl,hG12.cell 2 rfl,hG12.cell 3 rfl⟩
     clear hK K;replace hHeld:=hHeld (by decide)
     try simp only[Act.put,zz1,zz2,zz3,zz4,zz5,zz6]
     refine To 6 rfl fun K hK=>?_
     rw[if_pos (by rfl)]
     refine wp_fop _ _ _ _ _ rfl (by simp) _ _ rfl rfl fun fq w15 hw15=>?_
     replace hG12:=hG12.or hw15;replace hR12:=hR12.or hw15;replace hZ12:=hZ12.or hw15;replace hb12:=below_or hb12 hw15;clear hw15;clear hHeld
     refine hK.out _ _ (fun _=>?_) (fun hHeld=>?_)
     ·exact⟨hR12.cell 0 rfl,hR12.cell 1 rfl,hR12.cell 2 rfl,hR12.cell 3 rfl,hZ12.cell 0 rfl,hZ12.cell 1 rfl,hZ12.cell 2 rfl,hZ12.cell 3 rfl,hG12.cell 0 rfl,hG12.cell 1 rfl,hG12.cell 2 rfl,hG12.cell 3 rfl⟩
     clear hK K;replace hHeld:=hHeld (by decide)
     try simp only[Act.put,zz1,zz2,zz3,zz4,zz5,zz6]
     refine To 7 rfl fun K hK=>?_
     rw[if_pos (by rfl)]
     refine wp_fconv _ _ _ rfl (by kernel_rfl) (by kernel_rfl) _ rfl fun dd w16 hdd hw16=>?_
     replace hG12:=hG12.or hw16;replace hR12:=hR12.or hw16;replace hZ12:=hZ12.or hw16;replace hb12:=below_or hb12 hw16;clear hw16;clear hHeld
     refine hK.out _ _ (fun _=>?_) (fun hHeld=>?_)
     ·exact⟨hR12.cell 0 rfl,hR12.cell 1 rfl,hR12.cell 2 rfl,hR12.cell 3 rfl,hZ12.cell 0 rfl,hZ12.cell 1 rfl,hZ12.cell 2 rfl,hZ12.cell 3 rfl,hG12.cell 0 rfl,hG12.cell 1 rfl,hG12.cell 2 rfl,hG12.cell 3 rfl⟩
     clear hK K;replace hHeld:=hHeld (by decide)
     try simp only[Act.put,zz1,zz2,zz3,zz4,zz5,zz6]
     refine To 8 rfl fun K hK=>?_
     go_simp
     refine(sha_lower lo k 0 0 dd (by have h2:=HP.out.2.2.2.2.2;omega) HP.out.2.2.2.2.1 _).mono ?_
     rintro e w17 ⟨rfl,hb17⟩
     replace hG12:=hG12.below hb17;replace hR12:=hR12.below hb17;replace hZ12:=hZ12.below hb17;replace hb12:=hb12.trans (hb17.mono hb12.size);clear hb17;have HA:Hid ((lo+18446744073709551616-dd)%18446744073709551616<18446744073709551616):=Nat.mod_lt _ (by decide);have HB:Hid (k-(if lo<dd then 1 else 0)≤22):=by rw[Hid];have h2:=HP.out.2.2.2.2.2;split <;> omega
     obtain⟨a0,ha0⟩:∃ n,(lo+18446744073709551616-dd)%18446744073709551616=n:=⟨_,rfl⟩
     obtain⟨b0,hq0⟩:∃ n,k-(if lo<dd then 1 else 0)=n:=⟨_,rfl⟩
     rw[ha0]at HA;rw[hq0]at HB;rw[ha0,hq0];clear ha0 hq0 hdd hlo;clear hHeld
     refine hK.out _ _ (fun _=>?_) (fun hHeld=>?_)
     ·exact⟨hR12.cell 0 rfl,hR12.cell 1 rfl,hR12.cell 2 rfl,hR12.cell 3 rfl,hZ12.cell 0 rfl,hZ12.cell 1 rfl,hZ12.cell 2 rfl,hZ12.cell 3 rfl,hG12.cell 0 rfl,hG12.cell 1 rfl,hG12.cell 2 rfl,hG12.cell 3 rfl⟩
     clear hK K;replace hHeld:=hHeld (by decide)
     try simp only[Act.put,zz1,zz2,zz3,zz4,zz5,zz6]
     refine To 9 rfl fun K hK=>?_
     rw[if_pos (by rfl)]
     refine wp_store_item _ _ _ rfl R (rowN [a0,b0,0,0]) rfl rfl _ _ hR12 size_w4 rfl (rowN_one _) fun w18 hR18 hg18=>?_
     refine Kz hK ?_
     clear hK K
     refine Wd ?_
     clear hHeld;have hG18:=hG12.grown hg18 (by intro hc;injection hc with hc;have:=HGR.out;omega);have hb18:=hb12.grown hg18 hb12.size (by rintro q ⟨⟩;have:=HGR.out;omega);clear hG12 hR12 hZ12 hb12 hg18;go_wp2_with fail
     go_meet
     exact⟨a0,b0,HA.out,HB.out,hG18,hR18,hb18⟩
    | false =>
     replace hG12:=hG12.drew;replace hR12:=hR12.drew;replace hZ12:=hZ12.drew;replace hb12:=hb12.drew;go_upto_region 16 with fail
     refine wp_region_ways 9 (fun wx=>wx.cell? ⟨R,0,none⟩=some (.int .u64 (lo:Int))∧wx.cell? ⟨R,1,none⟩=some (.int .u64 (k:Int))∧wx.cell? ⟨R,2,none⟩=some (.int .u64 0)∧wx.cell? ⟨R,3,none⟩=some (.int .u64 0)∧wx.cell? ⟨Z,0,none⟩=some (.int .u64 (z0:Int))∧wx.cell? ⟨Z,1,none⟩=some (.int .u64 (z1:Int))∧wx.cell? ⟨Z,2,none⟩=some (.int .u64 (z2:Int))∧wx.cell? ⟨Z,3,none⟩=some (.int .u64 (z3:Int))∧wx.cell? ⟨w.heap.size,0,none⟩=some (.int .u64 0)∧wx.cell? ⟨w.heap.size,1,none⟩=some (.int .u64 0)∧wx.cell? ⟨w.heap.size,2,none⟩=some (.int .u64 (p:Int))∧wx.cell? ⟨w.heap.size,3,none⟩=some (.int .u64 0)) (by kernel_rfl) (⟨hR12.cell 0 rfl,hR12.cell 1 rfl,hR12.cell 2 rfl,hR12.cell 3 rfl,hZ12.cell 0 rfl,hZ12.cell 1 rfl,hZ12.cell 2 rfl,hZ12.cell 3 rfl,hG12.cell 0 rfl,hG12.cell 1 rfl,hG12.cell 2 rfl,hG12.cell 3 rfl⟩) (fun hHeld=>?_)
     refine Tk 0 rfl hHeld ?_
     refine Tk 1 rfl hHeld ?_
     refine Tk 2 rfl hHeld ?_
     refine Tk 5 rfl hHeld ?_
     refine To 3 rfl fun K hK=>?_
     go_simp
     refine(sha_minus (x:=[0,0,p,0]) (y:=[z0,z1,z2,z3]) rfl rfl _).mono ?_
     rintro e w13 ⟨mm,rfl,hmm,hb13⟩
     replace hG12:=hG12.below hb13;replace hR12:=hR12.below hb13;replace hZ12:=hZ12.below hb13;replace hb12:=hb12.trans (hb13.mono hb12.size);clear hb13;clear hHeld
     refine hK.out _ _ (fun _=>?_) (fun hHeld=>?_)
     ·exact⟨hR12.cell 0 rfl,hR12.cell 1 rfl,hR12.cell 2 rfl,hR12.cell 3 rfl,hZ12.cell 0 rfl,hZ12.cell 1 rfl,hZ12.cell 2 rfl,hZ12.cell 3 rfl,hG12.cell 0 rfl,hG12.cell 1 rfl,hG12.cell 2 rfl,hG12.cell 3 rfl⟩
     clear hK K;replace hHeld:=hHeld (by decide)
     try simp only[Act.put,zz1,zz2,zz3,zz4,zz5,zz6]
     refine To 4 rfl fun K hK=>?_
     go_simp
     refine(wide_float hmm _).mono ?_
     rintro e w14 ⟨⟨fl,rfl⟩,hb14⟩
     replace hG12:=hG12.below hb14;replace hR12:=hR12.below hb14;replace hZ12:=hZ12.below hb14;replace hb12:=hb12.trans (hb14.mono hb12.size);clear hb14;clear hHeld
     refine hK.out _ _ (fun _=>?_) (fun hHeld=>?_)
     ·exact⟨hR12.cell 0 rfl,hR12.cell 1 rfl,hR12.cell 2 rfl,hR12.cell 3 rfl,hZ12.cell 0 rfl,hZ12.cell 1 rfl,hZ12.cell 2 rfl,hZ12.cell 3 rfl,hG12.cell 0 rfl,hG12.cell 1 rfl,hG12.cell 2 rfl,hG12.cell 3 rfl⟩
     clear hK K;replace hHeld:=hHeld (by decide)
     try simp only[Act.put,zz1,zz2,zz3,zz4,zz5,zz6]
     refine To 6 rfl fun K hK=>?_
     rw[if_pos (by rfl)]
     refine wp_fop _ _ _ _ _ rfl (by simp) _ _ rfl rfl fun fq w15 hw15=>?_
     replace hG12:=hG12.or hw15;replace hR12:=hR12.or hw15;replace hZ12:=hZ12.or hw15;replace hb12:=below_or hb12 hw15;clear hw15;clear hHeld
     refine hK.out _ _ (fun _=>?_) (fun hHeld=>?_)
     ·exact⟨hR12.cell 0 rfl,hR12.cell 1 rfl,hR12.cell 2 rfl,hR12.cell 3 rfl,hZ12.cell 0 rfl,hZ12.cell 1 rfl,hZ12.cell 2 rfl,hZ12.cell 3 rfl,hG12.cell 0 rfl,hG12.cell 1 rfl,hG12.cell 2 rfl,hG12.cell 3 rfl⟩
     clear hK K;replace hHeld:=hHeld (by decide)
     try simp only[Act.put,zz1,zz2,zz3,zz4,zz5,zz6]
     refine To 7 rfl fun K hK=>?_
     rw[if_pos (by rfl)]
     refine wp_fconv _ _ _ rfl (by kernel_rfl) (by kernel_rfl) _ rfl fun dd w16 hdd hw16=>?_
     replace hG12:=hG12.or hw16;replace hR12:=hR12.or hw16;replace hZ12:=hZ12.or hw16;replace hb12:=below_or hb12 hw16;clear hw16;clear hHeld
     refine hK.out _ _ (fun _=>?_) (fun hHeld=>?_)
     ·exact⟨hR12.cell 0 rfl,hR12.cell 1 rfl,hR12.cell 2 rfl,hR12.cell 3 rfl,hZ12.cell 0 rfl,hZ12.cell 1 rfl,hZ12.cell 2 rfl,hZ12.cell 3 rfl,hG12.cell 0 rfl,hG12.cell 1 rfl,hG12.cell 2 rfl,hG12.cell 3 rfl⟩
     clear hK K;replace hHeld:=hHeld (by decide)
     try simp only[Act.put,zz1,zz2,zz3,zz4,zz5,zz6]
     refine To 8 rfl fun K hK=>?_
     go_simp
     refine(sha_raise lo k 0 0 dd HM.out.2 hdd (by have h2:=HP.out.2.2.2.2.2;omega) _).mono ?_
     rintro e w17 ⟨rfl,hb17⟩
     replace hG12:=hG12.below hb17;replace hR12:=hR12.below hb17;replace hZ12:=hZ12.below hb17;replace hb12:=hb12.trans (hb17.mono hb12.size);clear hb17;have HA:Hid ((lo+dd)%18446744073709551616<18446744073709551616):=Nat.mod_lt _ (by decide);have HB:Hid (k+(lo+dd)/18446744073709551616≤22):=by rw[Hid];have h1:=HM.out.2;have h2:=HP.out.2.2.2.2.2;omega
     obtain⟨a0,ha0⟩:∃ n,(lo+dd)%18446744073709551616=n:=⟨_,rfl⟩
     obtain⟨b0,hq0⟩:∃ n,k+(lo+dd)/18446744073709551616=n:=⟨_,rfl⟩
     rw[ha0]at HA;rw[hq0]at HB;rw[ha0,hq0];clear ha0 hq0 hdd hlo;clear hHeld
     refine hK.out _ _ (fun _=>?_) (fun hHeld=>?_)
     ·exact⟨hR12.cell 0 rfl,hR12.cell 1 rfl,hR12.cell 2 rfl,hR12.cell 3 rfl,hZ12.cell 0 rfl,hZ12.cell 1 rfl,hZ12.cell 2 rfl,hZ12.cell 3 rfl,hG12.cell 0 rfl,hG12.cell 1 rfl,hG12.cell 2 rfl,hG12.cell 3 rfl⟩
     clear hK K;replace hHeld:=hHeld (by decide)
     try simp only[Act.put,zz1,zz2,zz3,zz4,zz5,zz6]
     refine To 9 rfl fun K hK=>?_
     rw[if_pos (by rfl)]
     refine wp_store_item _ _ _ rfl R (rowN [a0,b0,0,0]) rfl rfl _ _ hR12 size_w4 rfl (rowN_one _) fun w18 hR18 hg18=>?_
     refine Kz hK ?_
     clear hK K
     refine Wd ?_
     clear hHeld;have hG18:=hG12.grown hg18 (by intro hc;injection hc with hc;have:=HGR.out;omega);have hb18:=hb12.grown hg18 hb12.size (by rintro q ⟨⟩;have:=HGR.out;omega);clear hG12 hR12 hZ12 hb12 hg18;go_wp2_with fail
     go_meet
     exact⟨a0,b0,HA.out,HB.out,hG18,hR18,hb18⟩
   case rest =>
    clear hG12 hR12 hZ12 hb12 HBL HZ HM HW11;obtain⟨a,b,ha,hb2,hG,hR,hb⟩:=hcut;have HAB:=Hh (And.intro ha hb2);clear ha hb2;go_wp2_with fail
    go_loopw [72] (fun _ wr=>∃ (a b:Nat),Hid (a<18446744073709551616∧b≤22)∧Blk wr w.heap.size 176 (rowN [0,0,p,0])∧Blk wr R 176 (rowN [a,b,0,0])∧Below w.heap.size w wr) (fun _ wr=>numAt wr R)
    case atStart=>exact⟨a,b,HAB,hG,hR,hb⟩
    case round =>
     clear HAB hG hR hb;clear a b;obtain⟨a,b,HAB,hG,hR,hb⟩:=hrel;have HM0:=Hh (numAt_eq hR)
     have HA9:Hid (a<18446744073709551616∧b≤33∧num [a,b,0,0] ^ 2<18446744073709551616 ^ 4):=by
      refine⟨HAB.out.1,Nat.le_trans HAB.out.2 (by omega), ?_⟩
      rw[num4]
      refine pow_small (.inl rfl) ?_
      have h1:=HAB.out.1;have h2:=HAB.out.2
      omega
     replace hG:=hG.drew;replace hR:=hR.drew;replace hb:=hb.drew;go_upto_region 17 with fail
     refine wp_region_ways 4 (fun wx=>wx.cell? ⟨R,0,none⟩=some (.int .u64 (a:Int))∧wx.cell? ⟨R,1,none⟩=some (.int .u64 (b:Int))∧wx.cell? ⟨R,2,none⟩=some (.int .u64 0)∧wx.cell? ⟨R,3,none⟩=some (.int .u64 0)∧wx.cell? ⟨w.heap.size,0,none⟩=some (.int .u64 0)∧wx.cell? ⟨w.heap.size,1,none⟩=some (.int .u64 0)∧wx.cell? ⟨w.heap.size,2,none⟩=some (.int .u64 (p:Int))∧wx.cell? ⟨w.heap.size,3,none⟩=some (.int .u64 0)) (by kernel_rfl) (⟨hR.cell 0 rfl,hR.cell 1 rfl,hR.cell 2 rfl,hR.cell 3 rfl,hG.cell 0 rfl,hG.cell 1 rfl,hG.cell 2 rfl,hG.cell 3 rfl⟩) (fun hHeld=>?_)
     refine Tk 0 rfl hHeld ?_
     refine Tk 1 rfl hHeld ?_
     refine Tk 2 rfl hHeld ?_
     refine To 3 rfl fun K hK=>?_
     go_simp
     refine(sha_power (x:=[a,b,0,0]) rfl (w64_4 HA9.out.1 HA9.out.2.1) 2 (by omega) HA9.out.2.2 _).mono ?_
     rintro e w21 ⟨z,rfl,hz4,hzw,hzn,hb21⟩
     replace hG:=hG.below hb21;replace hR:=hR.below hb21;replace hb:=hb.trans (hb21.mono hb.size);clear hb21;rw[num4]at hzn;obtain⟨z0,z1,z2,z3,rfl⟩:=list4n hz4;have HZN:=Hh (And.intro hzw hzn);clear hz4 hzw hzn;clear hHeld
     refine hK.out _ _ (fun _=>?_) (fun hHeld=>?_)
     ·exact⟨hR.cell 0 rfl,hR.cell 1 rfl,hR.cell 2 rfl,hR.cell 3 rfl,hG.cell 0 rfl,hG.cell 1 rfl,hG.cell 2 rfl,hG.cell 3 rfl⟩
     clear hK K;replace hHeld:=hHeld (by decide)
     try simp only[Act.put,zz1,zz2,zz3,zz4,zz5,zz6]
     refine To 4 rfl fun K hK=>?_
     go_simp
     refine(sha_lessB (x:=[0,0,p,0]) (y:=[z0,z1,z2,z3]) rfl rfl (w64_goal2 HP.out.2.1) HZN.out.1 _).mono ?_
     rintro e w22 ⟨bl,rfl,HBL,hb22⟩
     replace hG:=hG.below hb22;replace hR:=hR.below hb22;replace hb:=hb.trans (hb22.mono hb.size);clear hb22
     refine Kz hK ?_
     clear hK K
     refine Wd ?_
     clear hHeld;have HCMP:Hid (bl=decide (p*18446744073709551616 ^ 2<(a+18446744073709551616*b) ^ 2)):=by rw[Hid,HBL.out,num_goal2,HZN.out.2]
     clear HBL HZN HA9
     cases bl with
     | true =>
      have HLO:Hid (18446744073709551616<a+18446744073709551616*b):=root_low HP.out.1 (of_decide_eq_true HCMP.out.symm);clear HCMP;have d0:=hR.cell 0 (v:=.int .u64 (a:Int)) rfl;have d1:=hR.cell 1 (v:=.int .u64 (b:Int)) rfl;have d2:=hR.cell 2 (v:=.int .u64 0) rfl;have d3:=hR.cell 3 (v:=.int .u64 0) rfl;have LO:=Hh (fun w=>sha_lower a b 0 0 1 (by have h1:=HAB.out.2;omega) (by have h1:=HLO.out;have h2:=HAB.out.1;omega) w);go_wp2_with fail
      refine(LO.out _).mono ?_
      rintro e w23 ⟨rfl,hb23⟩
      have HA2:Hid ((a+18446744073709551616-1)%18446744073709551616<18446744073709551616∧b-(if a<1 then 1 else 0)≤22∧(a+18446744073709551616-1)%18446744073709551616+18446744073709551616*(b-(if a<1 then 1 else 0))+1=a+18446744073709551616*b):=by
       have h1:=HLO.out;have h2:=HAB.out.1;have h3:=HAB.out.2;rw[Hid]
       split <;> omega
      obtain⟨a2,ha2⟩:∃ n,(a+18446744073709551616-1)%18446744073709551616=n:=⟨_,rfl⟩
      obtain⟨b2,hb2⟩:∃ n,b-(if a<1 then 1 else 0)=n:=⟨_,rfl⟩
      rw[ha2,hb2]at HA2;rw[ha2,hb2];clear ha2 hb2 LO HLO d0 d1 d2 d3;replace hG:=hG.below hb23;replace hR:=hR.below hb23;replace hb:=hb.trans (hb23.mono hb.size);clear hb23;go_wp2_with (with_reducible refine stop_store ?_)
      refine wpList_store_item rfl _ _ _ rfl rfl R (rowN [a2,b2,0,0]) rfl rfl _ _ hR size_w4 rfl (rowN_one _) fun w24 hR24 hg24=>?_
      have hG24:=hG.grown hg24 (by intro hc;injection hc with hc;have:=HGR.out;omega);have hb24:=hb.grown hg24 hb.size (by rintro q ⟨⟩;have:=HGR.out;omega);clear hG hR hb hg24;go_wp2_with fail
      go_roundw
      case rel=>exact⟨a2,b2,⟨HA2.out.1,HA2.out.2.1⟩,hG24,hR24,hb24⟩
      case measure=>rw[HM0.out,numAt_eq hR24];have h1:=HA2.out.2.2;omega
     | false =>
      have HLE:Hid ((a+18446744073709551616*b) ^ 2≤p*18446744073709551616 ^ 2):=Nat.le_of_not_lt (of_decide_eq_false HCMP.out.symm);have HAA:Hid (a<18446744073709551616):=HAB.out.1;clear HCMP HM0 HAB;go_wp2_with fail
      go_loopw [81] (fun _ wr=>∃ (a b:Nat),Hid (a<18446744073709551616)∧Hid ((a+18446744073709551616*b) ^ 2≤p*18446744073709551616 ^ 2)∧Blk wr w.heap.size 176 (rowN [0,0,p,0])∧Blk wr R 176 (rowN [a,b,0,0])∧Below w.heap.size w wr) (fun _ wr=>32*18446744073709551616-numAt wr R)
      case atStart=>exact⟨a,b,HAA,HLE,hG,hR,hb⟩
      case round =>
       clear HAA HLE hG hR hb;obtain⟨a,b,HAA,HLE,hG,hR,hb⟩:=hrel;have HM0:=Hh (numAt_eq hR);have HBD:Hid (a+18446744073709551616*b<32*18446744073709551616):=root_bnd (.inl rfl) HP.out.2.1 HLE.out
       have HE2:Hid (a<18446744073709551616∧b≤31∧(a+1)%18446744073709551616<18446744073709551616∧b+(a+1)/18446744073709551616≤32∧(a+1)%18446744073709551616+18446744073709551616*(b+(a+1)/18446744073709551616)=a+18446744073709551616*b+1):=by
        have h1:=HAA.out;have h2:=HBD.out;rw[Hid]
        omega
       obtain⟨a2,ha2⟩:∃ n,(a+1)%18446744073709551616=n:=⟨_,rfl⟩
       obtain⟨b2,hb2⟩:∃ n,b+(a+1)/18446744073709551616=n:=⟨_,rfl⟩
       have HN2:=Hh (And.intro ha2 hb2);rw[ha2,hb2]at HE2;clear ha2 hb2
       have HA9:Hid (a2<18446744073709551616∧b2≤33∧num [a2,b2,0,0] ^ 2<18446744073709551616 ^ 4):=by
        refine⟨HE2.out.2.2.1,Nat.le_trans HE2.out.2.2.2.1 (by omega), ?_⟩
        rw[num4]
        refine pow_small (.inl rfl) ?_
        have h1:=HE2.out.2.2.1;have h2:=HE2.out.2.2.2.1
        omega
       replace hG:=hG.drew;replace hR:=hR.drew;replace hb:=hb.drew;go_upto_region 19 with fail
       refine wp_region_ways 6 (fun wx=>wx.cell? ⟨R,0,none⟩=some (.int .u64 (a:Int))∧wx.cell? ⟨R,1,none⟩=some (.int .u64 (b:Int))∧wx.cell? ⟨R,2,none⟩=some (.int .u64 0)∧wx.cell? ⟨R,3,none⟩=some (.int .u64 0)∧wx.cell? ⟨w.heap.size,0,none⟩=some (.int .u64 0)∧wx.cell? ⟨w.heap.size,1,none⟩=some (.int .u64 0)∧wx.cell? ⟨w.heap.size,2,none⟩=some (.int .u64 (p:Int))∧wx.cell? ⟨w.heap.size,3,none⟩=some (.int .u64 0)) (by kernel_rfl) (⟨hR.cell 0 rfl,hR.cell 1 rfl,hR.cell 2 rfl,hR.cell 3 rfl,hG.cell 0 rfl,hG.cell 1 rfl,hG.cell 2 rfl,hG.cell 3 rfl⟩) (fun hHeld=>?_)
       refine Tk 0 rfl hHeld ?_
       refine Tk 1 rfl hHeld ?_
       refine Tk 3 rfl hHeld ?_
       refine To 2 rfl fun K hK=>?_
       go_simp
       refine(sha_raise a b 0 0 1 HE2.out.1 (by omega) (by have h1:=HE2.out.2.1;omega) _).mono ?_
       rintro e w20 ⟨rfl,hb20⟩
       replace hG:=hG.below hb20;replace hR:=hR.below hb20;replace hb:=hb.trans (hb20.mono hb.size);clear hb20;rw[HN2.out.1,HN2.out.2];clear hHeld
       refine hK.out _ _ (fun _=>?_) (fun hHeld=>?_)
       ·exact⟨hR.cell 0 rfl,hR.cell 1 rfl,hR.cell 2 rfl,hR.cell 3 rfl,hG.cell 0 rfl,hG.cell 1 rfl,hG.cell 2 rfl,hG.cell 3 rfl⟩
       clear hK K;replace hHeld:=hHeld (by decide)
       try simp only[Act.put,zz1,zz2,zz3,zz4,zz5,zz6]
       refine To 4 rfl fun K hK=>?_
       go_simp
       refine(sha_power (x:=[a2,b2,0,0]) rfl (w64_4 HA9.out.1 HA9.out.2.1) 2 (by omega) HA9.out.2.2 _).mono ?_
       rintro e w21 ⟨z,rfl,hz4,hzw,hzn,hb21⟩
       replace hG:=hG.below hb21;replace hR:=hR.below hb21;replace hb:=hb.trans (hb21.mono hb.size);clear hb21;rw[num4]at hzn;obtain⟨z0,z1,z2,z3,rfl⟩:=list4n hz4;have HZN:=Hh (And.intro hzw hzn);clear hz4 hzw hzn;clear hHeld
       refine hK.out _ _ (fun _=>?_) (fun hHeld=>?_)
       ·exact⟨hR.cell 0 rfl,hR.cell 1 rfl,hR.cell 2 rfl,hR.cell 3 rfl,hG.cell 0 rfl,hG.cell 1 rfl,hG.cell 2 rfl,hG.cell 3 rfl⟩
       clear hK K;replace hHeld:=hHeld (by decide)
       try simp only[Act.put,zz1,zz2,zz3,zz4,zz5,zz6]
       refine To 5 rfl fun K hK=>?_
       go_simp
       refine(sha_lessB (x:=[0,0,p,0]) (y:=[z0,z1,z2,z3]) rfl rfl (w64_goal2 HP.out.2.1) HZN.out.1 _).mono ?_
       rintro e w22 ⟨bl,rfl,HBL,hb22⟩
       replace hG:=hG.below hb22;replace hR:=hR.below hb22;replace hb:=hb.trans (hb22.mono hb.size);clear hb22;clear hHeld
       refine hK.out _ _ (fun _=>?_) (fun hHeld=>?_)
       ·exact⟨hR.cell 0 rfl,hR.cell 1 rfl,hR.cell 2 rfl,hR.cell 3 rfl,hG.cell 0 rfl,hG.cell 1 rfl,hG.cell 2 rfl,hG.cell 3 rfl⟩
       clear hK K;replace hHeld:=hHeld (by decide)
       try simp only[Act.put,zz1,zz2,zz3,zz4,zz5,zz6]
       refine To 6 rfl fun K hK=>?_
       go_simp
       refine Kz hK ?_
       clear hK K
       refine Wd ?_
       clear hHeld;have HCMP:Hid (bl=decide (p*18446744073709551616 ^ 2<(a+18446744073709551616*b+1) ^ 2)):=by rw[Hid,HBL.out,num_goal2,HZN.out.2,HE2.out.2.2.2.2]
       clear HBL HZN HA9;have d0:=hR.cell 0 (v:=.int .u64 (a:Int)) rfl;have d1:=hR.cell 1 (v:=.int .u64 (b:Int)) rfl;have d2:=hR.cell 2 (v:=.int .u64 0) rfl;have d3:=hR.cell 3 (v:=.int .u64 0) rfl
       cases bl with
       | true =>
        have HFR:Hid (a=c):=by
         have h1:=frac_of (.inl rfl) HP.out.2.2.1 HP.out.2.2.2.1 HLE.out (of_decide_eq_true HCMP.out.symm);have h2:=HAA.out;rw[Hid]
         omega
        rw[HFR.out]at d0;clear HCMP
        simp only[Bool.not_true]
        go_wp2_with fail
        go_ret
        exact⟨rfl,hb⟩
       | false =>
        have HLE2:Hid ((a2+18446744073709551616*b2) ^ 2≤p*18446744073709551616 ^ 2):=by
         have h1:=Nat.le_of_not_lt (of_decide_eq_false HCMP.out.symm);rw[← HE2.out.2.2.2.2]at h1
         exact h1
        clear HCMP;have RA:=Hh (fun w=>sha_raise a b 0 0 1 HE2.out.1 (by omega) (by have h1:=HE2.out.2.1;omega) w)
        simp only[Bool.not_false]
        go_wp2_with fail
        refine(RA.out _).mono ?_
        rintro e w23 ⟨rfl,hb23⟩
        rw[HN2.out.1,HN2.out.2];replace hG:=hG.below hb23;replace hR:=hR.below hb23;replace hb:=hb.trans (hb23.mono hb.size);clear hb23 RA d0 d1 d2 d3;go_wp2_with (with_reducible refine stop_store ?_)
        refine wpList_store_item rfl _ _ _ rfl rfl R (rowN [a2,b2,0,0]) rfl rfl _ _ hR size_w4 rfl (rowN_one _) fun w24 hR24 hg24=>?_
        have hG24:=hG.grown hg24 (by intro hc;injection hc with hc;have:=HGR.out;omega);have hb24:=hb.grown hg24 hb.size (by rintro q ⟨⟩;have:=HGR.out;omega);clear hG hR hb hg24;go_wp2_with fail
        go_roundw
        case rel=>exact⟨a2,b2,HE2.out.2.2.1,HLE2,hG24,hR24,hb24⟩
        case measure=>rw[HM0.out,numAt_eq hR24];have h1:=HE2.out.2.2.2.2;have h2:=HBD.out;omega
end Go.Proofs.YtgcjjhibdbafmaaGreatDoor
