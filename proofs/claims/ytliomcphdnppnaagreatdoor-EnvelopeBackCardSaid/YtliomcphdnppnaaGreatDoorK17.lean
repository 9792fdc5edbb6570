/- squeezed. SHA-256: numbers of four words: su -/
import Derived.Test.YtliomcphdnppnaaGreatDoorK16
import GoSem.Core.Float
import Derived.Laws.FloatArith
set_option linter.unusedVariables false
set_option linter.unusedSimpArgs false
set_option maxRecDepth 100000
set_option maxHeartbeats 6400000
namespace Go.Proofs.YtliomcphdnppnaaGreatDoor
open Go.RowKit
theorem jau{P:Prop}(h:P:=by
 go_wp2_with (with_reducible refine zx ?_)
 refine zj rfl _ _ _ rfl rfl w.heap.size 0 (.int .u64 (s0:Int)) rfl rfl _ _ nL tm (by rw[uO];simp) rfl fun w2 cA sv=>?_
 rw[q8]at cA;replace cA:Blk w2 w.heap.size 211 (zO [s0,x1,x2,x3]):=cA;have JO:=gk.grown sv (by intro hc;injection hc;omega);have zG:=zB.grown sv zB.size (by rintro q ⟨⟩;omega);have c1:w2.cell? ⟨w.heap.size,1,none⟩=some (.int .u64 (x1:Int)):=cA.cell 1 rfl;clear nL gk zB sv c0 A;go_wp2_with (with_reducible refine zx ?_)
 refine zj rfl _ _ _ rfl rfl w.heap.size 1 (.int .u64 (s1:Int)) rfl rfl _ _ cA tm (by rw[uO];simp) rfl fun w3 nC ph=>?_
 rw[q8]at nC;replace nC:Blk w3 w.heap.size 211 (zO [s0,s1,x2,x3]):=nC;have hR3:=JO.grown ph (by intro hc;injection hc;omega);have xj:=zG.grown ph zG.size (by rintro q ⟨⟩;omega);clear cA JO zG ph c1 B;have e0:w3.cell? ⟨w.heap.size,0,none⟩=some (.int .u64 (s0:Int)):=nC.cell 0 rfl;have e1:w3.cell? ⟨w.heap.size,1,none⟩=some (.int .u64 (s1:Int)):=nC.cell 1 rfl;have e2:w3.cell? ⟨w.heap.size,2,none⟩=some (.int .u64 (x2:Int)):=nC.cell 2 rfl;have e3:w3.cell? ⟨w.heap.size,3,none⟩=some (.int .u64 (x3:Int)):=nC.cell 3 rfl;go_wp2_with (with_reducible refine zx ?_)
 refine zv rfl _ _ _ rfl rfl (w.heap.size+1) (zO [s0,s1,x2,x3]) rfl rfl _ _ hR3 vt rfl (vz _) fun wz hRz yS=>?_
 have yz:=xj.grown yS xj.size (by rintro q ⟨⟩;omega);clear e0 e1 e2 e3;go_wp2_with fail
 refine zF rfl rfl hRz rfl rfl vt rfl ?_
 exact⟨rfl,yz⟩):P:=h
theorem jeg{P:Prop}(h:P:=by
 rintro e w1 ⟨rfl,rfl⟩
 exact jay):P:=h
theorem jfH{P:Prop}(h:P:=by have nL:=(Blk.new w 211 (zO [x0,x1,x2,x3])).alloc (.cells #[.int .u64 0,.int .u64 0,.int .u64 0,.int .u64 0] 211);have gk:=Blk.new (w.alloc (.cells (zO [x0,x1,x2,x3]) 211)) 211 #[.int .u64 0,.int .u64 0,.int .u64 0,.int .u64 0];exact And.intro nL gk):P:=h
theorem jfI{P:Prop}(h:P:=by have c0:((w.alloc (.cells (zO [x0,x1,x2,x3]) 211)).alloc (.cells #[.int .u64 0,.int .u64 0,.int .u64 0,.int .u64 0] 211)).cell? ⟨w.heap.size,0,none⟩=some (.int .u64 (x0:Int)):=nL.cell 0 rfl;exact c0):P:=h
theorem jgy{P:Prop}(h:P:=by have xo:=zo w (.cells (zO [x0,x1,x2,x3]) 211);have zB:=xo.alloc xo.size (.cells #[.int .u64 0,.int .u64 0,.int .u64 0,.int .u64 0] 211);exact And.intro xo zB):P:=h
theorem rP {P:Program}{ops:Array Oper}{Q:Exit→Act→World→Prop}{rest:List Oper}{a:Act}{w:World}{dst:Option Tmp}{op:BinOp}{x y:Operand}{t2:TypeId}{T:TypeId}{pos:String}{af:Array Edge}{g:Option (Nat×Bool)}
  (h:zC (wpList P ops Q (⟨dst,.binOp op 198 x y t2,T,pos,af,g⟩::rest) a w)):wpList P ops Q (⟨dst,.binOp op 198 x y t2,T,pos,af,g⟩::rest) a w:=h
theorem eF {P:Program}{ops:Array Oper}{Q:Exit→Act→World→Prop}{rest:List Oper}{a:Act}{w:World}{dst:Option Tmp}{x:Operand}{T:TypeId}{pos:String}{af:Array Edge}{g:Option (Nat×Bool)}
  (h:zC (wpList P ops Q (⟨dst,.convert 198 22 x,T,pos,af,g⟩::rest) a w)):wpList P ops Q (⟨dst,.convert 198 22 x,T,pos,af,g⟩::rest) a w:=h
theorem Blk.or {w w':World}{g:Nat}{t:TypeId}{cs:Array Value}(h:Blk w g t cs) (hw:w'=w∨w'=w.drew):Blk w' g t cs:=by
 rcases hw with rfl | rfl
 ·exact h
 exact h.drew
theorem wT {B:Nat}{w0 w w':World}(h:Below B w0 w) (hw:w'=w∨w'=w.drew):Below B w0 w':=by
 rcases hw with rfl | rfl
 ·exact h
 exact h.drew
theorem rY {x:List Nat}(hx:x.length=4) (w:World) :
  Calls Tryz.prog 158 #[.agg (zO x)] w fun e w'=>(∃ f,e=.returned (.float .f64 f))∧Below w.heap.size w w':=by
 have nL:=Blk.new w 211 (zO x);have xo:=zo w (.cells (zO x) 211);have HL:=Hh hx;clear hx;go_enter Tryz.func158,Tryz.ntmps158
 go_wp2_with fail
 go_loopw [3,4] (fun v3 v4 wr=>∃ (k f:Nat),v4=.int .i64 ((k:Int)-1)∧k≤4∧v3=.float .f64 f∧Blk wr w.heap.size 211 (zO x)∧Below w.heap.size w wr) (fun _ v4 _=>(intOf v4+1).toNat)
 case atStart=>exact⟨4,0,by rw[show((4:Nat):Int)-1=3 by omega],by omega,rfl,nL,xo⟩
 case round =>
 clear nL xo;obtain⟨k,f,rfl,TE,rfl,hX,hb⟩:=hrel
 by_cases h0:k=0
 ·subst h0;rw[show((0:Nat):Int)-1 = -1 by omega];go_wp2_with fail
  go_ret
  exact⟨⟨f,rfl⟩,hb⟩
 obtain⟨i,hi⟩:∃ i:Nat,k=i+1:=⟨k-1,by omega⟩
 subst hi;rw[show((i+1:Nat):Int)-1=(i:Int) by omega];have rm:(i:Int)<4:=by omega
 have oF:IntKind.i64.wrap ((i:Int)-1)=(i:Int)-1:=IntWalk.i64_in _ (by omega);have HK:=Hh TE;clear h0 TE;go_wp2_with (with_reducible refine rP ?_)
 refine tz rfl _ _ _ _ _ rfl (by simp) _ _ rfl rfl fun r w1 sW=>?_
 have MC:=hX.or sW;have zB:=wT hb sW;have cx:=MC.cell i (sF _ _ (by have:=HL.out;omega));clear hX hb sW;go_wp2_with (with_reducible refine rP ?_)
 refine tz rfl _ _ _ _ _ rfl (by simp) _ _ rfl rfl fun r2 w2 pj=>?_
 have cA:=MC.or pj;have zG:=wT zB pj;clear MC zB pj cx;go_wp2_with fail
 go_roundw
 case rel=>exact⟨i,r2,rfl,by have:=HK.out;omega,rfl,cA,zG⟩
 case measure=>simp[intOf]
theorem Xh (x y:Nat) (w:World):(callFunc 198 #[.int .u64 (x:Int),.int .u64 (y:Int),.int .u64 0]).run Tryz.prog w =
  .ok (.value (.tuple #[.int .u64 (((x+18446744073709551616-y)%18446744073709551616:Nat):Int),.int .u64 ((if x<y then 1 else 0:Nat):Int)])) w:=bW x y 0 (by omega) w
theorem qR (x0 x1 x2 x3 d:Nat) (h0:x0<18446744073709551616) (hd:d<18446744073709551616) (h1:x1+1<18446744073709551616) (w:World) :
  Calls Tryz.prog 163 #[.agg (zO [x0,x1,x2,x3]),.int .u64 (d:Int)] w fun e w'=>e=.returned (.agg (zO [(x0+d)%18446744073709551616,x1+(x0+d)/18446744073709551616,x2,x3]))∧Below w.heap.size w w':=by
 obtain⟨nL,gk⟩:=jfH;rw[zr]at gk;obtain⟨xo,zB⟩:=jgy;have A:=m9 x0 d;obtain⟨s0,ZV⟩:∃ n,(x0+d)%18446744073709551616=n:=⟨_,rfl⟩
 obtain⟨c,hc⟩:∃ n,(x0+d)/18446744073709551616=n:=⟨_,rfl⟩
 have B:IntKind.u64.wrap ((x1:Int)+(c:Int))=((x1+(x0+d)/18446744073709551616:Nat):Int):=by rw[hc,← Int.natCast_add];exact wu _ (by omega)
 obtain⟨s1,vV⟩:∃ n,x1+(x0+d)/18446744073709551616=n:=⟨_,rfl⟩
 rw[ZV,vV];rw[ZV,hc]at A;rw[vV]at B;clear ZV vV hc xo;have c0:=jfI;go_enter Tryz.func163,Tryz.ntmps163
 exact jau
theorem lT (x0 x1 x2 x3 d:Nat) (h1:x1<18446744073709551616) (h2:1≤x1) (w:World) :
  Calls Tryz.prog 161 #[.agg (zO [x0,x1,x2,x3]),.int .u64 (d:Int)] w fun e w'=>e=.returned (.agg (zO [(x0+18446744073709551616-d)%18446744073709551616,x1-(if x0<d then 1 else 0),x2,x3]))∧Below w.heap.size w w':=by
 obtain⟨nL,gk⟩:=jfH;rw[zr]at gk;obtain⟨xo,zB⟩:=jgy;have A:=Xh x0 d;obtain⟨s0,ZV⟩:∃ n,(x0+18446744073709551616-d)%18446744073709551616=n:=⟨_,rfl⟩
 obtain⟨c,hc⟩:∃ n,(if x0<d then 1 else 0)=n:=⟨_,rfl⟩
 have B:IntKind.u64.wrap ((x1:Int)-(c:Int))=((x1-(if x0<d then 1 else 0):Nat):Int):=by
  have nE:c≤1:=by rw[← hc];split <;> omega
  rw[hc,show(x1:Int)-(c:Int)=((x1-c:Nat):Int) by omega]
  exact wu _ (by omega)
 obtain⟨s1,vV⟩:∃ n,x1-(if x0<d then 1 else 0)=n:=⟨_,rfl⟩
 rw[ZV,vV];rw[ZV,hc]at A;rw[vV]at B;clear ZV vV hc xo;have c0:=jfI;go_enter Tryz.func161,Tryz.ntmps161
 exact jau
theorem lU {x y:List Nat}(hx:x.length=4) (hy:y.length=4) (w:World) :
  Calls Tryz.prog 162 #[.agg (zO x),.agg (zO y)] w fun e w'=>∃ z,e=.returned (.agg (zO z))∧z.length=4∧Below w.heap.size w w':=by
 have nL:=((Blk.new w 211 (zO x)).alloc (.cells (zO y) 211)).alloc (.cells #[.int .u64 0,.int .u64 0,.int .u64 0,.int .u64 0] 211);have T6:=(Blk.new (w.alloc (.cells (zO x) 211)) 211 (zO y)).alloc (.cells #[.int .u64 0,.int .u64 0,.int .u64 0,.int .u64 0] 211);have gk:=Blk.new ((w.alloc (.cells (zO x) 211)).alloc (.cells (zO y) 211)) 211 #[.int .u64 0,.int .u64 0,.int .u64 0,.int .u64 0]
 simp only[zr]at T6 gk
 obtain⟨xo,zB⟩:=jgu;have zG:=zB.alloc zB.size (.cells #[.int .u64 0,.int .u64 0,.int .u64 0,.int .u64 0] 211);have HL:=Hh (And.intro hx hy);have HX0:=Hh hx;clear hx hy xo zB;go_enter Tryz.func162,Tryz.ntmps162
 go_wp2_with fail
 go_loopw [5,7] (fun v5 v7 wr=>∃ (k c:Nat) (xs:List Nat),v7=.int .i64 (k:Int)∧v5=.int .u64 (c:Int)∧c≤1∧k≤4∧xs.length=4∧
   Blk wr w.heap.size 211 (zO xs)∧Blk wr (w.heap.size+1) 211 (zO y)∧Blk wr (w.heap.size+1+1) 211 #[.int .u64 0,.int .u64 0,.int .u64 0,.int .u64 0]∧Below w.heap.size w wr) (fun _ v7 _=>(4-intOf v7).toNat)
 case atStart=>exact⟨0,0,x,rfl,rfl,by omega,by omega,HX0.out,nL,T6,gk,zG⟩
 case round =>
 clear nL T6 gk zG HX0;obtain⟨k,c,xs,rfl,rfl,hc,TE,Wq,hX,hY,hR,hb⟩:=hrel
 by_cases yu:(k:Int)<4
 ·have cx:=hX.drew.cell k (sF _ _ (by omega));have cy:=hY.drew.cell k (sF _ _ (by have:=HL.out;omega));obtain⟨xk,Fg⟩:∃ n,xQ xs k=n:=⟨_,rfl⟩
  obtain⟨yk,hyk⟩:∃ n,xQ y k=n:=⟨_,rfl⟩
  rw[Fg]at cx;rw[hyk]at cy;have A:=bW xk yk c hc;obtain⟨q0,oG⟩:∃ n,(xk+18446744073709551616-yk-c)%18446744073709551616=n:=⟨_,rfl⟩
  obtain⟨q1,jy⟩:∃ n,(if xk<yk+c then 1 else 0)=n:=⟨_,rfl⟩
  have HQ:Hid (q1≤1):=by rw[Hid,← jy];split <;> omega
  rw[oG,jy]at A;have Em:=Hh Wq;have sU:=Hh yu;have hXd:=hX.drew;clear Fg hyk oG jy hc Wq TE;go_upto_region 5 with fail
  refine tB 13 (fun wx=>wx.cell? ⟨w.heap.size,k,none⟩=some (.int .u64 (xk:Int))∧wx.cell? ⟨w.heap.size+1,k,none⟩=some (.int .u64 (yk:Int))) (by kernel_rfl) (⟨cx,cy⟩) (fun zy=>?_)
  refine Zk 0 rfl zy ?_
  refine Zk 1 rfl zy ?_
  refine Zk 2 rfl zy ?_
  refine Zk 3 rfl zy ?_
  refine Zk 4 rfl zy ?_
  refine Zk 5 rfl zy ?_
  refine Zk 6 rfl zy ?_
  refine Zk 7 rfl zy ?_
  refine Zo 8 rfl fun K hK=>?_
  go_simp
  refine Ko hK ?_ fun zy=>?_
  ·exact⟨cx,cy⟩
  clear hK K
  refine Zk 9 rfl zy ?_
  refine Zk 10 rfl zy ?_
  refine ZkT 11 rfl (fun _=>zy) ?_
  refine Zk 12 rfl zy ?_
  refine Zo 13 rfl fun K hK=>?_
  rw[if_pos (by rfl)]
  refine xt _ _ _ rfl w.heap.size k (.int .u64 (q0:Int)) rfl rfl _ _ hXd tm (by rw[uO,Em.out];have:=sU.out;omega) rfl fun w9 im xR=>?_
  refine Kz hK ?_
  clear hK K
  refine ZkT 14 rfl (fun h=>absurd h (by decide)) ?_
  refine WaysZ.done (by kernel_rfl) ?_
  rw[q8]at im;have Md:=hY.drew.grown xR (by intro hc;injection hc;omega);have Wa:=hR.drew.grown xR (by intro hc;injection hc;omega);have mg:=hb.drew.grown xR hb.size (by rintro q ⟨⟩;exact Nat.le_refl _);clear hX hY hR hb hXd cx cy A xR zy;go_wp2_with fail
  go_roundw
  case rel=>exact⟨k+1,q1,xs.set k q0,by go_num,rfl,HQ.out,by have:=sU.out;omega,by rw[List.length_set];exact Em.out,im,Md,Wa,mg⟩
  case measure=>have:=sU.out;simp[intOf];omega
 obtain rfl:k=4:=by omega
 rw[show((4:Nat):Int)=4 from rfl]at yu⊢;obtain⟨z0,z1,z2,z3,rfl⟩:=pC Wq;have c0:wr.cell? ⟨w.heap.size,0,none⟩=some (.int .u64 (z0:Int)):=hX.cell 0 rfl;have c1:wr.cell? ⟨w.heap.size,1,none⟩=some (.int .u64 (z1:Int)):=hX.cell 1 rfl;have c2:wr.cell? ⟨w.heap.size,2,none⟩=some (.int .u64 (z2:Int)):=hX.cell 2 rfl;have c3:wr.cell? ⟨w.heap.size,3,none⟩=some (.int .u64 (z3:Int)):=hX.cell 3 rfl;clear hc TE Wq;go_wp2_with (with_reducible refine zx ?_)
 refine zv rfl _ _ _ rfl rfl (w.heap.size+1+1) (zO [z0,z1,z2,z3]) rfl rfl _ _ hR vt rfl (vz _) fun wz hRz yS=>?_
 have yz:=jgC;clear c0 c1 c2 c3;go_wp2_with fail
 refine zF rfl rfl hRz rfl rfl vt rfl ?_
 exact⟨_,rfl,rfl,yz⟩
def cq:Lie Nat where
 k:=1
 pos:=by omega
 E:=fun _ x c=>c=[.int .u64 (x:Int)]
 len:=by rintro _ _ _ rfl;rfl
 one:=by rintro _ _ _ rfl;simp[Value.oneCell']
 mono:=fun _ h=>h
theorem YH:(Tryz.prog.info? 22).map (fun i=>(i.zero,i.size,i.bytes))=some (some (.int .u64 0),1,8):=by kernel_rfl
theorem fe {w:World}{base:Nat}{A:Option Addr}{m c:Nat}{H:Snap}{l:List Nat}(h:OwnX cq 22 w base (.slice A m c) H l) (h0:0<l.length) :
  ∃ g,A=some ⟨g,0,none⟩∧∀ j (hj:j<l.length),w.cell? ⟨g,j,none⟩=some (.int .u64 (l[j]:Int)):=by
 obtain⟨g,e,_⟩:=h.at_ 0 h0
 refine⟨g,e,fun j hj=>?_⟩
 obtain⟨g',e',d,hd,hc⟩:=h.at_ j hj;rw[e]at e'
 cases e'
 cases hd
 have h1:=hc 0 _ rfl
 simpa [cq] using h1
theorem GB (k q:Nat):(((k:Int)+2)%(q:Int) != 0)=((k+2)%q != 0):=by
 rw[Bool.eq_iff_iff,bne_iff_ne,bne_iff_ne];have h:((k:Int)+2)%(q:Int)=(((k+2)%q:Nat):Int):=by rw[Int.natCast_emod,Int.natCast_add];rfl
 rw[h]
 omega
theorem Vc (H:Snap) (w:World):Calls Tryz.prog 127 #[.int .i64 64] w fun e w'=>∃ A c,e=.returned (.slice A 64 c)∧OwnX cq 22 w' w.heap.size (.slice A 64 c) H (uZ.take 64)∧Below w.heap.size w w':=by
 have FH:=OwnX.nil cq 22 w w.heap.size H;have xo:=Below.refl w.heap.size w;go_enter Tryz.func127,Tryz.ntmps127
 go_wp2_with fail
 go_loopw [3,4] (fun v3 v4 wr=>∃ (k:Nat),v4=.int .u64 ((k:Int)+2)∧Hid (k≤310)∧OwnX cq 22 wr w.heap.size v3 H (sJ k)∧Below w.heap.size w wr) (fun _ v4 _=>400-(intOf v4).toNat)
 case atStart=>exact⟨0,rfl,Nat.zero_le _,FH,xo⟩
 case round =>
 clear FH xo;obtain⟨k,rfl,HK,hO,hb⟩:=hrel;obtain⟨A,c,rfl,Wi,ZM⟩:=hO.form;have mz:Hid (∀ q∈sJ k,2≤q∧q≤k+1):=bZ k;have Ty:Hid (¬ (sJ k).length<64→sJ k=uZ.take 64):=Vl HK.out;have HGO:Hid ((sJ k).length<64→k≤309):=O8;have Om:Hid (sJ (k+1)=gg (sJ k) (k+2)):=rfl;obtain⟨l,hl⟩:∃ l,sJ k=l:=⟨_,rfl⟩
 rw[hl]at hO Wi mz Ty HGO Om⊢;obtain⟨m,hm⟩:∃ m,l.length=m:=⟨_,rfl⟩
 have A9:=Hh hm;rw[hm]at Wi Ty HGO⊢;have HMC:=Hh (And.intro Wi ZM);have FG:=hO;rw[hm]at FG;clear hl hm Wi ZM
 by_cases yu:(m:Int)<64
 ·have hkK:IntKind.u64.wrap ((k:Int)+2+1)=(k:Int)+2+1:=by
   rw[IntKind.wrap_u64];have:=HK.out
   omega
  have Ee:Hid (k≤309):=HGO.out (by omega);have sU:=Hh yu;go_wp2_with fail
  go_loop [5,16] (fun v5 v16=>∃ j:Nat,Hid (j≤m)∧v16=.int .i64 (j:Int)∧v5=.bool ((l.take j).all (fun q=>(k+2)%q != 0))) (fun _ v16=>m-(intOf v16).toNat)
  case atStart=>exact⟨0,Nat.zero_le _,rfl,rfl⟩
  case round =>
  obtain⟨j,HJ,rfl,rfl⟩:=hrel;obtain⟨bb,sP⟩:∃ bb,(l.take j).all (fun q=>(k+2)%q != 0)=bb:=⟨_,rfl⟩
  rw[sP];have HBB:=Hh sP;clear sP
  by_cases hj:(j:Int)<(m:Int)
  ·have gI:j<l.length:=by rw[A9.out];omega
   have HNX:=Hh (cF (fun q=>(k+2)%q != 0) l j gI);obtain⟨g,rfl,hg⟩:=fe hO (by omega);have cx:=hg j gI;have HQ:=Hh (mz.out l[j] (List.getElem_mem gI));obtain⟨q,hq⟩:∃ q,l[j]=q:=⟨_,rfl⟩
   rw[hq]at cx HQ HNX;have oG:((q:Int)=0)=False:=eq_false (by have:=HQ.out;omega);have jy:(q=0)=False:=eq_false (by have:=HQ.out;omega);have fr:((q:Int)==0)=false:=by rw[beq_eq_false_iff_ne];have:=HQ.out;omega
   have HJJ:=Hh hj;have HNY:Hid ((l.take (j+1)).all (fun q=>(k+2)%q != 0)=(bb&&((k+2)%q != 0))):=by have h:=HNX.out;rw[HBB.out]at h;exact h
   clear HNX;clear hg hq gI
   cases bb with
   | false =>
    go_wp2_with fail
    go_round
    ·exact⟨j+1,by have:=HJJ.out;rw[Hid];omega,by go_num,by rw[HNY.out];rfl⟩
    have:=HJJ.out;simp[intOf];omega
   | true =>
   go_wp2_with fail
   go_round
   ·exact⟨j+1,by have:=HJJ.out;rw[Hid];omega,by go_num,by rw[HNY.out,GB,Bool.true_and]⟩
   have:=HJJ.out;simp[intOf];omega
  obtain rfl:j=m:=by have:=HJ.out;omega
  clear hj
  have cU:Hid (l.all (fun q=>(k+2)%q != 0)=bb):=by
   have h:=HBB.out;rw[List.take_of_length_le (by rw[A9.out];omega)]at h
   exact h
  clear HBB mz Ty HGO
  cases bb with
  | false =>
   go_wp2_with fail
   go_roundw
   case rel=>exact⟨k+1,by go_num,by have:=Ee.out;rw[Hid];omega,by rw[Om.out,O6 cU.out];exact FG,hb⟩
   case measure=>have:=Ee.out;simp[intOf];omega
  | true =>
  have uQ:=hO.alloc (.cells #[.int .u64 ((k:Int)+2)] 22);have zB:=hb.alloc hb.size (.cells #[.int .u64 ((k:Int)+2)] 22);have As:∀ kb,(Value.slice A j c).ownBlock=some kb→w.heap.size≤kb:=fun kb hk=>(FG.lt kb hk).1
  have ob:OwnX cq 22 (wr.alloc (.cells #[.int .u64 ((k:Int)+2)] 22)) w.heap.size (.slice A j c) H l:=FG.alloc _;go_wp2_with (at_builtin;refine zH ?_)
  refine OwnX.append rfl (.tmp 29) (.tmp 31) 113 rfl Tryz.underlying113 rfl (by omega) YH rfl ob _ 1 _ [.int .u64 ((k:Int)+2)] [k+2] rfl rfl (RowC.one rfl) (Src.new _ _ _ _ rfl _ rfl) (by have:=A9.out;have:=sU.out;simp;omega) zB.size fun v' w6 rU ws WK=>?_
  have wX:=zY zB ws As;clear hO FG uQ ob hb zB ws WK;go_wp2_with fail
  go_roundw
  case rel=>exact⟨k+1,by go_num,by have:=Ee.out;rw[Hid];omega,by rw[Om.out,SW cU.out];exact rU,wX⟩
  case measure=>have:=Ee.out;simp[intOf];omega
 have HE:Hid (l=uZ.take 64):=Ty.out (by omega);go_wp2_with fail
 go_ret
 have hm:m=64:=by
  have h1:=A9.out;rw[HE.out]at h1;rw[← h1];rfl
 subst hm
 exact⟨A,c,rfl,by rw[← HE.out];exact FG,hb⟩
end Go.Proofs.YtliomcphdnppnaaGreatDoor
namespace Go.Proofs.YtliomcphdnppnaaGreatDoor
abbrev f64:=FloatKind.f64.format
def D8 (u:Nat):Option Nat:=if u<9223372036854775808 then some u else none
def U0 (x:Nat):Option Nat:=do
 let t:=x/3+3071306043645493248
 let a ← f64.mul t t
 let r ← f64.div a x
 let b ← f64.mul r t
 let s ← f64.add 4603064841997850097 b
 let c ← f64.add s 4609048195788499471
 let d ← f64.div 13827900089180538932 s
 let e ← f64.add c d
 let g ← f64.div 4609916747145206638 e
 let h ← f64.add 4600105333671292343 g
 let u0 ← f64.mul t h
 let u ← D8 u0
 let v:=u/1073741824*1073741824+1073741824
 let i ← f64.mul v v
 let j ← f64.div x i
 let k ← f64.add v v
 let l ← f64.sub j v
 let m ← f64.add k j
 let n ← f64.div l m
 let o ← f64.mul v n
 f64.add v o
def ev (x:Nat):Option Nat :=
 match FloatKind.f64.decode x with
 | .nan _ _=>none
 | d=>some (FloatKind.f64.encode (d.integral .down))
def LI (q:Option Nat):Bool :=
 match q with
 | some f=>match ev f with
  | some g=>match floatToIntVal .f64 g .u64 with
   | some k=>decide (1≤k)&&decide (k≤20)
   | none=>false
  | none=>false
 | none=>false
theorem iB {q:Option Nat}(h:LI q=true):∃ f g k:Nat,q=some f∧ev f=some g∧floatToIntVal .f64 g .u64=some (k:Int)∧1≤k∧k≤20:=by
 unfold LI at h
 split at h
 ·rename_i f
  split at h
  ·rename_i g hg
   split at h
   ·rename_i k hk
    simp only[Bool.and_eq_true,decide_eq_true_eq]at h
    exact⟨f,g,k.toNat,rfl,hg,by rw[hk];congr 1;omega,by omega,by omega⟩
   cases h
  cases h
 cases h
def GF (p:Nat):Option Nat:=f64.sqrt (floatOfInt .f64 (p:Int))
def Fw (p:Nat):Option Nat:=U0 (floatOfInt .f64 (p:Int))
end Go.Proofs.YtliomcphdnppnaaGreatDoor
namespace Go.Proofs.YtliomcphdnppnaaGreatDoor
open Go.RowKit
theorem Ns (x r:Nat) (h:f64.sqrt x=some r) (w:World):(callFunc 192 #[.float .f64 x]).run Tryz.prog w=.ok (.value (.float .f64 r)) w:=by
 rw[run_callFunc_extern Tryz.func192 (by kernel_rfl) (by kernel_rfl) (by kernel_rfl) (e:=Extern.MathSqrt.sqrt) (by kernel_rfl)]
 have e:Extern.MathSqrt.sqrt #[.float .f64 x]=pure (.float .f64 r):=by
  show(match f64.sqrt x with | some r=>pure (Value.float .f64 r) | none=>do pure (Value.float .f64 (← choose (.nanBits .f64 x x))))=_
  rw[h]
 rw[e];rfl
theorem Ry (x r:Nat) (h:ev x=some r) (w:World):(callFunc 195 #[.float .f64 x]).run Tryz.prog w=.ok (.value (.float .f64 r)) w:=by
 rw [run_callFunc_extern Tryz.func195 (by kernel_rfl) (by kernel_rfl) (by kernel_rfl) (e := Extern.MathFloor.toIntegral "math.archFloor" .down) (by kernel_rfl)]
 have e : (Extern.MathFloor.toIntegral "math.archFloor" .down #[.float .f64 x]) = pure (.float .f64 r) := by
  show((match FloatKind.f64.decode x with
   | .nan s t =>
    if FloatKind.f64.format.quiet t=t then pure (Value.float .f64 x) else do
    let kept ← choose (.extern "math.Floor,Ceil,Trunc,RoundToEven.signallingNaN kept" 2)
    pure (Value.float .f64 (if kept==1 then x else FloatKind.f64.encode (.nan s (FloatKind.f64.format.quiet t))))
   | d=>pure (Value.float .f64 (FloatKind.f64.encode (d.integral .down)))):Sem Value)=_
  unfold ev at h
  cases hd:FloatKind.f64.decode x with
  | nan s t=>rw[hd]at h;cases h
  | infinity s=>rw[hd]at h;injection h with h;subst h;rfl
  | number s m i=>rw[hd]at h;injection h with h;subst h;rfl
 rw[e];rfl
theorem bG (x r:Nat) (h:f64.sqrt x=some r) (w:World):Calls Tryz.prog 155 #[.float .f64 x] w fun e w'=>e=.returned (.float .f64 r)∧w=w':=by
 have R:=Ns x r h;clear h;go_enter Tryz.func155,Tryz.ntmps155
 exact jay
theorem dw (x r:Nat) (h:ev x=some r) (w:World):Calls Tryz.prog 157 #[.float .f64 x] w fun e w'=>e=.returned (.float .f64 r)∧w=w':=by
 have R:=Ry x r h;clear h;go_enter Tryz.func157,Tryz.ntmps157
 exact jay
def fX (x:Nat):Bool := !(f64.order x 0==some .eq)&&(f64.order x x==some .eq) && !(f64.order x 9218868437227405311==some .gt) && !(f64.order x 0==some .lt) && !(f64.order x 4503599627370496==some .lt)&&decide (x<9223372036854775808)
theorem UM (x:Nat) (hx:x<9223372036854775808):bits .andNot .u64 (x:Int) 9223372036854775808=(x:Int):=by
 have h1:(BitVec.ofInt 64 (x:Int)).toNat=x:=by
  exact jbL
 have h2:(~~~ (BitVec.ofInt 64 (9223372036854775808:Int))).toNat=9223372036854775807:=by decide
 show IntKind.u64.wrap ((BitVec.ofInt 64 (x:Int) &&& ~~~ BitVec.ofInt 64 9223372036854775808).toNat:Int)=_
 have h3:x &&& 9223372036854775807=x:=by
  have:=Nat.and_two_pow_sub_one_eq_mod x 63;have h4:x%2 ^ 63=x:=Nat.mod_eq_of_lt (by omega);rw[h4]at this
  simpa using this
 rw[BitVec.toNat_and,h1,h2,h3]
 exact wu x (by omega)
theorem Qe (x:Nat) (hx:x<18446744073709551616):bits .and .u64 (x:Int) 18446744072635809792=((x/1073741824*1073741824:Nat):Int):=by
 have h1:(BitVec.ofInt 64 (x:Int)).toNat=x:=by
  exact jbL
 have h2:(BitVec.ofInt 64 (18446744072635809792:Int))=BitVec.ofNat 64 ((2 ^ 34-1) <<< 30):=by decide
 show IntKind.u64.wrap ((BitVec.ofInt 64 (x:Int) &&& BitVec.ofInt 64 18446744072635809792).toNat:Int)=_
 have h3:(BitVec.ofInt 64 (x:Int) &&& BitVec.ofInt 64 18446744072635809792).toNat=x/1073741824*1073741824:=by
  rw[BitVec.toNat_and,h1,h2];have e:(BitVec.ofNat 64 ((2 ^ 34-1) <<< 30)).toNat=(2 ^ 34-1) <<< 30:=by decide
  rw[e]
  have e1:x &&& ((2 ^ 34-1) <<< 30)=((x >>> 30) &&& (2 ^ 34-1)) <<< 30:=by
   apply Nat.eq_of_testBit_eq
   intro i
   simp only[Nat.testBit_and,Nat.testBit_shiftLeft,Nat.testBit_shiftRight]
   by_cases hi:30≤i
   ·simp[hi,Nat.add_sub_cancel' hi]
   simp[hi]
  rw[e1,Nat.and_two_pow_sub_one_eq_mod,Nat.shiftRight_eq_div_pow,Nat.shiftLeft_eq];have e2:x/2 ^ 30%2 ^ 34=x/2 ^ 30:=Nat.mod_eq_of_lt (by omega);rw[e2]
 rw[h3]
 exact wu _ (by omega)
theorem XR (x:Nat) (p2:(f64.order x x != some .eq)=false) (w:World):Calls Tryz.prog 208 #[.float .f64 x] w fun e w'=>e=.returned (.bool false)∧w=w':=by
 go_enter Tryz.func208,Tryz.ntmps208
 exact jay
theorem RU (x:Nat) (p6:x<9223372036854775808) (w:World):Calls Tryz.prog 216 #[.float .f64 x] w fun e w'=>e=.returned (.float .f64 x)∧w=w':=by
 have AN:=UM x p6;have R1:=yV x;have R2:=xE x;clear p6;go_enter Tryz.func216,Tryz.ntmps216
 exact jay
theorem XQ (x:Nat) (p3:(f64.order x 9218868437227405311==some .gt)=false) (p6:x<9223372036854775808) (w:World):Calls Tryz.prog 209 #[.float .f64 x,.int .i64 0] w fun e w'=>e=.returned (.bool false)∧w=w':=by
 have A:=Hh (RU x p6 w);clear p6;go_enter Tryz.func209,Tryz.ntmps209
 go_wp2_with fail
 refine A.out.mono ?_
 exact jeg
theorem RX (x f:Nat) (hp:fX x=true) (h:U0 x=some f) (w:World):Calls Tryz.prog 194 #[.float .f64 x] w fun e w'=>e=.returned (.float .f64 f)∧w=w':=by
 simp only[fX,Bool.and_eq_true,Bool.not_eq_true',decide_eq_true_eq]at hp
 obtain⟨⟨⟨⟨⟨p1,p2⟩,p3⟩,p4⟩,p5⟩,p6⟩:=hp;have p2':(f64.order x x != some .eq)=false:=by rw[bne,p2];rfl
 unfold U0 at h
 simp only[Option.bind_eq_bind,Option.bind_eq_some_iff]at h
 obtain⟨a,ha,r,hr,b,hb,s,hs,c,hc,d,hd,e,he,g,hg,k,hk,u0,Ff,u,hu,i,hi,j,hj,k2,ZQ,l,hl,m,hm,n,hn,o,ho,hf⟩:=h
 have hul:u=u0∧u<9223372036854775808:=by
  unfold D8 at hu
  split at hu
  ·injection hu with hu;subst hu;exact⟨rfl,by assumption⟩
  cases hu
 obtain⟨rfl,ul⟩:=hul;clear hu;have hu:=Ff;clear Ff;have T1:(x:Int).tdiv 3=((x/3:Nat):Int):=by rw[Int.tdiv_eq_ediv_of_nonneg (by omega)];omega
 obtain⟨x3,TN⟩:∃ n,x/3=n:=⟨_,rfl⟩
 have zAc:x3<9223372036854775808:=by omega
 rw[TN]at T1 ha hb hu;obtain⟨t,ht⟩:∃ n,x3+3071306043645493248=n:=⟨_,rfl⟩
 rw[ht]at ha hb hu
 have T2:IntKind.u64.wrap ((x3:Int)+3071306043645493248)=(t:Int):=by
  rw[show(x3:Int)+3071306043645493248=((t:Nat):Int) by omega]
  exact wu _ (by omega)
 have T3:IntKind.u64.wrap (x3:Int)=(x3:Int):=wu _ (by omega);obtain⟨u3,hu3⟩:∃ n,u/1073741824*1073741824=n:=⟨_,rfl⟩
 have zAf:u3≤u:=by rw[← hu3];exact Nat.div_mul_le_self u 1073741824
 have AL:=Qe u (by omega);rw[hu3]at AL hi ZQ hl ho hf;obtain⟨v,hv⟩:∃ n,u3+1073741824=n:=⟨_,rfl⟩
 rw[hv]at hi ZQ hl ho hf
 have T4:IntKind.u64.wrap ((u3:Int)+1073741824)=(v:Int):=by
  rw[show(u3:Int)+1073741824=((v:Nat):Int) by omega]
  exact wu _ (by omega)
 have NA:=Hh (XR x p2' w);have IN:=Hh (XQ x p3 p6 w);have R1:=yV x;have R3:=xE t;have R4:=yV u;have R5:=xE v;clear hu3 hv TN ht ul p2 zAc zAf p6;go_enter Tryz.func194,Tryz.ntmps194
 go_wp2_with fail
 refine NA.out.mono ?_
 rintro e1 w1 ⟨rfl,rfl⟩
 go_wp2_with fail
 refine IN.out.mono ?_
 rintro e1 w1 ⟨rfl,rfl⟩
 clear NA IN p2' p3;have F0:=fun w=>run_float_arith (P:=Tryz.prog) w .mul 198 .f64 t t a ha
 have F1:=fun w=>run_float_arith (P:=Tryz.prog) w .quo 198 .f64 a x r hr
 have F2:=fun w=>run_float_arith (P:=Tryz.prog) w .mul 198 .f64 r t b hb
 have F3:=fun w=>run_float_arith (P:=Tryz.prog) w .add 198 .f64 4603064841997850097 b s hs
 have F4:=fun w=>run_float_arith (P:=Tryz.prog) w .add 198 .f64 s 4609048195788499471 c hc
 have F5:=fun w=>run_float_arith (P:=Tryz.prog) w .quo 198 .f64 13827900089180538932 s d hd
 have F6:=fun w=>run_float_arith (P:=Tryz.prog) w .add 198 .f64 c d e he
 have F7:=fun w=>run_float_arith (P:=Tryz.prog) w .quo 198 .f64 4609916747145206638 e g hg
 have F8:=fun w=>run_float_arith (P:=Tryz.prog) w .add 198 .f64 4600105333671292343 g k hk
 have F9:=fun w=>run_float_arith (P:=Tryz.prog) w .mul 198 .f64 t k u hu
 have F10:=fun w=>run_float_arith (P:=Tryz.prog) w .mul 198 .f64 v v i hi
 have F11:=fun w=>run_float_arith (P:=Tryz.prog) w .quo 198 .f64 x i j hj
 have F12:=fun w=>run_float_arith (P:=Tryz.prog) w .add 198 .f64 v v k2 ZQ
 have F13:=fun w=>run_float_arith (P:=Tryz.prog) w .sub 198 .f64 j v l hl
 have F14:=fun w=>run_float_arith (P:=Tryz.prog) w .add 198 .f64 k2 j m hm
 have F15:=fun w=>run_float_arith (P:=Tryz.prog) w .quo 198 .f64 l m n hn
 have F16:=fun w=>run_float_arith (P:=Tryz.prog) w .mul 198 .f64 v n o ho
 have F17:=fun w=>run_float_arith (P:=Tryz.prog) w .add 198 .f64 v o f hf
 clear ha hr hb hs hc hd he hg hk hu hi hj ZQ hl hm hn ho hf;exact jay
theorem RV (x f:Nat) (hp:fX x=true) (h:U0 x=some f) (w:World):Calls Tryz.prog 156 #[.float .f64 x] w fun e w'=>e=.returned (.float .f64 f)∧w=w':=by
 have A:=Hh (RX x f hp h w);clear hp h;go_enter Tryz.func156,Tryz.ntmps156
 go_wp2_with fail
 refine A.out.mono ?_
 exact jeg
theorem aG {P:Program}{w:World}{o:Oper}{a:Act}{K:Act→World→Prop}{Q:Exit→Act→World→Prop}(op:BinOp) (t t2:TypeId) (x y:Operand) (ho:o.op=.binOp op t x y t2)
  (X6:op=.add∨op=.sub∨op=.mul∨op=.quo) (fx fy:Nat) (hx:a.eval x=.float .f64 fx) (hy:a.eval y=.float .f64 fy)
  (h:∀ r w',w'=w∨w'=w.drew→K (a.put o.dst (.float .f64 r)) w'):o.wp P a w K Q:=by
 obtain⟨r,w',hr,hw⟩:=ah (P:=P) w op X6 t fx fy
 unfold Oper.wp execOp
 have hg:(eqGuard op t x y (.float .f64 fx) (.float .f64 fy)).run P w=.ok () w:=by rcases X6 with rfl | rfl | rfl | rfl <;> simp[eqGuard]
 simp only[ho,hx,hy,Sem.run_bind,hg,hr,Result.andThen_ok,Sem.run_pure]
 exact h r w' hw
theorem je {P:Program}{w:World}{o:Oper}{a:Act}{K:Act→World→Prop}{Q:Exit→Act→World→Prop}(src dst:TypeId) (x:Operand) (ho:o.op=.convert src dst x)
  (hs:(P.underlying src).isSome=true) (hd:P.underlying dst=some (.int .u64)) (fx:Nat) (hx:a.eval x=.float .f64 fx)
  (h:∀ (n:Nat) w',n<18446744073709551616→w'=w∨w'=w.drew→K (a.put o.dst (.int .u64 (n:Int))) w'):o.wp P a w K Q:=by
 obtain⟨n,hn,w',hr,hw⟩:=Y9 (P:=P) w src dst fx hs hd
 unfold Oper.wp execOp
 simp only[ho,hx,Sem.run_bind,hr,Result.andThen_ok,Sem.run_pure]
 exact h n w' hn hw
end Go.Proofs.YtliomcphdnppnaaGreatDoor
