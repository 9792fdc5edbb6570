/- squeezed. SHA-256: numbers of four words: su -/
import Derived.Test.YtkmlnjociijpgaaGreatDoorK15
import GoSem.Core.Float
import Derived.Laws.FloatArith
set_option linter.unusedVariables false
set_option linter.unusedSimpArgs false
set_option maxRecDepth 100000
set_option maxHeartbeats 6400000
namespace Go.Proofs.YtkmlnjociijpgaaGreatDoor
open Go.RowKit
theorem jap{P:Prop}(h:P:=by
 go_wp2_with (with_reducible refine zx ?_)
 refine zw rfl _ _ _ rfl rfl w.heap.size 0 (.int .u64 (s0:Int)) rfl rfl _ _ wY uN (by rw[ux];simp) rfl fun w2 eE hg2=>?_
 rw[rA]at eE;replace eE:Blk w2 w.heap.size 274 (zS [s0,x1,x2,x3]):=eE;have YX:=oR.grown hg2 (by intro hc;injection hc;omega);have zD:=zY.grown hg2 zY.size (by rintro q ⟨⟩;omega);have c1:w2.cell? ⟨w.heap.size,1,none⟩=some (.int .u64 (x1:Int)):=eE.cell 1 rfl;clear wY oR zY hg2 c0 A;go_wp2_with (with_reducible refine zx ?_)
 refine zw rfl _ _ _ rfl rfl w.heap.size 1 (.int .u64 (s1:Int)) rfl rfl _ _ eE uN (by rw[ux];simp) rfl fun w3 cS sp=>?_
 rw[rA]at cS;replace cS:Blk w3 w.heap.size 274 (zS [s0,s1,x2,x3]):=cS;have Lv:=YX.grown sp (by intro hc;injection hc;omega);have yR:=zD.grown sp zD.size (by rintro q ⟨⟩;omega);clear eE YX zD sp c1 B;have e0:w3.cell? ⟨w.heap.size,0,none⟩=some (.int .u64 (s0:Int)):=cS.cell 0 rfl;have e1:w3.cell? ⟨w.heap.size,1,none⟩=some (.int .u64 (s1:Int)):=cS.cell 1 rfl;have e2:w3.cell? ⟨w.heap.size,2,none⟩=some (.int .u64 (x2:Int)):=cS.cell 2 rfl;have e3:w3.cell? ⟨w.heap.size,3,none⟩=some (.int .u64 (x3:Int)):=cS.cell 3 rfl;go_wp2_with (with_reducible refine zx ?_)
 refine zm rfl _ _ _ rfl rfl (w.heap.size+1) (zS [s0,s1,x2,x3]) rfl rfl _ _ Lv wZ rfl (wj _) fun wz kV hgz=>?_
 have rM:=yR.grown hgz yR.size (by rintro q ⟨⟩;omega);clear e0 e1 e2 e3;go_wp2_with fail
 refine xU rfl rfl kV rfl rfl wZ rfl ?_
 exact⟨rfl,rM⟩):P:=h
theorem jez{P:Prop}(h:P:=by
 rintro e w1 ⟨rfl,rfl⟩
 exact jal):P:=h
theorem jga{P:Prop}(h:P:=by have wY:=(Blk.new w 274 (zS [x0,x1,x2,x3])).alloc (.cells #[.int .u64 0,.int .u64 0,.int .u64 0,.int .u64 0] 274);have oR:=Blk.new (w.alloc (.cells (zS [x0,x1,x2,x3]) 274)) 274 #[.int .u64 0,.int .u64 0,.int .u64 0,.int .u64 0];exact And.intro wY oR):P:=h
theorem jgb{P:Prop}(h:P:=by have c0:((w.alloc (.cells (zS [x0,x1,x2,x3]) 274)).alloc (.cells #[.int .u64 0,.int .u64 0,.int .u64 0,.int .u64 0] 274)).cell? ⟨w.heap.size,0,none⟩=some (.int .u64 (x0:Int)):=wY.cell 0 rfl;exact c0):P:=h
theorem jht{P:Prop}(h:P:=by have yB:=zX w (.cells (zS [x0,x1,x2,x3]) 274);have zY:=yB.alloc yB.size (.cells #[.int .u64 0,.int .u64 0,.int .u64 0,.int .u64 0] 274);exact And.intro yB zY):P:=h
theorem sD {P:Program}{ops:Array Oper}{Q:Exit→Act→World→Prop}{rest:List Oper}{a:Act}{w:World}{dst:Option Tmp}{op:BinOp}{x y:Operand}{t2:TypeId}{T:TypeId}{pos:String}{af:Array Edge}{g:Option (Nat×Bool)}
  (h:zZ (wpList P ops Q (⟨dst,.binOp op 213 x y t2,T,pos,af,g⟩::rest) a w)):wpList P ops Q (⟨dst,.binOp op 213 x y t2,T,pos,af,g⟩::rest) a w:=h
theorem g6 {P:Program}{ops:Array Oper}{Q:Exit→Act→World→Prop}{rest:List Oper}{a:Act}{w:World}{dst:Option Tmp}{x:Operand}{T:TypeId}{pos:String}{af:Array Edge}{g:Option (Nat×Bool)}
  (h:zZ (wpList P ops Q (⟨dst,.convert 213 74 x,T,pos,af,g⟩::rest) a w)):wpList P ops Q (⟨dst,.convert 213 74 x,T,pos,af,g⟩::rest) a w:=h
theorem Blk.or {w w':World}{g:Nat}{t:TypeId}{cs:Array Value}(h:Blk w g t cs) (hw:w'=w∨w'=w.drew):Blk w' g t cs:=by
 rcases hw with rfl | rfl
 ·exact h
 exact h.drew
theorem xH {B:Nat}{w0 w w':World}(h:Below B w0 w) (hw:w'=w∨w'=w.drew):Below B w0 w':=by
 rcases hw with rfl | rfl
 ·exact h
 exact h.drew
theorem sU {x:List Nat}(hx:x.length=4) (w:World) :
  Calls Tryz.prog 241 #[.agg (zS x)] w fun e w'=>(∃ f,e=.returned (.float .f64 f))∧Below w.heap.size w w':=by
 have wY:=Blk.new w 274 (zS x);have yB:=zX w (.cells (zS x) 274);have HL:=Hh hx;clear hx;go_enter Tryz.func241,Tryz.ntmps241
 go_wp2_with fail
 go_loopw [3,4] (fun v3 v4 wr=>∃ (k f:Nat),v4=.int .i64 ((k:Int)-1)∧k≤4∧v3=.float .f64 f∧Blk wr w.heap.size 274 (zS x)∧Below w.heap.size w wr) (fun _ v4 _=>(intOf v4+1).toNat)
 case atStart=>exact⟨4,0,by rw[show((4:Nat):Int)-1=3 by omega],by omega,rfl,wY,yB⟩
 case round =>
 clear wY yB;obtain⟨k,f,rfl,Ot,rfl,hX,hb⟩:=hrel
 by_cases h0:k=0
 ·subst h0;rw[show((0:Nat):Int)-1 = -1 by omega];go_wp2_with fail
  go_ret
  exact⟨⟨f,rfl⟩,hb⟩
 obtain⟨i,hi⟩:∃ i:Nat,k=i+1:=⟨k-1,by omega⟩
 subst hi;rw[show((i+1:Nat):Int)-1=(i:Int) by omega];have SJ:(i:Int)<4:=by omega
 have Sq:IntKind.i64.wrap ((i:Int)-1)=(i:Int)-1:=IntWalk.i64_in _ (by omega);have HK:=Hh Ot;clear h0 Ot;go_wp2_with (with_reducible refine sD ?_)
 refine uW rfl _ _ _ _ _ rfl (by simp) _ _ rfl rfl fun r w1 tv=>?_
 have Dk:=hX.or tv;have zY:=xH hb tv;have cx:=Dk.cell i (t8 _ _ (by have:=HL.out;omega));clear hX hb tv;go_wp2_with (with_reducible refine sD ?_)
 refine uW rfl _ _ _ _ _ rfl (by simp) _ _ rfl rfl fun r2 w2 qE=>?_
 have eE:=Dk.or qE;have zD:=xH zY qE;clear Dk zY qE cx;go_wp2_with fail
 go_roundw
 case rel=>exact⟨i,r2,rfl,by have:=HK.out;omega,rfl,eE,zD⟩
 case measure=>simp[intOf]
theorem ZD (x y:Nat) (w:World):(callFunc 263 #[.int .u64 (x:Int),.int .u64 (y:Int),.int .u64 0]).run Tryz.prog w =
  .ok (.value (.tuple #[.int .u64 (((x+18446744073709551616-y)%18446744073709551616:Nat):Int),.int .u64 ((if x<y then 1 else 0:Nat):Int)])) w:=dl x y 0 (by omega) w
theorem rS (x0 x1 x2 x3 d:Nat) (h0:x0<18446744073709551616) (hd:d<18446744073709551616) (h1:x1+1<18446744073709551616) (w:World) :
  Calls Tryz.prog 246 #[.agg (zS [x0,x1,x2,x3]),.int .u64 (d:Int)] w fun e w'=>e=.returned (.agg (zS [(x0+d)%18446744073709551616,x1+(x0+d)/18446744073709551616,x2,x3]))∧Below w.heap.size w w':=by
 obtain⟨wY,oR⟩:=jga;rw[za]at oR;obtain⟨yB,zY⟩:=jht;have A:=nr x0 d;obtain⟨s0,YP⟩:∃ n,(x0+d)%18446744073709551616=n:=⟨_,rfl⟩
 obtain⟨c,hc⟩:∃ n,(x0+d)/18446744073709551616=n:=⟨_,rfl⟩
 have B:IntKind.u64.wrap ((x1:Int)+(c:Int))=((x1+(x0+d)/18446744073709551616:Nat):Int):=by rw[hc,← Int.natCast_add];exact xd _ (by omega)
 obtain⟨s1,xZ⟩:∃ n,x1+(x0+d)/18446744073709551616=n:=⟨_,rfl⟩
 rw[YP,xZ];rw[YP,hc]at A;rw[xZ]at B;clear YP xZ hc yB;have c0:=jgb;go_enter Tryz.func246,Tryz.ntmps246
 exact jap
theorem nL (x0 x1 x2 x3 d:Nat) (h1:x1<18446744073709551616) (h2:1≤x1) (w:World) :
  Calls Tryz.prog 244 #[.agg (zS [x0,x1,x2,x3]),.int .u64 (d:Int)] w fun e w'=>e=.returned (.agg (zS [(x0+18446744073709551616-d)%18446744073709551616,x1-(if x0<d then 1 else 0),x2,x3]))∧Below w.heap.size w w':=by
 obtain⟨wY,oR⟩:=jga;rw[za]at oR;obtain⟨yB,zY⟩:=jht;have A:=ZD x0 d;obtain⟨s0,YP⟩:∃ n,(x0+18446744073709551616-d)%18446744073709551616=n:=⟨_,rfl⟩
 obtain⟨c,hc⟩:∃ n,(if x0<d then 1 else 0)=n:=⟨_,rfl⟩
 have B:IntKind.u64.wrap ((x1:Int)-(c:Int))=((x1-(if x0<d then 1 else 0):Nat):Int):=by
  have Mo:c≤1:=by rw[← hc];split <;> omega
  rw[hc,show(x1:Int)-(c:Int)=((x1-c:Nat):Int) by omega]
  exact xd _ (by omega)
 obtain⟨s1,xZ⟩:∃ n,x1-(if x0<d then 1 else 0)=n:=⟨_,rfl⟩
 rw[YP,xZ];rw[YP,hc]at A;rw[xZ]at B;clear YP xZ hc yB;have c0:=jgb;go_enter Tryz.func244,Tryz.ntmps244
 exact jap
theorem nM {x y:List Nat}(hx:x.length=4) (hy:y.length=4) (w:World) :
  Calls Tryz.prog 245 #[.agg (zS x),.agg (zS y)] w fun e w'=>∃ z,e=.returned (.agg (zS z))∧z.length=4∧Below w.heap.size w w':=by
 have wY:=((Blk.new w 274 (zS x)).alloc (.cells (zS y) 274)).alloc (.cells #[.int .u64 0,.int .u64 0,.int .u64 0,.int .u64 0] 274);have VL:=(Blk.new (w.alloc (.cells (zS x) 274)) 274 (zS y)).alloc (.cells #[.int .u64 0,.int .u64 0,.int .u64 0,.int .u64 0] 274);have oR:=Blk.new ((w.alloc (.cells (zS x) 274)).alloc (.cells (zS y) 274)) 274 #[.int .u64 0,.int .u64 0,.int .u64 0,.int .u64 0]
 simp only[za]at VL oR
 obtain⟨yB,zY⟩:=jhp;have zD:=zY.alloc zY.size (.cells #[.int .u64 0,.int .u64 0,.int .u64 0,.int .u64 0] 274);have HL:=Hh (And.intro hx hy);have HX0:=Hh hx;clear hx hy yB zY;go_enter Tryz.func245,Tryz.ntmps245
 go_wp2_with fail
 go_loopw [5,7] (fun v5 v7 wr=>∃ (k c:Nat) (xs:List Nat),v7=.int .i64 (k:Int)∧v5=.int .u64 (c:Int)∧c≤1∧k≤4∧xs.length=4∧
   Blk wr w.heap.size 274 (zS xs)∧Blk wr (w.heap.size+1) 274 (zS y)∧Blk wr (w.heap.size+1+1) 274 #[.int .u64 0,.int .u64 0,.int .u64 0,.int .u64 0]∧Below w.heap.size w wr) (fun _ v7 _=>(4-intOf v7).toNat)
 case atStart=>exact⟨0,0,x,rfl,rfl,by omega,by omega,HX0.out,wY,VL,oR,zD⟩
 case round =>
 clear wY VL oR zD HX0;obtain⟨k,c,xs,rfl,rfl,hc,Ot,MM,hX,hY,hR,hb⟩:=hrel
 by_cases z9:(k:Int)<4
 ·have cx:=hX.drew.cell k (t8 _ _ (by omega));have cy:=hY.drew.cell k (t8 _ _ (by have:=HL.out;omega));obtain⟨xk,PS⟩:∃ n,yD xs k=n:=⟨_,rfl⟩
  obtain⟨yk,BY⟩:∃ n,yD y k=n:=⟨_,rfl⟩
  rw[PS]at cx;rw[BY]at cy;have A:=dl xk yk c hc;obtain⟨q0,sz⟩:∃ n,(xk+18446744073709551616-yk-c)%18446744073709551616=n:=⟨_,rfl⟩
  obtain⟨q1,fR⟩:∃ n,(if xk<yk+c then 1 else 0)=n:=⟨_,rfl⟩
  have HQ:Hid (q1≤1):=by rw[Hid,← fR];split <;> omega
  rw[sz,fR]at A;have HXL:=Hh MM;have uH:=Hh z9;have Ao:=hX.drew;clear PS BY sz fR hc MM Ot;go_upto_region 5 with fail
  refine rm 13 (fun wx=>wx.cell? ⟨w.heap.size,k,none⟩=some (.int .u64 (xk:Int))∧wx.cell? ⟨w.heap.size+1,k,none⟩=some (.int .u64 (yk:Int))) (by kernel_rfl) (⟨cx,cy⟩) (fun zy=>?_)
  refine Zk 0 rfl zy ?_
  refine Zk 1 rfl zy ?_
  refine Zk 2 rfl zy ?_
  refine Zk 3 rfl zy ?_
  refine Zk 4 rfl zy ?_
  refine Zk 5 rfl zy ?_
  refine Zk 6 rfl zy ?_
  refine Zk 7 rfl zy ?_
  refine Zo 8 rfl fun K hK=>?_
  go_simp
  refine Ko hK ?_ fun zy=>?_
  ·exact⟨cx,cy⟩
  clear hK K
  refine Zk 9 rfl zy ?_
  refine Zk 10 rfl zy ?_
  refine ZkT 11 rfl (fun _=>zy) ?_
  refine Zk 12 rfl zy ?_
  refine Zo 13 rfl fun K hK=>?_
  rw[if_pos (by rfl)]
  refine zO _ _ _ rfl w.heap.size k (.int .u64 (q0:Int)) rfl rfl _ _ Ao uN (by rw[ux,HXL.out];have:=uH.out;omega) rfl fun w9 sm xt=>?_
  refine Kz hK ?_
  clear hK K
  refine ZkT 14 rfl (fun h=>absurd h (by decide)) ?_
  refine WaysZ.done (by kernel_rfl) ?_
  rw[rA]at sm;have PP:=hY.drew.grown xt (by intro hc;injection hc;omega);have Oh:=hR.drew.grown xt (by intro hc;injection hc;omega);have oV:=hb.drew.grown xt hb.size (by rintro q ⟨⟩;exact Nat.le_refl _);clear hX hY hR hb Ao cx cy A xt zy;go_wp2_with fail
  go_roundw
  case rel=>exact⟨k+1,q1,xs.set k q0,by go_num,rfl,HQ.out,by have:=uH.out;omega,by rw[List.length_set];exact HXL.out,sm,PP,Oh,oV⟩
  case measure=>have:=uH.out;simp[intOf];omega
 obtain rfl:k=4:=by omega
 rw[show((4:Nat):Int)=4 from rfl]at z9⊢;obtain⟨z0,z1,z2,z3,rfl⟩:=qJ MM;have c0:wr.cell? ⟨w.heap.size,0,none⟩=some (.int .u64 (z0:Int)):=hX.cell 0 rfl;have c1:wr.cell? ⟨w.heap.size,1,none⟩=some (.int .u64 (z1:Int)):=hX.cell 1 rfl;have c2:wr.cell? ⟨w.heap.size,2,none⟩=some (.int .u64 (z2:Int)):=hX.cell 2 rfl;have c3:wr.cell? ⟨w.heap.size,3,none⟩=some (.int .u64 (z3:Int)):=hX.cell 3 rfl;clear hc Ot MM;go_wp2_with (with_reducible refine zx ?_)
 refine zm rfl _ _ _ rfl rfl (w.heap.size+1+1) (zS [z0,z1,z2,z3]) rfl rfl _ _ hR wZ rfl (wj _) fun wz kV hgz=>?_
 have rM:=jhs;clear c0 c1 c2 c3;go_wp2_with fail
 refine xU rfl rfl kV rfl rfl wZ rfl ?_
 exact⟨_,rfl,rfl,rM⟩
def f6:Lie Nat where
 k:=1
 pos:=by omega
 E:=fun _ x c=>c=[.int .u64 (x:Int)]
 len:=by rintro _ _ _ rfl;rfl
 one:=by rintro _ _ _ rfl;simp[Value.oneCell']
 mono:=fun _ h=>h
theorem ZZ:(Tryz.prog.info? 74).map (fun i=>(i.zero,i.size,i.bytes))=some (some (.int .u64 0),1,8):=by kernel_rfl
theorem iU {w:World}{base:Nat}{A:Option Addr}{m c:Nat}{H:Snap}{l:List Nat}(h:OwnX f6 74 w base (.slice A m c) H l) (h0:0<l.length) :
  ∃ g,A=some ⟨g,0,none⟩∧∀ j (hj:j<l.length),w.cell? ⟨g,j,none⟩=some (.int .u64 (l[j]:Int)):=by
 obtain⟨g,e,_⟩:=h.at_ 0 h0
 refine⟨g,e,fun j hj=>?_⟩
 obtain⟨g',e',d,hd,hc⟩:=h.at_ j hj;rw[e]at e'
 cases e'
 cases hd
 have h1:=hc 0 _ rfl
 simpa [f6] using h1
theorem KX (k q:Nat):(((k:Int)+2)%(q:Int) != 0)=((k+2)%q != 0):=by
 rw[Bool.eq_iff_iff,bne_iff_ne,bne_iff_ne];have h:((k:Int)+2)%(q:Int)=(((k+2)%q:Nat):Int):=by rw[Int.natCast_emod,Int.natCast_add];rfl
 rw[h]
 omega
theorem XU (H:Snap) (w:World):Calls Tryz.prog 227 #[.int .i64 64] w fun e w'=>∃ A c,e=.returned (.slice A 64 c)∧OwnX f6 74 w' w.heap.size (.slice A 64 c) H (vH.take 64)∧Below w.heap.size w w':=by
 have Oe:=OwnX.nil f6 74 w w.heap.size H;have yB:=Below.refl w.heap.size w;go_enter Tryz.func227,Tryz.ntmps227
 go_wp2_with fail
 go_loopw [3,4] (fun v3 v4 wr=>∃ (k:Nat),v4=.int .u64 ((k:Int)+2)∧Hid (k≤310)∧OwnX f6 74 wr w.heap.size v3 H (tC k)∧Below w.heap.size w wr) (fun _ v4 _=>400-(intOf v4).toNat)
 case atStart=>exact⟨0,rfl,Nat.zero_le _,Oe,yB⟩
 case round =>
 clear Oe yB;obtain⟨k,rfl,HK,hO,hb⟩:=hrel;obtain⟨A,c,rfl,Ja,mv⟩:=hO.form;have Kn:Hid (∀ q∈tC k,2≤q∧q≤k+1):=dx k;have Vz:Hid (¬ (tC k).length<64→tC k=vH.take 64):=Xe HK.out;have Er:Hid ((tC k).length<64→k≤309):=Qb;have R6:Hid (tC (k+1)=ji (tC k) (k+2)):=rfl;obtain⟨l,hl⟩:∃ l,tC k=l:=⟨_,rfl⟩
 rw[hl]at hO Ja Kn Vz Er R6⊢;obtain⟨m,hm⟩:∃ m,l.length=m:=⟨_,rfl⟩
 have oO:=Hh hm;rw[hm]at Ja Vz Er⊢;have HMC:=Hh (And.intro Ja mv);have Sj:=hO;rw[hm]at Sj;clear hl hm Ja mv
 by_cases z9:(m:Int)<64
 ·have hkK:IntKind.u64.wrap ((k:Int)+2+1)=(k:Int)+2+1:=by
   rw[IntKind.wrap_u64];have:=HK.out
   omega
  have Et:Hid (k≤309):=Er.out (by omega);have uH:=Hh z9;go_wp2_with fail
  go_loop [5,16] (fun v5 v16=>∃ j:Nat,Hid (j≤m)∧v16=.int .i64 (j:Int)∧v5=.bool ((l.take j).all (fun q=>(k+2)%q != 0))) (fun _ v16=>m-(intOf v16).toNat)
  case atStart=>exact⟨0,Nat.zero_le _,rfl,rfl⟩
  case round =>
  obtain⟨j,HJ,rfl,rfl⟩:=hrel;obtain⟨bb,pf⟩:∃ bb,(l.take j).all (fun q=>(k+2)%q != 0)=bb:=⟨_,rfl⟩
  rw[pf];have Oz:=Hh pf;clear pf
  by_cases hj:(j:Int)<(m:Int)
  ·have fH:j<l.length:=by rw[oO.out];omega
   have DB:=Hh (eM (fun q=>(k+2)%q != 0) l j fH);obtain⟨g,rfl,hg⟩:=iU hO (by omega);have cx:=hg j fH;have HQ:=Hh (Kn.out l[j] (List.getElem_mem fH));obtain⟨q,hq⟩:∃ q,l[j]=q:=⟨_,rfl⟩
   rw[hq]at cx HQ DB;have sz:((q:Int)=0)=False:=eq_false (by have:=HQ.out;omega);have fR:(q=0)=False:=eq_false (by have:=HQ.out;omega);have VS:((q:Int)==0)=false:=by rw[beq_eq_false_iff_ne];have:=HQ.out;omega
   have Es:=Hh hj;have Mf:Hid ((l.take (j+1)).all (fun q=>(k+2)%q != 0)=(bb&&((k+2)%q != 0))):=by have h:=DB.out;rw[Oz.out]at h;exact h
   clear DB;clear hg hq fH
   cases bb with
   | false =>
    go_wp2_with fail
    go_round
    ·exact⟨j+1,by have:=Es.out;rw[Hid];omega,by go_num,by rw[Mf.out];rfl⟩
    have:=Es.out;simp[intOf];omega
   | true =>
   go_wp2_with fail
   go_round
   ·exact⟨j+1,by have:=Es.out;rw[Hid];omega,by go_num,by rw[Mf.out,KX,Bool.true_and]⟩
   have:=Es.out;simp[intOf];omega
  obtain rfl:j=m:=by have:=HJ.out;omega
  clear hj
  have Ug:Hid (l.all (fun q=>(k+2)%q != 0)=bb):=by
   have h:=Oz.out;rw[List.take_of_length_le (by rw[oO.out];omega)]at h
   exact h
  clear Oz Kn Vz Er
  cases bb with
  | false =>
   go_wp2_with fail
   go_roundw
   case rel=>exact⟨k+1,by go_num,by have:=Et.out;rw[Hid];omega,by rw[R6.out,QZ Ug.out];exact Sj,hb⟩
   case measure=>have:=Et.out;simp[intOf];omega
  | true =>
  have zJ:=hO.alloc (.cells #[.int .u64 ((k:Int)+2)] 74);have zY:=hb.alloc hb.size (.cells #[.int .u64 ((k:Int)+2)] 74);have Mr:∀ kb,(Value.slice A j c).ownBlock=some kb→w.heap.size≤kb:=fun kb hk=>(Sj.lt kb hk).1
  have ui:OwnX f6 74 (wr.alloc (.cells #[.int .u64 ((k:Int)+2)] 74)) w.heap.size (.slice A j c) H l:=Sj.alloc _;go_wp2_with (at_builtin;refine zh ?_)
  refine OwnX.append rfl (.tmp 29) (.tmp 31) 242 rfl Tryz.underlying242 rfl (by omega) ZZ rfl ui _ 1 _ [.int .u64 ((k:Int)+2)] [k+2] rfl rfl (RowC.one rfl) (Src.new _ _ _ _ rfl _ rfl) (by have:=oO.out;have:=uH.out;simp;omega) zY.size fun v' w6 wH vt hat6=>?_
  have wS:=zp zY vt Mr;clear hO Sj zJ ui hb zY vt hat6;go_wp2_with fail
  go_roundw
  case rel=>exact⟨k+1,by go_num,by have:=Et.out;rw[Hid];omega,by rw[R6.out,UU Ug.out];exact wH,wS⟩
  case measure=>have:=Et.out;simp[intOf];omega
 have HE:Hid (l=vH.take 64):=Vz.out (by omega);go_wp2_with fail
 go_ret
 have hm:m=64:=by
  have h1:=oO.out;rw[HE.out]at h1;rw[← h1];rfl
 subst hm
 exact⟨A,c,rfl,by rw[← HE.out];exact Sj,hb⟩
end Go.Proofs.YtkmlnjociijpgaaGreatDoor
namespace Go.Proofs.YtkmlnjociijpgaaGreatDoor
abbrev f64:=FloatKind.f64.format
def Hl (u:Nat):Option Nat:=if u<9223372036854775808 then some u else none
def WC (x:Nat):Option Nat:=do
 let t:=x/3+3071306043645493248
 let a ← f64.mul t t
 let r ← f64.div a x
 let b ← f64.mul r t
 let s ← f64.add 4603064841997850097 b
 let c ← f64.add s 4609048195788499471
 let d ← f64.div 13827900089180538932 s
 let e ← f64.add c d
 let g ← f64.div 4609916747145206638 e
 let h ← f64.add 4600105333671292343 g
 let u0 ← f64.mul t h
 let u ← Hl u0
 let v:=u/1073741824*1073741824+1073741824
 let i ← f64.mul v v
 let j ← f64.div x i
 let k ← f64.add v v
 let l ← f64.sub j v
 let m ← f64.add k j
 let n ← f64.div l m
 let o ← f64.mul v n
 f64.add v o
def gf (x:Nat):Option Nat :=
 match FloatKind.f64.decode x with
 | .nan _ _=>none
 | d=>some (FloatKind.f64.encode (d.integral .down))
def O6 (q:Option Nat):Bool :=
 match q with
 | some f=>match gf f with
  | some g=>match floatToIntVal .f64 g .u64 with
   | some k=>decide (1≤k)&&decide (k≤20)
   | none=>false
  | none=>false
 | none=>false
theorem jv {q:Option Nat}(h:O6 q=true):∃ f g k:Nat,q=some f∧gf f=some g∧floatToIntVal .f64 g .u64=some (k:Int)∧1≤k∧k≤20:=by
 unfold O6 at h
 split at h
 ·rename_i f
  split at h
  ·rename_i g hg
   split at h
   ·rename_i k hk
    simp only[Bool.and_eq_true,decide_eq_true_eq]at h
    exact⟨f,g,k.toNat,rfl,hg,by rw[hk];congr 1;omega,by omega,by omega⟩
   cases h
  cases h
 cases h
def Kd (p:Nat):Option Nat:=f64.sqrt (floatOfInt .f64 (p:Int))
def Jl (p:Nat):Option Nat:=WC (floatOfInt .f64 (p:Int))
end Go.Proofs.YtkmlnjociijpgaaGreatDoor
namespace Go.Proofs.YtkmlnjociijpgaaGreatDoor
open Go.RowKit
theorem QQ (x r:Nat) (h:f64.sqrt x=some r) (w:World):(callFunc 257 #[.float .f64 x]).run Tryz.prog w=.ok (.value (.float .f64 r)) w:=by
 rw[run_callFunc_extern Tryz.func257 (by kernel_rfl) (by kernel_rfl) (by kernel_rfl) (e:=Extern.MathSqrt.sqrt) (by kernel_rfl)]
 have e:Extern.MathSqrt.sqrt #[.float .f64 x]=pure (.float .f64 r):=by
  show(match f64.sqrt x with | some r=>pure (Value.float .f64 r) | none=>do pure (Value.float .f64 (← choose (.nanBits .f64 x x))))=_
  rw[h]
 rw[e];rfl
theorem UE (x r:Nat) (h:gf x=some r) (w:World):(callFunc 260 #[.float .f64 x]).run Tryz.prog w=.ok (.value (.float .f64 r)) w:=by
 rw [run_callFunc_extern Tryz.func260 (by kernel_rfl) (by kernel_rfl) (by kernel_rfl) (e := Extern.MathFloor.toIntegral "math.archFloor" .down) (by kernel_rfl)]
 have e : (Extern.MathFloor.toIntegral "math.archFloor" .down #[.float .f64 x]) = pure (.float .f64 r) := by
  show((match FloatKind.f64.decode x with
   | .nan s t =>
    if FloatKind.f64.format.quiet t=t then pure (Value.float .f64 x) else do
    let kept ← choose (.extern "math.Floor,Ceil,Trunc,RoundToEven.signallingNaN kept" 2)
    pure (Value.float .f64 (if kept==1 then x else FloatKind.f64.encode (.nan s (FloatKind.f64.format.quiet t))))
   | d=>pure (Value.float .f64 (FloatKind.f64.encode (d.integral .down)))):Sem Value)=_
  unfold gf at h
  cases hd:FloatKind.f64.decode x with
  | nan s t=>rw[hd]at h;cases h
  | infinity s=>rw[hd]at h;injection h with h;subst h;rfl
  | number s m i=>rw[hd]at h;injection h with h;subst h;rfl
 rw[e];rfl
theorem dR (x r:Nat) (h:f64.sqrt x=some r) (w:World):Calls Tryz.prog 238 #[.float .f64 x] w fun e w'=>e=.returned (.float .f64 r)∧w=w':=by
 have R:=QQ x r h;clear h;go_enter Tryz.func238,Tryz.ntmps238
 exact jal
theorem fk (x r:Nat) (h:gf x=some r) (w:World):Calls Tryz.prog 240 #[.float .f64 x] w fun e w'=>e=.returned (.float .f64 r)∧w=w':=by
 have R:=UE x r h;clear h;go_enter Tryz.func240,Tryz.ntmps240
 exact jal
def iQ (x:Nat):Bool := !(f64.order x 0==some .eq)&&(f64.order x x==some .eq) && !(f64.order x 9218868437227405311==some .gt) && !(f64.order x 0==some .lt) && !(f64.order x 4503599627370496==some .lt)&&decide (x<9223372036854775808)
theorem We (x:Nat) (hx:x<9223372036854775808):bits .andNot .u64 (x:Int) 9223372036854775808=(x:Int):=by
 have h1:(BitVec.ofInt 64 (x:Int)).toNat=x:=by
  exact jbM
 have h2:(~~~ (BitVec.ofInt 64 (9223372036854775808:Int))).toNat=9223372036854775807:=by decide
 show IntKind.u64.wrap ((BitVec.ofInt 64 (x:Int) &&& ~~~ BitVec.ofInt 64 9223372036854775808).toNat:Int)=_
 have h3:x &&& 9223372036854775807=x:=by
  have:=Nat.and_two_pow_sub_one_eq_mod x 63;have h4:x%2 ^ 63=x:=Nat.mod_eq_of_lt (by omega);rw[h4]at this
  simpa using this
 rw[BitVec.toNat_and,h1,h2,h3]
 exact xd x (by omega)
theorem Sz (x:Nat) (hx:x<18446744073709551616):bits .and .u64 (x:Int) 18446744072635809792=((x/1073741824*1073741824:Nat):Int):=by
 have h1:(BitVec.ofInt 64 (x:Int)).toNat=x:=by
  exact jbM
 have h2:(BitVec.ofInt 64 (18446744072635809792:Int))=BitVec.ofNat 64 ((2 ^ 34-1) <<< 30):=by decide
 show IntKind.u64.wrap ((BitVec.ofInt 64 (x:Int) &&& BitVec.ofInt 64 18446744072635809792).toNat:Int)=_
 have h3:(BitVec.ofInt 64 (x:Int) &&& BitVec.ofInt 64 18446744072635809792).toNat=x/1073741824*1073741824:=by
  rw[BitVec.toNat_and,h1,h2];have e:(BitVec.ofNat 64 ((2 ^ 34-1) <<< 30)).toNat=(2 ^ 34-1) <<< 30:=by decide
  rw[e]
  have e1:x &&& ((2 ^ 34-1) <<< 30)=((x >>> 30) &&& (2 ^ 34-1)) <<< 30:=by
   apply Nat.eq_of_testBit_eq
   intro i
   simp only[Nat.testBit_and,Nat.testBit_shiftLeft,Nat.testBit_shiftRight]
   by_cases hi:30≤i
   ·simp[hi,Nat.add_sub_cancel' hi]
   simp[hi]
  rw[e1,Nat.and_two_pow_sub_one_eq_mod,Nat.shiftRight_eq_div_pow,Nat.shiftLeft_eq];have e2:x/2 ^ 30%2 ^ 34=x/2 ^ 30:=Nat.mod_eq_of_lt (by omega);rw[e2]
 rw[h3]
 exact xd _ (by omega)
theorem Yp (x:Nat) (p2:(f64.order x x != some .eq)=false) (w:World):Calls Tryz.prog 249 #[.float .f64 x] w fun e w'=>e=.returned (.bool false)∧w=w':=by
 go_enter Tryz.func249,Tryz.ntmps249
 exact jal
theorem Tj (x:Nat) (p6:x<9223372036854775808) (w:World):Calls Tryz.prog 265 #[.float .f64 x] w fun e w'=>e=.returned (.float .f64 x)∧w=w':=by
 have AN:=We x p6;have R1:=z6 x;have R2:=xL x;clear p6;go_enter Tryz.func265,Tryz.ntmps265
 exact jal
theorem Yo (x:Nat) (p3:(f64.order x 9218868437227405311==some .gt)=false) (p6:x<9223372036854775808) (w:World):Calls Tryz.prog 248 #[.float .f64 x,.int .i64 0] w fun e w'=>e=.returned (.bool false)∧w=w':=by
 have A:=Hh (Tj x p6 w);clear p6;go_enter Tryz.func248,Tryz.ntmps248
 go_wp2_with fail
 refine A.out.mono ?_
 exact jez
theorem Tm (x f:Nat) (hp:iQ x=true) (h:WC x=some f) (w:World):Calls Tryz.prog 259 #[.float .f64 x] w fun e w'=>e=.returned (.float .f64 f)∧w=w':=by
 simp only[iQ,Bool.and_eq_true,Bool.not_eq_true',decide_eq_true_eq]at hp
 obtain⟨⟨⟨⟨⟨p1,p2⟩,p3⟩,p4⟩,p5⟩,p6⟩:=hp;have p2':(f64.order x x != some .eq)=false:=by rw[bne,p2];rfl
 unfold WC at h
 simp only[Option.bind_eq_bind,Option.bind_eq_some_iff]at h
 obtain⟨a,ha,r,hr,b,hb,s,hs,c,hc,d,hd,e,he,g,hg,k,hk,u0,Je,u,hu,i,hi,j,hj,k2,lf,l,hl,m,hm,n,hn,o,ho,hf⟩:=h
 have hul:u=u0∧u<9223372036854775808:=by
  unfold Hl at hu
  split at hu
  ·injection hu with hu;subst hu;exact⟨rfl,by assumption⟩
  cases hu
 obtain⟨rfl,ul⟩:=hul;clear hu;have hu:=Je;clear Je;have T1:(x:Int).tdiv 3=((x/3:Nat):Int):=by rw[Int.tdiv_eq_ediv_of_nonneg (by omega)];omega
 obtain⟨x3,Sa⟩:∃ n,x/3=n:=⟨_,rfl⟩
 have Cd:x3<9223372036854775808:=by omega
 rw[Sa]at T1 ha hb hu;obtain⟨t,ht⟩:∃ n,x3+3071306043645493248=n:=⟨_,rfl⟩
 rw[ht]at ha hb hu
 have T2:IntKind.u64.wrap ((x3:Int)+3071306043645493248)=(t:Int):=by
  rw[show(x3:Int)+3071306043645493248=((t:Nat):Int) by omega]
  exact xd _ (by omega)
 have T3:IntKind.u64.wrap (x3:Int)=(x3:Int):=xd _ (by omega);obtain⟨u3,Eh⟩:∃ n,u/1073741824*1073741824=n:=⟨_,rfl⟩
 have Cb:u3≤u:=by rw[← Eh];exact Nat.div_mul_le_self u 1073741824
 have AL:=Sz u (by omega);rw[Eh]at AL hi lf hl ho hf;obtain⟨v,hv⟩:∃ n,u3+1073741824=n:=⟨_,rfl⟩
 rw[hv]at hi lf hl ho hf
 have T4:IntKind.u64.wrap ((u3:Int)+1073741824)=(v:Int):=by
  rw[show(u3:Int)+1073741824=((v:Nat):Int) by omega]
  exact xd _ (by omega)
 have NA:=Hh (Yp x p2' w);have IN:=Hh (Yo x p3 p6 w);have R1:=z6 x;have R3:=xL t;have R4:=z6 u;have R5:=xL v;clear Eh hv Sa ht ul p2 Cd Cb p6;go_enter Tryz.func259,Tryz.ntmps259
 go_wp2_with fail
 refine NA.out.mono ?_
 rintro e1 w1 ⟨rfl,rfl⟩
 go_wp2_with fail
 refine IN.out.mono ?_
 rintro e1 w1 ⟨rfl,rfl⟩
 clear NA IN p2' p3;have F0:=fun w=>run_float_arith (P:=Tryz.prog) w .mul 213 .f64 t t a ha
 have F1:=fun w=>run_float_arith (P:=Tryz.prog) w .quo 213 .f64 a x r hr
 have F2:=fun w=>run_float_arith (P:=Tryz.prog) w .mul 213 .f64 r t b hb
 have F3:=fun w=>run_float_arith (P:=Tryz.prog) w .add 213 .f64 4603064841997850097 b s hs
 have F4:=fun w=>run_float_arith (P:=Tryz.prog) w .add 213 .f64 s 4609048195788499471 c hc
 have F5:=fun w=>run_float_arith (P:=Tryz.prog) w .quo 213 .f64 13827900089180538932 s d hd
 have F6:=fun w=>run_float_arith (P:=Tryz.prog) w .add 213 .f64 c d e he
 have F7:=fun w=>run_float_arith (P:=Tryz.prog) w .quo 213 .f64 4609916747145206638 e g hg
 have F8:=fun w=>run_float_arith (P:=Tryz.prog) w .add 213 .f64 4600105333671292343 g k hk
 have F9:=fun w=>run_float_arith (P:=Tryz.prog) w .mul 213 .f64 t k u hu
 have F10:=fun w=>run_float_arith (P:=Tryz.prog) w .mul 213 .f64 v v i hi
 have F11:=fun w=>run_float_arith (P:=Tryz.prog) w .quo 213 .f64 x i j hj
 have F12:=fun w=>run_float_arith (P:=Tryz.prog) w .add 213 .f64 v v k2 lf
 have F13:=fun w=>run_float_arith (P:=Tryz.prog) w .sub 213 .f64 j v l hl
 have F14:=fun w=>run_float_arith (P:=Tryz.prog) w .add 213 .f64 k2 j m hm
 have F15:=fun w=>run_float_arith (P:=Tryz.prog) w .quo 213 .f64 l m n hn
 have F16:=fun w=>run_float_arith (P:=Tryz.prog) w .mul 213 .f64 v n o ho
 have F17:=fun w=>run_float_arith (P:=Tryz.prog) w .add 213 .f64 v o f hf
 clear ha hr hb hs hc hd he hg hk hu hi hj lf hl hm hn ho hf;exact jal
theorem Tl (x f:Nat) (hp:iQ x=true) (h:WC x=some f) (w:World):Calls Tryz.prog 239 #[.float .f64 x] w fun e w'=>e=.returned (.float .f64 f)∧w=w':=by
 have A:=Hh (Tm x f hp h w);clear hp h;go_enter Tryz.func239,Tryz.ntmps239
 go_wp2_with fail
 refine A.out.mono ?_
 exact jez
theorem bx {P:Program}{w:World}{o:Oper}{a:Act}{K:Act→World→Prop}{Q:Exit→Act→World→Prop}(op:BinOp) (t t2:TypeId) (x y:Operand) (ho:o.op=.binOp op t x y t2)
  (hop:op=.add∨op=.sub∨op=.mul∨op=.quo) (fx fy:Nat) (hx:a.eval x=.float .f64 fx) (hy:a.eval y=.float .f64 fy)
  (h:∀ r w',w'=w∨w'=w.drew→K (a.put o.dst (.float .f64 r)) w'):o.wp P a w K Q:=by
 obtain⟨r,w',hr,hw⟩:=dB (P:=P) w op hop t fx fy
 unfold Oper.wp execOp
 have hg:(eqGuard op t x y (.float .f64 fx) (.float .f64 fy)).run P w=.ok () w:=by rcases hop with rfl | rfl | rfl | rfl <;> simp[eqGuard]
 simp only[ho,hx,hy,Sem.run_bind,hg,hr,Result.andThen_ok,Sem.run_pure]
 exact h r w' hw
theorem lC {P:Program}{w:World}{o:Oper}{a:Act}{K:Act→World→Prop}{Q:Exit→Act→World→Prop}(src dst:TypeId) (x:Operand) (ho:o.op=.convert src dst x)
  (hs:(P.underlying src).isSome=true) (hd:P.underlying dst=some (.int .u64)) (fx:Nat) (hx:a.eval x=.float .f64 fx)
  (h:∀ (n:Nat) w',n<18446744073709551616→w'=w∨w'=w.drew→K (a.put o.dst (.int .u64 (n:Int))) w'):o.wp P a w K Q:=by
 obtain⟨n,hn,w',hr,hw⟩:=ZU (P:=P) w src dst fx hs hd
 unfold Oper.wp execOp
 simp only[ho,hx,Sem.run_bind,hr,Result.andThen_ok,Sem.run_pure]
 exact h n w' hn hw
end Go.Proofs.YtkmlnjociijpgaaGreatDoor
