/- squeezed. SHA-256: numbers of four words: po -/
import Derived.Test.YtliomcphdnppnaaGreatDoorK15
import Derived.Laws.FloatArith
set_option linter.unusedVariables false
set_option linter.unusedSimpArgs false
set_option maxRecDepth 100000
set_option maxHeartbeats 3200000
namespace Go.Proofs.YtliomcphdnppnaaGreatDoor
open Go.RowKit
theorem jbo{P:Prop}(h:P:=by
 simp only[Sem.run_bind,Sem.run_pure,Result.andThen_ok,run_choose_drew]
 split
 ·obtain⟨n,hn,e⟩:=bnd ((0:Nat):Int)
  exact⟨n,hn,_,by rw[← e];rfl,.inl rfl⟩
 obtain⟨n,hn,e⟩:=bnd ((Question.cut (.floatToInt .f64 b .u64) (w.tape w.drawn (.floatToInt .f64 b .u64)):Nat):Int)
 exact⟨n,hn,_,by rw[← e];rfl,.inr rfl⟩):P:=h
theorem qQ {x:List Nat}(hx:x.length=4) (UJ:W64 x) (n:Nat) (hn:n≤1000) (hp:num x ^ n<18446744073709551616 ^ 4) (w:World) :
  Calls Tryz.prog 159 #[.agg (zO x),.int .i64 (n:Int)] w fun e w'=>∃ z,e=.returned (.agg (zO z))∧z.length=4∧W64 z∧num z=num x ^ n∧Below w.heap.size w w':=by
 have nL:=Blk.new w 211 (zO x);have gk:=Blk.new (w.alloc (.cells (zO x) 211)) 211 (zO [0,0,0,0]);have IX:=Blk.new ((w.alloc (.cells (zO x) 211)).alloc (.cells (zO [0,0,0,0]) 211)) 211 (zO [1,0,0,0]);replace nL:=(nL.alloc (.cells (zO [0,0,0,0]) 211)).alloc (.cells (zO [1,0,0,0]) 211);replace gk:=gk.alloc (.cells (zO [1,0,0,0]) 211)
 simp only[zr]at gk IX
 have xo:=zo w (.cells (zO x) 211);have zB:=xo.alloc xo.size (.cells (zO [0,0,0,0]) 211);have zG:=zB.alloc zB.size (.cells (zO [1,0,0,0]) 211);have HX:=Hh (And.intro hx UJ);have HP:=Hh (And.intro hp hn);clear hx UJ hp xo zB hn;go_enter Tryz.func159,Tryz.ntmps159
 go_wp2_with fail
 go_loopw [8] (fun v8 wr=>∃ (k:Nat) (zs:List Nat),v8=.int .i64 (k:Int)∧k≤n∧zs.length=4∧W64 zs∧num zs=num x ^ k∧
   Blk wr (w.heap.size+1+1) 211 (zO zs)∧Blk wr w.heap.size 211 (zO x)∧Blk wr (w.heap.size+1) 211 (zO [0,0,0,0])∧Below w.heap.size w wr) (fun v8 _=>(n-intOf v8).toNat)
 case atStart=>exact⟨0,[1,0,0,0],rfl,by omega,rfl,by simp[W64],by simp[num],IX,nL,gk,zG⟩
 case round =>
 clear IX nL gk zG;obtain⟨k,zs,rfl,ov,TO,kj,hQ,hZ,hX,hR,hb⟩:=hrel;obtain⟨x0,x1,x2,x3,fs⟩:=pC HX.out.1;obtain⟨z0,z1,z2,z3,gL⟩:=pC TO;have AG:=Hh fs;have AI:=Hh gL;have HZ:=Hh (And.intro TO (And.intro kj hQ));have FJ:=hX;have FK:=hZ;rw[fs]at FJ;rw[gL]at FK;clear fs gL TO kj hQ;have c0:wr.cell? ⟨w.heap.size+1+1,0,none⟩=some (.int .u64 (z0:Int)):=FK.cell 0 rfl;have c1:wr.cell? ⟨w.heap.size+1+1,1,none⟩=some (.int .u64 (z1:Int)):=FK.cell 1 rfl;have c2:wr.cell? ⟨w.heap.size+1+1,2,none⟩=some (.int .u64 (z2:Int)):=FK.cell 2 rfl;have c3:wr.cell? ⟨w.heap.size+1+1,3,none⟩=some (.int .u64 (z3:Int)):=FK.cell 3 rfl;have d0:wr.cell? ⟨w.heap.size,0,none⟩=some (.int .u64 (x0:Int)):=FJ.cell 0 rfl;have d1:wr.cell? ⟨w.heap.size,1,none⟩=some (.int .u64 (x1:Int)):=FJ.cell 1 rfl
 have d2:wr.cell? ⟨w.heap.size,2,none⟩=some (.int .u64 (x2:Int)):=FJ.cell 2 rfl;have d3:wr.cell? ⟨w.heap.size,3,none⟩=some (.int .u64 (x3:Int)):=FJ.cell 3 rfl;clear FJ FK
 by_cases yu:(k:Int)<(n:Int)
 ·have T:Hid (Calls Tryz.prog 197 #[.agg #[.int .u64 (z0:Int),.int .u64 (z1:Int),.int .u64 (z2:Int),.int .u64 (z3:Int)],.agg #[.int .u64 (x0:Int),.int .u64 (x1:Int),.int .u64 (x2:Int),.int .u64 (x3:Int)]] wr fun e w'=>e=.returned (.agg (zO (xG zs x [0,0,0,0])))∧Below wr.heap.size wr w'):=by
   have h:=SN HZ.out.1 HX.out.1 HZ.out.2.1 HX.out.2 wr;rw[AI.out,AG.out]at h⊢
   exact h
  have sU:=Hh yu;have lA:IntKind.i64.wrap ((k:Int)+1)=(k:Int)+1:=IntWalk.i64_in _ (by have:=HP.out.2;omega);clear ov;go_wp2_with fail
  refine T.out.mono ?_
  rintro e w2 ⟨rfl,zG⟩
  have Dn:=hZ.below zG;have cA:=hX.below zG;have JO:=hR.below zG;have sP:=hb.trans (zG.mono hb.size);clear c0 c1 c2 c3 d0 d1 d2 d3 hZ hX hR hb zG T;go_wp2_with (with_reducible refine zx ?_)
  refine zv rfl _ _ _ rfl rfl (w.heap.size+1+1) (zO (xG zs x [0,0,0,0])) rfl rfl _ _ Dn (by rw[uO,(ea HZ.out.1 HX.out.1).1];exact vt) (by rw[uO,uO,HZ.out.1,(ea HZ.out.1 HX.out.1).1]) (vz _) fun w9 hZ9 xR=>?_
  have im:=cA.grown xR (by intro hc;injection hc;omega);have Wa:=JO.grown xR (by intro hc;injection hc;omega);have mg:=sP.grown xR sP.size (by rintro q ⟨⟩;omega)
  have HN:Hid ((xG zs x [0,0,0,0]).length=4∧W64 (xG zs x [0,0,0,0])∧num (xG zs x [0,0,0,0])=num x ^ (k+1)):=by
   have h:=ea HZ.out.1 HX.out.1
   refine⟨h.1,h.2.1, ?_⟩
   have e:num zs*num x=num x ^ (k+1):=by rw[HZ.out.2.2,Nat.pow_succ]
   rw[← e]
   exact h.2.2 (by rw[e];exact Rp (by have:=sU.out;omega) HP.out.1 (by omega))
  clear cA JO sP Dn xR;go_wp2_with fail
  go_roundw
  case rel=>exact⟨k+1,_,by go_num,by have:=sU.out;omega,HN.out.1,HN.out.2.1,HN.out.2.2,hZ9,im,Wa,mg⟩
  case measure=>have:=sU.out;simp[intOf];omega
 have hE:k=n:=by omega
 have HE:=Hh hE;clear hE ov;go_wp2_with (with_reducible refine zx ?_)
 refine zv rfl _ _ _ rfl rfl (w.heap.size+1) (zO [z0,z1,z2,z3]) rfl rfl _ _ hR vt rfl (vz _) fun wz hRz yS=>?_
 have yz:=jgC;clear c0 c1 c2 c3 d0 d1 d2 d3;go_wp2_with fail
 refine zF rfl rfl hRz rfl rfl vt rfl ?_
 exact⟨zs,by rw[AI.out],HZ.out.1,HZ.out.2.1,by rw[HZ.out.2.2,HE.out],yz⟩
theorem eg {x y:List Nat}(hx:x.length=4) (hy:y.length=4) (UJ:W64 x) (hyw:W64 y) (w:World) :
  Calls Tryz.prog 160 #[.agg (zO x),.agg (zO y)] w fun e w'=>e=.returned (.bool (decide (num x<num y)))∧Below w.heap.size w w':=by
 have nL:=Blk.new w 211 (zO x);have T6:=Blk.new (w.alloc (.cells (zO x) 211)) 211 (zO y);replace nL:=nL.alloc (.cells (zO y) 211)
 simp only[zr]at T6
 obtain⟨xo,zB⟩:=jgu;have HL:=Hh (And.intro hx hy);have HW:=Hh (And.intro UJ hyw);have HD0:x.drop 4=y.drop 4:=by rw[List.drop_of_length_le (by omega),List.drop_of_length_le (by omega)]
 have HD:=Hh HD0;clear hx hy UJ hyw xo HD0;go_enter Tryz.func160,Tryz.ntmps160
 go_wp2_with fail
 go_loopw [5] (fun v5 wr=>∃ k:Nat,v5=.int .i64 ((k:Int)-1)∧k≤4∧x.drop k=y.drop k∧Blk wr w.heap.size 211 (zO x)∧Blk wr (w.heap.size+1) 211 (zO y)∧Below w.heap.size w wr) (fun v5 _=>(intOf v5+1).toNat)
 case atStart=>exact⟨4,by rw[show((4:Nat):Int)-1=3 by omega],by omega,HD.out,nL,T6,zB⟩
 case round =>
 clear nL T6 zB HD;obtain⟨k,rfl,TE,hQ,hX,hY,hb⟩:=hrel;have HQ:=Hh hQ;clear hQ
 by_cases h0:k=0
 ·subst h0
  have HE:Hid (num x=num y):=by
   have h:=HQ.out;rw[List.drop_zero,List.drop_zero]at h;rw[Hid,h]
  rw[show((0:Nat):Int)-1 = -1 by omega];go_wp2_with fail
  go_ret
  refine⟨?_,hb⟩
  have:decide (num x<num y)=false:=decide_eq_false (by have:=HE.out;omega);rw[this];rfl
 obtain⟨i,hi⟩:∃ i:Nat,k=i+1:=⟨k-1,by omega⟩
 subst hi;rw[show((i+1:Nat):Int)-1=(i:Int) by omega];have rm:(i:Int)<4:=by omega
 have cx:=hX.drew.cell i (sF _ _ (by have:=HL.out;omega));have cy:=hY.drew.cell i (sF _ _ (by have:=HL.out;omega))
 by_cases vl:xQ x i=xQ y i
 ·obtain⟨xi,rD⟩:∃ n,xQ x i=n:=⟨_,rfl⟩
  have HN:=Hh (And.intro rD (vl.symm.trans rD));rw[rD]at cx;rw[← vl,rD]at cy
  have HDr:Hid (x.drop i=y.drop i):=by
   have e1:=rf (l:=x) (i:=i) (by have:=HL.out;omega);have e2:=rf (l:=y) (i:=i) (by have:=HL.out;omega);rw[Hid,e1,e2,HN.out.1,HN.out.2,HQ.out]
  have HK:=Hh TE;have oF:IntKind.i64.wrap ((i:Int)-1)=(i:Int)-1:=IntWalk.i64_in _ (by omega);clear vl rD h0 TE;go_upto_region 4 with fail
  refine zw 7 (fun wx=>wx.cell? ⟨w.heap.size,i,none⟩=some (.int .u64 (xi:Int))∧wx.cell? ⟨w.heap.size+1,i,none⟩=some (.int .u64 (xi:Int))) (by kernel_rfl) (⟨cx,cy⟩) (fun zy=>?_)
  refine TkS 0 rfl zy ?_
  refine TkS 1 rfl zy ?_
  refine TkS 2 rfl zy ?_
  refine TkS 3 rfl zy ?_
  refine TkS 4 rfl zy ?_
  refine TkS 5 rfl zy ?_
  refine TkS 6 rfl zy ?_
  refine Wd ?_
  clear zy;have cA:=hX.drew;have hY2:=hY.drew;have zG:=hb.drew;clear cx cy hX hY hb;go_wp2_with fail
  go_roundw
  case rel=>exact⟨i,rfl,by have:=HK.out;omega,HDr.out,cA,hY2,zG⟩
  case measure=>simp[intOf]
 have HC:=Hh (Zx i x y HW.out.1 HW.out.2 (by have:=HL.out;omega) (by have:=HL.out;omega) HQ.out vl);obtain⟨xi,rD⟩:∃ n,xQ x i=n:=⟨_,rfl⟩
 obtain⟨yi,QY⟩:∃ n,xQ y i=n:=⟨_,rfl⟩
 rw[rD,QY]at vl HC;rw[rD]at cx;rw[QY]at cy;have zBs:((xi:Int) != (yi:Int))=true:=by rw[bne_iff_ne];omega
 have zBr:((xi:Int)=(yi:Int))=False:=eq_false (by omega)
 have E:Hid (decide (num x<num y)=decide (xi<yi)):=by
  rw[Hid,Bool.eq_iff_iff,decide_eq_true_eq,decide_eq_true_eq,HC.out]
 clear vl rD QY h0;go_upto_region 4 with fail
 refine zw 7 (fun wx=>wx.cell? ⟨w.heap.size,i,none⟩=some (.int .u64 (xi:Int))∧wx.cell? ⟨w.heap.size+1,i,none⟩=some (.int .u64 (yi:Int))) (by kernel_rfl) (⟨cx,cy⟩) (fun zy=>?_)
 refine TkS 0 rfl zy ?_
 refine TkS 1 rfl zy ?_
 refine TkS 2 rfl zy ?_
 refine TkS 3 rfl zy ?_
 refine TkS 4 rfl zy ?_
 refine TkS 5 rfl zy ?_
 refine TkS 6 rfl zy ?_
 refine Wd ?_
 clear zy;go_upto_region 5 with fail
 refine zw 8 (fun wx=>wx.cell? ⟨w.heap.size,i,none⟩=some (.int .u64 (xi:Int))∧wx.cell? ⟨w.heap.size+1,i,none⟩=some (.int .u64 (yi:Int))) (by kernel_rfl) (⟨cx,cy⟩) (fun zy=>?_)
 refine TkS 0 rfl zy ?_
 refine TkS 1 rfl zy ?_
 refine TkS 2 rfl zy ?_
 refine TkS 3 rfl zy ?_
 refine TkS 4 rfl zy ?_
 refine TkS 5 rfl zy ?_
 refine TkS 6 rfl zy ?_
 refine TkS 7 rfl zy ?_
 refine Wd ?_
 clear zy;go_wp2_with fail
 go_ret
 exact⟨by rw[E.out];rfl,hb.drew.drew⟩
theorem ah {P:Program}(w:World) (op:BinOp) (X6:op=.add∨op=.sub∨op=.mul∨op=.quo) (t:TypeId) (x y:Nat) :
  ∃ r w',(binOp op t (.float .f64 x) (.float .f64 y)).run P w=.ok (.float .f64 r) w'∧(w'=w∨w'=w.drew):=by
 cases h:floatBits op .f64 x y with
 | some r=>exact⟨r,w,run_float_arith w op t .f64 x y r h,.inl rfl⟩
 | none =>
 have hb:binOp op t (.float .f64 x) (.float .f64 y)=Op.floatArith op .f64 x y:=by rcases X6 with rfl | rfl | rfl | rfl <;> simp[binOp]
 have hf:(Op.floatArith op .f64 x y)=(do pure (.float .f64 (← choose (.nanBits .f64 x y)))):=by
  unfold floatBits at h
  rcases X6 with rfl | rfl | rfl | rfl <;> simp only at h <;> simp[Op.floatArith,h]
 rw[hb,hf]
 simp only[Sem.run_bind,run_choose_drew]
 split
 ·exact⟨_,_,rfl,.inl rfl⟩
 exact⟨_,_,rfl,.inr rfl⟩
theorem Y9 {P:Program}(w:World) (src dst:TypeId) (b:Nat) (hs:(P.underlying src).isSome=true) (hd:P.underlying dst=some (.int .u64)) :
  ∃ n:Nat,n<18446744073709551616∧∃ w',(convert src dst (.float .f64 b)).run P w=.ok (.int .u64 (n:Int)) w'∧(w'=w∨w'=w.drew):=by
 have bnd:∀ z:Int,∃ n:Nat,n<18446744073709551616∧IntKind.u64.wrap z=(n:Int):=fun z=>by
  rw[IntKind.wrap_u64]
  exact⟨(z%18446744073709551616).toNat,by omega,by omega⟩
 obtain⟨u,Io⟩:=Option.isSome_iff_exists.1 hs
 have hc:(convert src dst (.float .f64 b)).run P w=(Conv.floatToInt .f64 b .u64).run P w:=by
  cases u <;> simp[convert,run_underlying Io,run_underlying hd]
 rw[hc]
 unfold Conv.floatToInt
 split
 ·rename_i m he
  split
  ·rename_i hb
   have h1:(0:Int)≤m:=hb.1;have h2:m≤18446744073709551615:=hb.2
   exact⟨m.toNat,by omega,w,by rw[show((m.toNat:Nat):Int)=m by omega];rfl,.inl rfl⟩
  exact jbo
 exact jbo
theorem tz {P:Program}{w:World}{ops:Array Oper}{rest:List Oper}{o:Oper}{a:Act}{Q:Exit→Act→World→Prop}(hgd:o.guard=none) (op:BinOp) (t t2:TypeId) (x y:Operand) (ho:o.op=.binOp op t x y t2)
  (X6:op=.add∨op=.sub∨op=.mul∨op=.quo) (fx fy:Nat) (hx:a.eval x=.float .f64 fx) (hy:a.eval y=.float .f64 fy)
  (h:∀ r w',w'=w∨w'=w.drew→wpList P ops Q rest (a.put o.dst (.float .f64 r)) w'):wpList P ops Q (o::rest) a w:=by
 obtain⟨r,w',hr,hw⟩:=ah (P:=P) w op X6 t fx fy
 refine wpList_plain hgd fun K hK=>?_
 unfold Oper.wp execOp
 have hg:(eqGuard op t x y (.float .f64 fx) (.float .f64 fy)).run P w=.ok () w:=by rcases X6 with rfl | rfl | rfl | rfl <;> simp[eqGuard]
 simp only[ho,hx,hy,Sem.run_bind,hg,hr,Result.andThen_ok,Sem.run_pure]
 exact hK _ _ (h r w' hw)
theorem jO {P:Program}{w:World}{ops:Array Oper}{rest:List Oper}{o:Oper}{a:Act}{Q:Exit→Act→World→Prop}(hgd:o.guard=none) (src dst:TypeId) (x:Operand) (ho:o.op=.convert src dst x)
  (hs:(P.underlying src).isSome=true) (hd:P.underlying dst=some (.int .u64)) (fx:Nat) (hx:a.eval x=.float .f64 fx)
  (h:∀ (n:Nat) w',n<18446744073709551616→w'=w∨w'=w.drew→wpList P ops Q rest (a.put o.dst (.int .u64 (n:Int))) w'):wpList P ops Q (o::rest) a w:=by
 obtain⟨n,hn,w',hr,hw⟩:=Y9 (P:=P) w src dst fx hs hd
 refine wpList_plain hgd fun K hK=>?_
 unfold Oper.wp execOp
 simp only[ho,hx,Sem.run_bind,hr,Result.andThen_ok,Sem.run_pure]
 exact hK _ _ (h n w' hn hw)
end Go.Proofs.YtliomcphdnppnaaGreatDoor
