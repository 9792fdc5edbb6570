/- squeezed. SHA-256: numbers of four words: po -/
import Derived.Test.YtnfoilblmhbobaaGreatDoorK12
import Derived.Laws.FloatArith
set_option linter.unusedVariables false
set_option linter.unusedSimpArgs false
set_option maxRecDepth 100000
set_option maxHeartbeats 3200000
namespace Go.Proofs.YtnfoilblmhbobaaGreatDoor
open Go.RowKit
theorem vm {x:List Nat}(hx:x.length=4) (n7:W64 x) (n:Nat) (hn:n≤1000) (hp:num x ^ n<18446744073709551616 ^ 4) (w:World) :
  Calls Tryz.prog 96 #[.agg (zh x),.int .i64 (n:Int)] w fun e w'=>∃ z,e=.returned (.agg (zh z))∧z.length=4∧W64 z∧num z=num x ^ n∧Below w.heap.size w w':=by
 have wS:=Blk.new w 145 (zh x);have rN:=Blk.new (w.alloc (.cells (zh x) 145)) 145 (zh [0,0,0,0]);have aB:=Blk.new ((w.alloc (.cells (zh x) 145)).alloc (.cells (zh [0,0,0,0]) 145)) 145 (zh [1,0,0,0]);replace wS:=(wS.alloc (.cells (zh [0,0,0,0]) 145)).alloc (.cells (zh [1,0,0,0]) 145);replace rN:=rN.alloc (.cells (zh [1,0,0,0]) 145)
 simp only[zY]at rN aB
 have yY:=zb w (.cells (zh x) 145);have zd:=yY.alloc yY.size (.cells (zh [0,0,0,0]) 145);have zO:=zd.alloc zd.size (.cells (zh [1,0,0,0]) 145);have HX:=Hh (And.intro hx n7);have HP:=Hh (And.intro hp hn);clear hx n7 hp yY zd hn;go_enter Tryz.func96,Tryz.ntmps96
 go_wp2_with fail
 go_loopw [8] (fun v8 wr=>∃ (k:Nat) (zs:List Nat),v8=.int .i64 (k:Int)∧k≤n∧zs.length=4∧W64 zs∧num zs=num x ^ k∧
   Blk wr (w.heap.size+1+1) 145 (zh zs)∧Blk wr w.heap.size 145 (zh x)∧Blk wr (w.heap.size+1) 145 (zh [0,0,0,0])∧Below w.heap.size w wr) (fun v8 _=>(n-intOf v8).toNat)
 case atStart=>exact⟨0,[1,0,0,0],rfl,by omega,rfl,by simp[W64],by simp[num],aB,wS,rN,zO⟩
 case round =>
 clear aB wS rN zO;obtain⟨k,zs,rfl,fY,fR,tC,hQ,hZ,hX,hR,hb⟩:=hrel;obtain⟨x0,x1,x2,x3,Vx⟩:=uv HX.out.1;obtain⟨z0,z1,z2,z3,rD⟩:=uv fR;have YP:=Hh Vx;have WI:=Hh rD;have HZ:=Hh (And.intro fR (And.intro tC hQ));have Yc:=hX;have Ye:=hZ;rw[Vx]at Yc;rw[rD]at Ye;clear Vx rD fR tC hQ;have c0:wr.cell? ⟨w.heap.size+1+1,0,none⟩=some (.int .u64 (z0:Int)):=Ye.cell 0 rfl;have c1:wr.cell? ⟨w.heap.size+1+1,1,none⟩=some (.int .u64 (z1:Int)):=Ye.cell 1 rfl;have c2:wr.cell? ⟨w.heap.size+1+1,2,none⟩=some (.int .u64 (z2:Int)):=Ye.cell 2 rfl;have c3:wr.cell? ⟨w.heap.size+1+1,3,none⟩=some (.int .u64 (z3:Int)):=Ye.cell 3 rfl;have d0:wr.cell? ⟨w.heap.size,0,none⟩=some (.int .u64 (x0:Int)):=Yc.cell 0 rfl;have d1:wr.cell? ⟨w.heap.size,1,none⟩=some (.int .u64 (x1:Int)):=Yc.cell 1 rfl
 have d2:wr.cell? ⟨w.heap.size,2,none⟩=some (.int .u64 (x2:Int)):=Yc.cell 2 rfl;have d3:wr.cell? ⟨w.heap.size,3,none⟩=some (.int .u64 (x3:Int)):=Yc.cell 3 rfl;clear Yc Ye
 by_cases z6:(k:Int)<(n:Int)
 ·have T:Hid (Calls Tryz.prog 108 #[.agg #[.int .u64 (z0:Int),.int .u64 (z1:Int),.int .u64 (z2:Int),.int .u64 (z3:Int)],.agg #[.int .u64 (x0:Int),.int .u64 (x1:Int),.int .u64 (x2:Int),.int .u64 (x3:Int)]] wr fun e w'=>e=.returned (.agg (zh (zC zs x [0,0,0,0])))∧Below wr.heap.size wr w'):=by
   have h:=gg HZ.out.1 HX.out.1 HZ.out.2.1 HX.out.2 wr;rw[WI.out,YP.out]at h⊢
   exact h
  have wC:=Hh z6;have kX:IntKind.i64.wrap ((k:Int)+1)=(k:Int)+1:=IntWalk.i64_in _ (by have:=HP.out.2;omega);clear fY;go_wp2_with fail
  refine T.out.mono ?_
  rintro e w2 ⟨rfl,zO⟩
  have Y0:=hZ.below zO;have uJ:=hX.below zO;have fW:=hR.below zO;have t9:=hb.trans (zO.mono hb.size);clear c0 c1 c2 c3 d0 d1 d2 d3 hZ hX hR hb zO T;go_wp2_with (with_reducible refine zx ?_)
  refine zr rfl _ _ _ rfl rfl (w.heap.size+1+1) (zh (zC zs x [0,0,0,0])) rfl rfl _ _ Y0 (by rw[xq,(qE HZ.out.1 HX.out.1).1];exact yW) (by rw[xq,xq,HZ.out.1,(qE HZ.out.1 HX.out.1).1]) (ya _) fun w9 hZ9 hg9=>?_
  have nm:=uJ.grown hg9 (by intro hc;injection hc;omega);have vP:=fW.grown hg9 (by intro hc;injection hc;omega);have rB:=t9.grown hg9 t9.size (by rintro q ⟨⟩;omega)
  have HN:Hid ((zC zs x [0,0,0,0]).length=4∧W64 (zC zs x [0,0,0,0])∧num (zC zs x [0,0,0,0])=num x ^ (k+1)):=by
   have h:=qE HZ.out.1 HX.out.1
   refine⟨h.1,h.2.1, ?_⟩
   have e:num zs*num x=num x ^ (k+1):=by rw[HZ.out.2.2,Nat.pow_succ]
   rw[← e]
   exact h.2.2 (by rw[e];exact gJ (by have:=wC.out;omega) HP.out.1 (by omega))
  clear uJ fW t9 Y0 hg9;go_wp2_with fail
  go_roundw
  case rel=>exact⟨k+1,_,by go_num,by have:=wC.out;omega,HN.out.1,HN.out.2.1,HN.out.2.2,hZ9,nm,vP,rB⟩
  case measure=>have:=wC.out;simp[intOf];omega
 have hE:k=n:=by omega
 have HE:=Hh hE;clear hE fY;go_wp2_with (with_reducible refine zx ?_)
 refine zr rfl _ _ _ rfl rfl (w.heap.size+1) (zh [z0,z1,z2,z3]) rfl rfl _ _ hR yW rfl (ya _) fun wz hRz hgz=>?_
 have vQ:=hb.grown hgz hb.size (by rintro q ⟨⟩;omega);clear c0 c1 c2 c3 d0 d1 d2 d3;go_wp2_with fail
 refine wd rfl rfl hRz rfl rfl yW rfl ?_
 exact⟨zs,by rw[WI.out],HZ.out.1,HZ.out.2.1,by rw[HZ.out.2.2,HE.out],vQ⟩
theorem qJ {x y:List Nat}(hx:x.length=4) (hy:y.length=4) (n7:W64 x) (hyw:W64 y) (w:World) :
  Calls Tryz.prog 97 #[.agg (zh x),.agg (zh y)] w fun e w'=>e=.returned (.bool (decide (num x<num y)))∧Below w.heap.size w w':=by
 have wS:=Blk.new w 145 (zh x);have i5:=Blk.new (w.alloc (.cells (zh x) 145)) 145 (zh y);replace wS:=wS.alloc (.cells (zh y) 145)
 simp only[zY]at i5
 have yY:=zb w (.cells (zh x) 145);have zd:=yY.alloc yY.size (.cells (zh y) 145);have HL:=Hh (And.intro hx hy);have HW:=Hh (And.intro n7 hyw);have TH:x.drop 4=y.drop 4:=by rw[List.drop_of_length_le (by omega),List.drop_of_length_le (by omega)]
 have HD:=Hh TH;clear hx hy n7 hyw yY TH;go_enter Tryz.func97,Tryz.ntmps97
 go_wp2_with fail
 go_loopw [5] (fun v5 wr=>∃ k:Nat,v5=.int .i64 ((k:Int)-1)∧k≤4∧x.drop k=y.drop k∧Blk wr w.heap.size 145 (zh x)∧Blk wr (w.heap.size+1) 145 (zh y)∧Below w.heap.size w wr) (fun v5 _=>(intOf v5+1).toNat)
 case atStart=>exact⟨4,by rw[show((4:Nat):Int)-1=3 by omega],by omega,HD.out,wS,i5,zd⟩
 case round =>
 clear wS i5 zd HD;obtain⟨k,rfl,aq,hQ,hX,hY,hb⟩:=hrel;have HQ:=Hh hQ;clear hQ
 by_cases h0:k=0
 ·subst h0
  have HE:Hid (num x=num y):=by
   have h:=HQ.out;rw[List.drop_zero,List.drop_zero]at h;rw[Hid,h]
  rw[show((0:Nat):Int)-1 = -1 by omega];go_wp2_with fail
  go_ret
  refine⟨?_,hb⟩
  have:decide (num x<num y)=false:=decide_eq_false (by have:=HE.out;omega);rw[this];rfl
 obtain⟨i,hi⟩:∃ i:Nat,k=i+1:=⟨k-1,by omega⟩
 subst hi;rw[show((i+1:Nat):Int)-1=(i:Int) by omega];have aG:(i:Int)<4:=by omega
 have cx:=hX.drew.cell i (xB _ _ (by have:=HL.out;omega));have cy:=hY.drew.cell i (xB _ _ (by have:=HL.out;omega))
 by_cases ww:zF x i=zF y i
 ·obtain⟨xi,km⟩:∃ n,zF x i=n:=⟨_,rfl⟩
  have HN:=Hh (And.intro km (ww.symm.trans km));rw[km]at cx;rw[← ww,km]at cy
  have Rl:Hid (x.drop i=y.drop i):=by
   have e1:=wl (l:=x) (i:=i) (by have:=HL.out;omega);have e2:=wl (l:=y) (i:=i) (by have:=HL.out;omega);rw[Hid,e1,e2,HN.out.1,HN.out.2,HQ.out]
  have HK:=Hh aq;have Y6:IntKind.i64.wrap ((i:Int)-1)=(i:Int)-1:=IntWalk.i64_in _ (by omega);clear ww km h0 aq;go_upto_region 4 with fail
  refine zp 7 (fun wx=>wx.cell? ⟨w.heap.size,i,none⟩=some (.int .u64 (xi:Int))∧wx.cell? ⟨w.heap.size+1,i,none⟩=some (.int .u64 (xi:Int))) (by kernel_rfl) (⟨cx,cy⟩) (fun zy=>?_)
  refine TkS 0 rfl zy ?_
  refine TkS 1 rfl zy ?_
  refine TkS 2 rfl zy ?_
  refine TkS 3 rfl zy ?_
  refine TkS 4 rfl zy ?_
  refine TkS 5 rfl zy ?_
  refine TkS 6 rfl zy ?_
  refine Wd ?_
  clear zy;have uJ:=hX.drew;have Sa:=hY.drew;have zO:=hb.drew;clear cx cy hX hY hb;go_wp2_with fail
  go_roundw
  case rel=>exact⟨i,rfl,by have:=HK.out;omega,Rl.out,uJ,Sa,zO⟩
  case measure=>simp[intOf]
 have HC:=Hh (nO i x y HW.out.1 HW.out.2 (by have:=HL.out;omega) (by have:=HL.out;omega) HQ.out ww);obtain⟨xi,km⟩:∃ n,zF x i=n:=⟨_,rfl⟩
 obtain⟨yi,Vz⟩:∃ n,zF y i=n:=⟨_,rfl⟩
 rw[km,Vz]at ww HC;rw[km]at cx;rw[Vz]at cy;have RY:((xi:Int) != (yi:Int))=true:=by rw[bne_iff_ne];omega
 have RZ:((xi:Int)=(yi:Int))=False:=eq_false (by omega)
 have E:Hid (decide (num x<num y)=decide (xi<yi)):=by
  rw[Hid,Bool.eq_iff_iff,decide_eq_true_eq,decide_eq_true_eq,HC.out]
 clear ww km Vz h0;go_upto_region 4 with fail
 refine zp 7 (fun wx=>wx.cell? ⟨w.heap.size,i,none⟩=some (.int .u64 (xi:Int))∧wx.cell? ⟨w.heap.size+1,i,none⟩=some (.int .u64 (yi:Int))) (by kernel_rfl) (⟨cx,cy⟩) (fun zy=>?_)
 refine TkS 0 rfl zy ?_
 refine TkS 1 rfl zy ?_
 refine TkS 2 rfl zy ?_
 refine TkS 3 rfl zy ?_
 refine TkS 4 rfl zy ?_
 refine TkS 5 rfl zy ?_
 refine TkS 6 rfl zy ?_
 refine Wd ?_
 clear zy;go_upto_region 5 with fail
 refine zp 8 (fun wx=>wx.cell? ⟨w.heap.size,i,none⟩=some (.int .u64 (xi:Int))∧wx.cell? ⟨w.heap.size+1,i,none⟩=some (.int .u64 (yi:Int))) (by kernel_rfl) (⟨cx,cy⟩) (fun zy=>?_)
 refine TkS 0 rfl zy ?_
 refine TkS 1 rfl zy ?_
 refine TkS 2 rfl zy ?_
 refine TkS 3 rfl zy ?_
 refine TkS 4 rfl zy ?_
 refine TkS 5 rfl zy ?_
 refine TkS 6 rfl zy ?_
 refine TkS 7 rfl zy ?_
 refine Wd ?_
 clear zy;go_wp2_with fail
 go_ret
 exact⟨by rw[E.out];rfl,hb.drew.drew⟩
theorem o3 {P:Program}(w:World) (op:BinOp) (hop:op=.add∨op=.sub∨op=.mul∨op=.quo) (t:TypeId) (x y:Nat) :
  ∃ r w',(binOp op t (.float .f64 x) (.float .f64 y)).run P w=.ok (.float .f64 r) w'∧(w'=w∨w'=w.drew):=by
 cases h:floatBits op .f64 x y with
 | some r=>exact⟨r,w,run_float_arith w op t .f64 x y r h,.inl rfl⟩
 | none =>
 have hb:binOp op t (.float .f64 x) (.float .f64 y)=Op.floatArith op .f64 x y:=by rcases hop with rfl | rfl | rfl | rfl <;> simp[binOp]
 have hf:(Op.floatArith op .f64 x y)=(do pure (.float .f64 (← choose (.nanBits .f64 x y)))):=by
  unfold floatBits at h
  rcases hop with rfl | rfl | rfl | rfl <;> simp only at h <;> simp[Op.floatArith,h]
 rw[hb,hf]
 simp only[Sem.run_bind,run_choose_drew]
 split
 ·exact⟨_,_,rfl,.inl rfl⟩
 exact⟨_,_,rfl,.inr rfl⟩
theorem lq {P:Program}(w:World) (src dst:TypeId) (b:Nat) (hs:(P.underlying src).isSome=true) (hd:P.underlying dst=some (.int .u64)) :
  ∃ n:Nat,n<18446744073709551616∧∃ w',(convert src dst (.float .f64 b)).run P w=.ok (.int .u64 (n:Int)) w'∧(w'=w∨w'=w.drew):=by
 have bnd:∀ z:Int,∃ n:Nat,n<18446744073709551616∧IntKind.u64.wrap z=(n:Int):=fun z=>by
  rw[IntKind.wrap_u64]
  exact⟨(z%18446744073709551616).toNat,by omega,by omega⟩
 obtain⟨u,aP⟩:=Option.isSome_iff_exists.1 hs
 have hc:(convert src dst (.float .f64 b)).run P w=(Conv.floatToInt .f64 b .u64).run P w:=by
  cases u <;> simp[convert,run_underlying aP,run_underlying hd]
 rw[hc]
 unfold Conv.floatToInt
 split
 ·rename_i m he
  split
  ·rename_i hb
   have h1:(0:Int)≤m:=hb.1;have h2:m≤18446744073709551615:=hb.2
   exact⟨m.toNat,by omega,w,by rw[show((m.toNat:Nat):Int)=m by omega];rfl,.inl rfl⟩
  simp only[Sem.run_bind,Sem.run_pure,Result.andThen_ok,run_choose_drew]
  split
  ·obtain⟨n,hn,e⟩:=bnd ((0:Nat):Int)
   exact⟨n,hn,_,by rw[← e];rfl,.inl rfl⟩
  obtain⟨n,hn,e⟩:=bnd ((Question.cut (.floatToInt .f64 b .u64) (w.tape w.drawn (.floatToInt .f64 b .u64)):Nat):Int)
  exact⟨n,hn,_,by rw[← e];rfl,.inr rfl⟩
 simp only[Sem.run_bind,Sem.run_pure,Result.andThen_ok,run_choose_drew]
 split
 ·obtain⟨n,hn,e⟩:=bnd ((0:Nat):Int)
  exact⟨n,hn,_,by rw[← e];rfl,.inl rfl⟩
 obtain⟨n,hn,e⟩:=bnd ((Question.cut (.floatToInt .f64 b .u64) (w.tape w.drawn (.floatToInt .f64 b .u64)):Nat):Int)
 exact⟨n,hn,_,by rw[← e];rfl,.inr rfl⟩
theorem xl {P:Program}{w:World}{ops:Array Oper}{rest:List Oper}{o:Oper}{a:Act}{Q:Exit→Act→World→Prop}(rl:o.guard=none) (op:BinOp) (t t2:TypeId) (x y:Operand) (ho:o.op=.binOp op t x y t2)
  (hop:op=.add∨op=.sub∨op=.mul∨op=.quo) (fx fy:Nat) (hx:a.eval x=.float .f64 fx) (hy:a.eval y=.float .f64 fy)
  (h:∀ r w',w'=w∨w'=w.drew→wpList P ops Q rest (a.put o.dst (.float .f64 r)) w'):wpList P ops Q (o::rest) a w:=by
 obtain⟨r,w',hr,hw⟩:=o3 (P:=P) w op hop t fx fy
 refine wpList_plain rl fun K hK=>?_
 unfold Oper.wp execOp
 have hg:(eqGuard op t x y (.float .f64 fx) (.float .f64 fy)).run P w=.ok () w:=by rcases hop with rfl | rfl | rfl | rfl <;> simp[eqGuard]
 simp only[ho,hx,hy,Sem.run_bind,hg,hr,Result.andThen_ok,Sem.run_pure]
 exact hK _ _ (h r w' hw)
theorem s8 {P:Program}{w:World}{ops:Array Oper}{rest:List Oper}{o:Oper}{a:Act}{Q:Exit→Act→World→Prop}(rl:o.guard=none) (src dst:TypeId) (x:Operand) (ho:o.op=.convert src dst x)
  (hs:(P.underlying src).isSome=true) (hd:P.underlying dst=some (.int .u64)) (fx:Nat) (hx:a.eval x=.float .f64 fx)
  (h:∀ (n:Nat) w',n<18446744073709551616→w'=w∨w'=w.drew→wpList P ops Q rest (a.put o.dst (.int .u64 (n:Int))) w'):wpList P ops Q (o::rest) a w:=by
 obtain⟨n,hn,w',hr,hw⟩:=lq (P:=P) w src dst fx hs hd
 refine wpList_plain rl fun K hK=>?_
 unfold Oper.wp execOp
 simp only[ho,hx,Sem.run_bind,hr,Result.andThen_ok,Sem.run_pure]
 exact hK _ _ (h n w' hn hw)
end Go.Proofs.YtnfoilblmhbobaaGreatDoor
