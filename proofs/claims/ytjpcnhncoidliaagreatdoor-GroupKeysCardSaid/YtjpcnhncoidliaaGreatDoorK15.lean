/- squeezed. SHA-256: numbers of four words: po -/
import Derived.Test.YtjpcnhncoidliaaGreatDoorK14
import Derived.Laws.FloatArith
import GoSem.Core.Float
set_option linter.unusedVariables false
set_option linter.unusedSimpArgs false
set_option maxRecDepth 100000
set_option maxHeartbeats 6400000
namespace Go.Proofs.YtjpcnhncoidliaaGreatDoor
open Go.RowKit
theorem qp {x:List Nat}(hx:x.length=4) (fW:W64 x) (n:Nat) (hn:n≤1000) (hp:num x ^ n<18446744073709551616 ^ 4) (w:World) :
  Calls Tryz.prog 107 #[.agg (zM x),.int .i64 (n:Int)] w fun e w'=>∃ z,e=.returned (.agg (zM z))∧z.length=4∧W64 z∧num z=num x ^ n∧Below w.heap.size w w':=by
 have rd:=Blk.new w 154 (zM x);have jX:=Blk.new (w.alloc (.cells (zM x) 154)) 154 (zM [0,0,0,0]);have Pu:=Blk.new ((w.alloc (.cells (zM x) 154)).alloc (.cells (zM [0,0,0,0]) 154)) 154 (zM [1,0,0,0]);replace rd:=(rd.alloc (.cells (zM [0,0,0,0]) 154)).alloc (.cells (zM [1,0,0,0]) 154);replace jX:=jX.alloc (.cells (zM [1,0,0,0]) 154)
 simp only[zW]at jX Pu
 have yZ:=zl w (.cells (zM x) 154);have zP:=yZ.alloc yZ.size (.cells (zM [0,0,0,0]) 154);have yz:=zP.alloc zP.size (.cells (zM [1,0,0,0]) 154);have HX:=Hh (And.intro hx fW);have HP:=Hh (And.intro hp hn);clear hx fW hp yZ zP hn;go_enter Tryz.func107,Tryz.ntmps107
 go_wp2_with fail
 go_loopw [8] (fun v8 wr=>∃ (k:Nat) (zs:List Nat),v8=.int .i64 (k:Int)∧k≤n∧zs.length=4∧W64 zs∧num zs=num x ^ k∧
   Blk wr (w.heap.size+1+1) 154 (zM zs)∧Blk wr w.heap.size 154 (zM x)∧Blk wr (w.heap.size+1) 154 (zM [0,0,0,0])∧Below w.heap.size w wr) (fun v8 _=>(n-intOf v8).toNat)
 case atStart=>exact⟨0,[1,0,0,0],rfl,by omega,rfl,by simp[W64],by simp[num],Pu,rd,jX,yz⟩
 case round =>
 clear Pu rd jX yz;obtain⟨k,zs,rfl,ej,dj,mT,hQ,hZ,hX,hR,hb⟩:=hrel;obtain⟨x0,x1,x2,x3,Sa⟩:=pZ HX.out.1;obtain⟨z0,z1,z2,z3,iu⟩:=pZ dj;have Mn:=Hh Sa;have K6:=Hh iu;have HZ:=Hh (And.intro dj (And.intro mT hQ));have Nn:=hX;have No:=hZ;rw[Sa]at Nn;rw[iu]at No;clear Sa iu dj mT hQ;have c0:wr.cell? ⟨w.heap.size+1+1,0,none⟩=some (.int .u64 (z0:Int)):=No.cell 0 rfl;have c1:wr.cell? ⟨w.heap.size+1+1,1,none⟩=some (.int .u64 (z1:Int)):=No.cell 1 rfl;have c2:wr.cell? ⟨w.heap.size+1+1,2,none⟩=some (.int .u64 (z2:Int)):=No.cell 2 rfl;have c3:wr.cell? ⟨w.heap.size+1+1,3,none⟩=some (.int .u64 (z3:Int)):=No.cell 3 rfl;have d0:wr.cell? ⟨w.heap.size,0,none⟩=some (.int .u64 (x0:Int)):=Nn.cell 0 rfl;have d1:wr.cell? ⟨w.heap.size,1,none⟩=some (.int .u64 (x1:Int)):=Nn.cell 1 rfl
 have d2:wr.cell? ⟨w.heap.size,2,none⟩=some (.int .u64 (x2:Int)):=Nn.cell 2 rfl;have d3:wr.cell? ⟨w.heap.size,3,none⟩=some (.int .u64 (x3:Int)):=Nn.cell 3 rfl;clear Nn No
 by_cases yy:(k:Int)<(n:Int)
 ·have T:Hid (Calls Tryz.prog 121 #[.agg #[.int .u64 (z0:Int),.int .u64 (z1:Int),.int .u64 (z2:Int),.int .u64 (z3:Int)],.agg #[.int .u64 (x0:Int),.int .u64 (x1:Int),.int .u64 (x2:Int),.int .u64 (x3:Int)]] wr fun e w'=>e=.returned (.agg (zM (xZ zs x [0,0,0,0])))∧Below wr.heap.size wr w'):=by
   have h:=Wn HZ.out.1 HX.out.1 HZ.out.2.1 HX.out.2 wr;rw[K6.out,Mn.out]at h⊢
   exact h
  have sv:=Hh yy;have pX:IntKind.i64.wrap ((k:Int)+1)=(k:Int)+1:=IntWalk.i64_in _ (by have:=HP.out.2;omega);clear ej;go_wp2_with fail
  refine T.out.mono ?_
  rintro e w2 ⟨rfl,yz⟩
  have N7:=hZ.below yz;have ef:=hX.below yz;have VW:=hR.below yz;have nA:=hb.trans (yz.mono hb.size);clear c0 c1 c2 c3 d0 d1 d2 d3 hZ hX hR hb yz T;go_wp2_with (with_reducible refine zx ?_)
  refine zu rfl _ _ _ rfl rfl (w.heap.size+1+1) (zM (xZ zs x [0,0,0,0])) rfl rfl _ _ N7 (by rw[uX,(gX HZ.out.1 HX.out.1).1];exact wE) (by rw[uX,uX,HZ.out.1,(gX HZ.out.1 HX.out.1).1]) (wP _) fun w9 hZ9 hg9=>?_
  have jZ:=ef.grown hg9 (by intro hc;injection hc;omega);have Ze:=VW.grown hg9 (by intro hc;injection hc;omega);have uN:=nA.grown hg9 nA.size (by rintro q ⟨⟩;omega)
  have HN:Hid ((xZ zs x [0,0,0,0]).length=4∧W64 (xZ zs x [0,0,0,0])∧num (xZ zs x [0,0,0,0])=num x ^ (k+1)):=by
   have h:=gX HZ.out.1 HX.out.1
   refine⟨h.1,h.2.1, ?_⟩
   have e:num zs*num x=num x ^ (k+1):=by rw[HZ.out.2.2,Nat.pow_succ]
   rw[← e]
   exact h.2.2 (by rw[e];exact WO (by have:=sv.out;omega) HP.out.1 (by omega))
  clear ef VW nA N7 hg9;go_wp2_with fail
  go_roundw
  case rel=>exact⟨k+1,_,by go_num,by have:=sv.out;omega,HN.out.1,HN.out.2.1,HN.out.2.2,hZ9,jZ,Ze,uN⟩
  case measure=>have:=sv.out;simp[intOf];omega
 have hE:k=n:=by omega
 have HE:=Hh hE;clear hE ej;go_wp2_with (with_reducible refine zx ?_)
 refine zu rfl _ _ _ rfl rfl (w.heap.size+1) (zM [z0,z1,z2,z3]) rfl rfl _ _ hR wE rfl (wP _) fun wz hRz z8=>?_
 have yX:=hb.grown z8 hb.size (by rintro q ⟨⟩;omega);clear c0 c1 c2 c3 d0 d1 d2 d3;go_wp2_with fail
 refine xS rfl rfl hRz rfl rfl wE rfl ?_
 exact⟨zs,by rw[K6.out],HZ.out.1,HZ.out.2.1,by rw[HZ.out.2.2,HE.out],yX⟩
theorem gk {x y:List Nat}(hx:x.length=4) (hy:y.length=4) (fW:W64 x) (hyw:W64 y) (w:World) :
  Calls Tryz.prog 108 #[.agg (zM x),.agg (zM y)] w fun e w'=>e=.returned (.bool (decide (num x<num y)))∧Below w.heap.size w w':=by
 have rd:=Blk.new w 154 (zM x);have XI:=Blk.new (w.alloc (.cells (zM x) 154)) 154 (zM y);replace rd:=rd.alloc (.cells (zM y) 154)
 simp only[zW]at XI
 have yZ:=zl w (.cells (zM x) 154);have zP:=yZ.alloc yZ.size (.cells (zM y) 154);have HL:=Hh (And.intro hx hy);have HW:=Hh (And.intro fW hyw);have ER:x.drop 4=y.drop 4:=by rw[List.drop_of_length_le (by omega),List.drop_of_length_le (by omega)]
 have HD:=Hh ER;clear hx hy fW hyw yZ ER;go_enter Tryz.func108,Tryz.ntmps108
 go_wp2_with fail
 go_loopw [5] (fun v5 wr=>∃ k:Nat,v5=.int .i64 ((k:Int)-1)∧k≤4∧x.drop k=y.drop k∧Blk wr w.heap.size 154 (zM x)∧Blk wr (w.heap.size+1) 154 (zM y)∧Below w.heap.size w wr) (fun v5 _=>(intOf v5+1).toNat)
 case atStart=>exact⟨4,by rw[show((4:Nat):Int)-1=3 by omega],by omega,HD.out,rd,XI,zP⟩
 case round =>
 clear rd XI zP HD;obtain⟨k,rfl,XK,hQ,hX,hY,hb⟩:=hrel;have HQ:=Hh hQ;clear hQ
 by_cases h0:k=0
 ·subst h0
  have HE:Hid (num x=num y):=by
   have h:=HQ.out;rw[List.drop_zero,List.drop_zero]at h;rw[Hid,h]
  rw[show((0:Nat):Int)-1 = -1 by omega];go_wp2_with fail
  go_ret
  refine⟨?_,hb⟩
  have:decide (num x<num y)=false:=decide_eq_false (by have:=HE.out;omega);rw[this];rfl
 obtain⟨i,hi⟩:∃ i:Nat,k=i+1:=⟨k-1,by omega⟩
 subst hi;rw[show((i+1:Nat):Int)-1=(i:Int) by omega];have Nu:(i:Int)<4:=by omega
 have cx:=hX.drew.cell i (sd _ _ (by have:=HL.out;omega));have cy:=hY.drew.cell i (sd _ _ (by have:=HL.out;omega))
 by_cases xq:xr x i=xr y i
 ·obtain⟨xi,mh⟩:∃ n,xr x i=n:=⟨_,rfl⟩
  have HN:=Hh (And.intro mh (xq.symm.trans mh));rw[mh]at cx;rw[← xq,mh]at cy
  have CD:Hid (x.drop i=y.drop i):=by
   have e1:=sH (l:=x) (i:=i) (by have:=HL.out;omega);have e2:=sH (l:=y) (i:=i) (by have:=HL.out;omega);rw[Hid,e1,e2,HN.out.1,HN.out.2,HQ.out]
  have HK:=Hh XK;have oM:IntKind.i64.wrap ((i:Int)-1)=(i:Int)-1:=IntWalk.i64_in _ (by omega);clear xq mh h0 XK;go_upto_region 4 with fail
  refine zn 7 (fun wx=>wx.cell? ⟨w.heap.size,i,none⟩=some (.int .u64 (xi:Int))∧wx.cell? ⟨w.heap.size+1,i,none⟩=some (.int .u64 (xi:Int))) (by kernel_rfl) (⟨cx,cy⟩) (fun zy=>?_)
  refine TkS 0 rfl zy ?_
  refine TkS 1 rfl zy ?_
  refine TkS 2 rfl zy ?_
  refine TkS 3 rfl zy ?_
  refine TkS 4 rfl zy ?_
  refine TkS 5 rfl zy ?_
  refine TkS 6 rfl zy ?_
  refine Wd ?_
  clear zy;have ef:=hX.drew;have Dh:=hY.drew;have yz:=hb.drew;clear cx cy hX hY hb;go_wp2_with fail
  go_roundw
  case rel=>exact⟨i,rfl,by have:=HK.out;omega,CD.out,ef,Dh,yz⟩
  case measure=>simp[intOf]
 have HC:=Hh (dG i x y HW.out.1 HW.out.2 (by have:=HL.out;omega) (by have:=HL.out;omega) HQ.out xq);obtain⟨xi,mh⟩:∃ n,xr x i=n:=⟨_,rfl⟩
 obtain⟨yi,Qo⟩:∃ n,xr y i=n:=⟨_,rfl⟩
 rw[mh,Qo]at xq HC;rw[mh]at cx;rw[Qo]at cy;have By:((xi:Int) != (yi:Int))=true:=by rw[bne_iff_ne];omega
 have Bz:((xi:Int)=(yi:Int))=False:=eq_false (by omega)
 have E:Hid (decide (num x<num y)=decide (xi<yi)):=by
  rw[Hid,Bool.eq_iff_iff,decide_eq_true_eq,decide_eq_true_eq,HC.out]
 clear xq mh Qo h0;go_upto_region 4 with fail
 refine zn 7 (fun wx=>wx.cell? ⟨w.heap.size,i,none⟩=some (.int .u64 (xi:Int))∧wx.cell? ⟨w.heap.size+1,i,none⟩=some (.int .u64 (yi:Int))) (by kernel_rfl) (⟨cx,cy⟩) (fun zy=>?_)
 refine TkS 0 rfl zy ?_
 refine TkS 1 rfl zy ?_
 refine TkS 2 rfl zy ?_
 refine TkS 3 rfl zy ?_
 refine TkS 4 rfl zy ?_
 refine TkS 5 rfl zy ?_
 refine TkS 6 rfl zy ?_
 refine Wd ?_
 clear zy;go_upto_region 5 with fail
 refine zn 8 (fun wx=>wx.cell? ⟨w.heap.size,i,none⟩=some (.int .u64 (xi:Int))∧wx.cell? ⟨w.heap.size+1,i,none⟩=some (.int .u64 (yi:Int))) (by kernel_rfl) (⟨cx,cy⟩) (fun zy=>?_)
 refine TkS 0 rfl zy ?_
 refine TkS 1 rfl zy ?_
 refine TkS 2 rfl zy ?_
 refine TkS 3 rfl zy ?_
 refine TkS 4 rfl zy ?_
 refine TkS 5 rfl zy ?_
 refine TkS 6 rfl zy ?_
 refine TkS 7 rfl zy ?_
 refine Wd ?_
 clear zy;go_wp2_with fail
 go_ret
 exact⟨by rw[E.out];rfl,hb.drew.drew⟩
theorem dk {P:Program}(w:World) (op:BinOp) (hop:op=.add∨op=.sub∨op=.mul∨op=.quo) (t:TypeId) (x y:Nat) :
  ∃ r w',(binOp op t (.float .f64 x) (.float .f64 y)).run P w=.ok (.float .f64 r) w'∧(w'=w∨w'=w.drew):=by
 cases h:floatBits op .f64 x y with
 | some r=>exact⟨r,w,run_float_arith w op t .f64 x y r h,.inl rfl⟩
 | none =>
 have hb:binOp op t (.float .f64 x) (.float .f64 y)=Op.floatArith op .f64 x y:=by rcases hop with rfl | rfl | rfl | rfl <;> simp[binOp]
 have hf:(Op.floatArith op .f64 x y)=(do pure (.float .f64 (← choose (.nanBits .f64 x y)))):=by
  unfold floatBits at h
  rcases hop with rfl | rfl | rfl | rfl <;> simp only at h <;> simp[Op.floatArith,h]
 rw[hb,hf]
 simp only[Sem.run_bind,run_choose_drew]
 split
 ·exact⟨_,_,rfl,.inl rfl⟩
 exact⟨_,_,rfl,.inr rfl⟩
theorem ah {P:Program}(w:World) (src dst:TypeId) (b:Nat) (hs:(P.underlying src).isSome=true) (hd:P.underlying dst=some (.int .u64)) :
  ∃ n:Nat,n<18446744073709551616∧∃ w',(convert src dst (.float .f64 b)).run P w=.ok (.int .u64 (n:Int)) w'∧(w'=w∨w'=w.drew):=by
 have bnd:∀ z:Int,∃ n:Nat,n<18446744073709551616∧IntKind.u64.wrap z=(n:Int):=fun z=>by
  rw[IntKind.wrap_u64]
  exact⟨(z%18446744073709551616).toNat,by omega,by omega⟩
 obtain⟨u,E6⟩:=Option.isSome_iff_exists.1 hs
 have hc:(convert src dst (.float .f64 b)).run P w=(Conv.floatToInt .f64 b .u64).run P w:=by
  cases u <;> simp[convert,run_underlying E6,run_underlying hd]
 rw[hc]
 unfold Conv.floatToInt
 split
 ·rename_i m he
  split
  ·rename_i hb
   have h1:(0:Int)≤m:=hb.1;have h2:m≤18446744073709551615:=hb.2
   exact⟨m.toNat,by omega,w,by rw[show((m.toNat:Nat):Int)=m by omega];rfl,.inl rfl⟩
  simp only[Sem.run_bind,Sem.run_pure,Result.andThen_ok,run_choose_drew]
  split
  ·obtain⟨n,hn,e⟩:=bnd ((0:Nat):Int)
   exact⟨n,hn,_,by rw[← e];rfl,.inl rfl⟩
  obtain⟨n,hn,e⟩:=bnd ((Question.cut (.floatToInt .f64 b .u64) (w.tape w.drawn (.floatToInt .f64 b .u64)):Nat):Int)
  exact⟨n,hn,_,by rw[← e];rfl,.inr rfl⟩
 simp only[Sem.run_bind,Sem.run_pure,Result.andThen_ok,run_choose_drew]
 split
 ·obtain⟨n,hn,e⟩:=bnd ((0:Nat):Int)
  exact⟨n,hn,_,by rw[← e];rfl,.inl rfl⟩
 obtain⟨n,hn,e⟩:=bnd ((Question.cut (.floatToInt .f64 b .u64) (w.tape w.drawn (.floatToInt .f64 b .u64)):Nat):Int)
 exact⟨n,hn,_,by rw[← e];rfl,.inr rfl⟩
theorem uD {P:Program}{w:World}{ops:Array Oper}{rest:List Oper}{o:Oper}{a:Act}{Q:Exit→Act→World→Prop}(ip:o.guard=none) (op:BinOp) (t t2:TypeId) (x y:Operand) (ho:o.op=.binOp op t x y t2)
  (hop:op=.add∨op=.sub∨op=.mul∨op=.quo) (fx fy:Nat) (hx:a.eval x=.float .f64 fx) (hy:a.eval y=.float .f64 fy)
  (h:∀ r w',w'=w∨w'=w.drew→wpList P ops Q rest (a.put o.dst (.float .f64 r)) w'):wpList P ops Q (o::rest) a w:=by
 obtain⟨r,w',hr,hw⟩:=dk (P:=P) w op hop t fx fy
 refine wpList_plain ip fun K hK=>?_
 unfold Oper.wp execOp
 have hg:(eqGuard op t x y (.float .f64 fx) (.float .f64 fy)).run P w=.ok () w:=by rcases hop with rfl | rfl | rfl | rfl <;> simp[eqGuard]
 simp only[ho,hx,hy,Sem.run_bind,hg,hr,Result.andThen_ok,Sem.run_pure]
 exact hK _ _ (h r w' hw)
theorem ki {P:Program}{w:World}{ops:Array Oper}{rest:List Oper}{o:Oper}{a:Act}{Q:Exit→Act→World→Prop}(ip:o.guard=none) (src dst:TypeId) (x:Operand) (ho:o.op=.convert src dst x)
  (hs:(P.underlying src).isSome=true) (hd:P.underlying dst=some (.int .u64)) (fx:Nat) (hx:a.eval x=.float .f64 fx)
  (h:∀ (n:Nat) w',n<18446744073709551616→w'=w∨w'=w.drew→wpList P ops Q rest (a.put o.dst (.int .u64 (n:Int))) w'):wpList P ops Q (o::rest) a w:=by
 obtain⟨n,hn,w',hr,hw⟩:=ah (P:=P) w src dst fx hs hd
 refine wpList_plain ip fun K hK=>?_
 unfold Oper.wp execOp
 simp only[ho,hx,Sem.run_bind,hr,Result.andThen_ok,Sem.run_pure]
 exact hK _ _ (h n w' hn hw)
theorem ro {P:Program}{ops:Array Oper}{Q:Exit→Act→World→Prop}{rest:List Oper}{a:Act}{w:World}{dst:Option Tmp}{op:BinOp}{x y:Operand}{t2:TypeId}{T:TypeId}{pos:String}{af:Array Edge}{g:Option (Nat×Bool)}
  (h:zU (wpList P ops Q (⟨dst,.binOp op 155 x y t2,T,pos,af,g⟩::rest) a w)):wpList P ops Q (⟨dst,.binOp op 155 x y t2,T,pos,af,g⟩::rest) a w:=h
theorem gM {P:Program}{ops:Array Oper}{Q:Exit→Act→World→Prop}{rest:List Oper}{a:Act}{w:World}{dst:Option Tmp}{x:Operand}{T:TypeId}{pos:String}{af:Array Edge}{g:Option (Nat×Bool)}
  (h:zU (wpList P ops Q (⟨dst,.convert 155 75 x,T,pos,af,g⟩::rest) a w)):wpList P ops Q (⟨dst,.convert 155 75 x,T,pos,af,g⟩::rest) a w:=h
theorem Blk.or {w w':World}{g:Nat}{t:TypeId}{cs:Array Value}(h:Blk w g t cs) (hw:w'=w∨w'=w.drew):Blk w' g t cs:=by
 rcases hw with rfl | rfl
 ·exact h
 exact h.drew
theorem xA {B:Nat}{w0 w w':World}(h:Below B w0 w) (hw:w'=w∨w'=w.drew):Below B w0 w':=by
 rcases hw with rfl | rfl
 ·exact h
 exact h.drew
theorem sF {x:List Nat}(hx:x.length=4) (w:World) :
  Calls Tryz.prog 106 #[.agg (zM x)] w fun e w'=>(∃ f,e=.returned (.float .f64 f))∧Below w.heap.size w w':=by
 have rd:=Blk.new w 154 (zM x);have yZ:=zl w (.cells (zM x) 154);have HL:=Hh hx;clear hx;go_enter Tryz.func106,Tryz.ntmps106
 go_wp2_with fail
 go_loopw [3,4] (fun v3 v4 wr=>∃ (k f:Nat),v4=.int .i64 ((k:Int)-1)∧k≤4∧v3=.float .f64 f∧Blk wr w.heap.size 154 (zM x)∧Below w.heap.size w wr) (fun _ v4 _=>(intOf v4+1).toNat)
 case atStart=>exact⟨4,0,by rw[show((4:Nat):Int)-1=3 by omega],by omega,rfl,rd,yZ⟩
 case round =>
 clear rd yZ;obtain⟨k,f,rfl,XK,rfl,hX,hb⟩:=hrel
 by_cases h0:k=0
 ·subst h0;rw[show((0:Nat):Int)-1 = -1 by omega];go_wp2_with fail
  go_ret
  exact⟨⟨f,rfl⟩,hb⟩
 obtain⟨i,hi⟩:∃ i:Nat,k=i+1:=⟨k-1,by omega⟩
 subst hi;rw[show((i+1:Nat):Int)-1=(i:Int) by omega];have Nu:(i:Int)<4:=by omega
 have oM:IntKind.i64.wrap ((i:Int)-1)=(i:Int)-1:=IntWalk.i64_in _ (by omega);have HK:=Hh XK;clear h0 XK;go_wp2_with (with_reducible refine ro ?_)
 refine uD rfl _ _ _ _ _ rfl (by simp) _ _ rfl rfl fun r w1 nY=>?_
 have Ip:=hX.or nY;have zP:=xA hb nY;have cx:=Ip.cell i (sd _ _ (by have:=HL.out;omega));clear hX hb nY;go_wp2_with (with_reducible refine ro ?_)
 refine uD rfl _ _ _ _ _ rfl (by simp) _ _ rfl rfl fun r2 w2 qK=>?_
 have ef:=Ip.or qK;have yz:=xA zP qK;clear Ip zP qK cx;go_wp2_with fail
 go_roundw
 case rel=>exact⟨i,r2,rfl,by have:=HK.out;omega,rfl,ef,yz⟩
 case measure=>simp[intOf]
theorem aS (x y:Nat) (w:World):(callFunc 122 #[.int .u64 (x:Int),.int .u64 (y:Int),.int .u64 0]).run Tryz.prog w =
  .ok (.value (.tuple #[.int .u64 (((x+18446744073709551616-y)%18446744073709551616:Nat):Int),.int .u64 ((if x<y then 1 else 0:Nat):Int)])) w:=eK x y 0 (by omega) w
theorem qq (x0 x1 x2 x3 d:Nat) (h0:x0<18446744073709551616) (hd:d<18446744073709551616) (h1:x1+1<18446744073709551616) (w:World) :
  Calls Tryz.prog 111 #[.agg (zM [x0,x1,x2,x3]),.int .u64 (d:Int)] w fun e w'=>e=.returned (.agg (zM [(x0+d)%18446744073709551616,x1+(x0+d)/18446744073709551616,x2,x3]))∧Below w.heap.size w w':=by
 have rd:=(Blk.new w 154 (zM [x0,x1,x2,x3])).alloc (.cells #[.int .u64 0,.int .u64 0,.int .u64 0,.int .u64 0] 154);have jX:=Blk.new (w.alloc (.cells (zM [x0,x1,x2,x3]) 154)) 154 #[.int .u64 0,.int .u64 0,.int .u64 0,.int .u64 0];rw[zW]at jX;have yZ:=zl w (.cells (zM [x0,x1,x2,x3]) 154);have zP:=yZ.alloc yZ.size (.cells #[.int .u64 0,.int .u64 0,.int .u64 0,.int .u64 0] 154);have A:=ng x0 d;obtain⟨s0,SY⟩:∃ n,(x0+d)%18446744073709551616=n:=⟨_,rfl⟩
 obtain⟨c,hc⟩:∃ n,(x0+d)/18446744073709551616=n:=⟨_,rfl⟩
 have B:IntKind.u64.wrap ((x1:Int)+(c:Int))=((x1+(x0+d)/18446744073709551616:Nat):Int):=by rw[hc,← Int.natCast_add];exact xT _ (by omega)
 obtain⟨s1,ug⟩:∃ n,x1+(x0+d)/18446744073709551616=n:=⟨_,rfl⟩
 rw[SY,ug];rw[SY,hc]at A;rw[ug]at B;clear SY ug hc yZ;have c0:((w.alloc (.cells (zM [x0,x1,x2,x3]) 154)).alloc (.cells #[.int .u64 0,.int .u64 0,.int .u64 0,.int .u64 0] 154)).cell? ⟨w.heap.size,0,none⟩=some (.int .u64 (x0:Int)):=rd.cell 0 rfl;go_enter Tryz.func111,Tryz.ntmps111
 go_wp2_with (with_reducible refine zx ?_)
 refine zr rfl _ _ _ rfl rfl w.heap.size 0 (.int .u64 (s0:Int)) rfl rfl _ _ rd tr (by rw[uX];simp) rfl fun w2 ef hg2=>?_
 rw[qT]at ef;replace ef:Blk w2 w.heap.size 154 (zM [s0,x1,x2,x3]):=ef;have VW:=jX.grown hg2 (by intro hc;injection hc;omega);have yz:=zP.grown hg2 zP.size (by rintro q ⟨⟩;omega);have c1:w2.cell? ⟨w.heap.size,1,none⟩=some (.int .u64 (x1:Int)):=ef.cell 1 rfl;clear rd jX zP hg2 c0 A;go_wp2_with (with_reducible refine zx ?_)
 refine zr rfl _ _ _ rfl rfl w.heap.size 1 (.int .u64 (s1:Int)) rfl rfl _ _ ef tr (by rw[uX];simp) rfl fun w3 ZU hg3=>?_
 rw[qT]at ZU;replace ZU:Blk w3 w.heap.size 154 (zM [s0,s1,x2,x3]):=ZU;have Nl:=VW.grown hg3 (by intro hc;injection hc;omega);have vg:=yz.grown hg3 yz.size (by rintro q ⟨⟩;omega);clear ef VW yz hg3 c1 B;have e0:w3.cell? ⟨w.heap.size,0,none⟩=some (.int .u64 (s0:Int)):=ZU.cell 0 rfl;have e1:w3.cell? ⟨w.heap.size,1,none⟩=some (.int .u64 (s1:Int)):=ZU.cell 1 rfl;have e2:w3.cell? ⟨w.heap.size,2,none⟩=some (.int .u64 (x2:Int)):=ZU.cell 2 rfl;have e3:w3.cell? ⟨w.heap.size,3,none⟩=some (.int .u64 (x3:Int)):=ZU.cell 3 rfl;go_wp2_with (with_reducible refine zx ?_)
 refine zu rfl _ _ _ rfl rfl (w.heap.size+1) (zM [s0,s1,x2,x3]) rfl rfl _ _ Nl wE rfl (wP _) fun wz hRz z8=>?_
 have yX:=vg.grown z8 vg.size (by rintro q ⟨⟩;omega);clear e0 e1 e2 e3;go_wp2_with fail
 refine xS rfl rfl hRz rfl rfl wE rfl ?_
 exact⟨rfl,yX⟩
theorem nP (x0 x1 x2 x3 d:Nat) (h1:x1<18446744073709551616) (h2:1≤x1) (w:World) :
  Calls Tryz.prog 109 #[.agg (zM [x0,x1,x2,x3]),.int .u64 (d:Int)] w fun e w'=>e=.returned (.agg (zM [(x0+18446744073709551616-d)%18446744073709551616,x1-(if x0<d then 1 else 0),x2,x3]))∧Below w.heap.size w w':=by
 have rd:=(Blk.new w 154 (zM [x0,x1,x2,x3])).alloc (.cells #[.int .u64 0,.int .u64 0,.int .u64 0,.int .u64 0] 154);have jX:=Blk.new (w.alloc (.cells (zM [x0,x1,x2,x3]) 154)) 154 #[.int .u64 0,.int .u64 0,.int .u64 0,.int .u64 0];rw[zW]at jX;have yZ:=zl w (.cells (zM [x0,x1,x2,x3]) 154);have zP:=yZ.alloc yZ.size (.cells #[.int .u64 0,.int .u64 0,.int .u64 0,.int .u64 0] 154);have A:=aS x0 d;obtain⟨s0,SY⟩:∃ n,(x0+18446744073709551616-d)%18446744073709551616=n:=⟨_,rfl⟩
 obtain⟨c,hc⟩:∃ n,(if x0<d then 1 else 0)=n:=⟨_,rfl⟩
 have B:IntKind.u64.wrap ((x1:Int)-(c:Int))=((x1-(if x0<d then 1 else 0):Nat):Int):=by
  have mZ:c≤1:=by rw[← hc];split <;> omega
  rw[hc,show(x1:Int)-(c:Int)=((x1-c:Nat):Int) by omega]
  exact xT _ (by omega)
 obtain⟨s1,ug⟩:∃ n,x1-(if x0<d then 1 else 0)=n:=⟨_,rfl⟩
 rw[SY,ug];rw[SY,hc]at A;rw[ug]at B;clear SY ug hc yZ;have c0:((w.alloc (.cells (zM [x0,x1,x2,x3]) 154)).alloc (.cells #[.int .u64 0,.int .u64 0,.int .u64 0,.int .u64 0] 154)).cell? ⟨w.heap.size,0,none⟩=some (.int .u64 (x0:Int)):=rd.cell 0 rfl;go_enter Tryz.func109,Tryz.ntmps109
 go_wp2_with (with_reducible refine zx ?_)
 refine zr rfl _ _ _ rfl rfl w.heap.size 0 (.int .u64 (s0:Int)) rfl rfl _ _ rd tr (by rw[uX];simp) rfl fun w2 ef hg2=>?_
 rw[qT]at ef;replace ef:Blk w2 w.heap.size 154 (zM [s0,x1,x2,x3]):=ef;have VW:=jX.grown hg2 (by intro hc;injection hc;omega);have yz:=zP.grown hg2 zP.size (by rintro q ⟨⟩;omega);have c1:w2.cell? ⟨w.heap.size,1,none⟩=some (.int .u64 (x1:Int)):=ef.cell 1 rfl;clear rd jX zP hg2 c0 A;go_wp2_with (with_reducible refine zx ?_)
 refine zr rfl _ _ _ rfl rfl w.heap.size 1 (.int .u64 (s1:Int)) rfl rfl _ _ ef tr (by rw[uX];simp) rfl fun w3 ZU hg3=>?_
 rw[qT]at ZU;replace ZU:Blk w3 w.heap.size 154 (zM [s0,s1,x2,x3]):=ZU;have Nl:=VW.grown hg3 (by intro hc;injection hc;omega);have vg:=yz.grown hg3 yz.size (by rintro q ⟨⟩;omega);clear ef VW yz hg3 c1 B;have e0:w3.cell? ⟨w.heap.size,0,none⟩=some (.int .u64 (s0:Int)):=ZU.cell 0 rfl;have e1:w3.cell? ⟨w.heap.size,1,none⟩=some (.int .u64 (s1:Int)):=ZU.cell 1 rfl;have e2:w3.cell? ⟨w.heap.size,2,none⟩=some (.int .u64 (x2:Int)):=ZU.cell 2 rfl;have e3:w3.cell? ⟨w.heap.size,3,none⟩=some (.int .u64 (x3:Int)):=ZU.cell 3 rfl;go_wp2_with (with_reducible refine zx ?_)
 refine zu rfl _ _ _ rfl rfl (w.heap.size+1) (zM [s0,s1,x2,x3]) rfl rfl _ _ Nl wE rfl (wP _) fun wz hRz z8=>?_
 have yX:=vg.grown z8 vg.size (by rintro q ⟨⟩;omega);clear e0 e1 e2 e3;go_wp2_with fail
 refine xS rfl rfl hRz rfl rfl wE rfl ?_
 exact⟨rfl,yX⟩
theorem nQ {x y:List Nat}(hx:x.length=4) (hy:y.length=4) (w:World) :
  Calls Tryz.prog 110 #[.agg (zM x),.agg (zM y)] w fun e w'=>∃ z,e=.returned (.agg (zM z))∧z.length=4∧Below w.heap.size w w':=by
 have rd:=((Blk.new w 154 (zM x)).alloc (.cells (zM y) 154)).alloc (.cells #[.int .u64 0,.int .u64 0,.int .u64 0,.int .u64 0] 154);have XI:=(Blk.new (w.alloc (.cells (zM x) 154)) 154 (zM y)).alloc (.cells #[.int .u64 0,.int .u64 0,.int .u64 0,.int .u64 0] 154);have jX:=Blk.new ((w.alloc (.cells (zM x) 154)).alloc (.cells (zM y) 154)) 154 #[.int .u64 0,.int .u64 0,.int .u64 0,.int .u64 0]
 simp only[zW]at XI jX
 have yZ:=zl w (.cells (zM x) 154);have zP:=yZ.alloc yZ.size (.cells (zM y) 154);have yz:=zP.alloc zP.size (.cells #[.int .u64 0,.int .u64 0,.int .u64 0,.int .u64 0] 154);have HL:=Hh (And.intro hx hy);have Es:=Hh hx;clear hx hy yZ zP;go_enter Tryz.func110,Tryz.ntmps110
 go_wp2_with fail
 go_loopw [5,7] (fun v5 v7 wr=>∃ (k c:Nat) (xs:List Nat),v7=.int .i64 (k:Int)∧v5=.int .u64 (c:Int)∧c≤1∧k≤4∧xs.length=4∧
   Blk wr w.heap.size 154 (zM xs)∧Blk wr (w.heap.size+1) 154 (zM y)∧Blk wr (w.heap.size+1+1) 154 #[.int .u64 0,.int .u64 0,.int .u64 0,.int .u64 0]∧Below w.heap.size w wr) (fun _ v7 _=>(4-intOf v7).toNat)
 case atStart=>exact⟨0,0,x,rfl,rfl,by omega,by omega,Es.out,rd,XI,jX,yz⟩
 case round =>
 clear rd XI jX yz Es;obtain⟨k,c,xs,rfl,rfl,hc,XK,ek,hX,hY,hR,hb⟩:=hrel
 by_cases yy:(k:Int)<4
 ·have cx:=hX.drew.cell k (sd _ _ (by omega));have cy:=hY.drew.cell k (sd _ _ (by have:=HL.out;omega));obtain⟨xk,Sv⟩:∃ n,xr xs k=n:=⟨_,rfl⟩
  obtain⟨yk,GC⟩:∃ n,xr y k=n:=⟨_,rfl⟩
  rw[Sv]at cx;rw[GC]at cy;have A:=eK xk yk c hc;obtain⟨q0,pG⟩:∃ n,(xk+18446744073709551616-yk-c)%18446744073709551616=n:=⟨_,rfl⟩
  obtain⟨q1,dg⟩:∃ n,(if xk<yk+c then 1 else 0)=n:=⟨_,rfl⟩
  have HQ:Hid (q1≤1):=by rw[Hid,← dg];split <;> omega
  rw[pG,dg]at A;have Nd:=Hh ek;have sv:=Hh yy;have Ff:=hX.drew;clear Sv GC pG dg hc ek XK;go_upto_region 5 with fail
  refine yw 13 (fun wx=>wx.cell? ⟨w.heap.size,k,none⟩=some (.int .u64 (xk:Int))∧wx.cell? ⟨w.heap.size+1,k,none⟩=some (.int .u64 (yk:Int))) (by kernel_rfl) (⟨cx,cy⟩) (fun zy=>?_)
  refine Zk 0 rfl zy ?_
  refine Zk 1 rfl zy ?_
  refine Zk 2 rfl zy ?_
  refine Zk 3 rfl zy ?_
  refine Zk 4 rfl zy ?_
  refine Zk 5 rfl zy ?_
  refine Zk 6 rfl zy ?_
  refine Zk 7 rfl zy ?_
  refine Zo 8 rfl fun K hK=>?_
  go_simp
  refine Ko hK ?_ fun zy=>?_
  ·exact⟨cx,cy⟩
  clear hK K
  refine Zk 9 rfl zy ?_
  refine Zk 10 rfl zy ?_
  refine ZkT 11 rfl (fun _=>zy) ?_
  refine Zk 12 rfl zy ?_
  refine Zo 13 rfl fun K hK=>?_
  rw[if_pos (by rfl)]
  refine yq _ _ _ rfl w.heap.size k (.int .u64 (q0:Int)) rfl rfl _ _ Ff tr (by rw[uX,Nd.out];have:=sv.out;omega) rfl fun w9 jZ hg9=>?_
  refine Kz hK ?_
  clear hK K
  refine ZkT 14 rfl (fun h=>absurd h (by decide)) ?_
  refine WaysZ.done (by kernel_rfl) ?_
  rw[qT]at jZ;have Iq:=hY.drew.grown hg9 (by intro hc;injection hc;omega);have Ze:=hR.drew.grown hg9 (by intro hc;injection hc;omega);have uN:=hb.drew.grown hg9 hb.size (by rintro q ⟨⟩;exact Nat.le_refl _);clear hX hY hR hb Ff cx cy A hg9 zy;go_wp2_with fail
  go_roundw
  case rel=>exact⟨k+1,q1,xs.set k q0,by go_num,rfl,HQ.out,by have:=sv.out;omega,by rw[List.length_set];exact Nd.out,jZ,Iq,Ze,uN⟩
  case measure=>have:=sv.out;simp[intOf];omega
 obtain rfl:k=4:=by omega
 rw[show((4:Nat):Int)=4 from rfl]at yy⊢;obtain⟨z0,z1,z2,z3,rfl⟩:=pZ ek;have c0:wr.cell? ⟨w.heap.size,0,none⟩=some (.int .u64 (z0:Int)):=hX.cell 0 rfl;have c1:wr.cell? ⟨w.heap.size,1,none⟩=some (.int .u64 (z1:Int)):=hX.cell 1 rfl;have c2:wr.cell? ⟨w.heap.size,2,none⟩=some (.int .u64 (z2:Int)):=hX.cell 2 rfl;have c3:wr.cell? ⟨w.heap.size,3,none⟩=some (.int .u64 (z3:Int)):=hX.cell 3 rfl;clear hc XK ek;go_wp2_with (with_reducible refine zx ?_)
 refine zu rfl _ _ _ rfl rfl (w.heap.size+1+1) (zM [z0,z1,z2,z3]) rfl rfl _ _ hR wE rfl (wP _) fun wz hRz z8=>?_
 have yX:=hb.grown z8 hb.size (by rintro q ⟨⟩;omega);clear c0 c1 c2 c3;go_wp2_with fail
 refine xS rfl rfl hRz rfl rfl wE rfl ?_
 exact⟨_,rfl,rfl,yX⟩
def fG:Lie Nat where
 k:=1
 pos:=by omega
 E:=fun _ x c=>c=[.int .u64 (x:Int)]
 len:=by rintro _ _ _ rfl;rfl
 one:=by rintro _ _ _ rfl;simp[Value.oneCell']
 mono:=fun _ h=>h
theorem ap:(Tryz.prog.info? 75).map (fun i=>(i.zero,i.size,i.bytes))=some (some (.int .u64 0),1,8):=by kernel_rfl
theorem iU {w:World}{base:Nat}{A:Option Addr}{m c:Nat}{H:Snap}{l:List Nat}(h:OwnX fG 75 w base (.slice A m c) H l) (h0:0<l.length) :
  ∃ g,A=some ⟨g,0,none⟩∧∀ j (hj:j<l.length),w.cell? ⟨g,j,none⟩=some (.int .u64 (l[j]:Int)):=by
 obtain⟨g,e,_⟩:=h.at_ 0 h0
 refine⟨g,e,fun j hj=>?_⟩
 obtain⟨g',e',d,hd,hc⟩:=h.at_ j hj;rw[e]at e'
 cases e'
 cases hd
 have h1:=hc 0 _ rfl
 simpa [fG] using h1
theorem OP (k q:Nat):(((k:Int)+2)%(q:Int) != 0)=((k+2)%q != 0):=by
 rw[Bool.eq_iff_iff,bne_iff_ne,bne_iff_ne];have h:((k:Int)+2)%(q:Int)=(((k+2)%q:Nat):Int):=by rw[Int.natCast_emod,Int.natCast_add];rfl
 rw[h]
 omega
theorem Yi (H:Snap) (w:World):Calls Tryz.prog 96 #[.int .i64 64] w fun e w'=>∃ A c,e=.returned (.slice A 64 c)∧OwnX fG 75 w' w.heap.size (.slice A 64 c) H (uj.take 64)∧Below w.heap.size w w':=by
 have Nj:=OwnX.nil fG 75 w w.heap.size H;have yZ:=Below.refl w.heap.size w;go_enter Tryz.func96,Tryz.ntmps96
 go_wp2_with fail
 go_loopw [3,4] (fun v3 v4 wr=>∃ (k:Nat),v4=.int .u64 ((k:Int)+2)∧Hid (k≤310)∧OwnX fG 75 wr w.heap.size v3 H (sm k)∧Below w.heap.size w wr) (fun _ v4 _=>400-(intOf v4).toNat)
 case atStart=>exact⟨0,rfl,Nat.zero_le _,Nj,yZ⟩
 case round =>
 clear Nj yZ;obtain⟨k,rfl,HK,hO,hb⟩:=hrel;obtain⟨A,c,rfl,Nx,Zf⟩:=hO.form;have wj:Hid (∀ q∈sm k,2≤q∧q≤k+1):=eS k;have Xi:Hid (¬ (sm k).length<64→sm k=uj.take 64):=Yl HK.out;have Jn:Hid ((sm k).length<64→k≤309):=Th;have UC:Hid (sm (k+1)=jR (sm k) (k+2)):=rfl;obtain⟨l,hl⟩:∃ l,sm k=l:=⟨_,rfl⟩
 rw[hl]at hO Nx wj Xi Jn UC⊢;obtain⟨m,hm⟩:∃ m,l.length=m:=⟨_,rfl⟩
 have bq:=Hh hm;rw[hm]at Nx Xi Jn⊢;have BW:=Hh (And.intro Nx Zf);have SF:=hO;rw[hm]at SF;clear hl hm Nx Zf
 by_cases yy:(m:Int)<64
 ·have Bl:IntKind.u64.wrap ((k:Int)+2+1)=(k:Int)+2+1:=by
   rw[IntKind.wrap_u64];have:=HK.out
   omega
  have Jq:Hid (k≤309):=Jn.out (by omega);have sv:=Hh yy;go_wp2_with fail
  go_loop [5,16] (fun v5 v16=>∃ j:Nat,Hid (j≤m)∧v16=.int .i64 (j:Int)∧v5=.bool ((l.take j).all (fun q=>(k+2)%q != 0))) (fun _ v16=>m-(intOf v16).toNat)
  case atStart=>exact⟨0,Nat.zero_le _,rfl,rfl⟩
  case round =>
  obtain⟨j,HJ,rfl,rfl⟩:=hrel;obtain⟨bb,nA⟩:∃ bb,(l.take j).all (fun q=>(k+2)%q != 0)=bb:=⟨_,rfl⟩
  rw[nA];have Hn:=Hh nA;clear nA
  by_cases hj:(j:Int)<(m:Int)
  ·have u9:j<l.length:=by rw[bq.out];omega
   have I8:=Hh (el (fun q=>(k+2)%q != 0) l j u9);obtain⟨g,rfl,hg⟩:=iU hO (by omega);have cx:=hg j u9;have HQ:=Hh (wj.out l[j] (List.getElem_mem u9));obtain⟨q,hq⟩:∃ q,l[j]=q:=⟨_,rfl⟩
   rw[hq]at cx HQ I8;have pG:((q:Int)=0)=False:=eq_false (by have:=HQ.out;omega);have dg:(q=0)=False:=eq_false (by have:=HQ.out;omega);have Bn:((q:Int)==0)=false:=by rw[beq_eq_false_iff_ne];have:=HQ.out;omega
   have Jo:=Hh hj;have Ef:Hid ((l.take (j+1)).all (fun q=>(k+2)%q != 0)=(bb&&((k+2)%q != 0))):=by have h:=I8.out;rw[Hn.out]at h;exact h
   clear I8;clear hg hq u9
   cases bb with
   | false =>
    go_wp2_with fail
    go_round
    ·exact⟨j+1,by have:=Jo.out;rw[Hid];omega,by go_num,by rw[Ef.out];rfl⟩
    have:=Jo.out;simp[intOf];omega
   | true =>
   go_wp2_with fail
   go_round
   ·exact⟨j+1,by have:=Jo.out;rw[Hid];omega,by go_num,by rw[Ef.out,OP,Bool.true_and]⟩
   have:=Jo.out;simp[intOf];omega
  obtain rfl:j=m:=by have:=HJ.out;omega
  clear hj
  have sw:Hid (l.all (fun q=>(k+2)%q != 0)=bb):=by
   have h:=Hn.out;rw[List.take_of_length_le (by rw[bq.out];omega)]at h
   exact h
  clear Hn wj Xi Jn
  cases bb with
  | false =>
   go_wp2_with fail
   go_roundw
   case rel=>exact⟨k+1,by go_num,by have:=Jq.out;rw[Hid];omega,by rw[UC.out,Tg sw.out];exact SF,hb⟩
   case measure=>have:=Jq.out;simp[intOf];omega
  | true =>
  have yp:=hO.alloc (.cells #[.int .u64 ((k:Int)+2)] 75);have zP:=hb.alloc hb.size (.cells #[.int .u64 ((k:Int)+2)] 75);have pk:∀ kb,(Value.slice A j c).ownBlock=some kb→w.heap.size≤kb:=fun kb hk=>(SF.lt kb hk).1
  have tl:OwnX fG 75 (wr.alloc (.cells #[.int .u64 ((k:Int)+2)] 75)) w.heap.size (.slice A j c) H l:=SF.alloc _;go_wp2_with (at_builtin;refine zf ?_)
  refine OwnX.append rfl (.tmp 29) (.tmp 31) 128 rfl Tryz.underlying128 rfl (by omega) ap rfl tl _ 1 _ [.int .u64 ((k:Int)+2)] [k+2] rfl rfl (RowC.one rfl) (Src.new _ _ _ _ rfl _ rfl) (by have:=bq.out;have:=sv.out;simp;omega) zP.size fun v' w6 qf hg6 hat6=>?_
  have y9:=zm zP hg6 pk;clear hO SF yp tl hb zP hg6 hat6;go_wp2_with fail
  go_roundw
  case rel=>exact⟨k+1,by go_num,by have:=Jq.out;rw[Hid];omega,by rw[UC.out,Wq sw.out];exact qf,y9⟩
  case measure=>have:=Jq.out;simp[intOf];omega
 have HE:Hid (l=uj.take 64):=Xi.out (by omega);go_wp2_with fail
 go_ret
 have hm:m=64:=by
  have h1:=bq.out;rw[HE.out]at h1;rw[← h1];rfl
 subst hm
 exact⟨A,c,rfl,by rw[← HE.out];exact SF,hb⟩
end Go.Proofs.YtjpcnhncoidliaaGreatDoor
namespace Go.Proofs.YtjpcnhncoidliaaGreatDoor
abbrev f64:=FloatKind.f64.format
def MP (u:Nat):Option Nat:=if u<9223372036854775808 then some u else none
def Xj (x:Nat):Option Nat:=do
 let t:=x/3+3071306043645493248
 let a ← f64.mul t t
 let r ← f64.div a x
 let b ← f64.mul r t
 let s ← f64.add 4603064841997850097 b
 let c ← f64.add s 4609048195788499471
 let d ← f64.div 13827900089180538932 s
 let e ← f64.add c d
 let g ← f64.div 4609916747145206638 e
 let h ← f64.add 4600105333671292343 g
 let u0 ← f64.mul t h
 let u ← MP u0
 let v:=u/1073741824*1073741824+1073741824
 let i ← f64.mul v v
 let j ← f64.div x i
 let k ← f64.add v v
 let l ← f64.sub j v
 let m ← f64.add k j
 let n ← f64.div l m
 let o ← f64.mul v n
 f64.add v o
def gw (x:Nat):Option Nat :=
 match FloatKind.f64.decode x with
 | .nan _ _=>none
 | d=>some (FloatKind.f64.encode (d.integral .down))
def RR (q:Option Nat):Bool :=
 match q with
 | some f=>match gw f with
  | some g=>match floatToIntVal .f64 g .u64 with
   | some k=>decide (1≤k)&&decide (k≤20)
   | none=>false
  | none=>false
 | none=>false
theorem ji {q:Option Nat}(h:RR q=true):∃ f g k:Nat,q=some f∧gw f=some g∧floatToIntVal .f64 g .u64=some (k:Int)∧1≤k∧k≤20:=by
 unfold RR at h
 split at h
 ·rename_i f
  split at h
  ·rename_i g hg
   split at h
   ·rename_i k hk
    simp only[Bool.and_eq_true,decide_eq_true_eq]at h
    exact⟨f,g,k.toNat,rfl,hg,by rw[hk];congr 1;omega,by omega,by omega⟩
   cases h
  cases h
 cases h
def OW (p:Nat):Option Nat:=f64.sqrt (floatOfInt .f64 (p:Int))
def OE (p:Nat):Option Nat:=Xj (floatOfInt .f64 (p:Int))
end Go.Proofs.YtjpcnhncoidliaaGreatDoor
namespace Go.Proofs.YtjpcnhncoidliaaGreatDoor
open Go.RowKit
theorem TY (x r:Nat) (h:f64.sqrt x=some r) (w:World):(callFunc 116 #[.float .f64 x]).run Tryz.prog w=.ok (.value (.float .f64 r)) w:=by
 rw[run_callFunc_extern Tryz.func116 (by kernel_rfl) (by kernel_rfl) (by kernel_rfl) (e:=Extern.MathSqrt.sqrt) (by kernel_rfl)]
 have e:Extern.MathSqrt.sqrt #[.float .f64 x]=pure (.float .f64 r):=by
  show(match f64.sqrt x with | some r=>pure (Value.float .f64 r) | none=>do pure (Value.float .f64 (← choose (.nanBits .f64 x x))))=_
  rw[h]
 rw[e];rfl
theorem Wb (x r:Nat) (h:gw x=some r) (w:World):(callFunc 119 #[.float .f64 x]).run Tryz.prog w=.ok (.value (.float .f64 r)) w:=by
 rw [run_callFunc_extern Tryz.func119 (by kernel_rfl) (by kernel_rfl) (by kernel_rfl) (e := Extern.MathFloor.toIntegral "math.archFloor" .down) (by kernel_rfl)]
 have e : (Extern.MathFloor.toIntegral "math.archFloor" .down #[.float .f64 x]) = pure (.float .f64 r) := by
  show((match FloatKind.f64.decode x with
   | .nan s t =>
    if FloatKind.f64.format.quiet t=t then pure (Value.float .f64 x) else do
    let kept ← choose (.extern "math.Floor,Ceil,Trunc,RoundToEven.signallingNaN kept" 2)
    pure (Value.float .f64 (if kept==1 then x else FloatKind.f64.encode (.nan s (FloatKind.f64.format.quiet t))))
   | d=>pure (Value.float .f64 (FloatKind.f64.encode (d.integral .down)))):Sem Value)=_
  unfold gw at h
  cases hd:FloatKind.f64.decode x with
  | nan s t=>rw[hd]at h;cases h
  | infinity s=>rw[hd]at h;injection h with h;subst h;rfl
  | number s m i=>rw[hd]at h;injection h with h;subst h;rfl
 rw[e];rfl
theorem eB (x r:Nat) (h:f64.sqrt x=some r) (w:World):Calls Tryz.prog 103 #[.float .f64 x] w fun e w'=>e=.returned (.float .f64 r)∧w=w':=by
 have R:=TY x r h;clear h;go_enter Tryz.func103,Tryz.ntmps103
 go_wp2_with fail
 go_ret
 exact⟨rfl,rfl⟩
theorem gB (x r:Nat) (h:gw x=some r) (w:World):Calls Tryz.prog 105 #[.float .f64 x] w fun e w'=>e=.returned (.float .f64 r)∧w=w':=by
 have R:=Wb x r h;clear h;go_enter Tryz.func105,Tryz.ntmps105
 go_wp2_with fail
 go_ret
 exact⟨rfl,rfl⟩
def iQ (x:Nat):Bool := !(f64.order x 0==some .eq)&&(f64.order x x==some .eq) && !(f64.order x 9218868437227405311==some .gt) && !(f64.order x 0==some .lt) && !(f64.order x 4503599627370496==some .lt)&&decide (x<9223372036854775808)
theorem Y2 (x:Nat) (hx:x<9223372036854775808):bits .andNot .u64 (x:Int) 9223372036854775808=(x:Int):=by
 have h1:(BitVec.ofInt 64 (x:Int)).toNat=x:=by
  rw[BitVec.ofInt_natCast,BitVec.toNat_ofNat];exact Nat.mod_eq_of_lt (by omega)
 have h2:(~~~ (BitVec.ofInt 64 (9223372036854775808:Int))).toNat=9223372036854775807:=by decide
 show IntKind.u64.wrap ((BitVec.ofInt 64 (x:Int) &&& ~~~ BitVec.ofInt 64 9223372036854775808).toNat:Int)=_
 have h3:x &&& 9223372036854775807=x:=by
  have:=Nat.and_two_pow_sub_one_eq_mod x 63;have h4:x%2 ^ 63=x:=Nat.mod_eq_of_lt (by omega);rw[h4]at this
  simpa using this
 rw[BitVec.toNat_and,h1,h2,h3]
 exact xT x (by omega)
theorem Ve (x:Nat) (hx:x<18446744073709551616):bits .and .u64 (x:Int) 18446744072635809792=((x/1073741824*1073741824:Nat):Int):=by
 have h1:(BitVec.ofInt 64 (x:Int)).toNat=x:=by
  rw[BitVec.ofInt_natCast,BitVec.toNat_ofNat];exact Nat.mod_eq_of_lt (by omega)
 have h2:(BitVec.ofInt 64 (18446744072635809792:Int))=BitVec.ofNat 64 ((2 ^ 34-1) <<< 30):=by decide
 show IntKind.u64.wrap ((BitVec.ofInt 64 (x:Int) &&& BitVec.ofInt 64 18446744072635809792).toNat:Int)=_
 have h3:(BitVec.ofInt 64 (x:Int) &&& BitVec.ofInt 64 18446744072635809792).toNat=x/1073741824*1073741824:=by
  rw[BitVec.toNat_and,h1,h2];have e:(BitVec.ofNat 64 ((2 ^ 34-1) <<< 30)).toNat=(2 ^ 34-1) <<< 30:=by decide
  rw[e]
  have e1:x &&& ((2 ^ 34-1) <<< 30)=((x >>> 30) &&& (2 ^ 34-1)) <<< 30:=by
   apply Nat.eq_of_testBit_eq
   intro i
   simp only[Nat.testBit_and,Nat.testBit_shiftLeft,Nat.testBit_shiftRight]
   by_cases hi:30≤i
   ·simp[hi,Nat.add_sub_cancel' hi]
   simp[hi]
  rw[e1,Nat.and_two_pow_sub_one_eq_mod,Nat.shiftRight_eq_div_pow,Nat.shiftLeft_eq];have e2:x/2 ^ 30%2 ^ 34=x/2 ^ 30:=Nat.mod_eq_of_lt (by omega);rw[e2]
 rw[h3]
 exact xT _ (by omega)
theorem Zy (x:Nat) (p2:(f64.order x x != some .eq)=false) (w:World):Calls Tryz.prog 125 #[.float .f64 x] w fun e w'=>e=.returned (.bool false)∧w=w':=by
 go_enter Tryz.func125,Tryz.ntmps125
 go_wp2_with fail
 go_ret
 exact⟨rfl,rfl⟩
theorem W6 (x:Nat) (p6:x<9223372036854775808) (w:World):Calls Tryz.prog 131 #[.float .f64 x] w fun e w'=>e=.returned (.float .f64 x)∧w=w':=by
 have AN:=Y2 x p6;have R1:=nj x;have R2:=rT x;clear p6;go_enter Tryz.func131,Tryz.ntmps131
 go_wp2_with fail
 go_ret
 exact⟨rfl,rfl⟩
theorem Zx (x:Nat) (p3:(f64.order x 9218868437227405311==some .gt)=false) (p6:x<9223372036854775808) (w:World):Calls Tryz.prog 126 #[.float .f64 x,.int .i64 0] w fun e w'=>e=.returned (.bool false)∧w=w':=by
 have A:=Hh (W6 x p6 w);clear p6;go_enter Tryz.func126,Tryz.ntmps126
 go_wp2_with fail
 refine A.out.mono ?_
 rintro e w1 ⟨rfl,rfl⟩
 go_wp2_with fail
 go_ret
 exact⟨rfl,rfl⟩
theorem W9 (x f:Nat) (hp:iQ x=true) (h:Xj x=some f) (w:World):Calls Tryz.prog 118 #[.float .f64 x] w fun e w'=>e=.returned (.float .f64 f)∧w=w':=by
 simp only[iQ,Bool.and_eq_true,Bool.not_eq_true',decide_eq_true_eq]at hp
 obtain⟨⟨⟨⟨⟨p1,p2⟩,p3⟩,p4⟩,p5⟩,p6⟩:=hp;have p2':(f64.order x x != some .eq)=false:=by rw[bne,p2];rfl
 unfold Xj at h
 simp only[Option.bind_eq_bind,Option.bind_eq_some_iff]at h
 obtain⟨a,ha,r,hr,b,hb,s,hs,c,hc,d,hd,e,he,g,hg,k,hk,u0,O4,u,hu,i,hi,j,hj,k2,kM,l,hl,m,hm,n,hn,o,ho,hf⟩:=h
 have E8:u=u0∧u<9223372036854775808:=by
  unfold MP at hu
  split at hu
  ·injection hu with hu;subst hu;exact⟨rfl,by assumption⟩
  cases hu
 obtain⟨rfl,ul⟩:=E8;clear hu;have hu:=O4;clear O4;have T1:(x:Int).tdiv 3=((x/3:Nat):Int):=by rw[Int.tdiv_eq_ediv_of_nonneg (by omega)];omega
 obtain⟨x3,NT⟩:∃ n,x/3=n:=⟨_,rfl⟩
 have Hk:x3<9223372036854775808:=by omega
 rw[NT]at T1 ha hb hu;obtain⟨t,ht⟩:∃ n,x3+3071306043645493248=n:=⟨_,rfl⟩
 rw[ht]at ha hb hu
 have T2:IntKind.u64.wrap ((x3:Int)+3071306043645493248)=(t:Int):=by
  rw[show(x3:Int)+3071306043645493248=((t:Nat):Int) by omega]
  exact xT _ (by omega)
 have T3:IntKind.u64.wrap (x3:Int)=(x3:Int):=xT _ (by omega);obtain⟨u3,JS⟩:∃ n,u/1073741824*1073741824=n:=⟨_,rfl⟩
 have Hg:u3≤u:=by rw[← JS];exact Nat.div_mul_le_self u 1073741824
 have AL:=Ve u (by omega);rw[JS]at AL hi kM hl ho hf;obtain⟨v,hv⟩:∃ n,u3+1073741824=n:=⟨_,rfl⟩
 rw[hv]at hi kM hl ho hf
 have T4:IntKind.u64.wrap ((u3:Int)+1073741824)=(v:Int):=by
  rw[show(u3:Int)+1073741824=((v:Nat):Int) by omega]
  exact xT _ (by omega)
 have NA:=Hh (Zy x p2' w);have IN:=Hh (Zx x p3 p6 w);have R1:=nj x;have R3:=rT t;have R4:=nj u;have R5:=rT v;clear JS hv NT ht ul p2 Hk Hg p6;go_enter Tryz.func118,Tryz.ntmps118
 go_wp2_with fail
 refine NA.out.mono ?_
 rintro e1 w1 ⟨rfl,rfl⟩
 go_wp2_with fail
 refine IN.out.mono ?_
 rintro e1 w1 ⟨rfl,rfl⟩
 clear NA IN p2' p3;have F0:=fun w=>run_float_arith (P:=Tryz.prog) w .mul 155 .f64 t t a ha
 have F1:=fun w=>run_float_arith (P:=Tryz.prog) w .quo 155 .f64 a x r hr
 have F2:=fun w=>run_float_arith (P:=Tryz.prog) w .mul 155 .f64 r t b hb
 have F3:=fun w=>run_float_arith (P:=Tryz.prog) w .add 155 .f64 4603064841997850097 b s hs
 have F4:=fun w=>run_float_arith (P:=Tryz.prog) w .add 155 .f64 s 4609048195788499471 c hc
 have F5:=fun w=>run_float_arith (P:=Tryz.prog) w .quo 155 .f64 13827900089180538932 s d hd
 have F6:=fun w=>run_float_arith (P:=Tryz.prog) w .add 155 .f64 c d e he
 have F7:=fun w=>run_float_arith (P:=Tryz.prog) w .quo 155 .f64 4609916747145206638 e g hg
 have F8:=fun w=>run_float_arith (P:=Tryz.prog) w .add 155 .f64 4600105333671292343 g k hk
 have F9:=fun w=>run_float_arith (P:=Tryz.prog) w .mul 155 .f64 t k u hu
 have F10:=fun w=>run_float_arith (P:=Tryz.prog) w .mul 155 .f64 v v i hi
 have F11:=fun w=>run_float_arith (P:=Tryz.prog) w .quo 155 .f64 x i j hj
 have F12:=fun w=>run_float_arith (P:=Tryz.prog) w .add 155 .f64 v v k2 kM
 have F13:=fun w=>run_float_arith (P:=Tryz.prog) w .sub 155 .f64 j v l hl
 have F14:=fun w=>run_float_arith (P:=Tryz.prog) w .add 155 .f64 k2 j m hm
 have F15:=fun w=>run_float_arith (P:=Tryz.prog) w .quo 155 .f64 l m n hn
 have F16:=fun w=>run_float_arith (P:=Tryz.prog) w .mul 155 .f64 v n o ho
 have F17:=fun w=>run_float_arith (P:=Tryz.prog) w .add 155 .f64 v o f hf
 clear ha hr hb hs hc hd he hg hk hu hi hj kM hl hm hn ho hf;go_wp2_with fail
 go_ret
 exact⟨rfl,rfl⟩
theorem W8 (x f:Nat) (hp:iQ x=true) (h:Xj x=some f) (w:World):Calls Tryz.prog 104 #[.float .f64 x] w fun e w'=>e=.returned (.float .f64 f)∧w=w':=by
 have A:=Hh (W9 x f hp h w);clear hp h;go_enter Tryz.func104,Tryz.ntmps104
 go_wp2_with fail
 refine A.out.mono ?_
 rintro e w1 ⟨rfl,rfl⟩
 go_wp2_with fail
 go_ret
 exact⟨rfl,rfl⟩
theorem dN {P:Program}{w:World}{o:Oper}{a:Act}{K:Act→World→Prop}{Q:Exit→Act→World→Prop}(op:BinOp) (t t2:TypeId) (x y:Operand) (ho:o.op=.binOp op t x y t2)
  (hop:op=.add∨op=.sub∨op=.mul∨op=.quo) (fx fy:Nat) (hx:a.eval x=.float .f64 fx) (hy:a.eval y=.float .f64 fy)
  (h:∀ r w',w'=w∨w'=w.drew→K (a.put o.dst (.float .f64 r)) w'):o.wp P a w K Q:=by
 obtain⟨r,w',hr,hw⟩:=dk (P:=P) w op hop t fx fy
 unfold Oper.wp execOp
 have hg:(eqGuard op t x y (.float .f64 fx) (.float .f64 fy)).run P w=.ok () w:=by rcases hop with rfl | rfl | rfl | rfl <;> simp[eqGuard]
 simp only[ho,hx,hy,Sem.run_bind,hg,hr,Result.andThen_ok,Sem.run_pure]
 exact h r w' hw
theorem ku {P:Program}{w:World}{o:Oper}{a:Act}{K:Act→World→Prop}{Q:Exit→Act→World→Prop}(src dst:TypeId) (x:Operand) (ho:o.op=.convert src dst x)
  (hs:(P.underlying src).isSome=true) (hd:P.underlying dst=some (.int .u64)) (fx:Nat) (hx:a.eval x=.float .f64 fx)
  (h:∀ (n:Nat) w',n<18446744073709551616→w'=w∨w'=w.drew→K (a.put o.dst (.int .u64 (n:Int))) w'):o.wp P a w K Q:=by
 obtain⟨n,hn,w',hr,hw⟩:=ah (P:=P) w src dst fx hs hd
 unfold Oper.wp execOp
 simp only[ho,hx,Sem.run_bind,hr,Result.andThen_ok,Sem.run_pure]
 exact h n w' hn hw
end Go.Proofs.YtjpcnhncoidliaaGreatDoor
