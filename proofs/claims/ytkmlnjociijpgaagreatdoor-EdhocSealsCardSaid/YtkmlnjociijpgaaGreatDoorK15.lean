/- squeezed. SHA-256: numbers of four words: po -/
import Derived.Test.YtkmlnjociijpgaaGreatDoorK14
import Derived.Laws.FloatArith
set_option linter.unusedVariables false
set_option linter.unusedSimpArgs false
set_option maxRecDepth 100000
set_option maxHeartbeats 3200000
namespace Go.Proofs.YtkmlnjociijpgaaGreatDoor
open Go.RowKit
theorem jbl{P:Prop}(h:P:=by
 simp only[Sem.run_bind,Sem.run_pure,Result.andThen_ok,run_choose_drew]
 split
 ·obtain⟨n,hn,e⟩:=bnd ((0:Nat):Int)
  exact⟨n,hn,_,by rw[← e];rfl,.inl rfl⟩
 obtain⟨n,hn,e⟩:=bnd ((Question.cut (.floatToInt .f64 b .u64) (w.tape w.drawn (.floatToInt .f64 b .u64)):Nat):Int)
 exact⟨n,hn,_,by rw[← e];rfl,.inr rfl⟩):P:=h
theorem rR {x:List Nat}(hx:x.length=4) (aw:W64 x) (n:Nat) (hn:n≤1000) (hp:num x ^ n<18446744073709551616 ^ 4) (w:World) :
  Calls Tryz.prog 242 #[.agg (zS x),.int .i64 (n:Int)] w fun e w'=>∃ z,e=.returned (.agg (zS z))∧z.length=4∧W64 z∧num z=num x ^ n∧Below w.heap.size w w':=by
 have wY:=Blk.new w 274 (zS x);have oR:=Blk.new (w.alloc (.cells (zS x) 274)) 274 (zS [0,0,0,0]);have Ly:=Blk.new ((w.alloc (.cells (zS x) 274)).alloc (.cells (zS [0,0,0,0]) 274)) 274 (zS [1,0,0,0]);replace wY:=(wY.alloc (.cells (zS [0,0,0,0]) 274)).alloc (.cells (zS [1,0,0,0]) 274);replace oR:=oR.alloc (.cells (zS [1,0,0,0]) 274)
 simp only[za]at oR Ly
 have yB:=zX w (.cells (zS x) 274);have zY:=yB.alloc yB.size (.cells (zS [0,0,0,0]) 274);have zD:=zY.alloc zY.size (.cells (zS [1,0,0,0]) 274);have HX:=Hh (And.intro hx aw);have HP:=Hh (And.intro hp hn);clear hx aw hp yB zY hn;go_enter Tryz.func242,Tryz.ntmps242
 go_wp2_with fail
 go_loopw [8] (fun v8 wr=>∃ (k:Nat) (zs:List Nat),v8=.int .i64 (k:Int)∧k≤n∧zs.length=4∧W64 zs∧num zs=num x ^ k∧
   Blk wr (w.heap.size+1+1) 274 (zS zs)∧Blk wr w.heap.size 274 (zS x)∧Blk wr (w.heap.size+1) 274 (zS [0,0,0,0])∧Below w.heap.size w wr) (fun v8 _=>(n-intOf v8).toNat)
 case atStart=>exact⟨0,[1,0,0,0],rfl,by omega,rfl,by simp[W64],by simp[num],Ly,wY,oR,zD⟩
 case round =>
 clear Ly wY oR zD;obtain⟨k,zs,rfl,sw,Sd,mO,hQ,hZ,hX,hR,hb⟩:=hrel;obtain⟨x0,x1,x2,x3,J4⟩:=qJ HX.out.1;obtain⟨z0,z1,z2,z3,jI⟩:=qJ Sd;have OY:=Hh J4;have FE:=Hh jI;have HZ:=Hh (And.intro Sd (And.intro mO hQ));have fD:=hX;have JT:=hZ;rw[J4]at fD;rw[jI]at JT;clear J4 jI Sd mO hQ;have c0:wr.cell? ⟨w.heap.size+1+1,0,none⟩=some (.int .u64 (z0:Int)):=JT.cell 0 rfl;have c1:wr.cell? ⟨w.heap.size+1+1,1,none⟩=some (.int .u64 (z1:Int)):=JT.cell 1 rfl;have c2:wr.cell? ⟨w.heap.size+1+1,2,none⟩=some (.int .u64 (z2:Int)):=JT.cell 2 rfl;have c3:wr.cell? ⟨w.heap.size+1+1,3,none⟩=some (.int .u64 (z3:Int)):=JT.cell 3 rfl;have d0:wr.cell? ⟨w.heap.size,0,none⟩=some (.int .u64 (x0:Int)):=fD.cell 0 rfl;have d1:wr.cell? ⟨w.heap.size,1,none⟩=some (.int .u64 (x1:Int)):=fD.cell 1 rfl
 have d2:wr.cell? ⟨w.heap.size,2,none⟩=some (.int .u64 (x2:Int)):=fD.cell 2 rfl;have d3:wr.cell? ⟨w.heap.size,3,none⟩=some (.int .u64 (x3:Int)):=fD.cell 3 rfl;clear fD JT
 by_cases z9:(k:Int)<(n:Int)
 ·have T:Hid (Calls Tryz.prog 262 #[.agg #[.int .u64 (z0:Int),.int .u64 (z1:Int),.int .u64 (z2:Int),.int .u64 (z3:Int)],.agg #[.int .u64 (x0:Int),.int .u64 (x1:Int),.int .u64 (x2:Int),.int .u64 (x3:Int)]] wr fun e w'=>e=.returned (.agg (zS (xm zs x [0,0,0,0])))∧Below wr.heap.size wr w'):=by
   have h:=UN HZ.out.1 HX.out.1 HZ.out.2.1 HX.out.2 wr;rw[FE.out,OY.out]at h⊢
   exact h
  have uH:=Hh z9;have fQ:IntKind.i64.wrap ((k:Int)+1)=(k:Int)+1:=IntWalk.i64_in _ (by have:=HP.out.2;omega);clear sw;go_wp2_with fail
  refine T.out.mono ?_
  rintro e w2 ⟨rfl,zD⟩
  have If:=hZ.below zD;have eE:=hX.below zD;have YX:=hR.below zD;have pf:=hb.trans (zD.mono hb.size);clear c0 c1 c2 c3 d0 d1 d2 d3 hZ hX hR hb zD T;go_wp2_with (with_reducible refine zx ?_)
  refine zm rfl _ _ _ rfl rfl (w.heap.size+1+1) (zS (xm zs x [0,0,0,0])) rfl rfl _ _ If (by rw[ux,(gN HZ.out.1 HX.out.1).1];exact wZ) (by rw[ux,ux,HZ.out.1,(gN HZ.out.1 HX.out.1).1]) (wj _) fun w9 hZ9 xt=>?_
  have sm:=eE.grown xt (by intro hc;injection hc;omega);have Oh:=YX.grown xt (by intro hc;injection hc;omega);have oV:=pf.grown xt pf.size (by rintro q ⟨⟩;omega)
  have HN:Hid ((xm zs x [0,0,0,0]).length=4∧W64 (xm zs x [0,0,0,0])∧num (xm zs x [0,0,0,0])=num x ^ (k+1)):=by
   have h:=gN HZ.out.1 HX.out.1
   refine⟨h.1,h.2.1, ?_⟩
   have e:num zs*num x=num x ^ (k+1):=by rw[HZ.out.2.2,Nat.pow_succ]
   rw[← e]
   exact h.2.2 (by rw[e];exact Ty (by have:=uH.out;omega) HP.out.1 (by omega))
  clear eE YX pf If xt;go_wp2_with fail
  go_roundw
  case rel=>exact⟨k+1,_,by go_num,by have:=uH.out;omega,HN.out.1,HN.out.2.1,HN.out.2.2,hZ9,sm,Oh,oV⟩
  case measure=>have:=uH.out;simp[intOf];omega
 have hE:k=n:=by omega
 have HE:=Hh hE;clear hE sw;go_wp2_with (with_reducible refine zx ?_)
 refine zm rfl _ _ _ rfl rfl (w.heap.size+1) (zS [z0,z1,z2,z3]) rfl rfl _ _ hR wZ rfl (wj _) fun wz kV hgz=>?_
 have rM:=jhs;clear c0 c1 c2 c3 d0 d1 d2 d3;go_wp2_with fail
 refine xU rfl rfl kV rfl rfl wZ rfl ?_
 exact⟨zs,by rw[FE.out],HZ.out.1,HZ.out.2.1,by rw[HZ.out.2.2,HE.out],rM⟩
theorem gR {x y:List Nat}(hx:x.length=4) (hy:y.length=4) (aw:W64 x) (hyw:W64 y) (w:World) :
  Calls Tryz.prog 243 #[.agg (zS x),.agg (zS y)] w fun e w'=>e=.returned (.bool (decide (num x<num y)))∧Below w.heap.size w w':=by
 have wY:=Blk.new w 274 (zS x);have VL:=Blk.new (w.alloc (.cells (zS x) 274)) 274 (zS y);replace wY:=wY.alloc (.cells (zS y) 274)
 simp only[za]at VL
 obtain⟨yB,zY⟩:=jhp;have HL:=Hh (And.intro hx hy);have HW:=Hh (And.intro aw hyw);have HD0:x.drop 4=y.drop 4:=by rw[List.drop_of_length_le (by omega),List.drop_of_length_le (by omega)]
 have HD:=Hh HD0;clear hx hy aw hyw yB HD0;go_enter Tryz.func243,Tryz.ntmps243
 go_wp2_with fail
 go_loopw [5] (fun v5 wr=>∃ k:Nat,v5=.int .i64 ((k:Int)-1)∧k≤4∧x.drop k=y.drop k∧Blk wr w.heap.size 274 (zS x)∧Blk wr (w.heap.size+1) 274 (zS y)∧Below w.heap.size w wr) (fun v5 _=>(intOf v5+1).toNat)
 case atStart=>exact⟨4,by rw[show((4:Nat):Int)-1=3 by omega],by omega,HD.out,wY,VL,zY⟩
 case round =>
 clear wY VL zY HD;obtain⟨k,rfl,Ot,hQ,hX,hY,hb⟩:=hrel;have HQ:=Hh hQ;clear hQ
 by_cases h0:k=0
 ·subst h0
  have HE:Hid (num x=num y):=by
   have h:=HQ.out;rw[List.drop_zero,List.drop_zero]at h;rw[Hid,h]
  rw[show((0:Nat):Int)-1 = -1 by omega];go_wp2_with fail
  go_ret
  refine⟨?_,hb⟩
  have:decide (num x<num y)=false:=decide_eq_false (by have:=HE.out;omega);rw[this];rfl
 obtain⟨i,hi⟩:∃ i:Nat,k=i+1:=⟨k-1,by omega⟩
 subst hi;rw[show((i+1:Nat):Int)-1=(i:Int) by omega];have SJ:(i:Int)<4:=by omega
 have cx:=hX.drew.cell i (t8 _ _ (by have:=HL.out;omega));have cy:=hY.drew.cell i (t8 _ _ (by have:=HL.out;omega))
 by_cases xp:yD x i=yD y i
 ·obtain⟨xi,d9⟩:∃ n,yD x i=n:=⟨_,rfl⟩
  have HN:=Hh (And.intro d9 (xp.symm.trans d9));rw[d9]at cx;rw[← xp,d9]at cy
  have HDr:Hid (x.drop i=y.drop i):=by
   have e1:=sV (l:=x) (i:=i) (by have:=HL.out;omega);have e2:=sV (l:=y) (i:=i) (by have:=HL.out;omega);rw[Hid,e1,e2,HN.out.1,HN.out.2,HQ.out]
  have HK:=Hh Ot;have Sq:IntKind.i64.wrap ((i:Int)-1)=(i:Int)-1:=IntWalk.i64_in _ (by omega);clear xp d9 h0 Ot;go_upto_region 4 with fail
  refine zr 7 (fun wx=>wx.cell? ⟨w.heap.size,i,none⟩=some (.int .u64 (xi:Int))∧wx.cell? ⟨w.heap.size+1,i,none⟩=some (.int .u64 (xi:Int))) (by kernel_rfl) (⟨cx,cy⟩) (fun zy=>?_)
  refine TkS 0 rfl zy ?_
  refine TkS 1 rfl zy ?_
  refine TkS 2 rfl zy ?_
  refine TkS 3 rfl zy ?_
  refine TkS 4 rfl zy ?_
  refine TkS 5 rfl zy ?_
  refine TkS 6 rfl zy ?_
  refine Wd ?_
  clear zy;have eE:=hX.drew;have hY2:=hY.drew;have zD:=hb.drew;clear cx cy hX hY hb;go_wp2_with fail
  go_roundw
  case rel=>exact⟨i,rfl,by have:=HK.out;omega,HDr.out,eE,hY2,zD⟩
  case measure=>simp[intOf]
 have HC:=Hh (bf i x y HW.out.1 HW.out.2 (by have:=HL.out;omega) (by have:=HL.out;omega) HQ.out xp);obtain⟨xi,d9⟩:∃ n,yD x i=n:=⟨_,rfl⟩
 obtain⟨yi,En⟩:∃ n,yD y i=n:=⟨_,rfl⟩
 rw[d9,En]at xp HC;rw[d9]at cx;rw[En]at cy;have zAm:((xi:Int) != (yi:Int))=true:=by rw[bne_iff_ne];omega
 have zAl:((xi:Int)=(yi:Int))=False:=eq_false (by omega)
 have E:Hid (decide (num x<num y)=decide (xi<yi)):=by
  rw[Hid,Bool.eq_iff_iff,decide_eq_true_eq,decide_eq_true_eq,HC.out]
 clear xp d9 En h0;go_upto_region 4 with fail
 refine zr 7 (fun wx=>wx.cell? ⟨w.heap.size,i,none⟩=some (.int .u64 (xi:Int))∧wx.cell? ⟨w.heap.size+1,i,none⟩=some (.int .u64 (yi:Int))) (by kernel_rfl) (⟨cx,cy⟩) (fun zy=>?_)
 refine TkS 0 rfl zy ?_
 refine TkS 1 rfl zy ?_
 refine TkS 2 rfl zy ?_
 refine TkS 3 rfl zy ?_
 refine TkS 4 rfl zy ?_
 refine TkS 5 rfl zy ?_
 refine TkS 6 rfl zy ?_
 refine Wd ?_
 clear zy;go_upto_region 5 with fail
 refine zr 8 (fun wx=>wx.cell? ⟨w.heap.size,i,none⟩=some (.int .u64 (xi:Int))∧wx.cell? ⟨w.heap.size+1,i,none⟩=some (.int .u64 (yi:Int))) (by kernel_rfl) (⟨cx,cy⟩) (fun zy=>?_)
 refine TkS 0 rfl zy ?_
 refine TkS 1 rfl zy ?_
 refine TkS 2 rfl zy ?_
 refine TkS 3 rfl zy ?_
 refine TkS 4 rfl zy ?_
 refine TkS 5 rfl zy ?_
 refine TkS 6 rfl zy ?_
 refine TkS 7 rfl zy ?_
 refine Wd ?_
 clear zy;go_wp2_with fail
 go_ret
 exact⟨by rw[E.out];rfl,hb.drew.drew⟩
theorem dB {P:Program}(w:World) (op:BinOp) (hop:op=.add∨op=.sub∨op=.mul∨op=.quo) (t:TypeId) (x y:Nat) :
  ∃ r w',(binOp op t (.float .f64 x) (.float .f64 y)).run P w=.ok (.float .f64 r) w'∧(w'=w∨w'=w.drew):=by
 cases h:floatBits op .f64 x y with
 | some r=>exact⟨r,w,run_float_arith w op t .f64 x y r h,.inl rfl⟩
 | none =>
 have hb:binOp op t (.float .f64 x) (.float .f64 y)=Op.floatArith op .f64 x y:=by rcases hop with rfl | rfl | rfl | rfl <;> simp[binOp]
 have hf:(Op.floatArith op .f64 x y)=(do pure (.float .f64 (← choose (.nanBits .f64 x y)))):=by
  unfold floatBits at h
  rcases hop with rfl | rfl | rfl | rfl <;> simp only at h <;> simp[Op.floatArith,h]
 rw[hb,hf]
 simp only[Sem.run_bind,run_choose_drew]
 split
 ·exact⟨_,_,rfl,.inl rfl⟩
 exact⟨_,_,rfl,.inr rfl⟩
theorem ZU {P:Program}(w:World) (src dst:TypeId) (b:Nat) (hs:(P.underlying src).isSome=true) (hd:P.underlying dst=some (.int .u64)) :
  ∃ n:Nat,n<18446744073709551616∧∃ w',(convert src dst (.float .f64 b)).run P w=.ok (.int .u64 (n:Int)) w'∧(w'=w∨w'=w.drew):=by
 have bnd:∀ z:Int,∃ n:Nat,n<18446744073709551616∧IntKind.u64.wrap z=(n:Int):=fun z=>by
  rw[IntKind.wrap_u64]
  exact⟨(z%18446744073709551616).toNat,by omega,by omega⟩
 obtain⟨u,ME⟩:=Option.isSome_iff_exists.1 hs
 have hc:(convert src dst (.float .f64 b)).run P w=(Conv.floatToInt .f64 b .u64).run P w:=by
  cases u <;> simp[convert,run_underlying ME,run_underlying hd]
 rw[hc]
 unfold Conv.floatToInt
 split
 ·rename_i m he
  split
  ·rename_i hb
   have h1:(0:Int)≤m:=hb.1;have h2:m≤18446744073709551615:=hb.2
   exact⟨m.toNat,by omega,w,by rw[show((m.toNat:Nat):Int)=m by omega];rfl,.inl rfl⟩
  exact jbl
 exact jbl
theorem uW {P:Program}{w:World}{ops:Array Oper}{rest:List Oper}{o:Oper}{a:Act}{Q:Exit→Act→World→Prop}(hgd:o.guard=none) (op:BinOp) (t t2:TypeId) (x y:Operand) (ho:o.op=.binOp op t x y t2)
  (hop:op=.add∨op=.sub∨op=.mul∨op=.quo) (fx fy:Nat) (hx:a.eval x=.float .f64 fx) (hy:a.eval y=.float .f64 fy)
  (h:∀ r w',w'=w∨w'=w.drew→wpList P ops Q rest (a.put o.dst (.float .f64 r)) w'):wpList P ops Q (o::rest) a w:=by
 obtain⟨r,w',hr,hw⟩:=dB (P:=P) w op hop t fx fy
 refine wpList_plain hgd fun K hK=>?_
 unfold Oper.wp execOp
 have hg:(eqGuard op t x y (.float .f64 fx) (.float .f64 fy)).run P w=.ok () w:=by rcases hop with rfl | rfl | rfl | rfl <;> simp[eqGuard]
 simp only[ho,hx,hy,Sem.run_bind,hg,hr,Result.andThen_ok,Sem.run_pure]
 exact hK _ _ (h r w' hw)
theorem ks {P:Program}{w:World}{ops:Array Oper}{rest:List Oper}{o:Oper}{a:Act}{Q:Exit→Act→World→Prop}(hgd:o.guard=none) (src dst:TypeId) (x:Operand) (ho:o.op=.convert src dst x)
  (hs:(P.underlying src).isSome=true) (hd:P.underlying dst=some (.int .u64)) (fx:Nat) (hx:a.eval x=.float .f64 fx)
  (h:∀ (n:Nat) w',n<18446744073709551616→w'=w∨w'=w.drew→wpList P ops Q rest (a.put o.dst (.int .u64 (n:Int))) w'):wpList P ops Q (o::rest) a w:=by
 obtain⟨n,hn,w',hr,hw⟩:=ZU (P:=P) w src dst fx hs hd
 refine wpList_plain hgd fun K hK=>?_
 unfold Oper.wp execOp
 simp only[ho,hx,Sem.run_bind,hr,Result.andThen_ok,Sem.run_pure]
 exact hK _ _ (h n w' hn hw)
end Go.Proofs.YtkmlnjociijpgaaGreatDoor
