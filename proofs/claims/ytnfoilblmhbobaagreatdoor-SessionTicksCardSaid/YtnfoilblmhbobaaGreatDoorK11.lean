/- squeezed. The reference's SHA-256. Comparing -/
import Derived.Test.YtnfoilblmhbobaaGreatDoorK10
import Derived.Lib.Mul64
import Derived.Laws.Bits64
import Derived.Laws.Externs
set_option linter.unusedVariables false
set_option linter.unusedSimpArgs false
set_option maxRecDepth 100000
set_option maxHeartbeats 6400000
namespace Go.Proofs.YtnfoilblmhbobaaGreatDoor
open Go.RowKit
theorem oR:(Tryz.prog.info? 123).map (·.size)=some 8:=by kernel_rfl
theorem lS (w:World):Calls Tryz.prog 79 #[] w fun e w'=>e=.returned (.agg (vA vu))∧Below w.heap.size w w':=by
 have hB:=Blk.new w 123 (vA (List.replicate 8 0));have hb:=zb w (.cells (vA (List.replicate 8 0)) 123);go_enter Tryz.func79,Tryz.ntmps79
 go_wp2_with (with_reducible refine zx ?_)
 refine zr rfl _ _ _ rfl rfl w.heap.size (vA vu) rfl rfl _ _ hB oR (by simp[rV,lC]) (qH _) fun w2 xO us=>?_
 go_wp2_with fail
 refine wd rfl rfl xO rfl rfl oR rfl ?_
 exact⟨rfl,hb.grown us hb.size (by rintro q ⟨⟩;exact Nat.le_refl _)⟩
theorem sj {A:Option Addr}{c:Nat}{l:List UInt8}{n:Nat}(hn:n=l.length) (yU:l.length≤1099511627) (w:World) (hS:Src w A (l.map zm)) :
  Calls Tryz.prog 67 #[.slice A n c] w fun e w'=>∃ r,e=.returned r∧Fresh w (vB l) r w':=by
 have HN:=Hh (And.intro hn yU);have HS:=Hh hS;have hG:=Blk.new w 127 (yX (iP8 0));have hb:=zb w (.cells (yX (iP8 0)) 127);have IN:=Hh (lS (w.alloc (.cells (yX (iP8 0)) 127)));obtain⟨G,cm⟩:∃ G,w.heap.size=G:=⟨_,rfl⟩
 have XV:=Hh cm;rw[cm]at hG;clear hn yU hS cm;go_enter Tryz.func67,Tryz.ntmps67
 go_wp2_with fail
 rw[XV.out]
 refine IN.out.mono ?_
 rintro e w2 ⟨rfl,zO⟩
 have yw:=hG.below zO;have t9:=hb.trans (zO.mono hb.size);clear hG hb zO IN;go_wp2_with fail
 go_loopw [12] (fun v12 wx=>∃ i:Nat,v12=.int .i64 (i:Int)∧i≤8∧Blk wx G 127 (yX (iP8 i))∧Below w.heap.size w wx) (fun v12 _=>(8-intOf v12).toNat)
 case atStart=>exact⟨0,rfl,by omega,yw,t9⟩
 case round =>
 clear yw t9;obtain⟨i,rfl,hi,hG,hb⟩:=hrel
 by_cases z6:(i:Int)<8
 ·have Yg:i<8:=by omega
  have X0:=lX wr (vA vu) i (.int .u64 (yb vu i)) (i:Int) rfl Yg (mL vu i Yg);obtain⟨kw,fI⟩:∃ kw,yb vu i=kw:=⟨_,rfl⟩
  rw[fI]at X0;have Ut:=Hh fI;clear fI;go_wp2_with (with_reducible refine zx ?_)
  refine zv rfl _ _ _ rfl rfl G i (.int .u32 (yH kw)) rfl (by rfl) _ _ hG xC (by rw[xc,iN];exact Yg) rfl fun w9 tG hg9=>?_
  rw[vY,← Ut.out,← show iP8 (i+1)=(iP8 i).set i (yH (yb vu i)) from rfl]at tG;have rB:=hb.grown hg9 hb.size (by rintro q ⟨⟩;have:=XV.out;omega);clear hG hb hg9 X0;go_wp2_with fail
  go_roundw
  case rel=>exact⟨i+1,by go_num,by omega,tG,rB⟩
  case measure=>simp[intOf];omega
 obtain rfl:i=8:=by omega
 rw[Wt,← S8.cells_eq]at hG;rw[show((8:Nat):Int)=8 from rfl]at z6⊢;have PD:=Hh (bQ (c:=c) HN.out.1 HN.out.2 wr (HS.out.below hb));go_wp2_with fail
 refine PD.out.mono ?_
 rintro e w5 ⟨r5,rfl,xT⟩
 obtain⟨PA,pc,rfl,pN,cV,_⟩:=xT.own.form;have xv:=hG.below xT.2;have yv:=hb.trans (xT.2.mono hb.size)
 have Ux:Hid (∀ q,PA.map (·.block)=some q→G<q):=fun q hq=>by
  have h1:=(xT.own.lt q (by cases PA with | none=>cases hq | some p=>exact hq)).1;have h2:=hG.lt
  omega
 obtain⟨Hp,_,Xs,Xr,_,YS⟩:=xT.own.snap (H:=fun _=>none) (fun _ _ h=>by cases h) (fun _ _=>rfl)
 have Zr:Hid (∀ b o,Hp b=some o→G<b):=fun b o hb=>by
  rcases Xr b o hb with h | h
  ·cases h
  exact Ux.out b h
 have Xc:=Hh (mC l);have kv:0<(xe l).length:=by rw[Xc.out.1];omega
 obtain⟨pb,po,rfl,_⟩:=YS.at_ kv;obtain⟨m,hm⟩:∃ m,(xe l).length=m:=⟨_,rfl⟩
 have HM:=Hh hm;rw[hm]at pN⊢
 have sX:Hid (m≤1099511627776∧m≤pc∧pc≤9223372036854775807):=by
  refine⟨?_,pN,cV⟩
  have h1:=Xc.out.1;have h2:=nP l.length;have h3:=HN.out.2;rw[HM.out]at h1
  omega
 have Re:=Hh YS;clear hG hb xT PD Xr hm pN cV kv YS;go_wp2_with fail
 go_loopw [7] (fun v7 wx=>∃ k lo:Nat,v7=.int .i64 (lo:Int)∧Hid (lo=64*k)∧Hid (lo≤m)∧Holds wx Hp∧Blk wx G 127 (uN (xe l) k).cells∧Below w.heap.size w wx) (fun v7 _=>m-(intOf v7).toNat)
 case atStart=>exact⟨0,0,rfl,rfl,Nat.zero_le _,Xs,xv,yv⟩
 case round =>
 clear Xs xv yv;obtain⟨k,lo,rfl,mu,TQ,kq,hG,hb⟩:=hrel
 by_cases z6:(lo:Int)<(m:Int)
 ·have ag:Hid (lo+64≤m):=by have:=Xc.out;have:=HM.out;have:=mu.out;rw[Hid];omega
  have eP:IsBytes Hp (some ⟨pb,po+lo,none⟩) (pc-lo) (mV (xe l) k):=by
   have h:=Re.out.drop' lo (by rw[HM.out];exact TQ.out);rw[if_neg (by have:=sX.out;omega),Option.map_some,um]at h;have h2:=h.take' 64;rw[mu.out]at h2⊢
   exact h2
  have ei:(mV (xe l) k).length=64:=lp (by have:=mu.out;have:=ag.out;rw[HM.out];omega);have Wx:=Hh (And.intro eP ei);have TJ:=Hh (pk (xe l) k);obtain⟨s,hs⟩:∃ s,uN (xe l) k=s:=⟨_,rfl⟩
  rw[hs]at hG TJ;obtain⟨a0,a1,a2,a3,a4,a5,a6,a7⟩:=s;obtain⟨eg,an⟩:∃ h,lo+64=h:=⟨_,rfl⟩
  have Uq:=Hh an;have vT:IntKind.i64.wrap ((lo:Int)+64)=(eg:Int):=by rw[← an,Int.natCast_add];exact IntWalk.i64_in _ (by have:=sX.out;have:=ag.out;omega)
  have b1:(lo:Int)≤(eg:Int):=by omega
  have b2:(eg:Int)≤(pc:Int):=by have:=sX.out;have:=ag.out;omega
  have b3:¬ (pc=lo):=by have:=sX.out;have:=ag.out;omega
  have b4:eg-lo=64:=by omega
  clear eP ei hs an hi;replace kq:=kq.drew;replace hG:=hG.drew;replace hb:=hb.drew;go_upto_region 11 with fail
  refine zp 7 (fun wx=>wx.cell? ⟨G,0,none⟩=some (.int .u32 a0)∧wx.cell? ⟨G,1,none⟩=some (.int .u32 a1)∧wx.cell? ⟨G,2,none⟩=some (.int .u32 a2)∧wx.cell? ⟨G,3,none⟩=some (.int .u32 a3)∧wx.cell? ⟨G,4,none⟩=some (.int .u32 a4)∧wx.cell? ⟨G,5,none⟩=some (.int .u32 a5)∧wx.cell? ⟨G,6,none⟩=some (.int .u32 a6)∧wx.cell? ⟨G,7,none⟩=some (.int .u32 a7)) (by kernel_rfl) (⟨hG.cell 0 rfl,hG.cell 1 rfl,hG.cell 2 rfl,hG.cell 3 rfl,hG.cell 4 rfl,hG.cell 5 rfl,hG.cell 6 rfl,hG.cell 7 rfl⟩) (fun zy=>?_)
  refine Tk 0 rfl zy ?_
  refine Tk 1 rfl zy ?_
  refine Tk 2 rfl zy ?_
  refine Tk 3 rfl zy ?_
  refine Tk 4 rfl zy ?_
  refine Tk 5 rfl zy ?_
  refine To 6 rfl fun K hK=>?_
  go_simp
  refine(nF Wx.out.1 Wx.out.2 ⟨a0,a1,a2,a3,a4,a5,a6,a7⟩ _ kq).mono ?_
  rintro e w6 ⟨rfl,wT⟩
  replace kq:=kq.below wT (Nat.le_refl _);replace hG:=hG.below wT;replace hb:=hb.trans (wT.mono hb.size);clear wT;rw[← TJ.out];clear zy
  refine hK.out _ _ (fun _=>?_) (fun zy=>?_)
  ·exact⟨hG.cell 0 rfl,hG.cell 1 rfl,hG.cell 2 rfl,hG.cell 3 rfl,hG.cell 4 rfl,hG.cell 5 rfl,hG.cell 6 rfl,hG.cell 7 rfl⟩
  clear hK K;replace zy:=zy (by decide)
  try simp only[Act.put,zz1,zz2,zz3,zz4,zz5,zz6]
  refine To 7 rfl fun K hK=>?_
  rw[if_pos (by rfl)]
  refine zD _ _ _ rfl G (uN (xe l) (k+1)).cells rfl rfl _ _ hG sJ rfl (S8.one _) fun w9 tG hg9=>?_
  refine Kz hK ?_
  clear hK K
  refine Wd ?_
  clear zy;have rB:=hb.grown hg9 hb.size (by rintro q ⟨⟩;have:=XV.out;omega)
  have UQ:Holds w9 Hp:=kq.grown hg9 (by
   rintro q ⟨⟩
   cases hq:Hp G with
   | none=>rfl
   | some o=>have:=Zr.out _ _ hq;omega)
  clear hG hb kq hg9;go_wp2_with fail
  go_roundw
  case rel=>exact⟨k+1,eg,rfl,by have:=mu.out;have:=Uq.out;rw[Hid];omega,by have:=Uq.out;have:=ag.out;rw[Hid];omega,UQ,tG,rB⟩
  case measure=>have:=Uq.out;have:=ag.out;simp[intOf];omega
 have fY:k=(xe l).length/64:=by have:=mu.out;have:=HM.out;have:=TQ.out;omega
 rw[fY]at hG;have Zu:Hid ((uN (xe l) ((xe l).length/64)).list.flatMap xt=vB l):=rfl;obtain⟨s,hs⟩:∃ s,uN (xe l) ((xe l).length/64)=s:=⟨_,rfl⟩
 rw[hs]at hG Zu;rw[← eF]at Zu;obtain⟨a0,a1,a2,a3,a4,a5,a6,a7⟩:=s;have tM:=Hh (fun i hi=>mB ⟨a0,a1,a2,a3,a4,a5,a6,a7⟩ i hi);have mg:=Hh (fun i hi=>oH ⟨a0,a1,a2,a3,a4,a5,a6,a7⟩ i hi);clear hs fY kq hi;have q0:=hG.cell 0 (v:=.int .u32 a0) rfl;have q1:=hG.cell 1 (v:=.int .u32 a1) rfl;have q2:=hG.cell 2 (v:=.int .u32 a2) rfl;have q3:=hG.cell 3 (v:=.int .u32 a3) rfl;have q4:=hG.cell 4 (v:=.int .u32 a4) rfl;have q5:=hG.cell 5 (v:=.int .u32 a5) rfl;have q6:=hG.cell 6 (v:=.int .u32 a6) rfl;have q7:=hG.cell 7 (v:=.int .u32 a7) rfl;have rB:=hb;clear hG hb;go_wp2_with fail
 go_loopw [8,38] (fun v10 v51 wx=>∃ (i mo co:Nat) (VO:Option Addr),v10=.slice VO mo co∧v51=.int .i64 (i:Int)∧i≤8∧Hid (mo=4*i)∧OwnB wx w.heap.size (.slice VO mo co) (nh ⟨a0,a1,a2,a3,a4,a5,a6,a7⟩ i)∧Below w.heap.size w wx) (fun _ v51 _=>(8-intOf v51).toNat)
 case atStart=>exact⟨0,0,0,none,rfl,rfl,by omega,rfl,OwnB.nil _ _,rB⟩
 case round =>
 clear q0 q1 q2 q3 q4 q5 q6 q7 rB;obtain⟨i,mo,co,VO,rfl,rfl,hi,Rs,hO,hb⟩:=hrel
 rcases(show i=0∨i=1∨i=2∨i=3∨i=4∨i=5∨i=6∨i=7∨i=8 by omega) with rfl | rfl | rfl | rfl | rfl | rfl | rfl | rfl | rfl
 ·have X0:=zM wr #[.int .u32 a0,.int .u32 a1,.int .u32 a2,.int .u32 a3,.int .u32 a4,.int .u32 a5,.int .u32 a6,.int .u32 a7] 0 (.int .u32 a0) 0 rfl (by omega) rfl;go_wp2_with (at_builtin;refine zn ?_)
  unfold zj
  clear X0;have zK:=hO.alloc (.cells #[.int .u8 (a0/16777216%256),.int .u8 (a0/65536%256),.int .u8 (a0/256%256),.int .u8 (a0%256)] 5);have zd:=hb.alloc hb.size (.cells #[.int .u8 (a0/16777216%256),.int .u8 (a0/65536%256),.int .u8 (a0/256%256),.int .u8 (a0%256)] 5)
  refine zw rfl (.tmp 41) (.tmp 53) rfl w.heap.size _ _ rfl zK _ 4 _ (xt a0) rfl rfl (Src.new _ _ _ _ rfl _ (by rw[zN])) (by rw[tM.out 0 (by omega),yr];omega) zd.size fun v' w5 zV hg5 hat5=>?_
  have yv:=zu zd hg5 (fun q hq=>(hO.lt q hq).1);replace zV:=(mg.out 0 (by omega)) ▸ zV;obtain⟨A5,c5,rfl,_⟩:=zV.form;rw[tM.out (0+1) (by omega)]at zV⊢;clear hO hb zK zd hg5 hat5;go_wp2_with fail
  go_roundw
  case rel=>exact⟨1,_,c5,A5,rfl,by go_num,by omega,rfl,zV,yv⟩
  case measure=>simp[intOf]
 ·have X0:=zM wr #[.int .u32 a0,.int .u32 a1,.int .u32 a2,.int .u32 a3,.int .u32 a4,.int .u32 a5,.int .u32 a6,.int .u32 a7] 1 (.int .u32 a1) 1 rfl (by omega) rfl;go_wp2_with (at_builtin;refine zn ?_)
  unfold zj
  clear X0;have zK:=hO.alloc (.cells #[.int .u8 (a1/16777216%256),.int .u8 (a1/65536%256),.int .u8 (a1/256%256),.int .u8 (a1%256)] 5);have zd:=hb.alloc hb.size (.cells #[.int .u8 (a1/16777216%256),.int .u8 (a1/65536%256),.int .u8 (a1/256%256),.int .u8 (a1%256)] 5)
  refine zw rfl (.tmp 41) (.tmp 53) rfl w.heap.size _ _ rfl zK _ 4 _ (xt a1) rfl rfl (Src.new _ _ _ _ rfl _ (by rw[zN])) (by rw[tM.out 1 (by omega),yr];omega) zd.size fun v' w5 zV hg5 hat5=>?_
  have yv:=zu zd hg5 (fun q hq=>(hO.lt q hq).1);replace zV:=(mg.out 1 (by omega)) ▸ zV;obtain⟨A5,c5,rfl,_⟩:=zV.form;rw[tM.out (1+1) (by omega)]at zV⊢;clear hO hb zK zd hg5 hat5;go_wp2_with fail
  go_roundw
  case rel=>exact⟨2,_,c5,A5,rfl,by go_num,by omega,rfl,zV,yv⟩
  case measure=>simp[intOf]
 ·have X0:=zM wr #[.int .u32 a0,.int .u32 a1,.int .u32 a2,.int .u32 a3,.int .u32 a4,.int .u32 a5,.int .u32 a6,.int .u32 a7] 2 (.int .u32 a2) 2 rfl (by omega) rfl;go_wp2_with (at_builtin;refine zn ?_)
  unfold zj
  clear X0;have zK:=hO.alloc (.cells #[.int .u8 (a2/16777216%256),.int .u8 (a2/65536%256),.int .u8 (a2/256%256),.int .u8 (a2%256)] 5);have zd:=hb.alloc hb.size (.cells #[.int .u8 (a2/16777216%256),.int .u8 (a2/65536%256),.int .u8 (a2/256%256),.int .u8 (a2%256)] 5)
  refine zw rfl (.tmp 41) (.tmp 53) rfl w.heap.size _ _ rfl zK _ 4 _ (xt a2) rfl rfl (Src.new _ _ _ _ rfl _ (by rw[zN])) (by rw[tM.out 2 (by omega),yr];omega) zd.size fun v' w5 zV hg5 hat5=>?_
  have yv:=zu zd hg5 (fun q hq=>(hO.lt q hq).1);replace zV:=(mg.out 2 (by omega)) ▸ zV;obtain⟨A5,c5,rfl,_⟩:=zV.form;rw[tM.out (2+1) (by omega)]at zV⊢;clear hO hb zK zd hg5 hat5;go_wp2_with fail
  go_roundw
  case rel=>exact⟨3,_,c5,A5,rfl,by go_num,by omega,rfl,zV,yv⟩
  case measure=>simp[intOf]
 ·have X0:=zM wr #[.int .u32 a0,.int .u32 a1,.int .u32 a2,.int .u32 a3,.int .u32 a4,.int .u32 a5,.int .u32 a6,.int .u32 a7] 3 (.int .u32 a3) 3 rfl (by omega) rfl;go_wp2_with (at_builtin;refine zn ?_)
  unfold zj
  clear X0;have zK:=hO.alloc (.cells #[.int .u8 (a3/16777216%256),.int .u8 (a3/65536%256),.int .u8 (a3/256%256),.int .u8 (a3%256)] 5);have zd:=hb.alloc hb.size (.cells #[.int .u8 (a3/16777216%256),.int .u8 (a3/65536%256),.int .u8 (a3/256%256),.int .u8 (a3%256)] 5)
  refine zw rfl (.tmp 41) (.tmp 53) rfl w.heap.size _ _ rfl zK _ 4 _ (xt a3) rfl rfl (Src.new _ _ _ _ rfl _ (by rw[zN])) (by rw[tM.out 3 (by omega),yr];omega) zd.size fun v' w5 zV hg5 hat5=>?_
  have yv:=zu zd hg5 (fun q hq=>(hO.lt q hq).1);replace zV:=(mg.out 3 (by omega)) ▸ zV;obtain⟨A5,c5,rfl,_⟩:=zV.form;rw[tM.out (3+1) (by omega)]at zV⊢;clear hO hb zK zd hg5 hat5;go_wp2_with fail
  go_roundw
  case rel=>exact⟨4,_,c5,A5,rfl,by go_num,by omega,rfl,zV,yv⟩
  case measure=>simp[intOf]
 ·have X0:=zM wr #[.int .u32 a0,.int .u32 a1,.int .u32 a2,.int .u32 a3,.int .u32 a4,.int .u32 a5,.int .u32 a6,.int .u32 a7] 4 (.int .u32 a4) 4 rfl (by omega) rfl;go_wp2_with (at_builtin;refine zn ?_)
  unfold zj
  clear X0;have zK:=hO.alloc (.cells #[.int .u8 (a4/16777216%256),.int .u8 (a4/65536%256),.int .u8 (a4/256%256),.int .u8 (a4%256)] 5);have zd:=hb.alloc hb.size (.cells #[.int .u8 (a4/16777216%256),.int .u8 (a4/65536%256),.int .u8 (a4/256%256),.int .u8 (a4%256)] 5)
  refine zw rfl (.tmp 41) (.tmp 53) rfl w.heap.size _ _ rfl zK _ 4 _ (xt a4) rfl rfl (Src.new _ _ _ _ rfl _ (by rw[zN])) (by rw[tM.out 4 (by omega),yr];omega) zd.size fun v' w5 zV hg5 hat5=>?_
  have yv:=zu zd hg5 (fun q hq=>(hO.lt q hq).1);replace zV:=(mg.out 4 (by omega)) ▸ zV;obtain⟨A5,c5,rfl,_⟩:=zV.form;rw[tM.out (4+1) (by omega)]at zV⊢;clear hO hb zK zd hg5 hat5;go_wp2_with fail
  go_roundw
  case rel=>exact⟨5,_,c5,A5,rfl,by go_num,by omega,rfl,zV,yv⟩
  case measure=>simp[intOf]
 ·have X0:=zM wr #[.int .u32 a0,.int .u32 a1,.int .u32 a2,.int .u32 a3,.int .u32 a4,.int .u32 a5,.int .u32 a6,.int .u32 a7] 5 (.int .u32 a5) 5 rfl (by omega) rfl;go_wp2_with (at_builtin;refine zn ?_)
  unfold zj
  clear X0;have zK:=hO.alloc (.cells #[.int .u8 (a5/16777216%256),.int .u8 (a5/65536%256),.int .u8 (a5/256%256),.int .u8 (a5%256)] 5);have zd:=hb.alloc hb.size (.cells #[.int .u8 (a5/16777216%256),.int .u8 (a5/65536%256),.int .u8 (a5/256%256),.int .u8 (a5%256)] 5)
  refine zw rfl (.tmp 41) (.tmp 53) rfl w.heap.size _ _ rfl zK _ 4 _ (xt a5) rfl rfl (Src.new _ _ _ _ rfl _ (by rw[zN])) (by rw[tM.out 5 (by omega),yr];omega) zd.size fun v' w5 zV hg5 hat5=>?_
  have yv:=zu zd hg5 (fun q hq=>(hO.lt q hq).1);replace zV:=(mg.out 5 (by omega)) ▸ zV;obtain⟨A5,c5,rfl,_⟩:=zV.form;rw[tM.out (5+1) (by omega)]at zV⊢;clear hO hb zK zd hg5 hat5;go_wp2_with fail
  go_roundw
  case rel=>exact⟨6,_,c5,A5,rfl,by go_num,by omega,rfl,zV,yv⟩
  case measure=>simp[intOf]
 ·have X0:=zM wr #[.int .u32 a0,.int .u32 a1,.int .u32 a2,.int .u32 a3,.int .u32 a4,.int .u32 a5,.int .u32 a6,.int .u32 a7] 6 (.int .u32 a6) 6 rfl (by omega) rfl;go_wp2_with (at_builtin;refine zn ?_)
  unfold zj
  clear X0;have zK:=hO.alloc (.cells #[.int .u8 (a6/16777216%256),.int .u8 (a6/65536%256),.int .u8 (a6/256%256),.int .u8 (a6%256)] 5);have zd:=hb.alloc hb.size (.cells #[.int .u8 (a6/16777216%256),.int .u8 (a6/65536%256),.int .u8 (a6/256%256),.int .u8 (a6%256)] 5)
  refine zw rfl (.tmp 41) (.tmp 53) rfl w.heap.size _ _ rfl zK _ 4 _ (xt a6) rfl rfl (Src.new _ _ _ _ rfl _ (by rw[zN])) (by rw[tM.out 6 (by omega),yr];omega) zd.size fun v' w5 zV hg5 hat5=>?_
  have yv:=zu zd hg5 (fun q hq=>(hO.lt q hq).1);replace zV:=(mg.out 6 (by omega)) ▸ zV;obtain⟨A5,c5,rfl,_⟩:=zV.form;rw[tM.out (6+1) (by omega)]at zV⊢;clear hO hb zK zd hg5 hat5;go_wp2_with fail
  go_roundw
  case rel=>exact⟨7,_,c5,A5,rfl,by go_num,by omega,rfl,zV,yv⟩
  case measure=>simp[intOf]
 ·have X0:=zM wr #[.int .u32 a0,.int .u32 a1,.int .u32 a2,.int .u32 a3,.int .u32 a4,.int .u32 a5,.int .u32 a6,.int .u32 a7] 7 (.int .u32 a7) 7 rfl (by omega) rfl;go_wp2_with (at_builtin;refine zn ?_)
  unfold zj
  clear X0;have zK:=hO.alloc (.cells #[.int .u8 (a7/16777216%256),.int .u8 (a7/65536%256),.int .u8 (a7/256%256),.int .u8 (a7%256)] 5);have zd:=hb.alloc hb.size (.cells #[.int .u8 (a7/16777216%256),.int .u8 (a7/65536%256),.int .u8 (a7/256%256),.int .u8 (a7%256)] 5)
  refine zw rfl (.tmp 41) (.tmp 53) rfl w.heap.size _ _ rfl zK _ 4 _ (xt a7) rfl rfl (Src.new _ _ _ _ rfl _ (by rw[zN])) (by rw[tM.out 7 (by omega),yr];omega) zd.size fun v' w5 zV hg5 hat5=>?_
  have yv:=zu zd hg5 (fun q hq=>(hO.lt q hq).1);replace zV:=(mg.out 7 (by omega)) ▸ zV;obtain⟨A5,c5,rfl,_⟩:=zV.form;rw[tM.out (7+1) (by omega)]at zV⊢;clear hO hb zK zd hg5 hat5;go_wp2_with fail
  go_roundw
  case rel=>exact⟨8,_,c5,A5,rfl,by go_num,by omega,rfl,zV,yv⟩
  case measure=>simp[intOf]
 rw[Zu.out]at hO;go_wp2_with fail
 go_ret
 exact⟨_,rfl,by have h:=hO.form;obtain⟨_,_,e,_⟩:=h;exact⟨hO,hb⟩⟩
end Go.Proofs.YtnfoilblmhbobaaGreatDoor
namespace Go.Proofs.YtnfoilblmhbobaaGreatDoor
theorem nO:∀ (k:Nat) (x y:List Nat),W64 x→W64 y→k<x.length→k<y.length→x.drop (k+1)=y.drop (k+1)→zF x k≠zF y k→(num x<num y↔zF x k<zF y k)
 | _,[],_,_,_,h,_,_,_=>by simp at h
 | _,_::_,[],_,_,_,h,_,_=>by simp at h
 | 0,a::x,b::y,hx,hy,_,_,hd,ww=>by
  have e:x=y:=by simpa using hd
  have h1:a<18446744073709551616:=hx a (by simp);have h2:b<18446744073709551616:=hy b (by simp);subst e;have e1:num (a::x)=a+18446744073709551616*num x:=rfl;have e2:num (b::x)=b+18446744073709551616*num x:=rfl;have e3:zF (a::x) 0=a:=rfl;have e4:zF (b::x) 0=b:=rfl;rw[e1,e2,e3,e4]
  omega
 | k+1,a::x,b::y,hx,hy,hkx,hky,hd,ww=>by
  have g1:zF (a::x) (k+1)=zF x k:=rfl;have g2:zF (b::y) (k+1)=zF y k:=rfl;rw[g1,g2]at ww⊢;have UH:W64 x:=fun c hc=>hx c (by simp[hc])
  have az:W64 y:=fun c hc=>hy c (by simp[hc])
  have i1:=nO k x y UH az (by simpa using hkx) (by simpa using hky) (by simpa using hd) ww;have i2:=nO k y x az UH (by simpa using hky) (by simpa using hkx) (by simpa using hd.symm) (Ne.symm ww);have h1:a<18446744073709551616:=hx a (by simp);have h2:b<18446744073709551616:=hy b (by simp);have e1:num (a::x)=a+18446744073709551616*num x:=rfl;have e2:num (b::y)=b+18446744073709551616*num y:=rfl;rw[e1,e2]
  omega
theorem gJ {a k n B:Nat}(h:k≤n) (hn:a ^ n<B) (hk:0<k):a ^ k<B:=by
 rcases Nat.eq_zero_or_pos a with h0 | h0
 ·subst h0;rw[Nat.zero_pow (show 0<n by omega)]at hn;rw[Nat.zero_pow hk]
  exact hn
 exact Nat.lt_of_le_of_lt (Nat.pow_le_pow_right h0 h) hn
theorem uv {α:Type}{l:List α}(h:l.length=4):∃ a b c d,l=[a,b,c,d]:=by
 match l,h with
 | [a,b,c,d],_=>exact⟨a,b,c,d,rfl⟩
end Go.Proofs.YtnfoilblmhbobaaGreatDoor
namespace Go.Proofs.YtnfoilblmhbobaaGreatDoor
theorem mG {p n N:Nat}(hn:n=2∨n=3) (hp:p<1000) (h:N ^ n≤p*18446744073709551616 ^ n):N<32*18446744073709551616:=by
 apply Nat.lt_of_not_le
 intro hN
 have h1:=Nat.pow_le_pow_left hN n;have h2:(32*18446744073709551616) ^ n=32 ^ n*18446744073709551616 ^ n:=Nat.mul_pow _ _ _
 have h3:p*18446744073709551616 ^ n<32 ^ n*18446744073709551616 ^ n:=by
  apply Nat.mul_lt_mul_of_pos_right
  ·rcases hn with rfl | rfl <;> omega
  exact Nat.pow_pos (by decide)
 omega
theorem vl {n N:Nat}(hn:n=2∨n=3) (h:N≤34*18446744073709551616):N ^ n<18446744073709551616 ^ 4:=by
 have h1:=Nat.pow_le_pow_left h n;have h2:(34*18446744073709551616) ^ n<18446744073709551616 ^ 4:=by rcases hn with rfl | rfl <;> decide
 omega
theorem mH {p n N:Nat}(hp:1≤p) (h:p*18446744073709551616 ^ n<N ^ n):18446744073709551616<N:=by
 apply Nat.lt_of_not_le
 intro hN
 have h1:=Nat.pow_le_pow_left hN n;have h2:1*18446744073709551616 ^ n≤p*18446744073709551616 ^ n:=Nat.mul_le_mul_right _ hp
 omega
theorem iL {n p c N:Nat}(hn:n=2∨n=3) (hc:c<18446744073709551616) (hf:tx n p c=true) (h1:N ^ n≤p*18446744073709551616 ^ n) (h2:p*18446744073709551616 ^ n<(N+1) ^ n):N%18446744073709551616=c:=by
 unfold tx at hf
 rw[List.any_eq_true]at hf;obtain⟨w,_,hw⟩:=hf
 simp only[Bool.and_eq_true,decide_eq_true_eq]at hw
 have e:=lU (by omega) h1 h2 hw.1 hw.2;rw[e]
 omega
end Go.Proofs.YtnfoilblmhbobaaGreatDoor
namespace Go.Proofs.YtnfoilblmhbobaaGreatDoor
def rL (l:List Nat) (p:Nat):List Nat:=if l.all (fun q=>p%q != 0) then l++[p] else l
def xG:Nat→List Nat
 | 0=>[]
 | k+1=>rL (xG k) (k+2)
theorem gh (l:List Nat) (p:Nat):l.length≤(rL l p).length∧(rL l p).length≤l.length+1:=by
 unfold rL
 split <;> simp
theorem sp (a:Nat):∀ d,(xG a).length≤(xG (a+d)).length
 | 0=>Nat.le_refl _
 | d+1=>Nat.le_trans (sp a d) (gh _ _).1
theorem gm:(xG 309).length=63:=by kernel_rfl
theorem oW:xG 310=xx.take 64:=by kernel_rfl
theorem dv {k:Nat}(h:(xG k).length<64):k≤309:=by
 apply Nat.le_of_not_lt
 intro hk
 have h1:=sp 310 (k-310);rw[show 310+(k-310)=k by omega,oW]at h1;have h2:(xx.take 64).length=64:=rfl
 omega
theorem jn {k:Nat}(h1:k≤310) (h2:¬ (xG k).length<64):xG k=xx.take 64:=by
 have h3:k=310:=by
  rcases Nat.lt_or_ge k 310 with h | h
  ·have h4:=sp k (309-k);rw[show k+(309-k)=309 by omega,gm]at h4
   omega
  omega
 rw[h3,oW]
theorem oX:∀ k,∀ q∈xG k,2≤q∧q≤k+1
 | 0,q,h=>by simp[xG]at h
 | k+1,q,h=>by
  have ih:=oX k q;rw[xG,rL]at h
  split at h
  ·rw[List.mem_append]at h
   rcases h with h | h
   ·have:=ih h;omega
   simp at h;omega
  have:=ih h;omega
theorem ox {α:Type}(f:α→Bool) (l:List α) (j:Nat) (hj:j<l.length):(l.take (j+1)).all f=((l.take j).all f&&f l[j]):=by
 rw[List.take_succ_eq_append_getElem hj,List.all_append]
 simp
theorem gi {l:List Nat}{p:Nat}(h:l.all (fun q=>p%q != 0)=true):rL l p=l++[p]:=if_pos h
theorem dr {l:List Nat}{p:Nat}(h:l.all (fun q=>p%q != 0)=false):rL l p=l:=if_neg (by rw[h];decide)
end Go.Proofs.YtnfoilblmhbobaaGreatDoor
namespace Go.Proofs.YtnfoilblmhbobaaGreatDoor
open Go.RowKit
theorem se (x:Nat) (hx:x<18446744073709551616):bits .and .u64 (x:Int) 4294967295=((x%4294967296:Nat):Int):=by
 have h1:(BitVec.ofInt 64 (x:Int)).toNat=x:=by
  rw[BitVec.ofInt_natCast,BitVec.toNat_ofNat];exact Nat.mod_eq_of_lt (by omega)
 have h2:(BitVec.ofInt 64 (4294967295:Int)).toNat=4294967295:=by decide
 show IntKind.u64.wrap ((BitVec.ofInt 64 (x:Int) &&& BitVec.ofInt 64 4294967295).toNat:Int)=_
 have h3:x &&& 4294967295=x%4294967296:=by
  have:=Nat.and_two_pow_sub_one_eq_mod x 32
  simpa using this
 rw[BitVec.toNat_and,h1,h2,h3,IntKind.wrap_u64]
 omega
theorem yy (n:Nat) (h:n<18446744073709551616):IntKind.u64.wrap (n:Int)=(n:Int):=IntWalk.u64_in _ (by omega)
theorem j8 (x y:Nat) (hx:x<18446744073709551616) (hy:y<18446744073709551616) (w:World) :
  Calls Tryz.prog 112 #[.int .u64 (x:Int),.int .u64 (y:Int)] w fun e w' =>
   e=.returned (.tuple #[.int .u64 ((x*y/18446744073709551616:Nat):Int),.int .u64 ((x*y%18446744073709551616:Nat):Int)])∧w=w':=by
 obtain⟨l1,l2,l3,l4⟩:=Lib.mul64_hi x y hx hy;have A1:bits .and .u64 (x:Int) 4294967295=((x%4294967296:Nat):Int):=se x hx;have A2:bits .and .u64 (y:Int) 4294967295=((y%4294967296:Nat):Int):=se y hy;have D1:(x:Int)/4294967296=((x/4294967296:Nat):Int):=by omega
 have D2:(y:Int)/4294967296=((y/4294967296:Nat):Int):=by omega
 have dB:IntKind.u64.wrap ((x:Int)*(y:Int))=((x*y%18446744073709551616:Nat):Int):=by rw[IntKind.wrap_u64,← Int.natCast_mul];omega
 have n6:=Lib.half_mul_le (a:=x/4294967296) (b:=y%4294967296) (by omega) (by omega);have j4:=Lib.half_mul_le (a:=x%4294967296) (b:=y/4294967296) (by omega) (by omega);have kY:=Lib.half_mul_le (a:=x/4294967296) (b:=y/4294967296) (by omega) (by omega);obtain⟨lo,Zg⟩:∃ n,x*y%18446744073709551616=n:=⟨_,rfl⟩
 obtain⟨hi,bZ⟩:∃ n,x*y/18446744073709551616=n:=⟨_,rfl⟩
 have an:hi<18446744073709551616:=by
  rw[← bZ];have:=Nat.mul_le_mul (show x≤18446744073709551615 by omega) (show y≤18446744073709551615 by omega)
  omega
 rw[Zg]at dB;rw[Zg,bZ];rw[bZ]at l4;obtain⟨x0,ax⟩:∃ n,x%4294967296=n:=⟨_,rfl⟩
 obtain⟨x1,sW⟩:∃ n,x/4294967296=n:=⟨_,rfl⟩
 obtain⟨y0,UI⟩:∃ n,y%4294967296=n:=⟨_,rfl⟩
 obtain⟨y1,UJ⟩:∃ n,y/4294967296=n:=⟨_,rfl⟩
 rw[ax]at A1 l1 l2 l3 l4 j4;rw[sW]at D1 l2 l3 l4 n6 kY;rw[UI]at A2 l1 l2 l3 l4 n6;rw[UJ]at D2 l3 l4 j4 kY;obtain⟨w0,Vv⟩:∃ n,x0*y0=n:=⟨_,rfl⟩
 obtain⟨p1,ky⟩:∃ n,x1*y0=n:=⟨_,rfl⟩
 obtain⟨p2,sd⟩:∃ n,x0*y1=n:=⟨_,rfl⟩
 obtain⟨p3,aN⟩:∃ n,x1*y1=n:=⟨_,rfl⟩
 rw[Vv]at l1 l2 l3 l4;rw[ky]at l2 l3 l4 n6;rw[sd]at l3 l4 j4;rw[aN]at l4 kY;have M0:IntKind.u64.wrap ((x0:Int)*(y0:Int))=(w0:Int):=by rw[← Int.natCast_mul,Vv];exact yy _ l1
 have M1:IntKind.u64.wrap ((x1:Int)*(y0:Int))=(p1:Int):=by rw[← Int.natCast_mul,ky];exact yy _ (by omega)
 have M2:IntKind.u64.wrap ((x0:Int)*(y1:Int))=(p2:Int):=by rw[← Int.natCast_mul,sd];exact yy _ (by omega)
 have M3:IntKind.u64.wrap ((x1:Int)*(y1:Int))=(p3:Int):=by rw[← Int.natCast_mul,aN];exact yy _ (by omega)
 clear ax sW UI UJ Vv ky sd aN n6 j4 Zg bZ;obtain⟨q0,ui⟩:∃ n,w0/4294967296=n:=⟨_,rfl⟩
 have D3:(w0:Int)/4294967296=(q0:Int):=by omega
 rw[ui]at l2 l3 l4;obtain⟨t,ht⟩:∃ n,p1+q0=n:=⟨_,rfl⟩
 rw[ht]at l2 l3 l4;have S1:IntKind.u64.wrap ((p1:Int)+(q0:Int))=(t:Int):=by rw[← Int.natCast_add,ht];exact yy _ l2
 have A3:=se t l2;obtain⟨w1,vT⟩:∃ n,t%4294967296=n:=⟨_,rfl⟩
 obtain⟨w2,tR⟩:∃ n,t/4294967296=n:=⟨_,rfl⟩
 have D4:(t:Int)/4294967296=(w2:Int):=by omega
 rw[vT]at A3 l3 l4;rw[tR]at l4;obtain⟨v,hv⟩:∃ n,w1+p2=n:=⟨_,rfl⟩
 rw[hv]at l3 l4;have S2:IntKind.u64.wrap ((w1:Int)+(p2:Int))=(v:Int):=by rw[← Int.natCast_add,hv];exact yy _ l3
 obtain⟨q1,j5⟩:∃ n,v/4294967296=n:=⟨_,rfl⟩
 have D5:(v:Int)/4294967296=(q1:Int):=by omega
 rw[j5]at l4;obtain⟨p4,cU⟩:∃ n,p3+w2=n:=⟨_,rfl⟩
 rw[cU]at l4;have S3:IntKind.u64.wrap ((p3:Int)+(w2:Int))=(p4:Int):=by rw[← Int.natCast_add,cU];exact yy _ (by omega)
 have S4:IntKind.u64.wrap ((p4:Int)+(q1:Int))=(hi:Int):=by rw[← Int.natCast_add,l4];exact yy _ an
 clear ui ht vT tR hv j5 cU l1 l2 l3 l4 kY an hx hy;go_enter Tryz.func112,Tryz.ntmps112
 go_wp2_with fail
 go_ret2
 exact⟨rfl,rfl⟩
open Extern.MathBitsCarry in
theorem gU (x y c:Nat) (hc:c≤1) (w:World):(callFunc 110 #[.int .u64 (x:Int),.int .u64 (y:Int),.int .u64 (c:Int)]).run Tryz.prog w =
  .ok (.value (.tuple #[.int .u64 (((x+y+c)%18446744073709551616:Nat):Int),.int .u64 (((x+y+c)/18446744073709551616:Nat):Int)])) w:=by
 rw[run_callFunc_extern Tryz.func110 (by kernel_rfl) (by kernel_rfl) (by kernel_rfl) (e:=fun args=>do
  let (x, y, c) ← three "Add64" args
  pure (pair ((x+y+c)%m64) ((x+y+c)/m64))) (by kernel_rfl)]
 rcases(show c=0∨c=1 by omega) with rfl | rfl
 ·rfl
 rfl
open Extern.MathBitsCarry in
theorem oN (x y c:Nat) (hc:c≤1) (w:World):(callFunc 109 #[.int .u64 (x:Int),.int .u64 (y:Int),.int .u64 (c:Int)]).run Tryz.prog w =
  .ok (.value (.tuple #[.int .u64 (((x+18446744073709551616-y-c)%18446744073709551616:Nat):Int),.int .u64 ((if x<y+c then 1 else 0:Nat):Int)])) w:=by
 rw[run_callFunc_extern Tryz.func109 (by kernel_rfl) (by kernel_rfl) (by kernel_rfl) (e:=fun args=>do
  let (x, y, b) ← three "Sub64" args
  pure (pair ((x+m64-y-b)%m64) (if x<y+b then 1 else 0))) (by kernel_rfl)]
 rcases(show c=0∨c=1 by omega) with rfl | rfl
 ·rfl
 rfl
end Go.Proofs.YtnfoilblmhbobaaGreatDoor
