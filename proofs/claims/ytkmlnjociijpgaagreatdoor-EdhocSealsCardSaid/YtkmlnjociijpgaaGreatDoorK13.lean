/- squeezed. The reference's SHA-256. Comparing -/
import Derived.Test.YtkmlnjociijpgaaGreatDoorK12
import Derived.Lib.Mul64
import Derived.Laws.Bits64
import Derived.Laws.Externs
set_option linter.unusedVariables false
set_option linter.unusedSimpArgs false
set_option maxRecDepth 100000
set_option maxHeartbeats 6400000
namespace Go.Proofs.YtkmlnjociijpgaaGreatDoor
open Go.RowKit
theorem jbp{P:Prop}(h:P:=by
 have zE:=zp zY zK (fun q hq=>(hO.lt q hq).1);replace zW:=(aX.out 0 (by omega)) ▸ zW;obtain⟨A5,c5,rfl,_⟩:=zW.form;rw[oe.out (0+1) (by omega)]at zW⊢;clear hO hb zJ zY zK hat5;go_wp2_with fail
 go_roundw
 case rel=>exact⟨1,_,c5,A5,rfl,by go_num,by omega,rfl,zW,zE⟩
 case measure=>simp[intOf]):P:=h
theorem jbq{P:Prop}(h:P:=by
 have zE:=zp zY zK (fun q hq=>(hO.lt q hq).1);replace zW:=(aX.out 1 (by omega)) ▸ zW;obtain⟨A5,c5,rfl,_⟩:=zW.form;rw[oe.out (1+1) (by omega)]at zW⊢;clear hO hb zJ zY zK hat5;go_wp2_with fail
 go_roundw
 case rel=>exact⟨2,_,c5,A5,rfl,by go_num,by omega,rfl,zW,zE⟩
 case measure=>simp[intOf]):P:=h
theorem jbr{P:Prop}(h:P:=by
 have zE:=zp zY zK (fun q hq=>(hO.lt q hq).1);replace zW:=(aX.out 2 (by omega)) ▸ zW;obtain⟨A5,c5,rfl,_⟩:=zW.form;rw[oe.out (2+1) (by omega)]at zW⊢;clear hO hb zJ zY zK hat5;go_wp2_with fail
 go_roundw
 case rel=>exact⟨3,_,c5,A5,rfl,by go_num,by omega,rfl,zW,zE⟩
 case measure=>simp[intOf]):P:=h
theorem jbs{P:Prop}(h:P:=by
 have zE:=zp zY zK (fun q hq=>(hO.lt q hq).1);replace zW:=(aX.out 3 (by omega)) ▸ zW;obtain⟨A5,c5,rfl,_⟩:=zW.form;rw[oe.out (3+1) (by omega)]at zW⊢;clear hO hb zJ zY zK hat5;go_wp2_with fail
 go_roundw
 case rel=>exact⟨4,_,c5,A5,rfl,by go_num,by omega,rfl,zW,zE⟩
 case measure=>simp[intOf]):P:=h
theorem jbt{P:Prop}(h:P:=by
 have zE:=zp zY zK (fun q hq=>(hO.lt q hq).1);replace zW:=(aX.out 4 (by omega)) ▸ zW;obtain⟨A5,c5,rfl,_⟩:=zW.form;rw[oe.out (4+1) (by omega)]at zW⊢;clear hO hb zJ zY zK hat5;go_wp2_with fail
 go_roundw
 case rel=>exact⟨5,_,c5,A5,rfl,by go_num,by omega,rfl,zW,zE⟩
 case measure=>simp[intOf]):P:=h
theorem jbu{P:Prop}(h:P:=by
 have zE:=zp zY zK (fun q hq=>(hO.lt q hq).1);replace zW:=(aX.out 5 (by omega)) ▸ zW;obtain⟨A5,c5,rfl,_⟩:=zW.form;rw[oe.out (5+1) (by omega)]at zW⊢;clear hO hb zJ zY zK hat5;go_wp2_with fail
 go_roundw
 case rel=>exact⟨6,_,c5,A5,rfl,by go_num,by omega,rfl,zW,zE⟩
 case measure=>simp[intOf]):P:=h
theorem jbv{P:Prop}(h:P:=by
 have zE:=zp zY zK (fun q hq=>(hO.lt q hq).1);replace zW:=(aX.out 6 (by omega)) ▸ zW;obtain⟨A5,c5,rfl,_⟩:=zW.form;rw[oe.out (6+1) (by omega)]at zW⊢;clear hO hb zJ zY zK hat5;go_wp2_with fail
 go_roundw
 case rel=>exact⟨7,_,c5,A5,rfl,by go_num,by omega,rfl,zW,zE⟩
 case measure=>simp[intOf]):P:=h
theorem jbw{P:Prop}(h:P:=by
 have zE:=zp zY zK (fun q hq=>(hO.lt q hq).1);replace zW:=(aX.out 7 (by omega)) ▸ zW;obtain⟨A5,c5,rfl,_⟩:=zW.form;rw[oe.out (7+1) (by omega)]at zW⊢;clear hO hb zJ zY zK hat5;go_wp2_with fail
 go_roundw
 case rel=>exact⟨8,_,c5,A5,rfl,by go_num,by omega,rfl,zW,zE⟩
 case measure=>simp[intOf]):P:=h
theorem jeu{P:Prop}(h:P:=by
 go_wp2_with fail
 go_ret2
 exact jaM):P:=h
theorem jfS{P:Prop}(h:P:=by have zJ:=hO.alloc (.cells #[.int .u8 (a0/16777216%256),.int .u8 (a0/65536%256),.int .u8 (a0/256%256),.int .u8 (a0%256)] 5);have zY:=hb.alloc hb.size (.cells #[.int .u8 (a0/16777216%256),.int .u8 (a0/65536%256),.int .u8 (a0/256%256),.int .u8 (a0%256)] 5);exact And.intro zJ zY):P:=h
theorem jfT{P:Prop}(h:P:=by have zJ:=hO.alloc (.cells #[.int .u8 (a1/16777216%256),.int .u8 (a1/65536%256),.int .u8 (a1/256%256),.int .u8 (a1%256)] 5);have zY:=hb.alloc hb.size (.cells #[.int .u8 (a1/16777216%256),.int .u8 (a1/65536%256),.int .u8 (a1/256%256),.int .u8 (a1%256)] 5);exact And.intro zJ zY):P:=h
theorem jfU{P:Prop}(h:P:=by have zJ:=hO.alloc (.cells #[.int .u8 (a2/16777216%256),.int .u8 (a2/65536%256),.int .u8 (a2/256%256),.int .u8 (a2%256)] 5);have zY:=hb.alloc hb.size (.cells #[.int .u8 (a2/16777216%256),.int .u8 (a2/65536%256),.int .u8 (a2/256%256),.int .u8 (a2%256)] 5);exact And.intro zJ zY):P:=h
theorem jfV{P:Prop}(h:P:=by have zJ:=hO.alloc (.cells #[.int .u8 (a3/16777216%256),.int .u8 (a3/65536%256),.int .u8 (a3/256%256),.int .u8 (a3%256)] 5);have zY:=hb.alloc hb.size (.cells #[.int .u8 (a3/16777216%256),.int .u8 (a3/65536%256),.int .u8 (a3/256%256),.int .u8 (a3%256)] 5);exact And.intro zJ zY):P:=h
theorem jfW{P:Prop}(h:P:=by have zJ:=hO.alloc (.cells #[.int .u8 (a4/16777216%256),.int .u8 (a4/65536%256),.int .u8 (a4/256%256),.int .u8 (a4%256)] 5);have zY:=hb.alloc hb.size (.cells #[.int .u8 (a4/16777216%256),.int .u8 (a4/65536%256),.int .u8 (a4/256%256),.int .u8 (a4%256)] 5);exact And.intro zJ zY):P:=h
theorem jfX{P:Prop}(h:P:=by have zJ:=hO.alloc (.cells #[.int .u8 (a5/16777216%256),.int .u8 (a5/65536%256),.int .u8 (a5/256%256),.int .u8 (a5%256)] 5);have zY:=hb.alloc hb.size (.cells #[.int .u8 (a5/16777216%256),.int .u8 (a5/65536%256),.int .u8 (a5/256%256),.int .u8 (a5%256)] 5);exact And.intro zJ zY):P:=h
theorem jfY{P:Prop}(h:P:=by have zJ:=hO.alloc (.cells #[.int .u8 (a6/16777216%256),.int .u8 (a6/65536%256),.int .u8 (a6/256%256),.int .u8 (a6%256)] 5);have zY:=hb.alloc hb.size (.cells #[.int .u8 (a6/16777216%256),.int .u8 (a6/65536%256),.int .u8 (a6/256%256),.int .u8 (a6%256)] 5);exact And.intro zJ zY):P:=h
theorem jfZ{P:Prop}(h:P:=by have zJ:=hO.alloc (.cells #[.int .u8 (a7/16777216%256),.int .u8 (a7/65536%256),.int .u8 (a7/256%256),.int .u8 (a7%256)] 5);have zY:=hb.alloc hb.size (.cells #[.int .u8 (a7/16777216%256),.int .u8 (a7/65536%256),.int .u8 (a7/256%256),.int .u8 (a7%256)] 5);exact And.intro zJ zY):P:=h
theorem jgr{P:Prop}(h:P:=by have X0:=yP wr #[.int .u32 a0,.int .u32 a1,.int .u32 a2,.int .u32 a3,.int .u32 a4,.int .u32 a5,.int .u32 a6,.int .u32 a7] 0 (.int .u32 a0) 0 rfl (by omega) rfl;exact X0):P:=h
theorem jgs{P:Prop}(h:P:=by have X0:=yP wr #[.int .u32 a0,.int .u32 a1,.int .u32 a2,.int .u32 a3,.int .u32 a4,.int .u32 a5,.int .u32 a6,.int .u32 a7] 1 (.int .u32 a1) 1 rfl (by omega) rfl;exact X0):P:=h
theorem jgt{P:Prop}(h:P:=by have X0:=yP wr #[.int .u32 a0,.int .u32 a1,.int .u32 a2,.int .u32 a3,.int .u32 a4,.int .u32 a5,.int .u32 a6,.int .u32 a7] 2 (.int .u32 a2) 2 rfl (by omega) rfl;exact X0):P:=h
theorem jgu{P:Prop}(h:P:=by have X0:=yP wr #[.int .u32 a0,.int .u32 a1,.int .u32 a2,.int .u32 a3,.int .u32 a4,.int .u32 a5,.int .u32 a6,.int .u32 a7] 3 (.int .u32 a3) 3 rfl (by omega) rfl;exact X0):P:=h
theorem jgv{P:Prop}(h:P:=by have X0:=yP wr #[.int .u32 a0,.int .u32 a1,.int .u32 a2,.int .u32 a3,.int .u32 a4,.int .u32 a5,.int .u32 a6,.int .u32 a7] 4 (.int .u32 a4) 4 rfl (by omega) rfl;exact X0):P:=h
theorem jgw{P:Prop}(h:P:=by have X0:=yP wr #[.int .u32 a0,.int .u32 a1,.int .u32 a2,.int .u32 a3,.int .u32 a4,.int .u32 a5,.int .u32 a6,.int .u32 a7] 5 (.int .u32 a5) 5 rfl (by omega) rfl;exact X0):P:=h
theorem jgx{P:Prop}(h:P:=by have X0:=yP wr #[.int .u32 a0,.int .u32 a1,.int .u32 a2,.int .u32 a3,.int .u32 a4,.int .u32 a5,.int .u32 a6,.int .u32 a7] 6 (.int .u32 a6) 6 rfl (by omega) rfl;exact X0):P:=h
theorem jgy{P:Prop}(h:P:=by have X0:=yP wr #[.int .u32 a0,.int .u32 a1,.int .u32 a2,.int .u32 a3,.int .u32 a4,.int .u32 a5,.int .u32 a6,.int .u32 a7] 7 (.int .u32 a7) 7 rfl (by omega) rfl;exact X0):P:=h
theorem jhH{P:Prop}(h:P:=by have oe:=Hh (fun i hi=>Zm ⟨a0,a1,a2,a3,a4,a5,a6,a7⟩ i hi);have aX:=Hh (fun i hi=>dW ⟨a0,a1,a2,a3,a4,a5,a6,a7⟩ i hi);exact And.intro oe aX):P:=h
theorem dq:(Tryz.prog.info? 243).map (·.size)=some 8:=by kernel_rfl
theorem Z6 (w:World):Calls Tryz.prog 213 #[] w fun e w'=>e=.returned (.agg (qO rW))∧Below w.heap.size w w':=by
 have hB:=Blk.new w 243 (qO (List.replicate 8 0));have hb:=zX w (.cells (qO (List.replicate 8 0)) 243);go_enter Tryz.func213,Tryz.ntmps213
 go_wp2_with (with_reducible refine zx ?_)
 refine zm rfl _ _ _ rfl rfl w.heap.size (qO rW) rfl rfl _ _ hB dq (by simp[kD,Yf]) (gQ _) fun w2 wm hg2=>?_
 go_wp2_with fail
 refine xU rfl rfl wm rfl rfl dq rfl ?_
 exact jde
theorem lp {A:Option Addr}{c:Nat}{l:List UInt8}{n:Nat}(hn:n=l.length) (wP:l.length≤1099511627) (w:World) (hS:Src w A (l.map zu)) :
  Calls Tryz.prog 193 #[.slice A n c] w fun e w'=>∃ r,e=.returned r∧Fresh w (qP l) r w':=by
 have HN:=Hh (And.intro hn wP);have HS:=Hh hS;have hG:=Blk.new w 247 (we (iP8 0));have hb:=zX w (.cells (we (iP8 0)) 247);have IN:=Hh (Z6 (w.alloc (.cells (we (iP8 0)) 247)));obtain⟨G,PJ⟩:∃ G,w.heap.size=G:=⟨_,rfl⟩
 have Mb:=Hh PJ;rw[PJ]at hG;clear hn wP hS PJ;go_enter Tryz.func193,Tryz.ntmps193
 go_wp2_with fail
 rw[Mb.out]
 refine IN.out.mono ?_
 rintro e w2 ⟨rfl,zD⟩
 have xq:=hG.below zD;have pf:=hb.trans (zD.mono hb.size);clear hG hb zD IN;go_wp2_with fail
 go_loopw [12] (fun v12 wx=>∃ i:Nat,v12=.int .i64 (i:Int)∧i≤8∧Blk wx G 247 (we (iP8 i))∧Below w.heap.size w wx) (fun v12 _=>(8-intOf v12).toNat)
 case atStart=>exact⟨0,rfl,by omega,xq,pf⟩
 case round =>
 clear xq pf;obtain⟨i,rfl,hi,hG,hb⟩:=hrel
 by_cases z9:(i:Int)<8
 ·have JV:i<8:=by omega
  have X0:=ZC wr (qO rW) i (.int .u64 (wk rW i)) (i:Int) rfl JV (Zy rW i JV);obtain⟨kw,WX⟩:∃ kw,wk rW i=kw:=⟨_,rfl⟩
  rw[WX]at X0;have D6:=Hh WX;clear WX;go_wp2_with (with_reducible refine zx ?_)
  refine zw rfl _ _ _ rfl rfl G i (.int .u32 (vZ kw)) rfl (by rfl) _ _ hG t9 (by rw[uL,Vh];exact JV) rfl fun w9 YI xt=>?_
  rw[rB,← D6.out,← show iP8 (i+1)=(iP8 i).set i (vZ (wk rW i)) from rfl]at YI;have oV:=hb.grown xt hb.size (by rintro q ⟨⟩;have:=Mb.out;omega);clear hG hb xt X0;go_wp2_with fail
  go_roundw
  case rel=>exact⟨i+1,by go_num,by omega,YI,oV⟩
  case measure=>simp[intOf];omega
 obtain rfl:i=8:=by omega
 rw[G2,← S8.cells_eq]at hG;rw[show((8:Nat):Int)=8 from rfl]at z9⊢;have PD:=Hh (Na (c:=c) HN.out.1 HN.out.2 wr (HS.out.below hb));go_wp2_with fail
 refine PD.out.mono ?_
 rintro e w5 ⟨r5,rfl,xX⟩
 obtain⟨PA,pc,rfl,pe,lV,_⟩:=xX.own.form;have xx:=hG.below xX.2;have zE:=hb.trans (xX.2.mono hb.size)
 have DE:Hid (∀ q,PA.map (·.block)=some q→G<q):=fun q hq=>by
  have h1:=(xX.own.lt q (by cases PA with | none=>cases hq | some p=>exact hq)).1;have h2:=hG.lt
  omega
 obtain⟨Hp,_,IX,IW,_,JM⟩:=xX.own.snap (H:=fun _=>none) (fun _ _ h=>by cases h) (fun _ _=>rfl)
 have cN:Hid (∀ b o,Hp b=some o→G<b):=fun b o hb=>by
  rcases IW b o hb with h | h
  ·cases h
  exact DE.out b h
 have WL:=Hh (Zp l);have jp:0<(uR l).length:=by rw[WL.out.1];omega
 obtain⟨pb,po,rfl,_⟩:=JM.at_ jp;obtain⟨m,hm⟩:∃ m,(uR l).length=m:=⟨_,rfl⟩
 have HM:=Hh hm;rw[hm]at pe⊢
 have lX:Hid (m≤1099511627776∧m≤pc∧pc≤9223372036854775807):=by
  refine⟨?_,pe,lV⟩
  have h1:=WL.out.1;have h2:=bh l.length;have h3:=HN.out.2;rw[HM.out]at h1
  omega
 have Cm:=Hh JM;clear hG hb xX PD IW hm pe lV jp JM;go_wp2_with fail
 go_loopw [7] (fun v7 wx=>∃ k lo:Nat,v7=.int .i64 (lo:Int)∧Hid (lo=64*k)∧Hid (lo≤m)∧Holds wx Hp∧Blk wx G 247 (oa (uR l) k).cells∧Below w.heap.size w wx) (fun v7 _=>m-(intOf v7).toNat)
 case atStart=>exact⟨0,0,rfl,rfl,Nat.zero_le _,IX,xx,zE⟩
 case round =>
 clear IX xx zE;obtain⟨k,lo,rfl,ak,HLM,VH,hG,hb⟩:=hrel
 by_cases z9:(lo:Int)<(m:Int)
 ·have Mh:Hid (lo+64≤m):=by have:=WL.out;have:=HM.out;have:=ak.out;rw[Hid];omega
  have RK:IsBytes Hp (some ⟨pb,po+lo,none⟩) (pc-lo) (aL (uR l) k):=by
   have h:=Cm.out.drop' lo (by rw[HM.out];exact HLM.out);rw[if_neg (by have:=lX.out;omega),Option.map_some,td]at h;have h2:=h.take' 64;rw[ak.out]at h2⊢
   exact h2
  have Rd:(aL (uR l) k).length=64:=ZQ (by have:=ak.out;have:=Mh.out;rw[HM.out];omega);have G8:=Hh (And.intro RK Rd);have Hq:=Hh (fg (uR l) k);obtain⟨s,hs⟩:∃ s,oa (uR l) k=s:=⟨_,rfl⟩
  rw[hs]at hG Hq;obtain⟨a0,a1,a2,a3,a4,a5,a6,a7⟩:=s;obtain⟨RZ,Mq⟩:∃ h,lo+64=h:=⟨_,rfl⟩
  have Cu:=Hh Mq;have tv:IntKind.i64.wrap ((lo:Int)+64)=(RZ:Int):=by rw[← Mq,Int.natCast_add];exact IntWalk.i64_in _ (by have:=lX.out;have:=Mh.out;omega)
  have b1:(lo:Int)≤(RZ:Int):=by omega
  have b2:(RZ:Int)≤(pc:Int):=by have:=lX.out;have:=Mh.out;omega
  have b3:¬ (pc=lo):=by have:=lX.out;have:=Mh.out;omega
  have b4:RZ-lo=64:=by omega
  clear RK Rd hs Mq hi;replace VH:=VH.drew;replace hG:=hG.drew;replace hb:=hb.drew;go_upto_region 11 with fail
  refine zr 7 (fun wx=>wx.cell? ⟨G,0,none⟩=some (.int .u32 a0)∧wx.cell? ⟨G,1,none⟩=some (.int .u32 a1)∧wx.cell? ⟨G,2,none⟩=some (.int .u32 a2)∧wx.cell? ⟨G,3,none⟩=some (.int .u32 a3)∧wx.cell? ⟨G,4,none⟩=some (.int .u32 a4)∧wx.cell? ⟨G,5,none⟩=some (.int .u32 a5)∧wx.cell? ⟨G,6,none⟩=some (.int .u32 a6)∧wx.cell? ⟨G,7,none⟩=some (.int .u32 a7)) (by kernel_rfl) (⟨hG.cell 0 rfl,hG.cell 1 rfl,hG.cell 2 rfl,hG.cell 3 rfl,hG.cell 4 rfl,hG.cell 5 rfl,hG.cell 6 rfl,hG.cell 7 rfl⟩) (fun zy=>?_)
  refine Tk 0 rfl zy ?_
  refine Tk 1 rfl zy ?_
  refine Tk 2 rfl zy ?_
  refine Tk 3 rfl zy ?_
  refine Tk 4 rfl zy ?_
  refine Tk 5 rfl zy ?_
  refine To 6 rfl fun K hK=>?_
  go_simp
  refine(bL G8.out.1 G8.out.2 ⟨a0,a1,a2,a3,a4,a5,a6,a7⟩ _ VH).mono ?_
  rintro e w6 ⟨rfl,wS⟩
  replace VH:=VH.below wS (Nat.le_refl _);replace hG:=hG.below wS;replace hb:=hb.trans (wS.mono hb.size);clear wS;rw[← Hq.out];clear zy
  refine hK.out _ _ (fun _=>?_) (fun zy=>?_)
  ·exact⟨hG.cell 0 rfl,hG.cell 1 rfl,hG.cell 2 rfl,hG.cell 3 rfl,hG.cell 4 rfl,hG.cell 5 rfl,hG.cell 6 rfl,hG.cell 7 rfl⟩
  clear hK K;replace zy:=zy (by decide)
  try simp only[Act.put,zz1,zz2,zz3,zz4,zz5,zz6]
  refine To 7 rfl fun K hK=>?_
  rw[if_pos (by rfl)]
  refine zT _ _ _ rfl G (oa (uR l) (k+1)).cells rfl rfl _ _ hG lH rfl (S8.one _) fun w9 YI xt=>?_
  refine Kz hK ?_
  clear hK K
  refine Wd ?_
  clear zy;have oV:=hb.grown xt hb.size (by rintro q ⟨⟩;have:=Mb.out;omega)
  have Bw:Holds w9 Hp:=VH.grown xt (by
   rintro q ⟨⟩
   cases hq:Hp G with
   | none=>rfl
   | some o=>have:=cN.out _ _ hq;omega)
  clear hG hb VH xt;go_wp2_with fail
  go_roundw
  case rel=>exact⟨k+1,RZ,rfl,by have:=ak.out;have:=Cu.out;rw[Hid];omega,by have:=Cu.out;have:=Mh.out;rw[Hid];omega,Bw,YI,oV⟩
  case measure=>have:=Cu.out;have:=Mh.out;simp[intOf];omega
 have sw:k=(uR l).length/64:=by have:=ak.out;have:=HM.out;have:=HLM.out;omega
 rw[sw]at hG;have Lj:Hid ((oa (uR l) ((uR l).length/64)).list.flatMap vD=qP l):=rfl;obtain⟨s,hs⟩:∃ s,oa (uR l) ((uR l).length/64)=s:=⟨_,rfl⟩
 rw[hs]at hG Lj;rw[← Qw]at Lj;obtain⟨a0,a1,a2,a3,a4,a5,a6,a7⟩:=s;obtain⟨oe,aX⟩:=jhH;clear hs sw VH hi;have q0:=hG.cell 0 (v:=.int .u32 a0) rfl;have q1:=hG.cell 1 (v:=.int .u32 a1) rfl;have q2:=hG.cell 2 (v:=.int .u32 a2) rfl;have q3:=hG.cell 3 (v:=.int .u32 a3) rfl;have q4:=hG.cell 4 (v:=.int .u32 a4) rfl;have q5:=hG.cell 5 (v:=.int .u32 a5) rfl;have q6:=hG.cell 6 (v:=.int .u32 a6) rfl;have q7:=hG.cell 7 (v:=.int .u32 a7) rfl;have oV:=hb;clear hG hb;go_wp2_with fail
 go_loopw [8,38] (fun v10 v51 wx=>∃ (i mo co:Nat) (VO:Option Addr),v10=.slice VO mo co∧v51=.int .i64 (i:Int)∧i≤8∧Hid (mo=4*i)∧OwnB wx w.heap.size (.slice VO mo co) (cK ⟨a0,a1,a2,a3,a4,a5,a6,a7⟩ i)∧Below w.heap.size w wx) (fun _ v51 _=>(8-intOf v51).toNat)
 case atStart=>exact⟨0,0,0,none,rfl,rfl,by omega,rfl,OwnB.nil _ _,oV⟩
 case round =>
 clear q0 q1 q2 q3 q4 q5 q6 q7 oV;obtain⟨i,mo,co,VO,rfl,rfl,hi,HMO,hO,hb⟩:=hrel
 rcases(show i=0∨i=1∨i=2∨i=3∨i=4∨i=5∨i=6∨i=7∨i=8 by omega) with rfl | rfl | rfl | rfl | rfl | rfl | rfl | rfl | rfl
 ·have X0:=jgr;go_wp2_with (at_builtin;refine zh ?_)
  unfold zZ
  clear X0;obtain⟨zJ,zY⟩:=jfS
  refine zv rfl (.tmp 41) (.tmp 53) rfl w.heap.size _ _ rfl zJ _ 4 _ (vD a0) rfl rfl (Src.new _ _ _ _ rfl _ (by rw[yQ])) (by rw[oe.out 0 (by omega),xP];omega) zY.size fun v' w5 zW zK hat5=>?_
  exact jbp
 ·have X0:=jgs;go_wp2_with (at_builtin;refine zh ?_)
  unfold zZ
  clear X0;obtain⟨zJ,zY⟩:=jfT
  refine zv rfl (.tmp 41) (.tmp 53) rfl w.heap.size _ _ rfl zJ _ 4 _ (vD a1) rfl rfl (Src.new _ _ _ _ rfl _ (by rw[yQ])) (by rw[oe.out 1 (by omega),xP];omega) zY.size fun v' w5 zW zK hat5=>?_
  exact jbq
 ·have X0:=jgt;go_wp2_with (at_builtin;refine zh ?_)
  unfold zZ
  clear X0;obtain⟨zJ,zY⟩:=jfU
  refine zv rfl (.tmp 41) (.tmp 53) rfl w.heap.size _ _ rfl zJ _ 4 _ (vD a2) rfl rfl (Src.new _ _ _ _ rfl _ (by rw[yQ])) (by rw[oe.out 2 (by omega),xP];omega) zY.size fun v' w5 zW zK hat5=>?_
  exact jbr
 ·have X0:=jgu;go_wp2_with (at_builtin;refine zh ?_)
  unfold zZ
  clear X0;obtain⟨zJ,zY⟩:=jfV
  refine zv rfl (.tmp 41) (.tmp 53) rfl w.heap.size _ _ rfl zJ _ 4 _ (vD a3) rfl rfl (Src.new _ _ _ _ rfl _ (by rw[yQ])) (by rw[oe.out 3 (by omega),xP];omega) zY.size fun v' w5 zW zK hat5=>?_
  exact jbs
 ·have X0:=jgv;go_wp2_with (at_builtin;refine zh ?_)
  unfold zZ
  clear X0;obtain⟨zJ,zY⟩:=jfW
  refine zv rfl (.tmp 41) (.tmp 53) rfl w.heap.size _ _ rfl zJ _ 4 _ (vD a4) rfl rfl (Src.new _ _ _ _ rfl _ (by rw[yQ])) (by rw[oe.out 4 (by omega),xP];omega) zY.size fun v' w5 zW zK hat5=>?_
  exact jbt
 ·have X0:=jgw;go_wp2_with (at_builtin;refine zh ?_)
  unfold zZ
  clear X0;obtain⟨zJ,zY⟩:=jfX
  refine zv rfl (.tmp 41) (.tmp 53) rfl w.heap.size _ _ rfl zJ _ 4 _ (vD a5) rfl rfl (Src.new _ _ _ _ rfl _ (by rw[yQ])) (by rw[oe.out 5 (by omega),xP];omega) zY.size fun v' w5 zW zK hat5=>?_
  exact jbu
 ·have X0:=jgx;go_wp2_with (at_builtin;refine zh ?_)
  unfold zZ
  clear X0;obtain⟨zJ,zY⟩:=jfY
  refine zv rfl (.tmp 41) (.tmp 53) rfl w.heap.size _ _ rfl zJ _ 4 _ (vD a6) rfl rfl (Src.new _ _ _ _ rfl _ (by rw[yQ])) (by rw[oe.out 6 (by omega),xP];omega) zY.size fun v' w5 zW zK hat5=>?_
  exact jbv
 ·have X0:=jgy;go_wp2_with (at_builtin;refine zh ?_)
  unfold zZ
  clear X0;obtain⟨zJ,zY⟩:=jfZ
  refine zv rfl (.tmp 41) (.tmp 53) rfl w.heap.size _ _ rfl zJ _ 4 _ (vD a7) rfl rfl (Src.new _ _ _ _ rfl _ (by rw[yQ])) (by rw[oe.out 7 (by omega),xP];omega) zY.size fun v' w5 zW zK hat5=>?_
  exact jbw
 rw[Lj.out]at hO;exact jby
end Go.Proofs.YtkmlnjociijpgaaGreatDoor
namespace Go.Proofs.YtkmlnjociijpgaaGreatDoor
theorem bf:∀ (k:Nat) (x y:List Nat),W64 x→W64 y→k<x.length→k<y.length→x.drop (k+1)=y.drop (k+1)→yD x k≠yD y k→(num x<num y↔yD x k<yD y k)
 | _,[],_,_,_,h,_,_,_=>by simp at h
 | _,_::_,[],_,_,_,h,_,_=>by simp at h
 | 0,a::x,b::y,hx,hy,_,_,hd,xp=>by
  have e:x=y:=by simpa using hd
  have h1:a<18446744073709551616:=hx a (by simp);have h2:b<18446744073709551616:=hy b (by simp);subst e;have e1:num (a::x)=a+18446744073709551616*num x:=rfl;have e2:num (b::x)=b+18446744073709551616*num x:=rfl;have e3:yD (a::x) 0=a:=rfl;have e4:yD (b::x) 0=b:=rfl;rw[e1,e2,e3,e4]
  omega
 | k+1,a::x,b::y,hx,hy,hkx,hky,hd,xp=>by
  have g1:yD (a::x) (k+1)=yD x k:=rfl;have g2:yD (b::y) (k+1)=yD y k:=rfl;rw[g1,g2]at xp⊢;have BR:W64 x:=fun c hc=>hx c (by simp[hc])
  have PT:W64 y:=fun c hc=>hy c (by simp[hc])
  have i1:=bf k x y BR PT (by simpa using hkx) (by simpa using hky) (by simpa using hd) xp;have i2:=bf k y x PT BR (by simpa using hky) (by simpa using hkx) (by simpa using hd.symm) (Ne.symm xp);have h1:a<18446744073709551616:=hx a (by simp);have h2:b<18446744073709551616:=hy b (by simp);have e1:num (a::x)=a+18446744073709551616*num x:=rfl;have e2:num (b::y)=b+18446744073709551616*num y:=rfl;rw[e1,e2]
  omega
theorem Ty {a k n B:Nat}(h:k≤n) (hn:a ^ n<B) (hk:0<k):a ^ k<B:=by
 rcases Nat.eq_zero_or_pos a with h0 | h0
 ·subst h0;rw[Nat.zero_pow (show 0<n by omega)]at hn;rw[Nat.zero_pow hk]
  exact hn
 exact Nat.lt_of_le_of_lt (Nat.pow_le_pow_right h0 h) hn
theorem qJ {α:Type}{l:List α}(h:l.length=4):∃ a b c d,l=[a,b,c,d]:=by
 match l,h with
 | [a,b,c,d],_=>exact⟨a,b,c,d,rfl⟩
end Go.Proofs.YtkmlnjociijpgaaGreatDoor
namespace Go.Proofs.YtkmlnjociijpgaaGreatDoor
theorem Zw {p n N:Nat}(hn:n=2∨n=3) (hp:p<1000) (h:N ^ n≤p*18446744073709551616 ^ n):N<32*18446744073709551616:=by
 apply Nat.lt_of_not_le
 intro hN
 have h1:=Nat.pow_le_pow_left hN n;have h2:(32*18446744073709551616) ^ n=32 ^ n*18446744073709551616 ^ n:=Nat.mul_pow _ _ _
 have h3:p*18446744073709551616 ^ n<32 ^ n*18446744073709551616 ^ n:=by
  apply Nat.mul_lt_mul_of_pos_right
  ·rcases hn with rfl | rfl <;> omega
  exact Nat.pow_pos (by decide)
 omega
theorem rQ {n N:Nat}(hn:n=2∨n=3) (h:N≤34*18446744073709551616):N ^ n<18446744073709551616 ^ 4:=by
 have h1:=Nat.pow_le_pow_left h n;have h2:(34*18446744073709551616) ^ n<18446744073709551616 ^ 4:=by rcases hn with rfl | rfl <;> decide
 omega
theorem Zx {p n N:Nat}(hp:1≤p) (h:p*18446744073709551616 ^ n<N ^ n):18446744073709551616<N:=by
 apply Nat.lt_of_not_le
 intro hN
 have h1:=Nat.pow_le_pow_left hN n;have h2:1*18446744073709551616 ^ n≤p*18446744073709551616 ^ n:=Nat.mul_le_mul_right _ hp
 omega
theorem Vf {n p c N:Nat}(hn:n=2∨n=3) (hc:c<18446744073709551616) (hf:o6 n p c=true) (h1:N ^ n≤p*18446744073709551616 ^ n) (h2:p*18446744073709551616 ^ n<(N+1) ^ n):N%18446744073709551616=c:=by
 unfold o6 at hf
 rw[List.any_eq_true]at hf;obtain⟨w,_,hw⟩:=hf
 simp only[Bool.and_eq_true,decide_eq_true_eq]at hw
 have e:=Z8 (by omega) h1 h2 hw.1 hw.2;rw[e]
 omega
end Go.Proofs.YtkmlnjociijpgaaGreatDoor
namespace Go.Proofs.YtkmlnjociijpgaaGreatDoor
def ji (l:List Nat) (p:Nat):List Nat:=if l.all (fun q=>p%q != 0) then l++[p] else l
def tC:Nat→List Nat
 | 0=>[]
 | k+1=>ji (tC k) (k+2)
theorem UT (l:List Nat) (p:Nat):l.length≤(ji l p).length∧(ji l p).length≤l.length+1:=by
 unfold ji
 split <;> simp
theorem ly (a:Nat):∀ d,(tC a).length≤(tC (a+d)).length
 | 0=>Nat.le_refl _
 | d+1=>Nat.le_trans (ly a d) (UT _ _).1
theorem UZ:(tC 309).length=63:=by kernel_rfl
theorem dw:tC 310=vH.take 64:=by kernel_rfl
theorem Qb {k:Nat}(h:(tC k).length<64):k≤309:=by
 apply Nat.le_of_not_lt
 intro hk
 have h1:=ly 310 (k-310);rw[show 310+(k-310)=k by omega,dw]at h1;have h2:(vH.take 64).length=64:=rfl
 omega
theorem Xe {k:Nat}(h1:k≤310) (h2:¬ (tC k).length<64):tC k=vH.take 64:=by
 have h3:k=310:=by
  rcases Nat.lt_or_ge k 310 with h | h
  ·have h4:=ly k (309-k);rw[show k+(309-k)=309 by omega,UZ]at h4
   omega
  omega
 rw[h3,dw]
theorem dx:∀ k,∀ q∈tC k,2≤q∧q≤k+1
 | 0,q,h=>by simp[tC]at h
 | k+1,q,h=>by
  have ih:=dx k q;rw[tC,ji]at h
  split at h
  ·rw[List.mem_append]at h
   rcases h with h | h
   ·have:=ih h;omega
   simp at h;omega
  have:=ih h;omega
theorem eM {α:Type}(f:α→Bool) (l:List α) (j:Nat) (hj:j<l.length):(l.take (j+1)).all f=((l.take j).all f&&f l[j]):=by
 rw[List.take_succ_eq_append_getElem hj,List.all_append]
 simp
theorem UU {l:List Nat}{p:Nat}(h:l.all (fun q=>p%q != 0)=true):ji l p=l++[p]:=if_pos h
theorem QZ {l:List Nat}{p:Nat}(h:l.all (fun q=>p%q != 0)=false):ji l p=l:=if_neg (by rw[h];decide)
end Go.Proofs.YtkmlnjociijpgaaGreatDoor
namespace Go.Proofs.YtkmlnjociijpgaaGreatDoor
open Go.RowKit
theorem ll (x:Nat) (hx:x<18446744073709551616):bits .and .u64 (x:Int) 4294967295=((x%4294967296:Nat):Int):=by
 have h1:(BitVec.ofInt 64 (x:Int)).toNat=x:=by
  exact jbM
 have h2:(BitVec.ofInt 64 (4294967295:Int)).toNat=4294967295:=by decide
 show IntKind.u64.wrap ((BitVec.ofInt 64 (x:Int) &&& BitVec.ofInt 64 4294967295).toNat:Int)=_
 have h3:x &&& 4294967295=x%4294967296:=by
  have:=Nat.and_two_pow_sub_one_eq_mod x 32
  simpa using this
 rw[BitVec.toNat_and,h1,h2,h3,IntKind.wrap_u64]
 omega
theorem xd (n:Nat) (h:n<18446744073709551616):IntKind.u64.wrap (n:Int)=(n:Int):=IntWalk.u64_in _ (by omega)
theorem Wf (x y:Nat) (hx:x<18446744073709551616) (hy:y<18446744073709551616) (w:World) :
  Calls Tryz.prog 286 #[.int .u64 (x:Int),.int .u64 (y:Int)] w fun e w' =>
   e=.returned (.tuple #[.int .u64 ((x*y/18446744073709551616:Nat):Int),.int .u64 ((x*y%18446744073709551616:Nat):Int)])∧w=w':=by
 obtain⟨l1,l2,l3,l4⟩:=Lib.mul64_hi x y hx hy;have A1:bits .and .u64 (x:Int) 4294967295=((x%4294967296:Nat):Int):=ll x hx;have A2:bits .and .u64 (y:Int) 4294967295=((y%4294967296:Nat):Int):=ll y hy;have D1:(x:Int)/4294967296=((x/4294967296:Nat):Int):=by omega
 have D2:(y:Int)/4294967296=((y/4294967296:Nat):Int):=by omega
 have PQ:IntKind.u64.wrap ((x:Int)*(y:Int))=((x*y%18446744073709551616:Nat):Int):=by rw[IntKind.wrap_u64,← Int.natCast_mul];omega
 have qq:=Lib.half_mul_le (a:=x/4294967296) (b:=y%4294967296) (by omega) (by omega);have St:=Lib.half_mul_le (a:=x%4294967296) (b:=y/4294967296) (by omega) (by omega);have Su:=Lib.half_mul_le (a:=x/4294967296) (b:=y/4294967296) (by omega) (by omega);obtain⟨lo,LU⟩:∃ n,x*y%18446744073709551616=n:=⟨_,rfl⟩
 obtain⟨hi,OE⟩:∃ n,x*y/18446744073709551616=n:=⟨_,rfl⟩
 have Mq:hi<18446744073709551616:=by
  rw[← OE];have:=Nat.mul_le_mul (show x≤18446744073709551615 by omega) (show y≤18446744073709551615 by omega)
  omega
 rw[LU]at PQ;rw[LU,OE];rw[OE]at l4;obtain⟨x0,eL⟩:∃ n,x%4294967296=n:=⟨_,rfl⟩
 obtain⟨x1,rl⟩:∃ n,x/4294967296=n:=⟨_,rfl⟩
 obtain⟨y0,Oy⟩:∃ n,y%4294967296=n:=⟨_,rfl⟩
 obtain⟨y1,J5⟩:∃ n,y/4294967296=n:=⟨_,rfl⟩
 rw[eL]at A1 l1 l2 l3 l4 St;rw[rl]at D1 l2 l3 l4 qq Su;rw[Oy]at A2 l1 l2 l3 l4 qq;rw[J5]at D2 l3 l4 St Su;obtain⟨w0,Ej⟩:∃ n,x0*y0=n:=⟨_,rfl⟩
 obtain⟨p1,eK⟩:∃ n,x1*y0=n:=⟨_,rfl⟩
 obtain⟨p2,rk⟩:∃ n,x0*y1=n:=⟨_,rfl⟩
 obtain⟨p3,SW⟩:∃ n,x1*y1=n:=⟨_,rfl⟩
 rw[Ej]at l1 l2 l3 l4;rw[eK]at l2 l3 l4 qq;rw[rk]at l3 l4 St;rw[SW]at l4 Su;have M0:IntKind.u64.wrap ((x0:Int)*(y0:Int))=(w0:Int):=by rw[← Int.natCast_mul,Ej];exact xd _ l1
 have M1:IntKind.u64.wrap ((x1:Int)*(y0:Int))=(p1:Int):=by rw[← Int.natCast_mul,eK];exact xd _ (by omega)
 have M2:IntKind.u64.wrap ((x0:Int)*(y1:Int))=(p2:Int):=by rw[← Int.natCast_mul,rk];exact xd _ (by omega)
 have M3:IntKind.u64.wrap ((x1:Int)*(y1:Int))=(p3:Int):=by rw[← Int.natCast_mul,SW];exact xd _ (by omega)
 clear eL rl Oy J5 Ej eK rk SW qq St LU OE;obtain⟨q0,sz⟩:∃ n,w0/4294967296=n:=⟨_,rfl⟩
 have D3:(w0:Int)/4294967296=(q0:Int):=by omega
 rw[sz]at l2 l3 l4;obtain⟨t,ht⟩:∃ n,p1+q0=n:=⟨_,rfl⟩
 rw[ht]at l2 l3 l4;have S1:IntKind.u64.wrap ((p1:Int)+(q0:Int))=(t:Int):=by rw[← Int.natCast_add,ht];exact xd _ l2
 have A3:=ll t l2;obtain⟨w1,tv⟩:∃ n,t%4294967296=n:=⟨_,rfl⟩
 obtain⟨w2,qE⟩:∃ n,t/4294967296=n:=⟨_,rfl⟩
 have D4:(t:Int)/4294967296=(w2:Int):=by omega
 rw[tv]at A3 l3 l4;rw[qE]at l4;obtain⟨v,hv⟩:∃ n,w1+p2=n:=⟨_,rfl⟩
 rw[hv]at l3 l4;have S2:IntKind.u64.wrap ((w1:Int)+(p2:Int))=(v:Int):=by rw[← Int.natCast_add,hv];exact xd _ l3
 obtain⟨q1,fR⟩:∃ n,v/4294967296=n:=⟨_,rfl⟩
 have D5:(v:Int)/4294967296=(q1:Int):=by omega
 rw[fR]at l4;obtain⟨p4,Ow⟩:∃ n,p3+w2=n:=⟨_,rfl⟩
 rw[Ow]at l4;have S3:IntKind.u64.wrap ((p3:Int)+(w2:Int))=(p4:Int):=by rw[← Int.natCast_add,Ow];exact xd _ (by omega)
 have S4:IntKind.u64.wrap ((p4:Int)+(q1:Int))=(hi:Int):=by rw[← Int.natCast_add,l4];exact xd _ Mq
 clear sz ht tv qE hv fR Ow l1 l2 l3 l4 Su Mq hx hy;go_enter Tryz.func286,Tryz.ntmps286
 exact jeu
open Extern.MathBitsCarry in
theorem UD (x y c:Nat) (hc:c≤1) (w:World):(callFunc 264 #[.int .u64 (x:Int),.int .u64 (y:Int),.int .u64 (c:Int)]).run Tryz.prog w =
  .ok (.value (.tuple #[.int .u64 (((x+y+c)%18446744073709551616:Nat):Int),.int .u64 (((x+y+c)/18446744073709551616:Nat):Int)])) w:=by
 rw[run_callFunc_extern Tryz.func264 (by kernel_rfl) (by kernel_rfl) (by kernel_rfl) (e:=fun args=>do
  let (x, y, c) ← three "Add64" args
  pure (pair ((x+y+c)%m64) ((x+y+c)/m64))) (by kernel_rfl)]
 rcases(show c=0∨c=1 by omega) with rfl | rfl
 ·rfl
 rfl
open Extern.MathBitsCarry in
theorem dl (x y c:Nat) (hc:c≤1) (w:World):(callFunc 263 #[.int .u64 (x:Int),.int .u64 (y:Int),.int .u64 (c:Int)]).run Tryz.prog w =
  .ok (.value (.tuple #[.int .u64 (((x+18446744073709551616-y-c)%18446744073709551616:Nat):Int),.int .u64 ((if x<y+c then 1 else 0:Nat):Int)])) w:=by
 rw[run_callFunc_extern Tryz.func263 (by kernel_rfl) (by kernel_rfl) (by kernel_rfl) (e:=fun args=>do
  let (x, y, b) ← three "Sub64" args
  pure (pair ((x+m64-y-b)%m64) (if x<y+b then 1 else 0))) (by kernel_rfl)]
 rcases(show c=0∨c=1 by omega) with rfl | rfl
 ·rfl
 rfl
end Go.Proofs.YtkmlnjociijpgaaGreatDoor
