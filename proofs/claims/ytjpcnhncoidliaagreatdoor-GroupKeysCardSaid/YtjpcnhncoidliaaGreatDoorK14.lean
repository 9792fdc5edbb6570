/- squeezed. The reference's SHA-256. Comparing -/
import Derived.Test.YtjpcnhncoidliaaGreatDoorK13
import Derived.Lib.Mul64
import Derived.Laws.Bits64
import Derived.Laws.Externs
import Derived.Deep.Cut
set_option linter.unusedVariables false
set_option linter.unusedSimpArgs false
set_option maxRecDepth 100000
set_option maxHeartbeats 6400000
namespace Go.Proofs.YtjpcnhncoidliaaGreatDoor
open Go.RowKit
theorem eN:(Tryz.prog.info? 121).map (·.size)=some 8:=by kernel_rfl
theorem aO (w:World):Calls Tryz.prog 78 #[] w fun e w'=>e=.returned (.agg (pe rG))∧Below w.heap.size w w':=by
 have hB:=Blk.new w 121 (pe (List.replicate 8 0));have hb:=zl w (.cells (pe (List.replicate 8 0)) 121);go_enter Tryz.func78,Tryz.ntmps78
 go_wp2_with (with_reducible refine zx ?_)
 refine zu rfl _ _ _ rfl rfl w.heap.size (pe rG) rfl rfl _ _ hB eN (by simp[jr,Zn]) (gi _) fun w2 vE hg2=>?_
 go_wp2_with fail
 refine xS rfl rfl vE rfl rfl eN rfl ?_
 exact⟨rfl,hb.grown hg2 hb.size (by rintro q ⟨⟩;exact Nat.le_refl _)⟩
theorem mD {A:Option Addr}{c:Nat}{l:List UInt8}{n:Nat}(hn:n=l.length) (u5:l.length≤1099511627) (w:World) (hS:Src w A (l.map zg)) :
  Calls Tryz.prog 66 #[.slice A n c] w fun e w'=>∃ r,e=.returned r∧Fresh w (pf l) r w':=by
 have HN:=Hh (And.intro hn u5);have HS:=Hh hS;have hG:=Blk.new w 120 (wG (iP8 0));have hb:=zl w (.cells (wG (iP8 0)) 120);have IN:=Hh (aO (w.alloc (.cells (wG (iP8 0)) 120)));obtain⟨G,Sk⟩:∃ G,w.heap.size=G:=⟨_,rfl⟩
 have MX:=Hh Sk;rw[Sk]at hG;clear hn u5 hS Sk;go_enter Tryz.func66,Tryz.ntmps66
 go_wp2_with fail
 rw[MX.out]
 refine IN.out.mono ?_
 rintro e w2 ⟨rfl,yz⟩
 have yY:=hG.below yz;have nA:=hb.trans (yz.mono hb.size);clear hG hb yz IN;go_wp2_with fail
 go_loopw [12] (fun v12 wx=>∃ i:Nat,v12=.int .i64 (i:Int)∧i≤8∧Blk wx G 120 (wG (iP8 i))∧Below w.heap.size w wx) (fun v12 _=>(8-intOf v12).toNat)
 case atStart=>exact⟨0,rfl,by omega,yY,nA⟩
 case round =>
 clear yY nA;obtain⟨i,rfl,hi,hG,hb⟩:=hrel
 by_cases yy:(i:Int)<8
 ·have cF:i<8:=by omega
  have X0:=aR wr (pe rG) i (.int .u64 (wS rG i)) (i:Int) rfl cF (bO rG i cF);obtain⟨kw,cM⟩:∃ kw,wS rG i=kw:=⟨_,rfl⟩
  rw[cM]at X0;have I4:=Hh cM;clear cM;go_wp2_with (with_reducible refine zx ?_)
  refine zr rfl _ _ _ rfl rfl G i (.int .u32 (vC kw)) rfl (by rfl) _ _ hG se (by rw[tq,Xb];exact cF) rfl fun w9 tZ hg9=>?_
  rw[qU,← I4.out,← show iP8 (i+1)=(iP8 i).set i (vC (wS rG i)) from rfl]at tZ;have uN:=hb.grown hg9 hb.size (by rintro q ⟨⟩;have:=MX.out;omega);clear hG hb hg9 X0;go_wp2_with fail
  go_roundw
  case rel=>exact⟨i+1,by go_num,by omega,tZ,uN⟩
  case measure=>simp[intOf];omega
 obtain rfl:i=8:=by omega
 rw[L6,← S8.cells_eq]at hG;rw[show((8:Nat):Int)=8 from rfl]at yy⊢;have PD:=Hh (RN (c:=c) HN.out.1 HN.out.2 wr (HS.out.below hb));go_wp2_with fail
 refine PD.out.mono ?_
 rintro e w5 ⟨r5,rfl,uV⟩
 obtain⟨PA,pc,rfl,mR,Kf,_⟩:=uV.own.form;have xC:=hG.below uV.2;have xz:=hb.trans (uV.2.mono hb.size)
 have I9:Hid (∀ q,PA.map (·.block)=some q→G<q):=fun q hq=>by
  have h1:=(uV.own.lt q (by cases PA with | none=>cases hq | some p=>exact hq)).1;have h2:=hG.lt
  omega
 obtain⟨Hp,_,N0,Mz,_,Ng⟩:=uV.own.snap (H:=fun _=>none) (fun _ _ h=>by cases h) (fun _ _=>rfl)
 have Zc:Hid (∀ b o,Hp b=some o→G<b):=fun b o hb=>by
  rcases Mz b o hb with h | h
  ·cases h
  exact I9.out b h
 have Mf:=Hh (bB l);have kH:0<(u6 l).length:=by rw[Mf.out.1];omega
 obtain⟨pb,po,rfl,_⟩:=Ng.at_ kH;obtain⟨m,hm⟩:∃ m,(u6 l).length=m:=⟨_,rfl⟩
 have HM:=Hh hm;rw[hm]at mR⊢
 have lX:Hid (m≤1099511627776∧m≤pc∧pc≤9223372036854775807):=by
  refine⟨?_,mR,Kf⟩
  have h1:=Mf.out.1;have h2:=dH l.length;have h3:=HN.out.2;rw[HM.out]at h1
  omega
 have C9:=Hh Ng;clear hG hb uV PD Mz hm mR Kf kH Ng;go_wp2_with fail
 go_loopw [7] (fun v7 wx=>∃ k lo:Nat,v7=.int .i64 (lo:Int)∧Hid (lo=64*k)∧Hid (lo≤m)∧Holds wx Hp∧Blk wx G 120 (oV (u6 l) k).cells∧Below w.heap.size w wx) (fun v7 _=>m-(intOf v7).toNat)
 case atStart=>exact⟨0,0,rfl,rfl,Nat.zero_le _,N0,xC,xz⟩
 case round =>
 clear N0 xC xz;obtain⟨k,lo,rfl,cJ,Eb,zA,hG,hb⟩:=hrel
 by_cases yy:(lo:Int)<(m:Int)
 ·have QU:Hid (lo+64≤m):=by have:=Mf.out;have:=HM.out;have:=cJ.out;rw[Hid];omega
  have US:IsBytes Hp (some ⟨pb,po+lo,none⟩) (pc-lo) (be (u6 l) k):=by
   have h:=C9.out.drop' lo (by rw[HM.out];exact Eb.out);rw[if_neg (by have:=lX.out;omega),Option.map_some,rg]at h;have h2:=h.take' 64;rw[cJ.out]at h2⊢
   exact h2
  have Uc:(be (u6 l) k).length=64:=aa (by have:=cJ.out;have:=QU.out;rw[HM.out];omega);have LC:=Hh (And.intro US Uc);have QO:=Hh (fv (u6 l) k);obtain⟨s,hs⟩:∃ s,oV (u6 l) k=s:=⟨_,rfl⟩
  rw[hs]at hG QO;obtain⟨a0,a1,a2,a3,a4,a5,a6,a7⟩:=s;obtain⟨Ua,Nt⟩:∃ h,lo+64=h:=⟨_,rfl⟩
  have I1:=Hh Nt;have nY:IntKind.i64.wrap ((lo:Int)+64)=(Ua:Int):=by rw[← Nt,Int.natCast_add];exact IntWalk.i64_in _ (by have:=lX.out;have:=QU.out;omega)
  have b1:(lo:Int)≤(Ua:Int):=by omega
  have b2:(Ua:Int)≤(pc:Int):=by have:=lX.out;have:=QU.out;omega
  have b3:¬ (pc=lo):=by have:=lX.out;have:=QU.out;omega
  have b4:Ua-lo=64:=by omega
  clear US Uc hs Nt hi;replace zA:=zA.drew;replace hG:=hG.drew;replace hb:=hb.drew;go_upto_region 11 with fail
  refine zn 7 (fun wx=>wx.cell? ⟨G,0,none⟩=some (.int .u32 a0)∧wx.cell? ⟨G,1,none⟩=some (.int .u32 a1)∧wx.cell? ⟨G,2,none⟩=some (.int .u32 a2)∧wx.cell? ⟨G,3,none⟩=some (.int .u32 a3)∧wx.cell? ⟨G,4,none⟩=some (.int .u32 a4)∧wx.cell? ⟨G,5,none⟩=some (.int .u32 a5)∧wx.cell? ⟨G,6,none⟩=some (.int .u32 a6)∧wx.cell? ⟨G,7,none⟩=some (.int .u32 a7)) (by kernel_rfl) (⟨hG.cell 0 rfl,hG.cell 1 rfl,hG.cell 2 rfl,hG.cell 3 rfl,hG.cell 4 rfl,hG.cell 5 rfl,hG.cell 6 rfl,hG.cell 7 rfl⟩) (fun zy=>?_)
  refine Tk 0 rfl zy ?_
  refine Tk 1 rfl zy ?_
  refine Tk 2 rfl zy ?_
  refine Tk 3 rfl zy ?_
  refine Tk 4 rfl zy ?_
  refine Tk 5 rfl zy ?_
  refine To 6 rfl fun K hK=>?_
  go_simp
  refine(cu LC.out.1 LC.out.2 ⟨a0,a1,a2,a3,a4,a5,a6,a7⟩ _ zA).mono ?_
  rintro e w6 ⟨rfl,y9⟩
  replace zA:=zA.below y9 (Nat.le_refl _);replace hG:=hG.below y9;replace hb:=hb.trans (y9.mono hb.size);clear y9;rw[← QO.out];clear zy
  refine hK.out _ _ (fun _=>?_) (fun zy=>?_)
  ·exact⟨hG.cell 0 rfl,hG.cell 1 rfl,hG.cell 2 rfl,hG.cell 3 rfl,hG.cell 4 rfl,hG.cell 5 rfl,hG.cell 6 rfl,hG.cell 7 rfl⟩
  clear hK K;replace zy:=zy (by decide)
  try simp only[Act.put,zz1,zz2,zz3,zz4,zz5,zz6]
  refine To 7 rfl fun K hK=>?_
  rw[if_pos (by rfl)]
  refine zF _ _ _ rfl G (oV (u6 l) (k+1)).cells rfl rfl _ _ hG l9 rfl (S8.one _) fun w9 tZ hg9=>?_
  refine Kz hK ?_
  clear hK K
  refine Wd ?_
  clear zy;have uN:=hb.grown hg9 hb.size (by rintro q ⟨⟩;have:=MX.out;omega)
  have Gb:Holds w9 Hp:=zA.grown hg9 (by
   rintro q ⟨⟩
   cases hq:Hp G with
   | none=>rfl
   | some o=>have:=Zc.out _ _ hq;omega)
  clear hG hb zA hg9;go_wp2_with fail
  go_roundw
  case rel=>exact⟨k+1,Ua,rfl,by have:=cJ.out;have:=I1.out;rw[Hid];omega,by have:=I1.out;have:=QU.out;rw[Hid];omega,Gb,tZ,uN⟩
  case measure=>have:=I1.out;have:=QU.out;simp[intOf];omega
 have ej:k=(u6 l).length/64:=by have:=cJ.out;have:=HM.out;have:=Eb.out;omega
 rw[ej]at hG;have Pi:Hid ((oV (u6 l) ((u6 l).length/64)).list.flatMap ue=pf l):=rfl;obtain⟨s,hs⟩:∃ s,oV (u6 l) ((u6 l).length/64)=s:=⟨_,rfl⟩
 rw[hs]at hG Pi;rw[← U5]at Pi;obtain⟨a0,a1,a2,a3,a4,a5,a6,a7⟩:=s;have mz:=Hh (fun i hi=>bA ⟨a0,a1,a2,a3,a4,a5,a6,a7⟩ i hi);have br:=Hh (fun i hi=>eF ⟨a0,a1,a2,a3,a4,a5,a6,a7⟩ i hi);clear hs ej zA hi;have q0:=hG.cell 0 (v:=.int .u32 a0) rfl;have q1:=hG.cell 1 (v:=.int .u32 a1) rfl;have q2:=hG.cell 2 (v:=.int .u32 a2) rfl;have q3:=hG.cell 3 (v:=.int .u32 a3) rfl;have q4:=hG.cell 4 (v:=.int .u32 a4) rfl;have q5:=hG.cell 5 (v:=.int .u32 a5) rfl;have q6:=hG.cell 6 (v:=.int .u32 a6) rfl;have q7:=hG.cell 7 (v:=.int .u32 a7) rfl;have uN:=hb;clear hG hb;go_wp2_with fail
 go_loopw [8,38] (fun v10 v51 wx=>∃ (i mo co:Nat) (VO:Option Addr),v10=.slice VO mo co∧v51=.int .i64 (i:Int)∧i≤8∧Hid (mo=4*i)∧OwnB wx w.heap.size (.slice VO mo co) (dW ⟨a0,a1,a2,a3,a4,a5,a6,a7⟩ i)∧Below w.heap.size w wx) (fun _ v51 _=>(8-intOf v51).toNat)
 case atStart=>exact⟨0,0,0,none,rfl,rfl,by omega,rfl,OwnB.nil _ _,uN⟩
 case round =>
 clear q0 q1 q2 q3 q4 q5 q6 q7 uN;obtain⟨i,mo,co,VO,rfl,rfl,hi,Ca,hO,hb⟩:=hrel
 rcases(show i=0∨i=1∨i=2∨i=3∨i=4∨i=5∨i=6∨i=7∨i=8 by omega) with rfl | rfl | rfl | rfl | rfl | rfl | rfl | rfl | rfl
 ·have X0:=yB wr #[.int .u32 a0,.int .u32 a1,.int .u32 a2,.int .u32 a3,.int .u32 a4,.int .u32 a5,.int .u32 a6,.int .u32 a7] 0 (.int .u32 a0) 0 rfl (by omega) rfl;go_wp2_with (at_builtin;refine zf ?_)
  unfold zU
  clear X0;have yp:=hO.alloc (.cells #[.int .u8 (a0/16777216%256),.int .u8 (a0/65536%256),.int .u8 (a0/256%256),.int .u8 (a0%256)] 5);have zP:=hb.alloc hb.size (.cells #[.int .u8 (a0/16777216%256),.int .u8 (a0/65536%256),.int .u8 (a0/256%256),.int .u8 (a0%256)] 5)
  refine zv rfl (.tmp 41) (.tmp 53) rfl w.heap.size _ _ rfl yp _ 4 _ (ue a0) rfl rfl (Src.new _ _ _ _ rfl _ (by rw[yD])) (by rw[mz.out 0 (by omega),xG];omega) zP.size fun v' w5 zB yg hat5=>?_
  have xz:=zm zP yg (fun q hq=>(hO.lt q hq).1);replace zB:=(br.out 0 (by omega)) ▸ zB;obtain⟨A5,c5,rfl,_⟩:=zB.form;rw[mz.out (0+1) (by omega)]at zB⊢;clear hO hb yp zP yg hat5;go_wp2_with fail
  go_roundw
  case rel=>exact⟨1,_,c5,A5,rfl,by go_num,by omega,rfl,zB,xz⟩
  case measure=>simp[intOf]
 ·have X0:=yB wr #[.int .u32 a0,.int .u32 a1,.int .u32 a2,.int .u32 a3,.int .u32 a4,.int .u32 a5,.int .u32 a6,.int .u32 a7] 1 (.int .u32 a1) 1 rfl (by omega) rfl;go_wp2_with (at_builtin;refine zf ?_)
  unfold zU
  clear X0;have yp:=hO.alloc (.cells #[.int .u8 (a1/16777216%256),.int .u8 (a1/65536%256),.int .u8 (a1/256%256),.int .u8 (a1%256)] 5);have zP:=hb.alloc hb.size (.cells #[.int .u8 (a1/16777216%256),.int .u8 (a1/65536%256),.int .u8 (a1/256%256),.int .u8 (a1%256)] 5)
  refine zv rfl (.tmp 41) (.tmp 53) rfl w.heap.size _ _ rfl yp _ 4 _ (ue a1) rfl rfl (Src.new _ _ _ _ rfl _ (by rw[yD])) (by rw[mz.out 1 (by omega),xG];omega) zP.size fun v' w5 zB yg hat5=>?_
  have xz:=zm zP yg (fun q hq=>(hO.lt q hq).1);replace zB:=(br.out 1 (by omega)) ▸ zB;obtain⟨A5,c5,rfl,_⟩:=zB.form;rw[mz.out (1+1) (by omega)]at zB⊢;clear hO hb yp zP yg hat5;go_wp2_with fail
  go_roundw
  case rel=>exact⟨2,_,c5,A5,rfl,by go_num,by omega,rfl,zB,xz⟩
  case measure=>simp[intOf]
 ·have X0:=yB wr #[.int .u32 a0,.int .u32 a1,.int .u32 a2,.int .u32 a3,.int .u32 a4,.int .u32 a5,.int .u32 a6,.int .u32 a7] 2 (.int .u32 a2) 2 rfl (by omega) rfl;go_wp2_with (at_builtin;refine zf ?_)
  unfold zU
  clear X0;have yp:=hO.alloc (.cells #[.int .u8 (a2/16777216%256),.int .u8 (a2/65536%256),.int .u8 (a2/256%256),.int .u8 (a2%256)] 5);have zP:=hb.alloc hb.size (.cells #[.int .u8 (a2/16777216%256),.int .u8 (a2/65536%256),.int .u8 (a2/256%256),.int .u8 (a2%256)] 5)
  refine zv rfl (.tmp 41) (.tmp 53) rfl w.heap.size _ _ rfl yp _ 4 _ (ue a2) rfl rfl (Src.new _ _ _ _ rfl _ (by rw[yD])) (by rw[mz.out 2 (by omega),xG];omega) zP.size fun v' w5 zB yg hat5=>?_
  have xz:=zm zP yg (fun q hq=>(hO.lt q hq).1);replace zB:=(br.out 2 (by omega)) ▸ zB;obtain⟨A5,c5,rfl,_⟩:=zB.form;rw[mz.out (2+1) (by omega)]at zB⊢;clear hO hb yp zP yg hat5;go_wp2_with fail
  go_roundw
  case rel=>exact⟨3,_,c5,A5,rfl,by go_num,by omega,rfl,zB,xz⟩
  case measure=>simp[intOf]
 ·have X0:=yB wr #[.int .u32 a0,.int .u32 a1,.int .u32 a2,.int .u32 a3,.int .u32 a4,.int .u32 a5,.int .u32 a6,.int .u32 a7] 3 (.int .u32 a3) 3 rfl (by omega) rfl;go_wp2_with (at_builtin;refine zf ?_)
  unfold zU
  clear X0;have yp:=hO.alloc (.cells #[.int .u8 (a3/16777216%256),.int .u8 (a3/65536%256),.int .u8 (a3/256%256),.int .u8 (a3%256)] 5);have zP:=hb.alloc hb.size (.cells #[.int .u8 (a3/16777216%256),.int .u8 (a3/65536%256),.int .u8 (a3/256%256),.int .u8 (a3%256)] 5)
  refine zv rfl (.tmp 41) (.tmp 53) rfl w.heap.size _ _ rfl yp _ 4 _ (ue a3) rfl rfl (Src.new _ _ _ _ rfl _ (by rw[yD])) (by rw[mz.out 3 (by omega),xG];omega) zP.size fun v' w5 zB yg hat5=>?_
  have xz:=zm zP yg (fun q hq=>(hO.lt q hq).1);replace zB:=(br.out 3 (by omega)) ▸ zB;obtain⟨A5,c5,rfl,_⟩:=zB.form;rw[mz.out (3+1) (by omega)]at zB⊢;clear hO hb yp zP yg hat5;go_wp2_with fail
  go_roundw
  case rel=>exact⟨4,_,c5,A5,rfl,by go_num,by omega,rfl,zB,xz⟩
  case measure=>simp[intOf]
 ·have X0:=yB wr #[.int .u32 a0,.int .u32 a1,.int .u32 a2,.int .u32 a3,.int .u32 a4,.int .u32 a5,.int .u32 a6,.int .u32 a7] 4 (.int .u32 a4) 4 rfl (by omega) rfl;go_wp2_with (at_builtin;refine zf ?_)
  unfold zU
  clear X0;have yp:=hO.alloc (.cells #[.int .u8 (a4/16777216%256),.int .u8 (a4/65536%256),.int .u8 (a4/256%256),.int .u8 (a4%256)] 5);have zP:=hb.alloc hb.size (.cells #[.int .u8 (a4/16777216%256),.int .u8 (a4/65536%256),.int .u8 (a4/256%256),.int .u8 (a4%256)] 5)
  refine zv rfl (.tmp 41) (.tmp 53) rfl w.heap.size _ _ rfl yp _ 4 _ (ue a4) rfl rfl (Src.new _ _ _ _ rfl _ (by rw[yD])) (by rw[mz.out 4 (by omega),xG];omega) zP.size fun v' w5 zB yg hat5=>?_
  have xz:=zm zP yg (fun q hq=>(hO.lt q hq).1);replace zB:=(br.out 4 (by omega)) ▸ zB;obtain⟨A5,c5,rfl,_⟩:=zB.form;rw[mz.out (4+1) (by omega)]at zB⊢;clear hO hb yp zP yg hat5;go_wp2_with fail
  go_roundw
  case rel=>exact⟨5,_,c5,A5,rfl,by go_num,by omega,rfl,zB,xz⟩
  case measure=>simp[intOf]
 ·have X0:=yB wr #[.int .u32 a0,.int .u32 a1,.int .u32 a2,.int .u32 a3,.int .u32 a4,.int .u32 a5,.int .u32 a6,.int .u32 a7] 5 (.int .u32 a5) 5 rfl (by omega) rfl;go_wp2_with (at_builtin;refine zf ?_)
  unfold zU
  clear X0;have yp:=hO.alloc (.cells #[.int .u8 (a5/16777216%256),.int .u8 (a5/65536%256),.int .u8 (a5/256%256),.int .u8 (a5%256)] 5);have zP:=hb.alloc hb.size (.cells #[.int .u8 (a5/16777216%256),.int .u8 (a5/65536%256),.int .u8 (a5/256%256),.int .u8 (a5%256)] 5)
  refine zv rfl (.tmp 41) (.tmp 53) rfl w.heap.size _ _ rfl yp _ 4 _ (ue a5) rfl rfl (Src.new _ _ _ _ rfl _ (by rw[yD])) (by rw[mz.out 5 (by omega),xG];omega) zP.size fun v' w5 zB yg hat5=>?_
  have xz:=zm zP yg (fun q hq=>(hO.lt q hq).1);replace zB:=(br.out 5 (by omega)) ▸ zB;obtain⟨A5,c5,rfl,_⟩:=zB.form;rw[mz.out (5+1) (by omega)]at zB⊢;clear hO hb yp zP yg hat5;go_wp2_with fail
  go_roundw
  case rel=>exact⟨6,_,c5,A5,rfl,by go_num,by omega,rfl,zB,xz⟩
  case measure=>simp[intOf]
 ·have X0:=yB wr #[.int .u32 a0,.int .u32 a1,.int .u32 a2,.int .u32 a3,.int .u32 a4,.int .u32 a5,.int .u32 a6,.int .u32 a7] 6 (.int .u32 a6) 6 rfl (by omega) rfl;go_wp2_with (at_builtin;refine zf ?_)
  unfold zU
  clear X0;have yp:=hO.alloc (.cells #[.int .u8 (a6/16777216%256),.int .u8 (a6/65536%256),.int .u8 (a6/256%256),.int .u8 (a6%256)] 5);have zP:=hb.alloc hb.size (.cells #[.int .u8 (a6/16777216%256),.int .u8 (a6/65536%256),.int .u8 (a6/256%256),.int .u8 (a6%256)] 5)
  refine zv rfl (.tmp 41) (.tmp 53) rfl w.heap.size _ _ rfl yp _ 4 _ (ue a6) rfl rfl (Src.new _ _ _ _ rfl _ (by rw[yD])) (by rw[mz.out 6 (by omega),xG];omega) zP.size fun v' w5 zB yg hat5=>?_
  have xz:=zm zP yg (fun q hq=>(hO.lt q hq).1);replace zB:=(br.out 6 (by omega)) ▸ zB;obtain⟨A5,c5,rfl,_⟩:=zB.form;rw[mz.out (6+1) (by omega)]at zB⊢;clear hO hb yp zP yg hat5;go_wp2_with fail
  go_roundw
  case rel=>exact⟨7,_,c5,A5,rfl,by go_num,by omega,rfl,zB,xz⟩
  case measure=>simp[intOf]
 ·have X0:=yB wr #[.int .u32 a0,.int .u32 a1,.int .u32 a2,.int .u32 a3,.int .u32 a4,.int .u32 a5,.int .u32 a6,.int .u32 a7] 7 (.int .u32 a7) 7 rfl (by omega) rfl;go_wp2_with (at_builtin;refine zf ?_)
  unfold zU
  clear X0;have yp:=hO.alloc (.cells #[.int .u8 (a7/16777216%256),.int .u8 (a7/65536%256),.int .u8 (a7/256%256),.int .u8 (a7%256)] 5);have zP:=hb.alloc hb.size (.cells #[.int .u8 (a7/16777216%256),.int .u8 (a7/65536%256),.int .u8 (a7/256%256),.int .u8 (a7%256)] 5)
  refine zv rfl (.tmp 41) (.tmp 53) rfl w.heap.size _ _ rfl yp _ 4 _ (ue a7) rfl rfl (Src.new _ _ _ _ rfl _ (by rw[yD])) (by rw[mz.out 7 (by omega),xG];omega) zP.size fun v' w5 zB yg hat5=>?_
  have xz:=zm zP yg (fun q hq=>(hO.lt q hq).1);replace zB:=(br.out 7 (by omega)) ▸ zB;obtain⟨A5,c5,rfl,_⟩:=zB.form;rw[mz.out (7+1) (by omega)]at zB⊢;clear hO hb yp zP yg hat5;go_wp2_with fail
  go_roundw
  case rel=>exact⟨8,_,c5,A5,rfl,by go_num,by omega,rfl,zB,xz⟩
  case measure=>simp[intOf]
 rw[Pi.out]at hO;go_wp2_with fail
 go_ret
 exact⟨_,rfl,by have h:=hO.form;obtain⟨_,_,e,_⟩:=h;exact⟨hO,hb⟩⟩
end Go.Proofs.YtjpcnhncoidliaaGreatDoor
namespace Go.Proofs.YtjpcnhncoidliaaGreatDoor
theorem dG:∀ (k:Nat) (x y:List Nat),W64 x→W64 y→k<x.length→k<y.length→x.drop (k+1)=y.drop (k+1)→xr x k≠xr y k→(num x<num y↔xr x k<xr y k)
 | _,[],_,_,_,h,_,_,_=>by simp at h
 | _,_::_,[],_,_,_,h,_,_=>by simp at h
 | 0,a::x,b::y,hx,hy,_,_,hd,xq=>by
  have e:x=y:=by simpa using hd
  have h1:a<18446744073709551616:=hx a (by simp);have h2:b<18446744073709551616:=hy b (by simp);subst e;have e1:num (a::x)=a+18446744073709551616*num x:=rfl;have e2:num (b::x)=b+18446744073709551616*num x:=rfl;have e3:xr (a::x) 0=a:=rfl;have e4:xr (b::x) 0=b:=rfl;rw[e1,e2,e3,e4]
  omega
 | k+1,a::x,b::y,hx,hy,oN,hky,hd,xq=>by
  have g1:xr (a::x) (k+1)=xr x k:=rfl;have g2:xr (b::y) (k+1)=xr y k:=rfl;rw[g1,g2]at xq⊢;have Kq:W64 x:=fun c hc=>hx c (by simp[hc])
  have Qn:W64 y:=fun c hc=>hy c (by simp[hc])
  have i1:=dG k x y Kq Qn (by simpa using oN) (by simpa using hky) (by simpa using hd) xq;have i2:=dG k y x Qn Kq (by simpa using hky) (by simpa using oN) (by simpa using hd.symm) (Ne.symm xq);have h1:a<18446744073709551616:=hx a (by simp);have h2:b<18446744073709551616:=hy b (by simp);have e1:num (a::x)=a+18446744073709551616*num x:=rfl;have e2:num (b::y)=b+18446744073709551616*num y:=rfl;rw[e1,e2]
  omega
theorem WO {a k n B:Nat}(h:k≤n) (hn:a ^ n<B) (hk:0<k):a ^ k<B:=by
 rcases Nat.eq_zero_or_pos a with h0 | h0
 ·subst h0;rw[Nat.zero_pow (show 0<n by omega)]at hn;rw[Nat.zero_pow hk]
  exact hn
 exact Nat.lt_of_le_of_lt (Nat.pow_le_pow_right h0 h) hn
theorem pZ {α:Type}{l:List α}(h:l.length=4):∃ a b c d,l=[a,b,c,d]:=by
 match l,h with
 | [a,b,c,d],_=>exact⟨a,b,c,d,rfl⟩
end Go.Proofs.YtjpcnhncoidliaaGreatDoor
namespace Go.Proofs.YtjpcnhncoidliaaGreatDoor
theorem bM {p n N:Nat}(hn:n=2∨n=3) (hp:p<1000) (h:N ^ n≤p*18446744073709551616 ^ n):N<32*18446744073709551616:=by
 apply Nat.lt_of_not_le
 intro hN
 have h1:=Nat.pow_le_pow_left hN n;have h2:(32*18446744073709551616) ^ n=32 ^ n*18446744073709551616 ^ n:=Nat.mul_pow _ _ _
 have h3:p*18446744073709551616 ^ n<32 ^ n*18446744073709551616 ^ n:=by
  apply Nat.mul_lt_mul_of_pos_right
  ·rcases hn with rfl | rfl <;> omega
  exact Nat.pow_pos (by decide)
 omega
theorem qo {n N:Nat}(hn:n=2∨n=3) (h:N≤34*18446744073709551616):N ^ n<18446744073709551616 ^ 4:=by
 have h1:=Nat.pow_le_pow_left h n;have h2:(34*18446744073709551616) ^ n<18446744073709551616 ^ 4:=by rcases hn with rfl | rfl <;> decide
 omega
theorem bN {p n N:Nat}(hp:1≤p) (h:p*18446744073709551616 ^ n<N ^ n):18446744073709551616<N:=by
 apply Nat.lt_of_not_le
 intro hN
 have h1:=Nat.pow_le_pow_left hN n;have h2:1*18446744073709551616 ^ n≤p*18446744073709551616 ^ n:=Nat.mul_le_mul_right _ hp
 omega
theorem XZ {n p c N:Nat}(hn:n=2∨n=3) (hc:c<18446744073709551616) (hf:o7 n p c=true) (h1:N ^ n≤p*18446744073709551616 ^ n) (h2:p*18446744073709551616 ^ n<(N+1) ^ n):N%18446744073709551616=c:=by
 unfold o7 at hf
 rw[List.any_eq_true]at hf;obtain⟨w,_,hw⟩:=hf
 simp only[Bool.and_eq_true,decide_eq_true_eq]at hw
 have e:=aQ (by omega) h1 h2 hw.1 hw.2;rw[e]
 omega
end Go.Proofs.YtjpcnhncoidliaaGreatDoor
namespace Go.Proofs.YtjpcnhncoidliaaGreatDoor
def jR (l:List Nat) (p:Nat):List Nat:=if l.all (fun q=>p%q != 0) then l++[p] else l
def sm:Nat→List Nat
 | 0=>[]
 | k+1=>jR (sm k) (k+2)
theorem Wp (l:List Nat) (p:Nat):l.length≤(jR l p).length∧(jR l p).length≤l.length+1:=by
 unfold jR
 split <;> simp
theorem mF (a:Nat):∀ d,(sm a).length≤(sm (a+d)).length
 | 0=>Nat.le_refl _
 | d+1=>Nat.le_trans (mF a d) (Wp _ _).1
theorem Wu:(sm 309).length=63:=by kernel_rfl
theorem eR:sm 310=uj.take 64:=by kernel_rfl
theorem Th {k:Nat}(h:(sm k).length<64):k≤309:=by
 apply Nat.le_of_not_lt
 intro hk
 have h1:=mF 310 (k-310);rw[show 310+(k-310)=k by omega,eR]at h1;have h2:(uj.take 64).length=64:=rfl
 omega
theorem Yl {k:Nat}(h1:k≤310) (h2:¬ (sm k).length<64):sm k=uj.take 64:=by
 have h3:k=310:=by
  rcases Nat.lt_or_ge k 310 with h | h
  ·have h4:=mF k (309-k);rw[show k+(309-k)=309 by omega,Wu]at h4
   omega
  omega
 rw[h3,eR]
theorem eS:∀ k,∀ q∈sm k,2≤q∧q≤k+1
 | 0,q,h=>by simp[sm]at h
 | k+1,q,h=>by
  have ih:=eS k q;rw[sm,jR]at h
  split at h
  ·rw[List.mem_append]at h
   rcases h with h | h
   ·have:=ih h;omega
   simp at h;omega
  have:=ih h;omega
theorem el {α:Type}(f:α→Bool) (l:List α) (j:Nat) (hj:j<l.length):(l.take (j+1)).all f=((l.take j).all f&&f l[j]):=by
 rw[List.take_succ_eq_append_getElem hj,List.all_append]
 simp
theorem Wq {l:List Nat}{p:Nat}(h:l.all (fun q=>p%q != 0)=true):jR l p=l++[p]:=if_pos h
theorem Tg {l:List Nat}{p:Nat}(h:l.all (fun q=>p%q != 0)=false):jR l p=l:=if_neg (by rw[h];decide)
end Go.Proofs.YtjpcnhncoidliaaGreatDoor
namespace Go.Proofs.YtjpcnhncoidliaaGreatDoor
open Go.RowKit
theorem lZ (x:Nat) (hx:x<18446744073709551616):bits .and .u64 (x:Int) 4294967295=((x%4294967296:Nat):Int):=by
 have h1:(BitVec.ofInt 64 (x:Int)).toNat=x:=by
  rw[BitVec.ofInt_natCast,BitVec.toNat_ofNat];exact Nat.mod_eq_of_lt (by omega)
 have h2:(BitVec.ofInt 64 (4294967295:Int)).toNat=4294967295:=by decide
 show IntKind.u64.wrap ((BitVec.ofInt 64 (x:Int) &&& BitVec.ofInt 64 4294967295).toNat:Int)=_
 have h3:x &&& 4294967295=x%4294967296:=by
  have:=Nat.and_two_pow_sub_one_eq_mod x 32
  simpa using this
 rw[BitVec.toNat_and,h1,h2,h3,IntKind.wrap_u64]
 omega
theorem xT (n:Nat) (h:n<18446744073709551616):IntKind.u64.wrap (n:Int)=(n:Int):=IntWalk.u64_in _ (by omega)
theorem Y3 (x y:Nat) (hx:x<18446744073709551616) (hy:y<18446744073709551616) (w:World) :
  Calls Tryz.prog 130 #[.int .u64 (x:Int),.int .u64 (y:Int)] w fun e w' =>
   e=.returned (.tuple #[.int .u64 ((x*y/18446744073709551616:Nat):Int),.int .u64 ((x*y%18446744073709551616:Nat):Int)])∧w=w':=by
 obtain⟨l1,l2,l3,l4⟩:=Lib.mul64_hi x y hx hy;have A1:bits .and .u64 (x:Int) 4294967295=((x%4294967296:Nat):Int):=lZ x hx;have A2:bits .and .u64 (y:Int) 4294967295=((y%4294967296:Nat):Int):=lZ y hy;have D1:(x:Int)/4294967296=((x/4294967296:Nat):Int):=by omega
 have D2:(y:Int)/4294967296=((y/4294967296:Nat):Int):=by omega
 have Qh:IntKind.u64.wrap ((x:Int)*(y:Int))=((x*y%18446744073709551616:Nat):Int):=by rw[IntKind.wrap_u64,← Int.natCast_mul];omega
 have mQ:=Lib.half_mul_le (a:=x/4294967296) (b:=y%4294967296) (by omega) (by omega);have iK:=Lib.half_mul_le (a:=x%4294967296) (b:=y/4294967296) (by omega) (by omega);have ZX:=Lib.half_mul_le (a:=x/4294967296) (b:=y/4294967296) (by omega) (by omega);obtain⟨lo,PG⟩:∃ n,x*y%18446744073709551616=n:=⟨_,rfl⟩
 obtain⟨hi,Re⟩:∃ n,x*y/18446744073709551616=n:=⟨_,rfl⟩
 have Nt:hi<18446744073709551616:=by
  rw[← Re];have:=Nat.mul_le_mul (show x≤18446744073709551615 by omega) (show y≤18446744073709551615 by omega)
  omega
 rw[PG]at Qh;rw[PG,Re];rw[Re]at l4;obtain⟨x0,VK⟩:∃ n,x%4294967296=n:=⟨_,rfl⟩
 obtain⟨x1,mS⟩:∃ n,x/4294967296=n:=⟨_,rfl⟩
 obtain⟨y0,G9⟩:∃ n,y%4294967296=n:=⟨_,rfl⟩
 obtain⟨y1,GA⟩:∃ n,y/4294967296=n:=⟨_,rfl⟩
 rw[VK]at A1 l1 l2 l3 l4 iK;rw[mS]at D1 l2 l3 l4 mQ ZX;rw[G9]at A2 l1 l2 l3 l4 mQ;rw[GA]at D2 l3 l4 iK ZX;obtain⟨w0,JV⟩:∃ n,x0*y0=n:=⟨_,rfl⟩
 obtain⟨p1,cN⟩:∃ n,x1*y0=n:=⟨_,rfl⟩
 obtain⟨p2,rv⟩:∃ n,x0*y1=n:=⟨_,rfl⟩
 obtain⟨p3,Q7⟩:∃ n,x1*y1=n:=⟨_,rfl⟩
 rw[JV]at l1 l2 l3 l4;rw[cN]at l2 l3 l4 mQ;rw[rv]at l3 l4 iK;rw[Q7]at l4 ZX;have M0:IntKind.u64.wrap ((x0:Int)*(y0:Int))=(w0:Int):=by rw[← Int.natCast_mul,JV];exact xT _ l1
 have M1:IntKind.u64.wrap ((x1:Int)*(y0:Int))=(p1:Int):=by rw[← Int.natCast_mul,cN];exact xT _ (by omega)
 have M2:IntKind.u64.wrap ((x0:Int)*(y1:Int))=(p2:Int):=by rw[← Int.natCast_mul,rv];exact xT _ (by omega)
 have M3:IntKind.u64.wrap ((x1:Int)*(y1:Int))=(p3:Int):=by rw[← Int.natCast_mul,Q7];exact xT _ (by omega)
 clear VK mS G9 GA JV cN rv Q7 mQ iK PG Re;obtain⟨q0,pG⟩:∃ n,w0/4294967296=n:=⟨_,rfl⟩
 have D3:(w0:Int)/4294967296=(q0:Int):=by omega
 rw[pG]at l2 l3 l4;obtain⟨t,ht⟩:∃ n,p1+q0=n:=⟨_,rfl⟩
 rw[ht]at l2 l3 l4;have S1:IntKind.u64.wrap ((p1:Int)+(q0:Int))=(t:Int):=by rw[← Int.natCast_add,ht];exact xT _ l2
 have A3:=lZ t l2;obtain⟨w1,nY⟩:∃ n,t%4294967296=n:=⟨_,rfl⟩
 obtain⟨w2,qK⟩:∃ n,t/4294967296=n:=⟨_,rfl⟩
 have D4:(t:Int)/4294967296=(w2:Int):=by omega
 rw[nY]at A3 l3 l4;rw[qK]at l4;obtain⟨v,hv⟩:∃ n,w1+p2=n:=⟨_,rfl⟩
 rw[hv]at l3 l4;have S2:IntKind.u64.wrap ((w1:Int)+(p2:Int))=(v:Int):=by rw[← Int.natCast_add,hv];exact xT _ l3
 obtain⟨q1,dg⟩:∃ n,v/4294967296=n:=⟨_,rfl⟩
 have D5:(v:Int)/4294967296=(q1:Int):=by omega
 rw[dg]at l4;obtain⟨p4,SU⟩:∃ n,p3+w2=n:=⟨_,rfl⟩
 rw[SU]at l4;have S3:IntKind.u64.wrap ((p3:Int)+(w2:Int))=(p4:Int):=by rw[← Int.natCast_add,SU];exact xT _ (by omega)
 have S4:IntKind.u64.wrap ((p4:Int)+(q1:Int))=(hi:Int):=by rw[← Int.natCast_add,l4];exact xT _ Nt
 clear pG ht nY qK hv dg SU l1 l2 l3 l4 ZX Nt hx hy;go_enter Tryz.func130,Tryz.ntmps130
 go_wp2_with fail
 go_ret2
 exact⟨rfl,rfl⟩
open Extern.MathBitsCarry in
theorem Wa (x y c:Nat) (hc:c≤1) (w:World):(callFunc 123 #[.int .u64 (x:Int),.int .u64 (y:Int),.int .u64 (c:Int)]).run Tryz.prog w =
  .ok (.value (.tuple #[.int .u64 (((x+y+c)%18446744073709551616:Nat):Int),.int .u64 (((x+y+c)/18446744073709551616:Nat):Int)])) w:=by
 rw[run_callFunc_extern Tryz.func123 (by kernel_rfl) (by kernel_rfl) (by kernel_rfl) (e:=fun args=>do
  let (x, y, c) ← three "Add64" args
  pure (pair ((x+y+c)%m64) ((x+y+c)/m64))) (by kernel_rfl)]
 rcases(show c=0∨c=1 by omega) with rfl | rfl
 ·rfl
 rfl
open Extern.MathBitsCarry in
theorem eK (x y c:Nat) (hc:c≤1) (w:World):(callFunc 122 #[.int .u64 (x:Int),.int .u64 (y:Int),.int .u64 (c:Int)]).run Tryz.prog w =
  .ok (.value (.tuple #[.int .u64 (((x+18446744073709551616-y-c)%18446744073709551616:Nat):Int),.int .u64 ((if x<y+c then 1 else 0:Nat):Int)])) w:=by
 rw[run_callFunc_extern Tryz.func122 (by kernel_rfl) (by kernel_rfl) (by kernel_rfl) (e:=fun args=>do
  let (x, y, b) ← three "Sub64" args
  pure (pair ((x+m64-y-b)%m64) (if x<y+b then 1 else 0))) (by kernel_rfl)]
 rcases(show c=0∨c=1 by omega) with rfl | rfl
 ·rfl
 rfl
def zM (l:List Nat):Array Value:=(l.map fun n:Nat=>Value.int .u64 (n:Int)).toArray
theorem uX (l:List Nat):(zM l).size=l.length:=by simp[zM]
theorem sd (l:List Nat) (i:Nat) (h:i<l.length):(zM l)[i]? = some (.int .u64 (xr l i:Int)):=by
 simp[zM,xr,h]
theorem qT (l:List Nat) (i n:Nat):(zM l).setIfInBounds i (.int .u64 (n:Int))=zM (l.set i n):=by
 simp[zM,List.map_set]
theorem wP (l:List Nat):(zM l).all (·.oneCell')=true:=by simp[zM,Value.oneCell']
theorem ng (x y:Nat) (w:World):(callFunc 123 #[.int .u64 (x:Int),.int .u64 (y:Int),.int .u64 0]).run Tryz.prog w =
  .ok (.value (.tuple #[.int .u64 (((x+y)%18446744073709551616:Nat):Int),.int .u64 (((x+y)/18446744073709551616:Nat):Int)])) w:=Wa x y 0 (by omega) w
theorem wE:(Tryz.prog.info? 154).map (·.size)=some 4:=by kernel_rfl
theorem tr:(Tryz.prog.info? 75).map (·.size)=some 1:=by kernel_rfl
theorem Wn {x y:List Nat}(hx:x.length=4) (hy:y.length=4) (fW:W64 x) (hyw:W64 y) (w:World) :
  Calls Tryz.prog 121 #[.agg (zM x),.agg (zM y)] w fun e w'=>e=.returned (.agg (zM (xZ x y [0,0,0,0])))∧Below w.heap.size w w':=by
 have rd:=Blk.new w 154 (zM x);have XI:=Blk.new (w.alloc (.cells (zM x) 154)) 154 (zM y);have HL:=Hh (And.intro hx hy);have HW:=Hh (And.intro fW hyw);clear hx hy fW hyw;have Pu:=Blk.new (((w.alloc (.cells (zM x) 154)).alloc (.cells (zM y) 154)).alloc (.cells (zM [0,0,0,0]) 154)) 154 (zM [0,0,0,0]);have jX:=(Blk.new ((w.alloc (.cells (zM x) 154)).alloc (.cells (zM y) 154)) 154 (zM [0,0,0,0])).alloc (.cells (zM [0,0,0,0]) 154);replace rd:=((rd.alloc (.cells (zM y) 154)).alloc (.cells (zM [0,0,0,0]) 154)).alloc (.cells (zM [0,0,0,0]) 154);replace XI:=(XI.alloc (.cells (zM [0,0,0,0]) 154)).alloc (.cells (zM [0,0,0,0]) 154)
 simp only[zW]at XI jX Pu
 have yZ:=zl w (.cells (zM x) 154);have zP:=yZ.alloc yZ.size (.cells (zM y) 154);have yz:=zP.alloc zP.size (.cells (zM [0,0,0,0]) 154);have vg:=yz.alloc yz.size (.cells (zM [0,0,0,0]) 154);clear yZ zP yz;go_enter Tryz.func121,Tryz.ntmps121
 go_wp2_with fail
 go_loopw [12] (fun v12 wr=>∃ (i:Nat) (zs:List Nat),v12=.int .i64 (i:Int)∧i≤4∧zs.length=4∧W64 zs∧zs.take i++xZ (x.drop i) y (zs.drop i)=xZ x y [0,0,0,0]∧
   Blk wr (w.heap.size+1+1+1) 154 (zM zs)∧Blk wr w.heap.size 154 (zM x)∧Blk wr (w.heap.size+1) 154 (zM y)∧Blk wr (w.heap.size+1+1) 154 (zM [0,0,0,0])∧Below w.heap.size w wr) (fun v12 _=>(4-intOf v12).toNat)
 case atStart=>exact⟨0,[0,0,0,0],rfl,by omega,rfl,by simp[W64],rfl,Pu,rd,XI,jX,vg⟩
 case round =>
 clear Pu rd XI jX vg;obtain⟨i,zs,rfl,Nu,dj,mT,hQ,hZ,hX,hY,hR,hb⟩:=hrel;have HZ:=Hh (And.intro dj (And.intro mT hQ));clear dj mT hQ
 by_cases yy:(i:Int)<4
 ·have HI:=Hh yy;have oM:IntKind.i64.wrap ((i:Int)+((0:Nat):Int))=(i:Int):=by rw[show(i:Int)+((0:Nat):Int)=(i:Int) by omega];exact IntWalk.i64_in _ (by omega)
  go_wp2_with fail
  go_loopw [7,8] (fun v7 v8 wx=>∃ (j c:Nat) (zt:List Nat),v8=.int .i64 (j:Int)∧v7=.int .u64 (c:Int)∧c<18446744073709551616∧i+j≤4∧zt.length=4∧W64 zt∧zt.take (i+j)++vp (xr x i) (y.drop j) (zt.drop (i+j)) c=zs.take i++vp (xr x i) y (zs.drop i) 0∧
    Blk wx (w.heap.size+1+1+1) 154 (zM zt)∧Blk wx w.heap.size 154 (zM x)∧Blk wx (w.heap.size+1) 154 (zM y)∧Blk wx (w.heap.size+1+1) 154 (zM [0,0,0,0])∧Below w.heap.size w wx) (fun _ v8 _=>(4-(i:Int)-intOf v8).toNat)
  case atStart=>exact⟨0,0,zs,rfl,rfl,by omega,by omega,HZ.out.1,HZ.out.2.1,by simp,hZ,hX,hY,hR,hb⟩
  case round =>
  clear hZ hX hY hR hb;obtain⟨j,c,zt,rfl,rfl,hc,J3,dj,mT,hQ,hZ,hX,hY,hR,hb⟩:=hrel;obtain⟨k,hk⟩:∃ k,i+j=k:=⟨_,rfl⟩
  have Wk:IntKind.i64.wrap ((i:Int)+(j:Int))=(k:Int):=by rw[← hk,Int.natCast_add];exact IntWalk.i64_in _ (by omega)
  by_cases hkt:(k:Int)<4
  ·have cx:=hX.drew.cell i (sd _ _ (by have:=HL.out;omega));have cy:=hY.drew.cell j (sd _ _ (by have:=HL.out;omega));have cz:=hZ.drew.cell k (sd _ _ (by omega));have Gn:(i:Int)<4∧(j:Int)<4:=by omega
   obtain⟨Qe,Bj⟩:=Gn;obtain⟨xi,mh⟩:∃ n,xr x i=n:=⟨_,rfl⟩
   obtain⟨yj,Kr⟩:∃ n,xr y j=n:=⟨_,rfl⟩
   obtain⟨zk,Ks⟩:∃ n,xr zt k=n:=⟨_,rfl⟩
   have JZ:xi<18446744073709551616:=by rw[← mh];exact dC HW.out.1 i
   have O5:yj<18446744073709551616:=by rw[← Kr];exact dC HW.out.2 j
   have GE:zk<18446744073709551616:=by rw[← Ks];exact dC mT k
   rw[mh]at cx;rw[Kr]at cy;rw[Ks]at cz;have M:=Hh (fun w=>Y3 xi yj JZ O5 w);obtain⟨s1,s2,s3,s4⟩:=TO JZ O5 GE hc;have H5:=Hh (And.intro hk (And.intro dj (And.intro mT (And.intro hQ (And.intro mh (And.intro Kr Ks))))));have HC:=Hh hc;clear hc hk dj mT hQ mh Kr Ks JZ O5 GE;have A1:=ng (xi*yj%18446744073709551616) c;have A2:=ng zk ((xi*yj%18446744073709551616+c)%18446744073709551616);obtain⟨p0,kH⟩:∃ n,xi*yj/18446744073709551616=n:=⟨_,rfl⟩
   obtain⟨p1,cN⟩:∃ n,xi*yj%18446744073709551616=n:=⟨_,rfl⟩
   rw[kH]at s1 s2;rw[cN]at s1 s2 s3 A1 A2;obtain⟨l0,V9⟩:∃ n,(p1+c)%18446744073709551616=n:=⟨_,rfl⟩
   obtain⟨l1,Zg⟩:∃ n,(p1+c)/18446744073709551616=n:=⟨_,rfl⟩
   rw[V9]at s2 s3 A1 A2;rw[Zg]at s1 s2 A1;obtain⟨q0,pG⟩:∃ n,(zk+l0)%18446744073709551616=n:=⟨_,rfl⟩
   obtain⟨q1,dg⟩:∃ n,(zk+l0)/18446744073709551616=n:=⟨_,rfl⟩
   rw[pG]at s3 A2;rw[dg]at s2 A2;obtain⟨r0,Xx⟩:∃ n,p0+l1=n:=⟨_,rfl⟩
   obtain⟨r1,O0⟩:∃ n,r0+q1=n:=⟨_,rfl⟩
   rw[Xx]at s1 s2;rw[O0]at s2;have B1:IntKind.u64.wrap ((p0:Int)+(l1:Int))=(r0:Int):=by rw[← Int.natCast_add,Xx];exact xT _ s1
   have B2:IntKind.u64.wrap ((r0:Int)+(q1:Int))=(r1:Int):=by rw[← Int.natCast_add,O0];exact xT _ (by omega)
   have HP:=Hh (And.intro kH cN);have HS:=Hh (And.intro s2 (And.intro s3 s4));clear s1 s2 s3 s4 kH cN V9 Zg pG dg Xx O0;go_upto_region 9 with fail
   refine zn 12 (fun wx=>wx.cell? ⟨w.heap.size,i,none⟩=some (.int .u64 (xi:Int))∧wx.cell? ⟨w.heap.size+1,j,none⟩=some (.int .u64 (yj:Int))) (by kernel_rfl) (⟨cx,cy⟩) (fun zy=>?_)
   refine TkS 0 rfl zy ?_
   refine TkS 1 rfl zy ?_
   refine TkS 2 rfl zy ?_
   refine TkS 3 rfl zy ?_
   refine TkS 4 rfl zy ?_
   refine TkS 5 rfl zy ?_
   refine To 6 rfl fun K hK=>?_
   go_simp
   refine(M.out _).mono ?_
   rintro e w5 ⟨rfl,rfl⟩
   rw[HP.out.1,HP.out.2];clear zy
   refine hK.out _ _ (fun _=>?_) (fun zy=>?_)
   ·exact⟨cx,cy⟩
   clear hK K;replace zy:=zy (by decide)
   try simp only[Act.put,zz1,zz2,zz3,zz4,zz5,zz6]
   refine TkS 7 rfl zy ?_
   refine TkS 8 rfl zy ?_
   refine TkS 9 rfl zy ?_
   refine TkS 10 rfl zy ?_
   refine TkS 11 rfl zy ?_
   refine Wd ?_
   clear zy;go_wp2_with (with_reducible refine zx ?_)
   refine zr rfl _ _ _ rfl rfl (w.heap.size+1+1+1) k (.int .u64 (q0:Int)) rfl rfl _ _ hZ tr (by rw[uX,H5.out.2.1];omega) rfl fun w9 hZ9 hg9=>?_
   rw[qT]at hZ9;have jZ:=hX.drew.grown hg9 (by intro hc;injection hc;omega);have Iq:=hY.drew.grown hg9 (by intro hc;injection hc;omega);have Ze:=hR.drew.grown hg9 (by intro hc;injection hc;omega);have uN:=hb.drew.grown hg9 hb.size (by rintro q ⟨⟩;omega);have hq:q0<18446744073709551616:=by rw[HS.out.2.1];exact Nat.mod_lt _ (by decide)
   have hr:r1<18446744073709551616:=by rw[HS.out.1];exact HS.out.2.2
   have HN:Hid ((zt.set k q0).length=4∧W64 (zt.set k q0)∧(zt.set k q0).take (k+1)++vp (xr x i) (y.drop (j+1)) ((zt.set k q0).drop (k+1)) r1=zs.take i++vp (xr x i) y (zs.drop i) 0):=by
    obtain⟨e1,e2,e3,e4,e5,e6,e7⟩:=H5.out
    refine⟨by rw[List.length_set];exact e2,e3.set k hq, ?_⟩
    rw[← e4,e1,HS.out.1,HS.out.2.1,← e5,← e6,← e7]
    exact aU (by omega) (by have:=HL.out;omega)
   have HR:=Hh hr;clear hg9 hX hY hR hb hZ cx cy cz A1 A2 hq hr M HS;go_wp2_with fail
   go_roundw
   case rel=>exact⟨j+1,r1,zt.set k q0,by go_num,rfl,HR.out,by have:=H5.out.1;omega,HN.out.1,HN.out.2.1,by rw[show i+(j+1)=k+1 by have:=H5.out.1;omega];exact HN.out.2.2,hZ9,jZ,Iq,Ze,uN⟩
   case measure=>have:=H5.out.1;simp[intOf];omega
  have hE:i+j=4:=by omega
  have GF:zt=zs.take i++vp (xr x i) y (zs.drop i) 0:=by
   rw[← hQ,hE,List.take_of_length_le (l:=zt) (by omega),List.drop_of_length_le (l:=zt) (by omega),YX,List.append_nil]
  have HQ:=Hh ((aV (by have:=HL.out;have:=HI.out;omega) (by have:=HZ.out.1;have:=HI.out;omega) (by have:=HL.out;omega) GF).trans HZ.out.2.2);have Ev:=Hh (And.intro dj mT);clear GF hE dj mT hQ hk;go_wp2_with fail
  go_roundw
  case rel=>exact⟨i+1,zt,by go_num,by have:=HI.out;omega,Ev.out.1,Ev.out.2,HQ.out,hZ,hX,hY,hR,hb⟩
  case measure=>have:=HI.out;simp[intOf];omega
 obtain rfl:i=4:=by omega
 rw[show((4:Nat):Int)=4 from rfl]at yy⊢
 have Sy:zs=xZ x y [0,0,0,0]:=by
  obtain⟨e1,e2,e3⟩:=HZ.out;have:=HL.out;rw[← e3,List.take_of_length_le (l:=zs) (by omega),List.drop_of_length_le (l:=x) (by omega),List.drop_of_length_le (l:=zs) (by omega),aB,List.append_nil]
 have Cy:=Hh Sy;obtain⟨z0,z1,z2,z3,iu⟩:∃ a b c d,zs=[a,b,c,d]:=pZ HZ.out.1;have K6:=Hh iu;rw[iu]at hZ;clear Sy iu;have c0:wr.cell? ⟨w.heap.size+1+1+1,0,none⟩=some (.int .u64 (z0:Int)):=hZ.cell 0 rfl;have c1:wr.cell? ⟨w.heap.size+1+1+1,1,none⟩=some (.int .u64 (z1:Int)):=hZ.cell 1 rfl;have c2:wr.cell? ⟨w.heap.size+1+1+1,2,none⟩=some (.int .u64 (z2:Int)):=hZ.cell 2 rfl;have c3:wr.cell? ⟨w.heap.size+1+1+1,3,none⟩=some (.int .u64 (z3:Int)):=hZ.cell 3 rfl;go_wp2_with (with_reducible refine zx ?_)
 refine zu rfl _ _ _ rfl rfl (w.heap.size+1+1) (zM [z0,z1,z2,z3]) rfl rfl _ _ hR wE rfl (wP _) fun wz hRz z8=>?_
 have yX:=hb.grown z8 hb.size (by rintro q ⟨⟩;omega);clear c0 c1 c2 c3;go_wp2_with fail
 refine xS rfl rfl hRz rfl rfl wE rfl ?_
 exact⟨by rw[← K6.out,Cy.out],yX⟩
end Go.Proofs.YtjpcnhncoidliaaGreatDoor
