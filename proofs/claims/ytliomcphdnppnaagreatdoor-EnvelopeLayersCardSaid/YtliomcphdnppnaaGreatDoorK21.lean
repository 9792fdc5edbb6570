/- squeezed. Walks: the boxes of AES, by the pr -/
import Derived.Test.YtliomcphdnppnaaGreatDoorK20
import Derived.Deep.Cut
import Derived.Deep.DeepCutAuto
import Derived.Deep.CutBlock
set_option linter.unusedVariables false
set_option linter.unusedSimpArgs false
set_option maxRecDepth 100000
set_option maxHeartbeats 6400000
namespace Go.Proofs.YtliomcphdnppnaaGreatDoor
open Go.RowKit
theorem k9 {n:Nat}(h:n≤256):(oJ n).length=256:=by simp[oJ];omega
theorem Ug {n:Nat}(h:n<256):(oJ n).set n (oa n)=oJ (n+1):=by
 rw[oJ,oJ,List.set_append_right _ _ (by simp),List.length_map,List.length_range,Nat.sub_self,show 256-n=(256-(n+1))+1 by omega,List.replicate_succ,List.set_cons_zero,List.range_succ,List.map_append,List.append_assoc];rfl
theorem ZP {i n:Nat}(h:i<n):at_ (oJ n) i=oa i:=by
 simp[oJ,at_,List.getD_eq_getElem?_getD,List.getElem?_append_left,h]
theorem xC (i:Nat):(uI i).length=512:=by
 induction i with
 | zero=>exact List.length_replicate
 | succ i ih =>
 show(((uI i).set _ _).set _ _).length=512
 rw[List.length_set,List.length_set,ih]
theorem XH (i:Nat):((uI i).set (bT i).toNat (Yl (eY i))).set (256+(Yl (eY i)).toNat) (bT i)=uI (i+1):=rfl
theorem ji:Tryz.zeroCells121=zj (uI 0):=by kernel_rfl
theorem zero_pow:Tryz.zeroCells115=zj (oJ 0):=by kernel_rfl
theorem lB (w:World) :
  Calls Tryz.prog 96 #[] w fun e w'=>e=.returned (.agg (zj (uI 256)))∧Below w.heap.size w w':=by
 have m7:=Blk.new w 121 (zj (uI 0));have JC:=Blk.new (w.alloc (.cells (zj (uI 0)) 121)) 115 (zj (oJ 0));have yK:=zu w (.cells (zj (uI 0)) 121);have zJ:=yK.alloc yK.size (.cells (zj (oJ 0)) 115);replace m7:=m7.alloc (.cells (zj (oJ 0)) 115);rw[zr]at JC;go_enter Tryz.func96,Tryz.ntmps96
 go_wp2_with fail
 rw[ji,zero_pow];go_loopw [2,10] (fun v2 v10 wr=>∃ i:Nat,v10=.int .i64 (i:Int)∧v2=zq (oa i)∧i≤255∧Blk wr (w.heap.size+1) 115 (zj (oJ i))∧Blk wr w.heap.size 121 (zj (uI 0))∧Below w.heap.size w wr) (fun _ v10 _=>(255-intOf v10).toNat)
 case atStart=>exact⟨0,rfl,rfl,by omega,JC,m7,zJ⟩
 case round =>
 clear JC m7 zJ;obtain⟨i,rfl,rfl,hi,hP,hR,hb⟩:=hrel
 by_cases zB:(i:Int)<255
 ·have D:=Hh (fun b w=>o8 b w);have E:=Hh (xE (oa i) (rq (oa i)));have P1:Hid (oa (i+1)=oa i ^^^ rq (oa i)):=rfl;obtain⟨u,hu⟩:∃ u,oa i=u:=⟨_,rfl⟩
  have HU:=Hh hu;rw[hu]at E P1⊢;have S1:=Hh (Ug (n:=i) (by omega));rw[hu]at S1;clear hu;go_wp2_with (with_reducible refine zx ?_)
  refine ze rfl _ _ _ rfl rfl (w.heap.size+1) i (zq u) rfl rfl _ _ hP wi (by rw[zf,k9 (by omega)];omega) rfl fun w5 Td yP=>?_
  rw[wM,S1.out]at Td;have Kk:=hR.gr yP (by omega);have xS:=hb.grown yP hb.size (by rintro q ⟨⟩;omega);clear hP hR hb yP S1;go_wp2_with fail
  refine(D.out _ _).mono ?_
  rintro e w6 ⟨rfl,rfl⟩
  go_wp2_with fail
  go_roundw
  case rel=>exact⟨i+1,by go_num,by rw[P1.out,zq,← E.out],by omega,Td,Kk,xS⟩
  case measure=>simp[intOf];omega
 obtain rfl:i=255:=by omega
 rw[show((255:Nat):Int)=255 from rfl];have hS:=Blk.new wr 121 (zj (uI 0));have Td:=hP.alloc (.cells (zj (uI 0)) 121);have Kk:=hR.alloc (.cells (zj (uI 0)) 121);have xS:=hb.alloc hb.size (.cells (zj (uI 0)) 121);obtain⟨N,hN⟩:∃ N,wr.heap.size=N:=⟨_,rfl⟩
 have HN:=Hh (And.intro hN (show w.heap.size+2≤N by have:=hP.lt;omega));rw[hN]at hS;clear hP hR hb hN zB;go_wp2_with fail
 rw[ji]
 try rw[HN.out.1]
 go_loopw [21] (fun v21 wx=>∃ i:Nat,v21=.int .i64 (i:Int)∧i≤256∧Blk wx N 121 (zj (uI i))∧Blk wx (w.heap.size+1) 115 (zj (oJ 255))∧Blk wx w.heap.size 121 (zj (uI 0))∧Below w.heap.size w wx) (fun v21 _=>(256-intOf v21).toNat)
 case atStart=>exact⟨0,rfl,by omega,hS,Td,Kk,xS⟩
 case round =>
 clear hS Td Kk xS;obtain⟨i,rfl,hi,hS,hP,hR,hb⟩:=hrel
 by_cases zB:(i:Int)<256
 ·obtain⟨m,hm⟩:∃ m,(255-i)%255=m:=⟨_,rfl⟩
  obtain⟨d,hd⟩:∃ d,255-i=d:=⟨_,rfl⟩
  have W1:(i:Int)<255→IntKind.i64.wrap (255-(i:Int))=(d:Int):=fun h=>by rw[← hd,show((255-i:Nat):Int)=255-(i:Int) by omega];exact IntWalk.i64_in _ (by omega)
  have T1:(d:Int).tmod 255=(m:Int):=by rw[← hm,hd];exact(Int.ofNat_tmod d 255).symm
  have l1:(m:Int)<255:=by omega
  have l2:(m:Int)<256:=by omega
  have HM:=Hh (And.intro hm hd);clear hm hd;go_upto_if 25 with fail
  go_cut [6,7] (fun s6 s7 wy=>∃ a b:UInt8,s6=zq a∧s7=zq b∧Hid (bT i=a∧eY i=b)∧Blk wy N 121 (zj (uI i))∧Blk wy (w.heap.size+1) 115 (zj (oJ 255))∧Blk wy w.heap.size 121 (zj (uI 0))∧Below w.heap.size w wy)
  case first =>
   by_cases h2:(i:Int)<255
   ·have W2:=W1 h2;have b1:=hP.drew.cell i (yT _ _ (by rw[k9 (by omega)];omega));have b2:=hP.drew.cell m (yT _ _ (by rw[k9 (by omega)];omega));rw[ZP (by omega)]at b1;rw[ZP (by omega)]at b2;obtain⟨u,hu⟩:∃ u,oa i=u:=⟨_,rfl⟩
    obtain⟨v,hv⟩:∃ v,oa m=v:=⟨_,rfl⟩
    rw[hu]at b1;rw[hv]at b2;have FA:=Hh (And.intro hu hv);clear hu hv W1;go_upto_region 15 with fail
    refine zw 10 (fun wx=>wx.cell? ⟨w.heap.size+1,i,none⟩=some (zq u)∧wx.cell? ⟨w.heap.size+1,m,none⟩=some (zq v)) (by kernel_rfl) (⟨b1,b2⟩) (fun zy=>?_)
    refine TkS 0 rfl zy ?_
    refine TkS 1 rfl zy ?_
    refine TkS 2 rfl zy ?_
    refine TkS 3 rfl zy ?_
    refine TkS 4 rfl zy ?_
    refine TkS 5 rfl zy ?_
    refine TkS 6 rfl zy ?_
    refine TkS 7 rfl zy ?_
    refine TkS 8 rfl zy ?_
    refine TkS 9 rfl zy ?_
    refine Wd ?_
    clear zy;go_wp2_with fail
    go_meet
    exact⟨u,v,rfl,rfl,⟨by rw[bT,if_pos (by omega),FA.out.1],by rw[eY,if_pos (by omega),HM.out.1,FA.out.2]⟩,hS.drew,hP.drew,hR.drew,hb.drew⟩
   go_wp2_with fail
   go_meet
   exact⟨0,0,rfl,rfl,⟨by rw[bT,if_neg (by omega)],by rw[eY,if_neg (by omega)]⟩,hS,hP,hR,hb⟩
  case rest =>
  clear hS hP hR hb W1 T1 l1 l2;obtain⟨a,b,rfl,rfl,o3,hS,hP,hR,hb⟩:=hcut;have R:=Hh (fun k hk w=>XE b k hk w);have X0:=xE b 99;have X1:=xE (b ^^^ 99) (sP b 1);have X2:=xE (b ^^^ 99 ^^^ sP b 1) (sP b 2);have X3:=xE (b ^^^ 99 ^^^ sP b 1 ^^^ sP b 2) (sP b 3);have X4:=xE (b ^^^ 99 ^^^ sP b 1 ^^^ sP b 2 ^^^ sP b 3) (sP b 4);have hx:∀ x:Int,bits .xor .u8 x ((99:UInt8).toNat:Int)=bits .xor .u8 x 99:=fun _=>rfl
  rw[hx]at X0;obtain⟨c0,tB⟩:∃ c,b ^^^ 99=c:=⟨_,rfl⟩
  rw[tB]at X0 X1 X2 X3 X4;obtain⟨c1,rK⟩:∃ c,c0 ^^^ sP b 1=c:=⟨_,rfl⟩
  rw[rK]at X1 X2 X3 X4;obtain⟨c2,f7⟩:∃ c,c1 ^^^ sP b 2=c:=⟨_,rfl⟩
  rw[f7]at X2 X3 X4;obtain⟨c3,OE⟩:∃ c,c2 ^^^ sP b 3=c:=⟨_,rfl⟩
  rw[OE]at X3 X4;obtain⟨c4,QY⟩:∃ c,c3 ^^^ sP b 4=c:=⟨_,rfl⟩
  rw[QY]at X4;have HC:Hid (Yl (eY i)=c4):=by rw[Hid,o3.out.2,Yl,tB,rK,f7,OE,QY]
  clear tB rK f7 OE QY hx;go_wp2_with fail
  refine wp_loop_rounds 5 ?_
  rw[rounds_succ];go_wp2_with fail
  refine(R.out 1 (by omega) _).mono ?_
  rintro e w5 ⟨rfl,rfl⟩
  go_wp2_with fail
  rw[rounds_succ];go_wp2_with fail
  refine(R.out 2 (by omega) _).mono ?_
  rintro e w5 ⟨rfl,rfl⟩
  go_wp2_with fail
  rw[rounds_succ];go_wp2_with fail
  refine(R.out 3 (by omega) _).mono ?_
  rintro e w5 ⟨rfl,rfl⟩
  go_wp2_with fail
  rw[rounds_succ];go_wp2_with fail
  refine(R.out 4 (by omega) _).mono ?_
  rintro e w5 ⟨rfl,rfl⟩
  go_wp2_with fail
  rw[rounds_succ];have la:(a.toNat:Int)<256:=by have:=a.toNat_lt;omega
  have lc:(c4.toNat:Int)<256:=by have:=c4.toNat_lt;omega
  go_wp2_with (with_reducible refine zx ?_)
  refine ze rfl _ _ _ rfl rfl N a.toNat (zq c4) rfl rfl _ _ hS wi (by rw[zf,xC];omega) rfl fun w6 QU xX=>?_
  rw[wM]at QU;have Tw:=hP.grown xX (by intro e;injection e with e;have:=HN.out;omega);have Fn:=hR.grown xX (by intro e;injection e with e;have:=HN.out;omega);have xT:=hb.grown xX hb.size (by rintro q ⟨⟩;have:=HN.out;omega);clear hS hP hR hb xX;go_wp2_with (with_reducible refine zx ?_)
  refine ze rfl _ _ _ rfl rfl N (256+c4.toNat) (zq a) rfl rfl _ _ QU wi (by rw[zf,List.length_set,xC];omega) rfl fun w7 hS7 wh=>?_
  rw[wM]at hS7;have QQ:=Tw.grown wh (by intro e;injection e with e;have:=HN.out;omega);have DW:=Fn.grown wh (by intro e;injection e with e;have:=HN.out;omega);have wJ:=xT.grown wh xT.size (by rintro q ⟨⟩;have:=HN.out;omega);clear QU Tw Fn xT wh la lc X0 X1 X2 X3 X4;go_wp2_with fail
  go_roundw
  case rel=>exact⟨i+1,by go_num,by omega,by rw[← HC.out,← o3.out.1,XH]at hS7;exact hS7,QQ,DW,wJ⟩
  case measure=>simp[intOf];omega
 obtain rfl:i=256:=by omega
 rw[show((256:Nat):Int)=256 from rfl];clear zB;go_wp2_with (with_reducible refine uh 121 ?_)
 refine yq rfl _ _ rfl N 0 512 rfl hS (by rw[xC];omega) _ Tryz.underlying121 rfl (by kernel_rfl) ?_
 rw[vS (xC _)];go_wp2_with (with_reducible refine zx ?_)
 refine tw rfl _ _ _ rfl rfl w.heap.size 0 (uI 256) rfl rfl hR (by rw[xC];kernel_rfl) (by rw[xC,xC];omega) fun w8 RQ hg8=>?_
 rw[ZS (by rw[xC,xC])]at RQ;have oN:=hb.grown hg8 hb.size (by rintro q ⟨⟩;omega);clear hS hP hR hb hg8;go_wp2_with fail
 exact zO rfl rfl RQ rfl rfl (by rw[zf,xC];kernel_rfl) rfl ⟨rfl,oN⟩
end Go.Proofs.YtliomcphdnppnaaGreatDoor
