/- squeezed. Walks: the box of AES, by the refe -/
import Derived.Test.YtliomcphdnppnaaGreatDoorK34
set_option linter.unusedVariables false
set_option linter.unusedSimpArgs false
set_option maxRecDepth 100000
set_option maxHeartbeats 12800000
namespace Go.Proofs.YtliomcphdnppnaaGreatDoor
open Go.RowKit
def oN (n:Nat):List UInt8:=(List.range n).map vf++List.replicate (255-n) 0
theorem sY {n:Nat}(h:n≤255):(oN n).length=255:=by simp[oN];omega
theorem XC {n:Nat}(h:n<255):(oN n).set n (vf n)=oN (n+1):=by
 rw[oN,oN,List.set_append_right _ _ (by simp),show 255-n=(255-(n+1))+1 by omega,List.replicate_succ]
 simp[List.range_succ]
theorem pW {i n:Nat}(h:i<n):at_ (oN n) i=vf i:=by
 rw[at_,oN,List.getD_eq_getElem?_getD,List.getElem?_append_left (by simpa using h)]
 simp[h]
theorem ki (i:Nat):(Zw i).length=256:=by
 induction i with
 | zero=>show((List.replicate 256 (0:UInt8)).set 0 99).length=256;rw[List.length_set,List.length_replicate]
 | succ i ih=>exact(List.length_set ..).trans ih
theorem Z6 (i:Nat):(Zw i).set (vf i).toNat (vf ((255-i)%255) ^^^ xC (vf ((255-i)%255)) 1 ^^^ xC (vf ((255-i)%255)) 2 ^^^ xC (vf ((255-i)%255)) 3 ^^^ xC (vf ((255-i)%255)) 4 ^^^ 99)=Zw (i+1):=rfl
theorem lI:Tryz.zeroCells115=zr (List.replicate 256 0):=by kernel_rfl
theorem XY:Tryz.zeroCells239=zr (oN 0):=by kernel_rfl
theorem mD (w:World) :
  Calls Tryz.prog 143 #[] w fun e w'=>e=.returned (.agg (zr tJ))∧Below w.heap.size w w':=by
 have Vh:=Blk.new w 115 (zr (List.replicate 256 0));have Sb:=Blk.new (w.alloc (.cells (zr (List.replicate 256 0)) 115)) 239 (zr (oN 0));have xz:=zq w (.cells (zr (List.replicate 256 0)) 115);have zH:=xz.alloc xz.size (.cells (zr (oN 0)) 239);replace Vh:=Vh.alloc (.cells (zr (oN 0)) 239);rw[zu]at Sb;go_enter Tryz.func143,Tryz.ntmps143
 go_wp2_with fail
 rw[lI,XY];go_loopw [2,7] (fun v2 v7 wr=>∃ i:Nat,v7=.int .i64 (i:Int)∧v2=zv (vf i)∧i≤255∧Blk wr (w.heap.size+1) 239 (zr (oN i))∧Blk wr w.heap.size 115 (zr (List.replicate 256 0))∧Below w.heap.size w wr) (fun _ v7 _=>(255-intOf v7).toNat)
 case atStart=>exact⟨0,rfl,rfl,by omega,Sb,Vh,zH⟩
 case round =>
 clear Sb Vh zH;obtain⟨i,rfl,rfl,hi,hP,hR,hb⟩:=hrel
 by_cases zB:(i:Int)<255
 ·have P1:Hid (sB (vf i) 3=vf (i+1)):=rfl;obtain⟨u,hu⟩:∃ u,vf i=u:=⟨_,rfl⟩
  rw[hu]at P1⊢;have S1:=Hh (XC (n:=i) (by omega));rw[hu]at S1;clear hu;go_wp2_with (with_reducible refine zx ?_)
  refine zT rfl _ _ _ rfl rfl (w.heap.size+1) i (zv u) rfl rfl _ _ hP yM (by rw[zo,sY (by omega)];omega) rfl fun w5 Yo yF=>?_
  rw[xl,S1.out]at Yo;have WL:=hR.gr yF (by omega);have yN:=hb.grown yF hb.size (by rintro q ⟨⟩;omega);clear hP hR hb yF S1;go_wp2_with fail
  refine(gP u 3 (by omega) _).mono ?_
  rintro e w6 ⟨rfl,rfl⟩
  rw[P1.out];go_wp2_with fail
  go_roundw
  case rel=>exact⟨i+1,by go_num,rfl,by omega,Yo,WL,yN⟩
  case measure=>simp[intOf];omega
 obtain rfl:i=255:=by omega
 rw[show((255:Nat):Int)=255 from rfl];have hS:=Blk.new wr 115 (zr (List.replicate 256 0));have Yo:=hP.alloc (.cells (zr (List.replicate 256 0)) 115);have WL:=hR.alloc (.cells (zr (List.replicate 256 0)) 115);have yN:=hb.alloc hb.size (.cells (zr (List.replicate 256 0)) 115);obtain⟨N,hN⟩:∃ N,wr.heap.size=N:=⟨_,rfl⟩
 have HN:=Hh (And.intro hN (show w.heap.size+2≤N by have:=hP.lt;omega));rw[hN]at hS;clear hP hR hb hN zB;go_upto_region 10 with fail
 rw[lI]
 try rw[HN.out.1]
 generalize wr.alloc (.cells (zr (List.replicate 256 0)) 115)=w7 at hS Yo WL yN⊢
 go_wp2_with (with_reducible refine zx ?_)
 refine zT rfl _ _ _ rfl rfl N 0 (zv 99) rfl rfl _ _ hS yM (by rw[zo];simp) rfl fun w8 aP hg8=>?_
 rw[xl]at aP;replace aP:Blk w8 N 115 (zr (Zw 0)):=aP;have hP8:=Yo.grown hg8 (by intro e;injection e with e;have:=HN.out;omega);have TW:=WL.grown hg8 (by intro e;injection e with e;have:=HN.out;omega);have rm:=yN.grown hg8 yN.size (by rintro q ⟨⟩;have:=HN.out;omega);clear hS Yo WL yN hg8;go_wp2_with fail
 go_loopw [17] (fun v17 wx=>∃ i:Nat,v17=.int .i64 (i:Int)∧i≤255∧Blk wx N 115 (zr (Zw i))∧Blk wx (w.heap.size+1) 239 (zr (oN 255))∧Blk wx w.heap.size 115 (zr (List.replicate 256 0))∧Below w.heap.size w wx) (fun v17 _=>(255-intOf v17).toNat)
 case atStart=>exact⟨0,rfl,by omega,aP,hP8,TW,rm⟩
 case round =>
 clear aP hP8 TW rm;obtain⟨i,rfl,hi,hS,hP,hR,hb⟩:=hrel
 by_cases zB:(i:Int)<255
 ·obtain⟨m,hm⟩:∃ m,(255-i)%255=m:=⟨_,rfl⟩
  obtain⟨d,hd⟩:∃ d,255-i=d:=⟨_,rfl⟩
  have W1:IntKind.i64.wrap (255-(i:Int))=(d:Int):=by rw[← hd,show((255-i:Nat):Int)=255-(i:Int) by omega];exact IntWalk.i64_in _ (by omega)
  have T1:(d:Int).tmod 255=(m:Int):=by rw[← hm,hd];exact(Int.ofNat_tmod d 255).symm
  have l1:(m:Int)<255:=by omega
  have b1:=hP.cell i (zK _ _ (by rw[sY (by omega)];omega));have b2:=hP.cell m (zK _ _ (by rw[sY (by omega)];omega));rw[pW (by omega)]at b1;rw[pW (by omega)]at b2;have S1:=Hh (Z6 i);rw[hm]at S1;obtain⟨a,ha⟩:∃ u,vf i=u:=⟨_,rfl⟩
  obtain⟨b,tO⟩:∃ v,vf m=v:=⟨_,rfl⟩
  rw[ha]at b1 S1;rw[tO]at b2 S1;have K6:=Hh ha;clear hm hd ha tO;have R:=Hh (fun k hk w=>UV b k hk w);have X1:=yn b (xC b 1);have X2:=yn (b ^^^ xC b 1) (xC b 2);have X3:=yn (b ^^^ xC b 1 ^^^ xC b 2) (xC b 3);have X4:=yn (b ^^^ xC b 1 ^^^ xC b 2 ^^^ xC b 3) (xC b 4);have X5:=yn (b ^^^ xC b 1 ^^^ xC b 2 ^^^ xC b 3 ^^^ xC b 4) 99;have hx:∀ x:Int,bits .xor .u8 x ((99:UInt8).toNat:Int)=bits .xor .u8 x 99:=fun _=>rfl
  rw[hx]at X5;obtain⟨c1,rK⟩:∃ c,b ^^^ xC b 1=c:=⟨_,rfl⟩
  rw[rK]at X1 X2 X3 X4 X5 S1;obtain⟨c2,fc⟩:∃ c,c1 ^^^ xC b 2=c:=⟨_,rfl⟩
  rw[fc]at X2 X3 X4 X5 S1;obtain⟨c3,Vl⟩:∃ c,c2 ^^^ xC b 3=c:=⟨_,rfl⟩
  rw[Vl]at X3 X4 X5 S1;obtain⟨c4,ik⟩:∃ c,c3 ^^^ xC b 4=c:=⟨_,rfl⟩
  rw[ik]at X4 X5 S1;obtain⟨c5,I9⟩:∃ c,c4 ^^^ 99=c:=⟨_,rfl⟩
  rw[I9]at X5 S1;clear rK fc Vl ik I9 hx;have la:(a.toNat:Int)<256:=by have:=a.toNat_lt;omega
  have DX:N<wr.heap.size:=hS.lt;go_upto_region 15 with fail
  have b1':=hP.drew.cell i (zK _ _ (by rw[sY (by omega)];omega));rw[pW (by omega)]at b1'
  have b1'':(wr.drew).cell? ⟨w.heap.size+1,i,none⟩=some (zv a):=by
   have h:=hP.drew.cell i (zK _ _ (by rw[sY (by omega)];omega));have h2:wr.cell? ⟨w.heap.size+1,i,none⟩=some (zv (vf i)):=by have h3:=hP.cell i (zK _ _ (by rw[sY (by omega)];omega));rwa [pW (by omega)]at h3
   rw[pW (by omega)]at h;rw[h2]at b1;rw[h,b1]
  clear b1 b2 b1';replace hS:=hS.drew;replace hP:=hP.drew;replace hR:=hR.drew;replace hb:=hb.drew
  refine zw 19 (fun wx=>wx.cell? ⟨w.heap.size+1,i,none⟩=some (zv a)) (by kernel_rfl) (b1'') (fun zy=>?_)
  refine TkS 0 rfl zy ?_
  refine TkS 1 rfl zy ?_
  refine TkS 2 rfl zy ?_
  refine TkS 3 rfl zy ?_
  refine TkS 4 rfl zy ?_
  refine TkS 7 rfl zy ?_
  refine TkS 10 rfl zy ?_
  refine TkS 13 rfl zy ?_
  refine To 5 rfl fun K hK=>?_
  go_simp
  refine(R.out 1 (by omega) _).mono ?_
  rintro e w5 ⟨rfl,rfl⟩
  refine Ko hK ?_ fun zy=>?_
  ·exact b1''
  clear hK K
  refine TkS 6 rfl zy ?_
  refine To 8 rfl fun K hK=>?_
  go_simp
  refine(R.out 2 (by omega) _).mono ?_
  rintro e w5 ⟨rfl,rfl⟩
  refine Ko hK ?_ fun zy=>?_
  ·exact b1''
  clear hK K
  refine TkS 9 rfl zy ?_
  refine To 11 rfl fun K hK=>?_
  go_simp
  refine(R.out 3 (by omega) _).mono ?_
  rintro e w5 ⟨rfl,rfl⟩
  refine Ko hK ?_ fun zy=>?_
  ·exact b1''
  clear hK K
  refine TkS 12 rfl zy ?_
  refine To 14 rfl fun K hK=>?_
  go_simp
  refine(R.out 4 (by omega) _).mono ?_
  rintro e w5 ⟨rfl,rfl⟩
  refine Ko hK ?_ fun zy=>?_
  ·exact b1''
  clear hK K
  refine TkS 15 rfl zy ?_
  refine TkS 16 rfl zy ?_
  refine TkS 17 rfl zy ?_
  refine To 18 rfl fun K hK=>?_
  rw[if_pos (by rfl)]
  refine yW _ _ _ rfl N a.toNat (zv c5) rfl rfl _ _ hS yM (by rw[zo,ki];omega) rfl fun w6 YX xO=>?_
  rw[xl]at YX;replace hP:=hP.grown xO (by intro e;injection e with e;have:=HN.out;omega);replace hR:=hR.grown xO (by intro e;injection e with e;have:=HN.out;omega);replace hb:=hb.grown xO hb.size (by rintro q ⟨⟩;have:=HN.out;omega)
  refine Ko hK ?_ fun zy=>?_
  ·exact(by have h3:=hP.cell i (zK _ _ (by rw[sY (by omega)];omega));rwa [pW (by omega),K6.out]at h3)
  clear hK K
  refine Wd ?_
  rw[S1.out]at YX;clear zy hS X1 X2 X3 X4 X5 la W1 T1 l1;go_wp2_with fail
  go_roundw
  case rel=>exact⟨i+1,by go_num,by omega,YX,hP,hR,hb⟩
  case measure=>simp[intOf];omega
 obtain rfl:i=255:=by omega
 rw[show((255:Nat):Int)=255 from rfl];rw[gH]at hS;have hl:tJ.length=256:=by rw[← gH];exact ki 255
 have HL:=Hh hl;clear zB hl;go_wp2_with (with_reducible refine wU 115 ?_)
 refine zN rfl _ _ rfl N 0 256 rfl hS (by rw[HL.out];omega) _ Tryz.underlying115 rfl (by kernel_rfl) ?_
 rw[xm HL.out];go_wp2_with (with_reducible refine zx ?_)
 refine yA rfl _ _ _ rfl rfl w.heap.size 0 tJ rfl rfl hR (by rw[HL.out];kernel_rfl) (by rw[HL.out];simp) fun w8 TW hg8=>?_
 rw[qv (by rw[HL.out];simp)]at TW;have rm:=hb.grown hg8 hb.size (by rintro q ⟨⟩;omega);clear hS hP hR hb hg8;go_wp2_with fail
 exact zR rfl rfl TW rfl rfl (by rw[zo,HL.out];kernel_rfl) rfl ⟨rfl,rm⟩
end Go.Proofs.YtliomcphdnppnaaGreatDoor
