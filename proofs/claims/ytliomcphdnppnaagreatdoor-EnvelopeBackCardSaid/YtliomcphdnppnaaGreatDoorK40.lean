/- squeezed. Walks: the boxes of AES, by the pr -/
import Derived.Test.YtliomcphdnppnaaGreatDoorK39
import Derived.Deep.Cut
import Derived.Deep.DeepCutAuto
import Derived.Deep.CutBlock
set_option linter.unusedVariables false
set_option linter.unusedSimpArgs false
set_option maxRecDepth 100000
set_option maxHeartbeats 6400000
namespace Go.Proofs.YtliomcphdnppnaaGreatDoor
open Go.RowKit
theorem ed {n:Nat}(h:n≤256):(kX n).length=256:=by simp[kX];omega
theorem No {n:Nat}(h:n<256):(kX n).set n (lG n)=kX (n+1):=by
 rw[kX,kX,List.set_append_right _ _ (by simp),List.length_map,List.length_range,Nat.sub_self,show 256-n=(256-(n+1))+1 by omega,List.replicate_succ,List.set_cons_zero,List.range_succ,List.map_append,List.append_assoc];rfl
theorem Tn {i n:Nat}(h:i<n):at_ (kX n) i=lG i:=by
 simp[kX,at_,List.getD_eq_getElem?_getD,List.getElem?_append_left,h]
theorem vy (i:Nat):(sS i).length=512:=by
 induction i with
 | zero=>exact List.length_replicate
 | succ i ih =>
 show(((sS i).set _ _).set _ _).length=512
 rw[List.length_set,List.length_set,ih]
theorem Qk (i:Nat):((sS i).set (Vy i).toNat (Sr (Yx i))).set (256+(Sr (Yx i)).toNat) (Vy i)=sS (i+1):=rfl
theorem eK:Tryz.zeroCells121=zf (sS 0):=by kernel_rfl
theorem zero_pow:Tryz.zeroCells115=zf (kX 0):=by kernel_rfl
theorem ft (w:World) :
  Calls Tryz.prog 96 #[] w fun e w'=>e=.returned (.agg (zf (sS 256)))∧Below w.heap.size w w':=by
 have gk:=Blk.new w 121 (zf (sS 0));have hP0:=Blk.new (w.alloc (.cells (zf (sS 0)) 121)) 115 (zf (kX 0));have xo:=zo w (.cells (zf (sS 0)) 121);have zB:=xo.alloc xo.size (.cells (zf (kX 0)) 115);replace gk:=gk.alloc (.cells (zf (kX 0)) 115);rw[zr]at hP0;go_enter Tryz.func96,Tryz.ntmps96
 go_wp2_with fail
 rw[eK,zero_pow];go_loopw [2,10] (fun v2 v10 wr=>∃ i:Nat,v10=.int .i64 (i:Int)∧v2=zm (lG i)∧i≤255∧Blk wr (w.heap.size+1) 115 (zf (kX i))∧Blk wr w.heap.size 121 (zf (sS 0))∧Below w.heap.size w wr) (fun _ v10 _=>(255-intOf v10).toNat)
 case atStart=>exact⟨0,rfl,rfl,by omega,hP0,gk,zB⟩
 case round =>
 clear hP0 gk zB;obtain⟨i,rfl,rfl,hi,hP,hR,hb⟩:=hrel
 by_cases yu:(i:Int)<255
 ·have D:=Hh (fun b w=>kG b w);have E:=Hh (wE (lG i) (pW (lG i)));have P1:Hid (lG (i+1)=lG i ^^^ pW (lG i)):=rfl;obtain⟨u,hu⟩:∃ u,lG i=u:=⟨_,rfl⟩
  have HU:=Hh hu;rw[hu]at E P1⊢;have S1:=Hh (No (n:=i) (by omega));rw[hu]at S1;clear hu;go_wp2_with (with_reducible refine zx ?_)
  refine zj rfl _ _ _ rfl rfl (w.heap.size+1) i (zm u) rfl rfl _ _ hP wD (by rw[zX,ed (by omega)];omega) rfl fun w5 M6 xv=>?_
  rw[ut,S1.out]at M6;have Am:=hR.gr xv (by omega);have xS:=hb.grown xv hb.size (by rintro q ⟨⟩;omega);clear hP hR hb xv S1;go_wp2_with fail
  refine(D.out _ _).mono ?_
  rintro e w6 ⟨rfl,rfl⟩
  go_wp2_with fail
  go_roundw
  case rel=>exact⟨i+1,by go_num,by rw[P1.out,zm,← E.out],by omega,M6,Am,xS⟩
  case measure=>simp[intOf];omega
 obtain rfl:i=255:=by omega
 rw[show((255:Nat):Int)=255 from rfl];have hS:=Blk.new wr 121 (zf (sS 0));have M6:=hP.alloc (.cells (zf (sS 0)) 121);have Am:=hR.alloc (.cells (zf (sS 0)) 121);have xS:=hb.alloc hb.size (.cells (zf (sS 0)) 121);obtain⟨N,hN⟩:∃ N,wr.heap.size=N:=⟨_,rfl⟩
 have HN:=Hh (And.intro hN (show w.heap.size+2≤N by have:=hP.lt;omega));rw[hN]at hS;clear hP hR hb hN yu;go_wp2_with fail
 rw[eK]
 try rw[HN.out.1]
 go_loopw [21] (fun v21 wx=>∃ i:Nat,v21=.int .i64 (i:Int)∧i≤256∧Blk wx N 121 (zf (sS i))∧Blk wx (w.heap.size+1) 115 (zf (kX 255))∧Blk wx w.heap.size 121 (zf (sS 0))∧Below w.heap.size w wx) (fun v21 _=>(256-intOf v21).toNat)
 case atStart=>exact⟨0,rfl,by omega,hS,M6,Am,xS⟩
 case round =>
 clear hS M6 Am xS;obtain⟨i,rfl,hi,hS,hP,hR,hb⟩:=hrel
 by_cases yu:(i:Int)<256
 ·obtain⟨m,hm⟩:∃ m,(255-i)%255=m:=⟨_,rfl⟩
  obtain⟨d,hd⟩:∃ d,255-i=d:=⟨_,rfl⟩
  have W1:(i:Int)<255→IntKind.i64.wrap (255-(i:Int))=(d:Int):=fun h=>by rw[← hd,show((255-i:Nat):Int)=255-(i:Int) by omega];exact IntWalk.i64_in _ (by omega)
  have T1:(d:Int).tmod 255=(m:Int):=by rw[← hm,hd];exact(Int.ofNat_tmod d 255).symm
  have l1:(m:Int)<255:=by omega
  have l2:(m:Int)<256:=by omega
  have HM:=Hh (And.intro hm hd);clear hm hd;go_upto_if 25 with fail
  go_cut [6,7] (fun s6 s7 wy=>∃ a b:UInt8,s6=zm a∧s7=zm b∧Hid (Vy i=a∧Yx i=b)∧Blk wy N 121 (zf (sS i))∧Blk wy (w.heap.size+1) 115 (zf (kX 255))∧Blk wy w.heap.size 121 (zf (sS 0))∧Below w.heap.size w wy)
  case first =>
   by_cases h2:(i:Int)<255
   ·have W2:=W1 h2;have b1:=hP.drew.cell i (xf _ _ (by rw[ed (by omega)];omega));have b2:=hP.drew.cell m (xf _ _ (by rw[ed (by omega)];omega));rw[Tn (by omega)]at b1;rw[Tn (by omega)]at b2;obtain⟨u,hu⟩:∃ u,lG i=u:=⟨_,rfl⟩
    obtain⟨v,hv⟩:∃ v,lG m=v:=⟨_,rfl⟩
    rw[hu]at b1;rw[hv]at b2;have HUV:=Hh (And.intro hu hv);clear hu hv W1;go_upto_region 15 with fail
    refine zw 10 (fun wx=>wx.cell? ⟨w.heap.size+1,i,none⟩=some (zm u)∧wx.cell? ⟨w.heap.size+1,m,none⟩=some (zm v)) (by kernel_rfl) (⟨b1,b2⟩) (fun zy=>?_)
    refine TkS 0 rfl zy ?_
    refine TkS 1 rfl zy ?_
    refine TkS 2 rfl zy ?_
    refine TkS 3 rfl zy ?_
    refine TkS 4 rfl zy ?_
    refine TkS 5 rfl zy ?_
    refine TkS 6 rfl zy ?_
    refine TkS 7 rfl zy ?_
    refine TkS 8 rfl zy ?_
    refine TkS 9 rfl zy ?_
    refine Wd ?_
    clear zy;go_wp2_with fail
    go_meet
    exact⟨u,v,rfl,rfl,⟨by rw[Vy,if_pos (by omega),HUV.out.1],by rw[Yx,if_pos (by omega),HM.out.1,HUV.out.2]⟩,hS.drew,hP.drew,hR.drew,hb.drew⟩
   go_wp2_with fail
   go_meet
   exact⟨0,0,rfl,rfl,⟨by rw[Vy,if_neg (by omega)],by rw[Yx,if_neg (by omega)]⟩,hS,hP,hR,hb⟩
  case rest =>
  clear hS hP hR hb W1 T1 l1 l2;obtain⟨a,b,rfl,rfl,kB,hS,hP,hR,hb⟩:=hcut;have R:=Hh (fun k hk w=>Qi b k hk w);have X0:=wE b 99;have X1:=wE (b ^^^ 99) (qI b 1);have X2:=wE (b ^^^ 99 ^^^ qI b 1) (qI b 2);have X3:=wE (b ^^^ 99 ^^^ qI b 1 ^^^ qI b 2) (qI b 3);have X4:=wE (b ^^^ 99 ^^^ qI b 1 ^^^ qI b 2 ^^^ qI b 3) (qI b 4);have hx:∀ x:Int,bits .xor .u8 x ((99:UInt8).toNat:Int)=bits .xor .u8 x 99:=fun _=>rfl
  rw[hx]at X0;obtain⟨c0,qr⟩:∃ c,b ^^^ 99=c:=⟨_,rfl⟩
  rw[qr]at X0 X1 X2 X3 X4;obtain⟨c1,nE⟩:∃ c,c0 ^^^ qI b 1=c:=⟨_,rfl⟩
  rw[nE]at X1 X2 X3 X4;obtain⟨c2,We⟩:∃ c,c1 ^^^ qI b 2=c:=⟨_,rfl⟩
  rw[We]at X2 X3 X4;obtain⟨c3,FN⟩:∃ c,c2 ^^^ qI b 3=c:=⟨_,rfl⟩
  rw[FN]at X3 X4;obtain⟨c4,T7⟩:∃ c,c3 ^^^ qI b 4=c:=⟨_,rfl⟩
  rw[T7]at X4;have HC:Hid (Sr (Yx i)=c4):=by rw[Hid,kB.out.2,Sr,qr,nE,We,FN,T7]
  clear qr nE We FN T7 hx;go_wp2_with fail
  refine wp_loop_rounds 5 ?_
  rw[rounds_succ];go_wp2_with fail
  refine(R.out 1 (by omega) _).mono ?_
  rintro e w5 ⟨rfl,rfl⟩
  go_wp2_with fail
  rw[rounds_succ];go_wp2_with fail
  refine(R.out 2 (by omega) _).mono ?_
  rintro e w5 ⟨rfl,rfl⟩
  go_wp2_with fail
  rw[rounds_succ];go_wp2_with fail
  refine(R.out 3 (by omega) _).mono ?_
  rintro e w5 ⟨rfl,rfl⟩
  go_wp2_with fail
  rw[rounds_succ];go_wp2_with fail
  refine(R.out 4 (by omega) _).mono ?_
  rintro e w5 ⟨rfl,rfl⟩
  go_wp2_with fail
  rw[rounds_succ];have la:(a.toNat:Int)<256:=by have:=a.toNat_lt;omega
  have lc:(c4.toNat:Int)<256:=by have:=c4.toNat_lt;omega
  go_wp2_with (with_reducible refine zx ?_)
  refine zj rfl _ _ _ rfl rfl N a.toNat (zm c4) rfl rfl _ _ hS wD (by rw[zX,vy];omega) rfl fun w6 IV ws=>?_
  rw[ut]at IV;have Ma:=hP.grown ws (by intro e;injection e with e;have:=HN.out;omega);have hR6:=hR.grown ws (by intro e;injection e with e;have:=HN.out;omega);have wX:=hb.grown ws hb.size (by rintro q ⟨⟩;have:=HN.out;omega);clear hS hP hR hb ws;go_wp2_with (with_reducible refine zx ?_)
  refine zj rfl _ _ _ rfl rfl N (256+c4.toNat) (zm a) rfl rfl _ _ IV wD (by rw[zX,List.length_set,vy];omega) rfl fun w7 hS7 ww=>?_
  rw[ut]at hS7;have IQ:=Ma.grown ww (by intro e;injection e with e;have:=HN.out;omega);have hR7:=hR6.grown ww (by intro e;injection e with e;have:=HN.out;omega);have um:=wX.grown ww wX.size (by rintro q ⟨⟩;have:=HN.out;omega);clear IV Ma hR6 wX ww la lc X0 X1 X2 X3 X4;go_wp2_with fail
  go_roundw
  case rel=>exact⟨i+1,by go_num,by omega,by rw[← HC.out,← kB.out.1,Qk]at hS7;exact hS7,IQ,hR7,um⟩
  case measure=>simp[intOf];omega
 obtain rfl:i=256:=by omega
 rw[show((256:Nat):Int)=256 from rfl];clear yu;go_wp2_with (with_reducible refine tE 121 ?_)
 refine yM rfl _ _ rfl N 0 512 rfl hS (by rw[vy];omega) _ Tryz.underlying121 rfl (by kernel_rfl) ?_
 rw[uu (vy _)];go_wp2_with (with_reducible refine zx ?_)
 refine rz rfl _ _ _ rfl rfl w.heap.size 0 (sS 256) rfl rfl hR (by rw[vy];kernel_rfl) (by rw[vy,vy];omega) fun w8 JP hg8=>?_
 rw[Tt (by rw[vy,vy])]at JP;have qU:=hb.grown hg8 hb.size (by rintro q ⟨⟩;omega);clear hS hP hR hb hg8;go_wp2_with fail
 exact zF rfl rfl JP rfl rfl (by rw[zX,vy];kernel_rfl) rfl ⟨rfl,qU⟩
end Go.Proofs.YtliomcphdnppnaaGreatDoor
