/- squeezed. Walks: the boxes of AES, by the pr -/
import Derived.Test.YtkmlnjociijpgaaGreatDoorK04
import Derived.Deep.Cut
import Derived.Deep.DeepCutAuto
import Derived.Deep.CutBlock
set_option linter.unusedVariables false
set_option linter.unusedSimpArgs false
set_option maxRecDepth 100000
set_option maxHeartbeats 6400000
namespace Go.Proofs.YtkmlnjociijpgaaGreatDoor
open Go.RowKit
theorem jgc{P:Prop}(h:P:=by have uk:=hb.grown hg8 hb.size (by rintro q ⟨⟩;omega);exact uk):P:=h
theorem gO {n:Nat}(h:n≤256):(mJ n).length=256:=by simp[mJ];omega
theorem QF {n:Nat}(h:n<256):(mJ n).set n (vE n)=mJ (n+1):=by
 rw[mJ,mJ,List.set_append_right _ _ (by simp),List.length_map,List.length_range,Nat.sub_self,show 256-n=(256-(n+1))+1 by omega,List.replicate_succ,List.set_cons_zero,List.range_succ,List.map_append,List.append_assoc];rfl
theorem Vo {i n:Nat}(h:i<n):at_ (mJ n) i=vE i:=by
 simp[mJ,at_,List.getD_eq_getElem?_getD,List.getElem?_append_left,h]
theorem wi (i:Nat):(tF i).length=512:=by
 induction i with
 | zero=>exact List.length_replicate
 | succ i ih =>
 show(((tF i).set _ _).set _ _).length=512
 rw[List.length_set,List.length_set,ih]
theorem TD (i:Nat):((tF i).set (Xo i).toNat (Ux (aK i))).set (256+(Ux (aK i)).toNat) (Xo i)=tF (i+1):=rfl
theorem gE:Tryz.zeroCells153=zn (tF 0):=by kernel_rfl
theorem zero_pow:Tryz.zeroCells151=zn (mJ 0):=by kernel_rfl
theorem ir (w:World) :
  Calls Tryz.prog 124 #[] w fun e w'=>e=.returned (.agg (zn (tF 256)))∧Below w.heap.size w w':=by
 have oR:=Blk.new w 153 (zn (tF 0));have al:=Blk.new (w.alloc (.cells (zn (tF 0)) 153)) 151 (zn (mJ 0));have yB:=zX w (.cells (zn (tF 0)) 153);have zY:=yB.alloc yB.size (.cells (zn (mJ 0)) 151);replace oR:=oR.alloc (.cells (zn (mJ 0)) 151);rw[za]at al;go_enter Tryz.func124,Tryz.ntmps124
 go_wp2_with fail
 rw[gE,zero_pow];go_loopw [2,10] (fun v2 v10 wr=>∃ i:Nat,v10=.int .i64 (i:Int)∧v2=zu (vE i)∧i≤255∧Blk wr (w.heap.size+1) 151 (zn (mJ i))∧Blk wr w.heap.size 153 (zn (tF 0))∧Below w.heap.size w wr) (fun _ v10 _=>(255-intOf v10).toNat)
 case atStart=>exact⟨0,rfl,rfl,by omega,al,oR,zY⟩
 case round =>
 clear al oR zY;obtain⟨i,rfl,rfl,hi,hP,hR,hb⟩:=hrel
 by_cases z9:(i:Int)<255
 ·have D:=Hh (fun b w=>lh b w);have E:=Hh (yx (vE i) (sH (vE i)));have P1:Hid (vE (i+1)=vE i ^^^ sH (vE i)):=rfl;obtain⟨u,hu⟩:∃ u,vE i=u:=⟨_,rfl⟩
  have HU:=Hh hu;rw[hu]at E P1⊢;have S1:=Hh (QF (n:=i) (by omega));rw[hu]at S1;clear hu;go_wp2_with (with_reducible refine zx ?_)
  refine zw rfl _ _ _ rfl rfl (w.heap.size+1) i (zu u) rfl rfl _ _ hP yH (by rw[zg,gO (by omega)];omega) rfl fun w5 YW zK=>?_
  rw[xS,S1.out]at YW;have PM:=hR.gr zK (by omega);have zE:=hb.grown zK hb.size (by rintro q ⟨⟩;omega);clear hP hR hb zK S1;go_wp2_with fail
  refine(D.out _ _).mono ?_
  rintro e w6 ⟨rfl,rfl⟩
  go_wp2_with fail
  go_roundw
  case rel=>exact⟨i+1,by go_num,by rw[P1.out,zu,← E.out],by omega,YW,PM,zE⟩
  case measure=>simp[intOf];omega
 obtain rfl:i=255:=by omega
 rw[show((255:Nat):Int)=255 from rfl];have hS:=Blk.new wr 153 (zn (tF 0));have YW:=hP.alloc (.cells (zn (tF 0)) 153);have PM:=hR.alloc (.cells (zn (tF 0)) 153);have zE:=hb.alloc hb.size (.cells (zn (tF 0)) 153);obtain⟨N,hN⟩:∃ N,wr.heap.size=N:=⟨_,rfl⟩
 have HN:=Hh (And.intro hN (show w.heap.size+2≤N by have:=hP.lt;omega));rw[hN]at hS;clear hP hR hb hN z9;go_wp2_with fail
 rw[gE]
 try rw[HN.out.1]
 go_loopw [21] (fun v21 wx=>∃ i:Nat,v21=.int .i64 (i:Int)∧i≤256∧Blk wx N 153 (zn (tF i))∧Blk wx (w.heap.size+1) 151 (zn (mJ 255))∧Blk wx w.heap.size 153 (zn (tF 0))∧Below w.heap.size w wx) (fun v21 _=>(256-intOf v21).toNat)
 case atStart=>exact⟨0,rfl,by omega,hS,YW,PM,zE⟩
 case round =>
 clear hS YW PM zE;obtain⟨i,rfl,hi,hS,hP,hR,hb⟩:=hrel
 by_cases z9:(i:Int)<256
 ·obtain⟨m,hm⟩:∃ m,(255-i)%255=m:=⟨_,rfl⟩
  obtain⟨d,hd⟩:∃ d,255-i=d:=⟨_,rfl⟩
  have W1:(i:Int)<255→IntKind.i64.wrap (255-(i:Int))=(d:Int):=fun h=>by rw[← hd,show((255-i:Nat):Int)=255-(i:Int) by omega];exact IntWalk.i64_in _ (by omega)
  have T1:(d:Int).tmod 255=(m:Int):=by rw[← hm,hd];exact(Int.ofNat_tmod d 255).symm
  have l1:(m:Int)<255:=by omega
  have l2:(m:Int)<256:=by omega
  have HM:=Hh (And.intro hm hd);clear hm hd;go_upto_if 25 with fail
  go_cut [6,7] (fun s6 s7 wy=>∃ a b:UInt8,s6=zu a∧s7=zu b∧Hid (Xo i=a∧aK i=b)∧Blk wy N 153 (zn (tF i))∧Blk wy (w.heap.size+1) 151 (zn (mJ 255))∧Blk wy w.heap.size 153 (zn (tF 0))∧Below w.heap.size w wy)
  case first =>
   by_cases h2:(i:Int)<255
   ·have W2:=W1 h2;have b1:=hP.drew.cell i (zI _ _ (by rw[gO (by omega)];omega));have b2:=hP.drew.cell m (zI _ _ (by rw[gO (by omega)];omega));rw[Vo (by omega)]at b1;rw[Vo (by omega)]at b2;obtain⟨u,hu⟩:∃ u,vE i=u:=⟨_,rfl⟩
    obtain⟨v,hv⟩:∃ v,vE m=v:=⟨_,rfl⟩
    rw[hu]at b1;rw[hv]at b2;have JG:=Hh (And.intro hu hv);clear hu hv W1;go_upto_region 15 with fail
    refine zr 10 (fun wx=>wx.cell? ⟨w.heap.size+1,i,none⟩=some (zu u)∧wx.cell? ⟨w.heap.size+1,m,none⟩=some (zu v)) (by kernel_rfl) (⟨b1,b2⟩) (fun zy=>?_)
    refine TkS 0 rfl zy ?_
    refine TkS 1 rfl zy ?_
    refine TkS 2 rfl zy ?_
    refine TkS 3 rfl zy ?_
    refine TkS 4 rfl zy ?_
    refine TkS 5 rfl zy ?_
    refine TkS 6 rfl zy ?_
    refine TkS 7 rfl zy ?_
    refine TkS 8 rfl zy ?_
    refine TkS 9 rfl zy ?_
    refine Wd ?_
    clear zy;go_wp2_with fail
    go_meet
    exact⟨u,v,rfl,rfl,⟨by rw[Xo,if_pos (by omega),JG.out.1],by rw[aK,if_pos (by omega),HM.out.1,JG.out.2]⟩,hS.drew,hP.drew,hR.drew,hb.drew⟩
   go_wp2_with fail
   go_meet
   exact⟨0,0,rfl,rfl,⟨by rw[Xo,if_neg (by omega)],by rw[aK,if_neg (by omega)]⟩,hS,hP,hR,hb⟩
  case rest =>
  clear hS hP hR hb W1 T1 l1 l2;obtain⟨a,b,rfl,rfl,qQ,hS,hP,hR,hb⟩:=hcut;have R:=Hh (fun k hk w=>T9 b k hk w);have X0:=yx b 99;have X1:=yx (b ^^^ 99) (wu b 1);have X2:=yx (b ^^^ 99 ^^^ wu b 1) (wu b 2);have X3:=yx (b ^^^ 99 ^^^ wu b 1 ^^^ wu b 2) (wu b 3);have X4:=yx (b ^^^ 99 ^^^ wu b 1 ^^^ wu b 2 ^^^ wu b 3) (wu b 4);have hx:∀ x:Int,bits .xor .u8 x ((99:UInt8).toNat:Int)=bits .xor .u8 x 99:=fun _=>rfl
  rw[hx]at X0;obtain⟨c0,Ii⟩:∃ c,b ^^^ 99=c:=⟨_,rfl⟩
  rw[Ii]at X0 X1 X2 X3 X4;obtain⟨c1,Mo⟩:∃ c,c0 ^^^ wu b 1=c:=⟨_,rfl⟩
  rw[Mo]at X1 X2 X3 X4;obtain⟨c2,SF⟩:∃ c,c1 ^^^ wu b 2=c:=⟨_,rfl⟩
  rw[SF]at X2 X3 X4;obtain⟨c3,JU⟩:∃ c,c2 ^^^ wu b 3=c:=⟨_,rfl⟩
  rw[JU]at X3 X4;obtain⟨c4,eF⟩:∃ c,c3 ^^^ wu b 4=c:=⟨_,rfl⟩
  rw[eF]at X4;have HC:Hid (Ux (aK i)=c4):=by rw[Hid,qQ.out.2,Ux,Ii,Mo,SF,JU,eF]
  clear Ii Mo SF JU eF hx;go_wp2_with fail
  refine wp_loop_rounds 5 ?_
  rw[rounds_succ];go_wp2_with fail
  refine(R.out 1 (by omega) _).mono ?_
  rintro e w5 ⟨rfl,rfl⟩
  go_wp2_with fail
  rw[rounds_succ];go_wp2_with fail
  refine(R.out 2 (by omega) _).mono ?_
  rintro e w5 ⟨rfl,rfl⟩
  go_wp2_with fail
  rw[rounds_succ];go_wp2_with fail
  refine(R.out 3 (by omega) _).mono ?_
  rintro e w5 ⟨rfl,rfl⟩
  go_wp2_with fail
  rw[rounds_succ];go_wp2_with fail
  refine(R.out 4 (by omega) _).mono ?_
  rintro e w5 ⟨rfl,rfl⟩
  go_wp2_with fail
  rw[rounds_succ];have la:(a.toNat:Int)<256:=by have:=a.toNat_lt;omega
  have lc:(c4.toNat:Int)<256:=by have:=c4.toNat_lt;omega
  go_wp2_with (with_reducible refine zx ?_)
  refine zw rfl _ _ _ rfl rfl N a.toNat (zu c4) rfl rfl _ _ hS yH (by rw[zg,wi];omega) rfl fun w6 hS6 vt=>?_
  rw[xS]at hS6;have JR:=hP.grown vt (by intro e;injection e with e;have:=HN.out;omega);have Ah:=hR.grown vt (by intro e;injection e with e;have:=HN.out;omega);have wS:=hb.grown vt hb.size (by rintro q ⟨⟩;have:=HN.out;omega);clear hS hP hR hb vt;go_wp2_with (with_reducible refine zx ?_)
  refine zw rfl _ _ _ rfl rfl N (256+c4.toNat) (zu a) rfl rfl _ _ hS6 yH (by rw[zg,List.length_set,wi];omega) rfl fun w7 S6 xQ=>?_
  rw[xS]at S6;have Of:=JR.grown xQ (by intro e;injection e with e;have:=HN.out;omega);have hR7:=Ah.grown xQ (by intro e;injection e with e;have:=HN.out;omega);have uI:=wS.grown xQ wS.size (by rintro q ⟨⟩;have:=HN.out;omega);clear hS6 JR Ah wS xQ la lc X0 X1 X2 X3 X4;go_wp2_with fail
  go_roundw
  case rel=>exact⟨i+1,by go_num,by omega,by rw[← HC.out,← qQ.out.1,TD]at S6;exact S6,Of,hR7,uI⟩
  case measure=>simp[intOf];omega
 obtain rfl:i=256:=by omega
 rw[show((256:Nat):Int)=256 from rfl];clear z9;go_wp2_with (with_reducible refine vy 153 ?_)
 refine zM rfl _ _ rfl N 0 512 rfl hS (by rw[wi];omega) _ Tryz.underlying153 rfl (by kernel_rfl) ?_
 rw[xT (wi _)];go_wp2_with (with_reducible refine zx ?_)
 refine xy rfl _ _ _ rfl rfl w.heap.size 0 (tF 256) rfl rfl hR (by rw[wi];kernel_rfl) (by rw[wi,wi];omega) fun w8 WR hg8=>?_
 rw[pH (by rw[wi,wi])]at WR;have uk:=jgc;clear hS hP hR hb hg8;go_wp2_with fail
 exact xU rfl rfl WR rfl rfl (by rw[zg,wi];kernel_rfl) rfl ⟨rfl,uk⟩
end Go.Proofs.YtkmlnjociijpgaaGreatDoor
