/- squeezed. SHA-256: numbers of four words: th -/
import Derived.Test.YtgcjjhibdbafmaaGreatDoorK17
import Derived.Deep.Cut
import Derived.Laws.FloatArith
set_option linter.unusedVariables false
set_option linter.unusedSimpArgs false
set_option maxRecDepth 100000
set_option maxHeartbeats 3200000
namespace Go.Proofs.YtgcjjhibdbafmaaGreatDoor
open Go.RowKit
def rowN (l:List Nat):Array Value:=(l.map fun n:Nat=>Value.int .u64 (n:Int)).toArray
theorem rowN_size (l:List Nat):(rowN l).size=l.length:=by simp[rowN]
theorem rowN_get (l:List Nat) (i:Nat) (h:i<l.length):(rowN l)[i]? = some (.int .u64 (getN l i:Int)):=by
 simp[rowN,getN,h]
theorem rowN_set (l:List Nat) (i n:Nat):(rowN l).setIfInBounds i (.int .u64 (n:Int))=rowN (l.set i n):=by
 simp[rowN,List.map_set]
theorem rowN_one (l:List Nat):(rowN l).all (·.oneCell')=true:=by simp[rowN,Value.oneCell']
theorem run_add64_0 (x y:Nat) (w:World):(callFunc 162 #[.int .u64 (x:Int),.int .u64 (y:Int),.int .u64 0]).run Tryz.prog w =
  .ok (.value (.tuple #[.int .u64 (((x+y)%18446744073709551616:Nat):Int),.int .u64 (((x+y)/18446744073709551616:Nat):Int)])) w:=run_add64 x y 0 (by omega) w
theorem size_w4:(Tryz.prog.info? 176).map (·.size)=some 4:=by kernel_rfl
theorem size_u64c:(Tryz.prog.info? 22).map (·.size)=some 1:=by kernel_rfl
theorem sha_times {x y:List Nat}(hx:x.length=4) (hy:y.length=4) (hxw:W64 x) (hyw:W64 y) (w:World) :
  Calls Tryz.prog 160 #[.agg (rowN x),.agg (rowN y)] w fun e w'=>e=.returned (.agg (rowN (mulRows x y [0,0,0,0])))∧Below w.heap.size w w':=by
 have hX0:=Blk.new w 176 (rowN x);have hY0:=Blk.new (w.alloc (.cells (rowN x) 176)) 176 (rowN y);have HL:=Hh (And.intro hx hy);have HW:=Hh (And.intro hxw hyw);clear hx hy hxw hyw;have hZ0:=Blk.new (((w.alloc (.cells (rowN x) 176)).alloc (.cells (rowN y) 176)).alloc (.cells (rowN [0,0,0,0]) 176)) 176 (rowN [0,0,0,0]);have hR0:=(Blk.new ((w.alloc (.cells (rowN x) 176)).alloc (.cells (rowN y) 176)) 176 (rowN [0,0,0,0])).alloc (.cells (rowN [0,0,0,0]) 176);replace hX0:=((hX0.alloc (.cells (rowN y) 176)).alloc (.cells (rowN [0,0,0,0]) 176)).alloc (.cells (rowN [0,0,0,0]) 176);replace hY0:=(hY0.alloc (.cells (rowN [0,0,0,0]) 176)).alloc (.cells (rowN [0,0,0,0]) 176)
 simp only[size_alloc]at hY0 hR0 hZ0
 have hb0:=below_box w (.cells (rowN x) 176);have hb1:=hb0.alloc hb0.size (.cells (rowN y) 176);have hb2:=hb1.alloc hb1.size (.cells (rowN [0,0,0,0]) 176);have hb3:=hb2.alloc hb2.size (.cells (rowN [0,0,0,0]) 176);clear hb0 hb1 hb2;go_enter Tryz.func160,Tryz.ntmps160
 go_wp2_with fail
 go_loopw [12] (fun v12 wr=>∃ (i:Nat) (zs:List Nat),v12=.int .i64 (i:Int)∧i≤4∧zs.length=4∧W64 zs∧zs.take i++mulRows (x.drop i) y (zs.drop i)=mulRows x y [0,0,0,0]∧
   Blk wr (w.heap.size+1+1+1) 176 (rowN zs)∧Blk wr w.heap.size 176 (rowN x)∧Blk wr (w.heap.size+1) 176 (rowN y)∧Blk wr (w.heap.size+1+1) 176 (rowN [0,0,0,0])∧Below w.heap.size w wr) (fun v12 _=>(4-intOf v12).toNat)
 case atStart=>exact⟨0,[0,0,0,0],rfl,by omega,rfl,by simp[W64],rfl,hZ0,hX0,hY0,hR0,hb3⟩
 case round =>
  clear hZ0 hX0 hY0 hR0 hb3;obtain⟨i,zs,rfl,hi4,hzl,hzw,hQ,hZ,hX,hY,hR,hb⟩:=hrel;have HZ:=Hh (And.intro hzl (And.intro hzw hQ));clear hzl hzw hQ
  by_cases hlt:(i:Int)<4
  ·have HI:=Hh hlt;have hi1:IntKind.i64.wrap ((i:Int)+((0:Nat):Int))=(i:Int):=by rw[show(i:Int)+((0:Nat):Int)=(i:Int) by omega];exact IntWalk.i64_in _ (by omega)
   go_wp2_with fail
   go_loopw [7,8] (fun v7 v8 wx=>∃ (j c:Nat) (zt:List Nat),v8=.int .i64 (j:Int)∧v7=.int .u64 (c:Int)∧c<18446744073709551616∧i+j≤4∧zt.length=4∧W64 zt∧zt.take (i+j)++mulRow (getN x i) (y.drop j) (zt.drop (i+j)) c=zs.take i++mulRow (getN x i) y (zs.drop i) 0∧
     Blk wx (w.heap.size+1+1+1) 176 (rowN zt)∧Blk wx w.heap.size 176 (rowN x)∧Blk wx (w.heap.size+1) 176 (rowN y)∧Blk wx (w.heap.size+1+1) 176 (rowN [0,0,0,0])∧Below w.heap.size w wx) (fun _ v8 _=>(4-(i:Int)-intOf v8).toNat)
   case atStart=>exact⟨0,0,zs,rfl,rfl,by omega,by omega,HZ.out.1,HZ.out.2.1,by simp,hZ,hX,hY,hR,hb⟩
   case round =>
    clear hZ hX hY hR hb;obtain⟨j,c,zt,rfl,rfl,hc,hij,hzl,hzw,hQ,hZ,hX,hY,hR,hb⟩:=hrel;obtain⟨k,hk⟩:∃ k,i+j=k:=⟨_,rfl⟩
    have Wk:IntKind.i64.wrap ((i:Int)+(j:Int))=(k:Int):=by rw[← hk,Int.natCast_add];exact IntWalk.i64_in _ (by omega)
    by_cases hkt:(k:Int)<4
    ·have cx:=hX.drew.cell i (rowN_get _ _ (by have:=HL.out;omega));have cy:=hY.drew.cell j (rowN_get _ _ (by have:=HL.out;omega));have cz:=hZ.drew.cell k (rowN_get _ _ (by omega));have hij4:(i:Int)<4∧(j:Int)<4:=by omega
     obtain⟨hii,hjj⟩:=hij4;obtain⟨xi,hxi⟩:∃ n,getN x i=n:=⟨_,rfl⟩
     obtain⟨yj,hyj⟩:∃ n,getN y j=n:=⟨_,rfl⟩
     obtain⟨zk,hzk⟩:∃ n,getN zt k=n:=⟨_,rfl⟩
     have hxb:xi<18446744073709551616:=by rw[← hxi];exact getN_lt HW.out.1 i
     have hyb:yj<18446744073709551616:=by rw[← hyj];exact getN_lt HW.out.2 j
     have hzb:zk<18446744073709551616:=by rw[← hzk];exact getN_lt hzw k
     rw[hxi]at cx;rw[hyj]at cy;rw[hzk]at cz;have M:=Hh (fun w=>bits_Mul64 xi yj hxb hyb w);obtain⟨s1,s2,s3,s4⟩:=mul_step hxb hyb hzb hc;have H5:=Hh (And.intro hk (And.intro hzl (And.intro hzw (And.intro hQ (And.intro hxi (And.intro hyj hzk))))));have HC:=Hh hc;clear hc hk hzl hzw hQ hxi hyj hzk hxb hyb hzb;have A1:=run_add64_0 (xi*yj%18446744073709551616) c;have A2:=run_add64_0 zk ((xi*yj%18446744073709551616+c)%18446744073709551616);obtain⟨p0,hp0⟩:∃ n,xi*yj/18446744073709551616=n:=⟨_,rfl⟩
     obtain⟨p1,hp1⟩:∃ n,xi*yj%18446744073709551616=n:=⟨_,rfl⟩
     rw[hp0]at s1 s2;rw[hp1]at s1 s2 s3 A1 A2;obtain⟨l0,hl0⟩:∃ n,(p1+c)%18446744073709551616=n:=⟨_,rfl⟩
     obtain⟨l1,hl1⟩:∃ n,(p1+c)/18446744073709551616=n:=⟨_,rfl⟩
     rw[hl0]at s2 s3 A1 A2;rw[hl1]at s1 s2 A1;obtain⟨q0,hq0⟩:∃ n,(zk+l0)%18446744073709551616=n:=⟨_,rfl⟩
     obtain⟨q1,hq1⟩:∃ n,(zk+l0)/18446744073709551616=n:=⟨_,rfl⟩
     rw[hq0]at s3 A2;rw[hq1]at s2 A2;obtain⟨r0,hr0⟩:∃ n,p0+l1=n:=⟨_,rfl⟩
     obtain⟨r1,hr1⟩:∃ n,r0+q1=n:=⟨_,rfl⟩
     rw[hr0]at s1 s2;rw[hr1]at s2;have B1:IntKind.u64.wrap ((p0:Int)+(l1:Int))=(r0:Int):=by rw[← Int.natCast_add,hr0];exact wrap64_in _ s1
     have B2:IntKind.u64.wrap ((r0:Int)+(q1:Int))=(r1:Int):=by rw[← Int.natCast_add,hr1];exact wrap64_in _ (by omega)
     have HP:=Hh (And.intro hp0 hp1);have HS:=Hh (And.intro s2 (And.intro s3 s4));clear s1 s2 s3 s4 hp0 hp1 hl0 hl1 hq0 hq1 hr0 hr1;go_upto_region 9 with fail
     refine wp_region_ways 12 (fun wx=>wx.cell? ⟨w.heap.size,i,none⟩=some (.int .u64 (xi:Int))∧wx.cell? ⟨w.heap.size+1,j,none⟩=some (.int .u64 (yj:Int))) (by kernel_rfl) (⟨cx,cy⟩) (fun hHeld=>?_)
     refine TkS 0 rfl hHeld ?_
     refine TkS 1 rfl hHeld ?_
     refine TkS 2 rfl hHeld ?_
     refine TkS 3 rfl hHeld ?_
     refine TkS 4 rfl hHeld ?_
     refine TkS 5 rfl hHeld ?_
     refine To 6 rfl fun K hK=>?_
     go_simp
     refine(M.out _).mono ?_
     rintro e w5 ⟨rfl,rfl⟩
     rw[HP.out.1,HP.out.2];clear hHeld
     refine hK.out _ _ (fun _=>?_) (fun hHeld=>?_)
     ·exact⟨cx,cy⟩
     clear hK K;replace hHeld:=hHeld (by decide)
     try simp only[Act.put,zz1,zz2,zz3,zz4,zz5,zz6]
     refine TkS 7 rfl hHeld ?_
     refine TkS 8 rfl hHeld ?_
     refine TkS 9 rfl hHeld ?_
     refine TkS 10 rfl hHeld ?_
     refine TkS 11 rfl hHeld ?_
     refine Wd ?_
     clear hHeld;go_wp2_with (with_reducible refine stop_store ?_)
     refine wpList_store_cell rfl _ _ _ rfl rfl (w.heap.size+1+1+1) k (.int .u64 (q0:Int)) rfl rfl _ _ hZ size_u64c (by rw[rowN_size,H5.out.2.1];omega) rfl fun w9 hZ9 hg9=>?_
     rw[rowN_set]at hZ9;have hX9:=hX.drew.grown hg9 (by intro hc;injection hc;omega);have hY9:=hY.drew.grown hg9 (by intro hc;injection hc;omega);have hR9:=hR.drew.grown hg9 (by intro hc;injection hc;omega);have hb9:=hb.drew.grown hg9 hb.size (by rintro q ⟨⟩;omega);have hq:q0<18446744073709551616:=by rw[HS.out.2.1];exact Nat.mod_lt _ (by decide)
     have hr:r1<18446744073709551616:=by rw[HS.out.1];exact HS.out.2.2
     have HN:Hid ((zt.set k q0).length=4∧W64 (zt.set k q0)∧(zt.set k q0).take (k+1)++mulRow (getN x i) (y.drop (j+1)) ((zt.set k q0).drop (k+1)) r1=zs.take i++mulRow (getN x i) y (zs.drop i) 0):=by
      obtain⟨e1,e2,e3,e4,e5,e6,e7⟩:=H5.out
      refine⟨by rw[List.length_set];exact e2,e3.set k hq, ?_⟩
      rw[← e4,e1,HS.out.1,HS.out.2.1,← e5,← e6,← e7]
      exact times_inner (by omega) (by have:=HL.out;omega)
     have HR:=Hh hr;clear hg9 hX hY hR hb hZ cx cy cz A1 A2 hq hr M HS;go_wp2_with fail
     go_roundw
     case rel=>exact⟨j+1,r1,zt.set k q0,by go_num,rfl,HR.out,by have:=H5.out.1;omega,HN.out.1,HN.out.2.1,by rw[show i+(j+1)=k+1 by have:=H5.out.1;omega];exact HN.out.2.2,hZ9,hX9,hY9,hR9,hb9⟩
     case measure=>have:=H5.out.1;simp[intOf];omega
    ·have hE:i+j=4:=by omega
     have hzt:zt=zs.take i++mulRow (getN x i) y (zs.drop i) 0:=by
      rw[← hQ,hE,List.take_of_length_le (l:=zt) (by omega),List.drop_of_length_le (l:=zt) (by omega),mulRow_nil,List.append_nil]
     have HQ:=Hh ((times_outer (by have:=HL.out;have:=HI.out;omega) (by have:=HZ.out.1;have:=HI.out;omega) (by have:=HL.out;omega) hzt).trans HZ.out.2.2);have HZT:=Hh (And.intro hzl hzw);clear hzt hE hzl hzw hQ hk;go_wp2_with fail
     go_roundw
     case rel=>exact⟨i+1,zt,by go_num,by have:=HI.out;omega,HZT.out.1,HZT.out.2,HQ.out,hZ,hX,hY,hR,hb⟩
     case measure=>have:=HI.out;simp[intOf];omega
  ·obtain rfl:i=4:=by omega
   rw[show((4:Nat):Int)=4 from rfl]at hlt⊢
   have hzs:zs=mulRows x y [0,0,0,0]:=by
    obtain⟨e1,e2,e3⟩:=HZ.out;have:=HL.out;rw[← e3,List.take_of_length_le (l:=zs) (by omega),List.drop_of_length_le (l:=x) (by omega),List.drop_of_length_le (l:=zs) (by omega),mulRows_nil,List.append_nil]
   have HZS:=Hh hzs;obtain⟨z0,z1,z2,z3,hz4⟩:∃ a b c d,zs=[a,b,c,d]:=list4n HZ.out.1;have HZ4:=Hh hz4;rw[hz4]at hZ;clear hzs hz4;have c0:wr.cell? ⟨w.heap.size+1+1+1,0,none⟩=some (.int .u64 (z0:Int)):=hZ.cell 0 rfl;have c1:wr.cell? ⟨w.heap.size+1+1+1,1,none⟩=some (.int .u64 (z1:Int)):=hZ.cell 1 rfl;have c2:wr.cell? ⟨w.heap.size+1+1+1,2,none⟩=some (.int .u64 (z2:Int)):=hZ.cell 2 rfl;have c3:wr.cell? ⟨w.heap.size+1+1+1,3,none⟩=some (.int .u64 (z3:Int)):=hZ.cell 3 rfl;go_wp2_with (with_reducible refine stop_store ?_)
   refine wpList_store_item rfl _ _ _ rfl rfl (w.heap.size+1+1) (rowN [z0,z1,z2,z3]) rfl rfl _ _ hR size_w4 rfl (rowN_one _) fun wz hRz hgz=>?_
   have hbz:=hb.grown hgz hb.size (by rintro q ⟨⟩;omega);clear c0 c1 c2 c3;go_wp2_with fail
   refine ret_row rfl rfl hRz rfl rfl size_w4 rfl ?_
   exact⟨by rw[← HZ4.out,HZS.out],hbz⟩
theorem sha_power {x:List Nat}(hx:x.length=4) (hxw:W64 x) (n:Nat) (hn:n≤1000) (hp:num x ^ n<18446744073709551616 ^ 4) (w:World) :
  Calls Tryz.prog 142 #[.agg (rowN x),.int .i64 (n:Int)] w fun e w'=>∃ z,e=.returned (.agg (rowN z))∧z.length=4∧W64 z∧num z=num x ^ n∧Below w.heap.size w w':=by
 have hX0:=Blk.new w 176 (rowN x);have hR0:=Blk.new (w.alloc (.cells (rowN x) 176)) 176 (rowN [0,0,0,0]);have hZ0:=Blk.new ((w.alloc (.cells (rowN x) 176)).alloc (.cells (rowN [0,0,0,0]) 176)) 176 (rowN [1,0,0,0]);replace hX0:=(hX0.alloc (.cells (rowN [0,0,0,0]) 176)).alloc (.cells (rowN [1,0,0,0]) 176);replace hR0:=hR0.alloc (.cells (rowN [1,0,0,0]) 176)
 simp only[size_alloc]at hR0 hZ0
 have hb0:=below_box w (.cells (rowN x) 176);have hb1:=hb0.alloc hb0.size (.cells (rowN [0,0,0,0]) 176);have hb2:=hb1.alloc hb1.size (.cells (rowN [1,0,0,0]) 176);have HX:=Hh (And.intro hx hxw);have HP:=Hh (And.intro hp hn);clear hx hxw hp hb0 hb1 hn;go_enter Tryz.func142,Tryz.ntmps142
 go_wp2_with fail
 go_loopw [8] (fun v8 wr=>∃ (k:Nat) (zs:List Nat),v8=.int .i64 (k:Int)∧k≤n∧zs.length=4∧W64 zs∧num zs=num x ^ k∧
   Blk wr (w.heap.size+1+1) 176 (rowN zs)∧Blk wr w.heap.size 176 (rowN x)∧Blk wr (w.heap.size+1) 176 (rowN [0,0,0,0])∧Below w.heap.size w wr) (fun v8 _=>(n-intOf v8).toNat)
 case atStart=>exact⟨0,[1,0,0,0],rfl,by omega,rfl,by simp[W64],by simp[num],hZ0,hX0,hR0,hb2⟩
 case round =>
  clear hZ0 hX0 hR0 hb2;obtain⟨k,zs,rfl,hkn,hzl,hzw,hQ,hZ,hX,hR,hb⟩:=hrel;obtain⟨x0,x1,x2,x3,hx4⟩:=list4n HX.out.1;obtain⟨z0,z1,z2,z3,hz4⟩:=list4n hzl;have HX4:=Hh hx4;have HZ4:=Hh hz4;have HZ:=Hh (And.intro hzl (And.intro hzw hQ));have hX':=hX;have hZ':=hZ;rw[hx4]at hX';rw[hz4]at hZ';clear hx4 hz4 hzl hzw hQ;have c0:wr.cell? ⟨w.heap.size+1+1,0,none⟩=some (.int .u64 (z0:Int)):=hZ'.cell 0 rfl;have c1:wr.cell? ⟨w.heap.size+1+1,1,none⟩=some (.int .u64 (z1:Int)):=hZ'.cell 1 rfl;have c2:wr.cell? ⟨w.heap.size+1+1,2,none⟩=some (.int .u64 (z2:Int)):=hZ'.cell 2 rfl;have c3:wr.cell? ⟨w.heap.size+1+1,3,none⟩=some (.int .u64 (z3:Int)):=hZ'.cell 3 rfl;have d0:wr.cell? ⟨w.heap.size,0,none⟩=some (.int .u64 (x0:Int)):=hX'.cell 0 rfl;have d1:wr.cell? ⟨w.heap.size,1,none⟩=some (.int .u64 (x1:Int)):=hX'.cell 1 rfl
  have d2:wr.cell? ⟨w.heap.size,2,none⟩=some (.int .u64 (x2:Int)):=hX'.cell 2 rfl;have d3:wr.cell? ⟨w.heap.size,3,none⟩=some (.int .u64 (x3:Int)):=hX'.cell 3 rfl;clear hX' hZ'
  by_cases hlt:(k:Int)<(n:Int)
  ·have T:Hid (Calls Tryz.prog 160 #[.agg #[.int .u64 (z0:Int),.int .u64 (z1:Int),.int .u64 (z2:Int),.int .u64 (z3:Int)],.agg #[.int .u64 (x0:Int),.int .u64 (x1:Int),.int .u64 (x2:Int),.int .u64 (x3:Int)]] wr fun e w'=>e=.returned (.agg (rowN (mulRows zs x [0,0,0,0])))∧Below wr.heap.size wr w'):=by
    have h:=sha_times HZ.out.1 HX.out.1 HZ.out.2.1 HX.out.2 wr;rw[HZ4.out,HX4.out]at h⊢
    exact h
   have HLT:=Hh hlt;have hk1:IntKind.i64.wrap ((k:Int)+1)=(k:Int)+1:=IntWalk.i64_in _ (by have:=HP.out.2;omega);clear hkn;go_wp2_with fail
   refine T.out.mono ?_
   rintro e w2 ⟨rfl,hb2⟩
   have hZ2:=hZ.below hb2;have hX2:=hX.below hb2;have hR2:=hR.below hb2;have hbb:=hb.trans (hb2.mono hb.size);clear c0 c1 c2 c3 d0 d1 d2 d3 hZ hX hR hb hb2 T;go_wp2_with (with_reducible refine stop_store ?_)
   refine wpList_store_item rfl _ _ _ rfl rfl (w.heap.size+1+1) (rowN (mulRows zs x [0,0,0,0])) rfl rfl _ _ hZ2 (by rw[rowN_size,(mulRows4 HZ.out.1 HX.out.1).1];exact size_w4) (by rw[rowN_size,rowN_size,HZ.out.1,(mulRows4 HZ.out.1 HX.out.1).1]) (rowN_one _) fun w9 hZ9 hg9=>?_
   have hX9:=hX2.grown hg9 (by intro hc;injection hc;omega);have hR9:=hR2.grown hg9 (by intro hc;injection hc;omega);have hb9:=hbb.grown hg9 hbb.size (by rintro q ⟨⟩;omega)
   have HN:Hid ((mulRows zs x [0,0,0,0]).length=4∧W64 (mulRows zs x [0,0,0,0])∧num (mulRows zs x [0,0,0,0])=num x ^ (k+1)):=by
    have h:=mulRows4 HZ.out.1 HX.out.1
    refine⟨h.1,h.2.1, ?_⟩
    have e:num zs*num x=num x ^ (k+1):=by rw[HZ.out.2.2,Nat.pow_succ]
    rw[← e]
    exact h.2.2 (by rw[e];exact pow_le_of (by have:=HLT.out;omega) HP.out.1 (by omega))
   clear hX2 hR2 hbb hZ2 hg9;go_wp2_with fail
   go_roundw
   case rel=>exact⟨k+1,_,by go_num,by have:=HLT.out;omega,HN.out.1,HN.out.2.1,HN.out.2.2,hZ9,hX9,hR9,hb9⟩
   case measure=>have:=HLT.out;simp[intOf];omega
  ·have hE:k=n:=by omega
   have HE:=Hh hE;clear hE hkn;go_wp2_with (with_reducible refine stop_store ?_)
   refine wpList_store_item rfl _ _ _ rfl rfl (w.heap.size+1) (rowN [z0,z1,z2,z3]) rfl rfl _ _ hR size_w4 rfl (rowN_one _) fun wz hRz hgz=>?_
   have hbz:=hb.grown hgz hb.size (by rintro q ⟨⟩;omega);clear c0 c1 c2 c3 d0 d1 d2 d3;go_wp2_with fail
   refine ret_row rfl rfl hRz rfl rfl size_w4 rfl ?_
   exact⟨zs,by rw[HZ4.out],HZ.out.1,HZ.out.2.1,by rw[HZ.out.2.2,HE.out],hbz⟩
theorem sha_less {x y:List Nat}(hx:x.length=4) (hy:y.length=4) (hxw:W64 x) (hyw:W64 y) (w:World) :
  Calls Tryz.prog 143 #[.agg (rowN x),.agg (rowN y)] w fun e w'=>e=.returned (.bool (decide (num x<num y)))∧Below w.heap.size w w':=by
 have hX0:=Blk.new w 176 (rowN x);have hY0:=Blk.new (w.alloc (.cells (rowN x) 176)) 176 (rowN y);replace hX0:=hX0.alloc (.cells (rowN y) 176)
 simp only[size_alloc]at hY0
 have hb0:=below_box w (.cells (rowN x) 176);have hb1:=hb0.alloc hb0.size (.cells (rowN y) 176);have HL:=Hh (And.intro hx hy);have HW:=Hh (And.intro hxw hyw);have HD0:x.drop 4=y.drop 4:=by rw[List.drop_of_length_le (by omega),List.drop_of_length_le (by omega)]
 have HD:=Hh HD0;clear hx hy hxw hyw hb0 HD0;go_enter Tryz.func143,Tryz.ntmps143
 go_wp2_with fail
 go_loopw [5] (fun v5 wr=>∃ k:Nat,v5=.int .i64 ((k:Int)-1)∧k≤4∧x.drop k=y.drop k∧Blk wr w.heap.size 176 (rowN x)∧Blk wr (w.heap.size+1) 176 (rowN y)∧Below w.heap.size w wr) (fun v5 _=>(intOf v5+1).toNat)
 case atStart=>exact⟨4,by rw[show((4:Nat):Int)-1=3 by omega],by omega,HD.out,hX0,hY0,hb1⟩
 case round =>
  clear hX0 hY0 hb1 HD;obtain⟨k,rfl,hk4,hQ,hX,hY,hb⟩:=hrel;have HQ:=Hh hQ;clear hQ
  by_cases h0:k=0
  ·subst h0
   have HE:Hid (num x=num y):=by
    have h:=HQ.out;rw[List.drop_zero,List.drop_zero]at h;rw[Hid,h]
   rw[show((0:Nat):Int)-1 = -1 by omega];go_wp2_with fail
   go_ret
   refine⟨?_,hb⟩
   have:decide (num x<num y)=false:=decide_eq_false (by have:=HE.out;omega);rw[this];rfl
  ·obtain⟨i,hi⟩:∃ i:Nat,k=i+1:=⟨k-1,by omega⟩
   subst hi;rw[show((i+1:Nat):Int)-1=(i:Int) by omega];have hi4:(i:Int)<4:=by omega
   have cx:=hX.drew.cell i (rowN_get _ _ (by have:=HL.out;omega));have cy:=hY.drew.cell i (rowN_get _ _ (by have:=HL.out;omega))
   by_cases hne:getN x i=getN y i
   ·obtain⟨xi,hxi⟩:∃ n,getN x i=n:=⟨_,rfl⟩
    have HN:=Hh (And.intro hxi (hne.symm.trans hxi));rw[hxi]at cx;rw[← hne,hxi]at cy
    have HDr:Hid (x.drop i=y.drop i):=by
     have e1:=drop_getN (l:=x) (i:=i) (by have:=HL.out;omega);have e2:=drop_getN (l:=y) (i:=i) (by have:=HL.out;omega);rw[Hid,e1,e2,HN.out.1,HN.out.2,HQ.out]
    have HK:=Hh hk4;have hi1:IntKind.i64.wrap ((i:Int)-1)=(i:Int)-1:=IntWalk.i64_in _ (by omega);clear hne hxi h0 hk4;go_upto_region 4 with fail
    refine wp_region_ways 7 (fun wx=>wx.cell? ⟨w.heap.size,i,none⟩=some (.int .u64 (xi:Int))∧wx.cell? ⟨w.heap.size+1,i,none⟩=some (.int .u64 (xi:Int))) (by kernel_rfl) (⟨cx,cy⟩) (fun hHeld=>?_)
    refine TkS 0 rfl hHeld ?_
    refine TkS 1 rfl hHeld ?_
    refine TkS 2 rfl hHeld ?_
    refine TkS 3 rfl hHeld ?_
    refine TkS 4 rfl hHeld ?_
    refine TkS 5 rfl hHeld ?_
    refine TkS 6 rfl hHeld ?_
    refine Wd ?_
    clear hHeld;have hX2:=hX.drew;have hY2:=hY.drew;have hb2:=hb.drew;clear cx cy hX hY hb;go_wp2_with fail
    go_roundw
    case rel=>exact⟨i,rfl,by have:=HK.out;omega,HDr.out,hX2,hY2,hb2⟩
    case measure=>simp[intOf]
   ·have HC:=Hh (num_cmp i x y HW.out.1 HW.out.2 (by have:=HL.out;omega) (by have:=HL.out;omega) HQ.out hne);obtain⟨xi,hxi⟩:∃ n,getN x i=n:=⟨_,rfl⟩
    obtain⟨yi,hyi⟩:∃ n,getN y i=n:=⟨_,rfl⟩
    rw[hxi,hyi]at hne HC;rw[hxi]at cx;rw[hyi]at cy;have hne1:((xi:Int) != (yi:Int))=true:=by rw[bne_iff_ne];omega
    have hne2:((xi:Int)=(yi:Int))=False:=eq_false (by omega)
    have E:Hid (decide (num x<num y)=decide (xi<yi)):=by
     rw[Hid,Bool.eq_iff_iff,decide_eq_true_eq,decide_eq_true_eq,HC.out]
    clear hne hxi hyi h0;go_upto_region 4 with fail
    refine wp_region_ways 7 (fun wx=>wx.cell? ⟨w.heap.size,i,none⟩=some (.int .u64 (xi:Int))∧wx.cell? ⟨w.heap.size+1,i,none⟩=some (.int .u64 (yi:Int))) (by kernel_rfl) (⟨cx,cy⟩) (fun hHeld=>?_)
    refine TkS 0 rfl hHeld ?_
    refine TkS 1 rfl hHeld ?_
    refine TkS 2 rfl hHeld ?_
    refine TkS 3 rfl hHeld ?_
    refine TkS 4 rfl hHeld ?_
    refine TkS 5 rfl hHeld ?_
    refine TkS 6 rfl hHeld ?_
    refine Wd ?_
    clear hHeld;go_upto_region 5 with fail
    refine wp_region_ways 8 (fun wx=>wx.cell? ⟨w.heap.size,i,none⟩=some (.int .u64 (xi:Int))∧wx.cell? ⟨w.heap.size+1,i,none⟩=some (.int .u64 (yi:Int))) (by kernel_rfl) (⟨cx,cy⟩) (fun hHeld=>?_)
    refine TkS 0 rfl hHeld ?_
    refine TkS 1 rfl hHeld ?_
    refine TkS 2 rfl hHeld ?_
    refine TkS 3 rfl hHeld ?_
    refine TkS 4 rfl hHeld ?_
    refine TkS 5 rfl hHeld ?_
    refine TkS 6 rfl hHeld ?_
    refine TkS 7 rfl hHeld ?_
    refine Wd ?_
    clear hHeld;go_wp2_with fail
    go_ret
    exact⟨by rw[E.out];rfl,hb.drew.drew⟩
theorem arith_any {P:Program}(w:World) (op:BinOp) (hop:op=.add∨op=.sub∨op=.mul∨op=.quo) (t:TypeId) (x y:Nat) :
  ∃ r w',(binOp op t (.float .f64 x) (.float .f64 y)).run P w=.ok (.float .f64 r) w'∧(w'=w∨w'=w.drew):=by
 cases h:floatBits op .f64 x y with
 | some r=>exact⟨r,w,run_float_arith w op t .f64 x y r h,.inl rfl⟩
 | none =>
  have hb:binOp op t (.float .f64 x) (.float .f64 y)=Op.floatArith op .f64 x y:=by rcases hop with rfl | rfl | rfl | rfl <;> simp[binOp]
  have hf:(Op.floatArith op .f64 x y)=(do pure (.float .f64 (← choose (.nanBits .f64 x y)))):=by
   unfold floatBits at h
   rcases hop with rfl | rfl | rfl | rfl <;> simp only at h <;> simp[Op.floatArith,h]
  rw[hb,hf]
  simp only[Sem.run_bind,run_choose_drew]
  split
  ·exact⟨_,_,rfl,.inl rfl⟩
  ·exact⟨_,_,rfl,.inr rfl⟩
theorem conv_any {P:Program}(w:World) (src dst:TypeId) (b:Nat) (hs:(P.underlying src).isSome=true) (hd:P.underlying dst=some (.int .u64)) :
  ∃ n:Nat,n<18446744073709551616∧∃ w',(convert src dst (.float .f64 b)).run P w=.ok (.int .u64 (n:Int)) w'∧(w'=w∨w'=w.drew):=by
 have bnd:∀ z:Int,∃ n:Nat,n<18446744073709551616∧IntKind.u64.wrap z=(n:Int):=fun z=>by
  rw[IntKind.wrap_u64]
  exact⟨(z%18446744073709551616).toNat,by omega,by omega⟩
 obtain⟨u,hs'⟩:=Option.isSome_iff_exists.1 hs
 have hc:(convert src dst (.float .f64 b)).run P w=(Conv.floatToInt .f64 b .u64).run P w:=by
  cases u <;> simp[convert,run_underlying hs',run_underlying hd]
 rw[hc]
 unfold Conv.floatToInt
 split
 ·rename_i m he
  split
  ·rename_i hb
   have h1:(0:Int)≤m:=hb.1;have h2:m≤18446744073709551615:=hb.2
   exact⟨m.toNat,by omega,w,by rw[show((m.toNat:Nat):Int)=m by omega];rfl,.inl rfl⟩
  ·simp only[Sem.run_bind,Sem.run_pure,Result.andThen_ok,run_choose_drew]
   split
   ·obtain⟨n,hn,e⟩:=bnd ((0:Nat):Int)
    exact⟨n,hn,_,by rw[← e];rfl,.inl rfl⟩
   ·obtain⟨n,hn,e⟩:=bnd ((Question.cut (.floatToInt .f64 b .u64) (w.tape w.drawn (.floatToInt .f64 b .u64)):Nat):Int)
    exact⟨n,hn,_,by rw[← e];rfl,.inr rfl⟩
 ·simp only[Sem.run_bind,Sem.run_pure,Result.andThen_ok,run_choose_drew]
  split
  ·obtain⟨n,hn,e⟩:=bnd ((0:Nat):Int)
   exact⟨n,hn,_,by rw[← e];rfl,.inl rfl⟩
  ·obtain⟨n,hn,e⟩:=bnd ((Question.cut (.floatToInt .f64 b .u64) (w.tape w.drawn (.floatToInt .f64 b .u64)):Nat):Int)
   exact⟨n,hn,_,by rw[← e];rfl,.inr rfl⟩
theorem wpList_fop {P:Program}{w:World}{ops:Array Oper}{rest:List Oper}{o:Oper}{a:Act}{Q:Exit→Act→World→Prop}(hgd:o.guard=none) (op:BinOp) (t t2:TypeId) (x y:Operand) (ho:o.op=.binOp op t x y t2)
  (hop:op=.add∨op=.sub∨op=.mul∨op=.quo) (fx fy:Nat) (hx:a.eval x=.float .f64 fx) (hy:a.eval y=.float .f64 fy)
  (h:∀ r w',w'=w∨w'=w.drew→wpList P ops Q rest (a.put o.dst (.float .f64 r)) w'):wpList P ops Q (o::rest) a w:=by
 obtain⟨r,w',hr,hw⟩:=arith_any (P:=P) w op hop t fx fy
 refine wpList_plain hgd fun K hK=>?_
 unfold Oper.wp execOp
 have hg:(eqGuard op t x y (.float .f64 fx) (.float .f64 fy)).run P w=.ok () w:=by rcases hop with rfl | rfl | rfl | rfl <;> simp[eqGuard]
 simp only[ho,hx,hy,Sem.run_bind,hg,hr,Result.andThen_ok,Sem.run_pure]
 exact hK _ _ (h r w' hw)
theorem wpList_fconv {P:Program}{w:World}{ops:Array Oper}{rest:List Oper}{o:Oper}{a:Act}{Q:Exit→Act→World→Prop}(hgd:o.guard=none) (src dst:TypeId) (x:Operand) (ho:o.op=.convert src dst x)
  (hs:(P.underlying src).isSome=true) (hd:P.underlying dst=some (.int .u64)) (fx:Nat) (hx:a.eval x=.float .f64 fx)
  (h:∀ (n:Nat) w',n<18446744073709551616→w'=w∨w'=w.drew→wpList P ops Q rest (a.put o.dst (.int .u64 (n:Int))) w'):wpList P ops Q (o::rest) a w:=by
 obtain⟨n,hn,w',hr,hw⟩:=conv_any (P:=P) w src dst fx hs hd
 refine wpList_plain hgd fun K hK=>?_
 unfold Oper.wp execOp
 simp only[ho,hx,Sem.run_bind,hr,Result.andThen_ok,Sem.run_pure]
 exact hK _ _ (h n w' hn hw)
end Go.Proofs.YtgcjjhibdbafmaaGreatDoor
