/- squeezed. SHA-256: numbers of four words: th -/
import Derived.Test.YtliomcphdnppnaaGreatDoorK28
import Derived.Deep.Cut
set_option linter.unusedVariables false
set_option linter.unusedSimpArgs false
set_option maxRecDepth 100000
set_option maxHeartbeats 3200000
namespace Go.Proofs.YtliomcphdnppnaaGreatDoor
open Go.RowKit
def zW (l:List Nat):Array Value:=(l.map fun n:Nat=>Value.int .u64 (n:Int)).toArray
theorem vg (l:List Nat):(zW l).size=l.length:=by simp[zW]
theorem uA (l:List Nat) (i:Nat) (h:i<l.length):(zW l)[i]? = some (.int .u64 (yJ l i:Int)):=by
 simp[zW,yJ,h]
theorem sC (l:List Nat) (i n:Nat):(zW l).setIfInBounds i (.int .u64 (n:Int))=zW (l.set i n):=by
 simp[zW,List.map_set]
theorem xD (l:List Nat):(zW l).all (·.oneCell')=true:=by simp[zW,Value.oneCell']
theorem pO (x y:Nat) (w:World):(callFunc 199 #[.int .u64 (x:Int),.int .u64 (y:Int),.int .u64 0]).run Tryz.prog w =
  .ok (.value (.tuple #[.int .u64 (((x+y)%18446744073709551616:Nat):Int),.int .u64 (((x+y)/18446744073709551616:Nat):Int)])) w:=YB x y 0 (by omega) w
theorem x8:(Tryz.prog.info? 211).map (·.size)=some 4:=by kernel_rfl
theorem vG:(Tryz.prog.info? 22).map (·.size)=some 1:=by kernel_rfl
theorem YO {x y:List Nat}(hx:x.length=4) (hy:y.length=4) (Zl:W64 x) (hyw:W64 y) (w:World) :
  Calls Tryz.prog 197 #[.agg (zW x),.agg (zW y)] w fun e w'=>e=.returned (.agg (zW (y6 x y [0,0,0,0])))∧Below w.heap.size w w':=by
 have oM:=Blk.new w 211 (zW x);have Yu:=Blk.new (w.alloc (.cells (zW x) 211)) 211 (zW y);have HL:=Hh (And.intro hx hy);have HW:=Hh (And.intro Zl hyw);clear hx hy Zl hyw;have QW:=Blk.new (((w.alloc (.cells (zW x) 211)).alloc (.cells (zW y) 211)).alloc (.cells (zW [0,0,0,0]) 211)) 211 (zW [0,0,0,0]);have m7:=(Blk.new ((w.alloc (.cells (zW x) 211)).alloc (.cells (zW y) 211)) 211 (zW [0,0,0,0])).alloc (.cells (zW [0,0,0,0]) 211);replace oM:=((oM.alloc (.cells (zW y) 211)).alloc (.cells (zW [0,0,0,0]) 211)).alloc (.cells (zW [0,0,0,0]) 211);replace Yu:=(Yu.alloc (.cells (zW [0,0,0,0]) 211)).alloc (.cells (zW [0,0,0,0]) 211)
 simp only[zr]at Yu m7 QW
 have yK:=zu w (.cells (zW x) 211);have zJ:=yK.alloc yK.size (.cells (zW y) 211);have zK:=zJ.alloc zJ.size (.cells (zW [0,0,0,0]) 211);have xz:=zK.alloc zK.size (.cells (zW [0,0,0,0]) 211);clear yK zJ zK;go_enter Tryz.func197,Tryz.ntmps197
 go_wp2_with fail
 go_loopw [12] (fun v12 wr=>∃ (i:Nat) (zs:List Nat),v12=.int .i64 (i:Int)∧i≤4∧zs.length=4∧W64 zs∧zs.take i++y6 (x.drop i) y (zs.drop i)=y6 x y [0,0,0,0]∧
   Blk wr (w.heap.size+1+1+1) 211 (zW zs)∧Blk wr w.heap.size 211 (zW x)∧Blk wr (w.heap.size+1) 211 (zW y)∧Blk wr (w.heap.size+1+1) 211 (zW [0,0,0,0])∧Below w.heap.size w wr) (fun v12 _=>(4-intOf v12).toNat)
 case atStart=>exact⟨0,[0,0,0,0],rfl,by omega,rfl,by simp[W64],rfl,QW,oM,Yu,m7,xz⟩
 case round =>
 clear QW oM Yu m7 xz;obtain⟨i,zs,rfl,pz,Z9,oO,hQ,hZ,hX,hY,hR,hb⟩:=hrel;have HZ:=Hh (And.intro Z9 (And.intro oO hQ));clear Z9 oO hQ
 by_cases zB:(i:Int)<4
 ·have HI:=Hh zB;have qp:IntKind.i64.wrap ((i:Int)+((0:Nat):Int))=(i:Int):=by rw[show(i:Int)+((0:Nat):Int)=(i:Int) by omega];exact IntWalk.i64_in _ (by omega)
  go_wp2_with fail
  go_loopw [7,8] (fun v7 v8 wx=>∃ (j c:Nat) (zt:List Nat),v8=.int .i64 (j:Int)∧v7=.int .u64 (c:Int)∧c<18446744073709551616∧i+j≤4∧zt.length=4∧W64 zt∧zt.take (i+j)++wj (yJ x i) (y.drop j) (zt.drop (i+j)) c=zs.take i++wj (yJ x i) y (zs.drop i) 0∧
    Blk wx (w.heap.size+1+1+1) 211 (zW zt)∧Blk wx w.heap.size 211 (zW x)∧Blk wx (w.heap.size+1) 211 (zW y)∧Blk wx (w.heap.size+1+1) 211 (zW [0,0,0,0])∧Below w.heap.size w wx) (fun _ v8 _=>(4-(i:Int)-intOf v8).toNat)
  case atStart=>exact⟨0,0,zs,rfl,rfl,by omega,by omega,HZ.out.1,HZ.out.2.1,by simp,hZ,hX,hY,hR,hb⟩
  case round =>
  clear hZ hX hY hR hb;obtain⟨j,c,zt,rfl,rfl,hc,OJ,Z9,oO,hQ,hZ,hX,hY,hR,hb⟩:=hrel;obtain⟨k,hk⟩:∃ k,i+j=k:=⟨_,rfl⟩
  have Wk:IntKind.i64.wrap ((i:Int)+(j:Int))=(k:Int):=by rw[← hk,Int.natCast_add];exact IntWalk.i64_in _ (by omega)
  by_cases Wr:(k:Int)<4
  ·have cx:=hX.drew.cell i (uA _ _ (by have:=HL.out;omega));have cy:=hY.drew.cell j (uA _ _ (by have:=HL.out;omega));have cz:=hZ.drew.cell k (uA _ _ (by omega));have I3:(i:Int)<4∧(j:Int)<4:=by omega
   obtain⟨BR,BV⟩:=I3;obtain⟨xi,tD⟩:∃ n,yJ x i=n:=⟨_,rfl⟩
   obtain⟨yj,L7⟩:∃ n,yJ y j=n:=⟨_,rfl⟩
   obtain⟨zk,L9⟩:∃ n,yJ zt k=n:=⟨_,rfl⟩
   have Jt:xi<18446744073709551616:=by rw[← tD];exact fV HW.out.1 i
   have Jv:yj<18446744073709551616:=by rw[← L7];exact fV HW.out.2 j
   have Gl:zk<18446744073709551616:=by rw[← L9];exact fV oO k
   rw[tD]at cx;rw[L7]at cy;rw[L9]at cz;have M:=Hh (fun w=>Zq xi yj Jt Jv w);obtain⟨s1,s2,s3,s4⟩:=Ua Jt Jv Gl hc;have H5:=Hh (And.intro hk (And.intro Z9 (And.intro oO (And.intro hQ (And.intro tD (And.intro L7 L9))))));have HC:=Hh hc;clear hc hk Z9 oO hQ tD L7 L9 Jt Jv Gl;have A1:=pO (xi*yj%18446744073709551616) c;have A2:=pO zk ((xi*yj%18446744073709551616+c)%18446744073709551616);obtain⟨p0,U5⟩:∃ n,xi*yj/18446744073709551616=n:=⟨_,rfl⟩
   obtain⟨p1,ir⟩:∃ n,xi*yj%18446744073709551616=n:=⟨_,rfl⟩
   rw[U5]at s1 s2;rw[ir]at s1 s2 s3 A1 A2;obtain⟨l0,Ws⟩:∃ n,(p1+c)%18446744073709551616=n:=⟨_,rfl⟩
   obtain⟨l1,ik⟩:∃ n,(p1+c)/18446744073709551616=n:=⟨_,rfl⟩
   rw[Ws]at s2 s3 A1 A2;rw[ik]at s1 s2 A1;obtain⟨q0,mB⟩:∃ n,(zk+l0)%18446744073709551616=n:=⟨_,rfl⟩
   obtain⟨q1,lP⟩:∃ n,(zk+l0)/18446744073709551616=n:=⟨_,rfl⟩
   rw[mB]at s3 A2;rw[lP]at s2 A2;obtain⟨r0,Qk⟩:∃ n,p0+l1=n:=⟨_,rfl⟩
   obtain⟨r1,Ql⟩:∃ n,r0+q1=n:=⟨_,rfl⟩
   rw[Qk]at s1 s2;rw[Ql]at s2;have B1:IntKind.u64.wrap ((p0:Int)+(l1:Int))=(r0:Int):=by rw[← Int.natCast_add,Qk];exact xu _ s1
   have B2:IntKind.u64.wrap ((r0:Int)+(q1:Int))=(r1:Int):=by rw[← Int.natCast_add,Ql];exact xu _ (by omega)
   have HP:=Hh (And.intro U5 ir);have HS:=Hh (And.intro s2 (And.intro s3 s4));clear s1 s2 s3 s4 U5 ir Ws ik mB lP Qk Ql;go_upto_region 9 with fail
   refine zw 12 (fun wx=>wx.cell? ⟨w.heap.size,i,none⟩=some (.int .u64 (xi:Int))∧wx.cell? ⟨w.heap.size+1,j,none⟩=some (.int .u64 (yj:Int))) (by kernel_rfl) (⟨cx,cy⟩) (fun zy=>?_)
   refine TkS 0 rfl zy ?_
   refine TkS 1 rfl zy ?_
   refine TkS 2 rfl zy ?_
   refine TkS 3 rfl zy ?_
   refine TkS 4 rfl zy ?_
   refine TkS 5 rfl zy ?_
   refine To 6 rfl fun K hK=>?_
   go_simp
   refine(M.out _).mono ?_
   rintro e w5 ⟨rfl,rfl⟩
   rw[HP.out.1,HP.out.2];clear zy
   refine hK.out _ _ (fun _=>?_) (fun zy=>?_)
   ·exact⟨cx,cy⟩
   clear hK K;replace zy:=zy (by decide)
   try simp only[Act.put,zz1,zz2,zz3,zz4,zz5,zz6]
   refine TkS 7 rfl zy ?_
   refine TkS 8 rfl zy ?_
   refine TkS 9 rfl zy ?_
   refine TkS 10 rfl zy ?_
   refine TkS 11 rfl zy ?_
   refine Wd ?_
   clear zy;go_wp2_with (with_reducible refine zx ?_)
   refine ze rfl _ _ _ rfl rfl (w.heap.size+1+1+1) k (.int .u64 (q0:Int)) rfl rfl _ _ hZ vG (by rw[vg,H5.out.2.1];omega) rfl fun w9 hZ9 yL=>?_
   rw[sC]at hZ9;have Wn:=hX.drew.grown yL (by intro hc;injection hc;omega);have JM:=hY.drew.grown yL (by intro hc;injection hc;omega);have bx:=hR.drew.grown yL (by intro hc;injection hc;omega);have pu:=hb.drew.grown yL hb.size (by rintro q ⟨⟩;omega);have hq:q0<18446744073709551616:=by rw[HS.out.2.1];exact Nat.mod_lt _ (by decide)
   have hr:r1<18446744073709551616:=by rw[HS.out.1];exact HS.out.2.2
   have HN:Hid ((zt.set k q0).length=4∧W64 (zt.set k q0)∧(zt.set k q0).take (k+1)++wj (yJ x i) (y.drop (j+1)) ((zt.set k q0).drop (k+1)) r1=zs.take i++wj (yJ x i) y (zs.drop i) 0):=by
    obtain⟨e1,e2,e3,e4,e5,e6,e7⟩:=H5.out
    refine⟨by rw[List.length_set];exact e2,e3.set k hq, ?_⟩
    rw[← e4,e1,HS.out.1,HS.out.2.1,← e5,← e6,← e7]
    exact dS (by omega) (by have:=HL.out;omega)
   have HR:=Hh hr;clear yL hX hY hR hb hZ cx cy cz A1 A2 hq hr M HS;go_wp2_with fail
   go_roundw
   case rel=>exact⟨j+1,r1,zt.set k q0,by go_num,rfl,HR.out,by have:=H5.out.1;omega,HN.out.1,HN.out.2.1,by rw[show i+(j+1)=k+1 by have:=H5.out.1;omega];exact HN.out.2.2,hZ9,Wn,JM,bx,pu⟩
   case measure=>have:=H5.out.1;simp[intOf];omega
  have hE:i+j=4:=by omega
  have Gm:zt=zs.take i++wj (yJ x i) y (zs.drop i) 0:=by
   rw[← hQ,hE,List.take_of_length_le (l:=zt) (by omega),List.drop_of_length_le (l:=zt) (by omega),ag,List.append_nil]
  have HQ:=Hh ((dT (by have:=HL.out;have:=HI.out;omega) (by have:=HZ.out.1;have:=HI.out;omega) (by have:=HL.out;omega) Gm).trans HZ.out.2.2);have FI:=Hh (And.intro Z9 oO);clear Gm hE Z9 oO hQ hk;go_wp2_with fail
  go_roundw
  case rel=>exact⟨i+1,zt,by go_num,by have:=HI.out;omega,FI.out.1,FI.out.2,HQ.out,hZ,hX,hY,hR,hb⟩
  case measure=>have:=HI.out;simp[intOf];omega
 obtain rfl:i=4:=by omega
 rw[show((4:Nat):Int)=4 from rfl]at zB⊢
 have U8:zs=y6 x y [0,0,0,0]:=by
  obtain⟨e1,e2,e3⟩:=HZ.out;have:=HL.out;rw[← e3,List.take_of_length_le (l:=zs) (by omega),List.drop_of_length_le (l:=x) (by omega),List.drop_of_length_le (l:=zs) (by omega),dF,List.append_nil]
 have D0:=Hh U8;obtain⟨z0,z1,z2,z3,lR⟩:∃ a b c d,zs=[a,b,c,d]:=rS HZ.out.1;have KP:=Hh lR;rw[lR]at hZ;clear U8 lR;have c0:wr.cell? ⟨w.heap.size+1+1+1,0,none⟩=some (.int .u64 (z0:Int)):=hZ.cell 0 rfl;have c1:wr.cell? ⟨w.heap.size+1+1+1,1,none⟩=some (.int .u64 (z1:Int)):=hZ.cell 1 rfl;have c2:wr.cell? ⟨w.heap.size+1+1+1,2,none⟩=some (.int .u64 (z2:Int)):=hZ.cell 2 rfl;have c3:wr.cell? ⟨w.heap.size+1+1+1,3,none⟩=some (.int .u64 (z3:Int)):=hZ.cell 3 rfl;go_wp2_with (with_reducible refine zx ?_)
 refine zv rfl _ _ _ rfl rfl (w.heap.size+1+1) (zW [z0,z1,z2,z3]) rfl rfl _ _ hR x8 rfl (xD _) fun wz hRz xI=>?_
 have zA:=hb.grown xI hb.size (by rintro q ⟨⟩;omega);clear c0 c1 c2 c3;go_wp2_with fail
 refine zO rfl rfl hRz rfl rfl x8 rfl ?_
 exact⟨by rw[← KP.out,D0.out],zA⟩
end Go.Proofs.YtliomcphdnppnaaGreatDoor
