/- squeezed. SHA-256: numbers of four words: th -/
import Derived.Test.YtkmlnjociijpgaaGreatDoorK13
import Derived.Deep.Cut
set_option linter.unusedVariables false
set_option linter.unusedSimpArgs false
set_option maxRecDepth 100000
set_option maxHeartbeats 3200000
namespace Go.Proofs.YtkmlnjociijpgaaGreatDoor
open Go.RowKit
theorem jhp{P:Prop}(h:P:=by have yB:=zX w (.cells (zS x) 274);have zY:=yB.alloc yB.size (.cells (zS y) 274);exact And.intro yB zY):P:=h
theorem jhs{P:Prop}(h:P:=by have rM:=hb.grown hgz hb.size (by rintro q ⟨⟩;omega);exact rM):P:=h
def zS (l:List Nat):Array Value:=(l.map fun n:Nat=>Value.int .u64 (n:Int)).toArray
theorem ux (l:List Nat):(zS l).size=l.length:=by simp[zS]
theorem t8 (l:List Nat) (i:Nat) (h:i<l.length):(zS l)[i]? = some (.int .u64 (yD l i:Int)):=by
 simp[zS,yD,h]
theorem rA (l:List Nat) (i n:Nat):(zS l).setIfInBounds i (.int .u64 (n:Int))=zS (l.set i n):=by
 simp[zS,List.map_set]
theorem wj (l:List Nat):(zS l).all (·.oneCell')=true:=by simp[zS,Value.oneCell']
theorem nr (x y:Nat) (w:World):(callFunc 264 #[.int .u64 (x:Int),.int .u64 (y:Int),.int .u64 0]).run Tryz.prog w =
  .ok (.value (.tuple #[.int .u64 (((x+y)%18446744073709551616:Nat):Int),.int .u64 (((x+y)/18446744073709551616:Nat):Int)])) w:=UD x y 0 (by omega) w
theorem wZ:(Tryz.prog.info? 274).map (·.size)=some 4:=by kernel_rfl
theorem uN:(Tryz.prog.info? 74).map (·.size)=some 1:=by kernel_rfl
theorem UN {x y:List Nat}(hx:x.length=4) (hy:y.length=4) (aw:W64 x) (hyw:W64 y) (w:World) :
  Calls Tryz.prog 262 #[.agg (zS x),.agg (zS y)] w fun e w'=>e=.returned (.agg (zS (xm x y [0,0,0,0])))∧Below w.heap.size w w':=by
 have wY:=Blk.new w 274 (zS x);have VL:=Blk.new (w.alloc (.cells (zS x) 274)) 274 (zS y);have HL:=Hh (And.intro hx hy);have HW:=Hh (And.intro aw hyw);clear hx hy aw hyw;have Ly:=Blk.new (((w.alloc (.cells (zS x) 274)).alloc (.cells (zS y) 274)).alloc (.cells (zS [0,0,0,0]) 274)) 274 (zS [0,0,0,0]);have oR:=(Blk.new ((w.alloc (.cells (zS x) 274)).alloc (.cells (zS y) 274)) 274 (zS [0,0,0,0])).alloc (.cells (zS [0,0,0,0]) 274);replace wY:=((wY.alloc (.cells (zS y) 274)).alloc (.cells (zS [0,0,0,0]) 274)).alloc (.cells (zS [0,0,0,0]) 274);replace VL:=(VL.alloc (.cells (zS [0,0,0,0]) 274)).alloc (.cells (zS [0,0,0,0]) 274)
 simp only[za]at VL oR Ly
 obtain⟨yB,zY⟩:=jhp;have zD:=zY.alloc zY.size (.cells (zS [0,0,0,0]) 274);have yR:=zD.alloc zD.size (.cells (zS [0,0,0,0]) 274);clear yB zY zD;go_enter Tryz.func262,Tryz.ntmps262
 go_wp2_with fail
 go_loopw [12] (fun v12 wr=>∃ (i:Nat) (zs:List Nat),v12=.int .i64 (i:Int)∧i≤4∧zs.length=4∧W64 zs∧zs.take i++xm (x.drop i) y (zs.drop i)=xm x y [0,0,0,0]∧
   Blk wr (w.heap.size+1+1+1) 274 (zS zs)∧Blk wr w.heap.size 274 (zS x)∧Blk wr (w.heap.size+1) 274 (zS y)∧Blk wr (w.heap.size+1+1) 274 (zS [0,0,0,0])∧Below w.heap.size w wr) (fun v12 _=>(4-intOf v12).toNat)
 case atStart=>exact⟨0,[0,0,0,0],rfl,by omega,rfl,by simp[W64],rfl,Ly,wY,VL,oR,yR⟩
 case round =>
 clear Ly wY VL oR yR;obtain⟨i,zs,rfl,SJ,Sd,mO,hQ,hZ,hX,hY,hR,hb⟩:=hrel;have HZ:=Hh (And.intro Sd (And.intro mO hQ));clear Sd mO hQ
 by_cases z9:(i:Int)<4
 ·have HI:=Hh z9;have Sq:IntKind.i64.wrap ((i:Int)+((0:Nat):Int))=(i:Int):=by rw[show(i:Int)+((0:Nat):Int)=(i:Int) by omega];exact IntWalk.i64_in _ (by omega)
  go_wp2_with fail
  go_loopw [7,8] (fun v7 v8 wx=>∃ (j c:Nat) (zt:List Nat),v8=.int .i64 (j:Int)∧v7=.int .u64 (c:Int)∧c<18446744073709551616∧i+j≤4∧zt.length=4∧W64 zt∧zt.take (i+j)++wM (yD x i) (y.drop j) (zt.drop (i+j)) c=zs.take i++wM (yD x i) y (zs.drop i) 0∧
    Blk wx (w.heap.size+1+1+1) 274 (zS zt)∧Blk wx w.heap.size 274 (zS x)∧Blk wx (w.heap.size+1) 274 (zS y)∧Blk wx (w.heap.size+1+1) 274 (zS [0,0,0,0])∧Below w.heap.size w wx) (fun _ v8 _=>(4-(i:Int)-intOf v8).toNat)
  case atStart=>exact⟨0,0,zs,rfl,rfl,by omega,by omega,HZ.out.1,HZ.out.2.1,by simp,hZ,hX,hY,hR,hb⟩
  case round =>
  clear hZ hX hY hR hb;obtain⟨j,c,zt,rfl,rfl,hc,Dx,Sd,mO,hQ,hZ,hX,hY,hR,hb⟩:=hrel;obtain⟨k,hk⟩:∃ k,i+j=k:=⟨_,rfl⟩
  have Wk:IntKind.i64.wrap ((i:Int)+(j:Int))=(k:Int):=by rw[← hk,Int.natCast_add];exact IntWalk.i64_in _ (by omega)
  by_cases ae:(k:Int)<4
  ·have cx:=hX.drew.cell i (t8 _ _ (by have:=HL.out;omega));have cy:=hY.drew.cell j (t8 _ _ (by have:=HL.out;omega));have cz:=hZ.drew.cell k (t8 _ _ (by omega));have CO:(i:Int)<4∧(j:Int)<4:=by omega
   obtain⟨fF,Iq⟩:=CO;obtain⟨xi,d9⟩:∃ n,yD x i=n:=⟨_,rfl⟩
   obtain⟨yj,Fs⟩:∃ n,yD y j=n:=⟨_,rfl⟩
   obtain⟨zk,Ft⟩:∃ n,yD zt k=n:=⟨_,rfl⟩
   have Sb:xi<18446744073709551616:=by rw[← d9];exact bY HW.out.1 i
   have iq:yj<18446744073709551616:=by rw[← Fs];exact bY HW.out.2 j
   have J6:zk<18446744073709551616:=by rw[← Ft];exact bY mO k
   rw[d9]at cx;rw[Fs]at cy;rw[Ft]at cz;have M:=Hh (fun w=>Wf xi yj Sb iq w);obtain⟨s1,s2,s3,s4⟩:=Q1 Sb iq J6 hc;have H5:=Hh (And.intro hk (And.intro Sd (And.intro mO (And.intro hQ (And.intro d9 (And.intro Fs Ft))))));have HC:=Hh hc;clear hc hk Sd mO hQ d9 Fs Ft Sb iq J6;have A1:=nr (xi*yj%18446744073709551616) c;have A2:=nr zk ((xi*yj%18446744073709551616+c)%18446744073709551616);obtain⟨p0,jp⟩:∃ n,xi*yj/18446744073709551616=n:=⟨_,rfl⟩
   obtain⟨p1,eK⟩:∃ n,xi*yj%18446744073709551616=n:=⟨_,rfl⟩
   rw[jp]at s1 s2;rw[eK]at s1 s2 s3 A1 A2;obtain⟨l0,ap⟩:∃ n,(p1+c)%18446744073709551616=n:=⟨_,rfl⟩
   obtain⟨l1,Ss⟩:∃ n,(p1+c)/18446744073709551616=n:=⟨_,rfl⟩
   rw[ap]at s2 s3 A1 A2;rw[Ss]at s1 s2 A1;obtain⟨q0,sz⟩:∃ n,(zk+l0)%18446744073709551616=n:=⟨_,rfl⟩
   obtain⟨q1,fR⟩:∃ n,(zk+l0)/18446744073709551616=n:=⟨_,rfl⟩
   rw[sz]at s3 A2;rw[fR]at s2 A2;obtain⟨r0,Ec⟩:∃ n,p0+l1=n:=⟨_,rfl⟩
   obtain⟨r1,Yb⟩:∃ n,r0+q1=n:=⟨_,rfl⟩
   rw[Ec]at s1 s2;rw[Yb]at s2;have B1:IntKind.u64.wrap ((p0:Int)+(l1:Int))=(r0:Int):=by rw[← Int.natCast_add,Ec];exact xd _ s1
   have B2:IntKind.u64.wrap ((r0:Int)+(q1:Int))=(r1:Int):=by rw[← Int.natCast_add,Yb];exact xd _ (by omega)
   have HP:=Hh (And.intro jp eK);have HS:=Hh (And.intro s2 (And.intro s3 s4));clear s1 s2 s3 s4 jp eK ap Ss sz fR Ec Yb;go_upto_region 9 with fail
   refine zr 12 (fun wx=>wx.cell? ⟨w.heap.size,i,none⟩=some (.int .u64 (xi:Int))∧wx.cell? ⟨w.heap.size+1,j,none⟩=some (.int .u64 (yj:Int))) (by kernel_rfl) (⟨cx,cy⟩) (fun zy=>?_)
   refine TkS 0 rfl zy ?_
   refine TkS 1 rfl zy ?_
   refine TkS 2 rfl zy ?_
   refine TkS 3 rfl zy ?_
   refine TkS 4 rfl zy ?_
   refine TkS 5 rfl zy ?_
   refine To 6 rfl fun K hK=>?_
   go_simp
   refine(M.out _).mono ?_
   rintro e w5 ⟨rfl,rfl⟩
   rw[HP.out.1,HP.out.2];clear zy
   refine hK.out _ _ (fun _=>?_) (fun zy=>?_)
   ·exact⟨cx,cy⟩
   clear hK K;replace zy:=zy (by decide)
   try simp only[Act.put,zz1,zz2,zz3,zz4,zz5,zz6]
   refine TkS 7 rfl zy ?_
   refine TkS 8 rfl zy ?_
   refine TkS 9 rfl zy ?_
   refine TkS 10 rfl zy ?_
   refine TkS 11 rfl zy ?_
   refine Wd ?_
   clear zy;go_wp2_with (with_reducible refine zx ?_)
   refine zw rfl _ _ _ rfl rfl (w.heap.size+1+1+1) k (.int .u64 (q0:Int)) rfl rfl _ _ hZ uN (by rw[ux,H5.out.2.1];omega) rfl fun w9 hZ9 xt=>?_
   rw[rA]at hZ9;have sm:=hX.drew.grown xt (by intro hc;injection hc;omega);have PP:=hY.drew.grown xt (by intro hc;injection hc;omega);have Oh:=hR.drew.grown xt (by intro hc;injection hc;omega);have oV:=hb.drew.grown xt hb.size (by rintro q ⟨⟩;omega);have hq:q0<18446744073709551616:=by rw[HS.out.2.1];exact Nat.mod_lt _ (by decide)
   have hr:r1<18446744073709551616:=by rw[HS.out.1];exact HS.out.2.2
   have HN:Hid ((zt.set k q0).length=4∧W64 (zt.set k q0)∧(zt.set k q0).take (k+1)++wM (yD x i) (y.drop (j+1)) ((zt.set k q0).drop (k+1)) r1=zs.take i++wM (yD x i) y (zs.drop i) 0):=by
    obtain⟨e1,e2,e3,e4,e5,e6,e7⟩:=H5.out
    refine⟨by rw[List.length_set];exact e2,e3.set k hq, ?_⟩
    rw[← e4,e1,HS.out.1,HS.out.2.1,← e5,← e6,← e7]
    exact ZI (by omega) (by have:=HL.out;omega)
   have HR:=Hh hr;clear xt hX hY hR hb hZ cx cy cz A1 A2 hq hr M HS;go_wp2_with fail
   go_roundw
   case rel=>exact⟨j+1,r1,zt.set k q0,by go_num,rfl,HR.out,by have:=H5.out.1;omega,HN.out.1,HN.out.2.1,by rw[show i+(j+1)=k+1 by have:=H5.out.1;omega];exact HN.out.2.2,hZ9,sm,PP,Oh,oV⟩
   case measure=>have:=H5.out.1;simp[intOf];omega
  have hE:i+j=4:=by omega
  have Ba:zt=zs.take i++wM (yD x i) y (zs.drop i) 0:=by
   rw[← hQ,hE,List.take_of_length_le (l:=zt) (by omega),List.drop_of_length_le (l:=zt) (by omega),XD,List.append_nil]
  have HQ:=Hh ((ZJ (by have:=HL.out;have:=HI.out;omega) (by have:=HZ.out.1;have:=HI.out;omega) (by have:=HL.out;omega) Ba).trans HZ.out.2.2);have FF:=Hh (And.intro Sd mO);clear Ba hE Sd mO hQ hk;go_wp2_with fail
  go_roundw
  case rel=>exact⟨i+1,zt,by go_num,by have:=HI.out;omega,FF.out.1,FF.out.2,HQ.out,hZ,hX,hY,hR,hb⟩
  case measure=>have:=HI.out;simp[intOf];omega
 obtain rfl:i=4:=by omega
 rw[show((4:Nat):Int)=4 from rfl]at z9⊢
 have Mx:zs=xm x y [0,0,0,0]:=by
  obtain⟨e1,e2,e3⟩:=HZ.out;have:=HL.out;rw[← e3,List.take_of_length_le (l:=zs) (by omega),List.drop_of_length_le (l:=x) (by omega),List.drop_of_length_le (l:=zs) (by omega),Yt,List.append_nil]
 have HZS:=Hh Mx;obtain⟨z0,z1,z2,z3,jI⟩:∃ a b c d,zs=[a,b,c,d]:=qJ HZ.out.1;have FE:=Hh jI;rw[jI]at hZ;clear Mx jI;have c0:wr.cell? ⟨w.heap.size+1+1+1,0,none⟩=some (.int .u64 (z0:Int)):=hZ.cell 0 rfl;have c1:wr.cell? ⟨w.heap.size+1+1+1,1,none⟩=some (.int .u64 (z1:Int)):=hZ.cell 1 rfl;have c2:wr.cell? ⟨w.heap.size+1+1+1,2,none⟩=some (.int .u64 (z2:Int)):=hZ.cell 2 rfl;have c3:wr.cell? ⟨w.heap.size+1+1+1,3,none⟩=some (.int .u64 (z3:Int)):=hZ.cell 3 rfl;go_wp2_with (with_reducible refine zx ?_)
 refine zm rfl _ _ _ rfl rfl (w.heap.size+1+1) (zS [z0,z1,z2,z3]) rfl rfl _ _ hR wZ rfl (wj _) fun wz kV hgz=>?_
 have rM:=jhs;clear c0 c1 c2 c3;go_wp2_with fail
 refine xU rfl rfl kV rfl rfl wZ rfl ?_
 exact⟨by rw[← FE.out,HZS.out],rM⟩
end Go.Proofs.YtkmlnjociijpgaaGreatDoor
