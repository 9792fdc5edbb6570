/- squeezed. SHA-256: numbers of four words: th -/
import Derived.Test.YtliomcphdnppnaaGreatDoorK14
import Derived.Deep.Cut
set_option linter.unusedVariables false
set_option linter.unusedSimpArgs false
set_option maxRecDepth 100000
set_option maxHeartbeats 3200000
namespace Go.Proofs.YtliomcphdnppnaaGreatDoor
open Go.RowKit
theorem jgu{P:Prop}(h:P:=by have xo:=zo w (.cells (zO x) 211);have zB:=xo.alloc xo.size (.cells (zO y) 211);exact And.intro xo zB):P:=h
theorem jgC{P:Prop}(h:P:=by have yz:=hb.grown yS hb.size (by rintro q ⟨⟩;omega);exact yz):P:=h
def zO (l:List Nat):Array Value:=(l.map fun n:Nat=>Value.int .u64 (n:Int)).toArray
theorem uO (l:List Nat):(zO l).size=l.length:=by simp[zO]
theorem sF (l:List Nat) (i:Nat) (h:i<l.length):(zO l)[i]? = some (.int .u64 (xQ l i:Int)):=by
 simp[zO,xQ,h]
theorem q8 (l:List Nat) (i n:Nat):(zO l).setIfInBounds i (.int .u64 (n:Int))=zO (l.set i n):=by
 simp[zO,List.map_set]
theorem vz (l:List Nat):(zO l).all (·.oneCell')=true:=by simp[zO,Value.oneCell']
theorem m9 (x y:Nat) (w:World):(callFunc 199 #[.int .u64 (x:Int),.int .u64 (y:Int),.int .u64 0]).run Tryz.prog w =
  .ok (.value (.tuple #[.int .u64 (((x+y)%18446744073709551616:Nat):Int),.int .u64 (((x+y)/18446744073709551616:Nat):Int)])) w:=Rx x y 0 (by omega) w
theorem vt:(Tryz.prog.info? 211).map (·.size)=some 4:=by kernel_rfl
theorem tm:(Tryz.prog.info? 22).map (·.size)=some 1:=by kernel_rfl
theorem SN {x y:List Nat}(hx:x.length=4) (hy:y.length=4) (UJ:W64 x) (hyw:W64 y) (w:World) :
  Calls Tryz.prog 197 #[.agg (zO x),.agg (zO y)] w fun e w'=>e=.returned (.agg (zO (xG x y [0,0,0,0])))∧Below w.heap.size w w':=by
 have nL:=Blk.new w 211 (zO x);have T6:=Blk.new (w.alloc (.cells (zO x) 211)) 211 (zO y);have HL:=Hh (And.intro hx hy);have HW:=Hh (And.intro UJ hyw);clear hx hy UJ hyw;have IX:=Blk.new (((w.alloc (.cells (zO x) 211)).alloc (.cells (zO y) 211)).alloc (.cells (zO [0,0,0,0]) 211)) 211 (zO [0,0,0,0]);have gk:=(Blk.new ((w.alloc (.cells (zO x) 211)).alloc (.cells (zO y) 211)) 211 (zO [0,0,0,0])).alloc (.cells (zO [0,0,0,0]) 211);replace nL:=((nL.alloc (.cells (zO y) 211)).alloc (.cells (zO [0,0,0,0]) 211)).alloc (.cells (zO [0,0,0,0]) 211);replace T6:=(T6.alloc (.cells (zO [0,0,0,0]) 211)).alloc (.cells (zO [0,0,0,0]) 211)
 simp only[zr]at T6 gk IX
 obtain⟨xo,zB⟩:=jgu;have zG:=zB.alloc zB.size (.cells (zO [0,0,0,0]) 211);have xj:=zG.alloc zG.size (.cells (zO [0,0,0,0]) 211);clear xo zB zG;go_enter Tryz.func197,Tryz.ntmps197
 go_wp2_with fail
 go_loopw [12] (fun v12 wr=>∃ (i:Nat) (zs:List Nat),v12=.int .i64 (i:Int)∧i≤4∧zs.length=4∧W64 zs∧zs.take i++xG (x.drop i) y (zs.drop i)=xG x y [0,0,0,0]∧
   Blk wr (w.heap.size+1+1+1) 211 (zO zs)∧Blk wr w.heap.size 211 (zO x)∧Blk wr (w.heap.size+1) 211 (zO y)∧Blk wr (w.heap.size+1+1) 211 (zO [0,0,0,0])∧Below w.heap.size w wr) (fun v12 _=>(4-intOf v12).toNat)
 case atStart=>exact⟨0,[0,0,0,0],rfl,by omega,rfl,by simp[W64],rfl,IX,nL,T6,gk,xj⟩
 case round =>
 clear IX nL T6 gk xj;obtain⟨i,zs,rfl,rm,TO,kj,hQ,hZ,hX,hY,hR,hb⟩:=hrel;have HZ:=Hh (And.intro TO (And.intro kj hQ));clear TO kj hQ
 by_cases yu:(i:Int)<4
 ·have HI:=Hh yu;have oF:IntKind.i64.wrap ((i:Int)+((0:Nat):Int))=(i:Int):=by rw[show(i:Int)+((0:Nat):Int)=(i:Int) by omega];exact IntWalk.i64_in _ (by omega)
  go_wp2_with fail
  go_loopw [7,8] (fun v7 v8 wx=>∃ (j c:Nat) (zt:List Nat),v8=.int .i64 (j:Int)∧v7=.int .u64 (c:Int)∧c<18446744073709551616∧i+j≤4∧zt.length=4∧W64 zt∧zt.take (i+j)++va (xQ x i) (y.drop j) (zt.drop (i+j)) c=zs.take i++va (xQ x i) y (zs.drop i) 0∧
    Blk wx (w.heap.size+1+1+1) 211 (zO zt)∧Blk wx w.heap.size 211 (zO x)∧Blk wx (w.heap.size+1) 211 (zO y)∧Blk wx (w.heap.size+1+1) 211 (zO [0,0,0,0])∧Below w.heap.size w wx) (fun _ v8 _=>(4-(i:Int)-intOf v8).toNat)
  case atStart=>exact⟨0,0,zs,rfl,rfl,by omega,by omega,HZ.out.1,HZ.out.2.1,by simp,hZ,hX,hY,hR,hb⟩
  case round =>
  clear hZ hX hY hR hb;obtain⟨j,c,zt,rfl,rfl,hc,FS,TO,kj,hQ,hZ,hX,hY,hR,hb⟩:=hrel;obtain⟨k,hk⟩:∃ k,i+j=k:=⟨_,rfl⟩
  have Wk:IntKind.i64.wrap ((i:Int)+(j:Int))=(k:Int):=by rw[← hk,Int.natCast_add];exact IntWalk.i64_in _ (by omega)
  by_cases QU:(k:Int)<4
  ·have cx:=hX.drew.cell i (sF _ _ (by have:=HL.out;omega));have cy:=hY.drew.cell j (sF _ _ (by have:=HL.out;omega));have cz:=hZ.drew.cell k (sF _ _ (by omega));have zA2:(i:Int)<4∧(j:Int)<4:=by omega
   obtain⟨Ap,hjj⟩:=zA2;obtain⟨xi,rD⟩:∃ n,xQ x i=n:=⟨_,rfl⟩
   obtain⟨yj,BF⟩:∃ n,xQ y j=n:=⟨_,rfl⟩
   obtain⟨zk,BG⟩:∃ n,xQ zt k=n:=⟨_,rfl⟩
   have Eb:xi<18446744073709551616:=by rw[← rD];exact Zu HW.out.1 i
   have hyb:yj<18446744073709551616:=by rw[← BF];exact Zu HW.out.2 j
   have hzb:zk<18446744073709551616:=by rw[← BG];exact Zu kj k
   rw[rD]at cx;rw[BF]at cy;rw[BG]at cz;have M:=Hh (fun w=>UN xi yj Eb hyb w);obtain⟨s1,s2,s3,s4⟩:=NZ Eb hyb hzb hc;have H5:=Hh (And.intro hk (And.intro TO (And.intro kj (And.intro hQ (And.intro rD (And.intro BF BG))))));have HC:=Hh hc;clear hc hk TO kj hQ rD BF BG Eb hyb hzb;have A1:=m9 (xi*yj%18446744073709551616) c;have A2:=m9 zk ((xi*yj%18446744073709551616+c)%18446744073709551616);obtain⟨p0,ZS⟩:∃ n,xi*yj/18446744073709551616=n:=⟨_,rfl⟩
   obtain⟨p1,dI⟩:∃ n,xi*yj%18446744073709551616=n:=⟨_,rfl⟩
   rw[ZS]at s1 s2;rw[dI]at s1 s2 s3 A1 A2;obtain⟨l0,UF⟩:∃ n,(p1+c)%18446744073709551616=n:=⟨_,rfl⟩
   obtain⟨l1,dG⟩:∃ n,(p1+c)/18446744073709551616=n:=⟨_,rfl⟩
   rw[UF]at s2 s3 A1 A2;rw[dG]at s1 s2 A1;obtain⟨q0,oG⟩:∃ n,(zk+l0)%18446744073709551616=n:=⟨_,rfl⟩
   obtain⟨q1,jy⟩:∃ n,(zk+l0)/18446744073709551616=n:=⟨_,rfl⟩
   rw[oG]at s3 A2;rw[jy]at s2 A2;obtain⟨r0,Il⟩:∃ n,p0+l1=n:=⟨_,rfl⟩
   obtain⟨r1,Im⟩:∃ n,r0+q1=n:=⟨_,rfl⟩
   rw[Il]at s1 s2;rw[Im]at s2;have B1:IntKind.u64.wrap ((p0:Int)+(l1:Int))=(r0:Int):=by rw[← Int.natCast_add,Il];exact wu _ s1
   have B2:IntKind.u64.wrap ((r0:Int)+(q1:Int))=(r1:Int):=by rw[← Int.natCast_add,Im];exact wu _ (by omega)
   have HP:=Hh (And.intro ZS dI);have HS:=Hh (And.intro s2 (And.intro s3 s4));clear s1 s2 s3 s4 ZS dI UF dG oG jy Il Im;go_upto_region 9 with fail
   refine zw 12 (fun wx=>wx.cell? ⟨w.heap.size,i,none⟩=some (.int .u64 (xi:Int))∧wx.cell? ⟨w.heap.size+1,j,none⟩=some (.int .u64 (yj:Int))) (by kernel_rfl) (⟨cx,cy⟩) (fun zy=>?_)
   refine TkS 0 rfl zy ?_
   refine TkS 1 rfl zy ?_
   refine TkS 2 rfl zy ?_
   refine TkS 3 rfl zy ?_
   refine TkS 4 rfl zy ?_
   refine TkS 5 rfl zy ?_
   refine To 6 rfl fun K hK=>?_
   go_simp
   refine(M.out _).mono ?_
   rintro e w5 ⟨rfl,rfl⟩
   rw[HP.out.1,HP.out.2];clear zy
   refine hK.out _ _ (fun _=>?_) (fun zy=>?_)
   ·exact⟨cx,cy⟩
   clear hK K;replace zy:=zy (by decide)
   try simp only[Act.put,zz1,zz2,zz3,zz4,zz5,zz6]
   refine TkS 7 rfl zy ?_
   refine TkS 8 rfl zy ?_
   refine TkS 9 rfl zy ?_
   refine TkS 10 rfl zy ?_
   refine TkS 11 rfl zy ?_
   refine Wd ?_
   clear zy;go_wp2_with (with_reducible refine zx ?_)
   refine zj rfl _ _ _ rfl rfl (w.heap.size+1+1+1) k (.int .u64 (q0:Int)) rfl rfl _ _ hZ tm (by rw[uO,H5.out.2.1];omega) rfl fun w9 hZ9 xR=>?_
   rw[q8]at hZ9;have im:=hX.drew.grown xR (by intro hc;injection hc;omega);have Md:=hY.drew.grown xR (by intro hc;injection hc;omega);have Wa:=hR.drew.grown xR (by intro hc;injection hc;omega);have mg:=hb.drew.grown xR hb.size (by rintro q ⟨⟩;omega);have hq:q0<18446744073709551616:=by rw[HS.out.2.1];exact Nat.mod_lt _ (by decide)
   have hr:r1<18446744073709551616:=by rw[HS.out.1];exact HS.out.2.2
   have HN:Hid ((zt.set k q0).length=4∧W64 (zt.set k q0)∧(zt.set k q0).take (k+1)++va (xQ x i) (y.drop (j+1)) ((zt.set k q0).drop (k+1)) r1=zs.take i++va (xQ x i) y (zs.drop i) 0):=by
    obtain⟨e1,e2,e3,e4,e5,e6,e7⟩:=H5.out
    refine⟨by rw[List.length_set];exact e2,e3.set k hq, ?_⟩
    rw[← e4,e1,HS.out.1,HS.out.2.1,← e5,← e6,← e7]
    exact Xp (by omega) (by have:=HL.out;omega)
   have HR:=Hh hr;clear xR hX hY hR hb hZ cx cy cz A1 A2 hq hr M HS;go_wp2_with fail
   go_roundw
   case rel=>exact⟨j+1,r1,zt.set k q0,by go_num,rfl,HR.out,by have:=H5.out.1;omega,HN.out.1,HN.out.2.1,by rw[show i+(j+1)=k+1 by have:=H5.out.1;omega];exact HN.out.2.2,hZ9,im,Md,Wa,mg⟩
   case measure=>have:=H5.out.1;simp[intOf];omega
  have hE:i+j=4:=by omega
  have hzt:zt=zs.take i++va (xQ x i) y (zs.drop i) 0:=by
   rw[← hQ,hE,List.take_of_length_le (l:=zt) (by omega),List.drop_of_length_le (l:=zt) (by omega),VF,List.append_nil]
  have HQ:=Hh ((Xq (by have:=HL.out;have:=HI.out;omega) (by have:=HZ.out.1;have:=HI.out;omega) (by have:=HL.out;omega) hzt).trans HZ.out.2.2);have AJ:=Hh (And.intro TO kj);clear hzt hE TO kj hQ hk;go_wp2_with fail
  go_roundw
  case rel=>exact⟨i+1,zt,by go_num,by have:=HI.out;omega,AJ.out.1,AJ.out.2,HQ.out,hZ,hX,hY,hR,hb⟩
  case measure=>have:=HI.out;simp[intOf];omega
 obtain rfl:i=4:=by omega
 rw[show((4:Nat):Int)=4 from rfl]at yu⊢
 have Mn:zs=xG x y [0,0,0,0]:=by
  obtain⟨e1,e2,e3⟩:=HZ.out;have:=HL.out;rw[← e3,List.take_of_length_le (l:=zs) (by omega),List.drop_of_length_le (l:=x) (by omega),List.drop_of_length_le (l:=zs) (by omega),XV,List.append_nil]
 have HZS:=Hh Mn;obtain⟨z0,z1,z2,z3,gL⟩:∃ a b c d,zs=[a,b,c,d]:=pC HZ.out.1;have AI:=Hh gL;rw[gL]at hZ;clear Mn gL;have c0:wr.cell? ⟨w.heap.size+1+1+1,0,none⟩=some (.int .u64 (z0:Int)):=hZ.cell 0 rfl;have c1:wr.cell? ⟨w.heap.size+1+1+1,1,none⟩=some (.int .u64 (z1:Int)):=hZ.cell 1 rfl;have c2:wr.cell? ⟨w.heap.size+1+1+1,2,none⟩=some (.int .u64 (z2:Int)):=hZ.cell 2 rfl;have c3:wr.cell? ⟨w.heap.size+1+1+1,3,none⟩=some (.int .u64 (z3:Int)):=hZ.cell 3 rfl;go_wp2_with (with_reducible refine zx ?_)
 refine zv rfl _ _ _ rfl rfl (w.heap.size+1+1) (zO [z0,z1,z2,z3]) rfl rfl _ _ hR vt rfl (vz _) fun wz hRz yS=>?_
 have yz:=jgC;clear c0 c1 c2 c3;go_wp2_with fail
 refine zF rfl rfl hRz rfl rfl vt rfl ?_
 exact⟨by rw[← AI.out,HZS.out],yz⟩
end Go.Proofs.YtliomcphdnppnaaGreatDoor
