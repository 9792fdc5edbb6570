/- squeezed. SHA-256: numbers of four words: th -/
import Derived.Test.YtnfoilblmhbobaaGreatDoorK11
import Derived.Deep.Cut
set_option linter.unusedVariables false
set_option linter.unusedSimpArgs false
set_option maxRecDepth 100000
set_option maxHeartbeats 3200000
namespace Go.Proofs.YtnfoilblmhbobaaGreatDoor
open Go.RowKit
def zh (l:List Nat):Array Value:=(l.map fun n:Nat=>Value.int .u64 (n:Int)).toArray
theorem xq (l:List Nat):(zh l).size=l.length:=by simp[zh]
theorem xB (l:List Nat) (i:Nat) (h:i<l.length):(zh l)[i]? = some (.int .u64 (zF l i:Int)):=by
 simp[zh,zF,h]
theorem vX (l:List Nat) (i n:Nat):(zh l).setIfInBounds i (.int .u64 (n:Int))=zh (l.set i n):=by
 simp[zh,List.map_set]
theorem ya (l:List Nat):(zh l).all (·.oneCell')=true:=by simp[zh,Value.oneCell']
theorem tp (x y:Nat) (w:World):(callFunc 110 #[.int .u64 (x:Int),.int .u64 (y:Int),.int .u64 0]).run Tryz.prog w =
  .ok (.value (.tuple #[.int .u64 (((x+y)%18446744073709551616:Nat):Int),.int .u64 (((x+y)/18446744073709551616:Nat):Int)])) w:=gU x y 0 (by omega) w
theorem yW:(Tryz.prog.info? 145).map (·.size)=some 4:=by kernel_rfl
theorem xd:(Tryz.prog.info? 70).map (·.size)=some 1:=by kernel_rfl
theorem gg {x y:List Nat}(hx:x.length=4) (hy:y.length=4) (n7:W64 x) (hyw:W64 y) (w:World) :
  Calls Tryz.prog 108 #[.agg (zh x),.agg (zh y)] w fun e w'=>e=.returned (.agg (zh (zC x y [0,0,0,0])))∧Below w.heap.size w w':=by
 have wS:=Blk.new w 145 (zh x);have i5:=Blk.new (w.alloc (.cells (zh x) 145)) 145 (zh y);have HL:=Hh (And.intro hx hy);have HW:=Hh (And.intro n7 hyw);clear hx hy n7 hyw;have aB:=Blk.new (((w.alloc (.cells (zh x) 145)).alloc (.cells (zh y) 145)).alloc (.cells (zh [0,0,0,0]) 145)) 145 (zh [0,0,0,0]);have rN:=(Blk.new ((w.alloc (.cells (zh x) 145)).alloc (.cells (zh y) 145)) 145 (zh [0,0,0,0])).alloc (.cells (zh [0,0,0,0]) 145);replace wS:=((wS.alloc (.cells (zh y) 145)).alloc (.cells (zh [0,0,0,0]) 145)).alloc (.cells (zh [0,0,0,0]) 145);replace i5:=(i5.alloc (.cells (zh [0,0,0,0]) 145)).alloc (.cells (zh [0,0,0,0]) 145)
 simp only[zY]at i5 rN aB
 have yY:=zb w (.cells (zh x) 145);have zd:=yY.alloc yY.size (.cells (zh y) 145);have zO:=zd.alloc zd.size (.cells (zh [0,0,0,0]) 145);have yV:=zO.alloc zO.size (.cells (zh [0,0,0,0]) 145);clear yY zd zO;go_enter Tryz.func108,Tryz.ntmps108
 go_wp2_with fail
 go_loopw [12] (fun v12 wr=>∃ (i:Nat) (zs:List Nat),v12=.int .i64 (i:Int)∧i≤4∧zs.length=4∧W64 zs∧zs.take i++zC (x.drop i) y (zs.drop i)=zC x y [0,0,0,0]∧
   Blk wr (w.heap.size+1+1+1) 145 (zh zs)∧Blk wr w.heap.size 145 (zh x)∧Blk wr (w.heap.size+1) 145 (zh y)∧Blk wr (w.heap.size+1+1) 145 (zh [0,0,0,0])∧Below w.heap.size w wr) (fun v12 _=>(4-intOf v12).toNat)
 case atStart=>exact⟨0,[0,0,0,0],rfl,by omega,rfl,by simp[W64],rfl,aB,wS,i5,rN,yV⟩
 case round =>
 clear aB wS i5 rN yV;obtain⟨i,zs,rfl,aG,fR,tC,hQ,hZ,hX,hY,hR,hb⟩:=hrel;have HZ:=Hh (And.intro fR (And.intro tC hQ));clear fR tC hQ
 by_cases z6:(i:Int)<4
 ·have HI:=Hh z6;have Y6:IntKind.i64.wrap ((i:Int)+((0:Nat):Int))=(i:Int):=by rw[show(i:Int)+((0:Nat):Int)=(i:Int) by omega];exact IntWalk.i64_in _ (by omega)
  go_wp2_with fail
  go_loopw [7,8] (fun v7 v8 wx=>∃ (j c:Nat) (zt:List Nat),v8=.int .i64 (j:Int)∧v7=.int .u64 (c:Int)∧c<18446744073709551616∧i+j≤4∧zt.length=4∧W64 zt∧zt.take (i+j)++yR (zF x i) (y.drop j) (zt.drop (i+j)) c=zs.take i++yR (zF x i) y (zs.drop i) 0∧
    Blk wx (w.heap.size+1+1+1) 145 (zh zt)∧Blk wx w.heap.size 145 (zh x)∧Blk wx (w.heap.size+1) 145 (zh y)∧Blk wx (w.heap.size+1+1) 145 (zh [0,0,0,0])∧Below w.heap.size w wx) (fun _ v8 _=>(4-(i:Int)-intOf v8).toNat)
  case atStart=>exact⟨0,0,zs,rfl,rfl,by omega,by omega,HZ.out.1,HZ.out.2.1,by simp,hZ,hX,hY,hR,hb⟩
  case round =>
  clear hZ hX hY hR hb;obtain⟨j,c,zt,rfl,rfl,hc,Va,fR,tC,hQ,hZ,hX,hY,hR,hb⟩:=hrel;obtain⟨k,hk⟩:∃ k,i+j=k:=⟨_,rfl⟩
  have Wk:IntKind.i64.wrap ((i:Int)+(j:Int))=(k:Int):=by rw[← hk,Int.natCast_add];exact IntWalk.i64_in _ (by omega)
  by_cases hkt:(k:Int)<4
  ·have cx:=hX.drew.cell i (xB _ _ (by have:=HL.out;omega));have cy:=hY.drew.cell j (xB _ _ (by have:=HL.out;omega));have cz:=hZ.drew.cell k (xB _ _ (by omega));have Ub:(i:Int)<4∧(j:Int)<4:=by omega
   obtain⟨Wa,RB⟩:=Ub;obtain⟨xi,km⟩:∃ n,zF x i=n:=⟨_,rfl⟩
   obtain⟨yj,Wo⟩:∃ n,zF y j=n:=⟨_,rfl⟩
   obtain⟨zk,Wp⟩:∃ n,zF zt k=n:=⟨_,rfl⟩
   have YK:xi<18446744073709551616:=by rw[← km];exact nL HW.out.1 i
   have Yp:yj<18446744073709551616:=by rw[← Wo];exact nL HW.out.2 j
   have UL:zk<18446744073709551616:=by rw[← Wp];exact nL tC k
   rw[km]at cx;rw[Wo]at cy;rw[Wp]at cz;have M:=Hh (fun w=>j8 xi yj YK Yp w);obtain⟨s1,s2,s3,s4⟩:=dS YK Yp UL hc;have H5:=Hh (And.intro hk (And.intro fR (And.intro tC (And.intro hQ (And.intro km (And.intro Wo Wp))))));have HC:=Hh hc;clear hc hk fR tC hQ km Wo Wp YK Yp UL;have A1:=tp (xi*yj%18446744073709551616) c;have A2:=tp zk ((xi*yj%18446744073709551616+c)%18446744073709551616);obtain⟨p0,kv⟩:∃ n,xi*yj/18446744073709551616=n:=⟨_,rfl⟩
   obtain⟨p1,ky⟩:∃ n,xi*yj%18446744073709551616=n:=⟨_,rfl⟩
   rw[kv]at s1 s2;rw[ky]at s1 s2 s3 A1 A2;obtain⟨l0,Yi⟩:∃ n,(p1+c)%18446744073709551616=n:=⟨_,rfl⟩
   obtain⟨l1,aJ⟩:∃ n,(p1+c)/18446744073709551616=n:=⟨_,rfl⟩
   rw[Yi]at s2 s3 A1 A2;rw[aJ]at s1 s2 A1;obtain⟨q0,ui⟩:∃ n,(zk+l0)%18446744073709551616=n:=⟨_,rfl⟩
   obtain⟨q1,j5⟩:∃ n,(zk+l0)/18446744073709551616=n:=⟨_,rfl⟩
   rw[ui]at s3 A2;rw[j5]at s2 A2;obtain⟨r0,Vp⟩:∃ n,p0+l1=n:=⟨_,rfl⟩
   obtain⟨r1,cW⟩:∃ n,r0+q1=n:=⟨_,rfl⟩
   rw[Vp]at s1 s2;rw[cW]at s2;have B1:IntKind.u64.wrap ((p0:Int)+(l1:Int))=(r0:Int):=by rw[← Int.natCast_add,Vp];exact yy _ s1
   have B2:IntKind.u64.wrap ((r0:Int)+(q1:Int))=(r1:Int):=by rw[← Int.natCast_add,cW];exact yy _ (by omega)
   have HP:=Hh (And.intro kv ky);have HS:=Hh (And.intro s2 (And.intro s3 s4));clear s1 s2 s3 s4 kv ky Yi aJ ui j5 Vp cW;go_upto_region 9 with fail
   refine zp 12 (fun wx=>wx.cell? ⟨w.heap.size,i,none⟩=some (.int .u64 (xi:Int))∧wx.cell? ⟨w.heap.size+1,j,none⟩=some (.int .u64 (yj:Int))) (by kernel_rfl) (⟨cx,cy⟩) (fun zy=>?_)
   refine TkS 0 rfl zy ?_
   refine TkS 1 rfl zy ?_
   refine TkS 2 rfl zy ?_
   refine TkS 3 rfl zy ?_
   refine TkS 4 rfl zy ?_
   refine TkS 5 rfl zy ?_
   refine To 6 rfl fun K hK=>?_
   go_simp
   refine(M.out _).mono ?_
   rintro e w5 ⟨rfl,rfl⟩
   rw[HP.out.1,HP.out.2];clear zy
   refine hK.out _ _ (fun _=>?_) (fun zy=>?_)
   ·exact⟨cx,cy⟩
   clear hK K;replace zy:=zy (by decide)
   try simp only[Act.put,zz1,zz2,zz3,zz4,zz5,zz6]
   refine TkS 7 rfl zy ?_
   refine TkS 8 rfl zy ?_
   refine TkS 9 rfl zy ?_
   refine TkS 10 rfl zy ?_
   refine TkS 11 rfl zy ?_
   refine Wd ?_
   clear zy;go_wp2_with (with_reducible refine zx ?_)
   refine zv rfl _ _ _ rfl rfl (w.heap.size+1+1+1) k (.int .u64 (q0:Int)) rfl rfl _ _ hZ xd (by rw[xq,H5.out.2.1];omega) rfl fun w9 hZ9 hg9=>?_
   rw[vX]at hZ9;have nm:=hX.drew.grown hg9 (by intro hc;injection hc;omega);have cu:=hY.drew.grown hg9 (by intro hc;injection hc;omega);have vP:=hR.drew.grown hg9 (by intro hc;injection hc;omega);have rB:=hb.drew.grown hg9 hb.size (by rintro q ⟨⟩;omega);have hq:q0<18446744073709551616:=by rw[HS.out.2.1];exact Nat.mod_lt _ (by decide)
   have hr:r1<18446744073709551616:=by rw[HS.out.1];exact HS.out.2.2
   have HN:Hid ((zt.set k q0).length=4∧W64 (zt.set k q0)∧(zt.set k q0).take (k+1)++yR (zF x i) (y.drop (j+1)) ((zt.set k q0).drop (k+1)) r1=zs.take i++yR (zF x i) y (zs.drop i) 0):=by
    obtain⟨e1,e2,e3,e4,e5,e6,e7⟩:=H5.out
    refine⟨by rw[List.length_set];exact e2,e3.set k hq, ?_⟩
    rw[← e4,e1,HS.out.1,HS.out.2.1,← e5,← e6,← e7]
    exact lf (by omega) (by have:=HL.out;omega)
   have HR:=Hh hr;clear hg9 hX hY hR hb hZ cx cy cz A1 A2 hq hr M HS;go_wp2_with fail
   go_roundw
   case rel=>exact⟨j+1,r1,zt.set k q0,by go_num,rfl,HR.out,by have:=H5.out.1;omega,HN.out.1,HN.out.2.1,by rw[show i+(j+1)=k+1 by have:=H5.out.1;omega];exact HN.out.2.2,hZ9,nm,cu,vP,rB⟩
   case measure=>have:=H5.out.1;simp[intOf];omega
  have hE:i+j=4:=by omega
  have UM:zt=zs.take i++yR (zF x i) y (zs.drop i) 0:=by
   rw[← hQ,hE,List.take_of_length_le (l:=zt) (by omega),List.drop_of_length_le (l:=zt) (by omega),jQ,List.append_nil]
  have HQ:=Hh ((lh (by have:=HL.out;have:=HI.out;omega) (by have:=HZ.out.1;have:=HI.out;omega) (by have:=HL.out;omega) UM).trans HZ.out.2.2);have Tg:=Hh (And.intro fR tC);clear UM hE fR tC hQ hk;go_wp2_with fail
  go_roundw
  case rel=>exact⟨i+1,zt,by go_num,by have:=HI.out;omega,Tg.out.1,Tg.out.2,HQ.out,hZ,hX,hY,hR,hb⟩
  case measure=>have:=HI.out;simp[intOf];omega
 obtain rfl:i=4:=by omega
 rw[show((4:Nat):Int)=4 from rfl]at z6⊢
 have dE:zs=zC x y [0,0,0,0]:=by
  obtain⟨e1,e2,e3⟩:=HZ.out;have:=HL.out;rw[← e3,List.take_of_length_le (l:=zs) (by omega),List.drop_of_length_le (l:=x) (by omega),List.drop_of_length_le (l:=zs) (by omega),lL,List.append_nil]
 have S6:=Hh dE;obtain⟨z0,z1,z2,z3,rD⟩:∃ a b c d,zs=[a,b,c,d]:=uv HZ.out.1;have WI:=Hh rD;rw[rD]at hZ;clear dE rD;have c0:wr.cell? ⟨w.heap.size+1+1+1,0,none⟩=some (.int .u64 (z0:Int)):=hZ.cell 0 rfl;have c1:wr.cell? ⟨w.heap.size+1+1+1,1,none⟩=some (.int .u64 (z1:Int)):=hZ.cell 1 rfl;have c2:wr.cell? ⟨w.heap.size+1+1+1,2,none⟩=some (.int .u64 (z2:Int)):=hZ.cell 2 rfl;have c3:wr.cell? ⟨w.heap.size+1+1+1,3,none⟩=some (.int .u64 (z3:Int)):=hZ.cell 3 rfl;go_wp2_with (with_reducible refine zx ?_)
 refine zr rfl _ _ _ rfl rfl (w.heap.size+1+1) (zh [z0,z1,z2,z3]) rfl rfl _ _ hR yW rfl (ya _) fun wz hRz hgz=>?_
 have vQ:=hb.grown hgz hb.size (by rintro q ⟨⟩;omega);clear c0 c1 c2 c3;go_wp2_with fail
 refine wd rfl rfl hRz rfl rfl yW rfl ?_
 exact⟨by rw[← WI.out,S6.out],vQ⟩
end Go.Proofs.YtnfoilblmhbobaaGreatDoor
