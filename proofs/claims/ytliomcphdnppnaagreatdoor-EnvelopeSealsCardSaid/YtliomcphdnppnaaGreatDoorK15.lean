/- squeezed. Walks: the references' validity of -/
import Derived.Test.YtliomcphdnppnaaGreatDoorK14
set_option linter.unusedVariables false
set_option linter.unusedSimpArgs false
set_option maxRecDepth 100000
set_option maxHeartbeats 25600000
namespace Go.Proofs.YtliomcphdnppnaaGreatDoor
open Go.RowKit
theorem jG (m l:List Itm) (k:Nat) (hk:k+1<l.length):yi m (l.drop k)=(vz l[k]&&wu l[k] l[k+1] m&&yi m (l.drop (k+2))):=by
 rw[List.drop_eq_getElem_cons (show k<l.length by omega),List.drop_eq_getElem_cons hk,yi]
theorem cG (p l:List Itm) (k:Nat) (hk:k+1<l.length):uJ p (l.drop k)=(!((atL l[k] p).isSome||yu l[k] (zg 2))&&uJ p (l.drop (k+2))):=by
 rw[List.drop_eq_getElem_cons (show k<l.length by omega),List.drop_eq_getElem_cons hk,uJ]
theorem fz (m l:List Itm) (k:Nat) (hk:l.length≤k):yi m (l.drop k)=true:=by
 rw[List.drop_eq_nil_of_le hk,yi];intro _ _ _ h;cases h
theorem ZR (p l:List Itm) (k:Nat) (hk:l.length≤k):uJ p (l.drop k)=true:=by
 rw[List.drop_eq_nil_of_le hk,uJ];intro _ _ _ h;cases h
theorem eP {H:Snap}(hTab:Tabs H) {p u:Itm}{a b:Ad}(hp:IsItem H a.ba a.bc a.ia a.ic p) (hu:IsItem H b.ba b.bc b.ia b.ic u) (w:World) (hH:Holds w H) :
  Calls Tryz.prog 33 #[.agg (zY p a u b)] w fun e w'=>e=.returned (.bool (yC p u))∧Below w.heap.size w w':=by
 have HP:=Hh hp;have HU:=Hh hu;have hB:=(Blk.new w 28 (zY p a u b)).drew;have hb:=(zq w (.cells (zY p a u b) 28)).drew;have zQ:Holds (w.alloc (.cells (zY p a u b) 28)).drew H:=(hH.alloc _).drew;go_enter Tryz.func33,Tryz.ntmps33
 go_upto_region 1 with fail
 go_cut [3,4] (fun s3 s4 wx=>∃ g1 g2,s3=.pointer (some ⟨g1,0,none⟩)∧s4=.pointer (some ⟨g2,0,none⟩)∧Blk wx g1 26 #[.int .i64 p.kind,.int .u64 p.n,.slice a.ba p.bytes.length a.bc,.slice a.ia p.items.length a.ic]∧
  Blk wx g2 26 #[.int .i64 u.kind,.int .u64 u.n,.slice b.ba u.bytes.length b.bc,.slice b.ia u.items.length b.ic]∧Blk wx w.heap.size 28 (zY p a u b)∧Below w.heap.size w wx)
 case first =>
  refine zw 7 (fun w'=>w'.cell? ⟨w.heap.size,0,none⟩=some (.int .i64 p.kind)∧w'.cell? ⟨w.heap.size,1,none⟩=some (.int .u64 p.n)∧w'.cell? ⟨w.heap.size,2,none⟩=some (.slice a.ba p.bytes.length a.bc)∧w'.cell? ⟨w.heap.size,3,none⟩=some (.slice a.ia p.items.length a.ic)∧w'.cell? ⟨w.heap.size,4,none⟩=some (.int .i64 u.kind)∧w'.cell? ⟨w.heap.size,5,none⟩=some (.int .u64 u.n)∧w'.cell? ⟨w.heap.size,6,none⟩=some (.slice b.ba u.bytes.length b.bc)∧w'.cell? ⟨w.heap.size,7,none⟩=some (.slice b.ia u.items.length b.ic)) (by kernel_rfl) (⟨hB.cell 0 rfl,hB.cell 1 rfl,hB.cell 2 rfl,hB.cell 3 rfl,hB.cell 4 rfl,hB.cell 5 rfl,hB.cell 6 rfl,hB.cell 7 rfl⟩) (fun zy=>?_)
  refine Tk 0 rfl zy ?_
  refine Tk 1 rfl zy ?_
  refine Tk 2 rfl zy ?_
  refine Tk 3 rfl zy ?_
  refine Ways.two (i:=4) (j:=5) rfl rfl (by kernel_rfl) (fun K hK=>?_) (fun K hK=>?_)
  ·go_simp
   have hP:=yT hb 26 #[.int .i64 0,.int .u64 0,.slice none 0 0,.slice none 0 0]
   try simp only[zj,zu]at hP
   have hB:=hB.alloc zW
   try have hQ:=hQ.alloc zW
   have hb:=hb.alloc hb.size zW
   refine Ko hK ?_ fun zy=>?_
   ·exact⟨hB.cell 0 rfl,hB.cell 1 rfl,hB.cell 2 rfl,hB.cell 3 rfl,hB.cell 4 rfl,hB.cell 5 rfl,hB.cell 6 rfl,hB.cell 7 rfl⟩
   clear hK K
   refine To 5 rfl fun K hK=>?_
   go_simp
   have hQ:=yT hb 26 #[.int .i64 0,.int .u64 0,.slice none 0 0,.slice none 0 0]
   try simp only[zj,zu]at hQ
   have hB:=hB.alloc zW
   try have hP:=hP.alloc zW
   have hb:=hb.alloc hb.size zW
   refine Ko hK ?_ fun zy=>?_
   ·exact⟨hB.cell 0 rfl,hB.cell 1 rfl,hB.cell 2 rfl,hB.cell 3 rfl,hB.cell 4 rfl,hB.cell 5 rfl,hB.cell 6 rfl,hB.cell 7 rfl⟩
   clear hK K
   refine To 6 rfl fun K hK=>?_
   rw[if_pos (by rfl)]
   refine zk _ _ _ rfl _ _ rfl rfl _ _ hP zp rfl (uf _ _ _ _ rfl rfl rfl rfl) fun w5 hP yF=>?_
   have hB:=hB.grown yF (by first | (simp;done) | (simp;omega));have hQ:=hQ.grown yF (by first | (simp;done) | (simp;omega));have hb:=hb.grown yF hb.size (by rintro q ⟨⟩;omega)
   refine Ko hK ?_ fun zy=>?_
   ·exact⟨hB.cell 0 rfl,hB.cell 1 rfl,hB.cell 2 rfl,hB.cell 3 rfl,hB.cell 4 rfl,hB.cell 5 rfl,hB.cell 6 rfl,hB.cell 7 rfl⟩
   clear hK K
   refine To 7 rfl fun K hK=>?_
   rw[if_pos (by rfl)]
   refine zk _ _ _ rfl _ _ rfl rfl _ _ hQ zp rfl (uf _ _ _ _ rfl rfl rfl rfl) fun w6 hQ xO=>?_
   have hB:=hB.grown xO (by first | (simp;done) | (simp;omega));have hP:=hP.grown xO (by first | (simp;done) | (simp;omega));have hb:=hb.grown xO hb.size (by rintro q ⟨⟩;omega)
   refine Kz hK ?_
   clear hK K
   refine Wd ?_
   go_wp2_with fail
   go_meet
   exact⟨_,_,rfl,rfl,hP,hQ,hB,hb⟩
  go_simp
  have hQ:=yT hb 26 #[.int .i64 0,.int .u64 0,.slice none 0 0,.slice none 0 0]
  try simp only[zj,zu]at hQ
  have hB:=hB.alloc zW
  try have hP:=hP.alloc zW
  have hb:=hb.alloc hb.size zW
  refine Ko hK ?_ fun zy=>?_
  ·exact⟨hB.cell 0 rfl,hB.cell 1 rfl,hB.cell 2 rfl,hB.cell 3 rfl,hB.cell 4 rfl,hB.cell 5 rfl,hB.cell 6 rfl,hB.cell 7 rfl⟩
  clear hK K
  refine To 4 rfl fun K hK=>?_
  go_simp
  have hP:=yT hb 26 #[.int .i64 0,.int .u64 0,.slice none 0 0,.slice none 0 0]
  try simp only[zj,zu]at hP
  have hB:=hB.alloc zW
  try have hQ:=hQ.alloc zW
  have hb:=hb.alloc hb.size zW
  refine Ko hK ?_ fun zy=>?_
  ·exact⟨hB.cell 0 rfl,hB.cell 1 rfl,hB.cell 2 rfl,hB.cell 3 rfl,hB.cell 4 rfl,hB.cell 5 rfl,hB.cell 6 rfl,hB.cell 7 rfl⟩
  clear hK K
  refine To 6 rfl fun K hK=>?_
  rw[if_pos (by rfl)]
  refine zk _ _ _ rfl _ _ rfl rfl _ _ hP zp rfl (uf _ _ _ _ rfl rfl rfl rfl) fun w5 hP yF=>?_
  have hB:=hB.grown yF (by first | (simp;done) | (simp;omega));have hQ:=hQ.grown yF (by first | (simp;done) | (simp;omega));have hb:=hb.grown yF hb.size (by rintro q ⟨⟩;omega)
  refine Ko hK ?_ fun zy=>?_
  ·exact⟨hB.cell 0 rfl,hB.cell 1 rfl,hB.cell 2 rfl,hB.cell 3 rfl,hB.cell 4 rfl,hB.cell 5 rfl,hB.cell 6 rfl,hB.cell 7 rfl⟩
  clear hK K
  refine To 7 rfl fun K hK=>?_
  rw[if_pos (by rfl)]
  refine zk _ _ _ rfl _ _ rfl rfl _ _ hQ zp rfl (uf _ _ _ _ rfl rfl rfl rfl) fun w6 hQ xO=>?_
  have hB:=hB.grown xO (by first | (simp;done) | (simp;omega));have hP:=hP.grown xO (by first | (simp;done) | (simp;omega));have hb:=hb.grown xO hb.size (by rintro q ⟨⟩;omega)
  refine Kz hK ?_
  clear hK K
  refine Wd ?_
  go_wp2_with fail
  go_meet
  exact⟨_,_,rfl,rfl,hP,hQ,hB,hb⟩
 case rest =>
 clear hB hb zQ;obtain⟨g1,g2,rfl,rfl,hP,hQ,hB,hb⟩:=hcut;have VP:=Hh (fun(w1:World) (h:Holds w1 H)=>tm hTab HP.out.arg w1 h);have VU:=Hh (fun(w1:World) (h:Holds w1 H)=>tm hTab HU.out.arg w1 h);have a0:=hP.cell 0 rfl;have a1:=hP.cell 1 rfl;have a2:=hP.cell 2 rfl;have a3:=hP.cell 3 rfl;have d0:=hQ.cell 0 rfl;have d1:=hQ.cell 1 rfl;have d2:=hQ.cell 2 rfl;have d3:=hQ.cell 3 rfl;clear hp hu
 by_cases h1:p.kind=5
 case neg =>
  have E:Hid (yC p u=false):=by rw[Hid,yC];simp[h1]
  have b1:(p.kind != 5)=true:=by simp[h1]
  have p1:(p.kind=5)=False:=eq_false h1;clear h1;go_wp2_with fail
  go_ret
  exact⟨by rw[E.out];rfl,hb⟩
 by_cases h2:u.kind=5
 case neg =>
  have E:Hid (yC p u=false):=by rw[Hid,yC];simp[h2]
  have b1:(p.kind != 5)=false:=by simp[h1]
  have p1:(p.kind=5)=True:=eq_true h1;have b2:(u.kind != 5)=true:=by simp[h2]
  have p2:(u.kind=5)=False:=eq_false h2;clear h1 h2;go_wp2_with fail
  go_ret
  exact⟨by rw[E.out];rfl,hb⟩
 have b1:(p.kind != 5)=false:=by simp[h1]
 have p1:(p.kind=5)=True:=eq_true h1;have b2:(u.kind != 5)=false:=by simp[h2]
 have p2:(u.kind=5)=True:=eq_true h2;have Pw:=Hh h1;have aF:=Hh h2;clear h1 h2
 cases aU:zX p with
 | false =>
  have E:Hid (yC p u=false):=by rw[Hid,yC];simp[aU]
  rw[aU]at VP;clear aU;go_wp2_with fail
  refine(VP.out _ (hH.below hb (Nat.le_refl _))).mono ?_
  rintro e w1 ⟨rfl,zH⟩
  have zJ:=hb.trans (zH.mono hb.size);go_wp2_with fail
  go_ret
  exact⟨by rw[E.out];rfl,zJ⟩
 | true =>
 rw[aU]at VP;have VT:=Hh aU;clear aU;go_wp2_with fail
 refine(VP.out _ (hH.below hb (Nat.le_refl _))).mono ?_
 rintro e w1 ⟨rfl,zH⟩
 have hP:=hP.below zH;have hQ:=hQ.below zH;have hB:=hB.below zH;have hb:=hb.trans (zH.mono hb.size);have a0:=hP.cell 0 rfl;have a1:=hP.cell 1 rfl;have a2:=hP.cell 2 rfl;have a3:=hP.cell 3 rfl;have d0:=hQ.cell 0 rfl;have d1:=hQ.cell 1 rfl;have d2:=hQ.cell 2 rfl;have d3:=hQ.cell 3 rfl;clear zH
 cases tG:zX u with
 | false =>
  have E:Hid (yC p u=false):=by rw[Hid,yC];simp[tG]
  rw[tG]at VU;clear tG;go_wp2_with fail
  refine(VU.out _ (hH.below hb (Nat.le_refl _))).mono ?_
  rintro e w2 ⟨rfl,zG⟩
  have zJ:=hb.trans (zG.mono hb.size);go_wp2_with fail
  go_ret
  exact⟨by rw[E.out];rfl,zJ⟩
 | true =>
 rw[tG]at VU;have Ym:=Hh tG
 have E:Hid (yC p u=(yi p.items p.items&&yi u.items u.items&&uJ p.items u.items&&(!(xQ p u 5).isSome || !(xQ p u 6).isSome))):=by
  rw[Hid,yC,VT.out,tG,Pw.out,aF.out];simp
 have Ec:=Hh (tS VT.out Pw.out);have GR:=Hh (tS tG aF.out);have Px:=Hh (zE VT.out);have Lw:=Hh (zE tG);clear tG;go_wp2_with fail
 refine(VU.out _ (hH.below hb (Nat.le_refl _))).mono ?_
 rintro e w2 ⟨rfl,zG⟩
 have hP:=hP.below zG;have hQ:=hQ.below zG;have hB:=hB.below zG;have hb:=hb.trans (zG.mono hb.size);have a0:=hP.cell 0 rfl;have a1:=hP.cell 1 rfl;have a2:=hP.cell 2 rfl;have a3:=hP.cell 3 rfl;have d0:=hQ.cell 0 rfl;have d1:=hQ.cell 1 rfl;have d2:=hQ.cell 2 rfl;have d3:=hQ.cell 3 rfl;have hI:=Blk.new w2 26 (zY p a u b);have hP:=hP.alloc (.cells (zY p a u b) 26);have hQ:=hQ.alloc (.cells (zY p a u b) 26);have hB:=hB.alloc (.cells (zY p a u b) 26);have hb:=hb.alloc hb.size (.cells (zY p a u b) 26);clear zG;go_wp2_with fail
 go_loopw [41] (fun v41 wr=>∃ j:Nat,j≤2∧v41=.int .i64 j∧(1≤j→yi p.items p.items=true)∧(2≤j→yi u.items u.items=true)∧Below w.heap.size w wr∧Blk wr w.heap.size 28 (zY p a u b)∧Blk wr g1 26 #[.int .i64 p.kind,.int .u64 p.n,.slice a.ba p.bytes.length a.bc,.slice a.ia p.items.length a.ic]∧Blk wr g2 26 #[.int .i64 u.kind,.int .u64 u.n,.slice b.ba u.bytes.length b.bc,.slice b.ia u.items.length b.ic]∧Blk wr w2.heap.size 26 (zY p a u b)) (fun v41 _=>2-(intOf v41).toNat)
 case atStart=>exact⟨0,by omega,rfl,by omega,by omega,hb,hB,hP,hQ,hI⟩
 case round =>
 obtain⟨j,hj,rfl,Sp,Pj,yS,oe,YU,Sf,aM⟩:=hrel;have Ok:=Hh Sp;have KN:=Hh Pj;clear Sp Pj a0 a1 a2 a3 d0 d1 d2 d3
 by_cases zB:j<2
 ·have hm:∃ (m:Itm) (ma:Option Addr) (mb:Nat) (mc:Option Addr) (md:Nat),(j=0→m=p)∧(j=1→m=u)∧m.items.length%2=0∧Modest m∧IsItem H ma mb mc md m∧wr.cell? ⟨w2.heap.size,j*4,none⟩=some (.int .i64 m.kind)∧wr.cell? ⟨w2.heap.size,j*4+1,none⟩=some (.int .u64 m.n)∧
    wr.cell? ⟨w2.heap.size,j*4+2,none⟩=some (.slice ma m.bytes.length mb)∧wr.cell? ⟨w2.heap.size,j*4+3,none⟩=some (.slice mc m.items.length md):=by
   rcases(by omega:j=0∨j=1) with rfl | rfl
   ·exact⟨p,a.ba,a.bc,a.ia,a.ic,fun _=>rfl,by omega,Ec.out,Px.out,HP.out,aM.cell _ rfl,aM.cell _ rfl,aM.cell _ rfl,aM.cell _ rfl⟩
   exact⟨u,b.ba,b.bc,b.ia,b.ic,by omega,fun _=>rfl,GR.out,Lw.out,HU.out,aM.cell _ rfl,aM.cell _ rfl,aM.cell _ rfl,aM.cell _ rfl⟩
  obtain⟨m,ma,mb,mc,md,ft,pJ,QR,dt,dr,e0,e1,e2,e3⟩:=hm
  have BAD:Hid (yi m.items m.items=false→yC p u=false):=by
   intro h
   rcases(by omega:j=0∨j=1) with rfl | rfl
   ·rw[ft rfl]at h;rw[E.out,h];rfl
   rw[pJ rfl]at h;rw[E.out,h];simp
  have GOOD:Hid (yi m.items m.items=true→(1≤j+1→yi p.items p.items=true)∧(2≤j+1→yi u.items u.items=true)):=by
   intro h
   rcases(by omega:j=0∨j=1) with rfl | rfl
   ·rw[ft rfl]at h;exact⟨fun _=>h,by omega⟩
   rw[pJ rfl]at h;exact⟨fun _=>Ok.out (by omega),fun _=>h⟩
  have GY:=Hh dr;have od:=Hh dt;have Oj:=Hh QR;have Pe:=dt.parts.2.1;have hT:=Blk.new wr 26 #[.int .i64 m.kind,.int .u64 m.n,.slice ma m.bytes.length mb,.slice mc m.items.length md];have yS:=yS.alloc yS.size (zi m ma mb mc md);have oe:=oe.alloc (zi m ma mb mc md);have YU:=YU.alloc (zi m ma mb mc md);have Sf:=Sf.alloc (zi m ma mb mc md);have aM:=aM.alloc (zi m ma mb mc md);clear ft pJ QR dt dr;obtain⟨wo,GF⟩:∃ wo:World,wo=wr:=⟨_,rfl⟩
  subst GF;go_wp2_with fail
  go_loopw [7] (fun v7 wr=>∃ i:Nat,i≤m.items.length∧i%2=0∧v7=.int .i64 i∧yi m.items (m.items.drop i)=yi m.items m.items∧Below w.heap.size w wr∧Blk wr w.heap.size 28 (zY p a u b)∧Blk wr g1 26 #[.int .i64 p.kind,.int .u64 p.n,.slice a.ba p.bytes.length a.bc,.slice a.ia p.items.length a.ic]∧Blk wr g2 26 #[.int .i64 u.kind,.int .u64 u.n,.slice b.ba u.bytes.length b.bc,.slice b.ia u.items.length b.ic]∧Blk wr w2.heap.size 26 (zY p a u b)∧
   Blk wr wo.heap.size 26 #[.int .i64 m.kind,.int .u64 m.n,.slice ma m.bytes.length mb,.slice mc m.items.length md]) (fun v7 _=>m.items.length-(intOf v7).toNat)
  case atStart=>exact⟨0,by omega,rfl,rfl,rfl,yS,oe,YU,Sf,aM,hT⟩
  case round =>
  obtain⟨i,hi,Vp,rfl,hs,mu,ms,Se,TV,Km,Hy⟩:=hrel;have HS:=Hh hs;have gv:=Hh Vp;have f3:=Hy.cell 3 rfl;clear hs Vp yS oe YU Sf aM hT e0 e1 e2 e3
  by_cases hlt2:i<m.items.length
  ·have QR:=Oj.out;have Vp:=gv.out;have dL:i+1<m.items.length:=by omega
   have yD:Holds wr H:=hH.below mu (Nat.le_refl _);obtain⟨ib,io,tf,xI⟩:=GY.out.items (by omega);obtain⟨y1,y2,y3,y4,q0,q1,q2,q3,fr⟩:=xI.get i hlt2;obtain⟨z1,z2,z3,z4,s0,s1,s2,s3,nX⟩:=xI.get (i+1) dL;have vR:=Hh (HS.out.symm.trans (jG m.items m.items i dL));have nY:=od.out.parts.2.2.get i hlt2;have IV:=od.out.parts.2.2.get (i+1) dL;have rN:((i:Int)+1).toNat=i+1:=by omega
   have pI:(i:Int)+1<m.items.length:=by omega
   have rp:(i:Int)<m.items.length:=by omega
   have qK:IntKind.i64.wrap ((i:Int)+1)=(i:Int)+1:=IntWalk.i64_in _ (by omega);have Vo:(0:Int)≤(i:Int)+1:=by omega
   generalize m.items[i]'hlt2=y at *
   generalize m.items[i+1]'dL=z at *
   subst tf;have LB:=Hh (fun w1:World=>cZ fr.arg w1);have VL:=Hh (fun(w1:World) (h:Holds w1 H)=>Zg (a:=⟨y1,y2,y3,y4⟩) (b:=⟨z1,z2,z3,z4⟩) (c:=⟨ma,mb,some ⟨ib,io,none⟩,md⟩) nY IV od.out fr nX GY.out w1 h);have zQ:=yD.drew;have yw:=mu.drew;have vF:=ms.drew;have uC:=Se.drew;have rl:=TV.drew;have MK:=Km.drew;have tL:=Hy.drew;clear xI nY IV fr nX yD ms Se TV Km QR Vp
   cases hlab:vz y with
   | false =>
    rw[hlab]at LB vR;have EN:Hid (yC p u=false):=BAD.out (by rw[vR.out];rfl);clear hlab;go_upto_region 10 with fail
    refine zw 22 (fun w'=>w'.cell? ⟨wo.heap.size,0,none⟩=some (.int .i64 m.kind)∧w'.cell? ⟨wo.heap.size,1,none⟩=some (.int .u64 m.n)∧w'.cell? ⟨wo.heap.size,2,none⟩=some (.slice ma m.bytes.length mb)∧w'.cell? ⟨wo.heap.size,3,none⟩=some (.slice (some ⟨ib,io,none⟩) m.items.length md)∧w'.cell? ⟨ib,io+i*4,none⟩=some (.int .i64 y.kind)∧w'.cell? ⟨ib,io+i*4+1,none⟩=some (.int .u64 y.n)∧w'.cell? ⟨ib,io+i*4+2,none⟩=some (.slice y1 y.bytes.length y2)∧w'.cell? ⟨ib,io+i*4+3,none⟩=some (.slice y3 y.items.length y4)∧w'.cell? ⟨ib,io+(i+1)*4,none⟩=some (.int .i64 z.kind)∧w'.cell? ⟨ib,io+(i+1)*4+1,none⟩=some (.int .u64 z.n)∧w'.cell? ⟨ib,io+(i+1)*4+2,none⟩=some (.slice z1 z.bytes.length z2)∧w'.cell? ⟨ib,io+(i+1)*4+3,none⟩=some (.slice z3 z.items.length z4)) (by kernel_rfl) (⟨tL.cell 0 rfl,tL.cell 1 rfl,tL.cell 2 rfl,tL.cell 3 rfl,zQ.cell q0,zQ.cell q1,zQ.cell q2,zQ.cell q3,zQ.cell s0,zQ.cell s1,zQ.cell s2,zQ.cell s3⟩) (fun zy=>?_)
    refine Tk 0 rfl zy ?_
    refine Tk 1 rfl zy ?_
    refine Tk 2 rfl zy ?_
    refine Tk 3 rfl zy ?_
    refine Tk 4 rfl zy ?_
    refine To 5 rfl fun K hK=>?_
    go_simp
    refine(LB.out _).mono ?_
    rintro e w5 ⟨rfl,yN⟩
    have yw:=yw.trans (yN.mono yw.size);have tL:=tL.below yN;have zQ:=zQ.below yN (Nat.le_refl _)
    refine Ko hK ?_ fun zy=>?_
    ·exact⟨tL.cell 0 rfl,tL.cell 1 rfl,tL.cell 2 rfl,tL.cell 3 rfl,zQ.cell q0,zQ.cell q1,zQ.cell q2,zQ.cell q3,zQ.cell s0,zQ.cell s1,zQ.cell s2,zQ.cell s3⟩
    clear hK K
    refine Tk 6 rfl zy ?_
    refine Tk 7 rfl zy ?_
    refine TkU 8 rfl zy ?_
    refine TkU 9 rfl zy ?_
    refine TkU 10 rfl zy ?_
    refine TkU 11 rfl zy ?_
    refine TkU 12 rfl zy ?_
    refine TkU 13 rfl zy ?_
    refine TkU 14 rfl zy ?_
    refine TkU 15 rfl zy ?_
    refine TkU 16 rfl zy ?_
    refine TkU 17 rfl zy ?_
    refine TkU 18 rfl zy ?_
    refine TkU 19 rfl zy ?_
    refine TkU 20 rfl zy ?_
    refine TkU 21 rfl zy ?_
    refine To 22 rfl fun K hK=>?_
    go_simp
    refine Kz hK ?_
    clear hK K
    refine Wd ?_
    clear zy;go_wp2_with fail
    go_ret
    exact⟨by rw[EN.out];rfl,yw⟩
   | true =>
   rw[hlab]at LB vR;clear hlab;go_upto_region 10 with fail
   refine zw 22 (fun w'=>w'.cell? ⟨wo.heap.size,0,none⟩=some (.int .i64 m.kind)∧w'.cell? ⟨wo.heap.size,1,none⟩=some (.int .u64 m.n)∧w'.cell? ⟨wo.heap.size,2,none⟩=some (.slice ma m.bytes.length mb)∧w'.cell? ⟨wo.heap.size,3,none⟩=some (.slice (some ⟨ib,io,none⟩) m.items.length md)∧w'.cell? ⟨ib,io+i*4,none⟩=some (.int .i64 y.kind)∧w'.cell? ⟨ib,io+i*4+1,none⟩=some (.int .u64 y.n)∧w'.cell? ⟨ib,io+i*4+2,none⟩=some (.slice y1 y.bytes.length y2)∧w'.cell? ⟨ib,io+i*4+3,none⟩=some (.slice y3 y.items.length y4)∧w'.cell? ⟨ib,io+(i+1)*4,none⟩=some (.int .i64 z.kind)∧w'.cell? ⟨ib,io+(i+1)*4+1,none⟩=some (.int .u64 z.n)∧w'.cell? ⟨ib,io+(i+1)*4+2,none⟩=some (.slice z1 z.bytes.length z2)∧w'.cell? ⟨ib,io+(i+1)*4+3,none⟩=some (.slice z3 z.items.length z4)) (by kernel_rfl) (⟨tL.cell 0 rfl,tL.cell 1 rfl,tL.cell 2 rfl,tL.cell 3 rfl,zQ.cell q0,zQ.cell q1,zQ.cell q2,zQ.cell q3,zQ.cell s0,zQ.cell s1,zQ.cell s2,zQ.cell s3⟩) (fun zy=>?_)
   refine Tk 0 rfl zy ?_
   refine Tk 1 rfl zy ?_
   refine Tk 2 rfl zy ?_
   refine Tk 3 rfl zy ?_
   refine Tk 4 rfl zy ?_
   refine To 5 rfl fun K hK=>?_
   go_simp
   refine(LB.out _).mono ?_
   rintro e w5 ⟨rfl,yN⟩
   have yw:=yw.trans (yN.mono yw.size);have tL:=tL.below yN;have vF:=vF.below yN;have uC:=uC.below yN;have rl:=rl.below yN;have MK:=MK.below yN;have zQ:=zQ.below yN (Nat.le_refl _)
   refine Ko hK ?_ fun zy=>?_
   ·exact⟨tL.cell 0 rfl,tL.cell 1 rfl,tL.cell 2 rfl,tL.cell 3 rfl,zQ.cell q0,zQ.cell q1,zQ.cell q2,zQ.cell q3,zQ.cell s0,zQ.cell s1,zQ.cell s2,zQ.cell s3⟩
   clear hK K
   refine Tk 6 rfl zy ?_
   refine Tk 7 rfl zy ?_
   refine TkG 8 rfl zy ?_
   refine TkG 9 rfl zy ?_
   refine TkG 10 rfl zy ?_
   refine TkG 11 rfl zy ?_
   refine TkG 12 rfl zy ?_
   refine TkG 13 rfl zy ?_
   refine TkG 14 rfl zy ?_
   refine TkG 15 rfl zy ?_
   refine TkG 16 rfl zy ?_
   refine TkG 17 rfl zy ?_
   refine TkG 18 rfl zy ?_
   refine TkG 19 rfl zy ?_
   refine To 20 rfl fun K hK=>?_
   go_simp
   refine(VL.out _ zQ).mono ?_
   rintro e w6 ⟨rfl,xT⟩
   have yw:=yw.trans (xT.mono yw.size);have tL:=tL.below xT;have vF:=vF.below xT;have uC:=uC.below xT;have rl:=rl.below xT;have MK:=MK.below xT;have zQ:=zQ.below xT (Nat.le_refl _)
   refine Ko hK ?_ fun zy=>?_
   ·exact⟨tL.cell 0 rfl,tL.cell 1 rfl,tL.cell 2 rfl,tL.cell 3 rfl,zQ.cell q0,zQ.cell q1,zQ.cell q2,zQ.cell q3,zQ.cell s0,zQ.cell s1,zQ.cell s2,zQ.cell s3⟩
   clear hK K
   refine TkG 21 rfl zy ?_
   refine To 22 rfl fun K hK=>?_
   go_simp
   refine Kz hK ?_
   clear hK K
   refine Wd ?_
   clear zy
   cases ue:wu y z m.items with
   | false =>
    rw[ue]at vR;have EN:Hid (yC p u=false):=BAD.out (by rw[vR.out];rfl);clear ue;go_wp2_with fail
    go_ret
    exact⟨by rw[EN.out];rfl,yw⟩
   | true =>
   rw[ue]at vR;have EN:Hid (yi m.items (m.items.drop (i+2))=yi m.items m.items):=by rw[Hid,vR.out];rfl
   have jg:(i+2)%2=0:=by have:=gv.out;omega
   clear ue zQ;go_wp2_with fail
   go_roundw
   case rel=>exact⟨i+2,by omega,jg,by omega,EN.out⟩
   case measure=>simp[intOf];omega
  have EN:=GOOD.out (by rw[← HS.out];exact fz _ _ _ (by omega));have GQ:=Hh EN;clear EN;go_wp2_with fail
  go_roundw
  case rel=>exact⟨j+1,by omega,by go_num,GQ.out.1,GQ.out.2,mu,ms,Se,TV,Km⟩
  case measure=>simp[intOf];omega
 have Fr:¬ (j:Int)<2:=by omega
 have E2:Hid (yC p u=(uJ p.items u.items&&(!(xQ p u 5).isSome || !(xQ p u 6).isSome))):=by
  rw[Hid,E.out,Ok.out (by omega),KN.out (by omega)];rfl
 clear aM;have d3:=Sf.cell 3 rfl;go_wp2_with fail
 go_loopw [8] (fun v8 wr=>∃ i:Nat,i≤u.items.length∧i%2=0∧v8=.int .i64 i∧uJ p.items (u.items.drop i)=uJ p.items u.items∧Below w.heap.size w wr∧Blk wr w.heap.size 28 (zY p a u b)∧Blk wr g1 26 #[.int .i64 p.kind,.int .u64 p.n,.slice a.ba p.bytes.length a.bc,.slice a.ia p.items.length a.ic]∧Blk wr g2 26 #[.int .i64 u.kind,.int .u64 u.n,.slice b.ba u.bytes.length b.bc,.slice b.ia u.items.length b.ic]) (fun v8 _=>u.items.length-(intOf v8).toNat)
 case atStart=>exact⟨0,by omega,rfl,rfl,rfl,yS,oe,YU,Sf⟩
 case round =>
 obtain⟨i,hi,Vp,rfl,hs,mu,ms,Se,TV⟩:=hrel;have HS:=Hh hs;have gv:=Hh Vp;have f3:=TV.cell 3 rfl;have Pe:=Lw.out.parts.2.1;clear hs Vp d3 yS oe YU Sf
 by_cases hlt2:i<u.items.length
 ·have QR:=GR.out;have Vp:=gv.out;have dL:i+1<u.items.length:=by omega
  have yD:Holds wr H:=hH.below mu (Nat.le_refl _);obtain⟨ib,io,tf,xI⟩:=HU.out.items (by omega);obtain⟨y1,y2,y3,y4,q0,q1,q2,q3,fr⟩:=xI.get i hlt2;have vR:=Hh (HS.out.symm.trans (cG p.items u.items i dL));have nY:=Lw.out.parts.2.2.get i hlt2;have rp:(i:Int)<u.items.length:=by omega
  generalize u.items[i]'hlt2=y at *
  have AT:=Hh (fun(w1:World) (h:Holds w1 H)=>dA Px.out nY HP.out.arg fr.arg w1 h);have SM:=Hh (fun(w1:World) (H1:Snap) (hl:H.le H1) (xa:Option Addr) (xb:Nat) (xc:Option Addr) (xd:Nat) (rN:IsItem H1 xa xb xc xd (zg 2)) (h:Holds w1 H1)=>sZ y (zg 2) H1 _ _ y1 _ y2 y3 _ y4 _ _ xa _ xb xc _ xd w1 nY (ua 2) (fr.mono hl).arg rN.arg h);have Ls:=Hh tf;clear tf;have YV:∀ {wq:World},Blk wq g2 26 #[.int .i64 u.kind,.int .u64 u.n,.slice b.ba u.bytes.length b.bc,.slice b.ia u.items.length b.ic]→wq.cell? ⟨g2,3,none⟩=some (.slice (some ⟨ib,io,none⟩) u.items.length b.ic):=fun h=>by rw[h.cell 3 rfl];show some (Value.slice b.ia _ _)=_;rw[Ls.out]
  have zQ:=yD.drew;have yw:=mu.drew;have vF:=ms.drew;have uC:=Se.drew;have rl:=TV.drew;clear xI nY fr QR Vp ms Se TV mu yD;go_upto_region 16 with fail
  clear f3;go_cut [10] (fun s10 wx=>s10=.bool (atL y p.items).isSome∧Below w.heap.size w wx∧Blk wx w.heap.size 28 (zY p a u b)∧Blk wx g1 26 #[.int .i64 p.kind,.int .u64 p.n,.slice a.ba p.bytes.length a.bc,.slice a.ia p.items.length a.ic]∧Blk wx g2 26 #[.int .i64 u.kind,.int .u64 u.n,.slice b.ba u.bytes.length b.bc,.slice b.ia u.items.length b.ic])
  case first =>
   refine zw 12 (fun w'=>w'.cell? ⟨g1,0,none⟩=some (.int .i64 p.kind)∧w'.cell? ⟨g1,1,none⟩=some (.int .u64 p.n)∧w'.cell? ⟨g1,2,none⟩=some (.slice a.ba p.bytes.length a.bc)∧w'.cell? ⟨g1,3,none⟩=some (.slice a.ia p.items.length a.ic)∧w'.cell? ⟨g2,3,none⟩=some (.slice (some ⟨ib,io,none⟩) u.items.length b.ic)∧w'.cell? ⟨ib,io+i*4,none⟩=some (.int .i64 y.kind)∧w'.cell? ⟨ib,io+i*4+1,none⟩=some (.int .u64 y.n)∧w'.cell? ⟨ib,io+i*4+2,none⟩=some (.slice y1 y.bytes.length y2)∧w'.cell? ⟨ib,io+i*4+3,none⟩=some (.slice y3 y.items.length y4)) (by kernel_rfl) (⟨uC.cell 0 rfl,uC.cell 1 rfl,uC.cell 2 rfl,uC.cell 3 rfl,YV rl,zQ.cell q0,zQ.cell q1,zQ.cell q2,zQ.cell q3⟩) (fun zy=>?_)
   refine Tk 0 rfl zy ?_
   refine Tk 1 rfl zy ?_
   refine Tk 2 rfl zy ?_
   refine Tk 3 rfl zy ?_
   refine Tk 4 rfl zy ?_
   refine Tk 5 rfl zy ?_
   refine Ways.two (i:=6) (j:=10) rfl rfl (by kernel_rfl) (fun K hK=>?_) (fun K hK=>?_)
   ·go_simp
    refine(AT.out _ zQ).mono ?_
    rintro e w5 ⟨⟨ra,rb,rc,rd,rfl,_⟩,yN⟩
    have uC:=uC.below yN;have rl:=rl.below yN;have vF:=vF.below yN
    try have hN:=hN.below yN
    have zQ:=zQ.below yN (Nat.le_refl _);have yw:=yw.trans (yN.mono yw.size)
    refine Ko hK ?_ fun zy=>?_
    ·exact⟨uC.cell 0 rfl,uC.cell 1 rfl,uC.cell 2 rfl,uC.cell 3 rfl,YV rl,zQ.cell q0,zQ.cell q1,zQ.cell q2,zQ.cell q3⟩
    clear hK K
    refine Tk 7 rfl zy ?_
    refine Tk 8 rfl zy ?_
    refine Tk 9 rfl zy ?_
    refine To 10 rfl fun K hK=>?_
    go_simp
    have hN:=yT yw 26 #[.int .i64 0,.int .u64 0,.slice none 0 0,.slice none 0 0];have Yt:=uC.lt;have pA:=rl.lt;have LG:=vF.lt;have Pd:=yw.size
    try simp only[zj,zu]at hN Yt pA LG Pd
    have uC:=uC.alloc zW;have rl:=rl.alloc zW;have vF:=vF.alloc zW;have zQ:=zQ.alloc zW;have yw:=yw.alloc yw.size zW
    refine Ko hK ?_ fun zy=>?_
    ·exact⟨uC.cell 0 rfl,uC.cell 1 rfl,uC.cell 2 rfl,uC.cell 3 rfl,YV rl,zQ.cell q0,zQ.cell q1,zQ.cell q2,zQ.cell q3⟩
    clear hK K
    refine To 11 rfl fun K hK=>?_
    rw[if_pos (by rfl)]
    refine zk _ _ _ rfl _ _ rfl rfl _ _ hN zp rfl (uf _ _ _ _ rfl rfl rfl rfl) fun w6 Sa xO=>?_
    have zQ:Holds _ H:=hH.below (yw.grown xO yw.size (by rintro q ⟨⟩;omega)) (Nat.le_refl _);have uC:=uC.grown xO (by first | (simp;done) | (simp;omega));have rl:=rl.grown xO (by first | (simp;done) | (simp;omega));have vF:=vF.grown xO (by first | (simp;done) | (simp;omega));have yw:=yw.grown xO yw.size (by rintro q ⟨⟩;omega)
    refine Ko hK ?_ fun zy=>?_
    ·exact⟨uC.cell 0 rfl,uC.cell 1 rfl,uC.cell 2 rfl,uC.cell 3 rfl,YV rl,zQ.cell q0,zQ.cell q1,zQ.cell q2,zQ.cell q3⟩
    clear hK K
    refine To 12 rfl fun K hK=>?_
    go_simp
    refine Kz hK ?_
    clear hK K
    refine Wd ?_
    go_wp2_with fail
    go_meet
    exact⟨rfl,yw,vF,uC,rl⟩
   go_simp
   have hN:=yT yw 26 #[.int .i64 0,.int .u64 0,.slice none 0 0,.slice none 0 0];have Yt:=uC.lt;have pA:=rl.lt;have LG:=vF.lt;have Pd:=yw.size
   try simp only[zj,zu]at hN Yt pA LG Pd
   have uC:=uC.alloc zW;have rl:=rl.alloc zW;have vF:=vF.alloc zW;have zQ:=zQ.alloc zW;have yw:=yw.alloc yw.size zW
   refine Ko hK ?_ fun zy=>?_
   ·exact⟨uC.cell 0 rfl,uC.cell 1 rfl,uC.cell 2 rfl,uC.cell 3 rfl,YV rl,zQ.cell q0,zQ.cell q1,zQ.cell q2,zQ.cell q3⟩
   clear hK K
   refine To 6 rfl fun K hK=>?_
   go_simp
   refine(AT.out _ zQ).mono ?_
   rintro e w5 ⟨⟨ra,rb,rc,rd,rfl,_⟩,yN⟩
   have uC:=uC.below yN;have rl:=rl.below yN;have vF:=vF.below yN
   try have hN:=hN.below yN
   have zQ:=zQ.below yN (Nat.le_refl _);have yw:=yw.trans (yN.mono yw.size)
   refine Ko hK ?_ fun zy=>?_
   ·exact⟨uC.cell 0 rfl,uC.cell 1 rfl,uC.cell 2 rfl,uC.cell 3 rfl,YV rl,zQ.cell q0,zQ.cell q1,zQ.cell q2,zQ.cell q3⟩
   clear hK K
   refine Tk 7 rfl zy ?_
   refine Tk 8 rfl zy ?_
   refine Tk 9 rfl zy ?_
   refine To 11 rfl fun K hK=>?_
   rw[if_pos (by rfl)]
   refine zk _ _ _ rfl _ _ rfl rfl _ _ hN zp rfl (uf _ _ _ _ rfl rfl rfl rfl) fun w6 Sa xO=>?_
   have zQ:Holds _ H:=hH.below (yw.grown xO yw.size (by rintro q ⟨⟩;omega)) (Nat.le_refl _);have uC:=uC.grown xO (by first | (simp;done) | (simp;omega));have rl:=rl.grown xO (by first | (simp;done) | (simp;omega));have vF:=vF.grown xO (by first | (simp;done) | (simp;omega));have yw:=yw.grown xO yw.size (by rintro q ⟨⟩;omega)
   refine Ko hK ?_ fun zy=>?_
   ·exact⟨uC.cell 0 rfl,uC.cell 1 rfl,uC.cell 2 rfl,uC.cell 3 rfl,YV rl,zQ.cell q0,zQ.cell q1,zQ.cell q2,zQ.cell q3⟩
   clear hK K
   refine To 12 rfl fun K hK=>?_
   go_simp
   refine Kz hK ?_
   clear hK K
   refine Wd ?_
   go_wp2_with fail
   go_meet
   exact⟨rfl,yw,vF,uC,rl⟩
  case rest =>
  clear zQ yw vF uC rl;obtain⟨rfl,yw,vF,uC,rl⟩:=hcut;have zQ:Holds wc.drew H:=(hH.below yw (Nat.le_refl _)).drew;have uC:=uC.drew;have rl:=rl.drew;have vF:=vF.drew;have yw:=yw.drew
  cases hat:(atL y p.items).isSome with
  | true =>
   rw[hat]at vR;have EN:Hid (yC p u=false):=by rw[Hid,E2.out,vR.out];rfl
   clear hat;go_upto_region 17 with fail
   refine zw 9 (fun w'=>w'.cell? ⟨g2,3,none⟩=some (.slice (some ⟨ib,io,none⟩) u.items.length b.ic)∧w'.cell? ⟨ib,io+i*4,none⟩=some (.int .i64 y.kind)∧w'.cell? ⟨ib,io+i*4+1,none⟩=some (.int .u64 y.n)∧w'.cell? ⟨ib,io+i*4+2,none⟩=some (.slice y1 y.bytes.length y2)∧w'.cell? ⟨ib,io+i*4+3,none⟩=some (.slice y3 y.items.length y4)) (by kernel_rfl) (⟨YV rl,zQ.cell q0,zQ.cell q1,zQ.cell q2,zQ.cell q3⟩) (fun zy=>?_)
   refine Tk 0 rfl zy ?_
   refine Tk 1 rfl zy ?_
   refine TkU 2 rfl zy ?_
   refine TkU 3 rfl zy ?_
   refine TkU 4 rfl zy ?_
   refine TkU 5 rfl zy ?_
   refine TkU 6 rfl zy ?_
   refine TkU 7 rfl zy ?_
   refine TkU 8 rfl zy ?_
   refine To 9 rfl fun K hK=>?_
   go_simp
   refine Kz hK ?_
   clear hK K
   refine Wd ?_
   clear zy;go_wp2_with fail
   go_ret
   exact⟨by rw[EN.out];rfl,yw⟩
  | false =>
  rw[hat]at vR;clear hat;go_upto_region 17 with fail
  refine zw 9 (fun w'=>w'.cell? ⟨g2,3,none⟩=some (.slice (some ⟨ib,io,none⟩) u.items.length b.ic)∧w'.cell? ⟨ib,io+i*4,none⟩=some (.int .i64 y.kind)∧w'.cell? ⟨ib,io+i*4+1,none⟩=some (.int .u64 y.n)∧w'.cell? ⟨ib,io+i*4+2,none⟩=some (.slice y1 y.bytes.length y2)∧w'.cell? ⟨ib,io+i*4+3,none⟩=some (.slice y3 y.items.length y4)) (by kernel_rfl) (⟨YV rl,zQ.cell q0,zQ.cell q1,zQ.cell q2,zQ.cell q3⟩) (fun zy=>?_)
  refine Tk 0 rfl zy ?_
  refine Tk 1 rfl zy ?_
  refine TkG 2 rfl zy ?_
  refine TkG 3 rfl zy ?_
  refine TkG 4 rfl zy ?_
  refine TkG 5 rfl zy ?_
  refine TkG 6 rfl zy ?_
  refine To 7 rfl fun K hK=>?_
  go_simp
  refine(ui 2 (by omega) (by omega) _ zQ).mono ?_
  rintro e w8 ⟨v8,rfl,sM⟩
  have uC:=uC.below sM.below;have rl:=rl.below sM.below;have vF:=vF.below sM.below;have zQ:=zQ.below sM.below (Nat.le_refl _);have yw:=yw.trans (sM.below.mono yw.size);obtain⟨xa,xb,xc,xd,H1,rfl,sC,rN⟩:=sM
  refine Ko hK ?_ fun zy=>?_
  ·exact⟨YV rl,zQ.cell q0,zQ.cell q1,zQ.cell q2,zQ.cell q3⟩
  clear hK K
  refine To 8 rfl fun K hK=>?_
  go_simp
  refine(SM.out _ H1 sC.le xa xb xc xd rN sC.holds).mono ?_
  rintro e w9 ⟨rfl,nV⟩
  have uC:=uC.below nV;have rl:=rl.below nV;have vF:=vF.below nV;have zQ:=zQ.below nV (Nat.le_refl _);have yw:=yw.trans (nV.mono yw.size)
  refine Ko hK ?_ fun zy=>?_
  ·exact⟨YV rl,zQ.cell q0,zQ.cell q1,zQ.cell q2,zQ.cell q3⟩
  clear hK K
  refine To 9 rfl fun K hK=>?_
  go_simp
  refine Kz hK ?_
  clear hK K
  refine Wd ?_
  clear zy zQ
  cases hsm:yu y (zg 2) with
  | true =>
   rw[hsm]at vR;have EN:Hid (yC p u=false):=by rw[Hid,E2.out,vR.out];rfl
   clear hsm;go_wp2_with fail
   go_ret
   exact⟨by rw[EN.out];rfl,yw⟩
  | false =>
  rw[hsm]at vR;have EN:Hid (uJ p.items (u.items.drop (i+2))=uJ p.items u.items):=by rw[Hid,vR.out];rfl
  have jg:(i+2)%2=0:=by have:=gv.out;omega
  clear hsm;go_wp2_with fail
  go_roundw
  case rel=>first | exact⟨i+2,by omega,jg,by go_num,EN.out,yw,vF,uC,rl⟩ | exact⟨i+2,by omega,jg,by omega,EN.out⟩
  case measure=>simp[intOf];omega
 have EN:Hid (yC p u=(!(xQ p u 5).isSome || !(xQ p u 6).isSome)):=by
  rw[Hid,E2.out,← HS.out,ZR _ _ _ (by omega)];rfl
 have g0:=ms.cell 0 rfl;have g1':=ms.cell 1 rfl;have g2':=ms.cell 2 rfl;have g3':=ms.cell 3 rfl;have g4:=ms.cell 4 rfl;have g5:=ms.cell 5 rfl;have g6:=ms.cell 6 rfl;have g7:=ms.cell 7 rfl;have F:=Hh (fun(n:Int) (h1 : -9223372036854775808≤n) (h2:n≤9223372036854775807) (w1:World) (h:Holds w1 H)=>lD Px.out Lw.out HP.out HU.out n h1 h2 w1 h);have Te:¬ (i:Int)<u.items.length:=by omega
 clear hlt2 Se TV;go_wp2_with fail
 refine(F.out 5 (by omega) (by omega) _ (hH.below mu (Nat.le_refl _))).mono ?_
 rintro e w5 ⟨v5,rfl,dX⟩
 have yN:=mu.trans (dX.below.mono mu.size);have mM:=ms.below dX.below;obtain⟨xa,xb,xc,xd,H5,rfl,wn,_⟩:=dX;have xT:=yN.alloc yN.size (zi ((xQ p u 5).getD zm) xa xb xc xd);have WF:=mM.alloc (zi ((xQ p u 5).getD zm) xa xb xc xd);have g0:=WF.cell 0 rfl;have g1':=WF.cell 1 rfl;have g2':=WF.cell 2 rfl;have g3':=WF.cell 3 rfl;have g4:=WF.cell 4 rfl;have g5:=WF.cell 5 rfl;have g6:=WF.cell 6 rfl;have g7:=WF.cell 7 rfl
 generalize wL:xQ p u 5=o5 at *
 generalize o5.getD zm=z5 at *
 clear yN mM wn mu ms;go_wp2_with fail
 refine(F.out 6 (by omega) (by omega) _ (hH.below xT (Nat.le_refl _))).mono ?_
 rintro e w7 ⟨v7,rfl,oS⟩
 have vh:=xT.trans (oS.below.mono xT.size);obtain⟨ya,yb,yc,yd,H7,rfl,wF,_⟩:=oS;have rm:=vh.alloc vh.size (zi ((xQ p u 6).getD zm) ya yb yc yd)
 generalize uk:xQ p u 6=o6 at *
 generalize o6.getD zm=z6 at *
 have EN':Hid (yC p u=(!o5.isSome || !o6.isSome)):=EN.out
 generalize o5.isSome=t5 at *
 generalize o6.isSome=t6 at *
 clear wL uk EN
 cases t5 <;> cases t6
 all_goals
  go_wp2_with fail
  go_ret
  exact⟨by rw[EN'.out];rfl,rm⟩
theorem vj {H:Snap}(hTab:Tabs H) {p u:Itm}{a b:Ad}(hp:IsItem H a.ba a.bc a.ia a.ic p) (hu:IsItem H b.ba b.bc b.ia b.ic u) (w:World) (hH:Holds w H) :
  Calls Tryz.prog 33 #[.agg (zY p a u b)] w fun e w'=>e=.returned (.bool (zV p u))∧Below w.heap.size w w':=by
 refine(eP hTab hp hu w hH).mono fun e w' h=>?_
 rw[qr hp.nums hu.nums]at h
 exact h
theorem mC {H:Snap}(hTab:Tabs H) {p u:Itm}{a b:Ad}(hp:IsItem H a.ba a.bc a.ia a.ic p) (hu:IsItem H b.ba b.bc b.ia b.ic u) (w:World) (hH:Holds w H) :
  Calls Tryz.prog 80 #[.agg (zY p a u b)] w (ee w p u):=by
 have hB:=Blk.new w 28 (zY p a u b);have xz:=zq w (.cells (zY p a u b) 28);have Vd:=hH.alloc (.cells (zY p a u b) 28);have V:=Hh (vj hTab hp hu _ Vd)
 cases hv:zV p u with
 | false =>
  rw[hv]at V;have HV:=Hh hv;clear hv;go_enter Tryz.func80,Tryz.ntmps80
  go_wp2_with fail
  refine V.out.mono ?_
  rintro e w1 ⟨rfl,zH⟩
  have zJ:=xz.trans (zH.mono xz.size);go_wp2_with fail
  go_ret2
  exact .inl ⟨HV.out,rfl,zJ⟩
 | true =>
 rw[hv]at V;have HV:=Hh hv;have Yy:=(yZ hv).1;have fg:=(wR Yy).2.1;clear hv;go_enter Tryz.func80,Tryz.ntmps80
 go_wp2_with fail
 refine V.out.mono ?_
 rintro e w1 ⟨rfl,zH⟩
 have yO:=hB.below zH;have zJ:=xz.trans (zH.mono xz.size);have c0:=yO.cell 0 rfl;have c1:=yO.cell 1 rfl;have c2:=yO.cell 2 rfl;have c3:=yO.cell 3 rfl
 by_cases h0:p.items.length=0
 ·have E:Hid (wg p=[]):=by rw[Hid,wg,if_pos h0]
  have k0:((p.items.length:Int)==0)=true:=by simp;simpa using h0
  clear h0;go_wp2_with fail
  go_ret2
  exact .inr ⟨HV.out,_,rfl,by rw[E.out];exact⟨OwnB.nil _ _,zJ⟩⟩
 have E:Hid (wg p=zh p):=by rw[Hid,wg,if_neg h0]
 have k0:((p.items.length:Int)==0)=false:=by rw[beq_eq_false_iff_ne];omega
 have EN:=Hh (kP hTab hp.arg w1 (hH.below zJ (Nat.le_refl _)));have WC:=Hh Yy;clear h0 Yy;go_wp2_with fail
 refine EN.out.mono ?_
 rintro e w2 (⟨hf,_⟩ | ⟨_,r,rfl,hfr⟩)
 ·rw[WC.out]at hf;cases hf
 have R:Hid (Fresh w (wg p) r w2):=by
  rw[Hid,E.out]
  exact⟨hfr.own.more zJ.size,zJ.trans (hfr.2.mono zJ.size)⟩
 clear hfr;go_wp2_with fail
 go_ret2
 exact .inr ⟨HV.out,_,rfl,R.out⟩
theorem mf {H:Snap}(hTab:Tabs H) {p u:Itm}{a b:Ad}(hp:IsItem H a.ba a.bc a.ia a.ic p) (hu:IsItem H b.ba b.bc b.ia b.ic u) (s:ByteArray) (hs:s.size≤1048576)
  {EA:Option Addr} {ec:Nat} {ext:List UInt8} (hext:IsBytes H EA ec ext) (xI:ext.length≤1048576) {PA:Option Addr} {pc:Nat} {pay:List (List UInt8)} (hpay:IsRows H PA pc pay) (ng:pay.length≤1048576) (hpb:∀ l∈pay,l.length≤1048576) (w:World) (hH:Holds w H) :
  Calls Tryz.prog 35 #[.string s,.agg (zY p a u b),.slice EA ext.length ec,.slice PA pay.length pc] w (i8 w s.data.toList p u ext pay):=by
 have xz:=zq w (.cells (zY p a u b) 28);have di:=(Grows.refl hH).alloc (.cells (zY p a u b) 28);have P:=Hh (mC hTab hp hu _ di.holds);go_enter Tryz.func35,Tryz.ntmps35
 go_wp2_with fail
 refine P.out.mono ?_
 rintro e w1 (⟨hv,rfl,zH⟩ | ⟨hv,r,rfl,hf⟩)
 ·have E:Hid (yj s.data.toList p u ext pay=1):=by rw[Hid,yj,if_pos hv]
  have zJ:=xz.trans (zH.mono xz.size);clear hv;go_wp2_with fail
  go_ret2
  exact⟨_,[],by rw[E.out];rfl,⟨OwnB.nil _ _,zJ⟩,by rw[E.out];rfl⟩
 obtain⟨RA,rc,rfl,_⟩:=hf.own.form;have U:=Hh (utf8_ValidString hTab w1 (di.holds.below hf.2 (Nat.le_refl _)) s (by omega))
 cases hc:Lib.validD s.data.toList with
 | false =>
  have E:Hid (yj s.data.toList p u ext pay=5):=by rw[Hid,yj,if_neg (by simp[hv]),if_pos hc]
  rw[hc]at U;clear hv hc;go_wp2_with fail
  refine U.out.mono ?_
  rintro e w2 ⟨rfl,zG⟩
  have zJ:=(xz.trans (hf.2.mono xz.size)).trans (zG.mono (Nat.le_trans xz.size hf.2.size));go_wp2_with fail
  go_ret2
  exact⟨_,[],by rw[E.out];rfl,⟨OwnB.nil _ _,zJ⟩,by rw[E.out];rfl⟩
 | true =>
 rw[hc]at U;have dP:=Hh (And.intro hv hc);clear hv hc;go_wp2_with fail
 refine U.out.mono ?_
 rintro e w2 ⟨rfl,zG⟩
 have YF:(wg p).length≤1099511627776:=by
  have:=(vK (yZ dP.out.1).1).2.2
  unfold wg
  split
  ·simp
  omega
 have xR:=(di.below_ hf.2).below_ zG;have dz:=(hf.own.src).below zG;obtain⟨x3,jV⟩:∃ x,Itm.mk 3 0 s.data.toList []=x:=⟨_,rfl⟩
 obtain⟨x4,Vv⟩:∃ x,Itm.mk 2 0 (wg p) []=x:=⟨_,rfl⟩
 obtain⟨x5,Vw⟩:∃ x,Itm.mk 2 0 ext []=x:=⟨_,rfl⟩
 have T:=Hh (lC s (by omega) w2 xR.holds);rw[jV]at T;go_wp2_with fail
 refine T.out.mono ?_
 rintro e w3 ⟨v3,rfl,ta,tb,tc,td,H3,rfl,ye,rp⟩
 have B1:=Hh (t8 (c:=rc) (A:=RA) (l:=wg p) rfl YF w3 (dz.below ye.below) ye.holds);rw[Vv]at B1;clear T;go_wp2_with fail
 refine B1.out.mono ?_
 rintro e w4 ⟨v4,rfl,pa',pb',pc',pd',H4,rfl,yJ,qK⟩
 have B2:=Hh (t8 (c:=ec) (A:=EA) (l:=ext) rfl (by omega) w4 (Src.of_row (hext.row.mono (ye.le.trans yJ.le)) yJ.holds) yJ.holds);rw[Vw]at B2;clear B1;go_wp2_with fail
 refine B2.out.mono ?_
 rintro e w5 ⟨v5,rfl,ea',eb',ec',ed',H5,rfl,wn,Vo⟩
 have hG:=((xR.trans ye).trans yJ).trans wn
 have WQ:ItemsC H5 (zZ x3 ta tb tc td++(zZ x4 pa' pb' pc' pd'++zZ x5 ea' eb' ec' ed')) [x3,x4,x5] :=
  (ItemsC.one (rp.mono (yJ.le.trans wn.le))).app ((ItemsC.one (qK.mono wn.le)).app (ItemsC.one Vo))
 have hO:=OwnI.lit (w:=w5) WQ (w.heap.size+1) (by have:=hf.2.size;have:=zG.size;have:=ye.size;have:=yJ.size;have:=wn.size;simp at *;omega) (by simp);have QF:=hG.alloc (.cells (zZ x3 ta tb tc td++(zZ x4 pa' pb' pc' pd'++zZ x5 ea' eb' ec' ed')).toArray 26);have Tf:H5 w5.heap.size=none:=wn.holds.none_of_ge (Nat.le_refl _);clear xR ye yJ wn rp qK Vo hG B2 dz hf zG WQ;go_upto_region 8 with fail
 go_loopw [12,36] (fun v12 vi wr=>∃ (k:Nat) (Hr:Snap) (VA:Option Addr) (vc:Nat),k≤pay.length∧vi=.int .i64 k∧v12=.slice VA (3+k) vc∧Grows w H wr Hr∧
  OwnI wr (w.heap.size+1) (.slice VA (3+k) vc) Hr ([x3,x4,x5]++(pay.take k).map z8)∧(∀ g,(Value.slice VA (3+k) vc).ownBlock=some g→Hr g=none)) (fun _ vi _=>pay.length-(intOf vi).toNat)
 case atStart=>exact⟨0,H5,_,_,Nat.zero_le _,rfl,rfl,QF,hO,by intro g hg;simp[Value.ownBlock]at hg;subst hg;exact Tf⟩
 case round =>
 obtain⟨k,Hr,VA,vc,hk,rfl,rfl,uw,wG,nZ⟩:=hrel
 by_cases zB:k<pay.length
 ·obtain⟨rb,ro,LU,oM⟩:=hpay.rows (by omega);obtain⟨Aj,cj,q0,Vk⟩:=oM k zB;subst LU;have p0:=(uw.holds.mono uw.le).cell q0;have Fx:=hpb pay[k] (List.getElem_mem zB);obtain⟨x6,Pu⟩:∃ x,Itm.mk 2 0 pay[k] []=x:=⟨_,rfl⟩
  have B:=Hh (t8 (c:=cj) (A:=Aj) (l:=pay[k]) rfl (by omega) wr (Src.of_row (Vk.row.mono uw.le) uw.holds) uw.holds);rw[Pu]at B;clear q0 oM;go_wp2_with fail
  refine B.out.mono ?_
  rintro e w6 ⟨v6,rfl,ja,jb,jc,jd,H6,rfl,xH,jg⟩
  have rq:=((wG.below xH.below).mono xH.le).alloc (.cells (zZ x6 ja jb jc jd).toArray 26);have wF:=(uw.trans xH).alloc (.cells (zZ x6 ja jb jc jd).toArray 26);have mO:∀ g,(Value.slice VA (3+k) vc).ownBlock=some g→H6 g=none:=fun g hg=>xH.none (nZ g hg) (wG.lt g hg).2
  clear p0 B;go_wp2_with (at_builtin;refine zO ?_)
  refine xU rfl (.tmp 40) (.tmp 43) rfl (w.heap.size+1) (.slice VA (3+k) vc) H6 _ rfl rq _ 1 _ (zZ x6 ja jb jc jd) [x6] rfl rfl (ItemsC.one jg) (Src.new _ _ _ _ rfl _ rfl) (by simp;omega) (by have:=wF.size;have:=xH.size;have:=uw.size;simp at *;omega) fun v' w7 wj xj hat7=>?_
  obtain⟨VA',vc',rfl,_⟩:=wj.form;have xp:=wF.grownRow mO (fun g hg=>by have:=(rq.lt g hg).1;omega) xj
  have lh:∀ g,(Value.slice VA' ([x3,x4,x5]++(pay.take k).map z8++[x6]).length vc').ownBlock=some g→H6 g=none:=fun g hg=>by
   rcases hat7 with h | ⟨g',h1,h2⟩
   ·exact mO g (by rw[← h,hg])
   rw[hg]at h1;injection h1 with h1
   subst h1
   exact wF.hidden h2
  have pB:([x3,x4,x5]++(pay.take k).map z8++[x6])=[x3,x4,x5]++(pay.take (k+1)).map z8:=by
   rw[List.take_succ_eq_append_getElem zB,List.map_append,← Pu]
   simp
  have xo:([x3,x4,x5]++(pay.take (k+1)).map z8).length=3+(k+1):=by simp;omega
  rw[pB,xo]at wj lh;rw[pB,xo];have OC:(k:Int)+1≤9223372036854775807:=by omega
  clear rq xj hat7 mO wF wG uw xH jg Vk;go_wp2_with fail
  go_roundw
  case rel=>exact⟨k+1,H6,VA',vc',by omega,by go_num,rfl,xp,wj,lh⟩
  case measure=>simp[intOf];omega
 have rO:k=pay.length:=by omega
 subst rO;rw[List.take_length]at wG;have hI:Hid (we s.data.toList p ext pay=.mk 4 0 [] ([x3,x4,x5]++pay.map z8)):=by rw[Hid,we,← jV,← Vv,← Vw]
 have aB:ModestL ([x3,x4,x5]++pay.map z8):=by
  rw[← jV,← Vv,← Vw]
  refine ModestL.of fun x hx=>?_
  simp only[List.cons_append,List.nil_append,List.mem_cons,List.mem_map]at hx
  rcases hx with rfl | rfl | rfl | ⟨l,hl,rfl⟩ <;> rw[Modest,ModestL] <;> refine⟨?_,by simp,trivial⟩
  ·simpa using (by omega:s.size≤1099511627776)
  ·exact YF
  ·omega
  have:=hpb l hl
  omega
 obtain⟨L,hL⟩:∃ L,[x3,x4,x5]++pay.map z8=L:=⟨_,rfl⟩
 have MR:L.length=3+pay.length:=by rw[← hL];simp;omega
 rw[hL]at wG aB hI;obtain⟨H8,Yf,Vn,aR,Tn,tD,sv,fW⟩:=wG.snap uw.holds (fun g hg=>nZ g (by cases VA <;> simp_all [Value.ownBlock]))
 have uX:Grows w H wr H8:=⟨uw.below,uw.le.trans Yf,Vn,fun b o hb=>by
  rcases aR b o hb with h | h
  ·exact uw.fresh b o h
  exact .inr (by have:=(wG.lt b (by cases VA <;> simp_all [Value.ownBlock])).1;omega)⟩
 obtain⟨x7,pL⟩:∃ x,Itm.mk 4 0 [] L=x:=⟨_,rfl⟩
 have nf:IsItem H8 none 0 VA vc x7:=by
  rw[← pL,IsItem]
  exact⟨⟨by omega,by omega,by omega,tD,sv⟩,IsBytes.nil _,fW⟩
 have QI:ItemA H8 4 0 none 0 0 VA (3+pay.length) vc x7:=by
  refine⟨by rw[← pL];rfl,by rw[← pL];rfl,by rw[← pL];rfl, ?_,nf⟩
  rw[← pL];exact MR.symm
 rw[pL]at hI;have EN:=Hh (kP (hTab.mono uX.le) QI wr uX.holds);clear hL aB wG jV Vv Vw pL MR QI nf hO Yf Vn aR tD sv fW uw nZ Tn;go_wp2_with fail
 refine EN.out.mono ?_
 rintro e w9 (⟨hv,rfl,nV⟩ | ⟨hv,r,rfl,hfr⟩)
 ·have E:Hid (yj s.data.toList p u ext pay=8):=by rw[Hid,yj,if_neg (by simp[dP.out.1]),if_neg (by simp[dP.out.2]),hI.out,if_pos hv]
  have zJ:=uX.below.trans (nV.mono uX.size);clear hv;go_wp2_with fail
  go_ret2
  exact⟨_,[],by rw[E.out];rfl,⟨OwnB.nil _ _,zJ⟩,by rw[E.out];rfl⟩
 have E:Hid (yj s.data.toList p u ext pay=0):=by rw[Hid,yj,if_neg (by simp[dP.out.1]),if_neg (by simp[dP.out.2]),hI.out,if_neg (by simp[hv])]
 have R:Hid (Fresh w (zh x7) r w9):=⟨hfr.own.more uX.size,uX.below.trans (hfr.2.mono uX.size)⟩
 obtain⟨RA',rc',rfl,_⟩:=hfr.own.form;clear hv hfr;go_wp2_with fail
 go_ret2
 exact⟨_,zh x7,by rw[E.out];rfl,R.out,by rw[E.out,hI.out];rfl⟩
def szL (x:Itm):Nat:=(zM x.items).length
theorem yg (k:Int) (n:Nat) (bs:List UInt8) (l:List Itm) (h8:k≠8) (h7:k≠7):(zh (.mk k n bs l)).length≤9+bs.length+(zM l).length:=by
 rw[xD,if_neg (by simpa [Itm.kind] using h8),if_neg (by simp[Itm.kind,h7])];have:=(um k.toNat (xi (.mk k n bs l))).2
 simp only[Itm.kind,Itm.bytes,Itm.items,List.length_append]
 omega
theorem rV (k:Int) (hk:k=2∨k=3) (bs:List UInt8) (lv:Nat) (hv:k=3→Lib.validD bs=true):Good (.mk k 0 bs []) lv:=by
 refine Good.of ?_ (by simp only[Itm.items];rw[GoodL];trivial) (fun h=>by simp only[Itm.kind]at h;omega)
 rw[xX,if_pos (by rw[zL];simp only[Itm.kind];omega)]
 rcases hk with rfl | rfl
 ·simp[yv,Itm.kind,Itm.n,Itm.items]
 simp[yv,Itm.kind,Itm.n,Itm.items,Itm.bytes,hv rfl]
theorem cB {ctx:List UInt8}{p:Itm}{ext:List UInt8}{pay:List (List UInt8)}(hc:Lib.validD ctx=true):Good (we ctx p ext pay) 0:=by
 refine Good.of ?_ ?_ (fun h=>by simp[we,Itm.kind]at h)
 ·rw[xX,if_neg (by rw[zL];simp[we,Itm.kind])]
  simp[vk,we,Itm.kind,Itm.bytes,Itm.n]
 refine GoodL.of fun x hx=>?_
 simp only[we,Itm.items,List.cons_append,List.nil_append,List.mem_cons,List.mem_map]at hx
 rcases hx with rfl | rfl | rfl | ⟨l,_,rfl⟩
 ·exact rV 3 (.inr rfl) _ _ (fun _=>hc)
 ·exact rV 2 (.inl rfl) _ _ (fun h=>by omega)
 ·exact rV 2 (.inl rfl) _ _ (fun h=>by omega)
 exact rV 2 (.inl rfl) _ _ (fun h=>by omega)
theorem eH {ctx:List UInt8}{p:Itm}{ext a:List UInt8}(hc:Lib.validD ctx=true) (hl:ctx.length+(wg p).length+ext.length+a.length≤4000):zX (we ctx p ext [a])=true:=by
 rw[yp]
 refine⟨cB hc, ?_, ?_⟩
 ·simp[we,cnt,yQ]
 have h0:=yg 4 0 [] ([.mk 3 0 ctx [],z8 (wg p),z8 ext]++[a].map z8) (by omega) (by omega);have h1:=yg 3 0 ctx [] (by omega) (by omega);have h2:(zh (z8 (wg p))).length≤_:=yg 2 0 (wg p) [] (by omega) (by omega);have h3:(zh (z8 ext)).length≤_:=yg 2 0 ext [] (by omega) (by omega);have h4:(zh (z8 a)).length≤_:=yg 2 0 a [] (by omega) (by omega)
 simp only[we,List.map_cons,List.map_nil,List.cons_append,List.nil_append,zM,List.length_append,List.length_nil]at h0 h1 h2 h3 h4⊢
 omega
abbrev zF:Itm:=.mk 5 0 [] []
theorem qh:zX zF=true:=by
 rw[yp]
 refine⟨Good.of rfl (by simp only[Itm.items];rw[GoodL];trivial) (fun _=>rfl),by simp[cnt,yQ], ?_⟩
 rw[xD]
 simp[Itm.kind,Itm.bytes,Itm.items,zM]
 have:=(um 5 (xi zF)).2
 omega
theorem qp:Nums zF:=by rw[Nums,NumsL];exact⟨by omega,trivial⟩
theorem pf:zV zF zF=true:=by
 rw[← qr qp qp,yC]
 simp[pT,qh,Itm.kind,Itm.items,yi,uJ,xQ,atL]
theorem bZ (n:Int):xQ zF zF n=none:=by simp[xQ,atL,Itm.items]
theorem Qp:zg 1=.mk 0 1 [] []:=by simp[zg]
theorem U4:zg 10=.mk 0 10 [] []:=by simp[zg]
theorem yB:Modest zm:=by rw[Modest,ModestL];exact⟨by simp,by simp,trivial⟩
theorem tV (n:Int):(zh (zg n)).length≤9:=by
 unfold zg
 split
 ·have:=yg 1 (-1-n).toNat [] [] (by omega) (by omega);simpa [zM] using this
 have:=yg 0 n.toNat [] [] (by omega) (by omega);simpa [zM] using this
def fM (v:Itm):Prop:=∃ k:Nat,(k=10∨k=30∨k=5∨k=4)∧v=.mk 0 k [] []
abbrev Un (k:Nat):Itm:=.mk 5 0 [] [.mk 0 1 [] [],.mk 0 k [] []]
theorem pZ (k:Nat):zX (Un k)=true:=by
 rw[yp]
 refine⟨Good.of (by rw[xX,if_neg (by rw[zL];simp[Itm.kind])];simp[vk,Itm.kind,Itm.bytes,Itm.n,Itm.items]) (GoodL.of fun x hx=>?_) (fun _=>rfl),by simp[cnt,yQ], ?_⟩
 ·simp[Itm.items]at hx
  rcases hx with rfl | rfl
  ·exact kw 1 1
  exact kw k 1
 have h0:=yg 5 0 [] [.mk 0 1 [] [],.mk 0 k [] []] (by omega) (by omega);have h1:=yg 0 1 [] [] (by omega) (by omega);have h2:=yg 0 k [] [] (by omega) (by omega)
 simp only[zM,List.length_append,List.length_nil]at h0 h1 h2
 show(zh (.mk 5 0 [] [.mk 0 1 [] [],.mk 0 k [] []])).length≤4096
 omega
theorem iR {k:Nat}(h:k<18446744073709551616):Nums (Un k):=by
 rw[Nums,NumsL,NumsL,NumsL,Nums,NumsL,Nums,NumsL]
 exact⟨by omega,⟨by omega,trivial⟩,⟨by omega,trivial⟩,trivial⟩
theorem eB {k:Nat}(h:k=10∨k=30∨k=5∨k=4):zV (Un k) zF=true:=by
 rw[← qr (iR (by omega)) qp,yC]
 rcases h with rfl | rfl | rfl | rfl <;>
  simp[pT,qh,pZ,Itm.kind,Itm.items,Itm.n,yi,uJ,xQ,atL,vz,wh,wu,zg,yu,vQ]
theorem eC {k:Nat}(h:k=10∨k=30∨k=5∨k=4):zV zF (Un k)=true:=by
 rw[← qr qp (iR (by omega)),yC]
 rcases h with rfl | rfl | rfl | rfl <;>
  simp[pT,qh,pZ,Itm.kind,Itm.items,Itm.n,yi,uJ,xQ,atL,vz,wh,wu,zg,yu,vQ]
end Go.Proofs.YtliomcphdnppnaaGreatDoor
