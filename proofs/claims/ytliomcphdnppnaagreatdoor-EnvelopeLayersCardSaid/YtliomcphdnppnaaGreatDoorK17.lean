/- squeezed. Walks: the references' validity of -/
import Derived.Test.YtliomcphdnppnaaGreatDoorK16
import Derived.Test.YtliomcphdnppnaaGreatDoorK14
set_option linter.unusedVariables false
set_option linter.unusedSimpArgs false
set_option maxRecDepth 100000
set_option maxHeartbeats 25600000
namespace Go.Proofs.YtliomcphdnppnaaGreatDoor
open Go.RowKit
theorem iM (m l:List Itm) (k:Nat) (hk:k+1<l.length):yf m (l.drop k)=(wO l[k]&&x9 l[k] l[k+1] m&&yf m (l.drop (k+2))):=by
 rw[List.drop_eq_getElem_cons (show k<l.length by omega),List.drop_eq_getElem_cons hk,yf]
theorem aX (p l:List Itm) (k:Nat) (hk:k+1<l.length):uC p (l.drop k)=(!((atL l[k] p).isSome||yp l[k] (zZ 2))&&uC p (l.drop (k+2))):=by
 rw[List.drop_eq_getElem_cons (show k<l.length by omega),List.drop_eq_getElem_cons hk,uC]
theorem fK (m l:List Itm) (k:Nat) (hk:l.length≤k):yf m (l.drop k)=true:=by
 rw[List.drop_eq_nil_of_le hk,yf];intro _ _ _ h;cases h
theorem Xj (p l:List Itm) (k:Nat) (hk:l.length≤k):uC p (l.drop k)=true:=by
 rw[List.drop_eq_nil_of_le hk,uC];intro _ _ _ h;cases h
theorem dG {H:Snap}(hTab:Tabs H) {p u:Itm}{a b:Ad}(hp:IsItem H a.ba a.bc a.ia a.ic p) (hu:IsItem H b.ba b.bc b.ia b.ic u) (w:World) (hH:Holds w H) :
  Calls Tryz.prog 33 #[.agg (zF p a u b)] w fun e w'=>e=.returned (.bool (yC p u))∧Below w.heap.size w w':=by
 have HP:=Hh hp;have HU:=Hh hu;have hB:=(Blk.new w 28 (zF p a u b)).drew;have hb:=(zu w (.cells (zF p a u b) 28)).drew;have zP:Holds (w.alloc (.cells (zF p a u b) 28)).drew H:=(hH.alloc _).drew;go_enter Tryz.func33,Tryz.ntmps33
 go_upto_region 1 with fail
 go_cut [3,4] (fun s3 s4 wx=>∃ g1 g2,s3=.pointer (some ⟨g1,0,none⟩)∧s4=.pointer (some ⟨g2,0,none⟩)∧Blk wx g1 26 #[.int .i64 p.kind,.int .u64 p.n,.slice a.ba p.bytes.length a.bc,.slice a.ia p.items.length a.ic]∧
  Blk wx g2 26 #[.int .i64 u.kind,.int .u64 u.n,.slice b.ba u.bytes.length b.bc,.slice b.ia u.items.length b.ic]∧Blk wx w.heap.size 28 (zF p a u b)∧Below w.heap.size w wx)
 case first =>
  refine zw 7 (fun w'=>w'.cell? ⟨w.heap.size,0,none⟩=some (.int .i64 p.kind)∧w'.cell? ⟨w.heap.size,1,none⟩=some (.int .u64 p.n)∧w'.cell? ⟨w.heap.size,2,none⟩=some (.slice a.ba p.bytes.length a.bc)∧w'.cell? ⟨w.heap.size,3,none⟩=some (.slice a.ia p.items.length a.ic)∧w'.cell? ⟨w.heap.size,4,none⟩=some (.int .i64 u.kind)∧w'.cell? ⟨w.heap.size,5,none⟩=some (.int .u64 u.n)∧w'.cell? ⟨w.heap.size,6,none⟩=some (.slice b.ba u.bytes.length b.bc)∧w'.cell? ⟨w.heap.size,7,none⟩=some (.slice b.ia u.items.length b.ic)) (by kernel_rfl) (⟨hB.cell 0 rfl,hB.cell 1 rfl,hB.cell 2 rfl,hB.cell 3 rfl,hB.cell 4 rfl,hB.cell 5 rfl,hB.cell 6 rfl,hB.cell 7 rfl⟩) (fun zy=>?_)
  refine Tk 0 rfl zy ?_
  refine Tk 1 rfl zy ?_
  refine Tk 2 rfl zy ?_
  refine Tk 3 rfl zy ?_
  refine Ways.two (i:=4) (j:=5) rfl rfl (by kernel_rfl) (fun K hK=>?_) (fun K hK=>?_)
  ·go_simp
   have hP:=yW hb 26 #[.int .i64 0,.int .u64 0,.slice none 0 0,.slice none 0 0]
   try simp only[zL,zr]at hP
   have hB:=hB.alloc zT
   try have hQ:=hQ.alloc zT
   have hb:=hb.alloc hb.size zT
   refine Ko hK ?_ fun zy=>?_
   ·exact⟨hB.cell 0 rfl,hB.cell 1 rfl,hB.cell 2 rfl,hB.cell 3 rfl,hB.cell 4 rfl,hB.cell 5 rfl,hB.cell 6 rfl,hB.cell 7 rfl⟩
   clear hK K
   refine To 5 rfl fun K hK=>?_
   go_simp
   have hQ:=yW hb 26 #[.int .i64 0,.int .u64 0,.slice none 0 0,.slice none 0 0]
   try simp only[zL,zr]at hQ
   have hB:=hB.alloc zT
   try have hP:=hP.alloc zT
   have hb:=hb.alloc hb.size zT
   refine Ko hK ?_ fun zy=>?_
   ·exact⟨hB.cell 0 rfl,hB.cell 1 rfl,hB.cell 2 rfl,hB.cell 3 rfl,hB.cell 4 rfl,hB.cell 5 rfl,hB.cell 6 rfl,hB.cell 7 rfl⟩
   clear hK K
   refine To 6 rfl fun K hK=>?_
   rw[if_pos (by rfl)]
   refine zm _ _ _ rfl _ _ rfl rfl _ _ hP zp rfl (ua _ _ _ _ rfl rfl rfl rfl) fun w5 hP yP=>?_
   have hB:=hB.grown yP (by first | (simp;done) | (simp;omega));have hQ:=hQ.grown yP (by first | (simp;done) | (simp;omega));have hb:=hb.grown yP hb.size (by rintro q ⟨⟩;omega)
   refine Ko hK ?_ fun zy=>?_
   ·exact⟨hB.cell 0 rfl,hB.cell 1 rfl,hB.cell 2 rfl,hB.cell 3 rfl,hB.cell 4 rfl,hB.cell 5 rfl,hB.cell 6 rfl,hB.cell 7 rfl⟩
   clear hK K
   refine To 7 rfl fun K hK=>?_
   rw[if_pos (by rfl)]
   refine zm _ _ _ rfl _ _ rfl rfl _ _ hQ zp rfl (ua _ _ _ _ rfl rfl rfl rfl) fun w6 hQ xX=>?_
   have hB:=hB.grown xX (by first | (simp;done) | (simp;omega));have hP:=hP.grown xX (by first | (simp;done) | (simp;omega));have hb:=hb.grown xX hb.size (by rintro q ⟨⟩;omega)
   refine Kz hK ?_
   clear hK K
   refine Wd ?_
   go_wp2_with fail
   go_meet
   exact⟨_,_,rfl,rfl,hP,hQ,hB,hb⟩
  go_simp
  have hQ:=yW hb 26 #[.int .i64 0,.int .u64 0,.slice none 0 0,.slice none 0 0]
  try simp only[zL,zr]at hQ
  have hB:=hB.alloc zT
  try have hP:=hP.alloc zT
  have hb:=hb.alloc hb.size zT
  refine Ko hK ?_ fun zy=>?_
  ·exact⟨hB.cell 0 rfl,hB.cell 1 rfl,hB.cell 2 rfl,hB.cell 3 rfl,hB.cell 4 rfl,hB.cell 5 rfl,hB.cell 6 rfl,hB.cell 7 rfl⟩
  clear hK K
  refine To 4 rfl fun K hK=>?_
  go_simp
  have hP:=yW hb 26 #[.int .i64 0,.int .u64 0,.slice none 0 0,.slice none 0 0]
  try simp only[zL,zr]at hP
  have hB:=hB.alloc zT
  try have hQ:=hQ.alloc zT
  have hb:=hb.alloc hb.size zT
  refine Ko hK ?_ fun zy=>?_
  ·exact⟨hB.cell 0 rfl,hB.cell 1 rfl,hB.cell 2 rfl,hB.cell 3 rfl,hB.cell 4 rfl,hB.cell 5 rfl,hB.cell 6 rfl,hB.cell 7 rfl⟩
  clear hK K
  refine To 6 rfl fun K hK=>?_
  rw[if_pos (by rfl)]
  refine zm _ _ _ rfl _ _ rfl rfl _ _ hP zp rfl (ua _ _ _ _ rfl rfl rfl rfl) fun w5 hP yP=>?_
  have hB:=hB.grown yP (by first | (simp;done) | (simp;omega));have hQ:=hQ.grown yP (by first | (simp;done) | (simp;omega));have hb:=hb.grown yP hb.size (by rintro q ⟨⟩;omega)
  refine Ko hK ?_ fun zy=>?_
  ·exact⟨hB.cell 0 rfl,hB.cell 1 rfl,hB.cell 2 rfl,hB.cell 3 rfl,hB.cell 4 rfl,hB.cell 5 rfl,hB.cell 6 rfl,hB.cell 7 rfl⟩
  clear hK K
  refine To 7 rfl fun K hK=>?_
  rw[if_pos (by rfl)]
  refine zm _ _ _ rfl _ _ rfl rfl _ _ hQ zp rfl (ua _ _ _ _ rfl rfl rfl rfl) fun w6 hQ xX=>?_
  have hB:=hB.grown xX (by first | (simp;done) | (simp;omega));have hP:=hP.grown xX (by first | (simp;done) | (simp;omega));have hb:=hb.grown xX hb.size (by rintro q ⟨⟩;omega)
  refine Kz hK ?_
  clear hK K
  refine Wd ?_
  go_wp2_with fail
  go_meet
  exact⟨_,_,rfl,rfl,hP,hQ,hB,hb⟩
 case rest =>
 clear hB hb zP;obtain⟨g1,g2,rfl,rfl,hP,hQ,hB,hb⟩:=hcut;have VP:=Hh (fun(w1:World) (h:Holds w1 H)=>sX hTab HP.out.arg w1 h);have VU:=Hh (fun(w1:World) (h:Holds w1 H)=>sX hTab HU.out.arg w1 h);have a0:=hP.cell 0 rfl;have a1:=hP.cell 1 rfl;have a2:=hP.cell 2 rfl;have a3:=hP.cell 3 rfl;have d0:=hQ.cell 0 rfl;have d1:=hQ.cell 1 rfl;have d2:=hQ.cell 2 rfl;have d3:=hQ.cell 3 rfl;clear hp hu
 by_cases h1:p.kind=5
 case neg =>
  have E:Hid (yC p u=false):=by rw[Hid,yC];simp[h1]
  have b1:(p.kind != 5)=true:=by simp[h1]
  have p1:(p.kind=5)=False:=eq_false h1;clear h1;go_wp2_with fail
  go_ret
  exact⟨by rw[E.out];rfl,hb⟩
 by_cases h2:u.kind=5
 case neg =>
  have E:Hid (yC p u=false):=by rw[Hid,yC];simp[h2]
  have b1:(p.kind != 5)=false:=by simp[h1]
  have p1:(p.kind=5)=True:=eq_true h1;have b2:(u.kind != 5)=true:=by simp[h2]
  have p2:(u.kind=5)=False:=eq_false h2;clear h1 h2;go_wp2_with fail
  go_ret
  exact⟨by rw[E.out];rfl,hb⟩
 have b1:(p.kind != 5)=false:=by simp[h1]
 have p1:(p.kind=5)=True:=eq_true h1;have b2:(u.kind != 5)=false:=by simp[h2]
 have p2:(u.kind=5)=True:=eq_true h2;have Ts:=Hh h1;have WJ:=Hh h2;clear h1 h2
 cases Z5:zU p with
 | false =>
  have E:Hid (yC p u=false):=by rw[Hid,yC];simp[Z5]
  rw[Z5]at VP;clear Z5;go_wp2_with fail
  refine(VP.out _ (hH.below hb (Nat.le_refl _))).mono ?_
  rintro e w1 ⟨rfl,zJ⟩
  have zA:=hb.trans (zJ.mono hb.size);go_wp2_with fail
  go_ret
  exact⟨by rw[E.out];rfl,zA⟩
 | true =>
 rw[Z5]at VP;have TU:=Hh Z5;clear Z5;go_wp2_with fail
 refine(VP.out _ (hH.below hb (Nat.le_refl _))).mono ?_
 rintro e w1 ⟨rfl,zJ⟩
 have hP:=hP.below zJ;have hQ:=hQ.below zJ;have hB:=hB.below zJ;have hb:=hb.trans (zJ.mono hb.size);have a0:=hP.cell 0 rfl;have a1:=hP.cell 1 rfl;have a2:=hP.cell 2 rfl;have a3:=hP.cell 3 rfl;have d0:=hQ.cell 0 rfl;have d1:=hQ.cell 1 rfl;have d2:=hQ.cell 2 rfl;have d3:=hQ.cell 3 rfl;clear zJ
 cases rV:zU u with
 | false =>
  have E:Hid (yC p u=false):=by rw[Hid,yC];simp[rV]
  rw[rV]at VU;clear rV;go_wp2_with fail
  refine(VU.out _ (hH.below hb (Nat.le_refl _))).mono ?_
  rintro e w2 ⟨rfl,zK⟩
  have zA:=hb.trans (zK.mono hb.size);go_wp2_with fail
  go_ret
  exact⟨by rw[E.out];rfl,zA⟩
 | true =>
 rw[rV]at VU;have Wc:=Hh rV
 have E:Hid (yC p u=(yf p.items p.items&&yf u.items u.items&&uC p.items u.items&&(!(wt p u 5).isSome || !(wt p u 6).isSome))):=by
  rw[Hid,yC,TU.out,rV,Ts.out,WJ.out];simp
 have CU:=Hh (tM TU.out Ts.out);have Ed:=Hh (tM rV WJ.out);have R6:=Hh (yQ TU.out);have KH:=Hh (yQ rV);clear rV;go_wp2_with fail
 refine(VU.out _ (hH.below hb (Nat.le_refl _))).mono ?_
 rintro e w2 ⟨rfl,zK⟩
 have hP:=hP.below zK;have hQ:=hQ.below zK;have hB:=hB.below zK;have hb:=hb.trans (zK.mono hb.size);have a0:=hP.cell 0 rfl;have a1:=hP.cell 1 rfl;have a2:=hP.cell 2 rfl;have a3:=hP.cell 3 rfl;have d0:=hQ.cell 0 rfl;have d1:=hQ.cell 1 rfl;have d2:=hQ.cell 2 rfl;have d3:=hQ.cell 3 rfl;have hI:=Blk.new w2 26 (zF p a u b);have hP:=hP.alloc (.cells (zF p a u b) 26);have hQ:=hQ.alloc (.cells (zF p a u b) 26);have hB:=hB.alloc (.cells (zF p a u b) 26);have hb:=hb.alloc hb.size (.cells (zF p a u b) 26);clear zK;go_wp2_with fail
 go_loopw [41] (fun v41 wr=>∃ j:Nat,j≤2∧v41=.int .i64 j∧(1≤j→yf p.items p.items=true)∧(2≤j→yf u.items u.items=true)∧Below w.heap.size w wr∧Blk wr w.heap.size 28 (zF p a u b)∧Blk wr g1 26 #[.int .i64 p.kind,.int .u64 p.n,.slice a.ba p.bytes.length a.bc,.slice a.ia p.items.length a.ic]∧Blk wr g2 26 #[.int .i64 u.kind,.int .u64 u.n,.slice b.ba u.bytes.length b.bc,.slice b.ia u.items.length b.ic]∧Blk wr w2.heap.size 26 (zF p a u b)) (fun v41 _=>2-(intOf v41).toNat)
 case atStart=>exact⟨0,by omega,rfl,by omega,by omega,hb,hB,hP,hQ,hI⟩
 case round =>
 obtain⟨j,hj,rfl,cX,NU,yO,oL,WV,QS,Yr⟩:=hrel;have Mi:=Hh cX;have Ir:=Hh NU;clear cX NU a0 a1 a2 a3 d0 d1 d2 d3
 by_cases zB:j<2
 ·have hm:∃ (m:Itm) (ma:Option Addr) (mb:Nat) (mc:Option Addr) (md:Nat),(j=0→m=p)∧(j=1→m=u)∧m.items.length%2=0∧Modest m∧IsItem H ma mb mc md m∧wr.cell? ⟨w2.heap.size,j*4,none⟩=some (.int .i64 m.kind)∧wr.cell? ⟨w2.heap.size,j*4+1,none⟩=some (.int .u64 m.n)∧
    wr.cell? ⟨w2.heap.size,j*4+2,none⟩=some (.slice ma m.bytes.length mb)∧wr.cell? ⟨w2.heap.size,j*4+3,none⟩=some (.slice mc m.items.length md):=by
   rcases(by omega:j=0∨j=1) with rfl | rfl
   ·exact⟨p,a.ba,a.bc,a.ia,a.ic,fun _=>rfl,by omega,CU.out,R6.out,HP.out,Yr.cell _ rfl,Yr.cell _ rfl,Yr.cell _ rfl,Yr.cell _ rfl⟩
   exact⟨u,b.ba,b.bc,b.ia,b.ic,by omega,fun _=>rfl,Ed.out,KH.out,HU.out,Yr.cell _ rfl,Yr.cell _ rfl,Yr.cell _ rfl,Yr.cell _ rfl⟩
  obtain⟨m,ma,mb,mc,md,ey,qM,OR,lA,cT,e0,e1,e2,e3⟩:=hm
  have BAD:Hid (yf m.items m.items=false→yC p u=false):=by
   intro h
   rcases(by omega:j=0∨j=1) with rfl | rfl
   ·rw[ey rfl]at h;rw[E.out,h];rfl
   rw[qM rfl]at h;rw[E.out,h];simp
  have GOOD:Hid (yf m.items m.items=true→(1≤j+1→yf p.items p.items=true)∧(2≤j+1→yf u.items u.items=true)):=by
   intro h
   rcases(by omega:j=0∨j=1) with rfl | rfl
   ·rw[ey rfl]at h;exact⟨fun _=>h,by omega⟩
   rw[qM rfl]at h;exact⟨fun _=>Mi.out (by omega),fun _=>h⟩
  have Eo:=Hh cT;have rI:=Hh lA;have No:=Hh OR;have Rc:=lA.parts.2.1;have hT:=Blk.new wr 26 #[.int .i64 m.kind,.int .u64 m.n,.slice ma m.bytes.length mb,.slice mc m.items.length md];have yO:=yO.alloc yO.size (zh m ma mb mc md);have oL:=oL.alloc (zh m ma mb mc md);have WV:=WV.alloc (zh m ma mb mc md);have QS:=QS.alloc (zh m ma mb mc md);have Yr:=Yr.alloc (zh m ma mb mc md);clear ey qM OR lA cT;obtain⟨wo,EL⟩:∃ wo:World,wo=wr:=⟨_,rfl⟩
  subst EL;go_wp2_with fail
  go_loopw [7] (fun v7 wr=>∃ i:Nat,i≤m.items.length∧i%2=0∧v7=.int .i64 i∧yf m.items (m.items.drop i)=yf m.items m.items∧Below w.heap.size w wr∧Blk wr w.heap.size 28 (zF p a u b)∧Blk wr g1 26 #[.int .i64 p.kind,.int .u64 p.n,.slice a.ba p.bytes.length a.bc,.slice a.ia p.items.length a.ic]∧Blk wr g2 26 #[.int .i64 u.kind,.int .u64 u.n,.slice b.ba u.bytes.length b.bc,.slice b.ia u.items.length b.ic]∧Blk wr w2.heap.size 26 (zF p a u b)∧
   Blk wr wo.heap.size 26 #[.int .i64 m.kind,.int .u64 m.n,.slice ma m.bytes.length mb,.slice mc m.items.length md]) (fun v7 _=>m.items.length-(intOf v7).toNat)
  case atStart=>exact⟨0,by omega,rfl,rfl,rfl,yO,oL,WV,QS,Yr,hT⟩
  case round =>
  obtain⟨i,hi,Tl,rfl,hs,km,m5,QR,RN,J8,Fr⟩:=hrel;have HS:=Hh hs;have WI:=Hh Tl;have f3:=Fr.cell 3 rfl;clear hs Tl yO oL WV QS Yr hT e0 e1 e2 e3
  by_cases hlt2:i<m.items.length
  ·have OR:=No.out;have Tl:=WI.out;have be:i+1<m.items.length:=by omega
   have yG:Holds wr H:=hH.below km (Nat.le_refl _);obtain⟨ib,io,tK,xA⟩:=Eo.out.items (by omega);obtain⟨y1,y2,y3,y4,q0,q1,q2,q3,f9⟩:=xA.get i hlt2;obtain⟨z1,z2,z3,z4,s0,s1,s2,s3,mn⟩:=xA.get (i+1) be;have vd:=Hh (HS.out.symm.trans (iM m.items m.items i be));have mq:=rI.out.parts.2.2.get i hlt2;have GL:=rI.out.parts.2.2.get (i+1) be;have qp:((i:Int)+1).toNat=i+1:=by omega
   have oe:(i:Int)+1<m.items.length:=by omega
   have qK:(i:Int)<m.items.length:=by omega
   have pz:IntKind.i64.wrap ((i:Int)+1)=(i:Int)+1:=IntWalk.i64_in _ (by omega);have OI:(0:Int)≤(i:Int)+1:=by omega
   generalize m.items[i]'hlt2=y at *
   generalize m.items[i+1]'be=z at *
   subst tK;have LB:=Hh (fun w1:World=>av f9.arg w1);have VL:=Hh (fun(w1:World) (h:Holds w1 H)=>Y8 (a:=⟨y1,y2,y3,y4⟩) (b:=⟨z1,z2,z3,z4⟩) (c:=⟨ma,mb,some ⟨ib,io,none⟩,md⟩) mq GL rI.out f9 mn Eo.out w1 h);have zP:=yG.drew;have yH:=km.drew;have vI:=m5.drew;have tv:=QR.drew;have rJ:=RN.drew;have Kg:=J8.drew;have tA:=Fr.drew;clear xA mq GL f9 mn yG m5 QR RN J8 OR Tl
   cases hlab:wO y with
   | false =>
    rw[hlab]at LB vd;have EN:Hid (yC p u=false):=BAD.out (by rw[vd.out];rfl);clear hlab;go_upto_region 10 with fail
    refine zw 22 (fun w'=>w'.cell? ⟨wo.heap.size,0,none⟩=some (.int .i64 m.kind)∧w'.cell? ⟨wo.heap.size,1,none⟩=some (.int .u64 m.n)∧w'.cell? ⟨wo.heap.size,2,none⟩=some (.slice ma m.bytes.length mb)∧w'.cell? ⟨wo.heap.size,3,none⟩=some (.slice (some ⟨ib,io,none⟩) m.items.length md)∧w'.cell? ⟨ib,io+i*4,none⟩=some (.int .i64 y.kind)∧w'.cell? ⟨ib,io+i*4+1,none⟩=some (.int .u64 y.n)∧w'.cell? ⟨ib,io+i*4+2,none⟩=some (.slice y1 y.bytes.length y2)∧w'.cell? ⟨ib,io+i*4+3,none⟩=some (.slice y3 y.items.length y4)∧w'.cell? ⟨ib,io+(i+1)*4,none⟩=some (.int .i64 z.kind)∧w'.cell? ⟨ib,io+(i+1)*4+1,none⟩=some (.int .u64 z.n)∧w'.cell? ⟨ib,io+(i+1)*4+2,none⟩=some (.slice z1 z.bytes.length z2)∧w'.cell? ⟨ib,io+(i+1)*4+3,none⟩=some (.slice z3 z.items.length z4)) (by kernel_rfl) (⟨tA.cell 0 rfl,tA.cell 1 rfl,tA.cell 2 rfl,tA.cell 3 rfl,zP.cell q0,zP.cell q1,zP.cell q2,zP.cell q3,zP.cell s0,zP.cell s1,zP.cell s2,zP.cell s3⟩) (fun zy=>?_)
    refine Tk 0 rfl zy ?_
    refine Tk 1 rfl zy ?_
    refine Tk 2 rfl zy ?_
    refine Tk 3 rfl zy ?_
    refine Tk 4 rfl zy ?_
    refine To 5 rfl fun K hK=>?_
    go_simp
    refine(LB.out _).mono ?_
    rintro e w5 ⟨rfl,xS⟩
    have yH:=yH.trans (xS.mono yH.size);have tA:=tA.below xS;have zP:=zP.below xS (Nat.le_refl _)
    refine Ko hK ?_ fun zy=>?_
    ·exact⟨tA.cell 0 rfl,tA.cell 1 rfl,tA.cell 2 rfl,tA.cell 3 rfl,zP.cell q0,zP.cell q1,zP.cell q2,zP.cell q3,zP.cell s0,zP.cell s1,zP.cell s2,zP.cell s3⟩
    clear hK K
    refine Tk 6 rfl zy ?_
    refine Tk 7 rfl zy ?_
    refine TkU 8 rfl zy ?_
    refine TkU 9 rfl zy ?_
    refine TkU 10 rfl zy ?_
    refine TkU 11 rfl zy ?_
    refine TkU 12 rfl zy ?_
    refine TkU 13 rfl zy ?_
    refine TkU 14 rfl zy ?_
    refine TkU 15 rfl zy ?_
    refine TkU 16 rfl zy ?_
    refine TkU 17 rfl zy ?_
    refine TkU 18 rfl zy ?_
    refine TkU 19 rfl zy ?_
    refine TkU 20 rfl zy ?_
    refine TkU 21 rfl zy ?_
    refine To 22 rfl fun K hK=>?_
    go_simp
    refine Kz hK ?_
    clear hK K
    refine Wd ?_
    clear zy;go_wp2_with fail
    go_ret
    exact⟨by rw[EN.out];rfl,yH⟩
   | true =>
   rw[hlab]at LB vd;clear hlab;go_upto_region 10 with fail
   refine zw 22 (fun w'=>w'.cell? ⟨wo.heap.size,0,none⟩=some (.int .i64 m.kind)∧w'.cell? ⟨wo.heap.size,1,none⟩=some (.int .u64 m.n)∧w'.cell? ⟨wo.heap.size,2,none⟩=some (.slice ma m.bytes.length mb)∧w'.cell? ⟨wo.heap.size,3,none⟩=some (.slice (some ⟨ib,io,none⟩) m.items.length md)∧w'.cell? ⟨ib,io+i*4,none⟩=some (.int .i64 y.kind)∧w'.cell? ⟨ib,io+i*4+1,none⟩=some (.int .u64 y.n)∧w'.cell? ⟨ib,io+i*4+2,none⟩=some (.slice y1 y.bytes.length y2)∧w'.cell? ⟨ib,io+i*4+3,none⟩=some (.slice y3 y.items.length y4)∧w'.cell? ⟨ib,io+(i+1)*4,none⟩=some (.int .i64 z.kind)∧w'.cell? ⟨ib,io+(i+1)*4+1,none⟩=some (.int .u64 z.n)∧w'.cell? ⟨ib,io+(i+1)*4+2,none⟩=some (.slice z1 z.bytes.length z2)∧w'.cell? ⟨ib,io+(i+1)*4+3,none⟩=some (.slice z3 z.items.length z4)) (by kernel_rfl) (⟨tA.cell 0 rfl,tA.cell 1 rfl,tA.cell 2 rfl,tA.cell 3 rfl,zP.cell q0,zP.cell q1,zP.cell q2,zP.cell q3,zP.cell s0,zP.cell s1,zP.cell s2,zP.cell s3⟩) (fun zy=>?_)
   refine Tk 0 rfl zy ?_
   refine Tk 1 rfl zy ?_
   refine Tk 2 rfl zy ?_
   refine Tk 3 rfl zy ?_
   refine Tk 4 rfl zy ?_
   refine To 5 rfl fun K hK=>?_
   go_simp
   refine(LB.out _).mono ?_
   rintro e w5 ⟨rfl,xS⟩
   have yH:=yH.trans (xS.mono yH.size);have tA:=tA.below xS;have vI:=vI.below xS;have tv:=tv.below xS;have rJ:=rJ.below xS;have Kg:=Kg.below xS;have zP:=zP.below xS (Nat.le_refl _)
   refine Ko hK ?_ fun zy=>?_
   ·exact⟨tA.cell 0 rfl,tA.cell 1 rfl,tA.cell 2 rfl,tA.cell 3 rfl,zP.cell q0,zP.cell q1,zP.cell q2,zP.cell q3,zP.cell s0,zP.cell s1,zP.cell s2,zP.cell s3⟩
   clear hK K
   refine Tk 6 rfl zy ?_
   refine Tk 7 rfl zy ?_
   refine TkG 8 rfl zy ?_
   refine TkG 9 rfl zy ?_
   refine TkG 10 rfl zy ?_
   refine TkG 11 rfl zy ?_
   refine TkG 12 rfl zy ?_
   refine TkG 13 rfl zy ?_
   refine TkG 14 rfl zy ?_
   refine TkG 15 rfl zy ?_
   refine TkG 16 rfl zy ?_
   refine TkG 17 rfl zy ?_
   refine TkG 18 rfl zy ?_
   refine TkG 19 rfl zy ?_
   refine To 20 rfl fun K hK=>?_
   go_simp
   refine(VL.out _ zP).mono ?_
   rintro e w6 ⟨rfl,xT⟩
   have yH:=yH.trans (xT.mono yH.size);have tA:=tA.below xT;have vI:=vI.below xT;have tv:=tv.below xT;have rJ:=rJ.below xT;have Kg:=Kg.below xT;have zP:=zP.below xT (Nat.le_refl _)
   refine Ko hK ?_ fun zy=>?_
   ·exact⟨tA.cell 0 rfl,tA.cell 1 rfl,tA.cell 2 rfl,tA.cell 3 rfl,zP.cell q0,zP.cell q1,zP.cell q2,zP.cell q3,zP.cell s0,zP.cell s1,zP.cell s2,zP.cell s3⟩
   clear hK K
   refine TkG 21 rfl zy ?_
   refine To 22 rfl fun K hK=>?_
   go_simp
   refine Kz hK ?_
   clear hK K
   refine Wd ?_
   clear zy
   cases ts:x9 y z m.items with
   | false =>
    rw[ts]at vd;have EN:Hid (yC p u=false):=BAD.out (by rw[vd.out];rfl);clear ts;go_wp2_with fail
    go_ret
    exact⟨by rw[EN.out];rfl,yH⟩
   | true =>
   rw[ts]at vd;have EN:Hid (yf m.items (m.items.drop (i+2))=yf m.items m.items):=by rw[Hid,vd.out];rfl
   have mw:(i+2)%2=0:=by have:=WI.out;omega
   clear ts zP;go_wp2_with fail
   go_roundw
   case rel=>exact⟨i+2,by omega,mw,by omega,EN.out⟩
   case measure=>simp[intOf];omega
  have EN:=GOOD.out (by rw[← HS.out];exact fK _ _ _ (by omega));have Ec:=Hh EN;clear EN;go_wp2_with fail
  go_roundw
  case rel=>exact⟨j+1,by omega,by go_num,Ec.out.1,Ec.out.2,km,m5,QR,RN,J8⟩
  case measure=>simp[intOf];omega
 have BW:¬ (j:Int)<2:=by omega
 have E2:Hid (yC p u=(uC p.items u.items&&(!(wt p u 5).isSome || !(wt p u 6).isSome))):=by
  rw[Hid,E.out,Mi.out (by omega),Ir.out (by omega)];rfl
 clear Yr;have d3:=QS.cell 3 rfl;go_wp2_with fail
 go_loopw [8] (fun v8 wr=>∃ i:Nat,i≤u.items.length∧i%2=0∧v8=.int .i64 i∧uC p.items (u.items.drop i)=uC p.items u.items∧Below w.heap.size w wr∧Blk wr w.heap.size 28 (zF p a u b)∧Blk wr g1 26 #[.int .i64 p.kind,.int .u64 p.n,.slice a.ba p.bytes.length a.bc,.slice a.ia p.items.length a.ic]∧Blk wr g2 26 #[.int .i64 u.kind,.int .u64 u.n,.slice b.ba u.bytes.length b.bc,.slice b.ia u.items.length b.ic]) (fun v8 _=>u.items.length-(intOf v8).toNat)
 case atStart=>exact⟨0,by omega,rfl,rfl,rfl,yO,oL,WV,QS⟩
 case round =>
 obtain⟨i,hi,Tl,rfl,hs,km,m5,QR,RN⟩:=hrel;have HS:=Hh hs;have WI:=Hh Tl;have f3:=RN.cell 3 rfl;have Rc:=KH.out.parts.2.1;clear hs Tl d3 yO oL WV QS
 by_cases hlt2:i<u.items.length
 ·have OR:=Ed.out;have Tl:=WI.out;have be:i+1<u.items.length:=by omega
  have yG:Holds wr H:=hH.below km (Nat.le_refl _);obtain⟨ib,io,tK,xA⟩:=HU.out.items (by omega);obtain⟨y1,y2,y3,y4,q0,q1,q2,q3,f9⟩:=xA.get i hlt2;have vd:=Hh (HS.out.symm.trans (aX p.items u.items i be));have mq:=KH.out.parts.2.2.get i hlt2;have qK:(i:Int)<u.items.length:=by omega
  generalize u.items[i]'hlt2=y at *
  have AT:=Hh (fun(w1:World) (h:Holds w1 H)=>bO R6.out mq HP.out.arg f9.arg w1 h);have SM:=Hh (fun(w1:World) (H1:Snap) (hl:H.le H1) (xa:Option Addr) (xb:Nat) (xc:Option Addr) (xd:Nat) (qp:IsItem H1 xa xb xc xd (zZ 2)) (h:Holds w1 H1)=>pV y (zZ 2) H1 _ _ y1 _ y2 y3 _ y4 _ _ xa _ xb xc _ xd w1 mq (uX 2) (f9.mono hl).arg qp.arg h);have Cb:=Hh tK;clear tK;have WW:∀ {wq:World},Blk wq g2 26 #[.int .i64 u.kind,.int .u64 u.n,.slice b.ba u.bytes.length b.bc,.slice b.ia u.items.length b.ic]→wq.cell? ⟨g2,3,none⟩=some (.slice (some ⟨ib,io,none⟩) u.items.length b.ic):=fun h=>by rw[h.cell 3 rfl];show some (Value.slice b.ia _ _)=_;rw[Cb.out]
  have zP:=yG.drew;have yH:=km.drew;have vI:=m5.drew;have tv:=QR.drew;have rJ:=RN.drew;clear xA mq f9 OR Tl m5 QR RN km yG;go_upto_region 16 with fail
  clear f3;go_cut [10] (fun s10 wx=>s10=.bool (atL y p.items).isSome∧Below w.heap.size w wx∧Blk wx w.heap.size 28 (zF p a u b)∧Blk wx g1 26 #[.int .i64 p.kind,.int .u64 p.n,.slice a.ba p.bytes.length a.bc,.slice a.ia p.items.length a.ic]∧Blk wx g2 26 #[.int .i64 u.kind,.int .u64 u.n,.slice b.ba u.bytes.length b.bc,.slice b.ia u.items.length b.ic])
  case first =>
   refine zw 12 (fun w'=>w'.cell? ⟨g1,0,none⟩=some (.int .i64 p.kind)∧w'.cell? ⟨g1,1,none⟩=some (.int .u64 p.n)∧w'.cell? ⟨g1,2,none⟩=some (.slice a.ba p.bytes.length a.bc)∧w'.cell? ⟨g1,3,none⟩=some (.slice a.ia p.items.length a.ic)∧w'.cell? ⟨g2,3,none⟩=some (.slice (some ⟨ib,io,none⟩) u.items.length b.ic)∧w'.cell? ⟨ib,io+i*4,none⟩=some (.int .i64 y.kind)∧w'.cell? ⟨ib,io+i*4+1,none⟩=some (.int .u64 y.n)∧w'.cell? ⟨ib,io+i*4+2,none⟩=some (.slice y1 y.bytes.length y2)∧w'.cell? ⟨ib,io+i*4+3,none⟩=some (.slice y3 y.items.length y4)) (by kernel_rfl) (⟨tv.cell 0 rfl,tv.cell 1 rfl,tv.cell 2 rfl,tv.cell 3 rfl,WW rJ,zP.cell q0,zP.cell q1,zP.cell q2,zP.cell q3⟩) (fun zy=>?_)
   refine Tk 0 rfl zy ?_
   refine Tk 1 rfl zy ?_
   refine Tk 2 rfl zy ?_
   refine Tk 3 rfl zy ?_
   refine Tk 4 rfl zy ?_
   refine Tk 5 rfl zy ?_
   refine Ways.two (i:=6) (j:=10) rfl rfl (by kernel_rfl) (fun K hK=>?_) (fun K hK=>?_)
   ·go_simp
    refine(AT.out _ zP).mono ?_
    rintro e w5 ⟨⟨ra,rb,rc,rd,rfl,_⟩,xS⟩
    have tv:=tv.below xS;have rJ:=rJ.below xS;have vI:=vI.below xS
    try have hN:=hN.below xS
    have zP:=zP.below xS (Nat.le_refl _);have yH:=yH.trans (xS.mono yH.size)
    refine Ko hK ?_ fun zy=>?_
    ·exact⟨tv.cell 0 rfl,tv.cell 1 rfl,tv.cell 2 rfl,tv.cell 3 rfl,WW rJ,zP.cell q0,zP.cell q1,zP.cell q2,zP.cell q3⟩
    clear hK K
    refine Tk 7 rfl zy ?_
    refine Tk 8 rfl zy ?_
    refine Tk 9 rfl zy ?_
    refine To 10 rfl fun K hK=>?_
    go_simp
    have hN:=yW yH 26 #[.int .i64 0,.int .u64 0,.slice none 0 0,.slice none 0 0];have ik:=tv.lt;have og:=rJ.lt;have Jb:=vI.lt;have NQ:=yH.size
    try simp only[zL,zr]at hN ik og Jb NQ
    have tv:=tv.alloc zT;have rJ:=rJ.alloc zT;have vI:=vI.alloc zT;have zP:=zP.alloc zT;have yH:=yH.alloc yH.size zT
    refine Ko hK ?_ fun zy=>?_
    ·exact⟨tv.cell 0 rfl,tv.cell 1 rfl,tv.cell 2 rfl,tv.cell 3 rfl,WW rJ,zP.cell q0,zP.cell q1,zP.cell q2,zP.cell q3⟩
    clear hK K
    refine To 11 rfl fun K hK=>?_
    rw[if_pos (by rfl)]
    refine zm _ _ _ rfl _ _ rfl rfl _ _ hN zp rfl (ua _ _ _ _ rfl rfl rfl rfl) fun w6 JA xX=>?_
    have zP:Holds _ H:=hH.below (yH.grown xX yH.size (by rintro q ⟨⟩;omega)) (Nat.le_refl _);have tv:=tv.grown xX (by first | (simp;done) | (simp;omega));have rJ:=rJ.grown xX (by first | (simp;done) | (simp;omega));have vI:=vI.grown xX (by first | (simp;done) | (simp;omega));have yH:=yH.grown xX yH.size (by rintro q ⟨⟩;omega)
    refine Ko hK ?_ fun zy=>?_
    ·exact⟨tv.cell 0 rfl,tv.cell 1 rfl,tv.cell 2 rfl,tv.cell 3 rfl,WW rJ,zP.cell q0,zP.cell q1,zP.cell q2,zP.cell q3⟩
    clear hK K
    refine To 12 rfl fun K hK=>?_
    go_simp
    refine Kz hK ?_
    clear hK K
    refine Wd ?_
    go_wp2_with fail
    go_meet
    exact⟨rfl,yH,vI,tv,rJ⟩
   go_simp
   have hN:=yW yH 26 #[.int .i64 0,.int .u64 0,.slice none 0 0,.slice none 0 0];have ik:=tv.lt;have og:=rJ.lt;have Jb:=vI.lt;have NQ:=yH.size
   try simp only[zL,zr]at hN ik og Jb NQ
   have tv:=tv.alloc zT;have rJ:=rJ.alloc zT;have vI:=vI.alloc zT;have zP:=zP.alloc zT;have yH:=yH.alloc yH.size zT
   refine Ko hK ?_ fun zy=>?_
   ·exact⟨tv.cell 0 rfl,tv.cell 1 rfl,tv.cell 2 rfl,tv.cell 3 rfl,WW rJ,zP.cell q0,zP.cell q1,zP.cell q2,zP.cell q3⟩
   clear hK K
   refine To 6 rfl fun K hK=>?_
   go_simp
   refine(AT.out _ zP).mono ?_
   rintro e w5 ⟨⟨ra,rb,rc,rd,rfl,_⟩,xS⟩
   have tv:=tv.below xS;have rJ:=rJ.below xS;have vI:=vI.below xS
   try have hN:=hN.below xS
   have zP:=zP.below xS (Nat.le_refl _);have yH:=yH.trans (xS.mono yH.size)
   refine Ko hK ?_ fun zy=>?_
   ·exact⟨tv.cell 0 rfl,tv.cell 1 rfl,tv.cell 2 rfl,tv.cell 3 rfl,WW rJ,zP.cell q0,zP.cell q1,zP.cell q2,zP.cell q3⟩
   clear hK K
   refine Tk 7 rfl zy ?_
   refine Tk 8 rfl zy ?_
   refine Tk 9 rfl zy ?_
   refine To 11 rfl fun K hK=>?_
   rw[if_pos (by rfl)]
   refine zm _ _ _ rfl _ _ rfl rfl _ _ hN zp rfl (ua _ _ _ _ rfl rfl rfl rfl) fun w6 JA xX=>?_
   have zP:Holds _ H:=hH.below (yH.grown xX yH.size (by rintro q ⟨⟩;omega)) (Nat.le_refl _);have tv:=tv.grown xX (by first | (simp;done) | (simp;omega));have rJ:=rJ.grown xX (by first | (simp;done) | (simp;omega));have vI:=vI.grown xX (by first | (simp;done) | (simp;omega));have yH:=yH.grown xX yH.size (by rintro q ⟨⟩;omega)
   refine Ko hK ?_ fun zy=>?_
   ·exact⟨tv.cell 0 rfl,tv.cell 1 rfl,tv.cell 2 rfl,tv.cell 3 rfl,WW rJ,zP.cell q0,zP.cell q1,zP.cell q2,zP.cell q3⟩
   clear hK K
   refine To 12 rfl fun K hK=>?_
   go_simp
   refine Kz hK ?_
   clear hK K
   refine Wd ?_
   go_wp2_with fail
   go_meet
   exact⟨rfl,yH,vI,tv,rJ⟩
  case rest =>
  clear zP yH vI tv rJ;obtain⟨rfl,yH,vI,tv,rJ⟩:=hcut;have zP:Holds wc.drew H:=(hH.below yH (Nat.le_refl _)).drew;have tv:=tv.drew;have rJ:=rJ.drew;have vI:=vI.drew;have yH:=yH.drew
  cases hat:(atL y p.items).isSome with
  | true =>
   rw[hat]at vd;have EN:Hid (yC p u=false):=by rw[Hid,E2.out,vd.out];rfl
   clear hat;go_upto_region 17 with fail
   refine zw 9 (fun w'=>w'.cell? ⟨g2,3,none⟩=some (.slice (some ⟨ib,io,none⟩) u.items.length b.ic)∧w'.cell? ⟨ib,io+i*4,none⟩=some (.int .i64 y.kind)∧w'.cell? ⟨ib,io+i*4+1,none⟩=some (.int .u64 y.n)∧w'.cell? ⟨ib,io+i*4+2,none⟩=some (.slice y1 y.bytes.length y2)∧w'.cell? ⟨ib,io+i*4+3,none⟩=some (.slice y3 y.items.length y4)) (by kernel_rfl) (⟨WW rJ,zP.cell q0,zP.cell q1,zP.cell q2,zP.cell q3⟩) (fun zy=>?_)
   refine Tk 0 rfl zy ?_
   refine Tk 1 rfl zy ?_
   refine TkU 2 rfl zy ?_
   refine TkU 3 rfl zy ?_
   refine TkU 4 rfl zy ?_
   refine TkU 5 rfl zy ?_
   refine TkU 6 rfl zy ?_
   refine TkU 7 rfl zy ?_
   refine TkU 8 rfl zy ?_
   refine To 9 rfl fun K hK=>?_
   go_simp
   refine Kz hK ?_
   clear hK K
   refine Wd ?_
   clear zy;go_wp2_with fail
   go_ret
   exact⟨by rw[EN.out];rfl,yH⟩
  | false =>
  rw[hat]at vd;clear hat;go_upto_region 17 with fail
  refine zw 9 (fun w'=>w'.cell? ⟨g2,3,none⟩=some (.slice (some ⟨ib,io,none⟩) u.items.length b.ic)∧w'.cell? ⟨ib,io+i*4,none⟩=some (.int .i64 y.kind)∧w'.cell? ⟨ib,io+i*4+1,none⟩=some (.int .u64 y.n)∧w'.cell? ⟨ib,io+i*4+2,none⟩=some (.slice y1 y.bytes.length y2)∧w'.cell? ⟨ib,io+i*4+3,none⟩=some (.slice y3 y.items.length y4)) (by kernel_rfl) (⟨WW rJ,zP.cell q0,zP.cell q1,zP.cell q2,zP.cell q3⟩) (fun zy=>?_)
  refine Tk 0 rfl zy ?_
  refine Tk 1 rfl zy ?_
  refine TkG 2 rfl zy ?_
  refine TkG 3 rfl zy ?_
  refine TkG 4 rfl zy ?_
  refine TkG 5 rfl zy ?_
  refine TkG 6 rfl zy ?_
  refine To 7 rfl fun K hK=>?_
  go_simp
  refine(ug 2 (by omega) (by omega) _ zP).mono ?_
  rintro e w8 ⟨v8,rfl,rn⟩
  have tv:=tv.below rn.below;have rJ:=rJ.below rn.below;have vI:=vI.below rn.below;have zP:=zP.below rn.below (Nat.le_refl _);have yH:=yH.trans (rn.below.mono yH.size);obtain⟨xa,xb,xc,xd,H1,rfl,sQ,qp⟩:=rn
  refine Ko hK ?_ fun zy=>?_
  ·exact⟨WW rJ,zP.cell q0,zP.cell q1,zP.cell q2,zP.cell q3⟩
  clear hK K
  refine To 8 rfl fun K hK=>?_
  go_simp
  refine(SM.out _ H1 sQ.le xa xb xc xd qp sQ.holds).mono ?_
  rintro e w9 ⟨rfl,pu⟩
  have tv:=tv.below pu;have rJ:=rJ.below pu;have vI:=vI.below pu;have zP:=zP.below pu (Nat.le_refl _);have yH:=yH.trans (pu.mono yH.size)
  refine Ko hK ?_ fun zy=>?_
  ·exact⟨WW rJ,zP.cell q0,zP.cell q1,zP.cell q2,zP.cell q3⟩
  clear hK K
  refine To 9 rfl fun K hK=>?_
  go_simp
  refine Kz hK ?_
  clear hK K
  refine Wd ?_
  clear zy zP
  cases hsm:yp y (zZ 2) with
  | true =>
   rw[hsm]at vd;have EN:Hid (yC p u=false):=by rw[Hid,E2.out,vd.out];rfl
   clear hsm;go_wp2_with fail
   go_ret
   exact⟨by rw[EN.out];rfl,yH⟩
  | false =>
  rw[hsm]at vd;have EN:Hid (uC p.items (u.items.drop (i+2))=uC p.items u.items):=by rw[Hid,vd.out];rfl
  have mw:(i+2)%2=0:=by have:=WI.out;omega
  clear hsm;go_wp2_with fail
  go_roundw
  case rel=>first | exact⟨i+2,by omega,mw,by go_num,EN.out,yH,vI,tv,rJ⟩ | exact⟨i+2,by omega,mw,by omega,EN.out⟩
  case measure=>simp[intOf];omega
 have EN:Hid (yC p u=(!(wt p u 5).isSome || !(wt p u 6).isSome)):=by
  rw[Hid,E2.out,← HS.out,Xj _ _ _ (by omega)];rfl
 have g0:=m5.cell 0 rfl;have g1':=m5.cell 1 rfl;have g2':=m5.cell 2 rfl;have g3':=m5.cell 3 rfl;have g4:=m5.cell 4 rfl;have g5:=m5.cell 5 rfl;have g6:=m5.cell 6 rfl;have g7:=m5.cell 7 rfl;have F:=Hh (fun(n:Int) (h1 : -9223372036854775808≤n) (h2:n≤9223372036854775807) (w1:World) (h:Holds w1 H)=>eI R6.out KH.out HP.out HU.out n h1 h2 w1 h);have cV:¬ (i:Int)<u.items.length:=by omega
 clear hlt2 QR RN;go_wp2_with fail
 refine(F.out 5 (by omega) (by omega) _ (hH.below km (Nat.le_refl _))).mono ?_
 rintro e w5 ⟨v5,rfl,Z6⟩
 have xS:=km.trans (Z6.below.mono km.size);have lL:=m5.below Z6.below;obtain⟨xa,xb,xc,xd,H5,rfl,vB,_⟩:=Z6;have xT:=xS.alloc xS.size (zh ((wt p u 5).getD zn) xa xb xc xd);have er:=lL.alloc (zh ((wt p u 5).getD zn) xa xb xc xd);have g0:=er.cell 0 rfl;have g1':=er.cell 1 rfl;have g2':=er.cell 2 rfl;have g3':=er.cell 3 rfl;have g4:=er.cell 4 rfl;have g5:=er.cell 5 rfl;have g6:=er.cell 6 rfl;have g7:=er.cell 7 rfl
 generalize vC:wt p u 5=o5 at *
 generalize o5.getD zn=z5 at *
 clear xS lL vB km m5;go_wp2_with fail
 refine(F.out 6 (by omega) (by omega) _ (hH.below xT (Nat.le_refl _))).mono ?_
 rintro e w7 ⟨v7,rfl,o4⟩
 have wJ:=xT.trans (o4.below.mono xT.size);obtain⟨ya,yb,yc,yd,H7,rfl,vV,_⟩:=o4;have oN:=wJ.alloc wJ.size (zh ((wt p u 6).getD zn) ya yb yc yd)
 generalize tC:wt p u 6=o6 at *
 generalize o6.getD zn=z6 at *
 have EN':Hid (yC p u=(!o5.isSome || !o6.isSome)):=EN.out
 generalize o5.isSome=t5 at *
 generalize o6.isSome=t6 at *
 clear vC tC EN
 cases t5 <;> cases t6
 all_goals
  go_wp2_with fail
  go_ret
  exact⟨by rw[EN'.out];rfl,oN⟩
theorem qQ {H:Snap}(hTab:Tabs H) {p u:Itm}{a b:Ad}(hp:IsItem H a.ba a.bc a.ia a.ic p) (hu:IsItem H b.ba b.bc b.ia b.ic u) (w:World) (hH:Holds w H) :
  Calls Tryz.prog 33 #[.agg (zF p a u b)] w fun e w'=>e=.returned (.bool (zI p u))∧Below w.heap.size w w':=by
 refine(dG hTab hp hu w hH).mono fun e w' h=>?_
 rw[qW hp.nums hu.nums]at h
 exact h
def szL (x:Itm):Nat:=(zG x.items).length
theorem zC (k:Int) (n:Nat) (bs:List UInt8) (l:List Itm) (h8:k≠8) (h7:k≠7):(zi (.mk k n bs l)).length≤9+bs.length+(zG l).length:=by
 rw[xJ,if_neg (by simpa [Itm.kind] using h8),if_neg (by simp[Itm.kind,h7])];have:=(un k.toNat (xp (.mk k n bs l))).2
 simp only[Itm.kind,Itm.bytes,Itm.items,List.length_append]
 omega
theorem r9 (k:Int) (hk:k=2∨k=3) (bs:List UInt8) (lv:Nat) (hv:k=3→Lib.validD bs=true):Good (.mk k 0 bs []) lv:=by
 refine Good.of ?_ (by simp only[Itm.items];rw[GoodL];trivial) (fun h=>by simp only[Itm.kind]at h;omega)
 rw[xZ,if_pos (by rw[zH];simp only[Itm.kind];omega)]
 rcases hk with rfl | rfl
 ·simp[yu,Itm.kind,Itm.n,Itm.items]
 simp[yu,Itm.kind,Itm.n,Itm.items,Itm.bytes,hv rfl]
theorem jR {ctx:List UInt8}{p:Itm}{ext:List UInt8}{pay:List (List UInt8)}(hc:Lib.validD ctx=true):Good (yD ctx p ext pay) 0:=by
 refine Good.of ?_ ?_ (fun h=>by simp[yD,Itm.kind]at h)
 ·rw[xZ,if_neg (by rw[zH];simp[yD,Itm.kind])]
  simp[wR,yD,Itm.kind,Itm.bytes,Itm.n]
 refine GoodL.of fun x hx=>?_
 simp only[yD,Itm.items,List.cons_append,List.nil_append,List.mem_cons,List.mem_map]at hx
 rcases hx with rfl | rfl | rfl | ⟨l,_,rfl⟩
 ·exact r9 3 (.inr rfl) _ _ (fun _=>hc)
 ·exact r9 2 (.inl rfl) _ _ (fun h=>by omega)
 ·exact r9 2 (.inl rfl) _ _ (fun h=>by omega)
 exact r9 2 (.inl rfl) _ _ (fun h=>by omega)
theorem lZ {ctx:List UInt8}{p:Itm}{ext a:List UInt8}(hc:Lib.validD ctx=true) (hl:ctx.length+(wP p).length+ext.length+a.length≤4000):zU (yD ctx p ext [a])=true:=by
 rw[yw]
 refine⟨jR hc, ?_, ?_⟩
 ·simp[yD,cnt,vY]
 have h0:=zC 4 0 [] ([.mk 3 0 ctx [],yg (wP p),yg ext]++[a].map yg) (by omega) (by omega);have h1:=zC 3 0 ctx [] (by omega) (by omega);have h2:(zi (yg (wP p))).length≤_:=zC 2 0 (wP p) [] (by omega) (by omega);have h3:(zi (yg ext)).length≤_:=zC 2 0 ext [] (by omega) (by omega);have h4:(zi (yg a)).length≤_:=zC 2 0 a [] (by omega) (by omega)
 simp only[yD,List.map_cons,List.map_nil,List.cons_append,List.nil_append,zG,List.length_append,List.length_nil]at h0 h1 h2 h3 h4⊢
 omega
theorem Y2 {p:Itm}(p5:p.kind=5) (hb:p.bytes=[]):(wP p).length≤9+szL p:=by
 unfold wP
 split
 ·simp
 cases p with
 | mk k n bs l =>
 simp only[Itm.kind,Itm.bytes]at p5 hb
 subst p5 hb;have:=zC 5 n [] l (by omega) (by omega)
 simpa [szL,Itm.items] using this
abbrev yy:Itm:=.mk 5 0 [] []
abbrev Gw:Itm:=.mk 5 0 [] [.mk 0 1 [] [],.mk 0 10 [] []]
theorem qN:zU yy=true:=by
 rw[yw]
 refine⟨Good.of rfl (by simp only[Itm.items];rw[GoodL];trivial) (fun _=>rfl),by simp[cnt,vY], ?_⟩
 rw[xJ]
 simp[Itm.kind,Itm.bytes,Itm.items,zG]
 have:=(un 5 (xp yy)).2
 omega
theorem Oc:zU Gw=true:=by
 rw[yw]
 refine⟨Good.of (by rw[xZ,if_neg (by rw[zH];simp[Itm.kind])];simp[wR,Itm.kind,Itm.bytes,Itm.n,Itm.items]) (GoodL.of fun x hx=>?_) (fun _=>rfl),by simp[cnt,vY], ?_⟩
 ·simp[Itm.items]at hx
  rcases hx with rfl | rfl
  ·exact pS 1 1
  exact pS 10 1
 have h0:=zC 5 0 [] [.mk 0 1 [] [],.mk 0 10 [] []] (by omega) (by omega);have h1:=zC 0 1 [] [] (by omega) (by omega);have h2:=zC 0 10 [] [] (by omega) (by omega)
 simp only[zG,List.length_append,List.length_nil]at h0 h1 h2
 show(zi (.mk 5 0 [] [.mk 0 1 [] [],.mk 0 10 [] []])).length≤4096
 omega
theorem qU:Nums yy:=by rw[Nums,NumsL];exact⟨by omega,trivial⟩
theorem pL:zI yy yy=true:=by
 rw[← qW qU qU,yC]
 simp[pC,qN,Itm.kind,Itm.items,yf,uC,wt,atL]
theorem aE (n:Int):wt yy yy n=none:=by simp[wt,atL,Itm.items]
theorem P0:zZ 1=.mk 0 1 [] []:=by simp[zZ]
theorem yB:Modest zn:=by rw[Modest,ModestL];exact⟨by simp,by simp,trivial⟩
theorem tN (n:Int):(zi (zZ n)).length≤9:=by
 unfold zZ
 split
 ·have:=zC 1 (-1-n).toNat [] [] (by omega) (by omega);simpa [zG] using this
 have:=zC 0 n.toNat [] [] (by omega) (by omega);simpa [zG] using this
def eO (v:Itm):Prop:=∃ k:Nat,(k=10∨k=30∨k=5∨k=4)∧v=.mk 0 k [] []
abbrev Su (k:Nat):Itm:=.mk 5 0 [] [.mk 0 1 [] [],.mk 0 k [] []]
theorem pH (k:Nat):zU (Su k)=true:=by
 rw[yw]
 refine⟨Good.of (by rw[xZ,if_neg (by rw[zH];simp[Itm.kind])];simp[wR,Itm.kind,Itm.bytes,Itm.n,Itm.items]) (GoodL.of fun x hx=>?_) (fun _=>rfl),by simp[cnt,vY], ?_⟩
 ·simp[Itm.items]at hx
  rcases hx with rfl | rfl
  ·exact pS 1 1
  exact pS k 1
 have h0:=zC 5 0 [] [.mk 0 1 [] [],.mk 0 k [] []] (by omega) (by omega);have h1:=zC 0 1 [] [] (by omega) (by omega);have h2:=zC 0 k [] [] (by omega) (by omega)
 simp only[zG,List.length_append,List.length_nil]at h0 h1 h2
 show(zi (.mk 5 0 [] [.mk 0 1 [] [],.mk 0 k [] []])).length≤4096
 omega
theorem gY {k:Nat}(h:k<18446744073709551616):Nums (Su k):=by
 rw[Nums,NumsL,NumsL,NumsL,Nums,NumsL,Nums,NumsL]
 exact⟨by omega,⟨by omega,trivial⟩,⟨by omega,trivial⟩,trivial⟩
theorem cd {k:Nat}(h:k=10∨k=30∨k=5∨k=4):zI (Su k) yy=true:=by
 rw[← qW (gY (by omega)) qU,yC]
 rcases h with rfl | rfl | rfl | rfl <;>
  simp[pC,qN,pH,Itm.kind,Itm.items,Itm.n,yf,uC,wt,atL,wO,wg,x9,zZ,yp,vU]
theorem ce {k:Nat}(h:k=10∨k=30∨k=5∨k=4):zI yy (Su k)=true:=by
 rw[← qW qU (gY (by omega)),yC]
 rcases h with rfl | rfl | rfl | rfl <;>
  simp[pC,qN,pH,Itm.kind,Itm.items,Itm.n,yf,uC,wt,atL,wO,wg,x9,zZ,yp,vU]
section
variable {w w':World} {base:Nat} {H:Snap} {l:List Itm}
theorem OwnI.parts {A:Option Addr}{m c:Nat}(h:OwnI w base (.slice A m c) H l) (k:Nat):∃ cs1 cs2,ItemsC H cs1 (l.take k)∧ItemsC H cs2 (l.drop k)∧Src w A cs1∧(k<l.length→∃ b off,A=some ⟨b,off,none⟩∧Src w (some ⟨b,off+k*4,none⟩) cs2):=by
 obtain⟨cs,hc,ho⟩:=h;have hs:=Src.of_own ho;obtain⟨h1,h2⟩:=hc.split k
 refine⟨_,_,h1,h2,fun wS=>?_,fun hk=>?_⟩
 ·obtain⟨b,off,e,hx⟩:=hs (by rintro rfl;simp at wS)
  exact⟨b,off,e,fun j v hj=>hx j v (by rw[List.getElem?_take]at hj;split at hj;exact hj;cases hj)⟩
 obtain⟨b,off,e,hx⟩:=hs (by rintro rfl;have:=hc.len;simp at this;omega)
 refine⟨b,off,e,fun _=>⟨b,off+k*4,rfl,fun j v hj=>?_⟩⟩
 rw[List.getElem?_drop]at hj;rw[Nat.add_assoc]
 exact hx _ v hj
theorem OwnI.cells {A:Option Addr}{m c:Nat}(h:OwnI w base (.slice A m c) H l) (k:Nat) (hk:k<l.length):∃ b off,A=some ⟨b,off,none⟩∧∃ ba bc ia ic,w.cell? ⟨b,off+k*4,none⟩=some (.int .i64 l[k].kind)∧w.cell? ⟨b,off+k*4+1,none⟩=some (.int .u64 l[k].n)∧
  w.cell? ⟨b,off+k*4+2,none⟩=some (.slice ba l[k].bytes.length bc)∧w.cell? ⟨b,off+k*4+3,none⟩=some (.slice ia l[k].items.length ic)∧IsItem H ba bc ia ic l[k]:=by
 obtain⟨cs,hc,ho⟩:=h;obtain⟨b,off,e,hx⟩:=Src.of_own ho (by rintro rfl;have:=hc.len;simp at this;omega);obtain⟨ba,bc,ia,ic,h0,h1,h2,h3,hi⟩:=hc.get k hk
 exact⟨b,off,e,ba,bc,ia,ic,hx _ _ h0,hx _ _ h1,hx _ _ h2,hx _ _ h3,hi⟩
end
theorem yz {w w':World}{a:Addr}{v:Value}(h:w.cell? a=some v) (hb:Below w.heap.size w w'):w'.cell? a=some v:=(hb.cell (World.block_lt_of_cell? w _ h)).trans h
theorem uO {w:World}{a:Addr}{v:Value}(h:w.cell? a=some v):w.drew.cell? a=some v:=h
theorem OwnI.drew {w:World}{base:Nat}{v:Value}{H:Snap}{l:List Itm}(h:OwnI w base v H l):OwnI w.drew base v H l:=h
theorem qg {A:Option Addr}{m c q:Nat}(h:A.map (·.block)=some q):(Value.slice A m c).ownBlock=some q:=by cases A <;> simp_all [Value.ownBlock]
theorem Src.slicek {w:World}{H:Snap}{A:Option Addr}{cs:List Value}{L:List Itm}{k j vc:Nat}(h:k<L.length→∃ b off,A=some ⟨b,off,none⟩∧Src w (some ⟨b,off+k*4,none⟩) cs) (hc:ItemsC H cs (L.drop k)) (hL:L.length=j) (L4:(j:Int)≤vc) :
  Src w (if vc=k then A else Option.map (fun x=>x.add (k*4)) A) cs:=by
 by_cases hk:k<L.length
 ·obtain⟨b,off,rfl,hs⟩:=h hk;rw[if_neg (by omega),Option.map_some,qx]
  exact hs
 rw[List.drop_eq_nil_of_le (by omega),ItemsC]at hc;subst hc
 exact Src.nil _ _
theorem mH {B:Nat}{w wr:World}(_h:Below B w wr) (t:TypeId) (cs:Array Value):Src (wr.alloc (.cells cs t)) (some ⟨wr.heap.size,0,none⟩) cs.toList:=Src.lit _ _ _
def BuildSaid (w:World) (H:Snap) (ps:List Itm) (e:Ending) (w':World):Prop :=
 ∃ v,(∃ l,e=.returned (.tuple #[v,.int .i64 0])∧Gives w H (.mk 5 0 [] l) v w'∧zU (.mk 5 0 [] l)=true∧(zG l).length=(zG ps).length∧(ps.length=2→l=ps))∨
  (∃ c,e=.returned (.tuple #[v,.int .i64 c])∧c≠0∧Gives w H zn v w'∧¬ (ps.length=2∧(∀ x∈ps,zU x=true)∧zU (.mk 5 0 [] ps)=true))
theorem dl (L:List Itm) (k:Nat) (y z:Itm):(zG (L.take k++[y,z]++L.drop k)).length=(zG L).length+(zi y).length+(zi z).length:=by
 have h:=congrArg List.length (uN (L.take k) (L.drop k));rw[List.take_append_drop]at h;rw[uN,uN]
 simp only[zG,List.length_append,List.append_nil]at h⊢
 omega
end Go.Proofs.YtliomcphdnppnaaGreatDoor
