/- squeezed. Walks: the references' validity of -/
import Derived.Test.YtliomcphdnppnaaGreatDoorK27
import Derived.Test.YtliomcphdnppnaaGreatDoorK25
set_option linter.unusedVariables false
set_option linter.unusedSimpArgs false
set_option maxRecDepth 100000
set_option maxHeartbeats 25600000
namespace Go.Proofs.YtliomcphdnppnaaGreatDoor
open Go.RowKit
theorem jaC{P:Prop}(h:P:=by
 have hb:=hb.alloc hb.size zi
 refine Ko hK ?_ fun zy=>?_
 ·exact jeo
 clear hK K
 refine To 6 rfl fun K hK=>?_
 rw[if_pos (by rfl)]
 refine zh _ _ _ rfl _ _ rfl rfl _ _ hP zu rfl (tR _ _ _ _ rfl rfl rfl rfl) fun w5 hP xv=>?_
 have hB:=hB.grown xv (by first | (simp;done) | (simp;omega));have hQ:=hQ.grown xv (by first | (simp;done) | (simp;omega));have hb:=hb.grown xv hb.size (by rintro q ⟨⟩;omega)
 refine Ko hK ?_ fun zy=>?_
 ·exact jeo
 clear hK K
 refine To 7 rfl fun K hK=>?_
 rw[if_pos (by rfl)]
 refine zh _ _ _ rfl _ _ rfl rfl _ _ hQ zu rfl (tR _ _ _ _ rfl rfl rfl rfl) fun w6 hQ ws=>?_
 have hB:=hB.grown ws (by first | (simp;done) | (simp;omega));have hP:=hP.grown ws (by first | (simp;done) | (simp;omega));have hb:=hb.grown ws hb.size (by rintro q ⟨⟩;omega)
 refine Kz hK ?_
 clear hK K
 refine Wd ?_
 go_wp2_with fail
 go_meet
 exact⟨_,_,rfl,rfl,hP,hQ,hB,hb⟩):P:=h
theorem jaR{P:Prop}(h:P:=by
 refine To 11 rfl fun K hK=>?_
 rw[if_pos (by rfl)]
 refine zh _ _ _ rfl _ _ rfl rfl _ _ hN zu rfl (tR _ _ _ _ rfl rfl rfl rfl) fun w6 hN6 ws=>?_
 have zE:Holds _ H:=hH.below (xO.grown ws xO.size (by rintro q ⟨⟩;omega)) (Nat.le_refl _);have ry:=ry.grown ws (by first | (simp;done) | (simp;omega));have oc:=oc.grown ws (by first | (simp;done) | (simp;omega));have tp:=tp.grown ws (by first | (simp;done) | (simp;omega));have xO:=xO.grown ws xO.size (by rintro q ⟨⟩;omega)
 refine Ko hK ?_ fun zy=>?_
 ·exact jeH
 clear hK K
 refine To 12 rfl fun K hK=>?_
 go_simp
 refine Kz hK ?_
 clear hK K
 refine Wd ?_
 go_wp2_with fail
 go_meet
 exact⟨rfl,xO,tp,ry,oc⟩):P:=h
theorem ja5{P:Prop}(h:P:=by exact jeH):P:=h
theorem jbr{P:Prop}(h:P:=by exact⟨qq.cell 0 rfl,qq.cell 1 rfl,qq.cell 2 rfl,qq.cell 3 rfl,zE.cell q0,zE.cell q1,zE.cell q2,zE.cell q3,zE.cell s0,zE.cell s1,zE.cell s2,zE.cell s3⟩):P:=h
theorem jbT{P:Prop}(h:P:=by
 go_wp2_with fail
 refine N2.out.mono ?_
 rintro e w2 ⟨q,rfl,hq,xz⟩
 have K1:IntKind.u64.wrap (q:Int)=(q:Int):=IntWalk.u64_in _ (by omega);go_wp2_with fail
 go_ret
 exact⟨q,rfl,by omega,tq.trans xz⟩):P:=h
theorem jcf{P:Prop}(h:P:=by
 go_wp2_with fail
 go_ret
 exact⟨by rw[EN.out];rfl,xO⟩):P:=h
theorem jcH{P:Prop}(h:P:=by
 rcases h with rfl | rfl | rfl | rfl <;>
  simp[lX,nQ,ln,Itm.kind,Itm.items,Itm.n,yB,sI,vj,atL,uw,vW,vx,zS,yL,uD]):P:=h
theorem jdO{P:Prop}(h:P:=by exact⟨Q7 oc,zE.cell q0,zE.cell q1,zE.cell q2,zE.cell q3⟩):P:=h
theorem jeH{P:Prop}(h:P:=by exact⟨ry.cell 0 rfl,ry.cell 1 rfl,ry.cell 2 rfl,ry.cell 3 rfl,Q7 oc,zE.cell q0,zE.cell q1,zE.cell q2,zE.cell q3⟩):P:=h
theorem jeU{P:Prop}(h:P:=by
 go_simp
 refine Kz hK ?_
 clear hK K
 refine Wd ?_
 clear zy;exact jcf):P:=h
theorem jfP{P:Prop}(h:P:=by have a0:=hP.cell 0 rfl;have a1:=hP.cell 1 rfl;have a2:=hP.cell 2 rfl;have a3:=hP.cell 3 rfl;have d0:=hQ.cell 0 rfl;have d1:=hQ.cell 1 rfl;have d2:=hQ.cell 2 rfl;have d3:=hQ.cell 3 rfl;exact And.intro a0 (And.intro a1 (And.intro a2 (And.intro a3 (And.intro d0 (And.intro d1 (And.intro d2 d3))))))):P:=h
theorem cO (m l:List Itm) (k:Nat) (hk:k+1<l.length):yB m (l.drop k)=(uw l[k]&&vx l[k] l[k+1] m&&yB m (l.drop (k+2))):=by
 rw[List.drop_eq_getElem_cons (show k<l.length by omega),List.drop_eq_getElem_cons hk,yB]
theorem V4 (p l:List Itm) (k:Nat) (hk:k+1<l.length):sI p (l.drop k)=(!((atL l[k] p).isSome||yL l[k] (zS 2))&&sI p (l.drop (k+2))):=by
 rw[List.drop_eq_getElem_cons (show k<l.length by omega),List.drop_eq_getElem_cons hk,sI]
theorem Zf (m l:List Itm) (k:Nat) (hk:l.length≤k):yB m (l.drop k)=true:=by
 rw[List.drop_eq_nil_of_le hk,yB];intro _ _ _ h;cases h
theorem RN (p l:List Itm) (k:Nat) (hk:l.length≤k):sI p (l.drop k)=true:=by
 rw[List.drop_eq_nil_of_le hk,sI];intro _ _ _ h;cases h
theorem Xb {H:Snap}(hTab:Tabs H) {p u:Itm}{a b:Ad}(hp:IsItem H a.ba a.bc a.ia a.ic p) (hu:IsItem H b.ba b.bc b.ia b.ic u) (w:World) (hH:Holds w H) :
  Calls Tryz.prog 33 #[.agg (zA p a u b)] w fun e w'=>e=.returned (.bool (xL p u))∧Below w.heap.size w w':=by
 have HP:=Hh hp;have HU:=Hh hu;have hB:=(Blk.new w 28 (zA p a u b)).drew;have hb:=(zo w (.cells (zA p a u b) 28)).drew;have zE:Holds (w.alloc (.cells (zA p a u b) 28)).drew H:=(hH.alloc _).drew;go_enter Tryz.func33,Tryz.ntmps33
 go_upto_region 1 with fail
 go_cut [3,4] (fun s3 s4 wx=>∃ g1 g2,s3=.pointer (some ⟨g1,0,none⟩)∧s4=.pointer (some ⟨g2,0,none⟩)∧Blk wx g1 26 #[.int .i64 p.kind,.int .u64 p.n,.slice a.ba p.bytes.length a.bc,.slice a.ia p.items.length a.ic]∧
  Blk wx g2 26 #[.int .i64 u.kind,.int .u64 u.n,.slice b.ba u.bytes.length b.bc,.slice b.ia u.items.length b.ic]∧Blk wx w.heap.size 28 (zA p a u b)∧Below w.heap.size w wx)
 case first =>
  refine zw 7 (fun w'=>w'.cell? ⟨w.heap.size,0,none⟩=some (.int .i64 p.kind)∧w'.cell? ⟨w.heap.size,1,none⟩=some (.int .u64 p.n)∧w'.cell? ⟨w.heap.size,2,none⟩=some (.slice a.ba p.bytes.length a.bc)∧w'.cell? ⟨w.heap.size,3,none⟩=some (.slice a.ia p.items.length a.ic)∧w'.cell? ⟨w.heap.size,4,none⟩=some (.int .i64 u.kind)∧w'.cell? ⟨w.heap.size,5,none⟩=some (.int .u64 u.n)∧w'.cell? ⟨w.heap.size,6,none⟩=some (.slice b.ba u.bytes.length b.bc)∧w'.cell? ⟨w.heap.size,7,none⟩=some (.slice b.ia u.items.length b.ic)) (by kernel_rfl) (⟨hB.cell 0 rfl,hB.cell 1 rfl,hB.cell 2 rfl,hB.cell 3 rfl,hB.cell 4 rfl,hB.cell 5 rfl,hB.cell 6 rfl,hB.cell 7 rfl⟩) (fun zy=>?_)
  refine Tk 0 rfl zy ?_
  refine Tk 1 rfl zy ?_
  refine Tk 2 rfl zy ?_
  refine Tk 3 rfl zy ?_
  refine Ways.two (i:=4) (j:=5) rfl rfl (by kernel_rfl) (fun K hK=>?_) (fun K hK=>?_)
  ·go_simp
   have hP:=jfC
   try simp only[zW,zr]at hP
   have hB:=hB.alloc zi
   try have hQ:=hQ.alloc zi
   have hb:=hb.alloc hb.size zi
   refine Ko hK ?_ fun zy=>?_
   ·exact jaM
   clear hK K
   refine To 5 rfl fun K hK=>?_
   go_simp
   have hQ:=xl hb 26 #[.int .i64 0,.int .u64 0,.slice none 0 0,.slice none 0 0]
   try simp only[zW,zr]at hQ
   have hB:=hB.alloc zi
   try have hP:=hP.alloc zi
   exact jaC
  go_simp
  have hQ:=xl hb 26 #[.int .i64 0,.int .u64 0,.slice none 0 0,.slice none 0 0]
  try simp only[zW,zr]at hQ
  have hB:=hB.alloc zi
  try have hP:=hP.alloc zi
  have hb:=hb.alloc hb.size zi
  refine Ko hK ?_ fun zy=>?_
  ·exact jaM
  clear hK K
  refine To 4 rfl fun K hK=>?_
  go_simp
  have hP:=jfC
  try simp only[zW,zr]at hP
  have hB:=hB.alloc zi
  try have hQ:=hQ.alloc zi
  exact jaC
 case rest =>
 clear hB hb zE;obtain⟨g1,g2,rfl,rfl,hP,hQ,hB,hb⟩:=hcut;have VP:=Hh (fun(w1:World) (h:Holds w1 H)=>qP hTab HP.out.arg w1 h);have VU:=Hh (fun(w1:World) (h:Holds w1 H)=>qP hTab HU.out.arg w1 h);obtain⟨a0,a1,a2,a3,d0,d1,d2,d3⟩:=jfP;clear hp hu
 by_cases h1:p.kind=5
 case neg =>
  have E:Hid (xL p u=false):=by rw[Hid,xL];simp[h1]
  have b1:(p.kind != 5)=true:=by simp[h1]
  have p1:(p.kind=5)=False:=eq_false h1;clear h1;go_wp2_with fail
  go_ret
  exact⟨by rw[E.out];rfl,hb⟩
 by_cases h2:u.kind=5
 case neg =>
  have E:Hid (xL p u=false):=by rw[Hid,xL];simp[h2]
  have b1:(p.kind != 5)=false:=by simp[h1]
  have p1:(p.kind=5)=True:=eq_true h1;have b2:(u.kind != 5)=true:=by simp[h2]
  have p2:(u.kind=5)=False:=eq_false h2;clear h1 h2;go_wp2_with fail
  go_ret
  exact⟨by rw[E.out];rfl,hb⟩
 have b1:(p.kind != 5)=false:=by simp[h1]
 have p1:(p.kind=5)=True:=eq_true h1;have b2:(u.kind != 5)=false:=by simp[h2]
 have p2:(u.kind=5)=True:=eq_true h2;have QF:=Hh h1;have Su:=Hh h2;clear h1 h2
 cases TL:zJ p with
 | false =>
  have E:Hid (xL p u=false):=by rw[Hid,xL];simp[TL]
  rw[TL]at VP;clear TL;go_wp2_with fail
  refine(VP.out _ (hH.below hb (Nat.le_refl _))).mono ?_
  rintro e w1 ⟨rfl,zB⟩
  have yz:=hb.trans (zB.mono hb.size);exact jbE
 | true =>
 rw[TL]at VP;have Ls:=Hh TL;clear TL;go_wp2_with fail
 refine(VP.out _ (hH.below hb (Nat.le_refl _))).mono ?_
 rintro e w1 ⟨rfl,zB⟩
 have hP:=hP.below zB;have hQ:=hQ.below zB;have hB:=hB.below zB;have hb:=hb.trans (zB.mono hb.size);obtain⟨a0,a1,a2,a3,d0,d1,d2,d3⟩:=jfP;clear zB
 cases ru:zJ u with
 | false =>
  have E:Hid (xL p u=false):=by rw[Hid,xL];simp[ru]
  rw[ru]at VU;clear ru;go_wp2_with fail
  refine(VU.out _ (hH.below hb (Nat.le_refl _))).mono ?_
  rintro e w2 ⟨rfl,zG⟩
  have yz:=hb.trans (zG.mono hb.size);exact jbE
 | true =>
 rw[ru]at VU;have WU:=Hh ru
 have E:Hid (xL p u=(yB p.items p.items&&yB u.items u.items&&sI p.items u.items&&(!(vj p u 5).isSome || !(vj p u 6).isSome))):=by
  rw[Hid,xL,Ls.out,ru,QF.out,Su.out];simp
 have HEP:=Hh (rL Ls.out QF.out);have HEU:=Hh (rL ru Su.out);have JB:=Hh (yU Ls.out);have AC:=Hh (yU ru);clear ru;go_wp2_with fail
 refine(VU.out _ (hH.below hb (Nat.le_refl _))).mono ?_
 rintro e w2 ⟨rfl,zG⟩
 have hP:=hP.below zG;have hQ:=hQ.below zG;have hB:=hB.below zG;have hb:=hb.trans (zG.mono hb.size);obtain⟨a0,a1,a2,a3,d0,d1,d2,d3⟩:=jfP;have hI:=Blk.new w2 26 (zA p a u b);have hP:=hP.alloc (.cells (zA p a u b) 26);have hQ:=hQ.alloc (.cells (zA p a u b) 26);have hB:=hB.alloc (.cells (zA p a u b) 26);have hb:=hb.alloc hb.size (.cells (zA p a u b) 26);clear zG;go_wp2_with fail
 go_loopw [41] (fun v41 wr=>∃ j:Nat,j≤2∧v41=.int .i64 j∧(1≤j→yB p.items p.items=true)∧(2≤j→yB u.items u.items=true)∧Below w.heap.size w wr∧Blk wr w.heap.size 28 (zA p a u b)∧Blk wr g1 26 #[.int .i64 p.kind,.int .u64 p.n,.slice a.ba p.bytes.length a.bc,.slice a.ia p.items.length a.ic]∧Blk wr g2 26 #[.int .i64 u.kind,.int .u64 u.n,.slice b.ba u.bytes.length b.bc,.slice b.ia u.items.length b.ic]∧Blk wr w2.heap.size 26 (zA p a u b)) (fun v41 _=>2-(intOf v41).toNat)
 case atStart=>exact⟨0,by omega,rfl,by omega,by omega,hb,hB,hP,hQ,hI⟩
 case round =>
 obtain⟨j,hj,rfl,X6,EF,xY,kh,Q6,IR,Sy⟩:=hrel;have DG:=Hh X6;have HOU:=Hh EF;clear X6 EF a0 a1 a2 a3 d0 d1 d2 d3
 by_cases yu:j<2
 ·have hm:∃ (m:Itm) (ma:Option Addr) (mb:Nat) (mc:Option Addr) (md:Nat),(j=0→m=p)∧(j=1→m=u)∧m.items.length%2=0∧Modest m∧IsItem H ma mb mc md m∧wr.cell? ⟨w2.heap.size,j*4,none⟩=some (.int .i64 m.kind)∧wr.cell? ⟨w2.heap.size,j*4+1,none⟩=some (.int .u64 m.n)∧
    wr.cell? ⟨w2.heap.size,j*4+2,none⟩=some (.slice ma m.bytes.length mb)∧wr.cell? ⟨w2.heap.size,j*4+3,none⟩=some (.slice mc m.items.length md):=by
   rcases(by omega:j=0∨j=1) with rfl | rfl
   ·exact⟨p,a.ba,a.bc,a.ia,a.ic,fun _=>rfl,by omega,HEP.out,JB.out,HP.out,Sy.cell _ rfl,Sy.cell _ rfl,Sy.cell _ rfl,Sy.cell _ rfl⟩
   exact⟨u,b.ba,b.bc,b.ia,b.ic,by omega,fun _=>rfl,HEU.out,AC.out,HU.out,Sy.cell _ rfl,Sy.cell _ rfl,Sy.cell _ rfl,Sy.cell _ rfl⟩
  obtain⟨m,ma,mb,mc,md,aa,qu,Fa,fm,fU,e0,e1,e2,e3⟩:=hm
  have BAD:Hid (yB m.items m.items=false→xL p u=false):=by
   intro h
   rcases(by omega:j=0∨j=1) with rfl | rfl
   ·rw[aa rfl]at h;rw[E.out,h];rfl
   rw[qu rfl]at h;rw[E.out,h];simp
  have GOOD:Hid (yB m.items m.items=true→(1≤j+1→yB p.items p.items=true)∧(2≤j+1→yB u.items u.items=true)):=by
   exact jcc
  have HMI:=Hh fU;have oZ:=Hh fm;have Eg:=Hh Fa;have Wj:=fm.parts.2.1;have hT:=Blk.new wr 26 #[.int .i64 m.kind,.int .u64 m.n,.slice ma m.bytes.length mb,.slice mc m.items.length md];have xY:=xY.alloc xY.size (zU m ma mb mc md);have kh:=kh.alloc (zU m ma mb mc md);have Q6:=Q6.alloc (zU m ma mb mc md);have IR:=IR.alloc (zU m ma mb mc md);have Sy:=Sy.alloc (zU m ma mb mc md);clear aa qu Fa fm fU;obtain⟨wo,hwo⟩:∃ wo:World,wo=wr:=⟨_,rfl⟩
  subst hwo;go_wp2_with fail
  go_loopw [7] (fun v7 wr=>∃ i:Nat,i≤m.items.length∧i%2=0∧v7=.int .i64 i∧yB m.items (m.items.drop i)=yB m.items m.items∧Below w.heap.size w wr∧Blk wr w.heap.size 28 (zA p a u b)∧Blk wr g1 26 #[.int .i64 p.kind,.int .u64 p.n,.slice a.ba p.bytes.length a.bc,.slice a.ia p.items.length a.ic]∧Blk wr g2 26 #[.int .i64 u.kind,.int .u64 u.n,.slice b.ba u.bytes.length b.bc,.slice b.ia u.items.length b.ic]∧Blk wr w2.heap.size 26 (zA p a u b)∧
   Blk wr wo.heap.size 26 #[.int .i64 m.kind,.int .u64 m.n,.slice ma m.bytes.length mb,.slice mc m.items.length md]) (fun v7 _=>m.items.length-(intOf v7).toNat)
  case atStart=>exact⟨0,by omega,rfl,rfl,rfl,xY,kh,Q6,IR,Sy,hT⟩
  case round =>
  obtain⟨i,hi,MI,rfl,hs,gH,gi,Mb,JM,hIs,hTs⟩:=hrel;have HS:=Hh hs;have U6:=Hh MI;have f3:=hTs.cell 3 rfl;clear hs MI xY kh Q6 IR Sy hT e0 e1 e2 e3
  by_cases hlt2:i<m.items.length
  ·have Fa:=Eg.out;have MI:=U6.out;have uJ:i+1<m.items.length:=by omega
   have xN:Holds wr H:=hH.below gH (Nat.le_refl _);obtain⟨ib,io,rC,wY⟩:=HMI.out.items (by omega);obtain⟨y1,y2,y3,y4,q0,q1,q2,q3,ZO⟩:=wY.get i hlt2;obtain⟨z1,z2,z3,z4,s0,s1,s2,s3,ij⟩:=wY.get (i+1) uJ;have uF:=Hh (HS.out.symm.trans (cO m.items m.items i uJ));have ik:=oZ.out.parts.2.2.get i hlt2;have hmz:=oZ.out.parts.2.2.get (i+1) uJ;have oF:((i:Int)+1).toNat=i+1:=by omega
   have pi:(i:Int)+1<m.items.length:=by omega
   have nO:(i:Int)<m.items.length:=by omega
   have rm:IntKind.i64.wrap ((i:Int)+1)=(i:Int)+1:=IntWalk.i64_in _ (by omega);have Wh:(0:Int)≤(i:Int)+1:=by omega
   generalize m.items[i]'hlt2=y at *
   generalize m.items[i+1]'uJ=z at *
   subst rC;have LB:=Hh (fun w1:World=>VY ZO.arg w1);have VL:=Hh (fun(w1:World) (h:Holds w1 H)=>Rv (a:=⟨y1,y2,y3,y4⟩) (b:=⟨z1,z2,z3,z4⟩) (c:=⟨ma,mb,some ⟨ib,io,none⟩,md⟩) ik hmz oZ.out ZO ij HMI.out w1 h);have zE:=xN.drew;have xO:=gH.drew;have tp:=gi.drew;have ry:=Mb.drew;have oc:=JM.drew;have Ag:=hIs.drew;have qq:=hTs.drew;clear wY ik hmz ZO ij xN gi Mb JM hIs Fa MI
   cases hlab:uw y with
   | false =>
    rw[hlab]at LB uF;have EN:Hid (xL p u=false):=BAD.out (by rw[uF.out];rfl);clear hlab;go_upto_region 10 with fail
    refine zw 22 (fun w'=>w'.cell? ⟨wo.heap.size,0,none⟩=some (.int .i64 m.kind)∧w'.cell? ⟨wo.heap.size,1,none⟩=some (.int .u64 m.n)∧w'.cell? ⟨wo.heap.size,2,none⟩=some (.slice ma m.bytes.length mb)∧w'.cell? ⟨wo.heap.size,3,none⟩=some (.slice (some ⟨ib,io,none⟩) m.items.length md)∧w'.cell? ⟨ib,io+i*4,none⟩=some (.int .i64 y.kind)∧w'.cell? ⟨ib,io+i*4+1,none⟩=some (.int .u64 y.n)∧w'.cell? ⟨ib,io+i*4+2,none⟩=some (.slice y1 y.bytes.length y2)∧w'.cell? ⟨ib,io+i*4+3,none⟩=some (.slice y3 y.items.length y4)∧w'.cell? ⟨ib,io+(i+1)*4,none⟩=some (.int .i64 z.kind)∧w'.cell? ⟨ib,io+(i+1)*4+1,none⟩=some (.int .u64 z.n)∧w'.cell? ⟨ib,io+(i+1)*4+2,none⟩=some (.slice z1 z.bytes.length z2)∧w'.cell? ⟨ib,io+(i+1)*4+3,none⟩=some (.slice z3 z.items.length z4)) (by kernel_rfl) (⟨qq.cell 0 rfl,qq.cell 1 rfl,qq.cell 2 rfl,qq.cell 3 rfl,zE.cell q0,zE.cell q1,zE.cell q2,zE.cell q3,zE.cell s0,zE.cell s1,zE.cell s2,zE.cell s3⟩) (fun zy=>?_)
    refine Tk 0 rfl zy ?_
    refine Tk 1 rfl zy ?_
    refine Tk 2 rfl zy ?_
    refine Tk 3 rfl zy ?_
    refine Tk 4 rfl zy ?_
    refine To 5 rfl fun K hK=>?_
    go_simp
    refine(LB.out _).mono ?_
    rintro e w5 ⟨rfl,xS⟩
    have xO:=xO.trans (xS.mono xO.size);have qq:=qq.below xS;have zE:=zE.below xS (Nat.le_refl _)
    refine Ko hK ?_ fun zy=>?_
    ·exact jbr
    clear hK K
    refine Tk 6 rfl zy ?_
    refine Tk 7 rfl zy ?_
    refine TkU 8 rfl zy ?_
    refine TkU 9 rfl zy ?_
    refine TkU 10 rfl zy ?_
    refine TkU 11 rfl zy ?_
    refine TkU 12 rfl zy ?_
    refine TkU 13 rfl zy ?_
    refine TkU 14 rfl zy ?_
    refine TkU 15 rfl zy ?_
    refine TkU 16 rfl zy ?_
    refine TkU 17 rfl zy ?_
    refine TkU 18 rfl zy ?_
    refine TkU 19 rfl zy ?_
    refine TkU 20 rfl zy ?_
    refine TkU 21 rfl zy ?_
    refine To 22 rfl fun K hK=>?_
    exact jeU
   | true =>
   rw[hlab]at LB uF;clear hlab;go_upto_region 10 with fail
   refine zw 22 (fun w'=>w'.cell? ⟨wo.heap.size,0,none⟩=some (.int .i64 m.kind)∧w'.cell? ⟨wo.heap.size,1,none⟩=some (.int .u64 m.n)∧w'.cell? ⟨wo.heap.size,2,none⟩=some (.slice ma m.bytes.length mb)∧w'.cell? ⟨wo.heap.size,3,none⟩=some (.slice (some ⟨ib,io,none⟩) m.items.length md)∧w'.cell? ⟨ib,io+i*4,none⟩=some (.int .i64 y.kind)∧w'.cell? ⟨ib,io+i*4+1,none⟩=some (.int .u64 y.n)∧w'.cell? ⟨ib,io+i*4+2,none⟩=some (.slice y1 y.bytes.length y2)∧w'.cell? ⟨ib,io+i*4+3,none⟩=some (.slice y3 y.items.length y4)∧w'.cell? ⟨ib,io+(i+1)*4,none⟩=some (.int .i64 z.kind)∧w'.cell? ⟨ib,io+(i+1)*4+1,none⟩=some (.int .u64 z.n)∧w'.cell? ⟨ib,io+(i+1)*4+2,none⟩=some (.slice z1 z.bytes.length z2)∧w'.cell? ⟨ib,io+(i+1)*4+3,none⟩=some (.slice z3 z.items.length z4)) (by kernel_rfl) (⟨qq.cell 0 rfl,qq.cell 1 rfl,qq.cell 2 rfl,qq.cell 3 rfl,zE.cell q0,zE.cell q1,zE.cell q2,zE.cell q3,zE.cell s0,zE.cell s1,zE.cell s2,zE.cell s3⟩) (fun zy=>?_)
   refine Tk 0 rfl zy ?_
   refine Tk 1 rfl zy ?_
   refine Tk 2 rfl zy ?_
   refine Tk 3 rfl zy ?_
   refine Tk 4 rfl zy ?_
   refine To 5 rfl fun K hK=>?_
   go_simp
   refine(LB.out _).mono ?_
   rintro e w5 ⟨rfl,xS⟩
   have xO:=xO.trans (xS.mono xO.size);have qq:=qq.below xS;have tp:=tp.below xS;have ry:=ry.below xS;have oc:=oc.below xS;have Ag:=Ag.below xS;have zE:=zE.below xS (Nat.le_refl _)
   refine Ko hK ?_ fun zy=>?_
   ·exact jbr
   clear hK K
   refine Tk 6 rfl zy ?_
   refine Tk 7 rfl zy ?_
   refine TkG 8 rfl zy ?_
   refine TkG 9 rfl zy ?_
   refine TkG 10 rfl zy ?_
   refine TkG 11 rfl zy ?_
   refine TkG 12 rfl zy ?_
   refine TkG 13 rfl zy ?_
   refine TkG 14 rfl zy ?_
   refine TkG 15 rfl zy ?_
   refine TkG 16 rfl zy ?_
   refine TkG 17 rfl zy ?_
   refine TkG 18 rfl zy ?_
   refine TkG 19 rfl zy ?_
   refine To 20 rfl fun K hK=>?_
   go_simp
   refine(VL.out _ zE).mono ?_
   rintro e w6 ⟨rfl,wX⟩
   have xO:=xO.trans (wX.mono xO.size);have qq:=qq.below wX;have tp:=tp.below wX;have ry:=ry.below wX;have oc:=oc.below wX;have Ag:=Ag.below wX;have zE:=zE.below wX (Nat.le_refl _)
   refine Ko hK ?_ fun zy=>?_
   ·exact jbr
   clear hK K
   refine TkG 21 rfl zy ?_
   refine To 22 rfl fun K hK=>?_
   go_simp
   refine Kz hK ?_
   clear hK K
   refine Wd ?_
   clear zy
   cases rv:vx y z m.items with
   | false =>
    rw[rv]at uF;have EN:Hid (xL p u=false):=BAD.out (by rw[uF.out];rfl);clear rv;exact jcf
   | true =>
   rw[rv]at uF;have EN:Hid (yB m.items (m.items.drop (i+2))=yB m.items m.items):=by rw[Hid,uF.out];rfl
   have rV:(i+2)%2=0:=by have:=U6.out;omega
   clear rv zE;go_wp2_with fail
   go_roundw
   case rel=>exact⟨i+2,by omega,rV,by omega,EN.out⟩
   case measure=>simp[intOf];omega
  have EN:=GOOD.out (by rw[← HS.out];exact Zf _ _ _ (by omega));have HEN:=Hh EN;clear EN;go_wp2_with fail
  go_roundw
  case rel=>exact⟨j+1,by omega,by go_num,HEN.out.1,HEN.out.2,gH,gi,Mb,JM,hIs⟩
  case measure=>simp[intOf];omega
 have hjn:¬ (j:Int)<2:=by omega
 have E2:Hid (xL p u=(sI p.items u.items&&(!(vj p u 5).isSome || !(vj p u 6).isSome))):=by
  rw[Hid,E.out,DG.out (by omega),HOU.out (by omega)];rfl
 clear Sy;have d3:=IR.cell 3 rfl;go_wp2_with fail
 go_loopw [8] (fun v8 wr=>∃ i:Nat,i≤u.items.length∧i%2=0∧v8=.int .i64 i∧sI p.items (u.items.drop i)=sI p.items u.items∧Below w.heap.size w wr∧Blk wr w.heap.size 28 (zA p a u b)∧Blk wr g1 26 #[.int .i64 p.kind,.int .u64 p.n,.slice a.ba p.bytes.length a.bc,.slice a.ia p.items.length a.ic]∧Blk wr g2 26 #[.int .i64 u.kind,.int .u64 u.n,.slice b.ba u.bytes.length b.bc,.slice b.ia u.items.length b.ic]) (fun v8 _=>u.items.length-(intOf v8).toNat)
 case atStart=>exact⟨0,by omega,rfl,rfl,rfl,xY,kh,Q6,IR⟩
 case round =>
 obtain⟨i,hi,MI,rfl,hs,gH,gi,Mb,JM⟩:=hrel;have HS:=Hh hs;have U6:=Hh MI;have f3:=JM.cell 3 rfl;have Wj:=AC.out.parts.2.1;clear hs MI d3 xY kh Q6 IR
 by_cases hlt2:i<u.items.length
 ·have Fa:=HEU.out;have MI:=U6.out;have uJ:i+1<u.items.length:=by omega
  have xN:Holds wr H:=hH.below gH (Nat.le_refl _);obtain⟨ib,io,rC,wY⟩:=HU.out.items (by omega);obtain⟨y1,y2,y3,y4,q0,q1,q2,q3,ZO⟩:=wY.get i hlt2;have uF:=Hh (HS.out.symm.trans (V4 p.items u.items i uJ));have ik:=AC.out.parts.2.2.get i hlt2;have nO:(i:Int)<u.items.length:=by omega
  generalize u.items[i]'hlt2=y at *
  have AT:=Hh (fun(w1:World) (h:Holds w1 H)=>Vu JB.out ik HP.out.arg ZO.arg w1 h);have SM:=Hh (fun(w1:World) (H1:Snap) (hl:H.le H1) (xa:Option Addr) (xb:Nat) (xc:Option Addr) (xd:Nat) (oF:IsItem H1 xa xb xc xd (zS 2)) (h:Holds w1 H1)=>pz y (zS 2) H1 _ _ y1 _ y2 y3 _ y4 _ _ xa _ xb xc _ xd w1 ik (sw 2) (ZO.mono hl).arg oF.arg h);have HIA:=Hh rC;clear rC;have Q7:∀ {wq:World},Blk wq g2 26 #[.int .i64 u.kind,.int .u64 u.n,.slice b.ba u.bytes.length b.bc,.slice b.ia u.items.length b.ic]→wq.cell? ⟨g2,3,none⟩=some (.slice (some ⟨ib,io,none⟩) u.items.length b.ic):=fun h=>by rw[h.cell 3 rfl];show some (Value.slice b.ia _ _)=_;rw[HIA.out]
  have zE:=xN.drew;have xO:=gH.drew;have tp:=gi.drew;have ry:=Mb.drew;have oc:=JM.drew;clear wY ik ZO Fa MI gi Mb JM gH xN;go_upto_region 16 with fail
  clear f3;go_cut [10] (fun s10 wx=>s10=.bool (atL y p.items).isSome∧Below w.heap.size w wx∧Blk wx w.heap.size 28 (zA p a u b)∧Blk wx g1 26 #[.int .i64 p.kind,.int .u64 p.n,.slice a.ba p.bytes.length a.bc,.slice a.ia p.items.length a.ic]∧Blk wx g2 26 #[.int .i64 u.kind,.int .u64 u.n,.slice b.ba u.bytes.length b.bc,.slice b.ia u.items.length b.ic])
  case first =>
   refine zw 12 (fun w'=>w'.cell? ⟨g1,0,none⟩=some (.int .i64 p.kind)∧w'.cell? ⟨g1,1,none⟩=some (.int .u64 p.n)∧w'.cell? ⟨g1,2,none⟩=some (.slice a.ba p.bytes.length a.bc)∧w'.cell? ⟨g1,3,none⟩=some (.slice a.ia p.items.length a.ic)∧w'.cell? ⟨g2,3,none⟩=some (.slice (some ⟨ib,io,none⟩) u.items.length b.ic)∧w'.cell? ⟨ib,io+i*4,none⟩=some (.int .i64 y.kind)∧w'.cell? ⟨ib,io+i*4+1,none⟩=some (.int .u64 y.n)∧w'.cell? ⟨ib,io+i*4+2,none⟩=some (.slice y1 y.bytes.length y2)∧w'.cell? ⟨ib,io+i*4+3,none⟩=some (.slice y3 y.items.length y4)) (by kernel_rfl) (⟨ry.cell 0 rfl,ry.cell 1 rfl,ry.cell 2 rfl,ry.cell 3 rfl,Q7 oc,zE.cell q0,zE.cell q1,zE.cell q2,zE.cell q3⟩) (fun zy=>?_)
   refine Tk 0 rfl zy ?_
   refine Tk 1 rfl zy ?_
   refine Tk 2 rfl zy ?_
   refine Tk 3 rfl zy ?_
   refine Tk 4 rfl zy ?_
   refine Tk 5 rfl zy ?_
   refine Ways.two (i:=6) (j:=10) rfl rfl (by kernel_rfl) (fun K hK=>?_) (fun K hK=>?_)
   ·go_simp
    refine(AT.out _ zE).mono ?_
    rintro e w5 ⟨⟨ra,rb,rc,rd,rfl,_⟩,xS⟩
    have ry:=ry.below xS;have oc:=oc.below xS;have tp:=tp.below xS
    try have hN:=hN.below xS
    have zE:=zE.below xS (Nat.le_refl _);have xO:=xO.trans (xS.mono xO.size)
    refine Ko hK ?_ fun zy=>?_
    ·exact ja5
    clear hK K
    refine Tk 7 rfl zy ?_
    refine Tk 8 rfl zy ?_
    refine Tk 9 rfl zy ?_
    refine To 10 rfl fun K hK=>?_
    go_simp
    have hN:=xl xO 26 #[.int .i64 0,.int .u64 0,.slice none 0 0,.slice none 0 0];have dG:=ry.lt;have mi:=oc.lt;have E7:=tp.lt;have Q9:=xO.size
    try simp only[zW,zr]at hN dG mi E7 Q9
    have ry:=ry.alloc zi;have oc:=oc.alloc zi;have tp:=tp.alloc zi;have zE:=zE.alloc zi;have xO:=xO.alloc xO.size zi
    refine Ko hK ?_ fun zy=>?_
    ·exact ja5
    clear hK K
    exact jaR
   go_simp
   have hN:=xl xO 26 #[.int .i64 0,.int .u64 0,.slice none 0 0,.slice none 0 0];have dG:=ry.lt;have mi:=oc.lt;have E7:=tp.lt;have Q9:=xO.size
   try simp only[zW,zr]at hN dG mi E7 Q9
   have ry:=ry.alloc zi;have oc:=oc.alloc zi;have tp:=tp.alloc zi;have zE:=zE.alloc zi;have xO:=xO.alloc xO.size zi
   refine Ko hK ?_ fun zy=>?_
   ·exact ja5
   clear hK K
   refine To 6 rfl fun K hK=>?_
   go_simp
   refine(AT.out _ zE).mono ?_
   rintro e w5 ⟨⟨ra,rb,rc,rd,rfl,_⟩,xS⟩
   have ry:=ry.below xS;have oc:=oc.below xS;have tp:=tp.below xS
   try have hN:=hN.below xS
   have zE:=zE.below xS (Nat.le_refl _);have xO:=xO.trans (xS.mono xO.size)
   refine Ko hK ?_ fun zy=>?_
   ·exact ja5
   clear hK K
   refine Tk 7 rfl zy ?_
   refine Tk 8 rfl zy ?_
   refine Tk 9 rfl zy ?_
   exact jaR
  case rest =>
  clear zE xO tp ry oc;obtain⟨rfl,xO,tp,ry,oc⟩:=hcut;have zE:Holds wc.drew H:=(hH.below xO (Nat.le_refl _)).drew;have ry:=ry.drew;have oc:=oc.drew;have tp:=tp.drew;have xO:=xO.drew
  cases hat:(atL y p.items).isSome with
  | true =>
   rw[hat]at uF;have EN:Hid (xL p u=false):=by rw[Hid,E2.out,uF.out];rfl
   clear hat;go_upto_region 17 with fail
   refine zw 9 (fun w'=>w'.cell? ⟨g2,3,none⟩=some (.slice (some ⟨ib,io,none⟩) u.items.length b.ic)∧w'.cell? ⟨ib,io+i*4,none⟩=some (.int .i64 y.kind)∧w'.cell? ⟨ib,io+i*4+1,none⟩=some (.int .u64 y.n)∧w'.cell? ⟨ib,io+i*4+2,none⟩=some (.slice y1 y.bytes.length y2)∧w'.cell? ⟨ib,io+i*4+3,none⟩=some (.slice y3 y.items.length y4)) (by kernel_rfl) (⟨Q7 oc,zE.cell q0,zE.cell q1,zE.cell q2,zE.cell q3⟩) (fun zy=>?_)
   refine Tk 0 rfl zy ?_
   refine Tk 1 rfl zy ?_
   refine TkU 2 rfl zy ?_
   refine TkU 3 rfl zy ?_
   refine TkU 4 rfl zy ?_
   refine TkU 5 rfl zy ?_
   refine TkU 6 rfl zy ?_
   refine TkU 7 rfl zy ?_
   refine TkU 8 rfl zy ?_
   refine To 9 rfl fun K hK=>?_
   exact jeU
  | false =>
  rw[hat]at uF;clear hat;go_upto_region 17 with fail
  refine zw 9 (fun w'=>w'.cell? ⟨g2,3,none⟩=some (.slice (some ⟨ib,io,none⟩) u.items.length b.ic)∧w'.cell? ⟨ib,io+i*4,none⟩=some (.int .i64 y.kind)∧w'.cell? ⟨ib,io+i*4+1,none⟩=some (.int .u64 y.n)∧w'.cell? ⟨ib,io+i*4+2,none⟩=some (.slice y1 y.bytes.length y2)∧w'.cell? ⟨ib,io+i*4+3,none⟩=some (.slice y3 y.items.length y4)) (by kernel_rfl) (⟨Q7 oc,zE.cell q0,zE.cell q1,zE.cell q2,zE.cell q3⟩) (fun zy=>?_)
  refine Tk 0 rfl zy ?_
  refine Tk 1 rfl zy ?_
  refine TkG 2 rfl zy ?_
  refine TkG 3 rfl zy ?_
  refine TkG 4 rfl zy ?_
  refine TkG 5 rfl zy ?_
  refine TkG 6 rfl zy ?_
  refine To 7 rfl fun K hK=>?_
  go_simp
  refine(tD 2 (by omega) (by omega) _ zE).mono ?_
  rintro e w8 ⟨v8,rfl,pV⟩
  have ry:=ry.below pV.below;have oc:=oc.below pV.below;have tp:=tp.below pV.below;have zE:=zE.below pV.below (Nat.le_refl _);have xO:=xO.trans (pV.below.mono xO.size);obtain⟨xa,xb,xc,xd,H1,rfl,rS,oF⟩:=pV
  refine Ko hK ?_ fun zy=>?_
  ·exact jdO
  clear hK K
  refine To 8 rfl fun K hK=>?_
  go_simp
  refine(SM.out _ H1 rS.le xa xb xc xd oF rS.holds).mono ?_
  rintro e w9 ⟨rfl,mg⟩
  have ry:=ry.below mg;have oc:=oc.below mg;have tp:=tp.below mg;have zE:=zE.below mg (Nat.le_refl _);have xO:=xO.trans (mg.mono xO.size)
  refine Ko hK ?_ fun zy=>?_
  ·exact jdO
  clear hK K
  refine To 9 rfl fun K hK=>?_
  go_simp
  refine Kz hK ?_
  clear hK K
  refine Wd ?_
  clear zy zE
  cases ZI:yL y (zS 2) with
  | true =>
   rw[ZI]at uF;have EN:Hid (xL p u=false):=by rw[Hid,E2.out,uF.out];rfl
   clear ZI;exact jcf
  | false =>
  rw[ZI]at uF;have EN:Hid (sI p.items (u.items.drop (i+2))=sI p.items u.items):=by rw[Hid,uF.out];rfl
  have rV:(i+2)%2=0:=by have:=U6.out;omega
  clear ZI;go_wp2_with fail
  go_roundw
  case rel=>first | exact⟨i+2,by omega,rV,by go_num,EN.out,xO,tp,ry,oc⟩ | exact⟨i+2,by omega,rV,by omega,EN.out⟩
  case measure=>simp[intOf];omega
 have EN:Hid (xL p u=(!(vj p u 5).isSome || !(vj p u 6).isSome)):=by
  rw[Hid,E2.out,← HS.out,RN _ _ _ (by omega)];rfl
 have g0:=gi.cell 0 rfl;have g1':=gi.cell 1 rfl;have g2':=gi.cell 2 rfl;have g3':=gi.cell 3 rfl;have g4:=gi.cell 4 rfl;have g5:=gi.cell 5 rfl;have g6:=gi.cell 6 rfl;have g7:=gi.cell 7 rfl;have F:=Hh (fun(n:Int) (h1 : -9223372036854775808≤n) (h2:n≤9223372036854775807) (w1:World) (h:Holds w1 H)=>Yd JB.out AC.out HP.out HU.out n h1 h2 w1 h);have mj:¬ (i:Int)<u.items.length:=by omega
 clear hlt2 Mb JM;go_wp2_with fail
 refine(F.out 5 (by omega) (by omega) _ (hH.below gH (Nat.le_refl _))).mono ?_
 rintro e w5 ⟨v5,rfl,TM⟩
 have xS:=gH.trans (TM.below.mono gH.size);have oa:=gi.below TM.below;obtain⟨xa,xb,xc,xd,H5,rfl,wb,_⟩:=TM;have wX:=xS.alloc xS.size (zU ((vj p u 5).getD ze) xa xb xc xd);have ms:=oa.alloc (zU ((vj p u 5).getD ze) xa xb xc xd);have g0:=ms.cell 0 rfl;have g1':=ms.cell 1 rfl;have g2':=ms.cell 2 rfl;have g3':=ms.cell 3 rfl;have g4:=ms.cell 4 rfl;have g5:=ms.cell 5 rfl;have g6:=ms.cell 6 rfl;have g7:=ms.cell 7 rfl
 generalize wR:vj p u 5=o5 at *
 generalize o5.getD ze=z5 at *
 clear xS oa wb gH gi;go_wp2_with fail
 refine(F.out 6 (by omega) (by omega) _ (hH.below wX (Nat.le_refl _))).mono ?_
 rintro e w7 ⟨v7,rfl,kE⟩
 have um:=wX.trans (kE.below.mono wX.size);obtain⟨ya,yb,yc,yd,H7,rfl,wJ,_⟩:=kE;have qU:=um.alloc um.size (zU ((vj p u 6).getD ze) ya yb yc yd)
 generalize qt:vj p u 6=o6 at *
 generalize o6.getD ze=z6 at *
 have EN':Hid (xL p u=(!o5.isSome || !o6.isSome)):=EN.out
 generalize o5.isSome=t5 at *
 generalize o6.isSome=t6 at *
 clear wR qt EN
 cases t5 <;> cases t6
 all_goals
  go_wp2_with fail
  go_ret
  exact⟨by rw[EN'.out];rfl,qU⟩
theorem nU {H:Snap}(hTab:Tabs H) {p u:Itm}{a b:Ad}(hp:IsItem H a.ba a.bc a.ia a.ic p) (hu:IsItem H b.ba b.bc b.ia b.ic u) (w:World) (hH:Holds w H) :
  Calls Tryz.prog 33 #[.agg (zA p a u b)] w fun e w'=>e=.returned (.bool (zL p u))∧Below w.heap.size w w':=by
 refine(Xb hTab hp hu w hH).mono fun e w' h=>?_
 rw[nh hp.nums hu.nums]at h
 exact h
abbrev yh:Itm:=.mk 5 0 [] []
abbrev zAW:Itm:=.mk 5 0 [] [.mk 0 1 [] [],.mk 0 10 [] []]
theorem nQ:zJ yh=true:=by
 rw[yo]
 refine⟨Good.of rfl (by simp only[Itm.items];rw[GoodL];trivial) (fun _=>rfl),by simp[cnt,yf], ?_⟩
 rw[yP]
 simp[Itm.kind,Itm.bytes,Itm.items,zP]
 have:=(tJ 5 (yA yh)).2
 omega
theorem Fl:zJ zAW=true:=by
 rw[yo]
 refine⟨Good.of (by rw[yC,if_neg (by rw[z8];simp[Itm.kind])];simp[vq,Itm.kind,Itm.bytes,Itm.n,Itm.items]) (GoodL.of fun x hx=>?_) (fun _=>rfl),by simp[cnt,yf], ?_⟩
 ·simp[Itm.items]at hx
  rcases hx with rfl | rfl
  ·exact mF 1 1
  exact mF 10 1
 have h0:=yq 5 0 [] [.mk 0 1 [] [],.mk 0 10 [] []] (by omega) (by omega);have h1:=yq 0 1 [] [] (by omega) (by omega);have h2:=yq 0 10 [] [] (by omega) (by omega)
 simp only[zP,List.length_append,List.length_nil]at h0 h1 h2
 show(zZ (.mk 5 0 [] [.mk 0 1 [] [],.mk 0 10 [] []])).length≤4096
 omega
theorem nZ:Nums yh:=by rw[Nums,NumsL];exact⟨by omega,trivial⟩
theorem lw:zL yh yh=true:=by
 rw[← nh nZ nZ,xL]
 simp[lX,nQ,Itm.kind,Itm.items,yB,sI,vj,atL]
theorem Uf (n:Int):vj yh yh n=none:=by simp[vj,atL,Itm.items]
theorem G8:zS 1=.mk 0 1 [] []:=by simp[zS]
theorem xK:Modest ze:=by rw[Modest,ModestL];exact⟨by simp,by simp,trivial⟩
theorem rM (n:Int):(zZ (zS n)).length≤9:=by
 unfold zS
 split
 ·have:=yq 1 (-1-n).toNat [] [] (by omega) (by omega);simpa [zP] using this
 have:=yq 0 n.toNat [] [] (by omega) (by omega);simpa [zP] using this
def Yk (v:Itm):Prop:=∃ k:Nat,(k=10∨k=30∨k=5∨k=4)∧v=.mk 0 k [] []
abbrev LC (k:Nat):Itm:=.mk 5 0 [] [.mk 0 1 [] [],.mk 0 k [] []]
theorem ln (k:Nat):zJ (LC k)=true:=by
 rw[yo]
 refine⟨Good.of (by rw[yC,if_neg (by rw[z8];simp[Itm.kind])];simp[vq,Itm.kind,Itm.bytes,Itm.n,Itm.items]) (GoodL.of fun x hx=>?_) (fun _=>rfl),by simp[cnt,yf], ?_⟩
 ·simp[Itm.items]at hx
  rcases hx with rfl | rfl
  ·exact mF 1 1
  exact mF k 1
 have h0:=yq 5 0 [] [.mk 0 1 [] [],.mk 0 k [] []] (by omega) (by omega);have h1:=yq 0 1 [] [] (by omega) (by omega);have h2:=yq 0 k [] [] (by omega) (by omega)
 simp only[zP,List.length_append,List.length_nil]at h0 h1 h2
 show(zZ (.mk 5 0 [] [.mk 0 1 [] [],.mk 0 k [] []])).length≤4096
 omega
theorem bJ {k:Nat}(h:k<18446744073709551616):Nums (LC k):=by
 rw[Nums,NumsL,NumsL,NumsL,Nums,NumsL,Nums,NumsL]
 exact⟨by omega,⟨by omega,trivial⟩,⟨by omega,trivial⟩,trivial⟩
theorem XB {k:Nat}(h:k=10∨k=30∨k=5∨k=4):zL (LC k) yh=true:=by
 rw[← nh (bJ (by omega)) nZ,xL]
 exact jcH
theorem XC {k:Nat}(h:k=10∨k=30∨k=5∨k=4):zL yh (LC k)=true:=by
 rw[← nh nZ (bJ (by omega)),xL]
 exact jcH
def bp:Value→Bool | .int .u64 x=>decide (0≤x)&&decide (x<18446744073709551616) | _=>false
def Oy:Value→Bool | .int .i64 x=>decide (-1000≤x)&&decide (x≤1000) | _=>false
def Vr:Value→Bool | .string s=>decide (s.size≤3) | _=>false
theorem nY {v:Value}(h:bp v=true):∃ n:Nat,v=.int .u64 (n:Int)∧n<18446744073709551616:=by
 unfold bp at h
 split at h
 ·rename_i x
  rw[Bool.and_eq_true,decide_eq_true_eq,decide_eq_true_eq]at h;obtain⟨n,rfl⟩:=Int.eq_ofNat_of_zero_le h.1
  exact⟨n,rfl,by omega⟩
 cases h
theorem Uv {v:Value}(h:Oy v=true):∃ x:Int,v=.int .i64 x∧-1000≤x∧x≤1000:=by
 unfold Oy at h
 split at h
 ·rename_i x
  rw[Bool.and_eq_true,decide_eq_true_eq,decide_eq_true_eq]at h
  exact⟨x,rfl,h.1,h.2⟩
 cases h
theorem XL {v:Value}(h:Vr v=true):∃ s:ByteArray,v=.string s∧s.size≤3:=by
 unfold Vr at h
 split at h
 ·rename_i x
  exact⟨x,rfl,of_decide_eq_true h⟩
 cases h
theorem Blk.pick {w:World}{g:Nat}{t:TypeId}{cs:Array Value}(h:Blk w g t cs) (P:Value→Bool) (uH:cs.all P=true) (k:Nat) (hk:k<cs.size):∃ v,w.cell? ⟨g,k,none⟩=some v∧P v=true :=
 ⟨cs[k],h.cell k (Array.getElem?_eq_getElem hk),by rw[Array.all_eq_true]at uH;exact uH k hk⟩
theorem Tg {H:Snap}{g:Nat}(w:World) (hD:DeckIn w g H) (n:Int) (hn:0≤n) (tF:n≤1048576) :
  Calls Tryz.prog 89 #[.pointer (some ⟨g,0,none⟩),.int .i64 n] w fun e w' =>
   ∃ s:ByteArray,e=.returned (.string s)∧(s.size:Int)≤3*n∧Dealt w H w' H g:=by
 obtain⟨NX,K0,wl,HN⟩:=jgO;have HD:=Hh hD;clear hn tF hD;go_enter Tryz.func89,Tryz.ntmps89
 go_wp2_with fail
 refine NX.out.mono ?_
 rintro e w1 ⟨r,rfl,hr,tq⟩
 go_wp2_with fail
 go_loopw [5,6] (fun v5 v6 wr=>∃ (k:Nat) (s:ByteArray),v6=.int .i64 (k:Int)∧v5=.string s∧(s.size:Int)+3*k≤3*n∧Dealt w H wr H g) (fun _ v6 _=>(intOf v6).toNat)
 case atStart=>exact⟨r,⟨#[]⟩,rfl,rfl,by rw[show(⟨#[]⟩:ByteArray).size=0 from rfl];omega,tq⟩
 case round =>
 obtain⟨k,s,rfl,rfl,JV,sN⟩:=hrel;have Lq:=Hh JV;clear JV
 by_cases yu:(0:Int)<(k:Int)
 ·have hB:=Blk.new wr 9 #[.string ⟨#[97]⟩,.string ⟨#[98]⟩,.string ⟨#[47]⟩,.string ⟨#[34]⟩,.string ⟨#[92]⟩,.string ⟨#[10]⟩,.string ⟨#[127]⟩,.string ⟨#[37]⟩,.string ⟨#[195,169]⟩,.string ⟨#[226,130,172]⟩];have xz:=sN.alloc (.cells #[.string ⟨#[97]⟩,.string ⟨#[98]⟩,.string ⟨#[47]⟩,.string ⟨#[34]⟩,.string ⟨#[92]⟩,.string ⟨#[10]⟩,.string ⟨#[127]⟩,.string ⟨#[37]⟩,.string ⟨#[195,169]⟩,.string ⟨#[226,130,172]⟩] 9);have NX:=Hh (yN _ xz.deck 10 (by omega) (by omega));go_wp2_with fail
  refine NX.out.mono ?_
  rintro e w3 ⟨q,rfl,hq,wH⟩
  have wi:=hB.dealt wH (by have:=sN.size;omega);obtain⟨v,hc,hP⟩:=wi.pick Vr (by kernel_rfl) q (by simp;omega);obtain⟨t,rfl,ht⟩:=XL hP;have hd:=xz.trans wH;have oG:(q:Int)<10:=hq;have HK:=Hh ht;have ZQ:IntKind.i64.wrap ((k:Int)-1)=(k:Int)-1:=IntWalk.i64_in _ (by have:=Lq.out;have:=HN.out;omega);have uF:s.size+t.size≤9223372036854775807:=by have:=Lq.out;have:=HN.out;omega
  clear NX hB wi hP xz wH ht;go_wp2_with fail
  go_roundw
  case rel=>exact⟨k-1,_,by rw[show((k-1:Nat):Int)=(k:Int)-1 by omega],rfl,by have:=Lq.out;have:=HK.out;simp[ByteArray.size_append];omega,hd⟩
  case measure=>simp[intOf];omega
 go_wp2_with fail
 go_ret
 exact⟨s,rfl,by have:=Lq.out;omega,sN⟩
theorem sk {H:Snap}{g:Nat}(w:World) (hD:DeckIn w g H) :
  Calls Tryz.prog 88 #[.pointer (some ⟨g,0,none⟩)] w fun e w' =>
   ∃ n:Nat,e=.returned (.int .u64 (n:Int))∧n<18446744073709551616∧Dealt w H w' H g:=by
 have NX:=Hh (yN w hD 6 (by omega) (by omega));have wl:=hD.deck.lt;clear hD;go_enter Tryz.func88,Tryz.ntmps88
 go_wp2_with fail
 refine NX.out.mono ?_
 rintro e w1 ⟨r,rfl,hr,tq⟩
 by_cases h0:r=0
 ·subst h0;have hB:=Blk.new w1 22 #[.int .u64 23,.int .u64 24,.int .u64 255,.int .u64 256,.int .u64 65535,.int .u64 65536,.int .u64 4294967295,.int .u64 4294967296,.int .u64 18446744073709551615];have xz:=tq.alloc (.cells #[.int .u64 23,.int .u64 24,.int .u64 255,.int .u64 256,.int .u64 65535,.int .u64 65536,.int .u64 4294967295,.int .u64 4294967296,.int .u64 18446744073709551615] 22);have NX:=Hh (yN _ xz.deck 9 (by omega) (by omega));go_wp2_with fail
  refine NX.out.mono ?_
  rintro e w3 ⟨q,rfl,hq,wH⟩
  have wi:=hB.dealt wH (by have:=tq.size;omega);obtain⟨v,hc,hP⟩:=wi.pick bp (by kernel_rfl) q (by simp;omega);obtain⟨x,rfl,hx⟩:=nY hP;have hd:=xz.trans wH;have HX:=Hh hx;clear NX hB wi hP xz wH hx;go_wp2_with fail
  go_ret
  exact⟨x,rfl,HX.out,hd⟩
 by_cases h1:r=1
 ·subst h1;have N2:=Hh (yN w1 tq.deck 1073741824 (by omega) (by omega));exact jbT
 have b0:((r:Int)==0)=false:=by rw[beq_eq_false_iff_ne];omega
 have b1:((r:Int)==1)=false:=by rw[beq_eq_false_iff_ne];omega
 have N2:=Hh (yN w1 tq.deck 30 (by omega) (by omega));clear h0 h1;exact jbT
section
variable {w w':World} {base:Nat} {H:Snap} {l:List Itm}
theorem OwnI.parts {A:Option Addr}{m c:Nat}(h:OwnI w base (.slice A m c) H l) (k:Nat):∃ cs1 cs2,ItemsC H cs1 (l.take k)∧ItemsC H cs2 (l.drop k)∧Src w A cs1∧(k<l.length→∃ b off,A=some ⟨b,off,none⟩∧Src w (some ⟨b,off+k*4,none⟩) cs2):=by
 obtain⟨cs,hc,ho⟩:=h;have hs:=Src.of_own ho;obtain⟨h1,h2⟩:=hc.split k
 refine⟨_,_,h1,h2,fun vl=>?_,fun hk=>?_⟩
 ·obtain⟨b,off,e,hx⟩:=hs (by rintro rfl;simp at vl)
  exact⟨b,off,e,fun j v hj=>hx j v (by rw[List.getElem?_take]at hj;split at hj;exact hj;cases hj)⟩
 obtain⟨b,off,e,hx⟩:=hs (by rintro rfl;have:=hc.len;simp at this;omega)
 refine⟨b,off,e,fun _=>⟨b,off+k*4,rfl,fun j v hj=>?_⟩⟩
 rw[List.getElem?_drop]at hj;rw[Nat.add_assoc]
 exact hx _ v hj
theorem OwnI.cells {A:Option Addr}{m c:Nat}(h:OwnI w base (.slice A m c) H l) (k:Nat) (hk:k<l.length):∃ b off,A=some ⟨b,off,none⟩∧∃ ba bc ia ic,w.cell? ⟨b,off+k*4,none⟩=some (.int .i64 l[k].kind)∧w.cell? ⟨b,off+k*4+1,none⟩=some (.int .u64 l[k].n)∧
  w.cell? ⟨b,off+k*4+2,none⟩=some (.slice ba l[k].bytes.length bc)∧w.cell? ⟨b,off+k*4+3,none⟩=some (.slice ia l[k].items.length ic)∧IsItem H ba bc ia ic l[k]:=by
 obtain⟨cs,hc,ho⟩:=h;obtain⟨b,off,e,hx⟩:=Src.of_own ho (by rintro rfl;have:=hc.len;simp at this;omega);obtain⟨ba,bc,ia,ic,h0,h1,h2,h3,hi⟩:=hc.get k hk
 exact⟨b,off,e,ba,bc,ia,ic,hx _ _ h0,hx _ _ h1,hx _ _ h2,hx _ _ h3,hi⟩
end
theorem yX {w w':World}{a:Addr}{v:Value}(h:w.cell? a=some v) (hb:Below w.heap.size w w'):w'.cell? a=some v:=(hb.cell (World.block_lt_of_cell? w _ h)).trans h
theorem sZ {w:World}{a:Addr}{v:Value}(h:w.cell? a=some v):w.drew.cell? a=some v:=h
theorem OwnI.drew {w:World}{base:Nat}{v:Value}{H:Snap}{l:List Itm}(h:OwnI w base v H l):OwnI w.drew base v H l:=h
theorem uB {A:Option Addr}{m c q:Nat}(h:A.map (·.block)=some q):(Value.slice A m c).ownBlock=some q:=by cases A <;> simp_all [Value.ownBlock]
theorem Src.slicek {w:World}{H:Snap}{A:Option Addr}{cs:List Value}{L:List Itm}{k j vc:Nat}(h:k<L.length→∃ b off,A=some ⟨b,off,none⟩∧Src w (some ⟨b,off+k*4,none⟩) cs) (hc:ItemsC H cs (L.drop k)) (hL:L.length=j) (B0:(j:Int)≤vc) :
  Src w (if vc=k then A else Option.map (fun x=>x.add (k*4)) A) cs:=by
 by_cases hk:k<L.length
 ·obtain⟨b,off,rfl,hs⟩:=h hk;rw[if_neg (by omega),Option.map_some,oN]
  exact hs
 rw[List.drop_eq_nil_of_le (by omega),ItemsC]at hc;subst hc
 exact Src.nil _ _
theorem i7 {B:Nat}{w wr:World}(_h:Below B w wr) (t:TypeId) (cs:Array Value):Src (wr.alloc (.cells cs t)) (some ⟨wr.heap.size,0,none⟩) cs.toList:=Src.lit _ _ _
theorem YB (L:List Itm) (k:Nat) (y z:Itm):(zP (L.take k++[y,z]++L.drop k)).length=(zP L).length+(zZ y).length+(zZ z).length:=by
 have h:=congrArg List.length (sY (L.take k) (L.drop k));rw[List.take_append_drop]at h;rw[sY,sY]
 simp only[zP,List.length_append,List.append_nil]at h⊢
 omega
end Go.Proofs.YtliomcphdnppnaaGreatDoor
