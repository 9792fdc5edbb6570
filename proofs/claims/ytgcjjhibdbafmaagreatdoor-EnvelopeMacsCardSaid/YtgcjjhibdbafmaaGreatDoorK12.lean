/- squeezed. Walks: the references' validity of -/
import Derived.Test.YtgcjjhibdbafmaaGreatDoorK11
import Derived.Test.YtgcjjhibdbafmaaGreatDoorK10
set_option linter.unusedVariables false
set_option linter.unusedSimpArgs false
set_option maxRecDepth 100000
set_option maxHeartbeats 25600000
namespace Go.Proofs.YtgcjjhibdbafmaaGreatDoor
open Go.RowKit
theorem pairsOkR_step (m l:List Itm) (k:Nat) (hk:k+1<l.length):pairsOkR m (l.drop k)=(labelP l[k]&&valueP l[k] l[k+1] m&&pairsOkR m (l.drop (k+2))):=by
 rw[List.drop_eq_getElem_cons (show k<l.length by omega),List.drop_eq_getElem_cons hk,pairsOkR]
theorem keysR_step (p l:List Itm) (k:Nat) (hk:k+1<l.length):keysR p (l.drop k)=(!((atL l[k] p).isSome||sameB l[k] (intP 2))&&keysR p (l.drop (k+2))):=by
 rw[List.drop_eq_getElem_cons (show k<l.length by omega),List.drop_eq_getElem_cons hk,keysR]
theorem pairsOkR_end (m l:List Itm) (k:Nat) (hk:l.length≤k):pairsOkR m (l.drop k)=true:=by
 rw[List.drop_eq_nil_of_le hk,pairsOkR];intro _ _ _ h;cases h
theorem keysR_end (p l:List Itm) (k:Nat) (hk:l.length≤k):keysR p (l.drop k)=true:=by
 rw[List.drop_eq_nil_of_le hk,keysR];intro _ _ _ h;cases h
theorem ref12_Valid {H:Snap}(hTab:Tabs H) {p u:Itm}{a b:Ad}(hp:IsItem H a.ba a.bc a.ia a.ic p) (hu:IsItem H b.ba b.bc b.ia b.ic u) (w:World) (hH:Holds w H) :
  Calls Tryz.prog 26 #[.agg (hdrC p a u b)] w fun e w'=>e=.returned (.bool (validHR p u))∧Below w.heap.size w w':=by
 have HP:=Hh hp;have HU:=Hh hu;have hB:=(Blk.new w 28 (hdrC p a u b)).drew;have hb:=(below_box w (.cells (hdrC p a u b) 28)).drew;have hHx:Holds (w.alloc (.cells (hdrC p a u b) 28)).drew H:=(hH.alloc _).drew;go_enter Tryz.func26,Tryz.ntmps26
 go_upto_region 1 with fail
 go_cut [3,4] (fun s3 s4 wx=>∃ g1 g2,s3=.pointer (some ⟨g1,0,none⟩)∧s4=.pointer (some ⟨g2,0,none⟩)∧Blk wx g1 26 #[.int .i64 p.kind,.int .u64 p.n,.slice a.ba p.bytes.length a.bc,.slice a.ia p.items.length a.ic]∧
  Blk wx g2 26 #[.int .i64 u.kind,.int .u64 u.n,.slice b.ba u.bytes.length b.bc,.slice b.ia u.items.length b.ic]∧Blk wx w.heap.size 28 (hdrC p a u b)∧Below w.heap.size w wx)
 case first =>
  refine wp_region_ways 7 (fun w'=>w'.cell? ⟨w.heap.size,0,none⟩=some (.int .i64 p.kind)∧w'.cell? ⟨w.heap.size,1,none⟩=some (.int .u64 p.n)∧w'.cell? ⟨w.heap.size,2,none⟩=some (.slice a.ba p.bytes.length a.bc)∧w'.cell? ⟨w.heap.size,3,none⟩=some (.slice a.ia p.items.length a.ic)∧w'.cell? ⟨w.heap.size,4,none⟩=some (.int .i64 u.kind)∧w'.cell? ⟨w.heap.size,5,none⟩=some (.int .u64 u.n)∧w'.cell? ⟨w.heap.size,6,none⟩=some (.slice b.ba u.bytes.length b.bc)∧w'.cell? ⟨w.heap.size,7,none⟩=some (.slice b.ia u.items.length b.ic)) (by kernel_rfl) (⟨hB.cell 0 rfl,hB.cell 1 rfl,hB.cell 2 rfl,hB.cell 3 rfl,hB.cell 4 rfl,hB.cell 5 rfl,hB.cell 6 rfl,hB.cell 7 rfl⟩) (fun hHeld=>?_)
  refine Tk 0 rfl hHeld ?_
  refine Tk 1 rfl hHeld ?_
  refine Tk 2 rfl hHeld ?_
  refine Tk 3 rfl hHeld ?_
  refine Ways.two (i:=4) (j:=5) rfl rfl (by kernel_rfl) (fun K hK=>?_) (fun K hK=>?_)
  ·go_simp
   have hP:=below_newBlk hb 26 #[.int .i64 0,.int .u64 0,.slice none 0 0,.slice none 0 0]
   try simp only[drew_heap,size_alloc]at hP
   have hB:=hB.alloc zeroO
   try have hQ:=hQ.alloc zeroO
   have hb:=hb.alloc hb.size zeroO
   refine Ko hK ?_ fun hHeld=>?_
   ·exact⟨hB.cell 0 rfl,hB.cell 1 rfl,hB.cell 2 rfl,hB.cell 3 rfl,hB.cell 4 rfl,hB.cell 5 rfl,hB.cell 6 rfl,hB.cell 7 rfl⟩
   clear hK K
   refine To 5 rfl fun K hK=>?_
   go_simp
   have hQ:=below_newBlk hb 26 #[.int .i64 0,.int .u64 0,.slice none 0 0,.slice none 0 0]
   try simp only[drew_heap,size_alloc]at hQ
   have hB:=hB.alloc zeroO
   try have hP:=hP.alloc zeroO
   have hb:=hb.alloc hb.size zeroO
   refine Ko hK ?_ fun hHeld=>?_
   ·exact⟨hB.cell 0 rfl,hB.cell 1 rfl,hB.cell 2 rfl,hB.cell 3 rfl,hB.cell 4 rfl,hB.cell 5 rfl,hB.cell 6 rfl,hB.cell 7 rfl⟩
   clear hK K
   refine To 6 rfl fun K hK=>?_
   rw[if_pos (by rfl)]
   refine wp_store_item _ _ _ rfl _ _ rfl rfl _ _ hP size_item rfl (one4 _ _ _ _ rfl rfl rfl rfl) fun w5 hP hg5=>?_
   have hB:=hB.grown hg5 (by first | (simp;done) | (simp;omega));have hQ:=hQ.grown hg5 (by first | (simp;done) | (simp;omega));have hb:=hb.grown hg5 hb.size (by rintro q ⟨⟩;omega)
   refine Ko hK ?_ fun hHeld=>?_
   ·exact⟨hB.cell 0 rfl,hB.cell 1 rfl,hB.cell 2 rfl,hB.cell 3 rfl,hB.cell 4 rfl,hB.cell 5 rfl,hB.cell 6 rfl,hB.cell 7 rfl⟩
   clear hK K
   refine To 7 rfl fun K hK=>?_
   rw[if_pos (by rfl)]
   refine wp_store_item _ _ _ rfl _ _ rfl rfl _ _ hQ size_item rfl (one4 _ _ _ _ rfl rfl rfl rfl) fun w6 hQ hg6=>?_
   have hB:=hB.grown hg6 (by first | (simp;done) | (simp;omega));have hP:=hP.grown hg6 (by first | (simp;done) | (simp;omega));have hb:=hb.grown hg6 hb.size (by rintro q ⟨⟩;omega)
   refine Kz hK ?_
   clear hK K
   refine Wd ?_
   go_wp2_with fail
   go_meet
   exact⟨_,_,rfl,rfl,hP,hQ,hB,hb⟩
  ·go_simp
   have hQ:=below_newBlk hb 26 #[.int .i64 0,.int .u64 0,.slice none 0 0,.slice none 0 0]
   try simp only[drew_heap,size_alloc]at hQ
   have hB:=hB.alloc zeroO
   try have hP:=hP.alloc zeroO
   have hb:=hb.alloc hb.size zeroO
   refine Ko hK ?_ fun hHeld=>?_
   ·exact⟨hB.cell 0 rfl,hB.cell 1 rfl,hB.cell 2 rfl,hB.cell 3 rfl,hB.cell 4 rfl,hB.cell 5 rfl,hB.cell 6 rfl,hB.cell 7 rfl⟩
   clear hK K
   refine To 4 rfl fun K hK=>?_
   go_simp
   have hP:=below_newBlk hb 26 #[.int .i64 0,.int .u64 0,.slice none 0 0,.slice none 0 0]
   try simp only[drew_heap,size_alloc]at hP
   have hB:=hB.alloc zeroO
   try have hQ:=hQ.alloc zeroO
   have hb:=hb.alloc hb.size zeroO
   refine Ko hK ?_ fun hHeld=>?_
   ·exact⟨hB.cell 0 rfl,hB.cell 1 rfl,hB.cell 2 rfl,hB.cell 3 rfl,hB.cell 4 rfl,hB.cell 5 rfl,hB.cell 6 rfl,hB.cell 7 rfl⟩
   clear hK K
   refine To 6 rfl fun K hK=>?_
   rw[if_pos (by rfl)]
   refine wp_store_item _ _ _ rfl _ _ rfl rfl _ _ hP size_item rfl (one4 _ _ _ _ rfl rfl rfl rfl) fun w5 hP hg5=>?_
   have hB:=hB.grown hg5 (by first | (simp;done) | (simp;omega));have hQ:=hQ.grown hg5 (by first | (simp;done) | (simp;omega));have hb:=hb.grown hg5 hb.size (by rintro q ⟨⟩;omega)
   refine Ko hK ?_ fun hHeld=>?_
   ·exact⟨hB.cell 0 rfl,hB.cell 1 rfl,hB.cell 2 rfl,hB.cell 3 rfl,hB.cell 4 rfl,hB.cell 5 rfl,hB.cell 6 rfl,hB.cell 7 rfl⟩
   clear hK K
   refine To 7 rfl fun K hK=>?_
   rw[if_pos (by rfl)]
   refine wp_store_item _ _ _ rfl _ _ rfl rfl _ _ hQ size_item rfl (one4 _ _ _ _ rfl rfl rfl rfl) fun w6 hQ hg6=>?_
   have hB:=hB.grown hg6 (by first | (simp;done) | (simp;omega));have hP:=hP.grown hg6 (by first | (simp;done) | (simp;omega));have hb:=hb.grown hg6 hb.size (by rintro q ⟨⟩;omega)
   refine Kz hK ?_
   clear hK K
   refine Wd ?_
   go_wp2_with fail
   go_meet
   exact⟨_,_,rfl,rfl,hP,hQ,hB,hb⟩
 case rest =>
  clear hB hb hHx;obtain⟨g1,g2,rfl,rfl,hP,hQ,hB,hb⟩:=hcut;have VP:=Hh (fun(w1:World) (h:Holds w1 H)=>ref_Valid hTab HP.out.arg w1 h);have VU:=Hh (fun(w1:World) (h:Holds w1 H)=>ref_Valid hTab HU.out.arg w1 h);have a0:=hP.cell 0 rfl;have a1:=hP.cell 1 rfl;have a2:=hP.cell 2 rfl;have a3:=hP.cell 3 rfl;have d0:=hQ.cell 0 rfl;have d1:=hQ.cell 1 rfl;have d2:=hQ.cell 2 rfl;have d3:=hQ.cell 3 rfl;clear hp hu
  by_cases h1:p.kind=5
  case neg =>
   have E:Hid (validHR p u=false):=by rw[Hid,validHR];simp[h1]
   have b1:(p.kind != 5)=true:=by simp[h1]
   have p1:(p.kind=5)=False:=eq_false h1;clear h1;go_wp2_with fail
   go_ret
   exact⟨by rw[E.out];rfl,hb⟩
  by_cases h2:u.kind=5
  case neg =>
   have E:Hid (validHR p u=false):=by rw[Hid,validHR];simp[h2]
   have b1:(p.kind != 5)=false:=by simp[h1]
   have p1:(p.kind=5)=True:=eq_true h1;have b2:(u.kind != 5)=true:=by simp[h2]
   have p2:(u.kind=5)=False:=eq_false h2;clear h1 h2;go_wp2_with fail
   go_ret
   exact⟨by rw[E.out];rfl,hb⟩
  have b1:(p.kind != 5)=false:=by simp[h1]
  have p1:(p.kind=5)=True:=eq_true h1;have b2:(u.kind != 5)=false:=by simp[h2]
  have p2:(u.kind=5)=True:=eq_true h2;have HK1:=Hh h1;have HK2:=Hh h2;clear h1 h2
  cases hv1:validP p with
  | false =>
   have E:Hid (validHR p u=false):=by rw[Hid,validHR];simp[hv1]
   rw[hv1]at VP;clear hv1;go_wp2_with fail
   refine(VP.out _ (hH.below hb (Nat.le_refl _))).mono ?_
   rintro e w1 ⟨rfl,hb1⟩
   have hbz:=hb.trans (hb1.mono hb.size);go_wp2_with fail
   go_ret
   exact⟨by rw[E.out];rfl,hbz⟩
  | true =>
  rw[hv1]at VP;have HV1:=Hh hv1;clear hv1;go_wp2_with fail
  refine(VP.out _ (hH.below hb (Nat.le_refl _))).mono ?_
  rintro e w1 ⟨rfl,hb1⟩
  have hP:=hP.below hb1;have hQ:=hQ.below hb1;have hB:=hB.below hb1;have hb:=hb.trans (hb1.mono hb.size);have a0:=hP.cell 0 rfl;have a1:=hP.cell 1 rfl;have a2:=hP.cell 2 rfl;have a3:=hP.cell 3 rfl;have d0:=hQ.cell 0 rfl;have d1:=hQ.cell 1 rfl;have d2:=hQ.cell 2 rfl;have d3:=hQ.cell 3 rfl;clear hb1
  cases hv2:validP u with
  | false =>
   have E:Hid (validHR p u=false):=by rw[Hid,validHR];simp[hv2]
   rw[hv2]at VU;clear hv2;go_wp2_with fail
   refine(VU.out _ (hH.below hb (Nat.le_refl _))).mono ?_
   rintro e w2 ⟨rfl,hb2⟩
   have hbz:=hb.trans (hb2.mono hb.size);go_wp2_with fail
   go_ret
   exact⟨by rw[E.out];rfl,hbz⟩
  | true =>
  rw[hv2]at VU;have HV2:=Hh hv2
  have E:Hid (validHR p u=(pairsOkR p.items p.items&&pairsOkR u.items u.items&&keysR p.items u.items&&(!(findR p u 5).isSome || !(findR p u 6).isSome))):=by
   rw[Hid,validHR,HV1.out,hv2,HK1.out,HK2.out];simp
  have HEP:=Hh (validP_even HV1.out HK1.out);have HEU:=Hh (validP_even hv2 HK2.out);have HMP:=Hh (validP_modest HV1.out);have HMU:=Hh (validP_modest hv2);clear hv2;go_wp2_with fail
  refine(VU.out _ (hH.below hb (Nat.le_refl _))).mono ?_
  rintro e w2 ⟨rfl,hb2⟩
  have hP:=hP.below hb2;have hQ:=hQ.below hb2;have hB:=hB.below hb2;have hb:=hb.trans (hb2.mono hb.size);have a0:=hP.cell 0 rfl;have a1:=hP.cell 1 rfl;have a2:=hP.cell 2 rfl;have a3:=hP.cell 3 rfl;have d0:=hQ.cell 0 rfl;have d1:=hQ.cell 1 rfl;have d2:=hQ.cell 2 rfl;have d3:=hQ.cell 3 rfl;have hI:=Blk.new w2 26 (hdrC p a u b);have hP:=hP.alloc (.cells (hdrC p a u b) 26);have hQ:=hQ.alloc (.cells (hdrC p a u b) 26);have hB:=hB.alloc (.cells (hdrC p a u b) 26);have hb:=hb.alloc hb.size (.cells (hdrC p a u b) 26);clear hb2;go_wp2_with fail
  go_loopw [41] (fun v41 wr=>∃ j:Nat,j≤2∧v41=.int .i64 j∧(1≤j→pairsOkR p.items p.items=true)∧(2≤j→pairsOkR u.items u.items=true)∧Below w.heap.size w wr∧Blk wr w.heap.size 28 (hdrC p a u b)∧Blk wr g1 26 #[.int .i64 p.kind,.int .u64 p.n,.slice a.ba p.bytes.length a.bc,.slice a.ia p.items.length a.ic]∧Blk wr g2 26 #[.int .i64 u.kind,.int .u64 u.n,.slice b.ba u.bytes.length b.bc,.slice b.ia u.items.length b.ic]∧Blk wr w2.heap.size 26 (hdrC p a u b)) (fun v41 _=>2-(intOf v41).toNat)
  case atStart=>exact⟨0,by omega,rfl,by omega,by omega,hb,hB,hP,hQ,hI⟩
  case round =>
   obtain⟨j,hj,rfl,hop,hou,hbr,hBr,hPr,hQr,hIr⟩:=hrel;have HOP:=Hh hop;have HOU:=Hh hou;clear hop hou a0 a1 a2 a3 d0 d1 d2 d3
   by_cases hlt:j<2
   ·have hm:∃ (m:Itm) (ma:Option Addr) (mb:Nat) (mc:Option Addr) (md:Nat),(j=0→m=p)∧(j=1→m=u)∧m.items.length%2=0∧Modest m∧IsItem H ma mb mc md m∧wr.cell? ⟨w2.heap.size,j*4,none⟩=some (.int .i64 m.kind)∧wr.cell? ⟨w2.heap.size,j*4+1,none⟩=some (.int .u64 m.n)∧
      wr.cell? ⟨w2.heap.size,j*4+2,none⟩=some (.slice ma m.bytes.length mb)∧wr.cell? ⟨w2.heap.size,j*4+3,none⟩=some (.slice mc m.items.length md):=by
     rcases(by omega:j=0∨j=1) with rfl | rfl
     ·exact⟨p,a.ba,a.bc,a.ia,a.ic,fun _=>rfl,by omega,HEP.out,HMP.out,HP.out,hIr.cell _ rfl,hIr.cell _ rfl,hIr.cell _ rfl,hIr.cell _ rfl⟩
     ·exact⟨u,b.ba,b.bc,b.ia,b.ic,by omega,fun _=>rfl,HEU.out,HMU.out,HU.out,hIr.cell _ rfl,hIr.cell _ rfl,hIr.cell _ rfl,hIr.cell _ rfl⟩
    obtain⟨m,ma,mb,mc,md,hm0,hm1,hme,hmm,hmi,e0,e1,e2,e3⟩:=hm
    have BAD:Hid (pairsOkR m.items m.items=false→validHR p u=false):=by
     intro h
     rcases(by omega:j=0∨j=1) with rfl | rfl
     ·rw[hm0 rfl]at h;rw[E.out,h];rfl
     ·rw[hm1 rfl]at h;rw[E.out,h];simp
    have GOOD:Hid (pairsOkR m.items m.items=true→(1≤j+1→pairsOkR p.items p.items=true)∧(2≤j+1→pairsOkR u.items u.items=true)):=by
     intro h
     rcases(by omega:j=0∨j=1) with rfl | rfl
     ·rw[hm0 rfl]at h;exact⟨fun _=>h,by omega⟩
     ·rw[hm1 rfl]at h;exact⟨fun _=>HOP.out (by omega),fun _=>h⟩
    have HMI:=Hh hmi;have HMM:=Hh hmm;have HME:=Hh hme;have hml:=hmm.parts.2.1;have hT:=Blk.new wr 26 #[.int .i64 m.kind,.int .u64 m.n,.slice ma m.bytes.length mb,.slice mc m.items.length md];have hbr:=hbr.alloc hbr.size (itemO m ma mb mc md);have hBr:=hBr.alloc (itemO m ma mb mc md);have hPr:=hPr.alloc (itemO m ma mb mc md);have hQr:=hQr.alloc (itemO m ma mb mc md);have hIr:=hIr.alloc (itemO m ma mb mc md);clear hm0 hm1 hme hmm hmi;obtain⟨wo,hwo⟩:∃ wo:World,wo=wr:=⟨_,rfl⟩
    subst hwo;go_wp2_with fail
    go_loopw [7] (fun v7 wr=>∃ i:Nat,i≤m.items.length∧i%2=0∧v7=.int .i64 i∧pairsOkR m.items (m.items.drop i)=pairsOkR m.items m.items∧Below w.heap.size w wr∧Blk wr w.heap.size 28 (hdrC p a u b)∧Blk wr g1 26 #[.int .i64 p.kind,.int .u64 p.n,.slice a.ba p.bytes.length a.bc,.slice a.ia p.items.length a.ic]∧Blk wr g2 26 #[.int .i64 u.kind,.int .u64 u.n,.slice b.ba u.bytes.length b.bc,.slice b.ia u.items.length b.ic]∧Blk wr w2.heap.size 26 (hdrC p a u b)∧
     Blk wr wo.heap.size 26 #[.int .i64 m.kind,.int .u64 m.n,.slice ma m.bytes.length mb,.slice mc m.items.length md]) (fun v7 _=>m.items.length-(intOf v7).toNat)
    case atStart=>exact⟨0,by omega,rfl,rfl,rfl,hbr,hBr,hPr,hQr,hIr,hT⟩
    case round =>
     obtain⟨i,hi,hie,rfl,hs,hbs,hBs,hPs,hQs,hIs,hTs⟩:=hrel;have HS:=Hh hs;have HIE:=Hh hie;have f3:=hTs.cell 3 rfl;clear hs hie hbr hBr hPr hQr hIr hT e0 e1 e2 e3
     by_cases hlt2:i<m.items.length
     ·have hme:=HME.out;have hie:=HIE.out;have hlt3:i+1<m.items.length:=by omega
      have hHr:Holds wr H:=hH.below hbs (Nat.le_refl _);obtain⟨ib,io,hia,hel⟩:=HMI.out.items (by omega);obtain⟨y1,y2,y3,y4,q0,q1,q2,q3,hey⟩:=hel.get i hlt2;obtain⟨z1,z2,z3,z4,s0,s1,s2,s3,hez⟩:=hel.get (i+1) hlt3;have hst:=Hh (HS.out.symm.trans (pairsOkR_step m.items m.items i hlt3));have hmy:=HMM.out.parts.2.2.get i hlt2;have hmz:=HMM.out.parts.2.2.get (i+1) hlt3;have hi1:((i:Int)+1).toNat=i+1:=by omega
      have hi2:(i:Int)+1<m.items.length:=by omega
      have hi3:(i:Int)<m.items.length:=by omega
      have hi4:IntKind.i64.wrap ((i:Int)+1)=(i:Int)+1:=IntWalk.i64_in _ (by omega);have hi5:(0:Int)≤(i:Int)+1:=by omega
      generalize m.items[i]'hlt2=y at *
      generalize m.items[i+1]'hlt3=z at *
      subst hia;have LB:=Hh (fun w1:World=>ref_labelP hey.arg w1);have VL:=Hh (fun(w1:World) (h:Holds w1 H)=>ref_value (a:=⟨y1,y2,y3,y4⟩) (b:=⟨z1,z2,z3,z4⟩) (c:=⟨ma,mb,some ⟨ib,io,none⟩,md⟩) hmy hmz HMM.out hey hez HMI.out w1 h);have hHx:=hHr.drew;have hbx:=hbs.drew;have hBx:=hBs.drew;have hPx:=hPs.drew;have hQx:=hQs.drew;have hIx:=hIs.drew;have hTx:=hTs.drew;clear hel hmy hmz hey hez hHr hBs hPs hQs hIs hme hie
      cases hlab:labelP y with
      | false =>
       rw[hlab]at LB hst;have EN:Hid (validHR p u=false):=BAD.out (by rw[hst.out];rfl);clear hlab;go_upto_region 10 with fail
       refine wp_region_ways 22 (fun w'=>w'.cell? ⟨wo.heap.size,0,none⟩=some (.int .i64 m.kind)∧w'.cell? ⟨wo.heap.size,1,none⟩=some (.int .u64 m.n)∧w'.cell? ⟨wo.heap.size,2,none⟩=some (.slice ma m.bytes.length mb)∧w'.cell? ⟨wo.heap.size,3,none⟩=some (.slice (some ⟨ib,io,none⟩) m.items.length md)∧w'.cell? ⟨ib,io+i*4,none⟩=some (.int .i64 y.kind)∧w'.cell? ⟨ib,io+i*4+1,none⟩=some (.int .u64 y.n)∧w'.cell? ⟨ib,io+i*4+2,none⟩=some (.slice y1 y.bytes.length y2)∧w'.cell? ⟨ib,io+i*4+3,none⟩=some (.slice y3 y.items.length y4)∧w'.cell? ⟨ib,io+(i+1)*4,none⟩=some (.int .i64 z.kind)∧w'.cell? ⟨ib,io+(i+1)*4+1,none⟩=some (.int .u64 z.n)∧w'.cell? ⟨ib,io+(i+1)*4+2,none⟩=some (.slice z1 z.bytes.length z2)∧w'.cell? ⟨ib,io+(i+1)*4+3,none⟩=some (.slice z3 z.items.length z4)) (by kernel_rfl) (⟨hTx.cell 0 rfl,hTx.cell 1 rfl,hTx.cell 2 rfl,hTx.cell 3 rfl,hHx.cell q0,hHx.cell q1,hHx.cell q2,hHx.cell q3,hHx.cell s0,hHx.cell s1,hHx.cell s2,hHx.cell s3⟩) (fun hHeld=>?_)
       refine Tk 0 rfl hHeld ?_
       refine Tk 1 rfl hHeld ?_
       refine Tk 2 rfl hHeld ?_
       refine Tk 3 rfl hHeld ?_
       refine Tk 4 rfl hHeld ?_
       refine To 5 rfl fun K hK=>?_
       go_simp
       refine(LB.out _).mono ?_
       rintro e w5 ⟨rfl,hb5⟩
       have hbx:=hbx.trans (hb5.mono hbx.size);have hTx:=hTx.below hb5;have hHx:=hHx.below hb5 (Nat.le_refl _)
       refine Ko hK ?_ fun hHeld=>?_
       ·exact⟨hTx.cell 0 rfl,hTx.cell 1 rfl,hTx.cell 2 rfl,hTx.cell 3 rfl,hHx.cell q0,hHx.cell q1,hHx.cell q2,hHx.cell q3,hHx.cell s0,hHx.cell s1,hHx.cell s2,hHx.cell s3⟩
       clear hK K
       refine Tk 6 rfl hHeld ?_
       refine Tk 7 rfl hHeld ?_
       refine TkU 8 rfl hHeld ?_
       refine TkU 9 rfl hHeld ?_
       refine TkU 10 rfl hHeld ?_
       refine TkU 11 rfl hHeld ?_
       refine TkU 12 rfl hHeld ?_
       refine TkU 13 rfl hHeld ?_
       refine TkU 14 rfl hHeld ?_
       refine TkU 15 rfl hHeld ?_
       refine TkU 16 rfl hHeld ?_
       refine TkU 17 rfl hHeld ?_
       refine TkU 18 rfl hHeld ?_
       refine TkU 19 rfl hHeld ?_
       refine TkU 20 rfl hHeld ?_
       refine TkU 21 rfl hHeld ?_
       refine To 22 rfl fun K hK=>?_
       go_simp
       refine Kz hK ?_
       clear hK K
       refine Wd ?_
       clear hHeld;go_wp2_with fail
       go_ret
       exact⟨by rw[EN.out];rfl,hbx⟩
      | true =>
       rw[hlab]at LB hst;clear hlab;go_upto_region 10 with fail
       refine wp_region_ways 22 (fun w'=>w'.cell? ⟨wo.heap.size,0,none⟩=some (.int .i64 m.kind)∧w'.cell? ⟨wo.heap.size,1,none⟩=some (.int .u64 m.n)∧w'.cell? ⟨wo.heap.size,2,none⟩=some (.slice ma m.bytes.length mb)∧w'.cell? ⟨wo.heap.size,3,none⟩=some (.slice (some ⟨ib,io,none⟩) m.items.length md)∧w'.cell? ⟨ib,io+i*4,none⟩=some (.int .i64 y.kind)∧w'.cell? ⟨ib,io+i*4+1,none⟩=some (.int .u64 y.n)∧w'.cell? ⟨ib,io+i*4+2,none⟩=some (.slice y1 y.bytes.length y2)∧w'.cell? ⟨ib,io+i*4+3,none⟩=some (.slice y3 y.items.length y4)∧w'.cell? ⟨ib,io+(i+1)*4,none⟩=some (.int .i64 z.kind)∧w'.cell? ⟨ib,io+(i+1)*4+1,none⟩=some (.int .u64 z.n)∧w'.cell? ⟨ib,io+(i+1)*4+2,none⟩=some (.slice z1 z.bytes.length z2)∧w'.cell? ⟨ib,io+(i+1)*4+3,none⟩=some (.slice z3 z.items.length z4)) (by kernel_rfl) (⟨hTx.cell 0 rfl,hTx.cell 1 rfl,hTx.cell 2 rfl,hTx.cell 3 rfl,hHx.cell q0,hHx.cell q1,hHx.cell q2,hHx.cell q3,hHx.cell s0,hHx.cell s1,hHx.cell s2,hHx.cell s3⟩) (fun hHeld=>?_)
       refine Tk 0 rfl hHeld ?_
       refine Tk 1 rfl hHeld ?_
       refine Tk 2 rfl hHeld ?_
       refine Tk 3 rfl hHeld ?_
       refine Tk 4 rfl hHeld ?_
       refine To 5 rfl fun K hK=>?_
       go_simp
       refine(LB.out _).mono ?_
       rintro e w5 ⟨rfl,hb5⟩
       have hbx:=hbx.trans (hb5.mono hbx.size);have hTx:=hTx.below hb5;have hBx:=hBx.below hb5;have hPx:=hPx.below hb5;have hQx:=hQx.below hb5;have hIx:=hIx.below hb5;have hHx:=hHx.below hb5 (Nat.le_refl _)
       refine Ko hK ?_ fun hHeld=>?_
       ·exact⟨hTx.cell 0 rfl,hTx.cell 1 rfl,hTx.cell 2 rfl,hTx.cell 3 rfl,hHx.cell q0,hHx.cell q1,hHx.cell q2,hHx.cell q3,hHx.cell s0,hHx.cell s1,hHx.cell s2,hHx.cell s3⟩
       clear hK K
       refine Tk 6 rfl hHeld ?_
       refine Tk 7 rfl hHeld ?_
       refine TkG 8 rfl hHeld ?_
       refine TkG 9 rfl hHeld ?_
       refine TkG 10 rfl hHeld ?_
       refine TkG 11 rfl hHeld ?_
       refine TkG 12 rfl hHeld ?_
       refine TkG 13 rfl hHeld ?_
       refine TkG 14 rfl hHeld ?_
       refine TkG 15 rfl hHeld ?_
       refine TkG 16 rfl hHeld ?_
       refine TkG 17 rfl hHeld ?_
       refine TkG 18 rfl hHeld ?_
       refine TkG 19 rfl hHeld ?_
       refine To 20 rfl fun K hK=>?_
       go_simp
       refine(VL.out _ hHx).mono ?_
       rintro e w6 ⟨rfl,hb6⟩
       have hbx:=hbx.trans (hb6.mono hbx.size);have hTx:=hTx.below hb6;have hBx:=hBx.below hb6;have hPx:=hPx.below hb6;have hQx:=hQx.below hb6;have hIx:=hIx.below hb6;have hHx:=hHx.below hb6 (Nat.le_refl _)
       refine Ko hK ?_ fun hHeld=>?_
       ·exact⟨hTx.cell 0 rfl,hTx.cell 1 rfl,hTx.cell 2 rfl,hTx.cell 3 rfl,hHx.cell q0,hHx.cell q1,hHx.cell q2,hHx.cell q3,hHx.cell s0,hHx.cell s1,hHx.cell s2,hHx.cell s3⟩
       clear hK K
       refine TkG 21 rfl hHeld ?_
       refine To 22 rfl fun K hK=>?_
       go_simp
       refine Kz hK ?_
       clear hK K
       refine Wd ?_
       clear hHeld
       cases hval:valueP y z m.items with
       | false =>
        rw[hval]at hst;have EN:Hid (validHR p u=false):=BAD.out (by rw[hst.out];rfl);clear hval;go_wp2_with fail
        go_ret
        exact⟨by rw[EN.out];rfl,hbx⟩
       | true =>
        rw[hval]at hst;have EN:Hid (pairsOkR m.items (m.items.drop (i+2))=pairsOkR m.items m.items):=by rw[Hid,hst.out];rfl
        have hi6:(i+2)%2=0:=by have:=HIE.out;omega
        clear hval hHx;go_wp2_with fail
        go_roundw
        case rel=>exact⟨i+2,by omega,hi6,by omega,EN.out⟩
        case measure=>simp[intOf];omega
     ·have EN:=GOOD.out (by rw[← HS.out];exact pairsOkR_end _ _ _ (by omega));have HEN:=Hh EN;clear EN;go_wp2_with fail
      go_roundw
      case rel=>exact⟨j+1,by omega,by go_num,HEN.out.1,HEN.out.2,hbs,hBs,hPs,hQs,hIs⟩
      case measure=>simp[intOf];omega
   ·have hjn:¬ (j:Int)<2:=by omega
    have E2:Hid (validHR p u=(keysR p.items u.items&&(!(findR p u 5).isSome || !(findR p u 6).isSome))):=by
     rw[Hid,E.out,HOP.out (by omega),HOU.out (by omega)];rfl
    clear hIr;have d3:=hQr.cell 3 rfl;go_wp2_with fail
    go_loopw [8] (fun v8 wr=>∃ i:Nat,i≤u.items.length∧i%2=0∧v8=.int .i64 i∧keysR p.items (u.items.drop i)=keysR p.items u.items∧Below w.heap.size w wr∧Blk wr w.heap.size 28 (hdrC p a u b)∧Blk wr g1 26 #[.int .i64 p.kind,.int .u64 p.n,.slice a.ba p.bytes.length a.bc,.slice a.ia p.items.length a.ic]∧Blk wr g2 26 #[.int .i64 u.kind,.int .u64 u.n,.slice b.ba u.bytes.length b.bc,.slice b.ia u.items.length b.ic]) (fun v8 _=>u.items.length-(intOf v8).toNat)
    case atStart=>exact⟨0,by omega,rfl,rfl,rfl,hbr,hBr,hPr,hQr⟩
    case round =>
     obtain⟨i,hi,hie,rfl,hs,hbs,hBs,hPs,hQs⟩:=hrel;have HS:=Hh hs;have HIE:=Hh hie;have f3:=hQs.cell 3 rfl;have hml:=HMU.out.parts.2.1;clear hs hie d3 hbr hBr hPr hQr
     by_cases hlt2:i<u.items.length
     ·have hme:=HEU.out;have hie:=HIE.out;have hlt3:i+1<u.items.length:=by omega
      have hHr:Holds wr H:=hH.below hbs (Nat.le_refl _);obtain⟨ib,io,hia,hel⟩:=HU.out.items (by omega);obtain⟨y1,y2,y3,y4,q0,q1,q2,q3,hey⟩:=hel.get i hlt2;have hst:=Hh (HS.out.symm.trans (keysR_step p.items u.items i hlt3));have hmy:=HMU.out.parts.2.2.get i hlt2;have hi3:(i:Int)<u.items.length:=by omega
      generalize u.items[i]'hlt2=y at *
      have AT:=Hh (fun(w1:World) (h:Holds w1 H)=>ref_at HMP.out hmy HP.out.arg hey.arg w1 h);have SM:=Hh (fun(w1:World) (H1:Snap) (hl:H.le H1) (xa:Option Addr) (xb:Nat) (xc:Option Addr) (xd:Nat) (hi1:IsItem H1 xa xb xc xd (intP 2)) (h:Holds w1 H1)=>ref_Same y (intP 2) H1 _ _ y1 _ y2 y3 _ y4 _ _ xa _ xb xc _ xd w1 hmy (modest_int 2) (hey.mono hl).arg hi1.arg h);have HIA:=Hh hia;clear hia;have hQ3:∀ {wq:World},Blk wq g2 26 #[.int .i64 u.kind,.int .u64 u.n,.slice b.ba u.bytes.length b.bc,.slice b.ia u.items.length b.ic]→wq.cell? ⟨g2,3,none⟩=some (.slice (some ⟨ib,io,none⟩) u.items.length b.ic):=fun h=>by rw[h.cell 3 rfl];show some (Value.slice b.ia _ _)=_;rw[HIA.out]
      have hHx:=hHr.drew;have hbx:=hbs.drew;have hBx:=hBs.drew;have hPx:=hPs.drew;have hQx:=hQs.drew;clear hel hmy hey hme hie hBs hPs hQs hbs hHr;go_upto_region 16 with fail
      clear f3;go_cut [10] (fun s10 wx=>s10=.bool (atL y p.items).isSome∧Below w.heap.size w wx∧Blk wx w.heap.size 28 (hdrC p a u b)∧Blk wx g1 26 #[.int .i64 p.kind,.int .u64 p.n,.slice a.ba p.bytes.length a.bc,.slice a.ia p.items.length a.ic]∧Blk wx g2 26 #[.int .i64 u.kind,.int .u64 u.n,.slice b.ba u.bytes.length b.bc,.slice b.ia u.items.length b.ic])
      case first =>
       refine wp_region_ways 12 (fun w'=>w'.cell? ⟨g1,0,none⟩=some (.int .i64 p.kind)∧w'.cell? ⟨g1,1,none⟩=some (.int .u64 p.n)∧w'.cell? ⟨g1,2,none⟩=some (.slice a.ba p.bytes.length a.bc)∧w'.cell? ⟨g1,3,none⟩=some (.slice a.ia p.items.length a.ic)∧w'.cell? ⟨g2,3,none⟩=some (.slice (some ⟨ib,io,none⟩) u.items.length b.ic)∧w'.cell? ⟨ib,io+i*4,none⟩=some (.int .i64 y.kind)∧w'.cell? ⟨ib,io+i*4+1,none⟩=some (.int .u64 y.n)∧w'.cell? ⟨ib,io+i*4+2,none⟩=some (.slice y1 y.bytes.length y2)∧w'.cell? ⟨ib,io+i*4+3,none⟩=some (.slice y3 y.items.length y4)) (by kernel_rfl) (⟨hPx.cell 0 rfl,hPx.cell 1 rfl,hPx.cell 2 rfl,hPx.cell 3 rfl,hQ3 hQx,hHx.cell q0,hHx.cell q1,hHx.cell q2,hHx.cell q3⟩) (fun hHeld=>?_)
       refine Tk 0 rfl hHeld ?_
       refine Tk 1 rfl hHeld ?_
       refine Tk 2 rfl hHeld ?_
       refine Tk 3 rfl hHeld ?_
       refine Tk 4 rfl hHeld ?_
       refine Tk 5 rfl hHeld ?_
       refine Ways.two (i:=6) (j:=10) rfl rfl (by kernel_rfl) (fun K hK=>?_) (fun K hK=>?_)
       ·go_simp
        refine(AT.out _ hHx).mono ?_
        rintro e w5 ⟨⟨ra,rb,rc,rd,rfl,_⟩,hb5⟩
        have hPx:=hPx.below hb5;have hQx:=hQx.below hb5;have hBx:=hBx.below hb5
        try have hN:=hN.below hb5
        have hHx:=hHx.below hb5 (Nat.le_refl _);have hbx:=hbx.trans (hb5.mono hbx.size)
        refine Ko hK ?_ fun hHeld=>?_
        ·exact⟨hPx.cell 0 rfl,hPx.cell 1 rfl,hPx.cell 2 rfl,hPx.cell 3 rfl,hQ3 hQx,hHx.cell q0,hHx.cell q1,hHx.cell q2,hHx.cell q3⟩
        clear hK K
        refine Tk 7 rfl hHeld ?_
        refine Tk 8 rfl hHeld ?_
        refine Tk 9 rfl hHeld ?_
        refine To 10 rfl fun K hK=>?_
        go_simp
        have hN:=below_newBlk hbx 26 #[.int .i64 0,.int .u64 0,.slice none 0 0,.slice none 0 0];have hl1:=hPx.lt;have hl2:=hQx.lt;have hl3:=hBx.lt;have hl4:=hbx.size
        try simp only[drew_heap,size_alloc]at hN hl1 hl2 hl3 hl4
        have hPx:=hPx.alloc zeroO;have hQx:=hQx.alloc zeroO;have hBx:=hBx.alloc zeroO;have hHx:=hHx.alloc zeroO;have hbx:=hbx.alloc hbx.size zeroO
        refine Ko hK ?_ fun hHeld=>?_
        ·exact⟨hPx.cell 0 rfl,hPx.cell 1 rfl,hPx.cell 2 rfl,hPx.cell 3 rfl,hQ3 hQx,hHx.cell q0,hHx.cell q1,hHx.cell q2,hHx.cell q3⟩
        clear hK K
        refine To 11 rfl fun K hK=>?_
        rw[if_pos (by rfl)]
        refine wp_store_item _ _ _ rfl _ _ rfl rfl _ _ hN size_item rfl (one4 _ _ _ _ rfl rfl rfl rfl) fun w6 hN6 hg6=>?_
        have hHx:Holds _ H:=hH.below (hbx.grown hg6 hbx.size (by rintro q ⟨⟩;omega)) (Nat.le_refl _);have hPx:=hPx.grown hg6 (by first | (simp;done) | (simp;omega));have hQx:=hQx.grown hg6 (by first | (simp;done) | (simp;omega));have hBx:=hBx.grown hg6 (by first | (simp;done) | (simp;omega));have hbx:=hbx.grown hg6 hbx.size (by rintro q ⟨⟩;omega)
        refine Ko hK ?_ fun hHeld=>?_
        ·exact⟨hPx.cell 0 rfl,hPx.cell 1 rfl,hPx.cell 2 rfl,hPx.cell 3 rfl,hQ3 hQx,hHx.cell q0,hHx.cell q1,hHx.cell q2,hHx.cell q3⟩
        clear hK K
        refine To 12 rfl fun K hK=>?_
        go_simp
        refine Kz hK ?_
        clear hK K
        refine Wd ?_
        go_wp2_with fail
        go_meet
        exact⟨rfl,hbx,hBx,hPx,hQx⟩
       ·go_simp
        have hN:=below_newBlk hbx 26 #[.int .i64 0,.int .u64 0,.slice none 0 0,.slice none 0 0];have hl1:=hPx.lt;have hl2:=hQx.lt;have hl3:=hBx.lt;have hl4:=hbx.size
        try simp only[drew_heap,size_alloc]at hN hl1 hl2 hl3 hl4
        have hPx:=hPx.alloc zeroO;have hQx:=hQx.alloc zeroO;have hBx:=hBx.alloc zeroO;have hHx:=hHx.alloc zeroO;have hbx:=hbx.alloc hbx.size zeroO
        refine Ko hK ?_ fun hHeld=>?_
        ·exact⟨hPx.cell 0 rfl,hPx.cell 1 rfl,hPx.cell 2 rfl,hPx.cell 3 rfl,hQ3 hQx,hHx.cell q0,hHx.cell q1,hHx.cell q2,hHx.cell q3⟩
        clear hK K
        refine To 6 rfl fun K hK=>?_
        go_simp
        refine(AT.out _ hHx).mono ?_
        rintro e w5 ⟨⟨ra,rb,rc,rd,rfl,_⟩,hb5⟩
        have hPx:=hPx.below hb5;have hQx:=hQx.below hb5;have hBx:=hBx.below hb5
        try have hN:=hN.below hb5
        have hHx:=hHx.below hb5 (Nat.le_refl _);have hbx:=hbx.trans (hb5.mono hbx.size)
        refine Ko hK ?_ fun hHeld=>?_
        ·exact⟨hPx.cell 0 rfl,hPx.cell 1 rfl,hPx.cell 2 rfl,hPx.cell 3 rfl,hQ3 hQx,hHx.cell q0,hHx.cell q1,hHx.cell q2,hHx.cell q3⟩
        clear hK K
        refine Tk 7 rfl hHeld ?_
        refine Tk 8 rfl hHeld ?_
        refine Tk 9 rfl hHeld ?_
        refine To 11 rfl fun K hK=>?_
        rw[if_pos (by rfl)]
        refine wp_store_item _ _ _ rfl _ _ rfl rfl _ _ hN size_item rfl (one4 _ _ _ _ rfl rfl rfl rfl) fun w6 hN6 hg6=>?_
        have hHx:Holds _ H:=hH.below (hbx.grown hg6 hbx.size (by rintro q ⟨⟩;omega)) (Nat.le_refl _);have hPx:=hPx.grown hg6 (by first | (simp;done) | (simp;omega));have hQx:=hQx.grown hg6 (by first | (simp;done) | (simp;omega));have hBx:=hBx.grown hg6 (by first | (simp;done) | (simp;omega));have hbx:=hbx.grown hg6 hbx.size (by rintro q ⟨⟩;omega)
        refine Ko hK ?_ fun hHeld=>?_
        ·exact⟨hPx.cell 0 rfl,hPx.cell 1 rfl,hPx.cell 2 rfl,hPx.cell 3 rfl,hQ3 hQx,hHx.cell q0,hHx.cell q1,hHx.cell q2,hHx.cell q3⟩
        clear hK K
        refine To 12 rfl fun K hK=>?_
        go_simp
        refine Kz hK ?_
        clear hK K
        refine Wd ?_
        go_wp2_with fail
        go_meet
        exact⟨rfl,hbx,hBx,hPx,hQx⟩
      case rest =>
       clear hHx hbx hBx hPx hQx;obtain⟨rfl,hbx,hBx,hPx,hQx⟩:=hcut;have hHx:Holds wc.drew H:=(hH.below hbx (Nat.le_refl _)).drew;have hPx:=hPx.drew;have hQx:=hQx.drew;have hBx:=hBx.drew;have hbx:=hbx.drew
       cases hat:(atL y p.items).isSome with
       | true =>
        rw[hat]at hst;have EN:Hid (validHR p u=false):=by rw[Hid,E2.out,hst.out];rfl
        clear hat;go_upto_region 17 with fail
        refine wp_region_ways 9 (fun w'=>w'.cell? ⟨g2,3,none⟩=some (.slice (some ⟨ib,io,none⟩) u.items.length b.ic)∧w'.cell? ⟨ib,io+i*4,none⟩=some (.int .i64 y.kind)∧w'.cell? ⟨ib,io+i*4+1,none⟩=some (.int .u64 y.n)∧w'.cell? ⟨ib,io+i*4+2,none⟩=some (.slice y1 y.bytes.length y2)∧w'.cell? ⟨ib,io+i*4+3,none⟩=some (.slice y3 y.items.length y4)) (by kernel_rfl) (⟨hQ3 hQx,hHx.cell q0,hHx.cell q1,hHx.cell q2,hHx.cell q3⟩) (fun hHeld=>?_)
        refine Tk 0 rfl hHeld ?_
        refine Tk 1 rfl hHeld ?_
        refine TkU 2 rfl hHeld ?_
        refine TkU 3 rfl hHeld ?_
        refine TkU 4 rfl hHeld ?_
        refine TkU 5 rfl hHeld ?_
        refine TkU 6 rfl hHeld ?_
        refine TkU 7 rfl hHeld ?_
        refine TkU 8 rfl hHeld ?_
        refine To 9 rfl fun K hK=>?_
        go_simp
        refine Kz hK ?_
        clear hK K
        refine Wd ?_
        clear hHeld;go_wp2_with fail
        go_ret
        exact⟨by rw[EN.out];rfl,hbx⟩
       | false =>
        rw[hat]at hst;clear hat;go_upto_region 17 with fail
        refine wp_region_ways 9 (fun w'=>w'.cell? ⟨g2,3,none⟩=some (.slice (some ⟨ib,io,none⟩) u.items.length b.ic)∧w'.cell? ⟨ib,io+i*4,none⟩=some (.int .i64 y.kind)∧w'.cell? ⟨ib,io+i*4+1,none⟩=some (.int .u64 y.n)∧w'.cell? ⟨ib,io+i*4+2,none⟩=some (.slice y1 y.bytes.length y2)∧w'.cell? ⟨ib,io+i*4+3,none⟩=some (.slice y3 y.items.length y4)) (by kernel_rfl) (⟨hQ3 hQx,hHx.cell q0,hHx.cell q1,hHx.cell q2,hHx.cell q3⟩) (fun hHeld=>?_)
        refine Tk 0 rfl hHeld ?_
        refine Tk 1 rfl hHeld ?_
        refine TkG 2 rfl hHeld ?_
        refine TkG 3 rfl hHeld ?_
        refine TkG 4 rfl hHeld ?_
        refine TkG 5 rfl hHeld ?_
        refine TkG 6 rfl hHeld ?_
        refine To 7 rfl fun K hK=>?_
        go_simp
        refine(ref_Int 2 (by omega) (by omega) _ hHx).mono ?_
        rintro e w8 ⟨v8,rfl,hv8⟩
        have hPx:=hPx.below hv8.below;have hQx:=hQx.below hv8.below;have hBx:=hBx.below hv8.below;have hHx:=hHx.below hv8.below (Nat.le_refl _);have hbx:=hbx.trans (hv8.below.mono hbx.size);obtain⟨xa,xb,xc,xd,H1,rfl,hG1,hi1⟩:=hv8
        refine Ko hK ?_ fun hHeld=>?_
        ·exact⟨hQ3 hQx,hHx.cell q0,hHx.cell q1,hHx.cell q2,hHx.cell q3⟩
        clear hK K
        refine To 8 rfl fun K hK=>?_
        go_simp
        refine(SM.out _ H1 hG1.le xa xb xc xd hi1 hG1.holds).mono ?_
        rintro e w9 ⟨rfl,hb9⟩
        have hPx:=hPx.below hb9;have hQx:=hQx.below hb9;have hBx:=hBx.below hb9;have hHx:=hHx.below hb9 (Nat.le_refl _);have hbx:=hbx.trans (hb9.mono hbx.size)
        refine Ko hK ?_ fun hHeld=>?_
        ·exact⟨hQ3 hQx,hHx.cell q0,hHx.cell q1,hHx.cell q2,hHx.cell q3⟩
        clear hK K
        refine To 9 rfl fun K hK=>?_
        go_simp
        refine Kz hK ?_
        clear hK K
        refine Wd ?_
        clear hHeld hHx
        cases hsm:sameB y (intP 2) with
        | true =>
         rw[hsm]at hst;have EN:Hid (validHR p u=false):=by rw[Hid,E2.out,hst.out];rfl
         clear hsm;go_wp2_with fail
         go_ret
         exact⟨by rw[EN.out];rfl,hbx⟩
        | false =>
         rw[hsm]at hst;have EN:Hid (keysR p.items (u.items.drop (i+2))=keysR p.items u.items):=by rw[Hid,hst.out];rfl
         have hi6:(i+2)%2=0:=by have:=HIE.out;omega
         clear hsm;go_wp2_with fail
         go_roundw
         case rel=>first | exact⟨i+2,by omega,hi6,by go_num,EN.out,hbx,hBx,hPx,hQx⟩ | exact⟨i+2,by omega,hi6,by omega,EN.out⟩
         case measure=>simp[intOf];omega
     ·have EN:Hid (validHR p u=(!(findR p u 5).isSome || !(findR p u 6).isSome)):=by
       rw[Hid,E2.out,← HS.out,keysR_end _ _ _ (by omega)];rfl
      have g0:=hBs.cell 0 rfl;have g1':=hBs.cell 1 rfl;have g2':=hBs.cell 2 rfl;have g3':=hBs.cell 3 rfl;have g4:=hBs.cell 4 rfl;have g5:=hBs.cell 5 rfl;have g6:=hBs.cell 6 rfl;have g7:=hBs.cell 7 rfl;have F:=Hh (fun(n:Int) (h1 : -9223372036854775808≤n) (h2:n≤9223372036854775807) (w1:World) (h:Holds w1 H)=>ref_find HMP.out HMU.out HP.out HU.out n h1 h2 w1 h);have hnl:¬ (i:Int)<u.items.length:=by omega
      clear hlt2 hPs hQs;go_wp2_with fail
      refine(F.out 5 (by omega) (by omega) _ (hH.below hbs (Nat.le_refl _))).mono ?_
      rintro e w5 ⟨v5,rfl,hv5⟩
      have hb5:=hbs.trans (hv5.below.mono hbs.size);have hB5:=hBs.below hv5.below;obtain⟨xa,xb,xc,xd,H5,rfl,hG5,_⟩:=hv5;have hb6:=hb5.alloc hb5.size (itemO ((findR p u 5).getD zeroItm) xa xb xc xd);have hB6:=hB5.alloc (itemO ((findR p u 5).getD zeroItm) xa xb xc xd);have g0:=hB6.cell 0 rfl;have g1':=hB6.cell 1 rfl;have g2':=hB6.cell 2 rfl;have g3':=hB6.cell 3 rfl;have g4:=hB6.cell 4 rfl;have g5:=hB6.cell 5 rfl;have g6:=hB6.cell 6 rfl;have g7:=hB6.cell 7 rfl
      generalize hf5:findR p u 5=o5 at *
      generalize o5.getD zeroItm=z5 at *
      clear hb5 hB5 hG5 hbs hBs;go_wp2_with fail
      refine(F.out 6 (by omega) (by omega) _ (hH.below hb6 (Nat.le_refl _))).mono ?_
      rintro e w7 ⟨v7,rfl,hv7⟩
      have hb7:=hb6.trans (hv7.below.mono hb6.size);obtain⟨ya,yb,yc,yd,H7,rfl,hG7,_⟩:=hv7;have hb8:=hb7.alloc hb7.size (itemO ((findR p u 6).getD zeroItm) ya yb yc yd)
      generalize hf6:findR p u 6=o6 at *
      generalize o6.getD zeroItm=z6 at *
      have EN':Hid (validHR p u=(!o5.isSome || !o6.isSome)):=EN.out
      generalize o5.isSome=t5 at *
      generalize o6.isSome=t6 at *
      clear hf5 hf6 EN
      cases t5 <;> cases t6
      all_goals
       go_wp2_with fail
       go_ret
       exact⟨by rw[EN'.out];rfl,hb8⟩
theorem ref12_ValidH {H:Snap}(hTab:Tabs H) {p u:Itm}{a b:Ad}(hp:IsItem H a.ba a.bc a.ia a.ic p) (hu:IsItem H b.ba b.bc b.ia b.ic u) (w:World) (hH:Holds w H) :
  Calls Tryz.prog 26 #[.agg (hdrC p a u b)] w fun e w'=>e=.returned (.bool (validH p u))∧Below w.heap.size w w':=by
 refine(ref12_Valid hTab hp hu w hH).mono fun e w' h=>?_
 rw[validHR_eq hp.nums hu.nums]at h
 exact h
theorem ref12_Protected {H:Snap}(hTab:Tabs H) {p u:Itm}{a b:Ad}(hp:IsItem H a.ba a.bc a.ia a.ic p) (hu:IsItem H b.ba b.bc b.ia b.ic u) (w:World) (hH:Holds w H) :
  Calls Tryz.prog 63 #[.agg (hdrC p a u b)] w (ProtSaid w p u):=by
 have hB:=Blk.new w 28 (hdrC p a u b);have hb0:=below_box w (.cells (hdrC p a u b) 28);have hH0:=hH.alloc (.cells (hdrC p a u b) 28);have V:=Hh (ref12_ValidH hTab hp hu _ hH0)
 cases hv:validH p u with
 | false =>
  rw[hv]at V;have HV:=Hh hv;clear hv;go_enter Tryz.func63,Tryz.ntmps63
  go_wp2_with fail
  refine V.out.mono ?_
  rintro e w1 ⟨rfl,hb1⟩
  have hbz:=hb0.trans (hb1.mono hb0.size);go_wp2_with fail
  go_ret2
  exact .inl ⟨HV.out,rfl,hbz⟩
 | true =>
  rw[hv]at V;have HV:=Hh hv;have hvp:=(validH_valid hv).1;have hil:=(validP_items hvp).2.1;clear hv;go_enter Tryz.func63,Tryz.ntmps63
  go_wp2_with fail
  refine V.out.mono ?_
  rintro e w1 ⟨rfl,hb1⟩
  have hB1:=hB.below hb1;have hbz:=hb0.trans (hb1.mono hb0.size);have c0:=hB1.cell 0 rfl;have c1:=hB1.cell 1 rfl;have c2:=hB1.cell 2 rfl;have c3:=hB1.cell 3 rfl
  by_cases h0:p.items.length=0
  ·have E:Hid (protB p=[]):=by rw[Hid,protB,if_pos h0]
   have k0:((p.items.length:Int)==0)=true:=by simp;simpa using h0
   clear h0;go_wp2_with fail
   go_ret2
   exact .inr ⟨HV.out,_,rfl,by rw[E.out];exact⟨OwnB.nil _ _,hbz⟩⟩
  ·have E:Hid (protB p=encB p):=by rw[Hid,protB,if_neg h0]
   have k0:((p.items.length:Int)==0)=false:=by rw[beq_eq_false_iff_ne];omega
   have EN:=Hh (ref_Encode hTab hp.arg w1 (hH.below hbz (Nat.le_refl _)));have HVP:=Hh hvp;clear h0 hvp;go_wp2_with fail
   refine EN.out.mono ?_
   rintro e w2 (⟨hf,_⟩ | ⟨_,r,rfl,hfr⟩)
   ·rw[HVP.out]at hf;cases hf
   ·have R:Hid (Fresh w (protB p) r w2):=by
     rw[Hid,E.out]
     exact⟨hfr.own.more hbz.size,hbz.trans (hfr.2.mono hbz.size)⟩
    clear hfr;go_wp2_with fail
    go_ret2
    exact .inr ⟨HV.out,_,rfl,R.out⟩
theorem ref13_Input {H:Snap}(hTab:Tabs H) {p u:Itm}{a b:Ad}(hp:IsItem H a.ba a.bc a.ia a.ic p) (hu:IsItem H b.ba b.bc b.ia b.ic u) (s:ByteArray) (hs:s.size≤1048576)
  {EA:Option Addr} {ec:Nat} {ext:List UInt8} (hext:IsBytes H EA ec ext) (hel:ext.length≤1048576) {PA:Option Addr} {pc:Nat} {pay:List (List UInt8)} (hpay:IsRows H PA pc pay) (hpl:pay.length≤1048576) (hpb:∀ l∈pay,l.length≤1048576) (w:World) (hH:Holds w H) :
  Calls Tryz.prog 27 #[.string s,.agg (hdrC p a u b),.slice EA ext.length ec,.slice PA pay.length pc] w (InputSaid w s.data.toList p u ext pay):=by
 have hb0:=below_box w (.cells (hdrC p a u b) 28);have hG0:=(Grows.refl hH).alloc (.cells (hdrC p a u b) 28);have P:=Hh (ref12_Protected hTab hp hu _ hG0.holds);go_enter Tryz.func27,Tryz.ntmps27
 go_wp2_with fail
 refine P.out.mono ?_
 rintro e w1 (⟨hv,rfl,hb1⟩ | ⟨hv,r,rfl,hf⟩)
 ·have E:Hid (inputE s.data.toList p u ext pay=1):=by rw[Hid,inputE,if_pos hv]
  have hbz:=hb0.trans (hb1.mono hb0.size);clear hv;go_wp2_with fail
  go_ret2
  exact⟨_,[],by rw[E.out];rfl,⟨OwnB.nil _ _,hbz⟩,by rw[E.out];rfl⟩
 ·obtain⟨RA,rc,rfl,_⟩:=hf.own.form;have U:=Hh (utf8_ValidString hTab w1 (hG0.holds.below hf.2 (Nat.le_refl _)) s (by omega))
  cases hc:Lib.validD s.data.toList with
  | false =>
   have E:Hid (inputE s.data.toList p u ext pay=5):=by rw[Hid,inputE,if_neg (by simp[hv]),if_pos hc]
   rw[hc]at U;clear hv hc;go_wp2_with fail
   refine U.out.mono ?_
   rintro e w2 ⟨rfl,hb2⟩
   have hbz:=(hb0.trans (hf.2.mono hb0.size)).trans (hb2.mono (Nat.le_trans hb0.size hf.2.size));go_wp2_with fail
   go_ret2
   exact⟨_,[],by rw[E.out];rfl,⟨OwnB.nil _ _,hbz⟩,by rw[E.out];rfl⟩
  | true =>
   rw[hc]at U;have HVC:=Hh (And.intro hv hc);clear hv hc;go_wp2_with fail
   refine U.out.mono ?_
   rintro e w2 ⟨rfl,hb2⟩
   have hpb4:(protB p).length≤1099511627776:=by
    have:=(validP_spec (validH_valid HVC.out.1).1).2.2
    unfold protB
    split
    ·simp
    ·omega
   have hG2:=(hG0.below_ hf.2).below_ hb2;have hsr:=(hf.own.src).below hb2;obtain⟨x3,hx3⟩:∃ x,Itm.mk 3 0 s.data.toList []=x:=⟨_,rfl⟩
   obtain⟨x4,hx4⟩:∃ x,Itm.mk 2 0 (protB p) []=x:=⟨_,rfl⟩
   obtain⟨x5,hx5⟩:∃ x,Itm.mk 2 0 ext []=x:=⟨_,rfl⟩
   have T:=Hh (ref_Text s (by omega) w2 hG2.holds);rw[hx3]at T;go_wp2_with fail
   refine T.out.mono ?_
   rintro e w3 ⟨v3,rfl,ta,tb,tc,td,H3,rfl,hG3,hi3⟩
   have B1:=Hh (ref_Bytes (c:=rc) (A:=RA) (l:=protB p) rfl hpb4 w3 (hsr.below hG3.below) hG3.holds);rw[hx4]at B1;clear T;go_wp2_with fail
   refine B1.out.mono ?_
   rintro e w4 ⟨v4,rfl,pa',pb',pc',pd',H4,rfl,hG4,hi4⟩
   have B2:=Hh (ref_Bytes (c:=ec) (A:=EA) (l:=ext) rfl (by omega) w4 (Src.of_row (hext.row.mono (hG3.le.trans hG4.le)) hG4.holds) hG4.holds);rw[hx5]at B2;clear B1;go_wp2_with fail
   refine B2.out.mono ?_
   rintro e w5 ⟨v5,rfl,ea',eb',ec',ed',H5,rfl,hG5,hi5⟩
   have hG:=((hG2.trans hG3).trans hG4).trans hG5
   have hl0:ItemsC H5 (itemC x3 ta tb tc td++(itemC x4 pa' pb' pc' pd'++itemC x5 ea' eb' ec' ed')) [x3,x4,x5] :=
    (ItemsC.one (hi3.mono (hG4.le.trans hG5.le))).app ((ItemsC.one (hi4.mono hG5.le)).app (ItemsC.one hi5))
   have hO:=OwnI.lit (w:=w5) hl0 (w.heap.size+1) (by have:=hf.2.size;have:=hb2.size;have:=hG3.size;have:=hG4.size;have:=hG5.size;simp at *;omega) (by simp);have hGl:=hG.alloc (.cells (itemC x3 ta tb tc td++(itemC x4 pa' pb' pc' pd'++itemC x5 ea' eb' ec' ed')).toArray 26);have hnv:H5 w5.heap.size=none:=hG5.holds.none_of_ge (Nat.le_refl _);clear hG2 hG3 hG4 hG5 hi3 hi4 hi5 hG B2 hsr hf hb2 hl0;go_upto_region 8 with fail
   go_loopw [12,36] (fun v12 vi wr=>∃ (k:Nat) (Hr:Snap) (VA:Option Addr) (vc:Nat),k≤pay.length∧vi=.int .i64 k∧v12=.slice VA (3+k) vc∧Grows w H wr Hr∧
    OwnI wr (w.heap.size+1) (.slice VA (3+k) vc) Hr ([x3,x4,x5]++(pay.take k).map bytesItm)∧(∀ g,(Value.slice VA (3+k) vc).ownBlock=some g→Hr g=none)) (fun _ vi _=>pay.length-(intOf vi).toNat)
   case atStart=>exact⟨0,H5,_,_,Nat.zero_le _,rfl,rfl,hGl,hO,by intro g hg;simp[Value.ownBlock]at hg;subst hg;exact hnv⟩
   case round =>
    obtain⟨k,Hr,VA,vc,hk,rfl,rfl,hGr,hOr,hnr⟩:=hrel
    by_cases hlt:k<pay.length
    ·obtain⟨rb,ro,hra,hrow⟩:=hpay.rows (by omega);obtain⟨Aj,cj,q0,hbj⟩:=hrow k hlt;subst hra;have p0:=(hGr.holds.mono hGr.le).cell q0;have hlj:=hpb pay[k] (List.getElem_mem hlt);obtain⟨x6,hx6⟩:∃ x,Itm.mk 2 0 pay[k] []=x:=⟨_,rfl⟩
     have B:=Hh (ref_Bytes (c:=cj) (A:=Aj) (l:=pay[k]) rfl (by omega) wr (Src.of_row (hbj.row.mono hGr.le) hGr.holds) hGr.holds);rw[hx6]at B;clear q0 hrow;go_wp2_with fail
     refine B.out.mono ?_
     rintro e w6 ⟨v6,rfl,ja,jb,jc,jd,H6,rfl,hG6,hi6⟩
     have hO6:=((hOr.below hG6.below).mono hG6.le).alloc (.cells (itemC x6 ja jb jc jd).toArray 26);have hG7:=(hGr.trans hG6).alloc (.cells (itemC x6 ja jb jc jd).toArray 26);have hn6:∀ g,(Value.slice VA (3+k) vc).ownBlock=some g→H6 g=none:=fun g hg=>hG6.none (hnr g hg) (hOr.lt g hg).2
     clear p0 B;go_wp2_with (at_builtin;refine stop_in ?_)
     refine wpList_app_items rfl (.tmp 40) (.tmp 43) rfl (w.heap.size+1) (.slice VA (3+k) vc) H6 _ rfl hO6 _ 1 _ (itemC x6 ja jb jc jd) [x6] rfl rfl (ItemsC.one hi6) (Src.new _ _ _ _ rfl _ rfl) (by simp;omega) (by have:=hG7.size;have:=hG6.size;have:=hGr.size;simp at *;omega) fun v' w7 hO7 hg7 hat7=>?_
     obtain⟨VA',vc',rfl,_⟩:=hO7.form;have hG8:=hG7.grownRow hn6 (fun g hg=>by have:=(hO6.lt g hg).1;omega) hg7
     have hn7:∀ g,(Value.slice VA' ([x3,x4,x5]++(pay.take k).map bytesItm++[x6]).length vc').ownBlock=some g→H6 g=none:=fun g hg=>by
      rcases hat7 with h | ⟨g',h1,h2⟩
      ·exact hn6 g (by rw[← h,hg])
      ·rw[hg]at h1;injection h1 with h1
       subst h1
       exact hG7.hidden h2
     have hll:([x3,x4,x5]++(pay.take k).map bytesItm++[x6])=[x3,x4,x5]++(pay.take (k+1)).map bytesItm:=by
      rw[List.take_succ_eq_append_getElem hlt,List.map_append,← hx6]
      simp
     have hlen:([x3,x4,x5]++(pay.take (k+1)).map bytesItm).length=3+(k+1):=by simp;omega
     rw[hll,hlen]at hO7 hn7;rw[hll,hlen];have hk63:(k:Int)+1≤9223372036854775807:=by omega
     clear hO6 hg7 hat7 hn6 hG7 hOr hGr hG6 hi6 hbj;go_wp2_with fail
     go_roundw
     case rel=>exact⟨k+1,H6,VA',vc',by omega,by go_num,rfl,hG8,hO7,hn7⟩
     case measure=>simp[intOf];omega
    ·have hkl:k=pay.length:=by omega
     subst hkl;rw[List.take_length]at hOr;have hI:Hid (inputI s.data.toList p ext pay=.mk 4 0 [] ([x3,x4,x5]++pay.map bytesItm)):=by rw[Hid,inputI,← hx3,← hx4,← hx5]
     have hmod:ModestL ([x3,x4,x5]++pay.map bytesItm):=by
      rw[← hx3,← hx4,← hx5]
      refine ModestL.of fun x hx=>?_
      simp only[List.cons_append,List.nil_append,List.mem_cons,List.mem_map]at hx
      rcases hx with rfl | rfl | rfl | ⟨l,hl,rfl⟩ <;> rw[Modest,ModestL] <;> refine⟨?_,by simp,trivial⟩
      ·simpa using (by omega:s.size≤1099511627776)
      ·exact hpb4
      ·omega
      ·have:=hpb l hl
       omega
     obtain⟨L,hL⟩:∃ L,[x3,x4,x5]++pay.map bytesItm=L:=⟨_,rfl⟩
     have hLn:L.length=3+pay.length:=by rw[← hL];simp;omega
     rw[hL]at hOr hmod hI;obtain⟨H8,hl8,hh8,hf8,hz8,hle1,hle2,hel8⟩:=hOr.snap hGr.holds (fun g hg=>hnr g (by cases VA <;> simp_all [Value.ownBlock]))
     have hGz:Grows w H wr H8:=⟨hGr.below,hGr.le.trans hl8,hh8,fun b o hb=>by
      rcases hf8 b o hb with h | h
      ·exact hGr.fresh b o h
      ·exact .inr (by have:=(hOr.lt b (by cases VA <;> simp_all [Value.ownBlock])).1;omega)⟩
     obtain⟨x7,hx7⟩:∃ x,Itm.mk 4 0 [] L=x:=⟨_,rfl⟩
     have hi8:IsItem H8 none 0 VA vc x7:=by
      rw[← hx7,IsItem]
      exact⟨⟨by omega,by omega,by omega,hle1,hle2⟩,IsBytes.nil _,hel8⟩
     have ha8:ItemA H8 4 0 none 0 0 VA (3+pay.length) vc x7:=by
      refine⟨by rw[← hx7];rfl,by rw[← hx7];rfl,by rw[← hx7];rfl, ?_,hi8⟩
      rw[← hx7];exact hLn.symm
     rw[hx7]at hI;have EN:=Hh (ref_Encode (hTab.mono hGz.le) ha8 wr hGz.holds);clear hL hmod hOr hx3 hx4 hx5 hx7 hLn ha8 hi8 hO hl8 hh8 hf8 hle1 hle2 hel8 hGr hnr hz8;go_wp2_with fail
     refine EN.out.mono ?_
     rintro e w9 (⟨hv,rfl,hb9⟩ | ⟨hv,r,rfl,hfr⟩)
     ·have E:Hid (inputE s.data.toList p u ext pay=8):=by rw[Hid,inputE,if_neg (by simp[HVC.out.1]),if_neg (by simp[HVC.out.2]),hI.out,if_pos hv]
      have hbz:=hGz.below.trans (hb9.mono hGz.size);clear hv;go_wp2_with fail
      go_ret2
      exact⟨_,[],by rw[E.out];rfl,⟨OwnB.nil _ _,hbz⟩,by rw[E.out];rfl⟩
     ·have E:Hid (inputE s.data.toList p u ext pay=0):=by rw[Hid,inputE,if_neg (by simp[HVC.out.1]),if_neg (by simp[HVC.out.2]),hI.out,if_neg (by simp[hv])]
      have R:Hid (Fresh w (encB x7) r w9):=⟨hfr.own.more hGz.size,hGz.below.trans (hfr.2.mono hGz.size)⟩
      obtain⟨RA',rc',rfl,_⟩:=hfr.own.form;clear hv hfr;go_wp2_with fail
      go_ret2
      exact⟨_,encB x7,by rw[E.out];rfl,R.out,by rw[E.out,hI.out];rfl⟩
def szL (x:Itm):Nat:=(encL x.items).length
theorem encB_len (k:Int) (n:Nat) (bs:List UInt8) (l:List Itm) (h8:k≠8) (h7:k≠7):(encB (.mk k n bs l)).length≤9+bs.length+(encL l).length:=by
 rw[encB_eq,if_neg (by simpa [Itm.kind] using h8),if_neg (by simp[Itm.kind,h7])];have:=(headB_le k.toNat (numP (.mk k n bs l))).2
 simp only[Itm.kind,Itm.bytes,Itm.items,List.length_append]
 omega
theorem good_str (k:Int) (hk:k=2∨k=3) (bs:List UInt8) (lv:Nat) (hv:k=3→Lib.validD bs=true):Good (.mk k 0 bs []) lv:=by
 refine Good.of ?_ (by simp only[Itm.items];rw[GoodL];trivial) (fun h=>by simp only[Itm.kind]at h;omega)
 rw[nodeOk,if_pos (by rw[isPlain_iff];simp only[Itm.kind];omega)]
 rcases hk with rfl | rfl
 ·simp[okPlain,Itm.kind,Itm.n,Itm.items]
 ·simp[okPlain,Itm.kind,Itm.n,Itm.items,Itm.bytes,hv rfl]
theorem input_good {ctx:List UInt8}{p:Itm}{ext:List UInt8}{pay:List (List UInt8)}(hc:Lib.validD ctx=true):Good (inputI ctx p ext pay) 0:=by
 refine Good.of ?_ ?_ (fun h=>by simp[inputI,Itm.kind]at h)
 ·rw[nodeOk,if_neg (by rw[isPlain_iff];simp[inputI,Itm.kind])]
  simp[frameOk,inputI,Itm.kind,Itm.bytes,Itm.n]
 ·refine GoodL.of fun x hx=>?_
  simp only[inputI,Itm.items,List.cons_append,List.nil_append,List.mem_cons,List.mem_map]at hx
  rcases hx with rfl | rfl | rfl | ⟨l,_,rfl⟩
  ·exact good_str 3 (.inr rfl) _ _ (fun _=>hc)
  ·exact good_str 2 (.inl rfl) _ _ (fun h=>by omega)
  ·exact good_str 2 (.inl rfl) _ _ (fun h=>by omega)
  ·exact good_str 2 (.inl rfl) _ _ (fun h=>by omega)
theorem input_valid {ctx:List UInt8}{p:Itm}{ext a:List UInt8}(hc:Lib.validD ctx=true) (hl:ctx.length+(protB p).length+ext.length+a.length≤4000):validP (inputI ctx p ext [a])=true:=by
 rw[validP_iff]
 refine⟨input_good hc, ?_, ?_⟩
 ·simp[inputI,cnt,cntL]
 ·have h0:=encB_len 4 0 [] ([.mk 3 0 ctx [],bytesItm (protB p),bytesItm ext]++[a].map bytesItm) (by omega) (by omega);have h1:=encB_len 3 0 ctx [] (by omega) (by omega);have h2:(encB (bytesItm (protB p))).length≤_:=encB_len 2 0 (protB p) [] (by omega) (by omega);have h3:(encB (bytesItm ext)).length≤_:=encB_len 2 0 ext [] (by omega) (by omega);have h4:(encB (bytesItm a)).length≤_:=encB_len 2 0 a [] (by omega) (by omega)
  simp only[inputI,List.map_cons,List.map_nil,List.cons_append,List.nil_append,encL,List.length_append,List.length_nil]at h0 h1 h2 h3 h4⊢
  omega
abbrev emptyM:Itm:=.mk 5 0 [] []
abbrev algM:Itm:=.mk 5 0 [] [.mk 0 1 [] [],.mk 0 10 [] []]
theorem empty_validP:validP emptyM=true:=by
 rw[validP_iff]
 refine⟨Good.of rfl (by simp only[Itm.items];rw[GoodL];trivial) (fun _=>rfl),by simp[cnt,cntL], ?_⟩
 rw[encB_eq]
 simp[Itm.kind,Itm.bytes,Itm.items,encL]
 have:=(headB_le 5 (numP emptyM)).2
 omega
theorem alg_validP:validP algM=true:=by
 rw[validP_iff]
 refine⟨Good.of rfl (GoodL.of fun x hx=>?_) (fun _=>rfl),by simp[cnt,cntL], ?_⟩
 ·simp[Itm.items]at hx
  rcases hx with rfl | rfl
  ·exact good_int 1 1
  ·exact good_int 10 1
 ·have h0:=encB_len 5 0 [] [.mk 0 1 [] [],.mk 0 10 [] []] (by omega) (by omega);have h1:=encB_len 0 1 [] [] (by omega) (by omega);have h2:=encB_len 0 10 [] [] (by omega) (by omega)
  simp only[encL,List.length_append,List.length_nil]at h0 h1 h2
  show(encB (.mk 5 0 [] [.mk 0 1 [] [],.mk 0 10 [] []])).length≤4096
  omega
theorem nums_empty:Nums emptyM:=by rw[Nums,NumsL];exact⟨by omega,trivial⟩
theorem nums_alg:Nums algM:=by
 rw[Nums,NumsL,NumsL,NumsL,Nums,NumsL,Nums,NumsL]
 exact⟨by omega,⟨by omega,trivial⟩,⟨by omega,trivial⟩,trivial⟩
theorem empty_valid:validH emptyM emptyM=true:=by
 rw[← validHR_eq nums_empty nums_empty,validHR]
 simp[validR_eq,empty_validP,Itm.kind,Itm.items,pairsOkR,keysR,findR,atL]
theorem alg_valid1:validH algM emptyM=true:=by
 rw[← validHR_eq nums_alg nums_empty,validHR]
 simp[validR_eq,empty_validP,alg_validP,Itm.kind,Itm.items,Itm.n,pairsOkR,keysR,findR,atL,labelP,numberP,valueP,intP,sameB,sameL]
theorem alg_valid2:validH emptyM algM=true:=by
 rw[← validHR_eq nums_empty nums_alg,validHR]
 simp[validR_eq,empty_validP,alg_validP,Itm.kind,Itm.items,Itm.n,pairsOkR,keysR,findR,atL,labelP,numberP,valueP,intP,sameB,sameL]
theorem empty_find (n:Int):findR emptyM emptyM n=none:=by simp[findR,atL,Itm.items]
theorem intP_1:intP 1=.mk 0 1 [] []:=by simp[intP]
theorem intP_10:intP 10=.mk 0 10 [] []:=by simp[intP]
theorem modest_zero:Modest zeroItm:=by rw[Modest,ModestL];exact⟨by simp,by simp,trivial⟩
theorem encB_int (n:Int):(encB (intP n)).length≤9:=by
 unfold intP
 split
 ·have:=encB_len 1 (-1-n).toNat [] [] (by omega) (by omega);simpa [encL] using this
 ·have:=encB_len 0 n.toNat [] [] (by omega) (by omega);simpa [encL] using this
section
variable {w w':World} {base:Nat} {H:Snap} {l:List Itm}
theorem OwnI.parts {A:Option Addr}{m c:Nat}(h:OwnI w base (.slice A m c) H l) (k:Nat):∃ cs1 cs2,ItemsC H cs1 (l.take k)∧ItemsC H cs2 (l.drop k)∧Src w A cs1∧(k<l.length→∃ b off,A=some ⟨b,off,none⟩∧Src w (some ⟨b,off+k*4,none⟩) cs2):=by
 obtain⟨cs,hc,ho⟩:=h;have hs:=Src.of_own ho;obtain⟨h1,h2⟩:=hc.split k
 refine⟨_,_,h1,h2,fun hne=>?_,fun hk=>?_⟩
 ·obtain⟨b,off,e,hx⟩:=hs (by rintro rfl;simp at hne)
  exact⟨b,off,e,fun j v hj=>hx j v (by rw[List.getElem?_take]at hj;split at hj;exact hj;cases hj)⟩
 ·obtain⟨b,off,e,hx⟩:=hs (by rintro rfl;have:=hc.len;simp at this;omega)
  refine⟨b,off,e,fun _=>⟨b,off+k*4,rfl,fun j v hj=>?_⟩⟩
  rw[List.getElem?_drop]at hj;rw[Nat.add_assoc]
  exact hx _ v hj
theorem OwnI.cells {A:Option Addr}{m c:Nat}(h:OwnI w base (.slice A m c) H l) (k:Nat) (hk:k<l.length):∃ b off,A=some ⟨b,off,none⟩∧∃ ba bc ia ic,w.cell? ⟨b,off+k*4,none⟩=some (.int .i64 l[k].kind)∧w.cell? ⟨b,off+k*4+1,none⟩=some (.int .u64 l[k].n)∧
  w.cell? ⟨b,off+k*4+2,none⟩=some (.slice ba l[k].bytes.length bc)∧w.cell? ⟨b,off+k*4+3,none⟩=some (.slice ia l[k].items.length ic)∧IsItem H ba bc ia ic l[k]:=by
 obtain⟨cs,hc,ho⟩:=h;obtain⟨b,off,e,hx⟩:=Src.of_own ho (by rintro rfl;have:=hc.len;simp at this;omega);obtain⟨ba,bc,ia,ic,h0,h1,h2,h3,hi⟩:=hc.get k hk
 exact⟨b,off,e,ba,bc,ia,ic,hx _ _ h0,hx _ _ h1,hx _ _ h2,hx _ _ h3,hi⟩
end
theorem cell_below {w w':World}{a:Addr}{v:Value}(h:w.cell? a=some v) (hb:Below w.heap.size w w'):w'.cell? a=some v:=(hb.cell (World.block_lt_of_cell? w _ h)).trans h
theorem cell_drew {w:World}{a:Addr}{v:Value}(h:w.cell? a=some v):w.drew.cell? a=some v:=h
theorem OwnI.drew {w:World}{base:Nat}{v:Value}{H:Snap}{l:List Itm}(h:OwnI w base v H l):OwnI w.drew base v H l:=h
theorem own_of {A:Option Addr}{m c q:Nat}(h:A.map (·.block)=some q):(Value.slice A m c).ownBlock=some q:=by cases A <;> simp_all [Value.ownBlock]
theorem Src.slicek {w:World}{H:Snap}{A:Option Addr}{cs:List Value}{L:List Itm}{k j vc:Nat}(h:k<L.length→∃ b off,A=some ⟨b,off,none⟩∧Src w (some ⟨b,off+k*4,none⟩) cs) (hc:ItemsC H cs (L.drop k)) (hL:L.length=j) (hvc:(j:Int)≤vc) :
  Src w (if vc=k then A else Option.map (fun x=>x.add (k*4)) A) cs:=by
 by_cases hk:k<L.length
 ·obtain⟨b,off,rfl,hs⟩:=h hk;rw[if_neg (by omega),Option.map_some,addr_add]
  exact hs
 ·rw[List.drop_eq_nil_of_le (by omega),ItemsC]at hc;subst hc
  exact Src.nil _ _
theorem below_src {B:Nat}{w wr:World}(_h:Below B w wr) (t:TypeId) (cs:Array Value):Src (wr.alloc (.cells cs t)) (some ⟨wr.heap.size,0,none⟩) cs.toList:=Src.lit _ _ _
def BuildSaid (w:World) (H:Snap) (ps:List Itm) (e:Ending) (w':World):Prop :=
 ∃ v,(∃ l,e=.returned (.tuple #[v,.int .i64 0])∧Gives w H (.mk 5 0 [] l) v w'∧validP (.mk 5 0 [] l)=true∧(encL l).length=(encL ps).length∧(ps.length=2→l=ps))∨
  (∃ c,e=.returned (.tuple #[v,.int .i64 c])∧c≠0∧Gives w H zeroItm v w'∧¬ (ps.length=2∧(∀ x∈ps,validP x=true)∧validP (.mk 5 0 [] ps)=true))
theorem encL_put (L:List Itm) (k:Nat) (y z:Itm):(encL (L.take k++[y,z]++L.drop k)).length=(encL L).length+(encB y).length+(encB z).length:=by
 have h:=congrArg List.length (encL_append (L.take k) (L.drop k));rw[List.take_append_drop]at h;rw[encL_append,encL_append]
 simp only[encL,List.length_append,List.append_nil]at h⊢
 omega
end Go.Proofs.YtgcjjhibdbafmaaGreatDoor
