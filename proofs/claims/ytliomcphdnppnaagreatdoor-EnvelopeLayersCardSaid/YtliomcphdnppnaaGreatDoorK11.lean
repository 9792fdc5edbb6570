/- squeezed. Walks: header.Valid. Walks: header -/
import Derived.Test.YtliomcphdnppnaaGreatDoorK10
import Derived.Test.YtliomcphdnppnaaGreatDoorK08
set_option linter.unusedVariables false
set_option linter.unusedSimpArgs false
set_option maxRecDepth 100000
set_option maxHeartbeats 6400000
namespace Go.Proofs.YtliomcphdnppnaaGreatDoor
open Go.RowKit
theorem sm {H:Snap}(hTab:Tabs H) {p u:Itm}{a b:Ad}(hp:IsItem H a.ba a.bc a.ia a.ic p) (hu:IsItem H b.ba b.bc b.ia b.ic u) (w:World) (hH:Holds w H) :
  Calls Tryz.prog 29 #[.agg (zF p a u b)] w fun e w'=>e=.returned (.bool (zI p u))∧Below w.heap.size w w':=by
 have hB:=(Blk.new w 28 (zF p a u b)).alloc (.cells (zF p a u b) 26);have hM:=Blk.new (w.alloc (.cells (zF p a u b) 28)) 26 (zF p a u b)
 simp only[zr]at hM
 have qC:Below w.heap.size w ((w.alloc (.cells (zF p a u b) 28)).alloc (.cells (zF p a u b) 26)):=(zu w _).alloc (by simp) _;have ID:w.heap.size+1<((w.alloc (.cells (zF p a u b) 28)).alloc (.cells (zF p a u b) 26)).heap.size:=by simp
 go_enter Tryz.func29,Tryz.ntmps29
 go_upto_region 2 with fail
 go_loopw [29] (fun vi wr=>∃ j:Nat,j≤2∧vi=.int .i64 j∧(1≤j→tq p=true)∧(2≤j→tq u=true)∧Below w.heap.size w wr∧Blk wr w.heap.size 28 (zF p a u b)∧Blk wr (w.heap.size+1) 26 (zF p a u b)) (fun vi _=>2-(intOf vi).toNat)
 case atStart=>exact⟨0,by omega,rfl,by omega,by omega,qC,hB,hM⟩
 case round =>
 obtain⟨j,hj,rfl,cX,NU,yO,oL,WT⟩:=hrel;have Mi:=Hh cX;have Ir:=Hh NU;clear cX NU
 by_cases zB:j<2
 ·have hm:∃ (m:Itm) (am:Ad),(j=0→m=p)∧(j=1→m=u)∧IsItem H am.ba am.bc am.ia am.ic m∧wr.cell? ⟨w.heap.size+1,j*4,none⟩=some (.int .i64 m.kind)∧wr.cell? ⟨w.heap.size+1,j*4+1,none⟩=some (.int .u64 m.n)∧
    wr.cell? ⟨w.heap.size+1,j*4+2,none⟩=some (.slice am.ba m.bytes.length am.bc)∧wr.cell? ⟨w.heap.size+1,j*4+3,none⟩=some (.slice am.ia m.items.length am.ic):=by
   rcases(by omega:j=0∨j=1) with rfl | rfl
   ·exact⟨p,a,fun _=>rfl,by omega,hp,WT.cell _ rfl,WT.cell _ rfl,WT.cell _ rfl,WT.cell _ rfl⟩
   exact⟨u,b,by omega,fun _=>rfl,hu,WT.cell _ rfl,WT.cell _ rfl,WT.cell _ rfl,WT.cell _ rfl⟩
  obtain⟨m,am,ey,qM,cT,d0,d1,d2,d3⟩:=hm
  have BAD:Hid (tq m=false→zI p u=false):=by
   intro h
   rcases(by omega:j=0∨j=1) with rfl | rfl
   ·rw[ey rfl]at h;simp[zI,h]
   rw[qM rfl]at h;simp[zI,h]
  have GOOD:Hid (tq m=true→(1≤j+1→tq p=true)∧(2≤j+1→tq u=true)):=by
   intro h
   rcases(by omega:j=0∨j=1) with rfl | rfl
   ·rw[ey rfl]at h;exact⟨fun _=>h,by omega⟩
   rw[qM rfl]at h;exact⟨fun _=>Mi.out (by omega),fun _=>h⟩
  have hT:=(Blk.new wr 26 #[.int .i64 m.kind,.int .u64 m.n,.slice am.ba m.bytes.length am.bc,.slice am.ia m.items.length am.ic])
  have yG:Holds (wr.alloc (zh m am.ba am.bc am.ia am.ic)) H:=(hH.below yO (Nat.le_refl _)).alloc _;have V:=Hh (tX hTab cT.arg _ yG);have Yb:=yO.alloc yO.size (zh m am.ba am.bc am.ia am.ic);have Lk:=oL.alloc (zh m am.ba am.bc am.ia am.ic);have Lp:=WT.alloc (zh m am.ba am.bc am.ia am.ic);clear ey qM oL WT
  by_cases h5:m.kind=5
  ·have k5:(m.kind != 5)=false:=by simp[h5]
   have H5:=Hh h5;clear h5
   cases hv:zU m with
   | false =>
    have E:Hid (zI p u=false):=BAD.out (by simp[tq,hv]);rw[hv]at V;clear hv;go_wp2_with fail
    refine V.out.mono ?_
    rintro e w1 ⟨rfl,zJ⟩
    have zK:=Yb.trans (zJ.mono Yb.size);go_wp2_with fail
    go_ret
    exact⟨by rw[E.out];rfl,zK⟩
   | true =>
   have xF:=tM hv H5.out;have xK:=(vq hv).2.1;have HV:=Hh hv;rw[hv]at V;clear hv;go_wp2_with fail
   refine V.out.mono ?_
   rintro e w1 ⟨rfl,zJ⟩
   have y9:=Lk.below zJ;have Fj:=Lp.below zJ;have uF:=hT.below zJ;have Po:=Yb.trans (zJ.mono Yb.size);have t0:=uF.cell 0 rfl;have t1:=uF.cell 1 rfl;have t2:=uF.cell 2 rfl;have t3:=uF.cell 3 rfl;have P:=Hh (nG cT.arg xF (by omega) w1 (yG.below zJ (Nat.le_refl _)));have QC:=Hh xF;clear d0 d1 d2 d3 V Lk Lp hT yG Yb xF;go_wp2_with fail
   refine P.out.mono ?_
   rintro e w2 ⟨PA,pc,cs,rfl,pt,rN,zK⟩
   have yF:=y9.below zK;have DU:=Fj.below zK;have lG:=Po.trans (zK.mono Po.size);clear t0 t1 t2 t3 P y9 Fj uF Po;go_upto_region 7 with fail
   go_loopw [44] (fun vi wr=>∃ k:Nat,k≤m.items.length/2∧vi=.int .i64 k∧sJ (m.items.drop (k*2))=sJ m.items∧Below w2.heap.size w2 wr) (fun vi _=>m.items.length/2-(intOf vi).toNat)
   case atStart=>exact⟨0,Nat.zero_le _,rfl,by simp,Below.refl _ _⟩
   case round =>
   obtain⟨k,hk,rfl,ms,yH⟩:=hrel
   by_cases hlt2:k<m.items.length/2
   ·have NI:=QC.out;have ij:k*2<m.items.length:=by omega
    have nz:k*2+1<m.items.length:=by omega
    have vd:=aj m.items (k*2) nz;rw[ms]at vd;obtain⟨y1,y2,y3,y4,c0,c1,c2,c3,hy⟩:=rN.get (k*2) ij;obtain⟨z1,z2,z3,z4,c4,c5,c6,c7,hz⟩:=rN.get (k*2+1) nz;obtain⟨pb,po,rfl,mr⟩:=(pt.below yH) (by intro h;subst h;simp at c0)
    have e0:=mr _ _ c0;have e1:=mr _ _ c1;have e2:=mr _ _ c2;have e3:=mr _ _ c3;have e4:=mr _ _ c4;have e5:=mr _ _ c5;have e6:=mr _ _ c6;have e7:=mr _ _ c7;rw[show po+k*2*4=po+k*8 by omega]at e0;rw[show po+(k*2*4+1)=po+k*8+1 by omega]at e1;rw[show po+(k*2*4+2)=po+k*8+2 by omega]at e2;rw[show po+(k*2*4+3)=po+k*8+3 by omega]at e3;rw[show po+(k*2+1)*4=po+k*8+4 by omega]at e4;rw[show po+((k*2+1)*4+1)=po+k*8+5 by omega]at e5;rw[show po+((k*2+1)*4+2)=po+k*8+6 by omega]at e6;rw[show po+((k*2+1)*4+3)=po+k*8+7 by omega]at e7;have ek:Hid (sJ m.items=(wI m.items[k*2] m.items[k*2+1]&&sJ (m.items.drop ((k+1)*2)))):=by rw[Hid,vd,show(k+1)*2=k*2+2 by omega]
    generalize m.items[k*2]'ij=y at *
    generalize m.items[k*2+1]'nz=z at *
    have PM:=Hh (mD hy hz (wr.alloc (.cells #[.int .i64 y.kind,.int .u64 y.n,.slice y1 y.bytes.length y2,.slice y3 y.items.length y4,.int .i64 z.kind,.int .u64 z.n,.slice z1 z.bytes.length z2,.slice z3 z.items.length z4] 100)));have be:(k:Int)<(m.items.length/2:Nat):=by omega
    clear mr c0 c1 c2 c3 c4 c5 c6 c7 vd ms NI ij nz;go_wp2_with fail
    refine PM.out.mono ?_
    rintro e w3 ⟨rfl,xz⟩
    have xz:=(yH.alloc yH.size _).trans (xz.mono (by have:=yH.size;simp;omega));clear e0 e1 e2 e3 e4 e5 e6 e7 PM
    cases cY:wI y z with
    | false =>
     have E:Hid (zI p u=false):=BAD.out (by rw[tq,ek.out,cY];simp);have zA:=lG.trans (xz.mono lG.size);clear cY;go_wp2_with fail
     go_ret
     exact⟨by rw[E.out];rfl,zA⟩
    | true =>
    have E:Hid (sJ (m.items.drop ((k+1)*2))=sJ m.items):=by rw[Hid,ek.out,cY,Bool.true_and]
    clear cY;go_wp2_with fail
    go_roundw
    case rel=>exact⟨k+1,by omega,by go_num,E.out,xz⟩
    case measure=>simp[intOf];omega
   have E:Hid (tq m=true):=by
    have NI:=QC.out;rw[List.drop_eq_nil_of_le (by omega)]at ms;rw[Hid,tq,HV.out,← ms,H5.out];rfl
   have G:=Hh (GOOD.out E.out);have vI:=yF.below yH;have DV:=DU.below yH;have zA:=lG.trans (yH.mono lG.size);clear ms;go_wp2_with fail
   go_roundw
   case rel=>exact⟨j+1,by omega,by go_num,G.out.1,G.out.2,zA,vI,DV⟩
   case measure=>simp[intOf];omega
  have k5:(m.kind != 5)=true:=by simp[h5]
  have E:Hid (zI p u=false):=BAD.out (by simp[tq,h5]);clear h5 V;go_wp2_with fail
  go_ret
  exact⟨by rw[E.out];rfl,Yb⟩
 have OL:j=2:=by omega
 subst OL;have OP:=Hh (Mi.out (by omega));have OU:=Hh (Ir.out (by omega));have Rd:zU p=true∧p.kind=5:=by have:=OP.out;simp[tq]at this;exact⟨this.1.2,this.1.1⟩
 have xF:=tM Rd.1 Rd.2;have xK:=(vq Rd.1).2.1;have yG:Holds wr H:=hH.below yO (Nat.le_refl _);have P:=Hh (nG hp.arg xF (by omega) wr yG);have QC:=Hh xF;have t0:=oL.cell 0 rfl;have t1:=oL.cell 1 rfl;have t2:=oL.cell 2 rfl;have t3:=oL.cell 3 rfl
 have E0:Hid (zI p u=(xL u p.items && !((yo u (zZ 2)).isSome||((vT p u 5).isSome&&(vT p u 6).isSome))&&nZ p)):=by
  rw[Hid,zI,OP.out,OU.out,Bool.true_and,Bool.true_and]
 clear Rd xF WT hM ID qC hB;go_wp2_with fail
 refine P.out.mono ?_
 rintro e w2 ⟨PA,pc,cs,rfl,pt,rN,zK⟩
 have yF:=oL.below zK;have lG:=yO.trans (zK.mono yO.size);clear t0 t1 t2 t3 P oL yG yO;go_upto_region 14 with fail
 go_loopw [57] (fun vi wr=>∃ k:Nat,k≤p.items.length/2∧vi=.int .i64 k∧xL u (p.items.drop (k*2))=xL u p.items∧Below w2.heap.size w2 wr) (fun vi _=>p.items.length/2-(intOf vi).toNat)
 case atStart=>exact⟨0,Nat.zero_le _,rfl,by simp,Below.refl _ _⟩
 case round =>
 obtain⟨k,hk,rfl,ms,yH⟩:=hrel;have vI:=yF.below yH;have IE:=vI.lt;have u4:=vI.cell 4 rfl;have u5:=vI.cell 5 rfl;have u6:=vI.cell 6 rfl;have u7:=vI.cell 7 rfl;have zP:Holds wr H:=hH.below (lG.trans (yH.mono lG.size)) (Nat.le_refl _)
 by_cases hlt2:k<p.items.length/2
 ·have NI:=QC.out;have ij:k*2<p.items.length:=by omega
  have nz:k*2+1<p.items.length:=by omega
  have vd:=iI u p.items (k*2) nz;rw[ms]at vd;obtain⟨y1,y2,y3,y4,c0,c1,c2,c3,hy⟩:=rN.get (k*2) ij;obtain⟨z1,z2,z3,z4,c4,c5,c6,c7,hz⟩:=rN.get (k*2+1) nz;obtain⟨pb,po,rfl,mr⟩:=(pt.below yH) (by intro h;subst h;simp at c0)
  have e0:=mr _ _ c0;have e1:=mr _ _ c1;have e2:=mr _ _ c2;have e3:=mr _ _ c3;have e4:=mr _ _ c4;have e5:=mr _ _ c5;have e6:=mr _ _ c6;have e7:=mr _ _ c7;rw[show po+k*2*4=po+k*8 by omega]at e0;rw[show po+(k*2*4+1)=po+k*8+1 by omega]at e1;rw[show po+(k*2*4+2)=po+k*8+2 by omega]at e2;rw[show po+(k*2*4+3)=po+k*8+3 by omega]at e3;rw[show po+(k*2+1)*4=po+k*8+4 by omega]at e4;rw[show po+((k*2+1)*4+1)=po+k*8+5 by omega]at e5;rw[show po+((k*2+1)*4+2)=po+k*8+6 by omega]at e6;rw[show po+((k*2+1)*4+3)=po+k*8+7 by omega]at e7;have ek:Hid (xL u p.items=((yo u p.items[k*2]).isNone&&xL u (p.items.drop ((k+1)*2)))):=by rw[Hid,vd,show(k+1)*2=k*2+2 by omega]
  generalize p.items[k*2]'ij=y at *
  generalize p.items[k*2+1]'nz=z at *
  have FM:=Hh (wd hTab hu.arg hy.arg (wr.alloc (.cells #[.int .i64 y.kind,.int .u64 y.n,.slice y1 y.bytes.length y2,.slice y3 y.items.length y4,.int .i64 z.kind,.int .u64 z.n,.slice z1 z.bytes.length z2,.slice z3 z.items.length z4] 100)) (zP.alloc _));have be:(k:Int)<(p.items.length/2:Nat):=by omega
  clear mr c0 c1 c2 c3 c4 c5 c6 c7 vd ms NI ij nz;go_wp2_with fail
  refine FM.out.mono ?_
  rintro e w3 ⟨v3,rfl,rP⟩
  have xz:=(yH.alloc yH.size _).trans (rP.below.mono (by have:=yH.size;simp;omega));obtain⟨f1,f2,f3,f4,H3,rfl,_,_⟩:=rP;clear e0 e1 e2 e3 e4 e5 e6 e7 FM u4 u5 u6 u7
  cases cY:yo u y with
  | some q =>
   have E:Hid (zI p u=false):=by rw[Hid,E0.out,ek.out,cY];simp
   have zA:=lG.trans (xz.mono lG.size);have Pp:=zA.alloc zA.size (zh q f1 f2 f3 f4);clear cY;go_wp2_with fail
   go_ret
   exact⟨by rw[E.out];rfl,Pp⟩
  | none =>
  have E:Hid (xL u (p.items.drop ((k+1)*2))=xL u p.items):=by rw[Hid,ek.out,cY];simp
  have ui:=xz.alloc xz.size (zh zn f1 f2 f3 f4);clear cY;go_wp2_with fail
  go_roundw
  case rel=>exact⟨k+1,by omega,by go_num,E.out,ui⟩
  case measure=>simp[intOf];omega
 have E1:Hid (xL u p.items=true):=by
  have NI:=QC.out;rw[List.drop_eq_nil_of_le (by omega)]at ms;rw[Hid,← ms];rfl
 have t0:=vI.cell 0 rfl;have t1:=vI.cell 1 rfl;have t2:=vI.cell 2 rfl;have t3:=vI.cell 3 rfl;have zA:=lG.trans (yH.mono lG.size);have F5:=Hh (pM hTab hp hu 5 (by omega) (by omega) wr zP);obtain⟨b5,xS⟩:∃ b,(vT p u 5).isSome=b:=⟨_,rfl⟩
 rw[xS]at F5;have Qz:=Hh xS;clear xS ms pt rN yF yH lG;go_wp2_with fail
 refine F5.out.mono ?_
 rintro e w3 ⟨v3,rfl,rP⟩
 have xz:=rP.below;obtain⟨f1,f2,f3,f4,H3,rfl,_,_⟩:=rP;have ux:=(vI.below xz).alloc (zh ((vT p u 5).getD zn) f1 f2 f3 f4);have Yc:=(zA.trans (xz.mono zA.size)).alloc (zA.trans (xz.mono zA.size)).size (zh ((vT p u 5).getD zn) f1 f2 f3 f4);have F6:=Hh (pM hTab hp hu 6 (by omega) (by omega) _ (hH.below Yc (Nat.le_refl _)));obtain⟨b6,xT⟩:∃ b,(vT p u 6).isSome=b:=⟨_,rfl⟩
 rw[xT]at F6;have Ic:=Hh xT;clear xT t0 t1 t2 t3 u4 u5 u6 u7 F5 vI zP xz;have t0:=ux.cell 0 rfl;have t1:=ux.cell 1 rfl;have t2:=ux.cell 2 rfl;have t3:=ux.cell 3 rfl;have u4:=ux.cell 4 rfl;have u5:=ux.cell 5 rfl;have u6:=ux.cell 6 rfl;have u7:=ux.cell 7 rfl;go_wp2_with fail
 refine F6.out.mono ?_
 rintro e w4 ⟨v4,rfl,Qo⟩
 have ui:=Qo.below;obtain⟨g1,g2,g3,g4,H4,rfl,_,_⟩:=Qo;have ez:=(ux.below ui).alloc (zh ((vT p u 6).getD zn) g1 g2 g3 g4);have T7:=(Yc.trans (ui.mono Yc.size)).alloc (Yc.trans (ui.mono Yc.size)).size (zh ((vT p u 6).getD zn) g1 g2 g3 g4);clear t0 t1 t2 t3 u4 u5 u6 u7 F6 ux ui;have E2:Hid (zI p u=(!((yo u (zZ 2)).isSome||(b5&&b6))&&nZ p)):=by rw[Hid,E0.out,E1.out,Bool.true_and,Qz.out,Ic.out]
 clear E0 E1 zA Yc;go_upto_region 22 with fail
 go_cut [15,16] (fun s15 s16 wx=>∃ x,s16=.bool x∧(yo u (zZ 2)).isSome=x∧Blk wx w.heap.size 28 (zF p a u b)∧Below w.heap.size w wx)
 case first =>
  have hB:=ez.drew;have hb:=T7.drew;have xy:=(hH.below T7 (Nat.le_refl _)).drew;have yx:=Snap.le.refl H;clear ez T7
  refine zw 9 (fun w'=>w'.cell? ⟨w.heap.size,4,none⟩=some (.int .i64 u.kind)∧w'.cell? ⟨w.heap.size,5,none⟩=some (.int .u64 u.n)∧w'.cell? ⟨w.heap.size,6,none⟩=some (.slice b.ba u.bytes.length b.bc)∧w'.cell? ⟨w.heap.size,7,none⟩=some (.slice b.ia u.items.length b.ic)) (by kernel_rfl) (⟨hB.cell 4 rfl,hB.cell 5 rfl,hB.cell 6 rfl,hB.cell 7 rfl⟩) (fun zy=>?_)
  refine Tk 0 rfl zy ?_
  refine Tk 1 rfl zy ?_
  refine Ways.two (i:=2) (j:=7) rfl rfl (by kernel_rfl) (fun K hK=>?_) (fun K hK=>?_)
  ·go_simp
   refine(sA 2 (by omega) (by omega) _ xy).mono ?_
   rintro e w7 ⟨v7,rfl,o4⟩
   have hB:=hB.below o4.below;have hb:=hb.trans (o4.below.mono hb.size)
   try have hN:=hN.below o4.below
   obtain⟨sa,sb,sc,sd,H7,rfl,vV,eu⟩:=o4
   try have vZ:=vV.none vZ tt
   try have tt:=hN.lt
   have xy:=vV.holds;have yx:=yx.trans vV.le
   refine Ko hK ?_ fun zy=>?_
   ·exact⟨hB.cell 4 rfl,hB.cell 5 rfl,hB.cell 6 rfl,hB.cell 7 rfl⟩
   clear hK K
   refine Ways.two (i:=3) (j:=7) rfl rfl (by kernel_rfl) (fun K hK=>?_) (fun K hK=>?_)
   ·go_simp
    refine(wd (hTab.mono yx) (hu.mono yx).arg eu.arg _ xy).mono ?_
    rintro e w8 ⟨v8,rfl,rn⟩
    have hB:=hB.below rn.below;have hb:=hb.trans (rn.below.mono hb.size)
    try have hN:=hN.below rn.below
    obtain⟨ra,rb,rc,rd,H8,rfl,yA,my⟩:=rn
    try have vZ:=yA.none vZ tt
    try have tt:=hN.lt
    have xy:=yA.holds;have yx:=yx.trans yA.le
    refine Ko hK ?_ fun zy=>?_
    ·exact⟨hB.cell 4 rfl,hB.cell 5 rfl,hB.cell 6 rfl,hB.cell 7 rfl⟩
    clear hK K
    refine Tk 4 rfl zy ?_
    refine Tk 5 rfl zy ?_
    refine Tk 6 rfl zy ?_
    refine To 7 rfl fun K hK=>?_
    go_simp
    have hN:=yW hb 26 #[.int .i64 0,.int .u64 0,.slice none 0 0,.slice none 0 0];have Ys:=hB.lt;have vZ:=xy.none_of_ge (Nat.le_refl _)
    try simp only[zL,zr]at hN Ys vZ
    have hB:=hB.alloc zT;have hb:=hb.alloc hb.size zT;have xy:=xy.alloc zT;have tt:=hN.lt
    refine Ko hK ?_ fun zy=>?_
    ·exact⟨hB.cell 4 rfl,hB.cell 5 rfl,hB.cell 6 rfl,hB.cell 7 rfl⟩
    clear hK K
    refine To 8 rfl fun K hK=>?_
    rw[if_pos (by rfl)]
    refine zm _ _ _ rfl _ _ rfl rfl _ _ hN zp rfl (ua _ _ _ _ rfl rfl rfl rfl) fun w9 hN9 yL=>?_
    have hB:=hB.grown yL (by first | (simp;done) | (simp;omega));have hb:=hb.grown yL hb.size (by rintro q ⟨⟩;first | omega | simp);have xy:=xy.grown yL (by rintro q ⟨⟩;exact vZ)
    refine Ko hK ?_ fun zy=>?_
    ·exact⟨hB.cell 4 rfl,hB.cell 5 rfl,hB.cell 6 rfl,hB.cell 7 rfl⟩
    clear hK K
    refine To 9 rfl fun K hK=>?_
    go_simp
    refine Kz hK ?_
    clear hK K
    refine Wd ?_
    go_wp2_with fail
    go_meet
    exact⟨_,rfl,rfl,hB,hb⟩
   go_simp
   have hN:=yW hb 26 #[.int .i64 0,.int .u64 0,.slice none 0 0,.slice none 0 0];have Ys:=hB.lt;have vZ:=xy.none_of_ge (Nat.le_refl _)
   try simp only[zL,zr]at hN Ys vZ
   have hB:=hB.alloc zT;have hb:=hb.alloc hb.size zT;have xy:=xy.alloc zT;have tt:=hN.lt
   refine Ko hK ?_ fun zy=>?_
   ·exact⟨hB.cell 4 rfl,hB.cell 5 rfl,hB.cell 6 rfl,hB.cell 7 rfl⟩
   clear hK K
   refine To 3 rfl fun K hK=>?_
   go_simp
   refine(wd (hTab.mono yx) (hu.mono yx).arg eu.arg _ xy).mono ?_
   rintro e w8 ⟨v8,rfl,rn⟩
   have hB:=hB.below rn.below;have hb:=hb.trans (rn.below.mono hb.size)
   try have hN:=hN.below rn.below
   obtain⟨ra,rb,rc,rd,H8,rfl,yA,my⟩:=rn
   try have vZ:=yA.none vZ tt
   try have tt:=hN.lt
   have xy:=yA.holds;have yx:=yx.trans yA.le
   refine Ko hK ?_ fun zy=>?_
   ·exact⟨hB.cell 4 rfl,hB.cell 5 rfl,hB.cell 6 rfl,hB.cell 7 rfl⟩
   clear hK K
   refine Tk 4 rfl zy ?_
   refine Tk 5 rfl zy ?_
   refine Tk 6 rfl zy ?_
   refine To 8 rfl fun K hK=>?_
   rw[if_pos (by rfl)]
   refine zm _ _ _ rfl _ _ rfl rfl _ _ hN zp rfl (ua _ _ _ _ rfl rfl rfl rfl) fun w9 hN9 yL=>?_
   have hB:=hB.grown yL (by first | (simp;done) | (simp;omega));have hb:=hb.grown yL hb.size (by rintro q ⟨⟩;first | omega | simp);have xy:=xy.grown yL (by rintro q ⟨⟩;exact vZ)
   refine Ko hK ?_ fun zy=>?_
   ·exact⟨hB.cell 4 rfl,hB.cell 5 rfl,hB.cell 6 rfl,hB.cell 7 rfl⟩
   clear hK K
   refine To 9 rfl fun K hK=>?_
   go_simp
   refine Kz hK ?_
   clear hK K
   refine Wd ?_
   go_wp2_with fail
   go_meet
   exact⟨_,rfl,rfl,hB,hb⟩
  go_simp
  have hN:=yW hb 26 #[.int .i64 0,.int .u64 0,.slice none 0 0,.slice none 0 0];have Ys:=hB.lt;have vZ:=xy.none_of_ge (Nat.le_refl _)
  try simp only[zL,zr]at hN Ys vZ
  have hB:=hB.alloc zT;have hb:=hb.alloc hb.size zT;have xy:=xy.alloc zT;have tt:=hN.lt
  refine Ko hK ?_ fun zy=>?_
  ·exact⟨hB.cell 4 rfl,hB.cell 5 rfl,hB.cell 6 rfl,hB.cell 7 rfl⟩
  clear hK K
  refine To 2 rfl fun K hK=>?_
  go_simp
  refine(sA 2 (by omega) (by omega) _ xy).mono ?_
  rintro e w7 ⟨v7,rfl,o4⟩
  have hB:=hB.below o4.below;have hb:=hb.trans (o4.below.mono hb.size)
  try have hN:=hN.below o4.below
  obtain⟨sa,sb,sc,sd,H7,rfl,vV,eu⟩:=o4
  try have vZ:=vV.none vZ tt
  try have tt:=hN.lt
  have xy:=vV.holds;have yx:=yx.trans vV.le
  refine Ko hK ?_ fun zy=>?_
  ·exact⟨hB.cell 4 rfl,hB.cell 5 rfl,hB.cell 6 rfl,hB.cell 7 rfl⟩
  clear hK K
  refine To 3 rfl fun K hK=>?_
  go_simp
  refine(wd (hTab.mono yx) (hu.mono yx).arg eu.arg _ xy).mono ?_
  rintro e w8 ⟨v8,rfl,rn⟩
  have hB:=hB.below rn.below;have hb:=hb.trans (rn.below.mono hb.size)
  try have hN:=hN.below rn.below
  obtain⟨ra,rb,rc,rd,H8,rfl,yA,my⟩:=rn
  try have vZ:=yA.none vZ tt
  try have tt:=hN.lt
  have xy:=yA.holds;have yx:=yx.trans yA.le
  refine Ko hK ?_ fun zy=>?_
  ·exact⟨hB.cell 4 rfl,hB.cell 5 rfl,hB.cell 6 rfl,hB.cell 7 rfl⟩
  clear hK K
  refine Tk 4 rfl zy ?_
  refine Tk 5 rfl zy ?_
  refine Tk 6 rfl zy ?_
  refine To 8 rfl fun K hK=>?_
  rw[if_pos (by rfl)]
  refine zm _ _ _ rfl _ _ rfl rfl _ _ hN zp rfl (ua _ _ _ _ rfl rfl rfl rfl) fun w9 hN9 yL=>?_
  have hB:=hB.grown yL (by first | (simp;done) | (simp;omega));have hb:=hb.grown yL hb.size (by rintro q ⟨⟩;first | omega | simp);have xy:=xy.grown yL (by rintro q ⟨⟩;exact vZ)
  refine Ko hK ?_ fun zy=>?_
  ·exact⟨hB.cell 4 rfl,hB.cell 5 rfl,hB.cell 6 rfl,hB.cell 7 rfl⟩
  clear hK K
  refine To 9 rfl fun K hK=>?_
  go_simp
  refine Kz hK ?_
  clear hK K
  refine Wd ?_
  go_wp2_with fail
  go_meet
  exact⟨_,rfl,rfl,hB,hb⟩
 case rest =>
 obtain⟨cu,rfl,Yv,lL,xS⟩:=hcut;clear ez T7;have EB:Hid ((cu||(b5&&b6))=true→zI p u=false):=by intro h;rw[E2.out,Yv,h];rfl
 have EG:Hid ((cu||(b5&&b6))=false→zI p u=nZ p):=by intro h;rw[E2.out,Yv,h];simp
 clear Yv E2
 by_cases hq:(cu||(b5&&b6))=true
 ·have E:=Hh (EB.out hq);have gE:cu=true∨(cu=false∧b5=true∧b6=true):=by cases cu <;> cases b5 <;> cases b6 <;> simp_all
  clear hq EB EG
  rcases gE with rfl | ⟨rfl,rfl,rfl⟩
  all_goals
   go_wp2_with fail
   go_ret
   exact⟨by rw[E.out];rfl,xS⟩
 have E:=Hh (EG.out (by simpa using hq));have gE:cu=false∧(b5=false∨(b5=true∧b6=false)):=by cases cu <;> cases b5 <;> cases b6 <;> simp_all
 clear hq EB EG;go_upto_region 23 with fail
 go_cut [94] (fun s94 wx=>s94=.bool false∧wc=wx)
 case first =>
  obtain⟨rfl,rfl | ⟨rfl,rfl⟩⟩:=gE
  all_goals
   go_wp2_with fail
   go_meet
   exact⟨rfl,rfl⟩
 case rest =>
 obtain⟨rfl,rfl⟩:=hcut;clear gE;go_upto_region 25 with fail
 go_cut [17,18] (fun s17 s18 wx=>∃ N ra rb rc rd Hx x,s17=.pointer (some ⟨N,0,none⟩)∧s18=.bool x∧(yo p (zZ 2)).isSome=x∧Blk wx N 26 #[.int .i64 ((yo p (zZ 2)).getD zn).kind,.int .u64 ((yo p (zZ 2)).getD zn).n,.slice ra ((yo p (zZ 2)).getD zn).bytes.length rb,.slice rc ((yo p (zZ 2)).getD zn).items.length rd]∧
  Blk wx w.heap.size 28 (zF p a u b)∧Below w.heap.size w wx∧Holds wx Hx∧H.le Hx∧IsItem Hx ra rb rc rd ((yo p (zZ 2)).getD zn))
 case first =>
  have hB:=lL.drew;have hb:=xS.drew;have xy:=(hH.below xS (Nat.le_refl _)).drew;have yx:=Snap.le.refl H;clear lL xS
  refine zw 9 (fun w'=>w'.cell? ⟨w.heap.size,0,none⟩=some (.int .i64 p.kind)∧w'.cell? ⟨w.heap.size,1,none⟩=some (.int .u64 p.n)∧w'.cell? ⟨w.heap.size,2,none⟩=some (.slice a.ba p.bytes.length a.bc)∧w'.cell? ⟨w.heap.size,3,none⟩=some (.slice a.ia p.items.length a.ic)) (by kernel_rfl) (⟨hB.cell 0 rfl,hB.cell 1 rfl,hB.cell 2 rfl,hB.cell 3 rfl⟩) (fun zy=>?_)
  refine Tk 0 rfl zy ?_
  refine Tk 1 rfl zy ?_
  refine Ways.two (i:=2) (j:=7) rfl rfl (by kernel_rfl) (fun K hK=>?_) (fun K hK=>?_)
  ·go_simp
   refine(sA 2 (by omega) (by omega) _ xy).mono ?_
   rintro e w7 ⟨v7,rfl,o4⟩
   have hB:=hB.below o4.below;have hb:=hb.trans (o4.below.mono hb.size)
   try have hN:=hN.below o4.below
   obtain⟨sa,sb,sc,sd,H7,rfl,vV,eu⟩:=o4
   try have vZ:=vV.none vZ tt
   try have tt:=hN.lt
   have xy:=vV.holds;have yx:=yx.trans vV.le
   refine Ko hK ?_ fun zy=>?_
   ·exact⟨hB.cell 0 rfl,hB.cell 1 rfl,hB.cell 2 rfl,hB.cell 3 rfl⟩
   clear hK K
   refine Ways.two (i:=3) (j:=7) rfl rfl (by kernel_rfl) (fun K hK=>?_) (fun K hK=>?_)
   ·go_simp
    refine(wd (hTab.mono yx) (hp.mono yx).arg eu.arg _ xy).mono ?_
    rintro e w8 ⟨v8,rfl,rn⟩
    have hB:=hB.below rn.below;have hb:=hb.trans (rn.below.mono hb.size)
    try have hN:=hN.below rn.below
    obtain⟨ra,rb,rc,rd,H8,rfl,yA,my⟩:=rn
    try have vZ:=yA.none vZ tt
    try have tt:=hN.lt
    have xy:=yA.holds;have yx:=yx.trans yA.le
    refine Ko hK ?_ fun zy=>?_
    ·exact⟨hB.cell 0 rfl,hB.cell 1 rfl,hB.cell 2 rfl,hB.cell 3 rfl⟩
    clear hK K
    refine Tk 4 rfl zy ?_
    refine Tk 5 rfl zy ?_
    refine Tk 6 rfl zy ?_
    refine To 7 rfl fun K hK=>?_
    go_simp
    have hN:=yW hb 26 #[.int .i64 0,.int .u64 0,.slice none 0 0,.slice none 0 0];have Ys:=hB.lt;have vZ:=xy.none_of_ge (Nat.le_refl _)
    try simp only[zL,zr]at hN Ys vZ
    have hB:=hB.alloc zT;have hb:=hb.alloc hb.size zT;have xy:=xy.alloc zT;have tt:=hN.lt
    refine Ko hK ?_ fun zy=>?_
    ·exact⟨hB.cell 0 rfl,hB.cell 1 rfl,hB.cell 2 rfl,hB.cell 3 rfl⟩
    clear hK K
    refine To 8 rfl fun K hK=>?_
    rw[if_pos (by rfl)]
    refine zm _ _ _ rfl _ _ rfl rfl _ _ hN zp rfl (ua _ _ _ _ rfl rfl rfl rfl) fun w9 hN9 yL=>?_
    have hB:=hB.grown yL (by first | (simp;done) | (simp;omega));have hb:=hb.grown yL hb.size (by rintro q ⟨⟩;first | omega | simp);have xy:=xy.grown yL (by rintro q ⟨⟩;exact vZ)
    refine Ko hK ?_ fun zy=>?_
    ·exact⟨hB.cell 0 rfl,hB.cell 1 rfl,hB.cell 2 rfl,hB.cell 3 rfl⟩
    clear hK K
    refine To 9 rfl fun K hK=>?_
    go_simp
    refine Kz hK ?_
    clear hK K
    refine Wd ?_
    go_wp2_with fail
    go_meet
    exact⟨_,ra,rb,rc,rd,_,_,rfl,rfl,rfl,hN9,hB,hb,xy,yx,my⟩
   go_simp
   have hN:=yW hb 26 #[.int .i64 0,.int .u64 0,.slice none 0 0,.slice none 0 0];have Ys:=hB.lt;have vZ:=xy.none_of_ge (Nat.le_refl _)
   try simp only[zL,zr]at hN Ys vZ
   have hB:=hB.alloc zT;have hb:=hb.alloc hb.size zT;have xy:=xy.alloc zT;have tt:=hN.lt
   refine Ko hK ?_ fun zy=>?_
   ·exact⟨hB.cell 0 rfl,hB.cell 1 rfl,hB.cell 2 rfl,hB.cell 3 rfl⟩
   clear hK K
   refine To 3 rfl fun K hK=>?_
   go_simp
   refine(wd (hTab.mono yx) (hp.mono yx).arg eu.arg _ xy).mono ?_
   rintro e w8 ⟨v8,rfl,rn⟩
   have hB:=hB.below rn.below;have hb:=hb.trans (rn.below.mono hb.size)
   try have hN:=hN.below rn.below
   obtain⟨ra,rb,rc,rd,H8,rfl,yA,my⟩:=rn
   try have vZ:=yA.none vZ tt
   try have tt:=hN.lt
   have xy:=yA.holds;have yx:=yx.trans yA.le
   refine Ko hK ?_ fun zy=>?_
   ·exact⟨hB.cell 0 rfl,hB.cell 1 rfl,hB.cell 2 rfl,hB.cell 3 rfl⟩
   clear hK K
   refine Tk 4 rfl zy ?_
   refine Tk 5 rfl zy ?_
   refine Tk 6 rfl zy ?_
   refine To 8 rfl fun K hK=>?_
   rw[if_pos (by rfl)]
   refine zm _ _ _ rfl _ _ rfl rfl _ _ hN zp rfl (ua _ _ _ _ rfl rfl rfl rfl) fun w9 hN9 yL=>?_
   have hB:=hB.grown yL (by first | (simp;done) | (simp;omega));have hb:=hb.grown yL hb.size (by rintro q ⟨⟩;first | omega | simp);have xy:=xy.grown yL (by rintro q ⟨⟩;exact vZ)
   refine Ko hK ?_ fun zy=>?_
   ·exact⟨hB.cell 0 rfl,hB.cell 1 rfl,hB.cell 2 rfl,hB.cell 3 rfl⟩
   clear hK K
   refine To 9 rfl fun K hK=>?_
   go_simp
   refine Kz hK ?_
   clear hK K
   refine Wd ?_
   go_wp2_with fail
   go_meet
   exact⟨_,ra,rb,rc,rd,_,_,rfl,rfl,rfl,hN9,hB,hb,xy,yx,my⟩
  go_simp
  have hN:=yW hb 26 #[.int .i64 0,.int .u64 0,.slice none 0 0,.slice none 0 0];have Ys:=hB.lt;have vZ:=xy.none_of_ge (Nat.le_refl _)
  try simp only[zL,zr]at hN Ys vZ
  have hB:=hB.alloc zT;have hb:=hb.alloc hb.size zT;have xy:=xy.alloc zT;have tt:=hN.lt
  refine Ko hK ?_ fun zy=>?_
  ·exact⟨hB.cell 0 rfl,hB.cell 1 rfl,hB.cell 2 rfl,hB.cell 3 rfl⟩
  clear hK K
  refine To 2 rfl fun K hK=>?_
  go_simp
  refine(sA 2 (by omega) (by omega) _ xy).mono ?_
  rintro e w7 ⟨v7,rfl,o4⟩
  have hB:=hB.below o4.below;have hb:=hb.trans (o4.below.mono hb.size)
  try have hN:=hN.below o4.below
  obtain⟨sa,sb,sc,sd,H7,rfl,vV,eu⟩:=o4
  try have vZ:=vV.none vZ tt
  try have tt:=hN.lt
  have xy:=vV.holds;have yx:=yx.trans vV.le
  refine Ko hK ?_ fun zy=>?_
  ·exact⟨hB.cell 0 rfl,hB.cell 1 rfl,hB.cell 2 rfl,hB.cell 3 rfl⟩
  clear hK K
  refine To 3 rfl fun K hK=>?_
  go_simp
  refine(wd (hTab.mono yx) (hp.mono yx).arg eu.arg _ xy).mono ?_
  rintro e w8 ⟨v8,rfl,rn⟩
  have hB:=hB.below rn.below;have hb:=hb.trans (rn.below.mono hb.size)
  try have hN:=hN.below rn.below
  obtain⟨ra,rb,rc,rd,H8,rfl,yA,my⟩:=rn
  try have vZ:=yA.none vZ tt
  try have tt:=hN.lt
  have xy:=yA.holds;have yx:=yx.trans yA.le
  refine Ko hK ?_ fun zy=>?_
  ·exact⟨hB.cell 0 rfl,hB.cell 1 rfl,hB.cell 2 rfl,hB.cell 3 rfl⟩
  clear hK K
  refine Tk 4 rfl zy ?_
  refine Tk 5 rfl zy ?_
  refine Tk 6 rfl zy ?_
  refine To 8 rfl fun K hK=>?_
  rw[if_pos (by rfl)]
  refine zm _ _ _ rfl _ _ rfl rfl _ _ hN zp rfl (ua _ _ _ _ rfl rfl rfl rfl) fun w9 hN9 yL=>?_
  have hB:=hB.grown yL (by first | (simp;done) | (simp;omega));have hb:=hb.grown yL hb.size (by rintro q ⟨⟩;first | omega | simp);have xy:=xy.grown yL (by rintro q ⟨⟩;exact vZ)
  refine Ko hK ?_ fun zy=>?_
  ·exact⟨hB.cell 0 rfl,hB.cell 1 rfl,hB.cell 2 rfl,hB.cell 3 rfl⟩
  clear hK K
  refine To 9 rfl fun K hK=>?_
  go_simp
  refine Kz hK ?_
  clear hK K
  refine Wd ?_
  go_wp2_with fail
  go_meet
  exact⟨_,ra,rb,rc,rd,_,_,rfl,rfl,rfl,hN9,hB,hb,xy,yx,my⟩
 case rest =>
 obtain⟨N,ra,rb,rc,rd,Hx,xx,rfl,rfl,Rh,hN,er,xT,zP,MC,cP⟩:=hcut;clear lL xS
 cases hf:yo p (zZ 2) with
 | none =>
  have E3:Hid (zI p u=true):=by rw[Hid,E.out,nZ,hf]
  rw[hf]at Rh;have Rh:xx=false:=Rh.symm;subst Rh;clear hf hN cP;go_wp2_with fail
  go_ret
  exact⟨by rw[E3.out];rfl,xT⟩
 | some c =>
 have E3:Hid (zI p u=((c.items.all fun x=>(yo p x).isSome)&&c.kind==4&&decide (0<c.items.length))):=by rw[Hid,E.out,nZ,hf]
 rw[hf]at hN cP Rh;have Rh:xx=true:=Rh.symm;subst Rh
 simp only[Option.getD_some]at hN cP
 have n3:=hN.cell 3 rfl;clear hf E;go_upto_region 29 with fail
 go_loopw [107] (fun vi wr=>∃ k:Nat,k≤c.items.length∧vi=.int .i64 k∧((c.items.take k).all fun x=>(yo p x).isSome)=true∧Below wc.heap.size wc wr) (fun vi _=>c.items.length-(intOf vi).toNat)
 case atStart=>exact⟨0,Nat.zero_le _,rfl,by simp,Below.refl _ _⟩
 case round =>
 obtain⟨k,hk,rfl,vH,yH⟩:=hrel;have vI:=er.below yH;have Fl:=hN.below yH
 by_cases zB:k<c.items.length
 ·obtain⟨ib,io,tK,xA⟩:=cP.items (by omega);obtain⟨y1,y2,y3,y4,q0,q1,q2,q3,hy⟩:=xA.get k zB;subst tK;have yG:Holds wr Hx:=zP.below yH (Nat.le_refl _);have p0:=yG.cell q0;have p1:=yG.cell q1;have p2:=yG.cell q2;have p3:=yG.cell q3;have u0:=vI.cell 0 rfl;have u1:=vI.cell 1 rfl;have u2:=vI.cell 2 rfl;have u3:=vI.cell 3 rfl;have IE:=vI.lt;have tS:(c.items.all fun x=>(yo p x).isSome)=true→(yo p c.items[k]).isSome=true:=fun h=>List.all_eq_true.1 h _ (List.getElem_mem zB)
  have Qu:(yo p c.items[k]).isSome=true→((c.items.take (k+1)).all fun x=>(yo p x).isSome)=true:=fun h=>by
   rw[List.take_succ_eq_append_getElem zB,List.all_append,vH]
   simp[h]
  have HS:=Hh tS;have HK:Hid (k+1≤c.items.length):=zB;have Dc:=cP.bounds;have I9:(k:Int)+1≤9223372036854775807:=by omega
  clear Dc;have HN:=Hh Qu;clear tS Qu vH
  generalize c.items[k]'zB=y at *
  have FM:=Hh (wd (hTab.mono MC) (hp.mono MC).arg hy.arg (wr.alloc (zh y y1 y2 y3 y4)) (yG.alloc _));clear q0 q1 q2 q3 xA;go_wp2_with fail
  refine FM.out.mono ?_
  rintro e w9 ⟨v9,rfl,Gc⟩
  have pu:=(yH.alloc yH.size _).trans (Gc.below.mono (by have:=yH.size;simp;omega));obtain⟨f1,f2,f3,f4,H9,rfl,_,_⟩:=Gc;clear p0 p1 p2 p3 u0 u1 u2 u3 FM
  cases cY:yo p y with
  | none =>
   have E:Hid (zI p u=false):=by
    rw[Hid,E3.out]
    cases ha:(c.items.all fun x=>(yo p x).isSome) with
    | false=>simp
    | true =>
    have:=HS.out ha;rw[cY]at this
    cases this
   have zA:=(xT.trans (pu.mono xT.size))
   have Pp:=zA.alloc zA.size (zh zn f1 f2 f3 f4);clear cY;go_wp2_with fail
   go_ret
   exact⟨by rw[E.out];rfl,Pp⟩
  | some q =>
  have E:Hid (((c.items.take (k+1)).all fun x=>(yo p x).isSome)=true):=HN.out (by rw[cY];rfl);have tj:=pu.alloc pu.size (zh q f1 f2 f3 f4);clear cY;go_wp2_with fail
  go_roundw
  case rel=>exact⟨k+1,HK.out,by go_num,E.out,tj⟩
  case measure=>have:=HK.out;simp[intOf];omega
 have qq:k=c.items.length:=by omega
 subst qq;rw[List.take_length]at vH;have E:Hid (zI p u=(c.kind==4&&decide (0<c.items.length))):=by rw[Hid,E3.out,vH,Bool.true_and]
 have m0:=Fl.cell 0 rfl;have m3:=Fl.cell 3 rfl;have zA:=xT.trans (yH.mono xT.size);clear vH E3 n3
 by_cases h4:c.kind=4
 ·have k4:(c.kind==4)=true:=by simp[h4]
  have E5:Hid (zI p u=decide (0<c.items.length)):=by rw[Hid,E.out,k4,Bool.true_and]
  clear h4 E;go_wp2_with fail
  all_goals
   go_ret
   exact⟨by rw[E5.out];rfl,zA⟩
 have k4:(c.kind==4)=false:=by simp[h4]
 have E5:Hid (zI p u=false):=by rw[Hid,E.out,k4,Bool.false_and]
 clear h4 E;go_wp2_with fail
 go_ret
 exact⟨by rw[E5.out];rfl,zA⟩
def UC (w:World) (p u:Itm) (e:Ending) (w':World):Prop :=
 (zI p u=false∧e=.returned (.tuple #[.slice none 0 0,.int .i64 1])∧Below w.heap.size w w')∨
 (zI p u=true∧∃ r,e=.returned (.tuple #[r,.int .i64 0])∧Fresh w (wP p) r w')
theorem qt {H:Snap}(hTab:Tabs H) {p u:Itm}{a b:Ad}(hp:IsItem H a.ba a.bc a.ia a.ic p) (hu:IsItem H b.ba b.bc b.ia b.ic u) (w:World) (hH:Holds w H) :
  Calls Tryz.prog 48 #[.agg (zF p a u b)] w (UC w p u):=by
 have hB:=Blk.new w 28 (zF p a u b);have yK:=zu w (.cells (zF p a u b) 28);have WR:=hH.alloc (.cells (zF p a u b) 28);have V:=Hh (sm hTab hp hu _ WR)
 cases hv:zI p u with
 | false =>
  rw[hv]at V;have HV:=Hh hv;clear hv;go_enter Tryz.func48,Tryz.ntmps48
  go_wp2_with fail
  refine V.out.mono ?_
  rintro e w1 ⟨rfl,zJ⟩
  have zA:=yK.trans (zJ.mono yK.size);go_wp2_with fail
  go_ret2
  exact .inl ⟨HV.out,rfl,zA⟩
 | true =>
 rw[hv]at V;have HV:=Hh hv;have Rd:=(xr hv).1;have cR:=(vq Rd).2.1;clear hv;go_enter Tryz.func48,Tryz.ntmps48
 go_wp2_with fail
 refine V.out.mono ?_
 rintro e w1 ⟨rfl,zJ⟩
 have y9:=hB.below zJ;have zA:=yK.trans (zJ.mono yK.size);have c0:=y9.cell 0 rfl;have c1:=y9.cell 1 rfl;have c2:=y9.cell 2 rfl;have c3:=y9.cell 3 rfl
 by_cases h0:p.items.length=0
 ·have E:Hid (wP p=[]):=by rw[Hid,wP,if_pos h0]
  have k0:((p.items.length:Int)==0)=true:=by simp;simpa using h0
  clear h0;go_wp2_with fail
  go_ret2
  exact .inr ⟨HV.out,_,rfl,by rw[E.out];exact⟨OwnB.nil _ _,zA⟩⟩
 have E:Hid (wP p=zi p):=by rw[Hid,wP,if_neg h0]
 have k0:((p.items.length:Int)==0)=false:=by rw[beq_eq_false_iff_ne];omega
 have EN:=Hh (pJ hTab hp.arg w1 (hH.below zA (Nat.le_refl _)));have RC:=Hh Rd;clear h0 Rd;go_wp2_with fail
 refine EN.out.mono ?_
 rintro e w2 (⟨hf,_⟩ | ⟨_,r,rfl,hfr⟩)
 ·rw[RC.out]at hf;cases hf
 have R:Hid (Fresh w (wP p) r w2):=by
  rw[Hid,E.out]
  exact⟨hfr.own.more zA.size,zA.trans (hfr.2.mono zA.size)⟩
 clear hfr;go_wp2_with fail
 go_ret2
 exact .inr ⟨HV.out,_,rfl,R.out⟩
structure IsRows (H:Snap) (A:Option Addr) (c:Nat) (ls:List (List UInt8)):Prop where
 le:ls.length≤c
 max:c≤9223372036854775807
 rows:0<ls.length→∃ b off,A=some ⟨b,off,none⟩∧∀ j (hj:j<ls.length),∃ Aj cj,H.cell? ⟨b,off+j,none⟩=some (.slice Aj ls[j].length cj)∧IsBytes H Aj cj ls[j]
abbrev yg (l:List UInt8):Itm:=.mk 2 0 l []
def yD (ctx:List UInt8) (p:Itm) (ext:List UInt8) (pay:List (List UInt8)):Itm:=.mk 4 0 [] ([.mk 3 0 ctx [],yg (wP p),yg ext]++pay.map yg)
def yU (ctx:List UInt8) (p u:Itm) (ext:List UInt8) (pay:List (List UInt8)):Int :=
 if zI p u=false then 1 else if Lib.validD ctx=false then 5 else if zU (yD ctx p ext pay)=false then 8 else 0
def Wz (w:World) (ctx:List UInt8) (p u:Itm) (ext:List UInt8) (pay:List (List UInt8)) (e:Ending) (w':World):Prop :=
 ∃ r l,e=.returned (.tuple #[r,.int .i64 (yU ctx p u ext pay)])∧Fresh w l r w'∧l=if yU ctx p u ext pay=0 then zi (yD ctx p ext pay) else []
theorem OwnI.lit {w:World}{H:Snap}{l:List Itm}{cs:List Value}(h:ItemsC H cs l) (base:Nat) (hb:base≤w.heap.size) (hm:l.length≤4096) :
  OwnI (w.alloc (.cells cs.toArray 26)) base (.slice (some ⟨w.heap.size,0,none⟩) l.length l.length) H l:=by
 refine⟨cs,h,h.len,.inr ⟨w.heap.size,l.length,cs.toArray,rfl,hb,heap_alloc_new w _,Nat.le_refl _,by simp only[maxLen];omega, ?_, ?_⟩⟩
 ·simpa using h.len
 rw[← h.len];simp
theorem vL {H:Snap}(hTab:Tabs H) {p u:Itm}{a b:Ad}(hp:IsItem H a.ba a.bc a.ia a.ic p) (hu:IsItem H b.ba b.bc b.ia b.ic u) (s:ByteArray) (hs:s.size≤1048576)
  {EA:Option Addr} {ec:Nat} {ext:List UInt8} (hext:IsBytes H EA ec ext) (xA:ext.length≤1048576) {PA:Option Addr} {pc:Nat} {pay:List (List UInt8)} (hpay:IsRows H PA pc pay) (ms:pay.length≤1048576) (hpb:∀ l∈pay,l.length≤1048576) (w:World) (hH:Holds w H) :
  Calls Tryz.prog 20 #[.string s,.agg (zF p a u b),.slice EA ext.length ec,.slice PA pay.length pc] w (Wz w s.data.toList p u ext pay):=by
 have yK:=zu w (.cells (zF p a u b) 28);have f5:=(Grows.refl hH).alloc (.cells (zF p a u b) 28);have P:=Hh (qt hTab hp hu _ f5.holds);go_enter Tryz.func20,Tryz.ntmps20
 go_wp2_with fail
 refine P.out.mono ?_
 rintro e w1 (⟨hv,rfl,zJ⟩ | ⟨hv,r,rfl,hf⟩)
 ·have E:Hid (yU s.data.toList p u ext pay=1):=by rw[Hid,yU,if_pos hv]
  have zA:=yK.trans (zJ.mono yK.size);clear hv;go_wp2_with fail
  go_ret2
  exact⟨_,[],by rw[E.out];rfl,⟨OwnB.nil _ _,zA⟩,by rw[E.out];rfl⟩
 obtain⟨RA,rc,rfl,_⟩:=hf.own.form;have U:=Hh (utf8_ValidString hTab w1 (f5.holds.below hf.2 (Nat.le_refl _)) s (by omega))
 cases hc:Lib.validD s.data.toList with
 | false =>
  have E:Hid (yU s.data.toList p u ext pay=5):=by rw[Hid,yU,if_neg (by simp[hv]),if_pos hc]
  rw[hc]at U;clear hv hc;go_wp2_with fail
  refine U.out.mono ?_
  rintro e w2 ⟨rfl,zK⟩
  have zA:=(yK.trans (hf.2.mono yK.size)).trans (zK.mono (Nat.le_trans yK.size hf.2.size));go_wp2_with fail
  go_ret2
  exact⟨_,[],by rw[E.out];rfl,⟨OwnB.nil _ _,zA⟩,by rw[E.out];rfl⟩
 | true =>
 rw[hc]at U;have TV:=Hh (And.intro hv hc);clear hv hc;go_wp2_with fail
 refine U.out.mono ?_
 rintro e w2 ⟨rfl,zK⟩
 have MR:(wP p).length≤1099511627776:=by
  have:=(vN (xr TV.out.1).1).2.2
  unfold wP
  split
  ·simp
  omega
 have xB:=(f5.below_ hf.2).below_ zK;have Zj:=(hf.own.src).below zK;obtain⟨x3,Z7⟩:∃ x,Itm.mk 3 0 s.data.toList []=x:=⟨_,rfl⟩
 obtain⟨x4,Rg⟩:∃ x,Itm.mk 2 0 (wP p) []=x:=⟨_,rfl⟩
 obtain⟨x5,L6⟩:∃ x,Itm.mk 2 0 ext []=x:=⟨_,rfl⟩
 have T:=Hh (XK s (by omega) w2 xB.holds);rw[Z7]at T;go_wp2_with fail
 refine T.out.mono ?_
 rintro e w3 ⟨v3,rfl,ta,tb,tc,td,H3,rfl,yN,qK⟩
 have B1:=Hh (rv (c:=rc) (A:=RA) (l:=wP p) rfl MR w3 (Zj.below yN.below) yN.holds);rw[Rg]at B1;clear T;go_wp2_with fail
 refine B1.out.mono ?_
 rintro e w4 ⟨v4,rfl,pa',pb',pc',pd',H4,rfl,xl,pz⟩
 have B2:=Hh (rv (c:=ec) (A:=EA) (l:=ext) rfl (by omega) w4 (Src.of_row (hext.row.mono (yN.le.trans xl.le)) xl.holds) xl.holds);rw[L6]at B2;clear B1;go_wp2_with fail
 refine B2.out.mono ?_
 rintro e w5 ⟨v5,rfl,ea',eb',ec',ed',H5,rfl,vB,OI⟩
 have hG:=((xB.trans yN).trans xl).trans vB
 have Ws:ItemsC H5 (zQ x3 ta tb tc td++(zQ x4 pa' pb' pc' pd'++zQ x5 ea' eb' ec' ed')) [x3,x4,x5] :=
  (ItemsC.one (qK.mono (xl.le.trans vB.le))).app ((ItemsC.one (pz.mono vB.le)).app (ItemsC.one OI))
 have hO:=OwnI.lit (w:=w5) Ws (w.heap.size+1) (by have:=hf.2.size;have:=zK.size;have:=yN.size;have:=xl.size;have:=vB.size;simp at *;omega) (by simp);have DJ:=hG.alloc (.cells (zQ x3 ta tb tc td++(zQ x4 pa' pb' pc' pd'++zQ x5 ea' eb' ec' ed')).toArray 26);have OV:H5 w5.heap.size=none:=vB.holds.none_of_ge (Nat.le_refl _);clear xB yN xl vB qK pz OI hG B2 Zj hf zK Ws;go_upto_region 8 with fail
 go_loopw [12,38] (fun v12 vi wr=>∃ (k:Nat) (Hr:Snap) (VA:Option Addr) (vc:Nat),k≤pay.length∧vi=.int .i64 k∧v12=.slice VA (3+k) vc∧Grows w H wr Hr∧
  OwnI wr (w.heap.size+1) (.slice VA (3+k) vc) Hr ([x3,x4,x5]++(pay.take k).map yg)∧(∀ g,(Value.slice VA (3+k) vc).ownBlock=some g→Hr g=none)) (fun _ vi _=>pay.length-(intOf vi).toNat)
 case atStart=>exact⟨0,H5,_,_,Nat.zero_le _,rfl,rfl,DJ,hO,by intro g hg;simp[Value.ownBlock]at hg;subst hg;exact OV⟩
 case round =>
 obtain⟨k,Hr,VA,vc,hk,rfl,rfl,tU,wE,j9⟩:=hrel
 by_cases zB:k<pay.length
 ·obtain⟨rb,ro,ED,kZ⟩:=hpay.rows (by omega);obtain⟨Aj,cj,q0,G3⟩:=kZ k zB;subst ED;have p0:=(tU.holds.mono tU.le).cell q0;have Bc:=hpb pay[k] (List.getElem_mem zB);obtain⟨x6,Gf⟩:∃ x,Itm.mk 2 0 pay[k] []=x:=⟨_,rfl⟩
  have B:=Hh (rv (c:=cj) (A:=Aj) (l:=pay[k]) rfl (by omega) wr (Src.of_row (G3.row.mono tU.le) tU.holds) tU.holds);rw[Gf]at B;clear q0 kZ;go_wp2_with fail
  refine B.out.mono ?_
  rintro e w6 ⟨v6,rfl,ja,jb,jc,jd,H6,rfl,wl,mw⟩
  have qo:=((wE.below wl.below).mono wl.le).alloc (.cells (zQ x6 ja jb jc jd).toArray 26);have vV:=(tU.trans wl).alloc (.cells (zQ x6 ja jb jc jd).toArray 26);have Yy:∀ g,(Value.slice VA (3+k) vc).ownBlock=some g→H6 g=none:=fun g hg=>wl.none (j9 g hg) (wE.lt g hg).2
  clear p0 B;go_wp2_with (at_builtin;refine zM ?_)
  refine wm rfl (.tmp 42) (.tmp 45) rfl (w.heap.size+1) (.slice VA (3+k) vc) H6 _ rfl qo _ 1 _ (zQ x6 ja jb jc jd) [x6] rfl rfl (ItemsC.one mw) (Src.new _ _ _ _ rfl _ rfl) (by simp;omega) (by have:=vV.size;have:=wl.size;have:=tU.size;simp at *;omega) fun v' w7 vX wh hat7=>?_
  obtain⟨VA',vc',rfl,_⟩:=vX.form;have yA:=vV.grownRow Yy (fun g hg=>by have:=(qo.lt g hg).1;omega) wh
  have mz:∀ g,(Value.slice VA' ([x3,x4,x5]++(pay.take k).map yg++[x6]).length vc').ownBlock=some g→H6 g=none:=fun g hg=>by
   rcases hat7 with h | ⟨g',h1,h2⟩
   ·exact Yy g (by rw[← h,hg])
   rw[hg]at h1;injection h1 with h1
   subst h1
   exact vV.hidden h2
  have iC:([x3,x4,x5]++(pay.take k).map yg++[x6])=[x3,x4,x5]++(pay.take (k+1)).map yg:=by
   rw[List.take_succ_eq_append_getElem zB,List.map_append,← Gf]
   simp
  have xK:([x3,x4,x5]++(pay.take (k+1)).map yg).length=3+(k+1):=by simp;omega
  rw[iC,xK]at vX mz;rw[iC,xK];have I9:(k:Int)+1≤9223372036854775807:=by omega
  clear qo wh hat7 Yy vV wE tU wl mw G3;go_wp2_with fail
  go_roundw
  case rel=>exact⟨k+1,H6,VA',vc',by omega,by go_num,rfl,yA,vX,mz⟩
  case measure=>simp[intOf];omega
 have qq:k=pay.length:=by omega
 subst qq;rw[List.take_length]at wE;have hI:Hid (yD s.data.toList p ext pay=.mk 4 0 [] ([x3,x4,x5]++pay.map yg)):=by rw[Hid,yD,← Z7,← Rg,← L6]
 have Px:ModestL ([x3,x4,x5]++pay.map yg):=by
  rw[← Z7,← Rg,← L6]
  refine ModestL.of fun x hx=>?_
  simp only[List.cons_append,List.nil_append,List.mem_cons,List.mem_map]at hx
  rcases hx with rfl | rfl | rfl | ⟨l,hl,rfl⟩ <;> rw[Modest,ModestL] <;> refine⟨?_,by simp,trivial⟩
  ·simpa using (by omega:s.size≤1099511627776)
  ·exact MR
  ·omega
  have:=hpb l hl
  omega
 obtain⟨L,hL⟩:∃ L,[x3,x4,x5]++pay.map yg=L:=⟨_,rfl⟩
 have DT:L.length=3+pay.length:=by rw[← hL];simp;omega
 rw[hL]at wE Px hI;obtain⟨cs,rN,kZ⟩:=wE;obtain⟨x7,o0⟩:∃ x,Itm.mk 4 0 [] L=x:=⟨_,rfl⟩
 have AR:=Hh (aA L VA (3+pay.length) vc wr cs (Src.of_own kZ) rN DT.symm (by omega) Px tU.holds);rw[o0]at AR hI;clear hL Px kZ rN Z7 Rg L6 hO;go_wp2_with fail
 refine AR.out.mono ?_
 rintro e w8 ⟨v8,rfl,xa,xb,xc,xd,H8,rfl,yA,my⟩
 have tr:=tU.trans yA;have EN:=Hh (pJ (hTab.mono tr.le) my.arg w8 tr.holds);clear AR yA tU;go_wp2_with fail
 refine EN.out.mono ?_
 rintro e w9 (⟨hv,rfl,pu⟩ | ⟨hv,r,rfl,hfr⟩)
 ·have E:Hid (yU s.data.toList p u ext pay=8):=by rw[Hid,yU,if_neg (by simp[TV.out.1]),if_neg (by simp[TV.out.2]),hI.out,if_pos hv]
  have zA:=tr.below.trans (pu.mono tr.size);clear hv;go_wp2_with fail
  go_ret2
  exact⟨_,[],by rw[E.out];rfl,⟨OwnB.nil _ _,zA⟩,by rw[E.out];rfl⟩
 have E:Hid (yU s.data.toList p u ext pay=0):=by rw[Hid,yU,if_neg (by simp[TV.out.1]),if_neg (by simp[TV.out.2]),hI.out,if_neg (by simp[hv])]
 have R:Hid (Fresh w (zi x7) r w9):=⟨hfr.own.more tr.size,tr.below.trans (hfr.2.mono tr.size)⟩
 obtain⟨RA',rc',rfl,_⟩:=hfr.own.form;clear hv hfr;go_wp2_with fail
 go_ret2
 exact⟨_,zi x7,by rw[E.out];rfl,R.out,by rw[E.out,hI.out];rfl⟩
def SrcR (w:World) (A:Option Addr) (ls:List (List UInt8)):Prop:=0<ls.length→∃ b off,A=some ⟨b,off,none⟩∧∀ j (hj:j<ls.length),∃ Aj cj,w.cell? ⟨b,off+j,none⟩=some (.slice Aj ls[j].length cj)∧Src w Aj (ls[j].map zq)
theorem nF (ls:List (List UInt8)) (k:Nat) (hk:k<ls.length):(ls.drop k).flatten=ls[k]++(ls.drop (k+1)).flatten:=by
 rw[List.drop_eq_getElem_cons hk,List.flatten_cons]
theorem OwnB.store_ {w:World}{base:Nat}{A:Option Addr}{n c:Nat}{l:List UInt8}(h:OwnB w base (.slice A n c) l) {k:Nat}(hk:k<l.length):∃ g cur,A=some ⟨g,0,none⟩∧base≤g∧Blk w g 5 cur∧k<cur.size∧
  ∀ (w':World) (x:UInt8),Blk w' g 5 (cur.setIfInBounds k (zq x))→OwnB w' base (.slice A n c) (l.set k x):=by
 rcases h.2 with ⟨hv,hz⟩ | ⟨g,cap,cur,hv,hb,hg,hc,hm,hcz,ht⟩
 ·omega
 cases hv
 refine⟨g,cur,rfl,hb,hg,by omega,fun w' x hB=>⟨by simp,.inr ⟨g,c,_,by simp,hb,hB,by simpa using hc,hm,by rw[Array.size_setIfInBounds,hcz], ?_⟩⟩⟩
 rw[Array.toList_setIfInBounds,List.length_set,List.take_set,ht,List.map_set]
structure Lie (α:Type) where
 k:Nat
 pos:0<k
 E:Snap→α→List Value→Prop
 len:∀ {H x c},E H x c→c.length=k
 one:∀ {H x c},E H x c→∀ u∈c,u.oneCell'=true
 mono:∀ {H K x c},H.le K→E H x c→E K x c
section
variable {α:Type} {L:Lie α}
def RowC (L:Lie α) (H:Snap):List Value→List α→Prop
 | cs,[]=>cs=[]
 | cs,x::l=>∃ c rest,cs=c++rest∧L.E H x c∧RowC L H rest l
theorem RowC.nil (L:Lie α) (H:Snap):RowC L H [] []:=by rw[RowC]
theorem RowC.len {H:Snap}:∀ {l:List α}{cs:List Value},RowC L H cs l→cs.length=l.length*L.k
 | [],cs,h=>by rw[RowC]at h;subst h;simp
 | x::l,cs,h=>by
  obtain⟨c,rest,rfl,hx,hr⟩:=h;rw[List.length_append,L.len hx,hr.len,List.length_cons,Nat.succ_mul,Nat.add_comm]
theorem RowC.mono {H K:Snap}(hl:H.le K):∀ {l:List α}{cs:List Value},RowC L H cs l→RowC L K cs l
 | [],cs,h=>h
 | x::l,cs,h=>by
  obtain⟨c,rest,e,hx,hr⟩:=h
  exact⟨c,rest,e,L.mono hl hx,hr.mono hl⟩
theorem RowC.one {H:Snap}{x:α}{c:List Value}(h:L.E H x c):RowC L H c [x]:=⟨c,[],by simp,h,RowC.nil L H⟩
theorem RowC.app {H:Snap}:∀ {l m:List α}{cs ds:List Value},RowC L H cs l→RowC L H ds m→RowC L H (cs++ds) (l++m)
 | [],m,cs,ds,h,hd=>by rw[RowC]at h;subst h;exact hd
 | x::l,m,cs,ds,h,hd=>by
  obtain⟨c,rest,rfl,hx,hr⟩:=h
  exact⟨c,rest++ds,by simp,hx,hr.app hd⟩
theorem RowC.oneCell {H:Snap}:∀ {l:List α}{cs:List Value},RowC L H cs l→∀ u∈cs,u.oneCell'=true
 | [],cs,h=>by rw[RowC]at h;subst h;simp
 | x::l,cs,h=>by
  obtain⟨c,rest,rfl,hx,hr⟩:=h
  intro u hu
  rw[List.mem_append]at hu
  rcases hu with hu | hu
  ·exact L.one hx u hu
  exact hr.oneCell u hu
theorem RowC.get {H:Snap}:∀ {l:List α}{cs:List Value},RowC L H cs l→∀ (j:Nat) (hj:j<l.length),∃ c,L.E H l[j] c∧∀ i v,c[i]? = some v→cs[j*L.k+i]? = some v
 | [],_,_,j,hj=>by simp at hj
 | x::l,cs,h,0,_=>by
  obtain⟨c,rest,rfl,hx,hr⟩:=h
  refine⟨c,hx,fun i v hi=>?_⟩
  rw[Nat.zero_mul,Nat.zero_add,List.getElem?_append_left (List.getElem?_eq_some_iff.1 hi).1]
  exact hi
 | x::l,cs,h,j+1,hj=>by
  obtain⟨c,rest,rfl,hx,hr⟩:=h;obtain⟨c',Db,Dl⟩:=hr.get j (by simpa using hj)
  refine⟨c',by simpa using Db,fun i v hi=>?_⟩
  have:=Dl i v hi;rw[List.getElem?_append_right (by rw[L.len hx,Nat.succ_mul];omega),L.len hx,show(j+1)*L.k+i-L.k=j*L.k+i by rw[Nat.succ_mul];omega]
  exact this
structure IsRow (L:Lie α) (H:Snap) (A:Option Addr) (c:Nat) (l:List α):Prop where
 le:l.length≤c
 max:c≤9223372036854775807
 row:0<l.length→∃ b off cs,A=some ⟨b,off,none⟩∧RowC L H cs l∧eP H b off cs
theorem IsRow.at_ {H:Snap}{A:Option Addr}{c:Nat}{l:List α}(h:IsRow L H A c l) (h0:0<l.length):∃ b off,A=some ⟨b,off,none⟩∧∀ j (hj:j<l.length),∃ d,L.E H l[j] d∧∀ i v,d[i]? = some v→H.cell? ⟨b,off+(j*L.k+i),none⟩=some v:=by
 obtain⟨b,off,cs,e,h1,h2⟩:=h.row h0
 refine⟨b,off,e,fun j hj=>?_⟩
 obtain⟨d,hd,hi⟩:=h1.get j hj
 exact⟨d,hd,fun i v hv=>h2 _ _ (hi i v hv)⟩
def OwnX (L:Lie α) (t:TypeId) (w:World) (base:Nat) (v:Value) (H:Snap) (l:List α):Prop:=∃ cs,RowC L H cs l∧w.ownsRow base t L.k v l.length cs
variable {t:TypeId} {w w':World} {base:Nat} {v:Value} {H:Snap} {l:List α}
theorem OwnX.nil (L:Lie α) (t:TypeId) (w:World) (base:Nat) (H:Snap):OwnX L t w base (.slice none 0 0) H []:=⟨[],RowC.nil L H,World.ownsRow_nil _ _ _ _⟩
theorem OwnX.lt (h:OwnX L t w base v H l):∀ k,v.ownBlock=some k→base≤k∧k<w.heap.size:=by obtain⟨_,_,h⟩:=h;exact World.ownsRow.lt h
theorem OwnX.kept {row:Option Nat}(h:OwnX L t w base v H l) (hg:w.grownBy w' row) (wS:v.ownBlock=none∨v.ownBlock≠row):OwnX L t w' base v H l:=by
 obtain⟨cs,hc,h⟩:=h;exact⟨cs,hc,World.ownsRow.kept h hg wS⟩
theorem OwnX.below (h:OwnX L t w base v H l) (hb:Below w.heap.size w w'):OwnX L t w' base v H l:=by
 refine h.kept (xq hb none) ?_
 cases hv:v.ownBlock with
 | none=>exact .inl rfl
 | some g=>exact .inr (by simp)
theorem OwnX.alloc (h:OwnX L t w base v H l) (o:Obj):OwnX L t (w.alloc o) base v H l:=h.below (zu w o)
theorem OwnX.mono {K:Snap}(h:OwnX L t w base v H l) (hl:H.le K):OwnX L t w base v K l:=by obtain⟨cs,hc,h⟩:=h;exact⟨cs,hc.mono hl,h⟩
theorem OwnX.form (h:OwnX L t w base v H l):∃ A c,v=.slice A l.length c∧l.length≤c∧c≤9223372036854775807:=by
 obtain⟨cs,hc,h⟩:=h
 rcases h.2 with ⟨rfl,hz⟩ | ⟨g,cap,cur,rfl,_,_,hn,hm,_⟩
 ·exact⟨none,0,by rw[hz],by omega,by omega⟩
 exact⟨_,cap,rfl,hn,by simpa [maxLen] using hm⟩
theorem OwnX.snap {A:Option Addr}{m c:Nat}(h:OwnX L t w base (.slice A m c) H l) (hw:Holds w H) (hn:∀ g,A.map (·.block)=some g→H g=none) :
  ∃ H',H.le H'∧Holds w H'∧(∀ b o,H' b=some o→H b=some o∨A.map (·.block)=some b)∧m=l.length∧IsRow L H' A c l:=by
 obtain⟨cs,rN,h⟩:=h
 rcases h.2 with ⟨hv,hz⟩ | ⟨g,cap,cur,hv,_,hg,hc,hm,hcz,ht⟩
 ·cases hv
  exact⟨H,Snap.le.refl _,hw,fun _ _ h=>.inl h,hz.symm,⟨by omega,by omega,by omega⟩⟩
 cases hv
 have mA:H g=none:=hn g rfl
 refine⟨H.with g (.cells cur t),Snap.le_with mA,hw.with hg,fun b o hb=>?_,rfl,hc,by simpa [maxLen] using hm,fun _=>⟨g,0,cs,rfl,rN.mono (Snap.le_with mA),fun j v hj=>?_⟩⟩
 ·unfold Snap.with at hb
  split at hb
  ·subst b;exact .inr rfl
  exact .inl hb
 rw[← ht,List.getElem?_take]at hj
 split at hj
 ·simp[Snap.cell?,Snap.with]
  simpa using hj
 cases hj
theorem OwnX.at_ {A:Option Addr}{m c:Nat}(h:OwnX L t w base (.slice A m c) H l) (j:Nat) (hj:j<l.length):∃ g,A=some ⟨g,0,none⟩∧∃ d,L.E H l[j] d∧∀ i v,d[i]? = some v→w.cell? ⟨g,j*L.k+i,none⟩=some v:=by
 obtain⟨cs,rN,h⟩:=h
 rcases h.2 with ⟨hv,hz⟩ | ⟨g,cap,cur,hv,_,hg,hc,hm,hcz,ht⟩
 ·omega
 cases hv
 obtain⟨d,hd,hi⟩:=rN.get j hj
 refine⟨g,rfl,d,hd,fun i v hv=>?_⟩
 have hx:=hi i v hv;rw[← ht,List.getElem?_take]at hx
 split at hx
 ·exact(cell_of_row w g _ cur t (0,0) hg).trans (by simpa using hx)
 cases hx
theorem OwnX.append {ops:Array Oper}{rest:List Oper}{o:Oper}{a:Act}{Q:Exit→Act→World→Prop}(hgd:o.guard=none) (s x:Operand) (T:TypeId)
  (ho:o.op=.call { callee:=.builtin .append,args:=#[s,x],argTypes:=#[T,T] }) (hT:Tryz.prog.underlying T=some (.slice t)) {z:Value} {bytes:Nat} (U8:z.cells.size=L.k) (cO:bytes≤128)
  (hinfo:(Tryz.prog.info? t).map (fun i=>(i.zero,i.size,i.bytes))=some (some z,L.k,bytes))
  (hs:a.eval s=v) (y7:OwnX L t w base v H l) (A:Option Addr) (m c:Nat) (cs:List Value) (news:List α) (hx:a.eval x=.slice A m c) (hm:m=news.length)
  (hn:RowC L H cs news) (hr:Src w A cs) (xK:l.length+news.length≤1099511627776) (hbase:base≤w.heap.size)
  (h:∀ v' w',OwnX L t w' base v' H (l++news)→w.grownBy w' v.ownBlock→At0 w v.ownBlock v'.ownBlock→wpList Tryz.prog ops Q rest (a.put o.dst v') w') :
  wpList Tryz.prog ops Q (o::rest) a w:=by
 subst hm;obtain⟨xs,Wa,y7⟩:=y7;obtain⟨i0,uv,o1,rp,rQ⟩:=info_parts hinfo
 refine wpList_plain hgd fun K hK=>wU s x _ ho base t i0 _ L.k bytes hT uv o1 rp rQ U8 L.pos v l.length xs hs y7 A news.length c cs hx hn.len hr hn.oneCell
  (by simp only[maxLen];omega) (by have:=Nat.mul_le_mul xK cO;omega) hbase fun v' w' h2 h3 h4=>hK _ _ (h v' w' ?_ h3 ?_)
 ·exact⟨xs++cs,Wa.app hn,by simpa using h2⟩
 rcases h4 with h4 | h4
 ·exact .inl h4
 exact .inr ⟨_,h4,Nat.le_refl _⟩
end
theorem nM:∀ a b:List UInt8,Lib.compareBytes a b=0↔a=b
 | [],[]=>by rw[Lib.compareBytes];simp
 | [],y::b=>by rw[Lib.compareBytes];simp
 | x::a,[]=>by rw[Lib.compareBytes];simp
 | x::a,y::b=>by
  rw[Lib.compareBytes]
  by_cases h1:x<y
  ·rw[if_pos h1];have:x≠y:=by rintro rfl;exact UInt8.lt_irrefl x h1
   simp[this]
  rw[if_neg h1]
  by_cases h2:y<x
  ·rw[if_pos h2];have:x≠y:=by rintro rfl;exact UInt8.lt_irrefl x h2
   simp[this]
  rw[if_neg h2];have e:x=y:=UInt8.toNat_inj.1 (by rw[UInt8.lt_iff_toNat_lt]at h1 h2;omega);subst e
  simp[nM a b]
theorem OwnX.kl {α:Type}{L:Lie α}{t:TypeId}{w w':World}{base N:Nat}{v:Value}{H:Snap}{l:List α}(h:OwnX L t w base v H l) (hg:w.grownBy w' (some N)) (hl:∀ q,v.ownBlock=some q→q<N):OwnX L t w' base v H l:=h.kept hg (by cases hv:v.ownBlock with | none=>exact .inl rfl | some q=>exact .inr (fun e=>by injection e with e;exact Nat.lt_irrefl _ (e ▸ hl q hv)))
end Go.Proofs.YtliomcphdnppnaaGreatDoor
