/- squeezed. Walks: header.Valid. Walks: header -/
import Derived.Test.YtliomcphdnppnaaGreatDoorK10
import Derived.Test.YtliomcphdnppnaaGreatDoorK08
import Derived.Deep.Matrix
set_option linter.unusedVariables false
set_option linter.unusedSimpArgs false
set_option maxRecDepth 100000
set_option maxHeartbeats 6400000
namespace Go.Proofs.YtliomcphdnppnaaGreatDoor
open Go.RowKit
theorem tB {H:Snap}(hTab:Tabs H) {p u:Itm}{a b:Ad}(hp:IsItem H a.ba a.bc a.ia a.ic p) (hu:IsItem H b.ba b.bc b.ia b.ic u) (w:World) (hH:Holds w H) :
  Calls Tryz.prog 29 #[.agg (zY p a u b)] w fun e w'=>e=.returned (.bool (zV p u))∧Below w.heap.size w w':=by
 have hB:=(Blk.new w 28 (zY p a u b)).alloc (.cells (zY p a u b) 26);have hM:=Blk.new (w.alloc (.cells (zY p a u b) 28)) 26 (zY p a u b)
 simp only[zu]at hM
 have nb:Below w.heap.size w ((w.alloc (.cells (zY p a u b) 28)).alloc (.cells (zY p a u b) 26)):=(zq w _).alloc (by simp) _;have Jd:w.heap.size+1<((w.alloc (.cells (zY p a u b) 28)).alloc (.cells (zY p a u b) 26)).heap.size:=by simp
 go_enter Tryz.func29,Tryz.ntmps29
 go_upto_region 2 with fail
 go_loopw [29] (fun vi wr=>∃ j:Nat,j≤2∧vi=.int .i64 j∧(1≤j→tw p=true)∧(2≤j→tw u=true)∧Below w.heap.size w wr∧Blk wr w.heap.size 28 (zY p a u b)∧Blk wr (w.heap.size+1) 26 (zY p a u b)) (fun vi _=>2-(intOf vi).toNat)
 case atStart=>exact⟨0,by omega,rfl,by omega,by omega,nb,hB,hM⟩
 case round =>
 obtain⟨j,hj,rfl,Sp,Pj,yS,oe,YT⟩:=hrel;have Ok:=Hh Sp;have KN:=Hh Pj;clear Sp Pj
 by_cases zB:j<2
 ·have hm:∃ (m:Itm) (am:Ad),(j=0→m=p)∧(j=1→m=u)∧IsItem H am.ba am.bc am.ia am.ic m∧wr.cell? ⟨w.heap.size+1,j*4,none⟩=some (.int .i64 m.kind)∧wr.cell? ⟨w.heap.size+1,j*4+1,none⟩=some (.int .u64 m.n)∧
    wr.cell? ⟨w.heap.size+1,j*4+2,none⟩=some (.slice am.ba m.bytes.length am.bc)∧wr.cell? ⟨w.heap.size+1,j*4+3,none⟩=some (.slice am.ia m.items.length am.ic):=by
   rcases(by omega:j=0∨j=1) with rfl | rfl
   ·exact⟨p,a,fun _=>rfl,by omega,hp,YT.cell _ rfl,YT.cell _ rfl,YT.cell _ rfl,YT.cell _ rfl⟩
   exact⟨u,b,by omega,fun _=>rfl,hu,YT.cell _ rfl,YT.cell _ rfl,YT.cell _ rfl,YT.cell _ rfl⟩
  obtain⟨m,am,ft,pJ,dr,d0,d1,d2,d3⟩:=hm
  have BAD:Hid (tw m=false→zV p u=false):=by
   intro h
   rcases(by omega:j=0∨j=1) with rfl | rfl
   ·rw[ft rfl]at h;simp[zV,h]
   rw[pJ rfl]at h;simp[zV,h]
  have GOOD:Hid (tw m=true→(1≤j+1→tw p=true)∧(2≤j+1→tw u=true)):=by
   intro h
   rcases(by omega:j=0∨j=1) with rfl | rfl
   ·rw[ft rfl]at h;exact⟨fun _=>h,by omega⟩
   rw[pJ rfl]at h;exact⟨fun _=>Ok.out (by omega),fun _=>h⟩
  have hT:=(Blk.new wr 26 #[.int .i64 m.kind,.int .u64 m.n,.slice am.ba m.bytes.length am.bc,.slice am.ia m.items.length am.ic])
  have yD:Holds (wr.alloc (zi m am.ba am.bc am.ia am.ic)) H:=(hH.below yS (Nat.le_refl _)).alloc _;have V:=Hh (ti hTab dr.arg _ yD);have a6:=yS.alloc yS.size (zi m am.ba am.bc am.ia am.ic);have Nk:=oe.alloc (zi m am.ba am.bc am.ia am.ic);have Nq:=YT.alloc (zi m am.ba am.bc am.ia am.ic);clear ft pJ oe YT
  by_cases h5:m.kind=5
  ·have k5:(m.kind != 5)=false:=by simp[h5]
   have H5:=Hh h5;clear h5
   cases hv:zX m with
   | false =>
    have E:Hid (zV p u=false):=BAD.out (by simp[tw,hv]);rw[hv]at V;clear hv;go_wp2_with fail
    refine V.out.mono ?_
    rintro e w1 ⟨rfl,zH⟩
    have zG:=a6.trans (zH.mono a6.size);go_wp2_with fail
    go_ret
    exact⟨by rw[E.out];rfl,zG⟩
   | true =>
   have xB:=tS hv H5.out;have xo:=(wR hv).2.1;have HV:=Hh hv;rw[hv]at V;clear hv;go_wp2_with fail
   refine V.out.mono ?_
   rintro e w1 ⟨rfl,zH⟩
   have yO:=Nk.below zH;have Hj:=Nq.below zH;have uu:=hT.below zH;have Rb:=a6.trans (zH.mono a6.size);have t0:=uu.cell 0 rfl;have t1:=uu.cell 1 rfl;have t2:=uu.cell 2 rfl;have t3:=uu.cell 3 rfl;have P:=Hh (nr dr.arg xB (by omega) w1 (yD.below zH (Nat.le_refl _)));have S0:=Hh xB;clear d0 d1 d2 d3 V Nk Nq hT yD a6 xB;go_wp2_with fail
   refine P.out.mono ?_
   rintro e w2 ⟨PA,pc,cs,rfl,ri,uE,zG⟩
   have yV:=yO.below zG;have FR:=Hj.below zG;have mH:=Rb.trans (zG.mono Rb.size);clear t0 t1 t2 t3 P yO Hj uu Rb;go_upto_region 7 with fail
   go_loopw [44] (fun vi wr=>∃ k:Nat,k≤m.items.length/2∧vi=.int .i64 k∧sp (m.items.drop (k*2))=sp m.items∧Below w2.heap.size w2 wr) (fun vi _=>m.items.length/2-(intOf vi).toNat)
   case atStart=>exact⟨0,Nat.zero_le _,rfl,by simp,Below.refl _ _⟩
   case round =>
   obtain⟨k,hk,rfl,ng,yw⟩:=hrel
   by_cases hlt2:k<m.items.length/2
   ·have TY:=S0.out;have iq:k*2<m.items.length:=by omega
    have jh:k*2+1<m.items.length:=by omega
    have vR:=cO m.items (k*2) jh;rw[ng]at vR;obtain⟨y1,y2,y3,y4,c0,c1,c2,c3,hy⟩:=uE.get (k*2) iq;obtain⟨z1,z2,z3,z4,c4,c5,c6,c7,hz⟩:=uE.get (k*2+1) jh;obtain⟨pb,po,rfl,pK⟩:=(ri.below yw) (by intro h;subst h;simp at c0)
    have e0:=pK _ _ c0;have e1:=pK _ _ c1;have e2:=pK _ _ c2;have e3:=pK _ _ c3;have e4:=pK _ _ c4;have e5:=pK _ _ c5;have e6:=pK _ _ c6;have e7:=pK _ _ c7;rw[show po+k*2*4=po+k*8 by omega]at e0;rw[show po+(k*2*4+1)=po+k*8+1 by omega]at e1;rw[show po+(k*2*4+2)=po+k*8+2 by omega]at e2;rw[show po+(k*2*4+3)=po+k*8+3 by omega]at e3;rw[show po+(k*2+1)*4=po+k*8+4 by omega]at e4;rw[show po+((k*2+1)*4+1)=po+k*8+5 by omega]at e5;rw[show po+((k*2+1)*4+2)=po+k*8+6 by omega]at e6;rw[show po+((k*2+1)*4+3)=po+k*8+7 by omega]at e7;have ek:Hid (sp m.items=(vr m.items[k*2] m.items[k*2+1]&&sp (m.items.drop ((k+1)*2)))):=by rw[Hid,vR,show(k+1)*2=k*2+2 by omega]
    generalize m.items[k*2]'iq=y at *
    generalize m.items[k*2+1]'jh=z at *
    have PM:=Hh (mw hy hz (wr.alloc (.cells #[.int .i64 y.kind,.int .u64 y.n,.slice y1 y.bytes.length y2,.slice y3 y.items.length y4,.int .i64 z.kind,.int .u64 z.n,.slice z1 z.bytes.length z2,.slice z3 z.items.length z4] 100)));have dL:(k:Int)<(m.items.length/2:Nat):=by omega
    clear pK c0 c1 c2 c3 c4 c5 c6 c7 vR ng TY iq jh;go_wp2_with fail
    refine PM.out.mono ?_
    rintro e w3 ⟨rfl,xn⟩
    have xn:=(yw.alloc yw.size _).trans (xn.mono (by have:=yw.size;simp;omega));clear e0 e1 e2 e3 e4 e5 e6 e7 PM
    cases jk:vr y z with
    | false =>
     have E:Hid (zV p u=false):=BAD.out (by rw[tw,ek.out,jk];simp);have zJ:=mH.trans (xn.mono mH.size);clear jk;go_wp2_with fail
     go_ret
     exact⟨by rw[E.out];rfl,zJ⟩
    | true =>
    have E:Hid (sp (m.items.drop ((k+1)*2))=sp m.items):=by rw[Hid,ek.out,jk,Bool.true_and]
    clear jk;go_wp2_with fail
    go_roundw
    case rel=>exact⟨k+1,by omega,by go_num,E.out,xn⟩
    case measure=>simp[intOf];omega
   have E:Hid (tw m=true):=by
    have TY:=S0.out;rw[List.drop_eq_nil_of_le (by omega)]at ng;rw[Hid,tw,HV.out,← ng,H5.out];rfl
   have G:=Hh (GOOD.out E.out);have vF:=yV.below yw;have FS:=FR.below yw;have zJ:=mH.trans (yw.mono mH.size);clear ng;go_wp2_with fail
   go_roundw
   case rel=>exact⟨j+1,by omega,by go_num,G.out.1,G.out.2,zJ,vF,FS⟩
   case measure=>simp[intOf];omega
  have k5:(m.kind != 5)=true:=by simp[h5]
  have E:Hid (zV p u=false):=BAD.out (by simp[tw,h5]);clear h5 V;go_wp2_with fail
  go_ret
  exact⟨by rw[E.out];rfl,a6⟩
 have LD:j=2:=by omega
 subst LD;have OP:=Hh (Ok.out (by omega));have OU:=Hh (KN.out (by omega));have Yy:zX p=true∧p.kind=5:=by have:=OP.out;simp[tw]at this;exact⟨this.1.2,this.1.1⟩
 have xB:=tS Yy.1 Yy.2;have xo:=(wR Yy.1).2.1;have yD:Holds wr H:=hH.below yS (Nat.le_refl _);have P:=Hh (nr hp.arg xB (by omega) wr yD);have S0:=Hh xB;have t0:=oe.cell 0 rfl;have t1:=oe.cell 1 rfl;have t2:=oe.cell 2 rfl;have t3:=oe.cell 3 rfl
 have E0:Hid (zV p u=(xA u p.items && !((yt u (zg 2)).isSome||((vO p u 5).isSome&&(vO p u 6).isSome))&&oF p)):=by
  rw[Hid,zV,OP.out,OU.out,Bool.true_and,Bool.true_and]
 clear Yy xB YT hM Jd nb hB;go_wp2_with fail
 refine P.out.mono ?_
 rintro e w2 ⟨PA,pc,cs,rfl,ri,uE,zG⟩
 have yV:=oe.below zG;have mH:=yS.trans (zG.mono yS.size);clear t0 t1 t2 t3 P oe yD yS;go_upto_region 14 with fail
 go_loopw [57] (fun vi wr=>∃ k:Nat,k≤p.items.length/2∧vi=.int .i64 k∧xA u (p.items.drop (k*2))=xA u p.items∧Below w2.heap.size w2 wr) (fun vi _=>p.items.length/2-(intOf vi).toNat)
 case atStart=>exact⟨0,Nat.zero_le _,rfl,by simp,Below.refl _ _⟩
 case round =>
 obtain⟨k,hk,rfl,ng,yw⟩:=hrel;have vF:=yV.below yw;have Je:=vF.lt;have u4:=vF.cell 4 rfl;have u5:=vF.cell 5 rfl;have u6:=vF.cell 6 rfl;have u7:=vF.cell 7 rfl;have zQ:Holds wr H:=hH.below (mH.trans (yw.mono mH.size)) (Nat.le_refl _)
 by_cases hlt2:k<p.items.length/2
 ·have TY:=S0.out;have iq:k*2<p.items.length:=by omega
  have jh:k*2+1<p.items.length:=by omega
  have vR:=jB u p.items (k*2) jh;rw[ng]at vR;obtain⟨y1,y2,y3,y4,c0,c1,c2,c3,hy⟩:=uE.get (k*2) iq;obtain⟨z1,z2,z3,z4,c4,c5,c6,c7,hz⟩:=uE.get (k*2+1) jh;obtain⟨pb,po,rfl,pK⟩:=(ri.below yw) (by intro h;subst h;simp at c0)
  have e0:=pK _ _ c0;have e1:=pK _ _ c1;have e2:=pK _ _ c2;have e3:=pK _ _ c3;have e4:=pK _ _ c4;have e5:=pK _ _ c5;have e6:=pK _ _ c6;have e7:=pK _ _ c7;rw[show po+k*2*4=po+k*8 by omega]at e0;rw[show po+(k*2*4+1)=po+k*8+1 by omega]at e1;rw[show po+(k*2*4+2)=po+k*8+2 by omega]at e2;rw[show po+(k*2*4+3)=po+k*8+3 by omega]at e3;rw[show po+(k*2+1)*4=po+k*8+4 by omega]at e4;rw[show po+((k*2+1)*4+1)=po+k*8+5 by omega]at e5;rw[show po+((k*2+1)*4+2)=po+k*8+6 by omega]at e6;rw[show po+((k*2+1)*4+3)=po+k*8+7 by omega]at e7;have ek:Hid (xA u p.items=((yt u p.items[k*2]).isNone&&xA u (p.items.drop ((k+1)*2)))):=by rw[Hid,vR,show(k+1)*2=k*2+2 by omega]
  generalize p.items[k*2]'iq=y at *
  generalize p.items[k*2+1]'jh=z at *
  have FM:=Hh (wX hTab hu.arg hy.arg (wr.alloc (.cells #[.int .i64 y.kind,.int .u64 y.n,.slice y1 y.bytes.length y2,.slice y3 y.items.length y4,.int .i64 z.kind,.int .u64 z.n,.slice z1 z.bytes.length z2,.slice z3 z.items.length z4] 100)) (zQ.alloc _));have dL:(k:Int)<(p.items.length/2:Nat):=by omega
  clear pK c0 c1 c2 c3 c4 c5 c6 c7 vR ng TY iq jh;go_wp2_with fail
  refine FM.out.mono ?_
  rintro e w3 ⟨v3,rfl,rt⟩
  have xn:=(yw.alloc yw.size _).trans (rt.below.mono (by have:=yw.size;simp;omega));obtain⟨f1,f2,f3,f4,H3,rfl,_,_⟩:=rt;clear e0 e1 e2 e3 e4 e5 e6 e7 FM u4 u5 u6 u7
  cases jk:yt u y with
  | some q =>
   have E:Hid (zV p u=false):=by rw[Hid,E0.out,ek.out,jk];simp
   have zJ:=mH.trans (xn.mono mH.size);have Rc:=zJ.alloc zJ.size (zi q f1 f2 f3 f4);clear jk;go_wp2_with fail
   go_ret
   exact⟨by rw[E.out];rfl,Rc⟩
  | none =>
  have E:Hid (xA u (p.items.drop ((k+1)*2))=xA u p.items):=by rw[Hid,ek.out,jk];simp
  have sK:=xn.alloc xn.size (zi zm f1 f2 f3 f4);clear jk;go_wp2_with fail
  go_roundw
  case rel=>exact⟨k+1,by omega,by go_num,E.out,sK⟩
  case measure=>simp[intOf];omega
 have E1:Hid (xA u p.items=true):=by
  have TY:=S0.out;rw[List.drop_eq_nil_of_le (by omega)]at ng;rw[Hid,← ng];rfl
 have t0:=vF.cell 0 rfl;have t1:=vF.cell 1 rfl;have t2:=vF.cell 2 rfl;have t3:=vF.cell 3 rfl;have zJ:=mH.trans (yw.mono mH.size);have F5:=Hh (pg hTab hp hu 5 (by omega) (by omega) wr zQ);obtain⟨b5,yN⟩:∃ b,(vO p u 5).isSome=b:=⟨_,rfl⟩
 rw[yN]at F5;have K8:=Hh yN;clear yN ng ri uE yV yw mH;go_wp2_with fail
 refine F5.out.mono ?_
 rintro e w3 ⟨v3,rfl,rt⟩
 have xn:=rt.below;obtain⟨f1,f2,f3,f4,H3,rfl,_,_⟩:=rt;have ut:=(vF.below xn).alloc (zi ((vO p u 5).getD zm) f1 f2 f3 f4);have a7:=(zJ.trans (xn.mono zJ.size)).alloc (zJ.trans (xn.mono zJ.size)).size (zi ((vO p u 5).getD zm) f1 f2 f3 f4);have F6:=Hh (pg hTab hp hu 6 (by omega) (by omega) _ (hH.below a7 (Nat.le_refl _)));obtain⟨b6,xT⟩:∃ b,(vO p u 6).isSome=b:=⟨_,rfl⟩
 rw[xT]at F6;have Od:=Hh xT;clear xT t0 t1 t2 t3 u4 u5 u6 u7 F5 vF zQ xn;have t0:=ut.cell 0 rfl;have t1:=ut.cell 1 rfl;have t2:=ut.cell 2 rfl;have t3:=ut.cell 3 rfl;have u4:=ut.cell 4 rfl;have u5:=ut.cell 5 rfl;have u6:=ut.cell 6 rfl;have u7:=ut.cell 7 rfl;go_wp2_with fail
 refine F6.out.mono ?_
 rintro e w4 ⟨v4,rfl,Su⟩
 have sK:=Su.below;obtain⟨g1,g2,g3,g4,H4,rfl,_,_⟩:=Su;have aI:=(ut.below sK).alloc (zi ((vO p u 6).getD zm) g1 g2 g3 g4);have Ux:=(a7.trans (sK.mono a7.size)).alloc (a7.trans (sK.mono a7.size)).size (zi ((vO p u 6).getD zm) g1 g2 g3 g4);clear t0 t1 t2 t3 u4 u5 u6 u7 F6 ut sK;have E2:Hid (zV p u=(!((yt u (zg 2)).isSome||(b5&&b6))&&oF p)):=by rw[Hid,E0.out,E1.out,Bool.true_and,K8.out,Od.out]
 clear E0 E1 zJ a7;go_upto_region 22 with fail
 go_cut [15,16] (fun s15 s16 wx=>∃ x,s16=.bool x∧(yt u (zg 2)).isSome=x∧Blk wx w.heap.size 28 (zY p a u b)∧Below w.heap.size w wx)
 case first =>
  have hB:=aI.drew;have hb:=Ux.drew;have xw:=(hH.below Ux (Nat.le_refl _)).drew;have zC:=Snap.le.refl H;clear aI Ux
  refine zw 9 (fun w'=>w'.cell? ⟨w.heap.size,4,none⟩=some (.int .i64 u.kind)∧w'.cell? ⟨w.heap.size,5,none⟩=some (.int .u64 u.n)∧w'.cell? ⟨w.heap.size,6,none⟩=some (.slice b.ba u.bytes.length b.bc)∧w'.cell? ⟨w.heap.size,7,none⟩=some (.slice b.ia u.items.length b.ic)) (by kernel_rfl) (⟨hB.cell 4 rfl,hB.cell 5 rfl,hB.cell 6 rfl,hB.cell 7 rfl⟩) (fun zy=>?_)
  refine Tk 0 rfl zy ?_
  refine Tk 1 rfl zy ?_
  refine Ways.two (i:=2) (j:=7) rfl rfl (by kernel_rfl) (fun K hK=>?_) (fun K hK=>?_)
  ·go_simp
   refine(sW 2 (by omega) (by omega) _ xw).mono ?_
   rintro e w7 ⟨v7,rfl,oS⟩
   have hB:=hB.below oS.below;have hb:=hb.trans (oS.below.mono hb.size)
   try have hN:=hN.below oS.below
   obtain⟨sa,sb,sc,sd,H7,rfl,wF,ff⟩:=oS
   try have vV:=wF.none vV tz
   try have tz:=hN.lt
   have xw:=wF.holds;have zC:=zC.trans wF.le
   refine Ko hK ?_ fun zy=>?_
   ·exact⟨hB.cell 4 rfl,hB.cell 5 rfl,hB.cell 6 rfl,hB.cell 7 rfl⟩
   clear hK K
   refine Ways.two (i:=3) (j:=7) rfl rfl (by kernel_rfl) (fun K hK=>?_) (fun K hK=>?_)
   ·go_simp
    refine(wX (hTab.mono zC) (hu.mono zC).arg ff.arg _ xw).mono ?_
    rintro e w8 ⟨v8,rfl,sM⟩
    have hB:=hB.below sM.below;have hb:=hb.trans (sM.below.mono hb.size)
    try have hN:=hN.below sM.below
    obtain⟨ra,rb,rc,rd,H8,rfl,xp,nf⟩:=sM
    try have vV:=xp.none vV tz
    try have tz:=hN.lt
    have xw:=xp.holds;have zC:=zC.trans xp.le
    refine Ko hK ?_ fun zy=>?_
    ·exact⟨hB.cell 4 rfl,hB.cell 5 rfl,hB.cell 6 rfl,hB.cell 7 rfl⟩
    clear hK K
    refine Tk 4 rfl zy ?_
    refine Tk 5 rfl zy ?_
    refine Tk 6 rfl zy ?_
    refine To 7 rfl fun K hK=>?_
    go_simp
    have hN:=yT hb 26 #[.int .i64 0,.int .u64 0,.slice none 0 0,.slice none 0 0];have aN:=hB.lt;have vV:=xw.none_of_ge (Nat.le_refl _)
    try simp only[zj,zu]at hN aN vV
    have hB:=hB.alloc zW;have hb:=hb.alloc hb.size zW;have xw:=xw.alloc zW;have tz:=hN.lt
    refine Ko hK ?_ fun zy=>?_
    ·exact⟨hB.cell 4 rfl,hB.cell 5 rfl,hB.cell 6 rfl,hB.cell 7 rfl⟩
    clear hK K
    refine To 8 rfl fun K hK=>?_
    rw[if_pos (by rfl)]
    refine zk _ _ _ rfl _ _ rfl rfl _ _ hN zp rfl (uf _ _ _ _ rfl rfl rfl rfl) fun w9 hN9 xr=>?_
    have hB:=hB.grown xr (by first | (simp;done) | (simp;omega));have hb:=hb.grown xr hb.size (by rintro q ⟨⟩;first | omega | simp);have xw:=xw.grown xr (by rintro q ⟨⟩;exact vV)
    refine Ko hK ?_ fun zy=>?_
    ·exact⟨hB.cell 4 rfl,hB.cell 5 rfl,hB.cell 6 rfl,hB.cell 7 rfl⟩
    clear hK K
    refine To 9 rfl fun K hK=>?_
    go_simp
    refine Kz hK ?_
    clear hK K
    refine Wd ?_
    go_wp2_with fail
    go_meet
    exact⟨_,rfl,rfl,hB,hb⟩
   go_simp
   have hN:=yT hb 26 #[.int .i64 0,.int .u64 0,.slice none 0 0,.slice none 0 0];have aN:=hB.lt;have vV:=xw.none_of_ge (Nat.le_refl _)
   try simp only[zj,zu]at hN aN vV
   have hB:=hB.alloc zW;have hb:=hb.alloc hb.size zW;have xw:=xw.alloc zW;have tz:=hN.lt
   refine Ko hK ?_ fun zy=>?_
   ·exact⟨hB.cell 4 rfl,hB.cell 5 rfl,hB.cell 6 rfl,hB.cell 7 rfl⟩
   clear hK K
   refine To 3 rfl fun K hK=>?_
   go_simp
   refine(wX (hTab.mono zC) (hu.mono zC).arg ff.arg _ xw).mono ?_
   rintro e w8 ⟨v8,rfl,sM⟩
   have hB:=hB.below sM.below;have hb:=hb.trans (sM.below.mono hb.size)
   try have hN:=hN.below sM.below
   obtain⟨ra,rb,rc,rd,H8,rfl,xp,nf⟩:=sM
   try have vV:=xp.none vV tz
   try have tz:=hN.lt
   have xw:=xp.holds;have zC:=zC.trans xp.le
   refine Ko hK ?_ fun zy=>?_
   ·exact⟨hB.cell 4 rfl,hB.cell 5 rfl,hB.cell 6 rfl,hB.cell 7 rfl⟩
   clear hK K
   refine Tk 4 rfl zy ?_
   refine Tk 5 rfl zy ?_
   refine Tk 6 rfl zy ?_
   refine To 8 rfl fun K hK=>?_
   rw[if_pos (by rfl)]
   refine zk _ _ _ rfl _ _ rfl rfl _ _ hN zp rfl (uf _ _ _ _ rfl rfl rfl rfl) fun w9 hN9 xr=>?_
   have hB:=hB.grown xr (by first | (simp;done) | (simp;omega));have hb:=hb.grown xr hb.size (by rintro q ⟨⟩;first | omega | simp);have xw:=xw.grown xr (by rintro q ⟨⟩;exact vV)
   refine Ko hK ?_ fun zy=>?_
   ·exact⟨hB.cell 4 rfl,hB.cell 5 rfl,hB.cell 6 rfl,hB.cell 7 rfl⟩
   clear hK K
   refine To 9 rfl fun K hK=>?_
   go_simp
   refine Kz hK ?_
   clear hK K
   refine Wd ?_
   go_wp2_with fail
   go_meet
   exact⟨_,rfl,rfl,hB,hb⟩
  go_simp
  have hN:=yT hb 26 #[.int .i64 0,.int .u64 0,.slice none 0 0,.slice none 0 0];have aN:=hB.lt;have vV:=xw.none_of_ge (Nat.le_refl _)
  try simp only[zj,zu]at hN aN vV
  have hB:=hB.alloc zW;have hb:=hb.alloc hb.size zW;have xw:=xw.alloc zW;have tz:=hN.lt
  refine Ko hK ?_ fun zy=>?_
  ·exact⟨hB.cell 4 rfl,hB.cell 5 rfl,hB.cell 6 rfl,hB.cell 7 rfl⟩
  clear hK K
  refine To 2 rfl fun K hK=>?_
  go_simp
  refine(sW 2 (by omega) (by omega) _ xw).mono ?_
  rintro e w7 ⟨v7,rfl,oS⟩
  have hB:=hB.below oS.below;have hb:=hb.trans (oS.below.mono hb.size)
  try have hN:=hN.below oS.below
  obtain⟨sa,sb,sc,sd,H7,rfl,wF,ff⟩:=oS
  try have vV:=wF.none vV tz
  try have tz:=hN.lt
  have xw:=wF.holds;have zC:=zC.trans wF.le
  refine Ko hK ?_ fun zy=>?_
  ·exact⟨hB.cell 4 rfl,hB.cell 5 rfl,hB.cell 6 rfl,hB.cell 7 rfl⟩
  clear hK K
  refine To 3 rfl fun K hK=>?_
  go_simp
  refine(wX (hTab.mono zC) (hu.mono zC).arg ff.arg _ xw).mono ?_
  rintro e w8 ⟨v8,rfl,sM⟩
  have hB:=hB.below sM.below;have hb:=hb.trans (sM.below.mono hb.size)
  try have hN:=hN.below sM.below
  obtain⟨ra,rb,rc,rd,H8,rfl,xp,nf⟩:=sM
  try have vV:=xp.none vV tz
  try have tz:=hN.lt
  have xw:=xp.holds;have zC:=zC.trans xp.le
  refine Ko hK ?_ fun zy=>?_
  ·exact⟨hB.cell 4 rfl,hB.cell 5 rfl,hB.cell 6 rfl,hB.cell 7 rfl⟩
  clear hK K
  refine Tk 4 rfl zy ?_
  refine Tk 5 rfl zy ?_
  refine Tk 6 rfl zy ?_
  refine To 8 rfl fun K hK=>?_
  rw[if_pos (by rfl)]
  refine zk _ _ _ rfl _ _ rfl rfl _ _ hN zp rfl (uf _ _ _ _ rfl rfl rfl rfl) fun w9 hN9 xr=>?_
  have hB:=hB.grown xr (by first | (simp;done) | (simp;omega));have hb:=hb.grown xr hb.size (by rintro q ⟨⟩;first | omega | simp);have xw:=xw.grown xr (by rintro q ⟨⟩;exact vV)
  refine Ko hK ?_ fun zy=>?_
  ·exact⟨hB.cell 4 rfl,hB.cell 5 rfl,hB.cell 6 rfl,hB.cell 7 rfl⟩
  clear hK K
  refine To 9 rfl fun K hK=>?_
  go_simp
  refine Kz hK ?_
  clear hK K
  refine Wd ?_
  go_wp2_with fail
  go_meet
  exact⟨_,rfl,rfl,hB,hb⟩
 case rest =>
 obtain⟨cu,rfl,aQ,mM,yN⟩:=hcut;clear aI Ux;have EB:Hid ((cu||(b5&&b6))=true→zV p u=false):=by intro h;rw[E2.out,aQ,h];rfl
 have EG:Hid ((cu||(b5&&b6))=false→zV p u=oF p):=by intro h;rw[E2.out,aQ,h];simp
 clear aQ E2
 by_cases hq:(cu||(b5&&b6))=true
 ·have E:=Hh (EB.out hq);have i7:cu=true∨(cu=false∧b5=true∧b6=true):=by cases cu <;> cases b5 <;> cases b6 <;> simp_all
  clear hq EB EG
  rcases i7 with rfl | ⟨rfl,rfl,rfl⟩
  all_goals
   go_wp2_with fail
   go_ret
   exact⟨by rw[E.out];rfl,yN⟩
 have E:=Hh (EG.out (by simpa using hq));have i7:cu=false∧(b5=false∨(b5=true∧b6=false)):=by cases cu <;> cases b5 <;> cases b6 <;> simp_all
 clear hq EB EG;go_upto_region 23 with fail
 go_cut [94] (fun s94 wx=>s94=.bool false∧wc=wx)
 case first =>
  obtain⟨rfl,rfl | ⟨rfl,rfl⟩⟩:=i7
  all_goals
   go_wp2_with fail
   go_meet
   exact⟨rfl,rfl⟩
 case rest =>
 obtain⟨rfl,rfl⟩:=hcut;clear i7;go_upto_region 25 with fail
 go_cut [17,18] (fun s17 s18 wx=>∃ N ra rb rc rd Hx x,s17=.pointer (some ⟨N,0,none⟩)∧s18=.bool x∧(yt p (zg 2)).isSome=x∧Blk wx N 26 #[.int .i64 ((yt p (zg 2)).getD zm).kind,.int .u64 ((yt p (zg 2)).getD zm).n,.slice ra ((yt p (zg 2)).getD zm).bytes.length rb,.slice rc ((yt p (zg 2)).getD zm).items.length rd]∧
  Blk wx w.heap.size 28 (zY p a u b)∧Below w.heap.size w wx∧Holds wx Hx∧H.le Hx∧IsItem Hx ra rb rc rd ((yt p (zg 2)).getD zm))
 case first =>
  have hB:=mM.drew;have hb:=yN.drew;have xw:=(hH.below yN (Nat.le_refl _)).drew;have zC:=Snap.le.refl H;clear mM yN
  refine zw 9 (fun w'=>w'.cell? ⟨w.heap.size,0,none⟩=some (.int .i64 p.kind)∧w'.cell? ⟨w.heap.size,1,none⟩=some (.int .u64 p.n)∧w'.cell? ⟨w.heap.size,2,none⟩=some (.slice a.ba p.bytes.length a.bc)∧w'.cell? ⟨w.heap.size,3,none⟩=some (.slice a.ia p.items.length a.ic)) (by kernel_rfl) (⟨hB.cell 0 rfl,hB.cell 1 rfl,hB.cell 2 rfl,hB.cell 3 rfl⟩) (fun zy=>?_)
  refine Tk 0 rfl zy ?_
  refine Tk 1 rfl zy ?_
  refine Ways.two (i:=2) (j:=7) rfl rfl (by kernel_rfl) (fun K hK=>?_) (fun K hK=>?_)
  ·go_simp
   refine(sW 2 (by omega) (by omega) _ xw).mono ?_
   rintro e w7 ⟨v7,rfl,oS⟩
   have hB:=hB.below oS.below;have hb:=hb.trans (oS.below.mono hb.size)
   try have hN:=hN.below oS.below
   obtain⟨sa,sb,sc,sd,H7,rfl,wF,ff⟩:=oS
   try have vV:=wF.none vV tz
   try have tz:=hN.lt
   have xw:=wF.holds;have zC:=zC.trans wF.le
   refine Ko hK ?_ fun zy=>?_
   ·exact⟨hB.cell 0 rfl,hB.cell 1 rfl,hB.cell 2 rfl,hB.cell 3 rfl⟩
   clear hK K
   refine Ways.two (i:=3) (j:=7) rfl rfl (by kernel_rfl) (fun K hK=>?_) (fun K hK=>?_)
   ·go_simp
    refine(wX (hTab.mono zC) (hp.mono zC).arg ff.arg _ xw).mono ?_
    rintro e w8 ⟨v8,rfl,sM⟩
    have hB:=hB.below sM.below;have hb:=hb.trans (sM.below.mono hb.size)
    try have hN:=hN.below sM.below
    obtain⟨ra,rb,rc,rd,H8,rfl,xp,nf⟩:=sM
    try have vV:=xp.none vV tz
    try have tz:=hN.lt
    have xw:=xp.holds;have zC:=zC.trans xp.le
    refine Ko hK ?_ fun zy=>?_
    ·exact⟨hB.cell 0 rfl,hB.cell 1 rfl,hB.cell 2 rfl,hB.cell 3 rfl⟩
    clear hK K
    refine Tk 4 rfl zy ?_
    refine Tk 5 rfl zy ?_
    refine Tk 6 rfl zy ?_
    refine To 7 rfl fun K hK=>?_
    go_simp
    have hN:=yT hb 26 #[.int .i64 0,.int .u64 0,.slice none 0 0,.slice none 0 0];have aN:=hB.lt;have vV:=xw.none_of_ge (Nat.le_refl _)
    try simp only[zj,zu]at hN aN vV
    have hB:=hB.alloc zW;have hb:=hb.alloc hb.size zW;have xw:=xw.alloc zW;have tz:=hN.lt
    refine Ko hK ?_ fun zy=>?_
    ·exact⟨hB.cell 0 rfl,hB.cell 1 rfl,hB.cell 2 rfl,hB.cell 3 rfl⟩
    clear hK K
    refine To 8 rfl fun K hK=>?_
    rw[if_pos (by rfl)]
    refine zk _ _ _ rfl _ _ rfl rfl _ _ hN zp rfl (uf _ _ _ _ rfl rfl rfl rfl) fun w9 hN9 xr=>?_
    have hB:=hB.grown xr (by first | (simp;done) | (simp;omega));have hb:=hb.grown xr hb.size (by rintro q ⟨⟩;first | omega | simp);have xw:=xw.grown xr (by rintro q ⟨⟩;exact vV)
    refine Ko hK ?_ fun zy=>?_
    ·exact⟨hB.cell 0 rfl,hB.cell 1 rfl,hB.cell 2 rfl,hB.cell 3 rfl⟩
    clear hK K
    refine To 9 rfl fun K hK=>?_
    go_simp
    refine Kz hK ?_
    clear hK K
    refine Wd ?_
    go_wp2_with fail
    go_meet
    exact⟨_,ra,rb,rc,rd,_,_,rfl,rfl,rfl,hN9,hB,hb,xw,zC,nf⟩
   go_simp
   have hN:=yT hb 26 #[.int .i64 0,.int .u64 0,.slice none 0 0,.slice none 0 0];have aN:=hB.lt;have vV:=xw.none_of_ge (Nat.le_refl _)
   try simp only[zj,zu]at hN aN vV
   have hB:=hB.alloc zW;have hb:=hb.alloc hb.size zW;have xw:=xw.alloc zW;have tz:=hN.lt
   refine Ko hK ?_ fun zy=>?_
   ·exact⟨hB.cell 0 rfl,hB.cell 1 rfl,hB.cell 2 rfl,hB.cell 3 rfl⟩
   clear hK K
   refine To 3 rfl fun K hK=>?_
   go_simp
   refine(wX (hTab.mono zC) (hp.mono zC).arg ff.arg _ xw).mono ?_
   rintro e w8 ⟨v8,rfl,sM⟩
   have hB:=hB.below sM.below;have hb:=hb.trans (sM.below.mono hb.size)
   try have hN:=hN.below sM.below
   obtain⟨ra,rb,rc,rd,H8,rfl,xp,nf⟩:=sM
   try have vV:=xp.none vV tz
   try have tz:=hN.lt
   have xw:=xp.holds;have zC:=zC.trans xp.le
   refine Ko hK ?_ fun zy=>?_
   ·exact⟨hB.cell 0 rfl,hB.cell 1 rfl,hB.cell 2 rfl,hB.cell 3 rfl⟩
   clear hK K
   refine Tk 4 rfl zy ?_
   refine Tk 5 rfl zy ?_
   refine Tk 6 rfl zy ?_
   refine To 8 rfl fun K hK=>?_
   rw[if_pos (by rfl)]
   refine zk _ _ _ rfl _ _ rfl rfl _ _ hN zp rfl (uf _ _ _ _ rfl rfl rfl rfl) fun w9 hN9 xr=>?_
   have hB:=hB.grown xr (by first | (simp;done) | (simp;omega));have hb:=hb.grown xr hb.size (by rintro q ⟨⟩;first | omega | simp);have xw:=xw.grown xr (by rintro q ⟨⟩;exact vV)
   refine Ko hK ?_ fun zy=>?_
   ·exact⟨hB.cell 0 rfl,hB.cell 1 rfl,hB.cell 2 rfl,hB.cell 3 rfl⟩
   clear hK K
   refine To 9 rfl fun K hK=>?_
   go_simp
   refine Kz hK ?_
   clear hK K
   refine Wd ?_
   go_wp2_with fail
   go_meet
   exact⟨_,ra,rb,rc,rd,_,_,rfl,rfl,rfl,hN9,hB,hb,xw,zC,nf⟩
  go_simp
  have hN:=yT hb 26 #[.int .i64 0,.int .u64 0,.slice none 0 0,.slice none 0 0];have aN:=hB.lt;have vV:=xw.none_of_ge (Nat.le_refl _)
  try simp only[zj,zu]at hN aN vV
  have hB:=hB.alloc zW;have hb:=hb.alloc hb.size zW;have xw:=xw.alloc zW;have tz:=hN.lt
  refine Ko hK ?_ fun zy=>?_
  ·exact⟨hB.cell 0 rfl,hB.cell 1 rfl,hB.cell 2 rfl,hB.cell 3 rfl⟩
  clear hK K
  refine To 2 rfl fun K hK=>?_
  go_simp
  refine(sW 2 (by omega) (by omega) _ xw).mono ?_
  rintro e w7 ⟨v7,rfl,oS⟩
  have hB:=hB.below oS.below;have hb:=hb.trans (oS.below.mono hb.size)
  try have hN:=hN.below oS.below
  obtain⟨sa,sb,sc,sd,H7,rfl,wF,ff⟩:=oS
  try have vV:=wF.none vV tz
  try have tz:=hN.lt
  have xw:=wF.holds;have zC:=zC.trans wF.le
  refine Ko hK ?_ fun zy=>?_
  ·exact⟨hB.cell 0 rfl,hB.cell 1 rfl,hB.cell 2 rfl,hB.cell 3 rfl⟩
  clear hK K
  refine To 3 rfl fun K hK=>?_
  go_simp
  refine(wX (hTab.mono zC) (hp.mono zC).arg ff.arg _ xw).mono ?_
  rintro e w8 ⟨v8,rfl,sM⟩
  have hB:=hB.below sM.below;have hb:=hb.trans (sM.below.mono hb.size)
  try have hN:=hN.below sM.below
  obtain⟨ra,rb,rc,rd,H8,rfl,xp,nf⟩:=sM
  try have vV:=xp.none vV tz
  try have tz:=hN.lt
  have xw:=xp.holds;have zC:=zC.trans xp.le
  refine Ko hK ?_ fun zy=>?_
  ·exact⟨hB.cell 0 rfl,hB.cell 1 rfl,hB.cell 2 rfl,hB.cell 3 rfl⟩
  clear hK K
  refine Tk 4 rfl zy ?_
  refine Tk 5 rfl zy ?_
  refine Tk 6 rfl zy ?_
  refine To 8 rfl fun K hK=>?_
  rw[if_pos (by rfl)]
  refine zk _ _ _ rfl _ _ rfl rfl _ _ hN zp rfl (uf _ _ _ _ rfl rfl rfl rfl) fun w9 hN9 xr=>?_
  have hB:=hB.grown xr (by first | (simp;done) | (simp;omega));have hb:=hb.grown xr hb.size (by rintro q ⟨⟩;first | omega | simp);have xw:=xw.grown xr (by rintro q ⟨⟩;exact vV)
  refine Ko hK ?_ fun zy=>?_
  ·exact⟨hB.cell 0 rfl,hB.cell 1 rfl,hB.cell 2 rfl,hB.cell 3 rfl⟩
  clear hK K
  refine To 9 rfl fun K hK=>?_
  go_simp
  refine Kz hK ?_
  clear hK K
  refine Wd ?_
  go_wp2_with fail
  go_meet
  exact⟨_,ra,rb,rc,rd,_,_,rfl,rfl,rfl,hN9,hB,hb,xw,zC,nf⟩
 case rest =>
 obtain⟨N,ra,rb,rc,rd,Hx,xx,rfl,rfl,Tl,hN,WF,xT,zQ,OD,fq⟩:=hcut;clear mM yN
 cases hf:yt p (zg 2) with
 | none =>
  have E3:Hid (zV p u=true):=by rw[Hid,E.out,oF,hf]
  rw[hf]at Tl;have Tl:xx=false:=Tl.symm;subst Tl;clear hf hN fq;go_wp2_with fail
  go_ret
  exact⟨by rw[E3.out];rfl,xT⟩
 | some c =>
 have E3:Hid (zV p u=((c.items.all fun x=>(yt p x).isSome)&&c.kind==4&&decide (0<c.items.length))):=by rw[Hid,E.out,oF,hf]
 rw[hf]at hN fq Tl;have Tl:xx=true:=Tl.symm;subst Tl
 simp only[Option.getD_some]at hN fq
 have n3:=hN.cell 3 rfl;clear hf E;go_upto_region 29 with fail
 go_loopw [107] (fun vi wr=>∃ k:Nat,k≤c.items.length∧vi=.int .i64 k∧((c.items.take k).all fun x=>(yt p x).isSome)=true∧Below wc.heap.size wc wr) (fun vi _=>c.items.length-(intOf vi).toNat)
 case atStart=>exact⟨0,Nat.zero_le _,rfl,by simp,Below.refl _ _⟩
 case round =>
 obtain⟨k,hk,rfl,vD,yw⟩:=hrel;have vF:=WF.below yw;have Hm:=hN.below yw
 by_cases zB:k<c.items.length
 ·obtain⟨ib,io,tf,xI⟩:=fq.items (by omega);obtain⟨y1,y2,y3,y4,q0,q1,q2,q3,hy⟩:=xI.get k zB;subst tf;have yD:Holds wr Hx:=zQ.below yw (Nat.le_refl _);have p0:=yD.cell q0;have p1:=yD.cell q1;have p2:=yD.cell q2;have p3:=yD.cell q3;have u0:=vF.cell 0 rfl;have u1:=vF.cell 1 rfl;have u2:=vF.cell 2 rfl;have u3:=vF.cell 3 rfl;have Je:=vF.lt;have tX:(c.items.all fun x=>(yt p x).isSome)=true→(yt p c.items[k]).isSome=true:=fun h=>List.all_eq_true.1 h _ (List.getElem_mem zB)
  have T8:(yt p c.items[k]).isSome=true→((c.items.take (k+1)).all fun x=>(yt p x).isSome)=true:=fun h=>by
   rw[List.take_succ_eq_append_getElem zB,List.all_append,vD]
   simp[h]
  have HS:=Hh tX;have HK:Hid (k+1≤c.items.length):=zB;have Fd:=fq.bounds;have OC:(k:Int)+1≤9223372036854775807:=by omega
  clear Fd;have HN:=Hh T8;clear tX T8 vD
  generalize c.items[k]'zB=y at *
  have FM:=Hh (wX (hTab.mono OD) (hp.mono OD).arg hy.arg (wr.alloc (zi y y1 y2 y3 y4)) (yD.alloc _));clear q0 q1 q2 q3 xI;go_wp2_with fail
  refine FM.out.mono ?_
  rintro e w9 ⟨v9,rfl,Ik⟩
  have nV:=(yw.alloc yw.size _).trans (Ik.below.mono (by have:=yw.size;simp;omega));obtain⟨f1,f2,f3,f4,H9,rfl,_,_⟩:=Ik;clear p0 p1 p2 p3 u0 u1 u2 u3 FM
  cases jk:yt p y with
  | none =>
   have E:Hid (zV p u=false):=by
    rw[Hid,E3.out]
    cases ha:(c.items.all fun x=>(yt p x).isSome) with
    | false=>simp
    | true =>
    have:=HS.out ha;rw[jk]at this
    cases this
   have zJ:=(xT.trans (nV.mono xT.size))
   have Rc:=zJ.alloc zJ.size (zi zm f1 f2 f3 f4);clear jk;go_wp2_with fail
   go_ret
   exact⟨by rw[E.out];rfl,Rc⟩
  | some q =>
  have E:Hid (((c.items.take (k+1)).all fun x=>(yt p x).isSome)=true):=HN.out (by rw[jk];rfl);have rC:=nV.alloc nV.size (zi q f1 f2 f3 f4);clear jk;go_wp2_with fail
  go_roundw
  case rel=>exact⟨k+1,HK.out,by go_num,E.out,rC⟩
  case measure=>have:=HK.out;simp[intOf];omega
 have rO:k=c.items.length:=by omega
 subst rO;rw[List.take_length]at vD;have E:Hid (zV p u=(c.kind==4&&decide (0<c.items.length))):=by rw[Hid,E3.out,vD,Bool.true_and]
 have m0:=Hm.cell 0 rfl;have m3:=Hm.cell 3 rfl;have zJ:=xT.trans (yw.mono xT.size);clear vD E3 n3
 by_cases h4:c.kind=4
 ·have k4:(c.kind==4)=true:=by simp[h4]
  have E5:Hid (zV p u=decide (0<c.items.length)):=by rw[Hid,E.out,k4,Bool.true_and]
  clear h4 E;go_wp2_with fail
  all_goals
   go_ret
   exact⟨by rw[E5.out];rfl,zJ⟩
 have k4:(c.kind==4)=false:=by simp[h4]
 have E5:Hid (zV p u=false):=by rw[Hid,E.out,k4,Bool.false_and]
 clear h4 E;go_wp2_with fail
 go_ret
 exact⟨by rw[E5.out];rfl,zJ⟩
def ee (w:World) (p u:Itm) (e:Ending) (w':World):Prop :=
 (zV p u=false∧e=.returned (.tuple #[.slice none 0 0,.int .i64 1])∧Below w.heap.size w w')∨
 (zV p u=true∧∃ r,e=.returned (.tuple #[r,.int .i64 0])∧Fresh w (wg p) r w')
theorem rQ {H:Snap}(hTab:Tabs H) {p u:Itm}{a b:Ad}(hp:IsItem H a.ba a.bc a.ia a.ic p) (hu:IsItem H b.ba b.bc b.ia b.ic u) (w:World) (hH:Holds w H) :
  Calls Tryz.prog 48 #[.agg (zY p a u b)] w (ee w p u):=by
 have hB:=Blk.new w 28 (zY p a u b);have xz:=zq w (.cells (zY p a u b) 28);have Vd:=hH.alloc (.cells (zY p a u b) 28);have V:=Hh (tB hTab hp hu _ Vd)
 cases hv:zV p u with
 | false =>
  rw[hv]at V;have HV:=Hh hv;clear hv;go_enter Tryz.func48,Tryz.ntmps48
  go_wp2_with fail
  refine V.out.mono ?_
  rintro e w1 ⟨rfl,zH⟩
  have zJ:=xz.trans (zH.mono xz.size);go_wp2_with fail
  go_ret2
  exact .inl ⟨HV.out,rfl,zJ⟩
 | true =>
 rw[hv]at V;have HV:=Hh hv;have Yy:=(yZ hv).1;have fg:=(wR Yy).2.1;clear hv;go_enter Tryz.func48,Tryz.ntmps48
 go_wp2_with fail
 refine V.out.mono ?_
 rintro e w1 ⟨rfl,zH⟩
 have yO:=hB.below zH;have zJ:=xz.trans (zH.mono xz.size);have c0:=yO.cell 0 rfl;have c1:=yO.cell 1 rfl;have c2:=yO.cell 2 rfl;have c3:=yO.cell 3 rfl
 by_cases h0:p.items.length=0
 ·have E:Hid (wg p=[]):=by rw[Hid,wg,if_pos h0]
  have k0:((p.items.length:Int)==0)=true:=by simp;simpa using h0
  clear h0;go_wp2_with fail
  go_ret2
  exact .inr ⟨HV.out,_,rfl,by rw[E.out];exact⟨OwnB.nil _ _,zJ⟩⟩
 have E:Hid (wg p=zh p):=by rw[Hid,wg,if_neg h0]
 have k0:((p.items.length:Int)==0)=false:=by rw[beq_eq_false_iff_ne];omega
 have EN:=Hh (pd hTab hp.arg w1 (hH.below zJ (Nat.le_refl _)));have WC:=Hh Yy;clear h0 Yy;go_wp2_with fail
 refine EN.out.mono ?_
 rintro e w2 (⟨hf,_⟩ | ⟨_,r,rfl,hfr⟩)
 ·rw[WC.out]at hf;cases hf
 have R:Hid (Fresh w (wg p) r w2):=by
  rw[Hid,E.out]
  exact⟨hfr.own.more zJ.size,zJ.trans (hfr.2.mono zJ.size)⟩
 clear hfr;go_wp2_with fail
 go_ret2
 exact .inr ⟨HV.out,_,rfl,R.out⟩
structure IsRows (H:Snap) (A:Option Addr) (c:Nat) (ls:List (List UInt8)):Prop where
 le:ls.length≤c
 max:c≤9223372036854775807
 rows:0<ls.length→∃ b off,A=some ⟨b,off,none⟩∧∀ j (hj:j<ls.length),∃ Aj cj,H.cell? ⟨b,off+j,none⟩=some (.slice Aj ls[j].length cj)∧IsBytes H Aj cj ls[j]
theorem IsRows.mono {H K:Snap}{A:Option Addr}{c:Nat}{ls:List (List UInt8)}(h:IsRows H A c ls) (hl:H.le K):IsRows K A c ls :=
 ⟨h.le,h.max,fun h0=>by
  obtain⟨b,off,e,hr⟩:=h.rows h0
  exact⟨b,off,e,fun j hj=>by
   obtain⟨Aj,cj,h1,h2⟩:=hr j hj
   exact⟨Aj,cj,hl.cell h1,h2.mono hl⟩⟩⟩
abbrev z8 (l:List UInt8):Itm:=.mk 2 0 l []
def we (ctx:List UInt8) (p:Itm) (ext:List UInt8) (pay:List (List UInt8)):Itm:=.mk 4 0 [] ([.mk 3 0 ctx [],z8 (wg p),z8 ext]++pay.map z8)
def yj (ctx:List UInt8) (p u:Itm) (ext:List UInt8) (pay:List (List UInt8)):Int :=
 if zV p u=false then 1 else if Lib.validD ctx=false then 5 else if zX (we ctx p ext pay)=false then 8 else 0
def i8 (w:World) (ctx:List UInt8) (p u:Itm) (ext:List UInt8) (pay:List (List UInt8)) (e:Ending) (w':World):Prop :=
 ∃ r l,e=.returned (.tuple #[r,.int .i64 (yj ctx p u ext pay)])∧Fresh w l r w'∧l=if yj ctx p u ext pay=0 then zh (we ctx p ext pay) else []
theorem OwnI.lit {w:World}{H:Snap}{l:List Itm}{cs:List Value}(h:ItemsC H cs l) (base:Nat) (hb:base≤w.heap.size) (hm:l.length≤4096) :
  OwnI (w.alloc (.cells cs.toArray 26)) base (.slice (some ⟨w.heap.size,0,none⟩) l.length l.length) H l:=by
 refine⟨cs,h,h.len,.inr ⟨w.heap.size,l.length,cs.toArray,rfl,hb,heap_alloc_new w _,Nat.le_refl _,by simp only[maxLen];omega, ?_, ?_⟩⟩
 ·simpa using h.len
 rw[← h.len];simp
theorem sQ {H:Snap}(hTab:Tabs H) {p u:Itm}{a b:Ad}(hp:IsItem H a.ba a.bc a.ia a.ic p) (hu:IsItem H b.ba b.bc b.ia b.ic u) (s:ByteArray) (hs:s.size≤1048576)
  {EA:Option Addr} {ec:Nat} {ext:List UInt8} (hext:IsBytes H EA ec ext) (xI:ext.length≤1048576) {PA:Option Addr} {pc:Nat} {pay:List (List UInt8)} (hpay:IsRows H PA pc pay) (ng:pay.length≤1048576) (hpb:∀ l∈pay,l.length≤1048576) (w:World) (hH:Holds w H) :
  Calls Tryz.prog 20 #[.string s,.agg (zY p a u b),.slice EA ext.length ec,.slice PA pay.length pc] w (i8 w s.data.toList p u ext pay):=by
 have xz:=zq w (.cells (zY p a u b) 28);have di:=(Grows.refl hH).alloc (.cells (zY p a u b) 28);have P:=Hh (rQ hTab hp hu _ di.holds);go_enter Tryz.func20,Tryz.ntmps20
 go_wp2_with fail
 refine P.out.mono ?_
 rintro e w1 (⟨hv,rfl,zH⟩ | ⟨hv,r,rfl,hf⟩)
 ·have E:Hid (yj s.data.toList p u ext pay=1):=by rw[Hid,yj,if_pos hv]
  have zJ:=xz.trans (zH.mono xz.size);clear hv;go_wp2_with fail
  go_ret2
  exact⟨_,[],by rw[E.out];rfl,⟨OwnB.nil _ _,zJ⟩,by rw[E.out];rfl⟩
 obtain⟨RA,rc,rfl,_⟩:=hf.own.form;have U:=Hh (utf8_ValidString hTab w1 (di.holds.below hf.2 (Nat.le_refl _)) s (by omega))
 cases hc:Lib.validD s.data.toList with
 | false =>
  have E:Hid (yj s.data.toList p u ext pay=5):=by rw[Hid,yj,if_neg (by simp[hv]),if_pos hc]
  rw[hc]at U;clear hv hc;go_wp2_with fail
  refine U.out.mono ?_
  rintro e w2 ⟨rfl,zG⟩
  have zJ:=(xz.trans (hf.2.mono xz.size)).trans (zG.mono (Nat.le_trans xz.size hf.2.size));go_wp2_with fail
  go_ret2
  exact⟨_,[],by rw[E.out];rfl,⟨OwnB.nil _ _,zJ⟩,by rw[E.out];rfl⟩
 | true =>
 rw[hc]at U;have dP:=Hh (And.intro hv hc);clear hv hc;go_wp2_with fail
 refine U.out.mono ?_
 rintro e w2 ⟨rfl,zG⟩
 have YF:(wg p).length≤1099511627776:=by
  have:=(vK (yZ dP.out.1).1).2.2
  unfold wg
  split
  ·simp
  omega
 have xR:=(di.below_ hf.2).below_ zG;have dz:=(hf.own.src).below zG;obtain⟨x3,jV⟩:∃ x,Itm.mk 3 0 s.data.toList []=x:=⟨_,rfl⟩
 obtain⟨x4,Vv⟩:∃ x,Itm.mk 2 0 (wg p) []=x:=⟨_,rfl⟩
 obtain⟨x5,Vw⟩:∃ x,Itm.mk 2 0 ext []=x:=⟨_,rfl⟩
 have T:=Hh (Z8 s (by omega) w2 xR.holds);rw[jV]at T;go_wp2_with fail
 refine T.out.mono ?_
 rintro e w3 ⟨v3,rfl,ta,tb,tc,td,H3,rfl,ye,rp⟩
 have B1:=Hh (sR (c:=rc) (A:=RA) (l:=wg p) rfl YF w3 (dz.below ye.below) ye.holds);rw[Vv]at B1;clear T;go_wp2_with fail
 refine B1.out.mono ?_
 rintro e w4 ⟨v4,rfl,pa',pb',pc',pd',H4,rfl,yJ,qK⟩
 have B2:=Hh (sR (c:=ec) (A:=EA) (l:=ext) rfl (by omega) w4 (Src.of_row (hext.row.mono (ye.le.trans yJ.le)) yJ.holds) yJ.holds);rw[Vw]at B2;clear B1;go_wp2_with fail
 refine B2.out.mono ?_
 rintro e w5 ⟨v5,rfl,ea',eb',ec',ed',H5,rfl,wn,Vo⟩
 have hG:=((xR.trans ye).trans yJ).trans wn
 have WQ:ItemsC H5 (zZ x3 ta tb tc td++(zZ x4 pa' pb' pc' pd'++zZ x5 ea' eb' ec' ed')) [x3,x4,x5] :=
  (ItemsC.one (rp.mono (yJ.le.trans wn.le))).app ((ItemsC.one (qK.mono wn.le)).app (ItemsC.one Vo))
 have hO:=OwnI.lit (w:=w5) WQ (w.heap.size+1) (by have:=hf.2.size;have:=zG.size;have:=ye.size;have:=yJ.size;have:=wn.size;simp at *;omega) (by simp);have QF:=hG.alloc (.cells (zZ x3 ta tb tc td++(zZ x4 pa' pb' pc' pd'++zZ x5 ea' eb' ec' ed')).toArray 26);have Tf:H5 w5.heap.size=none:=wn.holds.none_of_ge (Nat.le_refl _);clear xR ye yJ wn rp qK Vo hG B2 dz hf zG WQ;go_upto_region 8 with fail
 go_loopw [12,38] (fun v12 vi wr=>∃ (k:Nat) (Hr:Snap) (VA:Option Addr) (vc:Nat),k≤pay.length∧vi=.int .i64 k∧v12=.slice VA (3+k) vc∧Grows w H wr Hr∧
  OwnI wr (w.heap.size+1) (.slice VA (3+k) vc) Hr ([x3,x4,x5]++(pay.take k).map z8)∧(∀ g,(Value.slice VA (3+k) vc).ownBlock=some g→Hr g=none)) (fun _ vi _=>pay.length-(intOf vi).toNat)
 case atStart=>exact⟨0,H5,_,_,Nat.zero_le _,rfl,rfl,QF,hO,by intro g hg;simp[Value.ownBlock]at hg;subst hg;exact Tf⟩
 case round =>
 obtain⟨k,Hr,VA,vc,hk,rfl,rfl,uw,wG,nZ⟩:=hrel
 by_cases zB:k<pay.length
 ·obtain⟨rb,ro,LU,oM⟩:=hpay.rows (by omega);obtain⟨Aj,cj,q0,Vk⟩:=oM k zB;subst LU;have p0:=(uw.holds.mono uw.le).cell q0;have Fx:=hpb pay[k] (List.getElem_mem zB);obtain⟨x6,Pu⟩:∃ x,Itm.mk 2 0 pay[k] []=x:=⟨_,rfl⟩
  have B:=Hh (sR (c:=cj) (A:=Aj) (l:=pay[k]) rfl (by omega) wr (Src.of_row (Vk.row.mono uw.le) uw.holds) uw.holds);rw[Pu]at B;clear q0 oM;go_wp2_with fail
  refine B.out.mono ?_
  rintro e w6 ⟨v6,rfl,ja,jb,jc,jd,H6,rfl,xH,jg⟩
  have rq:=((wG.below xH.below).mono xH.le).alloc (.cells (zZ x6 ja jb jc jd).toArray 26);have wF:=(uw.trans xH).alloc (.cells (zZ x6 ja jb jc jd).toArray 26);have mO:∀ g,(Value.slice VA (3+k) vc).ownBlock=some g→H6 g=none:=fun g hg=>xH.none (nZ g hg) (wG.lt g hg).2
  clear p0 B;go_wp2_with (at_builtin;refine zO ?_)
  refine xU rfl (.tmp 42) (.tmp 45) rfl (w.heap.size+1) (.slice VA (3+k) vc) H6 _ rfl rq _ 1 _ (zZ x6 ja jb jc jd) [x6] rfl rfl (ItemsC.one jg) (Src.new _ _ _ _ rfl _ rfl) (by simp;omega) (by have:=wF.size;have:=xH.size;have:=uw.size;simp at *;omega) fun v' w7 wj xj hat7=>?_
  obtain⟨VA',vc',rfl,_⟩:=wj.form;have xp:=wF.grownRow mO (fun g hg=>by have:=(rq.lt g hg).1;omega) xj
  have lh:∀ g,(Value.slice VA' ([x3,x4,x5]++(pay.take k).map z8++[x6]).length vc').ownBlock=some g→H6 g=none:=fun g hg=>by
   rcases hat7 with h | ⟨g',h1,h2⟩
   ·exact mO g (by rw[← h,hg])
   rw[hg]at h1;injection h1 with h1
   subst h1
   exact wF.hidden h2
  have pB:([x3,x4,x5]++(pay.take k).map z8++[x6])=[x3,x4,x5]++(pay.take (k+1)).map z8:=by
   rw[List.take_succ_eq_append_getElem zB,List.map_append,← Pu]
   simp
  have xo:([x3,x4,x5]++(pay.take (k+1)).map z8).length=3+(k+1):=by simp;omega
  rw[pB,xo]at wj lh;rw[pB,xo];have OC:(k:Int)+1≤9223372036854775807:=by omega
  clear rq xj hat7 mO wF wG uw xH jg Vk;go_wp2_with fail
  go_roundw
  case rel=>exact⟨k+1,H6,VA',vc',by omega,by go_num,rfl,xp,wj,lh⟩
  case measure=>simp[intOf];omega
 have rO:k=pay.length:=by omega
 subst rO;rw[List.take_length]at wG;have hI:Hid (we s.data.toList p ext pay=.mk 4 0 [] ([x3,x4,x5]++pay.map z8)):=by rw[Hid,we,← jV,← Vv,← Vw]
 have aB:ModestL ([x3,x4,x5]++pay.map z8):=by
  rw[← jV,← Vv,← Vw]
  refine ModestL.of fun x hx=>?_
  simp only[List.cons_append,List.nil_append,List.mem_cons,List.mem_map]at hx
  rcases hx with rfl | rfl | rfl | ⟨l,hl,rfl⟩ <;> rw[Modest,ModestL] <;> refine⟨?_,by simp,trivial⟩
  ·simpa using (by omega:s.size≤1099511627776)
  ·exact YF
  ·omega
  have:=hpb l hl
  omega
 obtain⟨L,hL⟩:∃ L,[x3,x4,x5]++pay.map z8=L:=⟨_,rfl⟩
 have MR:L.length=3+pay.length:=by rw[← hL];simp;omega
 rw[hL]at wG aB hI;obtain⟨cs,uE,oM⟩:=wG;obtain⟨x7,pL⟩:∃ x,Itm.mk 4 0 [] L=x:=⟨_,rfl⟩
 have AR:=Hh (bY L VA (3+pay.length) vc wr cs (Src.of_own oM) uE MR.symm (by omega) aB uw.holds);rw[pL]at AR hI;clear hL aB oM uE jV Vv Vw hO;go_wp2_with fail
 refine AR.out.mono ?_
 rintro e w8 ⟨v8,rfl,xa,xb,xc,xd,H8,rfl,xp,nf⟩
 have uX:=uw.trans xp;have EN:=Hh (pd (hTab.mono uX.le) nf.arg w8 uX.holds);clear AR xp uw;go_wp2_with fail
 refine EN.out.mono ?_
 rintro e w9 (⟨hv,rfl,nV⟩ | ⟨hv,r,rfl,hfr⟩)
 ·have E:Hid (yj s.data.toList p u ext pay=8):=by rw[Hid,yj,if_neg (by simp[dP.out.1]),if_neg (by simp[dP.out.2]),hI.out,if_pos hv]
  have zJ:=uX.below.trans (nV.mono uX.size);clear hv;go_wp2_with fail
  go_ret2
  exact⟨_,[],by rw[E.out];rfl,⟨OwnB.nil _ _,zJ⟩,by rw[E.out];rfl⟩
 have E:Hid (yj s.data.toList p u ext pay=0):=by rw[Hid,yj,if_neg (by simp[dP.out.1]),if_neg (by simp[dP.out.2]),hI.out,if_neg (by simp[hv])]
 have R:Hid (Fresh w (zh x7) r w9):=⟨hfr.own.more uX.size,uX.below.trans (hfr.2.mono uX.size)⟩
 obtain⟨RA',rc',rfl,_⟩:=hfr.own.form;clear hv hfr;go_wp2_with fail
 go_ret2
 exact⟨_,zh x7,by rw[E.out];rfl,R.out,by rw[E.out,hI.out];rfl⟩
end Go.Proofs.YtliomcphdnppnaaGreatDoor
namespace Go.Proofs.YtliomcphdnppnaaGreatDoor
open Go.RowKit Go.ChangeShapes Go.WideShapes
theorem cp {n:Int}(h:(Lit.int .u64 n).wf=true):0≤n∧n<18446744073709551616:=by
 simp[Lit.wf,IntKind.min,IntKind.max,IntKind.signed,IntKind.bits]at h
 omega
theorem kJ {Hs:Snap}{b:Nat}:∀ (l:List Itm) (off:Nat),(∀ (k:Nat) (hk:k<l.length),∃ ba bc ia ic,Hs.cell? ⟨b,off+k*4,none⟩=some (.int .i64 l[k].kind)∧Hs.cell? ⟨b,off+k*4+1,none⟩=some (.int .u64 l[k].n)∧
   Hs.cell? ⟨b,off+k*4+2,none⟩=some (.slice ba l[k].bytes.length bc)∧Hs.cell? ⟨b,off+k*4+3,none⟩=some (.slice ia l[k].items.length ic)∧IsItem Hs ba bc ia ic l[k])→IsElems Hs b off l
 | [],off,h=>by rw[IsElems];trivial
 | x::l,off,h=>by
  rw[IsElems];obtain⟨ba,bc,ia,ic,h0,h1,h2,h3,hx⟩:=h 0 (by simp)
  refine⟨⟨ba,bc,ia,ic,by simpa using h0,by simpa using h1,by simpa using h2,by simpa using h3,hx⟩,kJ l (off+4) fun k hk=>?_⟩
  have:=h (k+1) (by simpa using hk)
  simp only[List.getElem_cons_succ]at this
  rwa [show off+(k+1)*4=off+4+k*4 by omega]at this
instance:Inhabited Itm:=⟨.mk 0 0 [] []⟩
instance:Inhabited Ad:=⟨⟨none,0,none,0⟩⟩
theorem TE {α:Type}{l:List α}(h:l.length=4):∃ a b c d,l=[a,b,c,d]:=by
 match l,h with
 | [a,b,c,d],_=>exact⟨a,b,c,d,rfl⟩
section
variable {H:Type} {enc:TypeId×Value→H} {W:World}
theorem bX {fuel:Nat}{c:Value}{x:DataW H×List MemPlace}(h:DataW.trod enc Tryz.prog W 0 (fun _=>true) true fuel 23 [c]=some x) :
  ∃ (A:Option Addr) (k:Nat) (l:List UInt8),c=.slice A l.length k∧IsBytes (rZ W) A k l:=by
 rcases open_ints Tryz.underlying23 Tryz.underlying5 (by kernel_rfl) h with ⟨uE,hx⟩ | ⟨a,len,cap,zs,uE,_,hl,hm,hz,hx,yR,Sv⟩
 ·simp at uE
  exact⟨none,0,[],uE,IsBytes.nil _⟩
 simp at uE
 have h1:=ju hl hm (by simp at hz;omega) yR Sv
 exact⟨some a,cap,_,by rw[h1.2];exact uE,h1.1⟩
def Xb (W:World) (cs:List Value) (y:Itm×Ad):Prop:=cs=zZ y.1 y.2.ba y.2.bc y.2.ia y.2.ic∧IsItem (rZ W) y.2.ba y.2.bc y.2.ia y.2.ic y.1
theorem iQ:∀ (n:Nat) (cs:List Value) (x:DataW H×List MemPlace),DataW.trod enc Tryz.prog W 0 (fun _=>true) true n 26 cs=some x→∃ y,Xb W cs y:=by
 have ci:Tryz.prog.cellsOf 3=1:=by kernel_rfl
 have cu:Tryz.prog.cellsOf 22=1:=by kernel_rfl
 have cb:Tryz.prog.cellsOf 23=1:=by kernel_rfl
 have cl:Tryz.prog.cellsOf 24=1:=by kernel_rfl
 have c4:Tryz.prog.cellsOf 26=4:=by kernel_rfl
 intro n
 induction n using Nat.strongRecOn with
 | _ n ih =>
 intro cs x h
 obtain⟨xs,n1,uY,_,hl,dZ,hf⟩:=DataW.trod_struct Tryz.underlying26 h;rw[c4]at hl;obtain⟨c0,c1,c2,c3,rfl⟩:=TE hl;obtain⟨y0,y1,y2,y3,rfl⟩:=TE (l:=xs) (by rw[dZ];rfl);have f0:=hf 0 _ rfl;have f1:=hf 1 _ rfl;have f2:=hf 2 _ rfl;have f3:=hf 3 _ rfl
 simp[ci]at f0
 simp[cu]at f1
 simp[cb]at f2
 simp[cl]at f3
 obtain⟨k,e0,_,w0⟩:=DataW.trod_int Tryz.underlying3 f0;obtain⟨m,e1,_,w1⟩:=DataW.trod_int Tryz.underlying22 f1;obtain⟨ba,bc,bs,rfl,mu⟩:=bX f2
 simp at e0 e1
 subst e0 e1;have b0:=kV w0;have b1:=cp w1;obtain⟨q,rfl⟩:∃ q:Nat,m=(q:Int):=⟨m.toNat,by omega⟩
 rcases DataW.trod_slice Tryz.underlying24 f3 with ⟨e3,_⟩ | ⟨a,len,cap,elems,rest,n2,uB,e3,_,_,hlc,hcm,xo,xI,_,_⟩
 ·simp at e3
  subst e3
  refine⟨(.mk k q bs [],⟨ba,bc,none,0⟩),rfl, ?_⟩
  rw[IsItem]
  exact⟨⟨b0.1,b0.2,by omega,by simp,Nat.zero_le _⟩,mu,fun h0=>by simp at h0⟩
 simp at e3
 subst e3;rw[c4]at xI
 have each:∀ i,i<len→∃ y:Itm×Ad,∃ cs',W.cells? 0 (a.add (i*4)) 4=some cs'∧Xb W cs' y:=fun i hi=>by
  have LC:i<elems.length:=by omega
  have h1:=xI i hi;rw[List.getElem?_eq_getElem LC,Option.bind_eq_some_iff]at h1;obtain⟨cs',h1,h2⟩:=h1;obtain⟨y,hy⟩:=ih n2 (by omega) cs' _ h2
  exact⟨y,cs',h1,hy⟩
 obtain⟨Y,hY⟩:=Go.Deep.choose_lt each;obtain⟨l,pB⟩:∃ l,(List.range len).map (fun i=>(Y i).1)=l:=⟨_,rfl⟩
 have Td:l.length=len:=by rw[← pB];simp
 refine⟨(.mk k q bs l,⟨ba,bc,some a,cap⟩),by simp[zZ,Itm.kind,Itm.n,Itm.bytes,Itm.items,Td], ?_⟩
 rw[IsItem];have JS:cap≤9223372036854775807:=by simpa [maxLen] using hcm
 refine⟨⟨b0.1,b0.2,by omega,by rw[Td];exact hlc,JS⟩,mu,fun h0=>?_⟩
 rw[Td]at h0;obtain⟨b,off,spot⟩:=a
 have ni:spot=none:=by
  obtain⟨cs',h1,h2,_⟩:=hY 0 h0;obtain⟨_,_,h3⟩:=World.cells?_some h1;have h4:=h3 0 (by omega);rw[h2]at h4
  simpa [Addr.add] using World.cell?_spot h4
 subst ni
 refine⟨b,off,rfl,kJ l off fun i hi=>?_⟩
 rw[Td]at hi;obtain⟨cs',h1,h2,h3⟩:=hY i hi;obtain⟨_,_,h4⟩:=World.cells?_some h1;have g:l[i]'(by omega)=(Y i).1:=by subst pB;simp
 have at_:∀ j,j<4→(rZ W).cell? ⟨b,off+i*4+j,none⟩=cs'[j]? :=fun j hj=>by
  rw[← h4 j hj,add_plain,add_plain];rfl
 rw[g]
 refine⟨_,_,_,_, ?_, ?_, ?_, ?_,h3⟩
 ·rw[← Nat.add_zero (off+i*4),at_ 0 (by omega),h2];rfl
 ·rw[at_ 1 (by omega),h2];rfl
 ·rw[at_ 2 (by omega),h2];rfl
 rw[at_ 3 (by omega),h2];rfl
theorem eF {cs:Array Value}{d:DataW H}{p:List MemPlace}(h:DataW.Trod enc Tryz.prog W 0 (fun _=>true) true 28 (.agg cs) d p) :
  ∃ (x y:Itm) (a b:Ad),cs=zY x a y b∧IsItem (rZ W) a.ba a.bc a.ia a.ic x∧IsItem (rZ W) b.ba b.bc b.ia b.ic y:=by
 have c4:Tryz.prog.cellsOf 26=4:=by kernel_rfl
 have c8:Tryz.prog.cellsOf 28=8:=by kernel_rfl
 obtain⟨fuel,hf⟩:=h;obtain⟨y0,y1,n,_,hl,h0,h1⟩:=trod_struct2 Tryz.underlying28 hf
 simp only[Value.cells]at h0 h1 hl
 rw[c8]at hl
 simp only[c4]at h0 h1
 obtain⟨⟨x,a⟩,ex,hx⟩:=iQ _ _ _ h0;obtain⟨⟨y,b⟩,ey,hy⟩:=iQ _ _ _ h1
 refine⟨x,y,a,b, ?_,hx,hy⟩
 rw[List.drop_zero]at ex;rw[List.take_of_length_le (by rw[List.length_drop,hl];omega)]at ey;have:=List.take_append_drop 4 cs.toList;rw[ex,ey]at this;apply Array.ext'
 rw[← this];rfl
end
end Go.Proofs.YtliomcphdnppnaaGreatDoor
namespace Go.Proofs.YtliomcphdnppnaaGreatDoor
open Go.RowKit
theorem nz:∀ a b:List UInt8,Lib.compareBytes a b=0↔a=b
 | [],[]=>by rw[Lib.compareBytes];simp
 | [],y::b=>by rw[Lib.compareBytes];simp
 | x::a,[]=>by rw[Lib.compareBytes];simp
 | x::a,y::b=>by
  rw[Lib.compareBytes]
  by_cases h1:x<y
  ·rw[if_pos h1];have:x≠y:=by rintro rfl;exact UInt8.lt_irrefl x h1
   simp[this]
  rw[if_neg h1]
  by_cases h2:y<x
  ·rw[if_pos h2];have:x≠y:=by rintro rfl;exact UInt8.lt_irrefl x h2
   simp[this]
  rw[if_neg h2];have e:x=y:=UInt8.toNat_inj.1 (by rw[UInt8.lt_iff_toNat_lt]at h1 h2;omega);subst e
  simp[nz a b]
end Go.Proofs.YtliomcphdnppnaaGreatDoor
