/- squeezed. Walks: header.Valid. Walks: header -/
import Derived.Test.YtliomcphdnppnaaGreatDoorK10
import Derived.Test.YtliomcphdnppnaaGreatDoorK08
set_option linter.unusedVariables false
set_option linter.unusedSimpArgs false
set_option maxRecDepth 100000
set_option maxHeartbeats 6400000
namespace Go.Proofs.YtliomcphdnppnaaGreatDoor
open Go.RowKit
theorem jaA{P:Prop}(h:P:=by
 refine Ko hK ?_ fun zy=>?_
 ·exact jev
 clear hK K
 refine To 3 rfl fun K hK=>?_
 go_simp
 refine(vQ (hTab.mono yw) (hu.mono yw).arg ZF.arg _ xD).mono ?_
 rintro e w8 ⟨v8,rfl,pV⟩
 have hB:=hB.below pV.below;have hb:=hb.trans (pV.below.mono hb.size)
 try have hN:=hN.below pV.below
 obtain⟨ra,rb,rc,rd,H8,rfl,xJ,ip⟩:=pV
 try have uL:=xJ.none uL rx
 try have rx:=hN.lt
 have xD:=xJ.holds;have yw:=yw.trans xJ.le
 refine Ko hK ?_ fun zy=>?_
 ·exact jev
 clear hK K
 refine Tk 4 rfl zy ?_
 refine Tk 5 rfl zy ?_
 refine Tk 6 rfl zy ?_
 refine To 8 rfl fun K hK=>?_
 rw[if_pos (by rfl)]
 refine zh _ _ _ rfl _ _ rfl rfl _ _ hN zu rfl (tR _ _ _ _ rfl rfl rfl rfl) fun w9 hN9 xR=>?_
 have hB:=hB.grown xR (by first | (simp;done) | (simp;omega));have hb:=hb.grown xR hb.size (by rintro q ⟨⟩;first | omega | simp);have xD:=xD.grown xR (by rintro q ⟨⟩;exact uL)
 refine Ko hK ?_ fun zy=>?_
 ·exact jev
 exact jeF):P:=h
theorem jbm{P:Prop}(h:P:=by
 clear hK K
 refine To 9 rfl fun K hK=>?_
 go_simp
 refine Kz hK ?_
 clear hK K
 refine Wd ?_
 go_wp2_with fail
 go_meet
 exact⟨_,ra,rb,rc,rd,_,_,rfl,rfl,rfl,hN9,hB,hb,xD,yw,ip⟩):P:=h
theorem jbZ{P:Prop}(h:P:=by
 go_wp2_with fail
 go_ret2
 exact⟨_,[],by rw[E.out];rfl,⟨OwnB.nil _ _,yz⟩,by rw[E.out];rfl⟩):P:=h
theorem jcc{P:Prop}(h:P:=by
 intro h
 rcases(by omega:j=0∨j=1) with rfl | rfl
 ·rw[aa rfl]at h;exact⟨fun _=>h,by omega⟩
 rw[qu rfl]at h;exact⟨fun _=>DG.out (by omega),fun _=>h⟩):P:=h
theorem jdM{P:Prop}(h:P:=by
 clear jx;go_wp2_with fail
 go_ret
 exact⟨by rw[E.out];rfl,Gu⟩):P:=h
theorem jd7{P:Prop}(h:P:=by
 refine Ko hK ?_ fun zy=>?_
 ·exact jao
 clear hK K
 refine To 3 rfl fun K hK=>?_
 go_simp
 refine(vQ (hTab.mono yw) (hp.mono yw).arg ZF.arg _ xD).mono ?_
 rintro e w8 ⟨v8,rfl,pV⟩
 have hB:=hB.below pV.below;have hb:=hb.trans (pV.below.mono hb.size)
 try have hN:=hN.below pV.below
 obtain⟨ra,rb,rc,rd,H8,rfl,xJ,ip⟩:=pV
 try have uL:=xJ.none uL rx
 try have rx:=hN.lt
 have xD:=xJ.holds;have yw:=yw.trans xJ.le
 refine Ko hK ?_ fun zy=>?_
 ·exact jao
 clear hK K
 refine Tk 4 rfl zy ?_
 refine Tk 5 rfl zy ?_
 refine Tk 6 rfl zy ?_
 exact jeX):P:=h
theorem jeF{P:Prop}(h:P:=by
 clear hK K
 refine To 9 rfl fun K hK=>?_
 go_simp
 refine Kz hK ?_
 clear hK K
 refine Wd ?_
 go_wp2_with fail
 go_meet
 exact⟨_,rfl,rfl,hB,hb⟩):P:=h
theorem jeX{P:Prop}(h:P:=by
 refine To 8 rfl fun K hK=>?_
 rw[if_pos (by rfl)]
 refine zh _ _ _ rfl _ _ rfl rfl _ _ hN zu rfl (tR _ _ _ _ rfl rfl rfl rfl) fun w9 hN9 xR=>?_
 have hB:=hB.grown xR (by first | (simp;done) | (simp;omega));have hb:=hb.grown xR hb.size (by rintro q ⟨⟩;first | omega | simp);have xD:=xD.grown xR (by rintro q ⟨⟩;exact uL)
 refine Ko hK ?_ fun zy=>?_
 ·exact jao
 exact jbm):P:=h
theorem jff{P:Prop}(h:P:=by have hN:=xl hb 26 #[.int .i64 0,.int .u64 0,.slice none 0 0,.slice none 0 0];have T0:=hB.lt;have uL:=xD.none_of_ge (Nat.le_refl _);exact And.intro hN (And.intro T0 uL)):P:=h
theorem jfu{P:Prop}(h:P:=by have hB:=hB.alloc zi;have hb:=hb.alloc hb.size zi;have xD:=xD.alloc zi;have rx:=hN.lt;exact And.intro hB (And.intro hb (And.intro xD rx))):P:=h
theorem jf5{P:Prop}(h:P:=by have hB:=hB.below kE.below;have hb:=hb.trans (kE.below.mono hb.size);exact And.intro hB hb):P:=h
theorem jge{P:Prop}(h:P:=by have xN:Holds wr H:=hH.below xY (Nat.le_refl _);exact xN):P:=h
theorem uU {H:Snap}(hTab:Tabs H) {p u:Itm}{a b:Ad}(hp:IsItem H a.ba a.bc a.ia a.ic p) (hu:IsItem H b.ba b.bc b.ia b.ic u) (w:World) (hH:Holds w H) :
  Calls Tryz.prog 29 #[.agg (zA p a u b)] w fun e w'=>e=.returned (.bool (zL p u))∧Below w.heap.size w w':=by
 have hB:=(Blk.new w 28 (zA p a u b)).alloc (.cells (zA p a u b) 26);have hM:=Blk.new (w.alloc (.cells (zA p a u b) 28)) 26 (zA p a u b)
 simp only[zr]at hM
 have nD:Below w.heap.size w ((w.alloc (.cells (zA p a u b) 28)).alloc (.cells (zA p a u b) 26)):=(zo w _).alloc (by simp) _;have zAs:w.heap.size+1<((w.alloc (.cells (zA p a u b) 28)).alloc (.cells (zA p a u b) 26)).heap.size:=by simp
 go_enter Tryz.func29,Tryz.ntmps29
 go_upto_region 2 with fail
 go_loopw [29] (fun vi wr=>∃ j:Nat,j≤2∧vi=.int .i64 j∧(1≤j→rp p=true)∧(2≤j→rp u=true)∧Below w.heap.size w wr∧Blk wr w.heap.size 28 (zA p a u b)∧Blk wr (w.heap.size+1) 26 (zA p a u b)) (fun vi _=>2-(intOf vi).toNat)
 case atStart=>exact⟨0,by omega,rfl,by omega,by omega,nD,hB,hM⟩
 case round =>
 obtain⟨j,hj,rfl,X6,EF,xY,kh,Q4⟩:=hrel;have DG:=Hh X6;have HOU:=Hh EF;clear X6 EF
 by_cases yu:j<2
 ·have hm:∃ (m:Itm) (am:Ad),(j=0→m=p)∧(j=1→m=u)∧IsItem H am.ba am.bc am.ia am.ic m∧wr.cell? ⟨w.heap.size+1,j*4,none⟩=some (.int .i64 m.kind)∧wr.cell? ⟨w.heap.size+1,j*4+1,none⟩=some (.int .u64 m.n)∧
    wr.cell? ⟨w.heap.size+1,j*4+2,none⟩=some (.slice am.ba m.bytes.length am.bc)∧wr.cell? ⟨w.heap.size+1,j*4+3,none⟩=some (.slice am.ia m.items.length am.ic):=by
   rcases(by omega:j=0∨j=1) with rfl | rfl
   ·exact⟨p,a,fun _=>rfl,by omega,hp,Q4.cell _ rfl,Q4.cell _ rfl,Q4.cell _ rfl,Q4.cell _ rfl⟩
   exact⟨u,b,by omega,fun _=>rfl,hu,Q4.cell _ rfl,Q4.cell _ rfl,Q4.cell _ rfl,Q4.cell _ rfl⟩
  obtain⟨m,am,aa,qu,fU,d0,d1,d2,d3⟩:=hm
  have BAD:Hid (rp m=false→zL p u=false):=by
   intro h
   rcases(by omega:j=0∨j=1) with rfl | rfl
   ·rw[aa rfl]at h;simp[zL,h]
   rw[qu rfl]at h;simp[zL,h]
  have GOOD:Hid (rp m=true→(1≤j+1→rp p=true)∧(2≤j+1→rp u=true)):=by
   exact jcc
  have hT:=(Blk.new wr 26 #[.int .i64 m.kind,.int .u64 m.n,.slice am.ba m.bytes.length am.bc,.slice am.ia m.items.length am.ic])
  have xN:Holds (wr.alloc (zU m am.ba am.bc am.ia am.ic)) H:=(hH.below xY (Nat.le_refl _)).alloc _;have V:=Hh (rX hTab fU.arg _ xN);have Sj:=xY.alloc xY.size (zU m am.ba am.bc am.ia am.ic);have Bz:=kh.alloc (zU m am.ba am.bc am.ia am.ic);have CA:=Q4.alloc (zU m am.ba am.bc am.ia am.ic);clear aa qu kh Q4
  by_cases h5:m.kind=5
  ·have k5:(m.kind != 5)=false:=by simp[h5]
   have H5:=Hh h5;clear h5
   cases hv:zJ m with
   | false =>
    have E:Hid (zL p u=false):=BAD.out (by simp[rp,hv]);rw[hv]at V;clear hv;go_wp2_with fail
    refine V.out.mono ?_
    rintro e w1 ⟨rfl,zB⟩
    have zG:=Sj.trans (zB.mono Sj.size);go_wp2_with fail
    go_ret
    exact⟨by rw[E.out];rfl,zG⟩
   | true =>
   have wF:=rL hv H5.out;have wn:=(uV hv).2.1;have HV:=Hh hv;rw[hv]at V;clear hv;go_wp2_with fail
   refine V.out.mono ?_
   rintro e w1 ⟨rfl,zB⟩
   have xX:=Bz.below zB;have Ah:=CA.below zB;have sM:=hT.below zB;have Gt:=Sj.trans (zB.mono Sj.size);have t0:=sM.cell 0 rfl;have t1:=sM.cell 1 rfl;have t2:=sM.cell 2 rfl;have t3:=sM.cell 3 rfl;have P:=Hh (jI fU.arg wF (by omega) w1 (xN.below zB (Nat.le_refl _)));have I5:=Hh wF;clear d0 d1 d2 d3 V Bz CA hT xN Sj wF;go_wp2_with fail
   refine P.out.mono ?_
   rintro e w2 ⟨PA,pc,cs,rfl,mf,oq,zG⟩
   have yQ:=xX.below zG;have hM2:=Ah.below zG;have g9:=Gt.trans (zG.mono Gt.size);clear t0 t1 t2 t3 P xX Ah sM Gt;go_upto_region 7 with fail
   go_loopw [44] (fun vi wr=>∃ k:Nat,k≤m.items.length/2∧vi=.int .i64 k∧qD (m.items.drop (k*2))=qD m.items∧Below w2.heap.size w2 wr) (fun vi _=>m.items.length/2-(intOf vi).toNat)
   case atStart=>exact⟨0,Nat.zero_le _,rfl,by simp,Below.refl _ _⟩
   case round =>
   obtain⟨k,hk,rfl,pq,xO⟩:=hrel
   by_cases hlt2:k<m.items.length/2
   ·have QR:=I5.out;have kC:k*2<m.items.length:=by omega
    have lA:k*2+1<m.items.length:=by omega
    have uF:=VN m.items (k*2) lA;rw[pq]at uF;obtain⟨y1,y2,y3,y4,c0,c1,c2,c3,hy⟩:=oq.get (k*2) kC;obtain⟨z1,z2,z3,z4,c4,c5,c6,c7,hz⟩:=oq.get (k*2+1) lA;obtain⟨pb,po,rfl,lK⟩:=(mf.below xO) (by intro h;subst h;simp at c0)
    have e0:=lK _ _ c0;have e1:=lK _ _ c1;have e2:=lK _ _ c2;have e3:=lK _ _ c3;have e4:=lK _ _ c4;have e5:=lK _ _ c5;have e6:=lK _ _ c6;have e7:=lK _ _ c7;rw[show po+k*2*4=po+k*8 by omega]at e0;rw[show po+(k*2*4+1)=po+k*8+1 by omega]at e1;rw[show po+(k*2*4+2)=po+k*8+2 by omega]at e2;rw[show po+(k*2*4+3)=po+k*8+3 by omega]at e3;rw[show po+(k*2+1)*4=po+k*8+4 by omega]at e4;rw[show po+((k*2+1)*4+1)=po+k*8+5 by omega]at e5;rw[show po+((k*2+1)*4+2)=po+k*8+6 by omega]at e6;rw[show po+((k*2+1)*4+3)=po+k*8+7 by omega]at e7;have ek:Hid (qD m.items=(uh m.items[k*2] m.items[k*2+1]&&qD (m.items.drop ((k+1)*2)))):=by rw[Hid,uF,show(k+1)*2=k*2+2 by omega]
    generalize m.items[k*2]'kC=y at *
    generalize m.items[k*2+1]'lA=z at *
    have PM:=Hh (gv hy hz (wr.alloc (.cells #[.int .i64 y.kind,.int .u64 y.n,.slice y1 y.bytes.length y2,.slice y3 y.items.length y4,.int .i64 z.kind,.int .u64 z.n,.slice z1 z.bytes.length z2,.slice z3 z.items.length z4] 100)));have uJ:(k:Int)<(m.items.length/2:Nat):=by omega
    clear lK c0 c1 c2 c3 c4 c5 c6 c7 uF pq QR kC lA;go_wp2_with fail
    refine PM.out.mono ?_
    rintro e w3 ⟨rfl,xj⟩
    have xj:=(xO.alloc xO.size _).trans (xj.mono (by have:=xO.size;simp;omega));clear e0 e1 e2 e3 e4 e5 e6 e7 PM
    cases jx:uh y z with
    | false =>
     have E:Hid (zL p u=false):=BAD.out (by rw[rp,ek.out,jx];simp);have yz:=g9.trans (xj.mono g9.size);clear jx;exact jbE
    | true =>
    have E:Hid (qD (m.items.drop ((k+1)*2))=qD m.items):=by rw[Hid,ek.out,jx,Bool.true_and]
    clear jx;go_wp2_with fail
    go_roundw
    case rel=>exact⟨k+1,by omega,by go_num,E.out,xj⟩
    case measure=>simp[intOf];omega
   have E:Hid (rp m=true):=by
    have QR:=I5.out;rw[List.drop_eq_nil_of_le (by omega)]at pq;rw[Hid,rp,HV.out,← pq,H5.out];rfl
   have G:=Hh (GOOD.out E.out);have tp:=yQ.below xO;have hMx:=hM2.below xO;have yz:=g9.trans (xO.mono g9.size);clear pq;go_wp2_with fail
   go_roundw
   case rel=>exact⟨j+1,by omega,by go_num,G.out.1,G.out.2,yz,tp,hMx⟩
   case measure=>simp[intOf];omega
  have k5:(m.kind != 5)=true:=by simp[h5]
  have E:Hid (zL p u=false):=BAD.out (by simp[rp,h5]);clear h5 V;go_wp2_with fail
  go_ret
  exact⟨by rw[E.out];rfl,Sj⟩
 have FU:j=2:=by omega
 subst FU;have OP:=Hh (DG.out (by omega));have OU:=Hh (HOU.out (by omega));have JX:zJ p=true∧p.kind=5:=by have:=OP.out;simp[rp]at this;exact⟨this.1.2,this.1.1⟩
 have wF:=rL JX.1 JX.2;have wn:=(uV JX.1).2.1;have xN:=jge;have P:=Hh (jI hp.arg wF (by omega) wr xN);have I5:=Hh wF;have t0:=kh.cell 0 rfl;have t1:=kh.cell 1 rfl;have t2:=kh.cell 2 rfl;have t3:=kh.cell 3 rfl
 have E0:Hid (zL p u=(wM u p.items && !((yK u (zS 2)).isSome||((uC p u 5).isSome&&(uC p u 6).isSome))&&jk p)):=by
  rw[Hid,zL,OP.out,OU.out,Bool.true_and,Bool.true_and]
 clear JX wF Q4 hM zAs nD hB;go_wp2_with fail
 refine P.out.mono ?_
 rintro e w2 ⟨PA,pc,cs,rfl,mf,oq,zG⟩
 have yQ:=kh.below zG;have g9:=xY.trans (zG.mono xY.size);clear t0 t1 t2 t3 P kh xN xY;go_upto_region 14 with fail
 go_loopw [57] (fun vi wr=>∃ k:Nat,k≤p.items.length/2∧vi=.int .i64 k∧wM u (p.items.drop (k*2))=wM u p.items∧Below w2.heap.size w2 wr) (fun vi _=>p.items.length/2-(intOf vi).toNat)
 case atStart=>exact⟨0,Nat.zero_le _,rfl,by simp,Below.refl _ _⟩
 case round =>
 obtain⟨k,hk,rfl,pq,xO⟩:=hrel;have tp:=yQ.below xO;have zAr:=tp.lt;have u4:=tp.cell 4 rfl;have u5:=tp.cell 5 rfl;have u6:=tp.cell 6 rfl;have u7:=tp.cell 7 rfl;have zE:Holds wr H:=hH.below (g9.trans (xO.mono g9.size)) (Nat.le_refl _)
 by_cases hlt2:k<p.items.length/2
 ·have QR:=I5.out;have kC:k*2<p.items.length:=by omega
  have lA:k*2+1<p.items.length:=by omega
  have uF:=cJ u p.items (k*2) lA;rw[pq]at uF;obtain⟨y1,y2,y3,y4,c0,c1,c2,c3,hy⟩:=oq.get (k*2) kC;obtain⟨z1,z2,z3,z4,c4,c5,c6,c7,hz⟩:=oq.get (k*2+1) lA;obtain⟨pb,po,rfl,lK⟩:=(mf.below xO) (by intro h;subst h;simp at c0)
  have e0:=lK _ _ c0;have e1:=lK _ _ c1;have e2:=lK _ _ c2;have e3:=lK _ _ c3;have e4:=lK _ _ c4;have e5:=lK _ _ c5;have e6:=lK _ _ c6;have e7:=lK _ _ c7;rw[show po+k*2*4=po+k*8 by omega]at e0;rw[show po+(k*2*4+1)=po+k*8+1 by omega]at e1;rw[show po+(k*2*4+2)=po+k*8+2 by omega]at e2;rw[show po+(k*2*4+3)=po+k*8+3 by omega]at e3;rw[show po+(k*2+1)*4=po+k*8+4 by omega]at e4;rw[show po+((k*2+1)*4+1)=po+k*8+5 by omega]at e5;rw[show po+((k*2+1)*4+2)=po+k*8+6 by omega]at e6;rw[show po+((k*2+1)*4+3)=po+k*8+7 by omega]at e7;have ek:Hid (wM u p.items=((yK u p.items[k*2]).isNone&&wM u (p.items.drop ((k+1)*2)))):=by rw[Hid,uF,show(k+1)*2=k*2+2 by omega]
  generalize p.items[k*2]'kC=y at *
  generalize p.items[k*2+1]'lA=z at *
  have FM:=Hh (vQ hTab hu.arg hy.arg (wr.alloc (.cells #[.int .i64 y.kind,.int .u64 y.n,.slice y1 y.bytes.length y2,.slice y3 y.items.length y4,.int .i64 z.kind,.int .u64 z.n,.slice z1 z.bytes.length z2,.slice z3 z.items.length z4] 100)) (zE.alloc _));have uJ:(k:Int)<(p.items.length/2:Nat):=by omega
  clear lK c0 c1 c2 c3 c4 c5 c6 c7 uF pq QR kC lA;go_wp2_with fail
  refine FM.out.mono ?_
  rintro e w3 ⟨v3,rfl,ow⟩
  have xj:=(xO.alloc xO.size _).trans (ow.below.mono (by have:=xO.size;simp;omega));obtain⟨f1,f2,f3,f4,H3,rfl,_,_⟩:=ow;clear e0 e1 e2 e3 e4 e5 e6 e7 FM u4 u5 u6 u7
  cases jx:yK u y with
  | some q =>
   have E:Hid (zL p u=false):=by rw[Hid,E0.out,ek.out,jx];simp
   have yz:=g9.trans (xj.mono g9.size);have Gu:=yz.alloc yz.size (zU q f1 f2 f3 f4);exact jdM
  | none =>
  have E:Hid (wM u (p.items.drop ((k+1)*2))=wM u p.items):=by rw[Hid,ek.out,jx];simp
  have uR:=xj.alloc xj.size (zU ze f1 f2 f3 f4);clear jx;go_wp2_with fail
  go_roundw
  case rel=>exact⟨k+1,by omega,by go_num,E.out,uR⟩
  case measure=>simp[intOf];omega
 have E1:Hid (wM u p.items=true):=by
  have QR:=I5.out;rw[List.drop_eq_nil_of_le (by omega)]at pq;rw[Hid,← pq];rfl
 have t0:=tp.cell 0 rfl;have t1:=tp.cell 1 rfl;have t2:=tp.cell 2 rfl;have t3:=tp.cell 3 rfl;have yz:=g9.trans (xO.mono g9.size);have F5:=Hh (lz hTab hp hu 5 (by omega) (by omega) wr zE);obtain⟨b5,xS⟩:∃ b,(uC p u 5).isSome=b:=⟨_,rfl⟩
 rw[xS]at F5;have J7:=Hh xS;clear xS pq mf oq yQ xO g9;go_wp2_with fail
 refine F5.out.mono ?_
 rintro e w3 ⟨v3,rfl,ow⟩
 have xj:=ow.below;obtain⟨f1,f2,f3,f4,H3,rfl,_,_⟩:=ow;have wi:=(tp.below xj).alloc (zU ((uC p u 5).getD ze) f1 f2 f3 f4);have Sk:=(yz.trans (xj.mono yz.size)).alloc (yz.trans (xj.mono yz.size)).size (zU ((uC p u 5).getD ze) f1 f2 f3 f4);have F6:=Hh (lz hTab hp hu 6 (by omega) (by omega) _ (hH.below Sk (Nat.le_refl _)));obtain⟨b6,wX⟩:∃ b,(uC p u 6).isSome=b:=⟨_,rfl⟩
 rw[wX]at F6;have HB6:=Hh wX;clear wX t0 t1 t2 t3 u4 u5 u6 u7 F5 tp zE xj;have t0:=wi.cell 0 rfl;have t1:=wi.cell 1 rfl;have t2:=wi.cell 2 rfl;have t3:=wi.cell 3 rfl;have u4:=wi.cell 4 rfl;have u5:=wi.cell 5 rfl;have u6:=wi.cell 6 rfl;have u7:=wi.cell 7 rfl;go_wp2_with fail
 refine F6.out.mono ?_
 rintro e w4 ⟨v4,rfl,Ir⟩
 have uR:=Ir.below;obtain⟨g1,g2,g3,g4,H4,rfl,_,_⟩:=Ir;have oh:=(wi.below uR).alloc (zU ((uC p u 6).getD ze) g1 g2 g3 g4);have LV:=(Sk.trans (uR.mono Sk.size)).alloc (Sk.trans (uR.mono Sk.size)).size (zU ((uC p u 6).getD ze) g1 g2 g3 g4);clear t0 t1 t2 t3 u4 u5 u6 u7 F6 wi uR;have E2:Hid (zL p u=(!((yK u (zS 2)).isSome||(b5&&b6))&&jk p)):=by rw[Hid,E0.out,E1.out,Bool.true_and,J7.out,HB6.out]
 clear E0 E1 yz Sk;go_upto_region 22 with fail
 go_cut [15,16] (fun s15 s16 wx=>∃ x,s16=.bool x∧(yK u (zS 2)).isSome=x∧Blk wx w.heap.size 28 (zA p a u b)∧Below w.heap.size w wx)
 case first =>
  have hB:=oh.drew;have hb:=LV.drew;have xD:=(hH.below LV (Nat.le_refl _)).drew;have yw:=Snap.le.refl H;clear oh LV
  refine zw 9 (fun w'=>w'.cell? ⟨w.heap.size,4,none⟩=some (.int .i64 u.kind)∧w'.cell? ⟨w.heap.size,5,none⟩=some (.int .u64 u.n)∧w'.cell? ⟨w.heap.size,6,none⟩=some (.slice b.ba u.bytes.length b.bc)∧w'.cell? ⟨w.heap.size,7,none⟩=some (.slice b.ia u.items.length b.ic)) (by kernel_rfl) (⟨hB.cell 4 rfl,hB.cell 5 rfl,hB.cell 6 rfl,hB.cell 7 rfl⟩) (fun zy=>?_)
  refine Tk 0 rfl zy ?_
  refine Tk 1 rfl zy ?_
  refine Ways.two (i:=2) (j:=7) rfl rfl (by kernel_rfl) (fun K hK=>?_) (fun K hK=>?_)
  ·go_simp
   refine(px 2 (by omega) (by omega) _ xD).mono ?_
   rintro e w7 ⟨v7,rfl,kE⟩
   obtain⟨hB,hb⟩:=jf5
   try have hN:=hN.below kE.below
   obtain⟨sa,sb,sc,sd,H7,rfl,wJ,ZF⟩:=kE
   try have uL:=wJ.none uL rx
   try have rx:=hN.lt
   have xD:=wJ.holds;have yw:=yw.trans wJ.le
   refine Ko hK ?_ fun zy=>?_
   ·exact jaG
   clear hK K
   refine Ways.two (i:=3) (j:=7) rfl rfl (by kernel_rfl) (fun K hK=>?_) (fun K hK=>?_)
   ·go_simp
    refine(vQ (hTab.mono yw) (hu.mono yw).arg ZF.arg _ xD).mono ?_
    rintro e w8 ⟨v8,rfl,pV⟩
    have hB:=hB.below pV.below;have hb:=hb.trans (pV.below.mono hb.size)
    try have hN:=hN.below pV.below
    obtain⟨ra,rb,rc,rd,H8,rfl,xJ,ip⟩:=pV
    try have uL:=xJ.none uL rx
    try have rx:=hN.lt
    have xD:=xJ.holds;have yw:=yw.trans xJ.le
    refine Ko hK ?_ fun zy=>?_
    ·exact jaG
    clear hK K
    refine Tk 4 rfl zy ?_
    refine Tk 5 rfl zy ?_
    refine Tk 6 rfl zy ?_
    refine To 7 rfl fun K hK=>?_
    go_simp
    obtain⟨hN,T0,uL⟩:=jff
    try simp only[zW,zr]at hN T0 uL
    obtain⟨hB,hb,xD,rx⟩:=jfu
    refine Ko hK ?_ fun zy=>?_
    ·exact jaG
    clear hK K
    refine To 8 rfl fun K hK=>?_
    rw[if_pos (by rfl)]
    refine zh _ _ _ rfl _ _ rfl rfl _ _ hN zu rfl (tR _ _ _ _ rfl rfl rfl rfl) fun w9 hN9 xR=>?_
    have hB:=hB.grown xR (by first | (simp;done) | (simp;omega));have hb:=hb.grown xR hb.size (by rintro q ⟨⟩;first | omega | simp);have xD:=xD.grown xR (by rintro q ⟨⟩;exact uL)
    refine Ko hK ?_ fun zy=>?_
    ·exact jaG
    exact jeF
   go_simp
   obtain⟨hN,T0,uL⟩:=jff
   try simp only[zW,zr]at hN T0 uL
   obtain⟨hB,hb,xD,rx⟩:=jfu
   exact jaA
  go_simp
  obtain⟨hN,T0,uL⟩:=jff
  try simp only[zW,zr]at hN T0 uL
  obtain⟨hB,hb,xD,rx⟩:=jfu
  refine Ko hK ?_ fun zy=>?_
  ·exact jaG
  clear hK K
  refine To 2 rfl fun K hK=>?_
  go_simp
  refine(px 2 (by omega) (by omega) _ xD).mono ?_
  rintro e w7 ⟨v7,rfl,kE⟩
  obtain⟨hB,hb⟩:=jf5
  try have hN:=hN.below kE.below
  obtain⟨sa,sb,sc,sd,H7,rfl,wJ,ZF⟩:=kE
  try have uL:=wJ.none uL rx
  try have rx:=hN.lt
  have xD:=wJ.holds;have yw:=yw.trans wJ.le
  exact jaA
 case rest =>
 obtain⟨cu,rfl,UD,oa,xS⟩:=hcut;clear oh LV;have EB:Hid ((cu||(b5&&b6))=true→zL p u=false):=by intro h;rw[E2.out,UD,h];rfl
 have EG:Hid ((cu||(b5&&b6))=false→zL p u=jk p):=by intro h;rw[E2.out,UD,h];simp
 clear UD E2
 by_cases hq:(cu||(b5&&b6))=true
 ·have E:=Hh (EB.out hq);have ag:cu=true∨(cu=false∧b5=true∧b6=true):=by cases cu <;> cases b5 <;> cases b6 <;> simp_all
  clear hq EB EG
  rcases ag with rfl | ⟨rfl,rfl,rfl⟩
  all_goals
   go_wp2_with fail
   go_ret
   exact⟨by rw[E.out];rfl,xS⟩
 have E:=Hh (EG.out (by simpa using hq));have ag:cu=false∧(b5=false∨(b5=true∧b6=false)):=by cases cu <;> cases b5 <;> cases b6 <;> simp_all
 clear hq EB EG;go_upto_region 23 with fail
 go_cut [94] (fun s94 wx=>s94=.bool false∧wc=wx)
 case first =>
  obtain⟨rfl,rfl | ⟨rfl,rfl⟩⟩:=ag
  all_goals
   go_wp2_with fail
   go_meet
   exact⟨rfl,rfl⟩
 case rest =>
 obtain⟨rfl,rfl⟩:=hcut;clear ag;go_upto_region 25 with fail
 go_cut [17,18] (fun s17 s18 wx=>∃ N ra rb rc rd Hx x,s17=.pointer (some ⟨N,0,none⟩)∧s18=.bool x∧(yK p (zS 2)).isSome=x∧Blk wx N 26 #[.int .i64 ((yK p (zS 2)).getD ze).kind,.int .u64 ((yK p (zS 2)).getD ze).n,.slice ra ((yK p (zS 2)).getD ze).bytes.length rb,.slice rc ((yK p (zS 2)).getD ze).items.length rd]∧
  Blk wx w.heap.size 28 (zA p a u b)∧Below w.heap.size w wx∧Holds wx Hx∧H.le Hx∧IsItem Hx ra rb rc rd ((yK p (zS 2)).getD ze))
 case first =>
  have hB:=oa.drew;have hb:=xS.drew;have xD:=(hH.below xS (Nat.le_refl _)).drew;have yw:=Snap.le.refl H;clear oa xS
  refine zw 9 (fun w'=>w'.cell? ⟨w.heap.size,0,none⟩=some (.int .i64 p.kind)∧w'.cell? ⟨w.heap.size,1,none⟩=some (.int .u64 p.n)∧w'.cell? ⟨w.heap.size,2,none⟩=some (.slice a.ba p.bytes.length a.bc)∧w'.cell? ⟨w.heap.size,3,none⟩=some (.slice a.ia p.items.length a.ic)) (by kernel_rfl) (⟨hB.cell 0 rfl,hB.cell 1 rfl,hB.cell 2 rfl,hB.cell 3 rfl⟩) (fun zy=>?_)
  refine Tk 0 rfl zy ?_
  refine Tk 1 rfl zy ?_
  refine Ways.two (i:=2) (j:=7) rfl rfl (by kernel_rfl) (fun K hK=>?_) (fun K hK=>?_)
  ·go_simp
   refine(px 2 (by omega) (by omega) _ xD).mono ?_
   rintro e w7 ⟨v7,rfl,kE⟩
   obtain⟨hB,hb⟩:=jf5
   try have hN:=hN.below kE.below
   obtain⟨sa,sb,sc,sd,H7,rfl,wJ,ZF⟩:=kE
   try have uL:=wJ.none uL rx
   try have rx:=hN.lt
   have xD:=wJ.holds;have yw:=yw.trans wJ.le
   refine Ko hK ?_ fun zy=>?_
   ·exact jao
   clear hK K
   refine Ways.two (i:=3) (j:=7) rfl rfl (by kernel_rfl) (fun K hK=>?_) (fun K hK=>?_)
   ·go_simp
    refine(vQ (hTab.mono yw) (hp.mono yw).arg ZF.arg _ xD).mono ?_
    rintro e w8 ⟨v8,rfl,pV⟩
    have hB:=hB.below pV.below;have hb:=hb.trans (pV.below.mono hb.size)
    try have hN:=hN.below pV.below
    obtain⟨ra,rb,rc,rd,H8,rfl,xJ,ip⟩:=pV
    try have uL:=xJ.none uL rx
    try have rx:=hN.lt
    have xD:=xJ.holds;have yw:=yw.trans xJ.le
    refine Ko hK ?_ fun zy=>?_
    ·exact jao
    clear hK K
    refine Tk 4 rfl zy ?_
    refine Tk 5 rfl zy ?_
    refine Tk 6 rfl zy ?_
    refine To 7 rfl fun K hK=>?_
    go_simp
    obtain⟨hN,T0,uL⟩:=jff
    try simp only[zW,zr]at hN T0 uL
    obtain⟨hB,hb,xD,rx⟩:=jfu
    refine Ko hK ?_ fun zy=>?_
    ·exact jao
    clear hK K
    exact jeX
   go_simp
   obtain⟨hN,T0,uL⟩:=jff
   try simp only[zW,zr]at hN T0 uL
   obtain⟨hB,hb,xD,rx⟩:=jfu
   exact jd7
  go_simp
  obtain⟨hN,T0,uL⟩:=jff
  try simp only[zW,zr]at hN T0 uL
  obtain⟨hB,hb,xD,rx⟩:=jfu
  refine Ko hK ?_ fun zy=>?_
  ·exact jao
  clear hK K
  refine To 2 rfl fun K hK=>?_
  go_simp
  refine(px 2 (by omega) (by omega) _ xD).mono ?_
  rintro e w7 ⟨v7,rfl,kE⟩
  obtain⟨hB,hb⟩:=jf5
  try have hN:=hN.below kE.below
  obtain⟨sa,sb,sc,sd,H7,rfl,wJ,ZF⟩:=kE
  try have uL:=wJ.none uL rx
  try have rx:=hN.lt
  have xD:=wJ.holds;have yw:=yw.trans wJ.le
  exact jd7
 case rest =>
 obtain⟨N,ra,rb,rc,rd,Hx,xx,rfl,rfl,Ja,hN,ms,wX,zE,Cg,Ww⟩:=hcut;clear oa xS
 cases hf:yK p (zS 2) with
 | none =>
  have E3:Hid (zL p u=true):=by rw[Hid,E.out,jk,hf]
  rw[hf]at Ja;have Ja:xx=false:=Ja.symm;subst Ja;clear hf hN Ww;go_wp2_with fail
  go_ret
  exact⟨by rw[E3.out];rfl,wX⟩
 | some c =>
 have E3:Hid (zL p u=((c.items.all fun x=>(yK p x).isSome)&&c.kind==4&&decide (0<c.items.length))):=by rw[Hid,E.out,jk,hf]
 rw[hf]at hN Ww Ja;have Ja:xx=true:=Ja.symm;subst Ja
 simp only[Option.getD_some]at hN Ww
 have n3:=hN.cell 3 rfl;clear hf E;go_upto_region 29 with fail
 go_loopw [107] (fun vi wr=>∃ k:Nat,k≤c.items.length∧vi=.int .i64 k∧((c.items.take k).all fun x=>(yK p x).isSome)=true∧Below wc.heap.size wc wr) (fun vi _=>c.items.length-(intOf vi).toNat)
 case atStart=>exact⟨0,Nat.zero_le _,rfl,by simp,Below.refl _ _⟩
 case round =>
 obtain⟨k,hk,rfl,uH,xO⟩:=hrel;have tp:=ms.below xO;have hNx:=hN.below xO
 by_cases yu:k<c.items.length
 ·obtain⟨ib,io,rC,wY⟩:=Ww.items (by omega);obtain⟨y1,y2,y3,y4,q0,q1,q2,q3,hy⟩:=wY.get k yu;subst rC;have xN:Holds wr Hx:=zE.below xO (Nat.le_refl _);have p0:=xN.cell q0;have p1:=xN.cell q1;have p2:=xN.cell q2;have p3:=xN.cell q3;have u0:=tp.cell 0 rfl;have u1:=tp.cell 1 rfl;have u2:=tp.cell 2 rfl;have u3:=tp.cell 3 rfl;have zAr:=tp.lt;have rQ:(c.items.all fun x=>(yK p x).isSome)=true→(yK p c.items[k]).isSome=true:=fun h=>List.all_eq_true.1 h _ (List.getElem_mem yu)
  have J0:(yK p c.items[k]).isSome=true→((c.items.take (k+1)).all fun x=>(yK p x).isSome)=true:=fun h=>by
   rw[List.take_succ_eq_append_getElem yu,List.all_append,uH]
   simp[h]
  have HS:=Hh rQ;have HK:Hid (k+1≤c.items.length):=yu;have hcb:=Ww.bounds;have zAx:(k:Int)+1≤9223372036854775807:=by omega
  clear hcb;have HN:=Hh J0;clear rQ J0 uH
  generalize c.items[k]'yu=y at *
  have FM:=Hh (vQ (hTab.mono Cg) (hp.mono Cg).arg hy.arg (wr.alloc (zU y y1 y2 y3 y4)) (xN.alloc _));clear q0 q1 q2 q3 wY;go_wp2_with fail
  refine FM.out.mono ?_
  rintro e w9 ⟨v9,rfl,hv9⟩
  have mg:=(xO.alloc xO.size _).trans (hv9.below.mono (by have:=xO.size;simp;omega));obtain⟨f1,f2,f3,f4,H9,rfl,_,_⟩:=hv9;clear p0 p1 p2 p3 u0 u1 u2 u3 FM
  cases jx:yK p y with
  | none =>
   have E:Hid (zL p u=false):=by
    rw[Hid,E3.out]
    cases ha:(c.items.all fun x=>(yK p x).isSome) with
    | false=>simp
    | true =>
    have:=HS.out ha;rw[jx]at this
    cases this
   have yz:=(wX.trans (mg.mono wX.size))
   have Gu:=yz.alloc yz.size (zU ze f1 f2 f3 f4);exact jdM
  | some q =>
  have E:Hid (((c.items.take (k+1)).all fun x=>(yK p x).isSome)=true):=HN.out (by rw[jx];rfl);have rl:=mg.alloc mg.size (zU q f1 f2 f3 f4);clear jx;go_wp2_with fail
  go_roundw
  case rel=>exact⟨k+1,HK.out,by go_num,E.out,rl⟩
  case measure=>have:=HK.out;simp[intOf];omega
 have qJ:k=c.items.length:=by omega
 subst qJ;rw[List.take_length]at uH;have E:Hid (zL p u=(c.kind==4&&decide (0<c.items.length))):=by rw[Hid,E3.out,uH,Bool.true_and]
 have m0:=hNx.cell 0 rfl;have m3:=hNx.cell 3 rfl;have yz:=wX.trans (xO.mono wX.size);clear uH E3 n3
 by_cases h4:c.kind=4
 ·have k4:(c.kind==4)=true:=by simp[h4]
  have E5:Hid (zL p u=decide (0<c.items.length)):=by rw[Hid,E.out,k4,Bool.true_and]
  clear h4 E;go_wp2_with fail
  all_goals
   go_ret
   exact⟨by rw[E5.out];rfl,yz⟩
 have k4:(c.kind==4)=false:=by simp[h4]
 have E5:Hid (zL p u=false):=by rw[Hid,E.out,k4,Bool.false_and]
 clear h4 E;go_wp2_with fail
 go_ret
 exact⟨by rw[E5.out];rfl,yz⟩
def Mr (w:World) (p u:Itm) (e:Ending) (w':World):Prop :=
 (zL p u=false∧e=.returned (.tuple #[.slice none 0 0,.int .i64 1])∧Below w.heap.size w w')∨
 (zL p u=true∧∃ r,e=.returned (.tuple #[r,.int .i64 0])∧Fresh w (yH p) r w')
theorem tj {H:Snap}(hTab:Tabs H) {p u:Itm}{a b:Ad}(hp:IsItem H a.ba a.bc a.ia a.ic p) (hu:IsItem H b.ba b.bc b.ia b.ic u) (w:World) (hH:Holds w H) :
  Calls Tryz.prog 48 #[.agg (zA p a u b)] w (Mr w p u):=by
 have hB:=Blk.new w 28 (zA p a u b);have xo:=zo w (.cells (zA p a u b) 28);have Q3:=hH.alloc (.cells (zA p a u b) 28);have V:=Hh (uU hTab hp hu _ Q3)
 cases hv:zL p u with
 | false =>
  rw[hv]at V;have HV:=Hh hv;clear hv;go_enter Tryz.func48,Tryz.ntmps48
  go_wp2_with fail
  refine V.out.mono ?_
  rintro e w1 ⟨rfl,zB⟩
  have yz:=jgs;go_wp2_with fail
  go_ret2
  exact .inl ⟨HV.out,rfl,yz⟩
 | true =>
 rw[hv]at V;have HV:=Hh hv;have JX:=(yY hv).1;have Wy:=(uV JX).2.1;clear hv;go_enter Tryz.func48,Tryz.ntmps48
 go_wp2_with fail
 refine V.out.mono ?_
 rintro e w1 ⟨rfl,zB⟩
 have xX:=hB.below zB;have yz:=jgs;have c0:=xX.cell 0 rfl;have c1:=xX.cell 1 rfl;have c2:=xX.cell 2 rfl;have c3:=xX.cell 3 rfl
 by_cases h0:p.items.length=0
 ·have E:Hid (yH p=[]):=by rw[Hid,yH,if_pos h0]
  have k0:((p.items.length:Int)==0)=true:=by simp;simpa using h0
  clear h0;go_wp2_with fail
  go_ret2
  exact .inr ⟨HV.out,_,rfl,by rw[E.out];exact⟨OwnB.nil _ _,yz⟩⟩
 have E:Hid (yH p=zZ p):=by rw[Hid,yH,if_neg h0]
 have k0:((p.items.length:Int)==0)=false:=by rw[beq_eq_false_iff_ne];omega
 have EN:=Hh (rJ hTab hp.arg w1 (hH.below yz (Nat.le_refl _)));have JF:=Hh JX;clear h0 JX;go_wp2_with fail
 refine EN.out.mono ?_
 rintro e w2 (⟨hf,_⟩ | ⟨_,r,rfl,lJ⟩)
 ·rw[JF.out]at hf;cases hf
 have R:Hid (Fresh w (yH p) r w2):=by
  rw[Hid,E.out]
  exact⟨lJ.own.more yz.size,yz.trans (lJ.2.mono yz.size)⟩
 clear lJ;go_wp2_with fail
 go_ret2
 exact .inr ⟨HV.out,_,rfl,R.out⟩
structure IsRows (H:Snap) (A:Option Addr) (c:Nat) (ls:List (List UInt8)):Prop where
 le:ls.length≤c
 max:c≤9223372036854775807
 rows:0<ls.length→∃ b off,A=some ⟨b,off,none⟩∧∀ j (hj:j<ls.length),∃ Aj cj,H.cell? ⟨b,off+j,none⟩=some (.slice Aj ls[j].length cj)∧IsBytes H Aj cj ls[j]
abbrev zI (l:List UInt8):Itm:=.mk 2 0 l []
def xA (ctx:List UInt8) (p:Itm) (ext:List UInt8) (pay:List (List UInt8)):Itm:=.mk 4 0 [] ([.mk 3 0 ctx [],zI (yH p),zI ext]++pay.map zI)
def xy (ctx:List UInt8) (p u:Itm) (ext:List UInt8) (pay:List (List UInt8)):Int :=
 if zL p u=false then 1 else if Lib.validD ctx=false then 5 else if zJ (xA ctx p ext pay)=false then 8 else 0
def QZ (w:World) (ctx:List UInt8) (p u:Itm) (ext:List UInt8) (pay:List (List UInt8)) (e:Ending) (w':World):Prop :=
 ∃ r l,e=.returned (.tuple #[r,.int .i64 (xy ctx p u ext pay)])∧Fresh w l r w'∧l=if xy ctx p u ext pay=0 then zZ (xA ctx p ext pay) else []
theorem OwnI.lit {w:World}{H:Snap}{l:List Itm}{cs:List Value}(h:ItemsC H cs l) (base:Nat) (hb:base≤w.heap.size) (hm:l.length≤4096) :
  OwnI (w.alloc (.cells cs.toArray 26)) base (.slice (some ⟨w.heap.size,0,none⟩) l.length l.length) H l:=by
 refine⟨cs,h,h.len,.inr ⟨w.heap.size,l.length,cs.toArray,rfl,hb,heap_alloc_new w _,Nat.le_refl _,by simp only[maxLen];omega, ?_, ?_⟩⟩
 ·simpa using h.len
 rw[← h.len];simp
theorem sB {H:Snap}(hTab:Tabs H) {p u:Itm}{a b:Ad}(hp:IsItem H a.ba a.bc a.ia a.ic p) (hu:IsItem H b.ba b.bc b.ia b.ic u) (s:ByteArray) (hs:s.size≤1048576)
  {EA:Option Addr} {ec:Nat} {ext:List UInt8} (hext:IsBytes H EA ec ext) (wY:ext.length≤1048576) {PA:Option Addr} {pc:Nat} {pay:List (List UInt8)} (hpay:IsRows H PA pc pay) (pq:pay.length≤1048576) (hpb:∀ l∈pay,l.length≤1048576) (w:World) (hH:Holds w H) :
  Calls Tryz.prog 20 #[.string s,.agg (zA p a u b),.slice EA ext.length ec,.slice PA pay.length pc] w (QZ w s.data.toList p u ext pay):=by
 have xo:=zo w (.cells (zA p a u b) 28);have ZJ:=(Grows.refl hH).alloc (.cells (zA p a u b) 28);have P:=Hh (tj hTab hp hu _ ZJ.holds);go_enter Tryz.func20,Tryz.ntmps20
 go_wp2_with fail
 refine P.out.mono ?_
 rintro e w1 (⟨hv,rfl,zB⟩ | ⟨hv,r,rfl,hf⟩)
 ·have E:Hid (xy s.data.toList p u ext pay=1):=by rw[Hid,xy,if_pos hv]
  have yz:=jgs;clear hv;exact jbZ
 obtain⟨RA,rc,rfl,_⟩:=hf.own.form;have U:=Hh (utf8_ValidString hTab w1 (ZJ.holds.below hf.2 (Nat.le_refl _)) s (by omega))
 cases hc:Lib.validD s.data.toList with
 | false =>
  have E:Hid (xy s.data.toList p u ext pay=5):=by rw[Hid,xy,if_neg (by simp[hv]),if_pos hc]
  rw[hc]at U;clear hv hc;go_wp2_with fail
  refine U.out.mono ?_
  rintro e w2 ⟨rfl,zG⟩
  have yz:=(xo.trans (hf.2.mono xo.size)).trans (zG.mono (Nat.le_trans xo.size hf.2.size));exact jbZ
 | true =>
 rw[hc]at U;have Lt:=Hh (And.intro hv hc);clear hv hc;go_wp2_with fail
 refine U.out.mono ?_
 rintro e w2 ⟨rfl,zG⟩
 have Cu:(yH p).length≤1099511627776:=by
  have:=(vL (yY Lt.out.1).1).2.2
  unfold yH
  split
  ·simp
  omega
 have yE:=(ZJ.below_ hf.2).below_ zG;have UH:=(hf.own.src).below zG;obtain⟨x3,TN⟩:∃ x,Itm.mk 3 0 s.data.toList []=x:=⟨_,rfl⟩
 obtain⟨x4,fs⟩:∃ x,Itm.mk 2 0 (yH p) []=x:=⟨_,rfl⟩
 obtain⟨x5,BE⟩:∃ x,Itm.mk 2 0 ext []=x:=⟨_,rfl⟩
 have T:=Hh (Qn s (by omega) w2 yE.holds);rw[TN]at T;go_wp2_with fail
 refine T.out.mono ?_
 rintro e w3 ⟨v3,rfl,ta,tb,tc,td,H3,rfl,ye,nO⟩
 have B1:=Hh (vF (c:=rc) (A:=RA) (l:=yH p) rfl Cu w3 (UH.below ye.below) ye.holds);rw[fs]at B1;clear T;go_wp2_with fail
 refine B1.out.mono ?_
 rintro e w4 ⟨v4,rfl,pa',pb',pc',pd',H4,rfl,yF,rm⟩
 have B2:=Hh (vF (c:=ec) (A:=EA) (l:=ext) rfl (by omega) w4 (Src.of_row (hext.row.mono (ye.le.trans yF.le)) yF.holds) yF.holds);rw[BE]at B2;clear B1;go_wp2_with fail
 refine B2.out.mono ?_
 rintro e w5 ⟨v5,rfl,ea',eb',ec',ed',H5,rfl,wb,Wh⟩
 have hG:=((yE.trans ye).trans yF).trans wb
 have UF:ItemsC H5 (zV x3 ta tb tc td++(zV x4 pa' pb' pc' pd'++zV x5 ea' eb' ec' ed')) [x3,x4,x5] :=
  (ItemsC.one (nO.mono (yF.le.trans wb.le))).app ((ItemsC.one (rm.mono wb.le)).app (ItemsC.one Wh))
 have hO:=OwnI.lit (w:=w5) UF (w.heap.size+1) (by have:=hf.2.size;have:=zG.size;have:=ye.size;have:=yF.size;have:=wb.size;simp at *;omega) (by simp);have Ac:=hG.alloc (.cells (zV x3 ta tb tc td++(zV x4 pa' pb' pc' pd'++zV x5 ea' eb' ec' ed')).toArray 26);have fo:H5 w5.heap.size=none:=wb.holds.none_of_ge (Nat.le_refl _);clear yE ye yF wb nO rm Wh hG B2 UH hf zG UF;go_upto_region 8 with fail
 go_loopw [12,38] (fun v12 vi wr=>∃ (k:Nat) (Hr:Snap) (VA:Option Addr) (vc:Nat),k≤pay.length∧vi=.int .i64 k∧v12=.slice VA (3+k) vc∧Grows w H wr Hr∧
  OwnI wr (w.heap.size+1) (.slice VA (3+k) vc) Hr ([x3,x4,x5]++(pay.take k).map zI)∧(∀ g,(Value.slice VA (3+k) vc).ownBlock=some g→Hr g=none)) (fun _ vi _=>pay.length-(intOf vi).toNat)
 case atStart=>exact⟨0,H5,_,_,Nat.zero_le _,rfl,rfl,Ac,hO,by intro g hg;simp[Value.ownBlock]at hg;subst hg;exact fo⟩
 case round =>
 obtain⟨k,Hr,VA,vc,hk,rfl,rfl,rT,ve,lj⟩:=hrel
 by_cases yu:k<pay.length
 ·obtain⟨rb,ro,hra,me⟩:=hpay.rows (by omega);obtain⟨Aj,cj,q0,hbj⟩:=me k yu;subst hra;have p0:=(rT.holds.mono rT.le).cell q0;have hlj:=hpb pay[k] (List.getElem_mem yu);obtain⟨x6,ZW⟩:∃ x,Itm.mk 2 0 pay[k] []=x:=⟨_,rfl⟩
  have B:=Hh (vF (c:=cj) (A:=Aj) (l:=pay[k]) rfl (by omega) wr (Src.of_row (hbj.row.mono rT.le) rT.holds) rT.holds);rw[ZW]at B;clear q0 me;go_wp2_with fail
  refine B.out.mono ?_
  rintro e w6 ⟨v6,rfl,ja,jb,jc,jd,H6,rfl,xq,rV⟩
  have rU:=((ve.below xq.below).mono xq.le).alloc (.cells (zV x6 ja jb jc jd).toArray 26);have wJ:=(rT.trans xq).alloc (.cells (zV x6 ja jb jc jd).toArray 26);have nP:∀ g,(Value.slice VA (3+k) vc).ownBlock=some g→H6 g=none:=fun g hg=>xq.none (lj g hg) (ve.lt g hg).2
  clear p0 B;go_wp2_with (at_builtin;refine zH ?_)
  refine xr rfl (.tmp 42) (.tmp 45) rfl (w.heap.size+1) (.slice VA (3+k) vc) H6 _ rfl rU _ 1 _ (zV x6 ja jb jc jd) [x6] rfl rfl (ItemsC.one rV) (Src.new _ _ _ _ rfl _ rfl) (by simp;omega) (by have:=wJ.size;have:=xq.size;have:=rT.size;simp at *;omega) fun v' w7 vT ww hat7=>?_
  obtain⟨VA',vc',rfl,_⟩:=vT.form;have xJ:=wJ.grownRow nP (fun g hg=>by have:=(rU.lt g hg).1;omega) ww
  have pm:∀ g,(Value.slice VA' ([x3,x4,x5]++(pay.take k).map zI++[x6]).length vc').ownBlock=some g→H6 g=none:=fun g hg=>by
   rcases hat7 with h | ⟨g',h1,h2⟩
   ·exact nP g (by rw[← h,hg])
   rw[hg]at h1;injection h1 with h1
   subst h1
   exact wJ.hidden h2
  have dO:([x3,x4,x5]++(pay.take k).map zI++[x6])=[x3,x4,x5]++(pay.take (k+1)).map zI:=by
   rw[List.take_succ_eq_append_getElem yu,List.map_append,← ZW]
   simp
  have wn:([x3,x4,x5]++(pay.take (k+1)).map zI).length=3+(k+1):=by simp;omega
  rw[dO,wn]at vT pm;rw[dO,wn];have zAx:(k:Int)+1≤9223372036854775807:=by omega
  clear rU ww hat7 nP wJ ve rT xq rV hbj;go_wp2_with fail
  go_roundw
  case rel=>exact⟨k+1,H6,VA',vc',by omega,by go_num,rfl,xJ,vT,pm⟩
  case measure=>simp[intOf];omega
 have qJ:k=pay.length:=by omega
 subst qJ;rw[List.take_length]at ve;have hI:Hid (xA s.data.toList p ext pay=.mk 4 0 [] ([x3,x4,x5]++pay.map zI)):=by rw[Hid,xA,← TN,← fs,← BE]
 have Ph:ModestL ([x3,x4,x5]++pay.map zI):=by
  rw[← TN,← fs,← BE]
  refine ModestL.of fun x hx=>?_
  simp only[List.cons_append,List.nil_append,List.mem_cons,List.mem_map]at hx
  rcases hx with rfl | rfl | rfl | ⟨l,hl,rfl⟩ <;> rw[Modest,ModestL] <;> refine⟨?_,by simp,trivial⟩
  ·simpa using (by omega:s.size≤1099511627776)
  ·exact Cu
  ·omega
  have:=hpb l hl
  omega
 obtain⟨L,hL⟩:∃ L,[x3,x4,x5]++pay.map zI=L:=⟨_,rfl⟩
 have hLn:L.length=3+pay.length:=by rw[← hL];simp;omega
 rw[hL]at ve Ph hI;obtain⟨cs,oq,me⟩:=ve;obtain⟨x7,jz⟩:∃ x,Itm.mk 4 0 [] L=x:=⟨_,rfl⟩
 have AR:=Hh (UZ L VA (3+pay.length) vc wr cs (Src.of_own me) oq hLn.symm (by omega) Ph rT.holds);rw[jz]at AR hI;clear hL Ph me oq TN fs BE hO;go_wp2_with fail
 refine AR.out.mono ?_
 rintro e w8 ⟨v8,rfl,xa,xb,xc,xd,H8,rfl,xJ,ip⟩
 have rt:=rT.trans xJ;have EN:=Hh (rJ (hTab.mono rt.le) ip.arg w8 rt.holds);clear AR xJ rT;go_wp2_with fail
 refine EN.out.mono ?_
 rintro e w9 (⟨hv,rfl,mg⟩ | ⟨hv,r,rfl,lJ⟩)
 ·have E:Hid (xy s.data.toList p u ext pay=8):=by rw[Hid,xy,if_neg (by simp[Lt.out.1]),if_neg (by simp[Lt.out.2]),hI.out,if_pos hv]
  have yz:=rt.below.trans (mg.mono rt.size);clear hv;exact jbZ
 have E:Hid (xy s.data.toList p u ext pay=0):=by rw[Hid,xy,if_neg (by simp[Lt.out.1]),if_neg (by simp[Lt.out.2]),hI.out,if_neg (by simp[hv])]
 have R:Hid (Fresh w (zZ x7) r w9):=⟨lJ.own.more rt.size,rt.below.trans (lJ.2.mono rt.size)⟩
 obtain⟨RA',rc',rfl,_⟩:=lJ.own.form;clear hv lJ;go_wp2_with fail
 go_ret2
 exact⟨_,zZ x7,by rw[E.out];rfl,R.out,by rw[E.out,hI.out];rfl⟩
theorem mB:∀ a b:List UInt8,Lib.compareBytes a b=0↔a=b
 | [],[]=>by rw[Lib.compareBytes];simp
 | [],y::b=>by rw[Lib.compareBytes];simp
 | x::a,[]=>by rw[Lib.compareBytes];simp
 | x::a,y::b=>by
  rw[Lib.compareBytes]
  by_cases h1:x<y
  ·rw[if_pos h1];have:x≠y:=by rintro rfl;exact UInt8.lt_irrefl x h1
   simp[this]
  rw[if_neg h1]
  by_cases h2:y<x
  ·rw[if_pos h2];have:x≠y:=by rintro rfl;exact UInt8.lt_irrefl x h2
   simp[this]
  rw[if_neg h2];have e:x=y:=UInt8.toNat_inj.1 (by rw[UInt8.lt_iff_toNat_lt]at h1 h2;omega);subst e
  simp[mB a b]
mutual
def dep:Itm→Nat
 | .mk _ _ _ l=>fz l
def fz:List Itm→Nat
 | []=>0
 | x::l=>max (dep x+1) (fz l)
end
theorem Zt:∀ {l:List Itm}{d:Nat},(∀ x∈l,dep x+1≤d)→fz l≤d
 | [],d,_=>by rw[fz];omega
 | x::l,d,h=>by
  rw[fz];have h1:=h x (by simp);have h2:=Zt (l:=l) fun y hy=>h y (by simp[hy])
  omega
theorem Rc {x:Itm}{lv lv':Nat}(h:yC x lv=true) (hl:lv'≤7):yC x lv'=true:=by
 rcases yJ h with ⟨h1,h2⟩ | ⟨h1,h2⟩
 ·rw[yC,if_pos h1];exact h2
 rw[yC,if_neg (by simp[h1])];obtain⟨h1,h2,h3,h4⟩:=yI h2
 exact decide_eq_true ⟨h1,h2,by omega,h4⟩
mutual
theorem Good.deep:∀ {x:Itm}{lv lv':Nat},Good x lv→dep x+lv'≤7→Good x lv'
 | .mk k n bs l,lv,lv',h,hl=>by
  rw[Good]at h⊢;rw[dep]at hl
  exact⟨Rc h.1 (by omega),GoodL.deep h.2.1 (by omega),h.2.2⟩
theorem GoodL.deep:∀ {l:List Itm}{lv lv':Nat},GoodL l lv→fz l+lv'≤8→GoodL l lv'
 | [],_,_,_,_=>by rw[GoodL];trivial
 | x::l,lv,lv',h,hl=>by
  rw[GoodL]at h⊢;rw[fz]at hl
  exact⟨Good.deep h.1 (by omega),GoodL.deep h.2 (by omega)⟩
end
theorem re:∀ l m:List Itm,yf (l++m)=yf l+yf m
 | [],m=>by simp[yf]
 | x::l,m=>by rw[List.cons_append,yf,yf,re l m];omega
theorem Y8 (L:List Itm) (k:Nat) (y z:Itm):yf (L.take k++[y,z]++L.drop k)=yf L+cnt y+cnt z:=by
 have h:yf L=yf (L.take k)+yf (L.drop k):=by rw[← re,List.take_append_drop]
 rw[re,re,h]
 simp only[yf]
 omega
def PQ (L M:List Itm):Prop:=(∀ q,q∈zT L↔q∈zT M)∧yf L=yf M
theorem iJ:∀ {l:List Itm}{x:Itm},l.length%2=0→x∈l→∃ q,q∈zT l∧(x=q.1∨x=q.2)
 | [],x,_,h=>by cases h
 | [_],_,h,_=>by simp at h
 | a::b::l,x,h,hx=>by
  rw[zT]
  simp only[List.mem_cons]at hx
  rcases hx with rfl | rfl | hx
  ·exact⟨_,List.mem_cons_self,.inl rfl⟩
  ·exact⟨_,List.mem_cons_self,.inr rfl⟩
  obtain⟨q,h1,h2⟩:=iJ (l:=l) (by simp at h;omega) hx
  exact⟨q,List.mem_cons_of_mem _ h1,h2⟩
end Go.Proofs.YtliomcphdnppnaaGreatDoor
