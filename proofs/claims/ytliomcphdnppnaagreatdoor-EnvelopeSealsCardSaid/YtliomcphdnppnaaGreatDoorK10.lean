/- squeezed. Walk: cbor.Find. Walks: header.pai -/
import Derived.Test.YtliomcphdnppnaaGreatDoorK09
import Derived.Deep.DeepCutAuto
set_option linter.unusedVariables false
set_option linter.unusedSimpArgs false
set_option maxRecDepth 100000
set_option maxHeartbeats 6400000
namespace Go.Proofs.YtliomcphdnppnaaGreatDoor
open Go.RowKit
theorem wX {H:Snap}(hT:Tabs H) {k n:Int}{ba:Option Addr}{bl bc:Nat}{ia:Option Addr}{il ic:Nat}{x:Itm}(hx:ItemA H k n ba bl bc ia il ic x)
  {k' n':Int} {ba':Option Addr} {bl' bc':Nat} {ia':Option Addr} {il' ic':Nat} {y:Itm} (hy:ItemA H k' n' ba' bl' bc' ia' il' ic' y) (w:World) (hH:Holds w H) :
  Calls Tryz.prog 68 #[.agg #[.int .i64 k,.int .u64 n,.slice ba bl bc,.slice ia il ic],.agg #[.int .i64 k',.int .u64 n',.slice ba' bl' bc',.slice ia' il' ic']] w
   fun e w'=>∃ v,e=.returned (.tuple #[v,.bool (yt x y).isSome])∧Gives w H ((yt x y).getD zm) v w':=by
 obtain⟨rfl,rfl,rfl,rfl,qf⟩:=hx.eqs;obtain⟨rfl,rfl,rfl,rfl,Tm⟩:=hy.eqs;have HX:=Hh qf;have DG:=Hh hx;have Gr:=Hh hy;have yO:=((Blk.new w 26 #[.int .i64 x.kind,.int .u64 x.n,.slice ba x.bytes.length bc,.slice ia x.items.length ic]).alloc (zi y ba' bc' ia' ic')).alloc zW;have yV:=(Blk.new (w.alloc (zi x ba bc ia ic)) 26 #[.int .i64 y.kind,.int .u64 y.n,.slice ba' y.bytes.length bc',.slice ia' y.items.length ic']).alloc zW;have ut:=Blk.new ((w.alloc (zi x ba bc ia ic)).alloc (zi y ba' bc' ia' ic')) 26 #[.int .i64 0,.int .u64 0,.slice none 0 0,.slice none 0 0];have di:=(((Grows.refl hH).alloc (zi x ba bc ia ic)).alloc (zi y ba' bc' ia' ic')).alloc zW
 simp only[zu]at yV ut
 have Pf:H (w.heap.size+1+1)=none:=hH.none_of_ge (by omega)
 by_cases h5:x.kind=5
 ·have k5:(x.kind != 5)=false:=by simp[h5]
  have H5:=Hh h5;clear h5;have V:=Hh (ti hT hx _ di.holds)
  cases hvx:zX x with
  | false =>
   have E:Hid (yt x y=none):=by rw[Hid,yt,if_neg (by simp[hvx])]
   have HG:=Hh di;rw[hvx]at V;clear hvx qf Tm hx hy di;go_enter Tryz.func68,Tryz.ntmps68
   go_wp2_with fail
   refine V.out.mono ?_
   rintro e w1 ⟨rfl,zH⟩
   have ut:=ut.below zH;have bL:=Hh (HG.out.below_ zH);clear yO yV zH HG;go_wp2_with (with_reducible refine zx ?_)
   refine stI ut fun w6 lZ xO=>?_
   go_wp2_with fail
   refine zf rfl rfl lZ rfl rfl zp rfl ?_
   rw[E.out]
   exact⟨_,rfl,none,0,none,0,H,rfl,bL.out.grownOwn Pf (by omega) xO,IsItem.plain H 0 0 (by omega) (by omega)⟩
  | true =>
  have lg:=zE hvx;obtain⟨jn,iw,FQ,vW⟩:=wR hvx;have xB:=Hh (tS hvx H5.out);have Ov:=Hh hvx;rw[hvx]at V;clear hvx qf Tm hx hy;go_enter Tryz.func68,Tryz.ntmps68
  go_wp2_with fail
  refine V.out.mono ?_
  rintro e w1 ⟨rfl,zH⟩
  have yO:=yO.below zH;have yV:=yV.below zH;have ut:=ut.below zH;have sC:=di.below_ zH;have q0:=yV.cell 0 rfl;have q1:=yV.cell 1 rfl;have q2:=yV.cell 2 rfl;have q3:=yV.cell 3 rfl;have V2:=Hh (ti hT Gr.out _ sC.holds)
  cases hvy:zX y with
  | false =>
   have E:Hid (yt x y=none):=by rw[Hid,yt,if_neg (by simp[hvy])]
   rw[hvy]at V2;clear hvy;go_wp2_with fail
   refine V2.out.mono ?_
   rintro e w2 ⟨rfl,zG⟩
   have ut:=ut.below zG;have KE:=Hh (sC.below_ zG);clear yO yV zH zG q0 q1 q2 q3 sC di;go_wp2_with (with_reducible refine zx ?_)
   refine stI ut fun w6 lZ xO=>?_
   go_wp2_with fail
   refine zf rfl rfl lZ rfl rfl zp rfl ?_
   rw[E.out]
   exact⟨_,rfl,none,0,none,0,H,rfl,KE.out.grownOwn Pf (by omega) xO,IsItem.plain H 0 0 (by omega) (by omega)⟩
  | true =>
  obtain⟨Ye,_,jj⟩:=vK hvy;have E:Hid (yt x y=oq (zh y) x.items):=by rw[Hid,yt,if_pos ⟨H5.out,Ov.out,hvy⟩]
  rw[hvy]at V2;clear hvy;go_wp2_with fail
  refine V2.out.mono ?_
  rintro e w2 ⟨rfl,zG⟩
  have yO:=yO.below zG;have yV:=yV.below zG;have ut:=ut.below zG;have xR:=sC.below_ zG;have A:=Hh (rU y H _ _ _ _ _ _ _ _ w2 w2.heap.size (.slice none 0 0) [] Ye Gr.out xR.holds (OwnB.nil _ _) (Nat.le_refl _) (by simp[Value.ownBlock]) (by simp;omega));clear zH zG q0 q1 q2 q3 sC di;have q0:=yV.cell 0 rfl;have q1:=yV.cell 1 rfl;have q2:=yV.cell 2 rfl;have q3:=yV.cell 3 rfl;go_wp2_with fail
  refine A.out.mono ?_
  rintro e w3 ⟨r,rfl,xt,nd,_⟩
  obtain⟨KA,kc,rfl,_,_,ri⟩:=xt.form;rw[List.nil_append]at xt ri;have xn:=yo nd;have R3:=yO.below xn;have Nh:=ut.below xn;have Lr:=Hh (xR.below_ xn);have c3:=R3.cell 3 rfl;clear yV q0 q1 q2 q3 xR A V V2 nd;go_upto_region 5 with fail
  go_loopw [7] (fun vi wr=>∃ k:Nat,k≤x.items.length∧k%2=0∧vi=.int .i64 k∧oq (zh y) (x.items.drop k)=yt x y∧Below w3.heap.size w3 wr) (fun vi _=>x.items.length-(intOf vi).toNat)
  case atStart=>exact⟨0,Nat.zero_le _,rfl,rfl,by rw[E.out];simp,Below.refl _ _⟩
  case round =>
  obtain⟨k,hk,ir,rfl,hf,yS⟩:=hrel;have KF:=Hh (Lr.out.below_ yS);have d3:=(R3.below yS).cell 3 rfl
  by_cases zB:k<x.items.length
  ·have xB:=xB.out;have oL:k+1<x.items.length:=by omega
   have vR:=bm (zh y) x.items k oL;rw[hf]at vR;obtain⟨ib,io,tf,xI⟩:=HX.out.items (by omega);subst tf;obtain⟨eba,ebc,eia,eic,z0,z1,z2,z3,nX⟩:=xI.get k zB;have yD:=KF.out.holds;have p0:=yD.cell z0;have p1:=yD.cell z1;have p2:=yD.cell z2;have p3:=yD.cell z3;have aG:=Hh vR;have A:=Hh (rU x.items[k] H _ _ _ _ _ _ _ _ wr wr.heap.size (.slice none 0 0) [] (FQ.get k zB) nX.arg yD (OwnB.nil _ _) (Nat.le_refl _) (by simp[Value.ownBlock]) (by have:=Wo x.items k zB;simp;omega));clear z0 z1 z2 z3 nX vR hf xB;go_wp2_with fail
   refine A.out.mono ?_
   rintro e w4 ⟨r,rfl,lQ,og,_⟩
   obtain⟨EA,ec,rfl,_,_,TC⟩:=lQ.form;rw[List.nil_append]at lQ TC;have sK:=yo og;have Q:=Hh (pa w4 EA KA (zh x.items[k]) (zh y) (zh x.items[k]).length (zh y).length ec kc rfl rfl TC (ri.below (yS.trans (sK.mono yS.size))));have NY:=Hh (KF.out.below_ sK);have Ni:=(R3.below yS).below sK;have Uo:=(Nh.below yS).below sK;have JQ:=yS.trans (sK.mono yS.size);have e3:=Ni.cell 3 rfl;clear d3 p0 p1 p2 p3 A og yS yD;go_wp2_with fail
   refine Q.out.mono ?_
   rintro e w5 ⟨rfl,rfl⟩
   cases hq:(zh x.items[k]==zh y) with
   | true =>
    have E2:Hid (yt x y=some x.items[k+1]):=aG.out.trans (if_pos (by simpa using hq));obtain⟨eba',ebc',eia',eic',z0,z1,z2,z3,nX⟩:=xI.get (k+1) oL;have yD:=NY.out.holds;have p0:=yD.cell z0;have p1:=yD.cell z1;have p2:=yD.cell z2;have p3:=yD.cell z3;have C:=Hh (pe x.items[k+1] H _ _ eba' _ ebc' eia' _ eic' w4 (lg.parts.2.2.get (k+1) oL) nX.arg yD);have i1:((k:Int)+1).toNat=k+1:=by omega
    have i2:(k:Int)+1<x.items.length:=by omega
    have i3:IntKind.i64.wrap ((k:Int)+1)=(k:Int)+1:=IntWalk.i64_in _ (by omega);clear z0 z1 z2 z3 nX hq Q xI;go_wp2_with fail
    refine C.out.mono ?_
    rintro e w5 ⟨v,rfl,rba,rbc,ria,ric,Hs,rfl,wn,PZ⟩
    have FJ:=Uo.below wn.below;have Jl:=wn.none Pf (by have:=Uo.lt;omega);have Ee:=Hh (NY.out.trans wn);clear e3 p0 p1 p2 p3 C Ni;go_wp2_with (with_reducible refine zx ?_)
    refine stI FJ fun w6 lZ xO=>?_
    go_wp2_with fail
    refine zf rfl rfl lZ rfl rfl zp rfl ?_
    rw[E2.out]
    exact⟨_,rfl,rba,rbc,ria,ric,Hs,rfl,Ee.out.grownOwn Jl (by omega) xO,PZ⟩
   | false =>
   have E2:Hid (oq (zh y) (x.items.drop (k+2))=yt x y):=(aG.out.trans (if_neg (by simpa using hq))).symm;have xB:=xB.out;have i3:IntKind.i64.wrap ((k:Int)+2)=(k:Int)+2:=IntWalk.i64_in _ (by omega);clear hq Q xI e3;go_wp2_with fail
   go_roundw
   case rel=>exact⟨k+2,by omega,by omega,by go_num,E2.out,JQ⟩
   case measure=>simp[intOf];omega
  have E2:Hid (yt x y=none):=by
   rw[Hid,← hf,List.drop_eq_nil_of_le (by omega)];rfl
  have Uo:=Nh.below yS;clear hf;go_wp2_with (with_reducible refine zx ?_)
  refine stI Uo fun w6 lZ xO=>?_
  go_wp2_with fail
  refine zf rfl rfl lZ rfl rfl zp rfl ?_
  rw[E2.out]
  exact⟨_,rfl,none,0,none,0,H,rfl,KF.out.grownOwn Pf (by omega) xO,IsItem.plain H 0 0 (by omega) (by omega)⟩
 have k5:(x.kind != 5)=true:=by simp[h5]
 have E:Hid (yt x y=none):=by rw[Hid,yt,if_neg (by simp[h5])]
 clear h5;have HG:=Hh di;clear qf Tm hx hy di;go_enter Tryz.func68,Tryz.ntmps68
 go_wp2_with (with_reducible refine zx ?_)
 refine stI ut fun w6 lZ xO=>?_
 go_wp2_with fail
 refine zf rfl rfl lZ rfl rfl zp rfl ?_
 rw[E.out]
 exact⟨_,rfl,none,0,none,0,H,rfl,HG.out.grownOwn Pf (by omega) xO,IsItem.plain H 0 0 (by omega) (by omega)⟩
theorem ZL:(Tryz.prog.info? 100).map (fun i=>(i.zero,i.size,i.bytes))=some (some (.agg #[.int .i64 0,.int .u64 0,.slice none 0 0,.slice none 0 0,.int .i64 0,.int .u64 0,.slice none 0 0,.slice none 0 0]),8,128):=by kernel_rfl
theorem nr {H:Snap}{k n:Int}{ba:Option Addr}{bl bc:Nat}{ia:Option Addr}{il ic:Nat}{x:Itm}(hx:ItemA H k n ba bl bc ia il ic x) (xB:x.items.length%2=0) (xo:x.items.length≤1099511627776) (w:World) (hH:Holds w H) :
  Calls Tryz.prog 66 #[.agg #[.int .i64 k,.int .u64 n,.slice ba bl bc,.slice ia il ic]] w
   fun e w'=>∃ A c cs,e=.returned (.slice A (x.items.length/2) c)∧Src w' A cs∧ItemsC H cs x.items∧Below w.heap.size w w':=by
 obtain⟨rfl,rfl,rfl,rfl,qf⟩:=hx.eqs;have HX:=Hh qf;have HE:=Hh xB;have yO:=Blk.new w 26 #[.int .i64 x.kind,.int .u64 x.n,.slice ba x.bytes.length bc,.slice ia x.items.length ic];have EW:=Hh (zq w (zi x ba bc ia ic));obtain⟨i0,uF,mP,rM,qg⟩:=info_parts ZL;clear qf hx xB;go_enter Tryz.func66,Tryz.ntmps66
 go_upto_region 3 with fail
 go_loopw [3,4] (fun v3 v4 wr=>∃ (k:Nat) (VA:Option Addr) (vc:Nat) (pre:List Value),k*2≤x.items.length∧v4=.int .i64 ((k:Int)*2)∧v3=.slice VA k vc∧Below w.heap.size w wr∧
  Blk wr w.heap.size 26 #[.int .i64 x.kind,.int .u64 x.n,.slice ba x.bytes.length bc,.slice ia x.items.length ic]∧wr.ownsRow (w.heap.size+1) 100 8 (.slice VA k vc) k pre∧ItemsC H pre (x.items.take (k*2))) (fun _ v4 _=>x.items.length-(intOf v4).toNat)
 case atStart=>exact⟨0,none,0,[],by omega,rfl,rfl,EW.out,yO,World.ownsRow_nil _ _ _ _,by simp[ItemsC]⟩
 case round =>
 obtain⟨k,VA,vc,pre,hk,rfl,rfl,hb,tE,xt,nT⟩:=hrel;have c3:=tE.cell 3 rfl;have qe:IntKind.i64.wrap ((k:Int)*2+1)=(k:Int)*2+1:=IntWalk.i64_in _ (by omega);have fl:IntKind.i64.wrap ((k:Int)*2+2)=(k:Int)*2+2:=IntWalk.i64_in _ (by omega);have iu:((k:Int)*2+1).toNat=k*2+1:=by omega
 have WU:((k:Int)*2).toNat=k*2:=by omega
 by_cases zB:k*2<x.items.length
 ·have xB:=HE.out;have oL:k*2+1<x.items.length:=by omega
  have rN:(k:Int)*2+1<x.items.length:=by omega
  have pI:(k:Int)*2<x.items.length:=by omega
  have QM:(0:Int)≤(k:Int)*2+1:=by omega
  have LD:(0:Int)≤(k:Int)*2:=by omega
  obtain⟨ib,io,tf,xI⟩:=HX.out.items (by omega);subst tf;obtain⟨y1,y2,y3,y4,p0,p1,p2,p3,hy⟩:=xI.get (k*2) zB;obtain⟨z1,z2,z3,z4,q0,q1,q2,q3,hz⟩:=xI.get (k*2+1) oL
  have Mp:x.items.take (k*2)++[x.items[k*2],x.items[k*2+1]]=x.items.take ((k+1)*2):=by
   rw[show(k+1)*2=k*2+1+1 by omega,List.take_succ_eq_append_getElem oL,List.take_succ_eq_append_getElem zB]
   simp only[List.append_assoc,List.cons_append,List.nil_append]
  generalize x.items[k*2]'zB=y at *
  generalize x.items[k*2+1]'oL=z at *
  have QZ:ItemsC H (zZ y y1 y2 y3 y4++zZ z z1 z2 z3 z4) [y,z]:=(ItemsC.one hy).app (ItemsC.one hz);have yD:Holds wr H:=hH.below hb (Nat.le_refl _);clear xI;go_upto_region 5 with fail
  refine zw 15 (fun w'=>w'.cell? ⟨w.heap.size,3,none⟩=some (.slice (some ⟨ib,io,none⟩) x.items.length ic)∧w'.cell? ⟨ib,io+(k*2)*4,none⟩=some (.int .i64 y.kind)∧w'.cell? ⟨ib,io+(k*2)*4+1,none⟩=some (.int .u64 y.n)∧w'.cell? ⟨ib,io+(k*2)*4+2,none⟩=some (.slice y1 y.bytes.length y2)∧w'.cell? ⟨ib,io+(k*2)*4+3,none⟩=some (.slice y3 y.items.length y4)∧w'.cell? ⟨ib,io+(k*2+1)*4,none⟩=some (.int .i64 z.kind)∧w'.cell? ⟨ib,io+(k*2+1)*4+1,none⟩=some (.int .u64 z.n)∧w'.cell? ⟨ib,io+(k*2+1)*4+2,none⟩=some (.slice z1 z.bytes.length z2)∧w'.cell? ⟨ib,io+(k*2+1)*4+3,none⟩=some (.slice z3 z.items.length z4)) (by kernel_rfl) (⟨tE.drew.cell 3 rfl,yD.drew.cell p0,yD.drew.cell p1,yD.drew.cell p2,yD.drew.cell p3,yD.drew.cell q0,yD.drew.cell q1,yD.drew.cell q2,yD.drew.cell q3⟩) (fun zy=>?_)
  refine Tk 0 rfl zy ?_
  refine Tk 1 rfl zy ?_
  refine Tk 2 rfl zy ?_
  refine Tk 3 rfl zy ?_
  refine Tk 4 rfl zy ?_
  refine Tk 5 rfl zy ?_
  refine Tk 6 rfl zy ?_
  refine Tk 7 rfl zy ?_
  refine Tk 8 rfl zy ?_
  refine Tk 9 rfl zy ?_
  refine Tk 10 rfl zy ?_
  refine Tk 11 rfl zy ?_
  refine Tk 12 rfl zy ?_
  refine To 13 rfl fun K hK=>?_
  go_simp
  have hE:=World.ownsRow.alloc xt.drew (.cells (zZ y y1 y2 y3 y4++zZ z z1 z2 z3 z4).toArray 100);have qI:=tE.drew.alloc (.cells (zZ y y1 y2 y3 y4++zZ z z1 z2 z3 z4).toArray 100);have WK:=yD.drew.alloc (.cells (zZ y y1 y2 y3 y4++zZ z z1 z2 z3 z4).toArray 100)
  refine Ko hK ?_ fun zy=>?_
  ·exact⟨qI.cell 3 rfl,WK.cell p0,WK.cell p1,WK.cell p2,WK.cell p3,WK.cell q0,WK.cell q1,WK.cell q2,WK.cell q3⟩
  clear hK K
  refine To 14 rfl fun K hK=>?_
  rw[if_pos (by rfl)]
  refine wP (.tmp 13) (.tmp 26) 97 rfl (w.heap.size+1) 100 i0 _ 8 128 Tryz.underlying97 uF mP rM qg rfl (by omega) (.slice VA k vc) k pre rfl hE _ 1 _ (zZ y y1 y2 y3 y4++zZ z z1 z2 z3 z4) rfl (by simp[zZ]) (Src.new _ _ _ _ rfl _ rfl) (ItemsC.oneCell QZ) (by simp only[maxLen];omega) (by omega) (by have:=tE.lt;simp;omega) fun v' w5 qV yF ve=>?_
  have YR:=qI.grown yF (fun h=>by have:=(World.ownsRow.lt xt _ h).1;omega);have Vf:=WK.grown yF (fun g hg=>hH.none_of_ge (by have:=(World.ownsRow.lt xt g hg).1;omega))
  refine Ko hK ?_ fun zy=>?_
  ·exact⟨YR.cell 3 rfl,Vf.cell p0,Vf.cell p1,Vf.cell p2,Vf.cell p3,Vf.cell q0,Vf.cell q1,Vf.cell q2,Vf.cell q3⟩
  clear hK K
  refine To 15 rfl fun K hK=>?_
  go_simp
  refine Kz hK ?_
  clear hK K
  refine Wd ?_
  obtain⟨VA',vc',rfl⟩:∃ A c,v'=.slice A (k+1) c:=by
   rcases qV.2 with ⟨_,h⟩ | ⟨g,cap,cur,h,_⟩
   ·omega
   exact⟨_,_,h⟩
  have yN:Below w.heap.size w w5:=((hb.drew).alloc hb.size _).grown yF (by have:=hb.size;simp;omega) (fun g hg=>by have:=(World.ownsRow.lt xt g hg).1;omega);have NH:ItemsC H (pre++(zZ y y1 y2 y3 y4++zZ z z1 z2 z3 z4)) (x.items.take ((k+1)*2)):=by rw[← Mp];exact nT.app QZ
  clear zy p0 p1 p2 p3 q0 q1 q2 q3 tE c3 xt yF ve qI WK Vf hE nT hb;go_wp2_with fail
  go_roundw
  case rel=>exact⟨k+1,VA',vc',_,by omega,by rw[show((k+1:Nat):Int)*2=(k:Int)*2+2 by omega],rfl,yN,YR,qV,NH⟩
  case measure=>simp[intOf];omega
 have xB:=HE.out;have ji:k*2=x.items.length:=by omega
 have hd:x.items.length/2=k:=by omega
 rw[ji,List.take_length]at nT;have rN:(x.items.length:Int)≤(k:Int)*2+1:=by omega
 have HD:=Hh hd;clear hd ji xB;go_wp2_with fail
 go_ret
 rw[HD.out]
 exact⟨VA,vc,pre,rfl,Src.of_own xt,nT,hb⟩
theorem jA (k n:Int) (ba:Option Addr) (bl bc:Nat) (ia:Option Addr) (il ic:Nat) (w:World) :
  Calls Tryz.prog 106 #[.agg #[.int .i64 k,.int .u64 n,.slice ba bl bc,.slice ia il ic]] w
   fun e w'=>e=.returned (.bool ((k==0||k==1)&&decide (n≤65535)))∧Below w.heap.size w w':=by
 go_enter Tryz.func106,Tryz.ntmps106
 go_wp2_with fail
 all_goals
  go_ret
  refine⟨?_,zq _ _⟩
  show Ending.returned (Value.bool _)=_
  simp_all
theorem pX {H:Snap}{k n:Int}{ba:Option Addr}{bl bc:Nat}{ia:Option Addr}{il ic:Nat}{x:Itm}(hx:ItemA H k n ba bl bc ia il ic x) (w:World) :
  Calls Tryz.prog 106 #[.agg #[.int .i64 k,.int .u64 n,.slice ba bl bc,.slice ia il ic]] w
   fun e w'=>e=.returned (.bool (wh x))∧Below w.heap.size w w':=by
 obtain⟨rfl,rfl,rfl,rfl,qf⟩:=hx.eqs
 refine(jA x.kind x.n ba _ bc ia _ ic w).mono ?_
 rintro e w' ⟨rfl,hb⟩
 refine⟨?_,hb⟩
 rw[wh];congr 3
 simp
 omega
theorem mw {H:Snap}{ba:Option Addr}{bc:Nat}{ia:Option Addr}{ic:Nat}{x:Itm}(hx:IsItem H ba bc ia ic x)
  {ba':Option Addr} {bc':Nat} {ia':Option Addr} {ic':Nat} {y:Itm} (hy:IsItem H ba' bc' ia' ic' y) (w:World) :
  Calls Tryz.prog 67 #[.agg #[.int .i64 x.kind,.int .u64 x.n,.slice ba x.bytes.length bc,.slice ia x.items.length ic,.int .i64 y.kind,.int .u64 y.n,.slice ba' y.bytes.length bc',.slice ia' y.items.length ic']] w
   fun e w'=>e=.returned (.bool (vr x y))∧Below w.heap.size w w':=by
 have N1:=fun w1=>pX hx.arg w1
 have N2:=fun w1=>pX hy.arg w1
 have zH:=zq w (.cells #[.int .i64 x.kind,.int .u64 x.n,.slice ba x.bytes.length bc,.slice ia x.items.length ic,.int .i64 y.kind,.int .u64 y.n,.slice ba' y.bytes.length bc',.slice ia' y.items.length ic'] 100);have yO:=Blk.new w 100 #[.int .i64 x.kind,.int .u64 x.n,.slice ba x.bytes.length bc,.slice ia x.items.length ic,.int .i64 y.kind,.int .u64 y.n,.slice ba' y.bytes.length bc',.slice ia' y.items.length ic'];have Py:=Hh N1;have Pz:=Hh N2;clear N1 N2 hx hy
 by_cases h3:x.kind=3
 ·have E:Hid (vr x y=true):=by rw[Hid,vr,if_pos h3]
  have k3:(x.kind==3)=true:=by simp[h3]
  clear h3;go_enter Tryz.func67,Tryz.ntmps67
  go_wp2_with fail
  go_ret
  exact⟨by rw[E.out];rfl,zH⟩
 have k3:(x.kind==3)=false:=by simp[h3]
 cases hn:wh x with
 | false =>
  have E:Hid (vr x y=false):=by rw[Hid,vr,if_neg h3,if_pos hn]
  rw[hn]at Py;clear h3 hn;go_enter Tryz.func67,Tryz.ntmps67
  go_wp2_with fail
  refine(Py.out _).mono ?_
  rintro e w1 ⟨rfl,zG⟩
  have tO:=zH.trans (zG.mono zH.size);clear zH zG;go_wp2_with fail
  go_ret
  exact⟨by rw[E.out];rfl,tO⟩
 | true =>
 rw[hn]at Py
 by_cases h1:x.kind=1
 ·have E:Hid (vr x y=true):=by rw[Hid,vr,if_neg h3,if_neg (by simp[hn]),if_pos h1]
  have k1:(x.kind==1)=true:=by simp[h1]
  clear h3 hn h1;go_enter Tryz.func67,Tryz.ntmps67
  go_wp2_with fail
  refine(Py.out _).mono ?_
  rintro e w1 ⟨rfl,zG⟩
  have c0:=(yO.below zG).cell 0 rfl;have tO:=zH.trans (zG.mono zH.size);clear zH zG yO;go_wp2_with fail
  go_ret
  exact⟨by rw[E.out];rfl,tO⟩
 have k1:(x.kind==1)=false:=by simp[h1]
 have E:Hid (vr x y=if x.n=1 then wh y&&(y.kind==1||y.n != 0) else if x.n=4∨x.n=5∨x.n=6∨x.n=12 then y.kind==2 else true):=by rw[Hid,vr,if_neg h3,if_neg (by simp[hn]),if_neg h1]
 clear h3 hn h1;go_enter Tryz.func67,Tryz.ntmps67
 go_wp2_with fail
 refine(Py.out _).mono ?_
 rintro e w1 ⟨rfl,zG⟩
 have yV:=yO.below zG;have c0:=yV.cell 0 rfl;have c1:=yV.cell 1 rfl;have c4:=yV.cell 4 rfl;have c5:=yV.cell 5 rfl;have c6:=yV.cell 6 rfl;have c7:=yV.cell 7 rfl;have tO:=zH.trans (zG.mono zH.size);clear zH zG yO
 by_cases n1:x.n=1
 ·have E2:Hid (vr x y=(wh y&&(y.kind==1||y.n != 0))):=by rw[Hid,E.out,if_pos n1]
  have m1:((x.n:Int)==1)=true:=by simp[n1]
  clear n1 E;go_wp2_with fail
  refine(Pz.out _).mono ?_
  rintro e w2 ⟨rfl,xn⟩
  have ut:=yV.below xn;have RX:=tO.trans (xn.mono tO.size);have d4:=ut.cell 4 rfl;have d5:=ut.cell 5 rfl;clear c0 c1 c4 c5 c6 c7 tO xn
  cases hm:wh y with
  | false =>
   have E3:Hid (vr x y=false):=by rw[Hid,E2.out,hm];rfl
   clear hm;go_wp2_with fail
   go_ret
   exact⟨by rw[E3.out];rfl,RX⟩
  | true =>
  by_cases g1:y.kind=1
  ·have E3:Hid (vr x y=true):=by rw[Hid,E2.out,hm,g1];rfl
   have l1:(y.kind==1)=true:=by simp[g1]
   clear hm g1;go_wp2_with fail
   go_ret
   exact⟨by rw[E3.out];rfl,RX⟩
  have l1:(y.kind==1)=false:=by simp[g1]
  have E3:Hid (vr x y=((y.n:Int) != 0)):=by
   rw[Hid,E2.out,hm,l1,Bool.true_and,Bool.false_or];rw[Bool.eq_iff_iff,bne_iff_ne,bne_iff_ne]
   omega
  clear hm g1;go_wp2_with fail
  all_goals
   go_ret
   refine⟨?_,RX⟩
   rw[E3.out];show Ending.returned (Value.bool _)=_
   simp_all
 have m1:((x.n:Int)==1)=false:=by simp;omega
 by_cases n2:x.n=4∨x.n=5∨x.n=6∨x.n=12
 ·have E2:Hid (vr x y=(y.kind==2)):=by rw[Hid,E.out,if_neg n1,if_pos n2]
  have t:(((x.n:Int)==4)=true)∨(((x.n:Int)==4)=false∧((x.n:Int)==5)=true)∨(((x.n:Int)==4)=false∧((x.n:Int)==5)=false∧((x.n:Int)==6)=true)∨(((x.n:Int)==4)=false∧((x.n:Int)==5)=false∧((x.n:Int)==6)=false∧((x.n:Int)==12)=true):=by
   simp only[beq_iff_eq,beq_eq_false_iff_ne,ne_eq]
   omega
  have T:=Hh t;clear n1 n2 E t
  rcases T.out with t1 | ⟨t1,t2⟩ | ⟨t1,t2,t3⟩ | ⟨t1,t2,t3,t4⟩
  all_goals
   go_wp2_with fail
   go_ret
   exact⟨by rw[E2.out];rfl,tO⟩
 have E2:Hid (vr x y=true):=by rw[Hid,E.out,if_neg n1,if_neg n2]
 have t1:((x.n:Int)==4)=false:=by rw[beq_eq_false_iff_ne];omega
 have t2:((x.n:Int)==5)=false:=by rw[beq_eq_false_iff_ne];omega
 have t3:((x.n:Int)==6)=false:=by rw[beq_eq_false_iff_ne];omega
 have t4:((x.n:Int)==12)=false:=by rw[beq_eq_false_iff_ne];omega
 clear n1 n2 E;go_wp2_with fail
 go_ret
 exact⟨by rw[E2.out];rfl,tO⟩
theorem pg {H:Snap}(hTab:Tabs H) {p u:Itm}{a b:Ad}(hp:IsItem H a.ba a.bc a.ia a.ic p) (hu:IsItem H b.ba b.bc b.ia b.ic u) (n:Int) (uY : -9223372036854775808≤n) (uB:n≤9223372036854775807) (w:World) (hH:Holds w H) :
  Calls Tryz.prog 69 #[.agg (zY p a u b),.int .i64 n] w
   fun e w'=>∃ v,e=.returned (.tuple #[v,.bool (vO p u n).isSome])∧Gives w H ((vO p u n).getD zm) v w':=by
 have hB:=(Blk.new w 28 (zY p a u b)).alloc zW;have hT:=Blk.new (w.alloc (.cells (zY p a u b) 28)) 26 #[.int .i64 0,.int .u64 0,.slice none 0 0,.slice none 0 0]
 simp only[zu]at hT
 have hG:=(((Grows.refl hH).alloc (.cells (zY p a u b) 28)).alloc zW).drew;have uj:H (w.heap.size+1)=none:=hH.none_of_ge (by omega);have zC:=Snap.le.refl H;go_enter Tryz.func69,Tryz.ntmps69
 go_upto_region 1 with fail
 go_cut [6,7] (fun s6 s7 wx=>∃ N ra rb rc rd Hx,s6=.pointer (some ⟨N,0,none⟩)∧s7=.bool (yt p (zg n)).isSome∧Blk wx N 26 #[.int .i64 ((yt p (zg n)).getD zm).kind,.int .u64 ((yt p (zg n)).getD zm).n,.slice ra ((yt p (zg n)).getD zm).bytes.length rb,.slice rc ((yt p (zg n)).getD zm).items.length rd]∧
  Blk wx w.heap.size 28 (zY p a u b)∧Blk wx (w.heap.size+1) 26 #[.int .i64 0,.int .u64 0,.slice none 0 0,.slice none 0 0]∧Grows w H wx Hx∧H.le Hx∧Hx (w.heap.size+1)=none∧IsItem Hx ra rb rc rd ((yt p (zg n)).getD zm))
 case first =>
  have hB:=hB.drew;have hT:=hT.drew;have tv:=hT.lt
  refine zw 10 (fun w'=>w'.cell? ⟨w.heap.size,0,none⟩=some (.int .i64 p.kind)∧w'.cell? ⟨w.heap.size,1,none⟩=some (.int .u64 p.n)∧w'.cell? ⟨w.heap.size,2,none⟩=some (.slice a.ba p.bytes.length a.bc)∧w'.cell? ⟨w.heap.size,3,none⟩=some (.slice a.ia p.items.length a.ic)) (by kernel_rfl) (⟨hB.cell 0 rfl,hB.cell 1 rfl,hB.cell 2 rfl,hB.cell 3 rfl⟩) (fun zy=>?_)
  refine Tk 0 rfl zy ?_
  refine Tk 1 rfl zy ?_
  refine Tk 2 rfl zy ?_
  refine Ways.two (i:=3) (j:=8) rfl rfl (by kernel_rfl) (fun K hK=>?_) (fun K hK=>?_)
  ·go_simp
   refine(sW n uY uB _ hG.holds).mono ?_
   rintro e w2 ⟨v2,rfl,tG⟩
   have hB:=hB.below tG.below;have hT:=hT.below tG.below
   try have hN:=hN.below tG.below
   obtain⟨ka,kb,kc,kd,H2,rfl,xR,pI⟩:=tG;have uj:=xR.none uj tv;have tv:=hT.lt;have zC:=zC.trans xR.le;have hG:=hG.trans xR
   try have vV:=xR.none vV tz
   try have tz:=hN.lt
   refine Ko hK ?_ fun zy=>?_
   ·exact⟨hB.cell 0 rfl,hB.cell 1 rfl,hB.cell 2 rfl,hB.cell 3 rfl⟩
   clear hK K
   refine Ways.two (i:=4) (j:=8) rfl rfl (by kernel_rfl) (fun K hK=>?_) (fun K hK=>?_)
   ·go_simp
    refine(wX (hTab.mono zC) (hp.mono zC).arg pI.arg _ hG.holds).mono ?_
    rintro e w3 ⟨v3,rfl,rt⟩
    have hB:=hB.below rt.below;have hT:=hT.below rt.below
    try have hN:=hN.below rt.below
    obtain⟨ra,rb,rc,rd,H3,rfl,ye,rp⟩:=rt;have uj:=ye.none uj tv;have tv:=hT.lt;have zC:=zC.trans ye.le;have hG:=hG.trans ye
    try have vV:=ye.none vV tz
    try have tz:=hN.lt
    refine Ko hK ?_ fun zy=>?_
    ·exact⟨hB.cell 0 rfl,hB.cell 1 rfl,hB.cell 2 rfl,hB.cell 3 rfl⟩
    clear hK K
    refine Tk 5 rfl zy ?_
    refine Tk 6 rfl zy ?_
    refine Tk 7 rfl zy ?_
    refine To 8 rfl fun K hK=>?_
    go_simp
    have hN:=hG.newBlk 26 #[.int .i64 0,.int .u64 0,.slice none 0 0,.slice none 0 0]
    try simp only[zj,zu]at hN
    have vV:=hG.hidden (Nat.le_refl _)
    try simp only[zj,zu]at vV
    have rM:=tv;have qg:=hG.size;have hB:=hB.alloc zW;have hT:=hT.alloc zW;have hG:=hG.alloc zW;have tv:=hT.lt;have tz:=hN.lt
    refine Ko hK ?_ fun zy=>?_
    ·exact⟨hB.cell 0 rfl,hB.cell 1 rfl,hB.cell 2 rfl,hB.cell 3 rfl⟩
    clear hK K
    refine To 9 rfl fun K hK=>?_
    rw[if_pos (by rfl)]
    refine zk _ _ _ rfl _ _ rfl rfl _ _ hN zp rfl (uf _ _ _ _ rfl rfl rfl rfl) fun w5 hN5 yF=>?_
    have hB:=hB.grown yF (by first | (simp;done) | (simp;omega));have hT:=hT.grown yF (by first | (simp;done) | (simp;omega));have hG:=hG.grownOwn vV (by first | exact qg | omega) yF
    refine Ko hK ?_ fun zy=>?_
    ·exact⟨hB.cell 0 rfl,hB.cell 1 rfl,hB.cell 2 rfl,hB.cell 3 rfl⟩
    clear hK K
    refine To 10 rfl fun K hK=>?_
    go_simp
    refine Kz hK ?_
    clear hK K
    refine Wd ?_
    go_wp2_with fail
    go_meet
    exact⟨_,ra,rb,rc,rd,_,rfl,rfl,hN5,hB,hT,hG,zC,uj,rp⟩
   go_simp
   have hN:=hG.newBlk 26 #[.int .i64 0,.int .u64 0,.slice none 0 0,.slice none 0 0]
   try simp only[zj,zu]at hN
   have vV:=hG.hidden (Nat.le_refl _)
   try simp only[zj,zu]at vV
   have rM:=tv;have qg:=hG.size;have hB:=hB.alloc zW;have hT:=hT.alloc zW;have hG:=hG.alloc zW;have tv:=hT.lt;have tz:=hN.lt
   refine Ko hK ?_ fun zy=>?_
   ·exact⟨hB.cell 0 rfl,hB.cell 1 rfl,hB.cell 2 rfl,hB.cell 3 rfl⟩
   clear hK K
   refine To 4 rfl fun K hK=>?_
   go_simp
   refine(wX (hTab.mono zC) (hp.mono zC).arg pI.arg _ hG.holds).mono ?_
   rintro e w3 ⟨v3,rfl,rt⟩
   have hB:=hB.below rt.below;have hT:=hT.below rt.below
   try have hN:=hN.below rt.below
   obtain⟨ra,rb,rc,rd,H3,rfl,ye,rp⟩:=rt;have uj:=ye.none uj tv;have tv:=hT.lt;have zC:=zC.trans ye.le;have hG:=hG.trans ye
   try have vV:=ye.none vV tz
   try have tz:=hN.lt
   refine Ko hK ?_ fun zy=>?_
   ·exact⟨hB.cell 0 rfl,hB.cell 1 rfl,hB.cell 2 rfl,hB.cell 3 rfl⟩
   clear hK K
   refine Tk 5 rfl zy ?_
   refine Tk 6 rfl zy ?_
   refine Tk 7 rfl zy ?_
   refine To 9 rfl fun K hK=>?_
   rw[if_pos (by rfl)]
   refine zk _ _ _ rfl _ _ rfl rfl _ _ hN zp rfl (uf _ _ _ _ rfl rfl rfl rfl) fun w5 hN5 yF=>?_
   have hB:=hB.grown yF (by first | (simp;done) | (simp;omega));have hT:=hT.grown yF (by first | (simp;done) | (simp;omega));have hG:=hG.grownOwn vV (by first | exact qg | omega) yF
   refine Ko hK ?_ fun zy=>?_
   ·exact⟨hB.cell 0 rfl,hB.cell 1 rfl,hB.cell 2 rfl,hB.cell 3 rfl⟩
   clear hK K
   refine To 10 rfl fun K hK=>?_
   go_simp
   refine Kz hK ?_
   clear hK K
   refine Wd ?_
   go_wp2_with fail
   go_meet
   exact⟨_,ra,rb,rc,rd,_,rfl,rfl,hN5,hB,hT,hG,zC,uj,rp⟩
  go_simp
  have hN:=hG.newBlk 26 #[.int .i64 0,.int .u64 0,.slice none 0 0,.slice none 0 0]
  try simp only[zj,zu]at hN
  have vV:=hG.hidden (Nat.le_refl _)
  try simp only[zj,zu]at vV
  have rM:=tv;have qg:=hG.size;have hB:=hB.alloc zW;have hT:=hT.alloc zW;have hG:=hG.alloc zW;have tv:=hT.lt;have tz:=hN.lt
  refine Ko hK ?_ fun zy=>?_
  ·exact⟨hB.cell 0 rfl,hB.cell 1 rfl,hB.cell 2 rfl,hB.cell 3 rfl⟩
  clear hK K
  refine To 3 rfl fun K hK=>?_
  go_simp
  refine(sW n uY uB _ hG.holds).mono ?_
  rintro e w2 ⟨v2,rfl,tG⟩
  have hB:=hB.below tG.below;have hT:=hT.below tG.below
  try have hN:=hN.below tG.below
  obtain⟨ka,kb,kc,kd,H2,rfl,xR,pI⟩:=tG;have uj:=xR.none uj tv;have tv:=hT.lt;have zC:=zC.trans xR.le;have hG:=hG.trans xR
  try have vV:=xR.none vV tz
  try have tz:=hN.lt
  refine Ko hK ?_ fun zy=>?_
  ·exact⟨hB.cell 0 rfl,hB.cell 1 rfl,hB.cell 2 rfl,hB.cell 3 rfl⟩
  clear hK K
  refine To 4 rfl fun K hK=>?_
  go_simp
  refine(wX (hTab.mono zC) (hp.mono zC).arg pI.arg _ hG.holds).mono ?_
  rintro e w3 ⟨v3,rfl,rt⟩
  have hB:=hB.below rt.below;have hT:=hT.below rt.below
  try have hN:=hN.below rt.below
  obtain⟨ra,rb,rc,rd,H3,rfl,ye,rp⟩:=rt;have uj:=ye.none uj tv;have tv:=hT.lt;have zC:=zC.trans ye.le;have hG:=hG.trans ye
  try have vV:=ye.none vV tz
  try have tz:=hN.lt
  refine Ko hK ?_ fun zy=>?_
  ·exact⟨hB.cell 0 rfl,hB.cell 1 rfl,hB.cell 2 rfl,hB.cell 3 rfl⟩
  clear hK K
  refine Tk 5 rfl zy ?_
  refine Tk 6 rfl zy ?_
  refine Tk 7 rfl zy ?_
  refine To 9 rfl fun K hK=>?_
  rw[if_pos (by rfl)]
  refine zk _ _ _ rfl _ _ rfl rfl _ _ hN zp rfl (uf _ _ _ _ rfl rfl rfl rfl) fun w5 hN5 yF=>?_
  have hB:=hB.grown yF (by first | (simp;done) | (simp;omega));have hT:=hT.grown yF (by first | (simp;done) | (simp;omega));have hG:=hG.grownOwn vV (by first | exact qg | omega) yF
  refine Ko hK ?_ fun zy=>?_
  ·exact⟨hB.cell 0 rfl,hB.cell 1 rfl,hB.cell 2 rfl,hB.cell 3 rfl⟩
  clear hK K
  refine To 10 rfl fun K hK=>?_
  go_simp
  refine Kz hK ?_
  clear hK K
  refine Wd ?_
  go_wp2_with fail
  go_meet
  exact⟨_,ra,rb,rc,rd,_,rfl,rfl,hN5,hB,hT,hG,zC,uj,rp⟩
 case rest =>
 obtain⟨N,ra,rb,rc,rd,Hx,rfl,rfl,hN,hB,hT,hG,zC,uj,hi⟩:=hcut;have tv:=hT.lt
 cases hf:yt p (zg n) with
 | some x =>
  have E:Hid (vO p u n=some x):=by rw[Hid,vO,hf]
  rw[hf]at hN hi
  simp only[Option.getD_some]at hN hi
  have n0:=hN.cell 0 rfl;have n1:=hN.cell 1 rfl;have n2:=hN.cell 2 rfl;have n3:=hN.cell 3 rfl;clear hf;go_wp2_with (with_reducible refine zx ?_)
  refine stI hT fun w6 lZ xO=>?_
  go_wp2_with fail
  refine zf rfl rfl lZ rfl rfl zp rfl ?_
  rw[E.out]
  exact⟨_,rfl,ra,rb,rc,rd,Hx,rfl,hG.grownOwn uj (by omega) xO,hi⟩
 | none =>
 have E:Hid (vO p u n=yt u (zg n)):=by rw[Hid,vO,hf]
 clear hN hi hf;have hB:=hB.drew;have hT:=hT.drew;have hG:=hG.drew;have tv:=hT.lt;go_upto_region 4 with fail
 refine zw 8 (fun w'=>w'.cell? ⟨w.heap.size,4,none⟩=some (.int .i64 u.kind)∧w'.cell? ⟨w.heap.size,5,none⟩=some (.int .u64 u.n)∧w'.cell? ⟨w.heap.size,6,none⟩=some (.slice b.ba u.bytes.length b.bc)∧w'.cell? ⟨w.heap.size,7,none⟩=some (.slice b.ia u.items.length b.ic)) (by kernel_rfl) (⟨hB.cell 4 rfl,hB.cell 5 rfl,hB.cell 6 rfl,hB.cell 7 rfl⟩) (fun zy=>?_)
 refine Tk 0 rfl zy ?_
 refine Tk 1 rfl zy ?_
 refine Tk 2 rfl zy ?_
 refine To 3 rfl fun K hK=>?_
 go_simp
 refine(sW n uY uB _ hG.holds).mono ?_
 rintro e w7 ⟨v7,rfl,oS⟩
 have hB:=hB.below oS.below;have hT:=hT.below oS.below;obtain⟨sa,sb,sc,sd,H7,rfl,wF,ff⟩:=oS;have uj:=wF.none uj tv;have tv:=hT.lt;have zC:=zC.trans wF.le;have hG:=hG.trans wF
 refine Ko hK ?_ fun zy=>?_
 ·exact⟨hB.cell 4 rfl,hB.cell 5 rfl,hB.cell 6 rfl,hB.cell 7 rfl⟩
 clear hK K
 refine To 4 rfl fun K hK=>?_
 go_simp
 refine(wX (hTab.mono zC) (hu.mono zC).arg ff.arg _ hG.holds).mono ?_
 rintro e w8 ⟨v8,rfl,sM⟩
 have hB:=hB.below sM.below;have hT:=hT.below sM.below;obtain⟨ta,tb,tc,td,H8,rfl,xp,nf⟩:=sM;have uj:=xp.none uj tv;have tv:=hT.lt;have zC:=zC.trans xp.le;have hG:=hG.trans xp
 refine Ko hK ?_ fun zy=>?_
 ·exact⟨hB.cell 4 rfl,hB.cell 5 rfl,hB.cell 6 rfl,hB.cell 7 rfl⟩
 clear hK K
 refine Tk 5 rfl zy ?_
 refine Tk 6 rfl zy ?_
 refine To 7 rfl fun K hK=>?_
 rw[if_pos (by rfl)]
 refine zk _ _ _ rfl (w.heap.size+1) _ rfl rfl _ _ hT zp rfl (uf _ _ _ _ rfl rfl rfl rfl) fun w9 nU xr=>?_
 have hB:=hB.grown xr (by simp);have hG:=hG.grownOwn uj (by omega) xr
 refine Ko hK ?_ fun zy=>?_
 ·exact⟨hB.cell 4 rfl,hB.cell 5 rfl,hB.cell 6 rfl,hB.cell 7 rfl⟩
 clear hK K
 refine To 8 rfl fun K hK=>?_
 go_simp
 refine Kz hK ?_
 clear hK K
 refine Wd ?_
 go_wp2_with fail
 refine zf rfl rfl nU rfl rfl zp rfl ?_
 rw[E.out]
 exact⟨_,rfl,ta,tb,tc,td,_,rfl,hG,nf⟩
end Go.Proofs.YtliomcphdnppnaaGreatDoor
