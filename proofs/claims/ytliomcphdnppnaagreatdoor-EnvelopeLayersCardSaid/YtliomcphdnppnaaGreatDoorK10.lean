/- squeezed. Walk: cbor.Find. Walks: header.pai -/
import Derived.Test.YtliomcphdnppnaaGreatDoorK09
import Derived.Deep.DeepCutAuto
set_option linter.unusedVariables false
set_option linter.unusedSimpArgs false
set_option maxRecDepth 100000
set_option maxHeartbeats 6400000
namespace Go.Proofs.YtliomcphdnppnaaGreatDoor
open Go.RowKit
theorem wd {H:Snap}(hT:Tabs H) {k n:Int}{ba:Option Addr}{bl bc:Nat}{ia:Option Addr}{il ic:Nat}{x:Itm}(hx:ItemA H k n ba bl bc ia il ic x)
  {k' n':Int} {ba':Option Addr} {bl' bc':Nat} {ia':Option Addr} {il' ic':Nat} {y:Itm} (hy:ItemA H k' n' ba' bl' bc' ia' il' ic' y) (w:World) (hH:Holds w H) :
  Calls Tryz.prog 68 #[.agg #[.int .i64 k,.int .u64 n,.slice ba bl bc,.slice ia il ic],.agg #[.int .i64 k',.int .u64 n',.slice ba' bl' bc',.slice ia' il' ic']] w
   fun e w'=>∃ v,e=.returned (.tuple #[v,.bool (yo x y).isSome])∧Gives w H ((yo x y).getD zn) v w':=by
 obtain⟨rfl,rfl,rfl,rfl,tD⟩:=hx.eqs;obtain⟨rfl,rfl,rfl,rfl,Wy⟩:=hy.eqs;have HX:=Hh tD;have B9:=Hh hx;have FG:=Hh hy;have y9:=((Blk.new w 26 #[.int .i64 x.kind,.int .u64 x.n,.slice ba x.bytes.length bc,.slice ia x.items.length ic]).alloc (zh y ba' bc' ia' ic')).alloc zT;have yF:=(Blk.new (w.alloc (zh x ba bc ia ic)) 26 #[.int .i64 y.kind,.int .u64 y.n,.slice ba' y.bytes.length bc',.slice ia' y.items.length ic']).alloc zT;have ux:=Blk.new ((w.alloc (zh x ba bc ia ic)).alloc (zh y ba' bc' ia' ic')) 26 #[.int .i64 0,.int .u64 0,.slice none 0 0,.slice none 0 0];have f5:=(((Grows.refl hH).alloc (zh x ba bc ia ic)).alloc (zh y ba' bc' ia' ic')).alloc zT
 simp only[zr]at yF ux
 have NR:H (w.heap.size+1+1)=none:=hH.none_of_ge (by omega)
 by_cases h5:x.kind=5
 ·have k5:(x.kind != 5)=false:=by simp[h5]
  have H5:=Hh h5;clear h5;have V:=Hh (tX hT hx _ f5.holds)
  cases hvx:zU x with
  | false =>
   have E:Hid (yo x y=none):=by rw[Hid,yo,if_neg (by simp[hvx])]
   have HG:=Hh f5;rw[hvx]at V;clear hvx tD Wy hx hy f5;go_enter Tryz.func68,Tryz.ntmps68
   go_wp2_with fail
   refine V.out.mono ?_
   rintro e w1 ⟨rfl,zJ⟩
   have ux:=ux.below zJ;have CW:=Hh (HG.out.below_ zJ);clear y9 yF zJ HG;go_wp2_with (with_reducible refine zx ?_)
   refine stI ux fun w6 ki xX=>?_
   go_wp2_with fail
   refine zY rfl rfl ki rfl rfl zp rfl ?_
   rw[E.out]
   exact⟨_,rfl,none,0,none,0,H,rfl,CW.out.grownOwn NR (by omega) xX,IsItem.plain H 0 0 (by omega) (by omega)⟩
  | true =>
  have lO:=yQ hvx;obtain⟨gF,cJ,DS,va⟩:=vq hvx;have xF:=Hh (tM hvx H5.out);have Ml:=Hh hvx;rw[hvx]at V;clear hvx tD Wy hx hy;go_enter Tryz.func68,Tryz.ntmps68
  go_wp2_with fail
  refine V.out.mono ?_
  rintro e w1 ⟨rfl,zJ⟩
  have y9:=y9.below zJ;have yF:=yF.below zJ;have ux:=ux.below zJ;have sQ:=f5.below_ zJ;have q0:=yF.cell 0 rfl;have q1:=yF.cell 1 rfl;have q2:=yF.cell 2 rfl;have q3:=yF.cell 3 rfl;have V2:=Hh (tX hT FG.out _ sQ.holds)
  cases hvy:zU y with
  | false =>
   have E:Hid (yo x y=none):=by rw[Hid,yo,if_neg (by simp[hvy])]
   rw[hvy]at V2;clear hvy;go_wp2_with fail
   refine V2.out.mono ?_
   rintro e w2 ⟨rfl,zK⟩
   have ux:=ux.below zK;have Ij:=Hh (sQ.below_ zK);clear y9 yF zJ zK q0 q1 q2 q3 sQ f5;go_wp2_with (with_reducible refine zx ?_)
   refine stI ux fun w6 ki xX=>?_
   go_wp2_with fail
   refine zY rfl rfl ki rfl rfl zp rfl ?_
   rw[E.out]
   exact⟨_,rfl,none,0,none,0,H,rfl,Ij.out.grownOwn NR (by omega) xX,IsItem.plain H 0 0 (by omega) (by omega)⟩
  | true =>
  obtain⟨Zg,_,im⟩:=vN hvy;have E:Hid (yo x y=oT (zi y) x.items):=by rw[Hid,yo,if_pos ⟨H5.out,Ml.out,hvy⟩]
  rw[hvy]at V2;clear hvy;go_wp2_with fail
  refine V2.out.mono ?_
  rintro e w2 ⟨rfl,zK⟩
  have y9:=y9.below zK;have yF:=yF.below zK;have ux:=ux.below zK;have xB:=sQ.below_ zK;have A:=Hh (qy y H _ _ _ _ _ _ _ _ w2 w2.heap.size (.slice none 0 0) [] Zg FG.out xB.holds (OwnB.nil _ _) (Nat.le_refl _) (by simp[Value.ownBlock]) (by simp;omega));clear zJ zK q0 q1 q2 q3 sQ f5;have q0:=yF.cell 0 rfl;have q1:=yF.cell 1 rfl;have q2:=yF.cell 2 rfl;have q3:=yF.cell 3 rfl;go_wp2_with fail
  refine A.out.mono ?_
  rintro e w3 ⟨r,rfl,y7,qF,_⟩
  obtain⟨KA,kc,rfl,_,_,pt⟩:=y7.form;rw[List.nil_append]at y7 pt;have xz:=yS qF;have PT:=y9.below xz;have Lg:=ux.below xz;have K4:=Hh (xB.below_ xz);have c3:=PT.cell 3 rfl;clear yF q0 q1 q2 q3 xB A V V2 qF;go_upto_region 5 with fail
  go_loopw [7] (fun vi wr=>∃ k:Nat,k≤x.items.length∧k%2=0∧vi=.int .i64 k∧oT (zi y) (x.items.drop k)=yo x y∧Below w3.heap.size w3 wr) (fun vi _=>x.items.length-(intOf vi).toNat)
  case atStart=>exact⟨0,Nat.zero_le _,rfl,rfl,by rw[E.out];simp,Below.refl _ _⟩
  case round =>
  obtain⟨k,hk,cS,rfl,hf,yO⟩:=hrel;have Ik:=Hh (K4.out.below_ yO);have d3:=(PT.below yO).cell 3 rfl
  by_cases zB:k<x.items.length
  ·have xF:=xF.out;have nl:k+1<x.items.length:=by omega
   have vd:=aJ (zi y) x.items k nl;rw[hf]at vd;obtain⟨ib,io,tK,xA⟩:=HX.out.items (by omega);subst tK;obtain⟨eba,ebc,eia,eic,z0,z1,z2,z3,mn⟩:=xA.get k zB;have yG:=Ik.out.holds;have p0:=yG.cell z0;have p1:=yG.cell z1;have p2:=yG.cell z2;have p3:=yG.cell z3;have bm:=Hh vd;have A:=Hh (qy x.items[k] H _ _ _ _ _ _ _ _ wr wr.heap.size (.slice none 0 0) [] (DS.get k zB) mn.arg yG (OwnB.nil _ _) (Nat.le_refl _) (by simp[Value.ownBlock]) (by have:=UO x.items k zB;simp;omega));clear z0 z1 z2 z3 mn vd hf xF;go_wp2_with fail
   refine A.out.mono ?_
   rintro e w4 ⟨r,rfl,kR,mv,_⟩
   obtain⟨EA,ec,rfl,_,_,Qw⟩:=kR.form;rw[List.nil_append]at kR Qw;have ui:=yS mv;have Q:=Hh (lT w4 EA KA (zi x.items[k]) (zi y) (zi x.items[k]).length (zi y).length ec kc rfl rfl Qw (pt.below (yO.trans (ui.mono yO.size))));have LZ:=Hh (Ik.out.below_ ui);have Lh:=(PT.below yO).below ui;have Sw:=(Lg.below yO).below ui;have Hu:=yO.trans (ui.mono yO.size);have e3:=Lh.cell 3 rfl;clear d3 p0 p1 p2 p3 A mv yO yG;go_wp2_with fail
   refine Q.out.mono ?_
   rintro e w5 ⟨rfl,rfl⟩
   cases hq:(zi x.items[k]==zi y) with
   | true =>
    have E2:Hid (yo x y=some x.items[k+1]):=bm.out.trans (if_pos (by simpa using hq));obtain⟨eba',ebc',eia',eic',z0,z1,z2,z3,mn⟩:=xA.get (k+1) nl;have yG:=LZ.out.holds;have p0:=yG.cell z0;have p1:=yG.cell z1;have p2:=yG.cell z2;have p3:=yG.cell z3;have C:=Hh (pK x.items[k+1] H _ _ eba' _ ebc' eia' _ eic' w4 (lO.parts.2.2.get (k+1) nl) mn.arg yG);have i1:((k:Int)+1).toNat=k+1:=by omega
    have i2:(k:Int)+1<x.items.length:=by omega
    have i3:IntKind.i64.wrap ((k:Int)+1)=(k:Int)+1:=IntWalk.i64_in _ (by omega);clear z0 z1 z2 z3 mn hq Q xA;go_wp2_with fail
    refine C.out.mono ?_
    rintro e w5 ⟨v,rfl,rba,rbc,ria,ric,Hs,rfl,vB,NM⟩
    have QN:=Sw.below vB.below;have IM:=vB.none NR (by have:=Sw.lt;omega);have CX:=Hh (LZ.out.trans vB);clear e3 p0 p1 p2 p3 C Lh;go_wp2_with (with_reducible refine zx ?_)
    refine stI QN fun w6 ki xX=>?_
    go_wp2_with fail
    refine zY rfl rfl ki rfl rfl zp rfl ?_
    rw[E2.out]
    exact⟨_,rfl,rba,rbc,ria,ric,Hs,rfl,CX.out.grownOwn IM (by omega) xX,NM⟩
   | false =>
   have E2:Hid (oT (zi y) (x.items.drop (k+2))=yo x y):=(bm.out.trans (if_neg (by simpa using hq))).symm;have xF:=xF.out;have i3:IntKind.i64.wrap ((k:Int)+2)=(k:Int)+2:=IntWalk.i64_in _ (by omega);clear hq Q xA e3;go_wp2_with fail
   go_roundw
   case rel=>exact⟨k+2,by omega,by omega,by go_num,E2.out,Hu⟩
   case measure=>simp[intOf];omega
  have E2:Hid (yo x y=none):=by
   rw[Hid,← hf,List.drop_eq_nil_of_le (by omega)];rfl
  have Sw:=Lg.below yO;clear hf;go_wp2_with (with_reducible refine zx ?_)
  refine stI Sw fun w6 ki xX=>?_
  go_wp2_with fail
  refine zY rfl rfl ki rfl rfl zp rfl ?_
  rw[E2.out]
  exact⟨_,rfl,none,0,none,0,H,rfl,Ik.out.grownOwn NR (by omega) xX,IsItem.plain H 0 0 (by omega) (by omega)⟩
 have k5:(x.kind != 5)=true:=by simp[h5]
 have E:Hid (yo x y=none):=by rw[Hid,yo,if_neg (by simp[h5])]
 clear h5;have HG:=Hh f5;clear tD Wy hx hy f5;go_enter Tryz.func68,Tryz.ntmps68
 go_wp2_with (with_reducible refine zx ?_)
 refine stI ux fun w6 ki xX=>?_
 go_wp2_with fail
 refine zY rfl rfl ki rfl rfl zp rfl ?_
 rw[E.out]
 exact⟨_,rfl,none,0,none,0,H,rfl,HG.out.grownOwn NR (by omega) xX,IsItem.plain H 0 0 (by omega) (by omega)⟩
theorem Xd:(Tryz.prog.info? 100).map (fun i=>(i.zero,i.size,i.bytes))=some (some (.agg #[.int .i64 0,.int .u64 0,.slice none 0 0,.slice none 0 0,.int .i64 0,.int .u64 0,.slice none 0 0,.slice none 0 0]),8,128):=by kernel_rfl
theorem nG {H:Snap}{k n:Int}{ba:Option Addr}{bl bc:Nat}{ia:Option Addr}{il ic:Nat}{x:Itm}(hx:ItemA H k n ba bl bc ia il ic x) (xF:x.items.length%2=0) (xK:x.items.length≤1099511627776) (w:World) (hH:Holds w H) :
  Calls Tryz.prog 66 #[.agg #[.int .i64 k,.int .u64 n,.slice ba bl bc,.slice ia il ic]] w
   fun e w'=>∃ A c cs,e=.returned (.slice A (x.items.length/2) c)∧Src w' A cs∧ItemsC H cs x.items∧Below w.heap.size w w':=by
 obtain⟨rfl,rfl,rfl,rfl,tD⟩:=hx.eqs;have HX:=Hh tD;have HE:=Hh xF;have y9:=Blk.new w 26 #[.int .i64 x.kind,.int .u64 x.n,.slice ba x.bytes.length bc,.slice ia x.items.length ic];have CK:=Hh (zu w (zh x ba bc ia ic));obtain⟨i0,uv,o1,rp,rQ⟩:=info_parts Xd;clear tD hx xF;go_enter Tryz.func66,Tryz.ntmps66
 go_upto_region 3 with fail
 go_loopw [3,4] (fun v3 v4 wr=>∃ (k:Nat) (VA:Option Addr) (vc:Nat) (pre:List Value),k*2≤x.items.length∧v4=.int .i64 ((k:Int)*2)∧v3=.slice VA k vc∧Below w.heap.size w wr∧
  Blk wr w.heap.size 26 #[.int .i64 x.kind,.int .u64 x.n,.slice ba x.bytes.length bc,.slice ia x.items.length ic]∧wr.ownsRow (w.heap.size+1) 100 8 (.slice VA k vc) k pre∧ItemsC H pre (x.items.take (k*2))) (fun _ v4 _=>x.items.length-(intOf v4).toNat)
 case atStart=>exact⟨0,none,0,[],by omega,rfl,rfl,CK.out,y9,World.ownsRow_nil _ _ _ _,by simp[ItemsC]⟩
 case round =>
 obtain⟨k,VA,vc,pre,hk,rfl,rfl,hb,ss,y7,iZ⟩:=hrel;have c3:=ss.cell 3 rfl;have qr:IntKind.i64.wrap ((k:Int)*2+1)=(k:Int)*2+1:=IntWalk.i64_in _ (by omega);have lQ:IntKind.i64.wrap ((k:Int)*2+2)=(k:Int)*2+2:=IntWalk.i64_in _ (by omega);have iD:((k:Int)*2+1).toNat=k*2+1:=by omega
 have GZ:((k:Int)*2).toNat=k*2:=by omega
 by_cases zB:k*2<x.items.length
 ·have xF:=HE.out;have nl:k*2+1<x.items.length:=by omega
  have qp:(k:Int)*2+1<x.items.length:=by omega
  have oe:(k:Int)*2<x.items.length:=by omega
  have Wp:(0:Int)≤(k:Int)*2+1:=by omega
  have OL:(0:Int)≤(k:Int)*2:=by omega
  obtain⟨ib,io,tK,xA⟩:=HX.out.items (by omega);subst tK;obtain⟨y1,y2,y3,y4,p0,p1,p2,p3,hy⟩:=xA.get (k*2) zB;obtain⟨z1,z2,z3,z4,q0,q1,q2,q3,hz⟩:=xA.get (k*2+1) nl
  have Ky:x.items.take (k*2)++[x.items[k*2],x.items[k*2+1]]=x.items.take ((k+1)*2):=by
   rw[show(k+1)*2=k*2+1+1 by omega,List.take_succ_eq_append_getElem nl,List.take_succ_eq_append_getElem zB]
   simp only[List.append_assoc,List.cons_append,List.nil_append]
  generalize x.items[k*2]'zB=y at *
  generalize x.items[k*2+1]'nl=z at *
  have Oa:ItemsC H (zQ y y1 y2 y3 y4++zQ z z1 z2 z3 z4) [y,z]:=(ItemsC.one hy).app (ItemsC.one hz);have yG:Holds wr H:=hH.below hb (Nat.le_refl _);clear xA;go_upto_region 5 with fail
  refine zw 15 (fun w'=>w'.cell? ⟨w.heap.size,3,none⟩=some (.slice (some ⟨ib,io,none⟩) x.items.length ic)∧w'.cell? ⟨ib,io+(k*2)*4,none⟩=some (.int .i64 y.kind)∧w'.cell? ⟨ib,io+(k*2)*4+1,none⟩=some (.int .u64 y.n)∧w'.cell? ⟨ib,io+(k*2)*4+2,none⟩=some (.slice y1 y.bytes.length y2)∧w'.cell? ⟨ib,io+(k*2)*4+3,none⟩=some (.slice y3 y.items.length y4)∧w'.cell? ⟨ib,io+(k*2+1)*4,none⟩=some (.int .i64 z.kind)∧w'.cell? ⟨ib,io+(k*2+1)*4+1,none⟩=some (.int .u64 z.n)∧w'.cell? ⟨ib,io+(k*2+1)*4+2,none⟩=some (.slice z1 z.bytes.length z2)∧w'.cell? ⟨ib,io+(k*2+1)*4+3,none⟩=some (.slice z3 z.items.length z4)) (by kernel_rfl) (⟨ss.drew.cell 3 rfl,yG.drew.cell p0,yG.drew.cell p1,yG.drew.cell p2,yG.drew.cell p3,yG.drew.cell q0,yG.drew.cell q1,yG.drew.cell q2,yG.drew.cell q3⟩) (fun zy=>?_)
  refine Tk 0 rfl zy ?_
  refine Tk 1 rfl zy ?_
  refine Tk 2 rfl zy ?_
  refine Tk 3 rfl zy ?_
  refine Tk 4 rfl zy ?_
  refine Tk 5 rfl zy ?_
  refine Tk 6 rfl zy ?_
  refine Tk 7 rfl zy ?_
  refine Tk 8 rfl zy ?_
  refine Tk 9 rfl zy ?_
  refine Tk 10 rfl zy ?_
  refine Tk 11 rfl zy ?_
  refine Tk 12 rfl zy ?_
  refine To 13 rfl fun K hK=>?_
  go_simp
  have hE:=World.ownsRow.alloc y7.drew (.cells (zQ y y1 y2 y3 y4++zQ z z1 z2 z3 z4).toArray 100);have od:=ss.drew.alloc (.cells (zQ y y1 y2 y3 y4++zQ z z1 z2 z3 z4).toArray 100);have Tv:=yG.drew.alloc (.cells (zQ y y1 y2 y3 y4++zQ z z1 z2 z3 z4).toArray 100)
  refine Ko hK ?_ fun zy=>?_
  ·exact⟨od.cell 3 rfl,Tv.cell p0,Tv.cell p1,Tv.cell p2,Tv.cell p3,Tv.cell q0,Tv.cell q1,Tv.cell q2,Tv.cell q3⟩
  clear hK K
  refine To 14 rfl fun K hK=>?_
  rw[if_pos (by rfl)]
  refine wU (.tmp 13) (.tmp 26) 97 rfl (w.heap.size+1) 100 i0 _ 8 128 Tryz.underlying97 uv o1 rp rQ rfl (by omega) (.slice VA k vc) k pre rfl hE _ 1 _ (zQ y y1 y2 y3 y4++zQ z z1 z2 z3 z4) rfl (by simp[zQ]) (Src.new _ _ _ _ rfl _ rfl) (ItemsC.oneCell Oa) (by simp only[maxLen];omega) (by omega) (by have:=ss.lt;simp;omega) fun v' w5 qI yP wb=>?_
  have WP:=od.grown yP (fun h=>by have:=(World.ownsRow.lt y7 _ h).1;omega);have Tc:=Tv.grown yP (fun g hg=>hH.none_of_ge (by have:=(World.ownsRow.lt y7 g hg).1;omega))
  refine Ko hK ?_ fun zy=>?_
  ·exact⟨WP.cell 3 rfl,Tc.cell p0,Tc.cell p1,Tc.cell p2,Tc.cell p3,Tc.cell q0,Tc.cell q1,Tc.cell q2,Tc.cell q3⟩
  clear hK K
  refine To 15 rfl fun K hK=>?_
  go_simp
  refine Kz hK ?_
  clear hK K
  refine Wd ?_
  obtain⟨VA',vc',rfl⟩:∃ A c,v'=.slice A (k+1) c:=by
   rcases qI.2 with ⟨_,h⟩ | ⟨g,cap,cur,h,_⟩
   ·omega
   exact⟨_,_,h⟩
  have xS:Below w.heap.size w w5:=((hb.drew).alloc hb.size _).grown yP (by have:=hb.size;simp;omega) (fun g hg=>by have:=(World.ownsRow.lt y7 g hg).1;omega);have LP:ItemsC H (pre++(zQ y y1 y2 y3 y4++zQ z z1 z2 z3 z4)) (x.items.take ((k+1)*2)):=by rw[← Ky];exact iZ.app Oa
  clear zy p0 p1 p2 p3 q0 q1 q2 q3 ss c3 y7 yP wb od Tv Tc hE iZ hb;go_wp2_with fail
  go_roundw
  case rel=>exact⟨k+1,VA',vc',_,by omega,by rw[show((k+1:Nat):Int)*2=(k:Int)*2+2 by omega],rfl,xS,WP,qI,LP⟩
  case measure=>simp[intOf];omega
 have xF:=HE.out;have fB:k*2=x.items.length:=by omega
 have hd:x.items.length/2=k:=by omega
 rw[fB,List.take_length]at iZ;have qp:(x.items.length:Int)≤(k:Int)*2+1:=by omega
 have HD:=Hh hd;clear hd fB xF;go_wp2_with fail
 go_ret
 rw[HD.out]
 exact⟨VA,vc,pre,rfl,Src.of_own y7,iZ,hb⟩
theorem iH (k n:Int) (ba:Option Addr) (bl bc:Nat) (ia:Option Addr) (il ic:Nat) (w:World) :
  Calls Tryz.prog 106 #[.agg #[.int .i64 k,.int .u64 n,.slice ba bl bc,.slice ia il ic]] w
   fun e w'=>e=.returned (.bool ((k==0||k==1)&&decide (n≤65535)))∧Below w.heap.size w w':=by
 go_enter Tryz.func106,Tryz.ntmps106
 go_wp2_with fail
 all_goals
  go_ret
  refine⟨?_,zu _ _⟩
  show Ending.returned (Value.bool _)=_
  simp_all
theorem pG {H:Snap}{k n:Int}{ba:Option Addr}{bl bc:Nat}{ia:Option Addr}{il ic:Nat}{x:Itm}(hx:ItemA H k n ba bl bc ia il ic x) (w:World) :
  Calls Tryz.prog 106 #[.agg #[.int .i64 k,.int .u64 n,.slice ba bl bc,.slice ia il ic]] w
   fun e w'=>e=.returned (.bool (wg x))∧Below w.heap.size w w':=by
 obtain⟨rfl,rfl,rfl,rfl,tD⟩:=hx.eqs
 refine(iH x.kind x.n ba _ bc ia _ ic w).mono ?_
 rintro e w' ⟨rfl,hb⟩
 refine⟨?_,hb⟩
 rw[wg];congr 3
 simp
 omega
theorem mD {H:Snap}{ba:Option Addr}{bc:Nat}{ia:Option Addr}{ic:Nat}{x:Itm}(hx:IsItem H ba bc ia ic x)
  {ba':Option Addr} {bc':Nat} {ia':Option Addr} {ic':Nat} {y:Itm} (hy:IsItem H ba' bc' ia' ic' y) (w:World) :
  Calls Tryz.prog 67 #[.agg #[.int .i64 x.kind,.int .u64 x.n,.slice ba x.bytes.length bc,.slice ia x.items.length ic,.int .i64 y.kind,.int .u64 y.n,.slice ba' y.bytes.length bc',.slice ia' y.items.length ic']] w
   fun e w'=>e=.returned (.bool (wI x y))∧Below w.heap.size w w':=by
 have N1:=fun w1=>pG hx.arg w1
 have N2:=fun w1=>pG hy.arg w1
 have zJ:=zu w (.cells #[.int .i64 x.kind,.int .u64 x.n,.slice ba x.bytes.length bc,.slice ia x.items.length ic,.int .i64 y.kind,.int .u64 y.n,.slice ba' y.bytes.length bc',.slice ia' y.items.length ic'] 100);have y9:=Blk.new w 100 #[.int .i64 x.kind,.int .u64 x.n,.slice ba x.bytes.length bc,.slice ia x.items.length ic,.int .i64 y.kind,.int .u64 y.n,.slice ba' y.bytes.length bc',.slice ia' y.items.length ic'];have WL:=Hh N1;have ig:=Hh N2;clear N1 N2 hx hy
 by_cases h3:x.kind=3
 ·have E:Hid (wI x y=true):=by rw[Hid,wI,if_pos h3]
  have k3:(x.kind==3)=true:=by simp[h3]
  clear h3;go_enter Tryz.func67,Tryz.ntmps67
  go_wp2_with fail
  go_ret
  exact⟨by rw[E.out];rfl,zJ⟩
 have k3:(x.kind==3)=false:=by simp[h3]
 cases hn:wg x with
 | false =>
  have E:Hid (wI x y=false):=by rw[Hid,wI,if_neg h3,if_pos hn]
  rw[hn]at WL;clear h3 hn;go_enter Tryz.func67,Tryz.ntmps67
  go_wp2_with fail
  refine(WL.out _).mono ?_
  rintro e w1 ⟨rfl,zK⟩
  have tV:=zJ.trans (zK.mono zJ.size);clear zJ zK;go_wp2_with fail
  go_ret
  exact⟨by rw[E.out];rfl,tV⟩
 | true =>
 rw[hn]at WL
 by_cases h1:x.kind=1
 ·have E:Hid (wI x y=true):=by rw[Hid,wI,if_neg h3,if_neg (by simp[hn]),if_pos h1]
  have k1:(x.kind==1)=true:=by simp[h1]
  clear h3 hn h1;go_enter Tryz.func67,Tryz.ntmps67
  go_wp2_with fail
  refine(WL.out _).mono ?_
  rintro e w1 ⟨rfl,zK⟩
  have c0:=(y9.below zK).cell 0 rfl;have tV:=zJ.trans (zK.mono zJ.size);clear zJ zK y9;go_wp2_with fail
  go_ret
  exact⟨by rw[E.out];rfl,tV⟩
 have k1:(x.kind==1)=false:=by simp[h1]
 have E:Hid (wI x y=if x.n=1 then wg y&&(y.kind==1||y.n != 0) else if x.n=4∨x.n=5∨x.n=6∨x.n=12 then y.kind==2 else true):=by rw[Hid,wI,if_neg h3,if_neg (by simp[hn]),if_neg h1]
 clear h3 hn h1;go_enter Tryz.func67,Tryz.ntmps67
 go_wp2_with fail
 refine(WL.out _).mono ?_
 rintro e w1 ⟨rfl,zK⟩
 have yF:=y9.below zK;have c0:=yF.cell 0 rfl;have c1:=yF.cell 1 rfl;have c4:=yF.cell 4 rfl;have c5:=yF.cell 5 rfl;have c6:=yF.cell 6 rfl;have c7:=yF.cell 7 rfl;have tV:=zJ.trans (zK.mono zJ.size);clear zJ zK y9
 by_cases n1:x.n=1
 ·have E2:Hid (wI x y=(wg y&&(y.kind==1||y.n != 0))):=by rw[Hid,E.out,if_pos n1]
  have m1:((x.n:Int)==1)=true:=by simp[n1]
  clear n1 E;go_wp2_with fail
  refine(ig.out _).mono ?_
  rintro e w2 ⟨rfl,xz⟩
  have ux:=yF.below xz;have Pm:=tV.trans (xz.mono tV.size);have d4:=ux.cell 4 rfl;have d5:=ux.cell 5 rfl;clear c0 c1 c4 c5 c6 c7 tV xz
  cases hm:wg y with
  | false =>
   have E3:Hid (wI x y=false):=by rw[Hid,E2.out,hm];rfl
   clear hm;go_wp2_with fail
   go_ret
   exact⟨by rw[E3.out];rfl,Pm⟩
  | true =>
  by_cases g1:y.kind=1
  ·have E3:Hid (wI x y=true):=by rw[Hid,E2.out,hm,g1];rfl
   have l1:(y.kind==1)=true:=by simp[g1]
   clear hm g1;go_wp2_with fail
   go_ret
   exact⟨by rw[E3.out];rfl,Pm⟩
  have l1:(y.kind==1)=false:=by simp[g1]
  have E3:Hid (wI x y=((y.n:Int) != 0)):=by
   rw[Hid,E2.out,hm,l1,Bool.true_and,Bool.false_or];rw[Bool.eq_iff_iff,bne_iff_ne,bne_iff_ne]
   omega
  clear hm g1;go_wp2_with fail
  all_goals
   go_ret
   refine⟨?_,Pm⟩
   rw[E3.out];show Ending.returned (Value.bool _)=_
   simp_all
 have m1:((x.n:Int)==1)=false:=by simp;omega
 by_cases n2:x.n=4∨x.n=5∨x.n=6∨x.n=12
 ·have E2:Hid (wI x y=(y.kind==2)):=by rw[Hid,E.out,if_neg n1,if_pos n2]
  have t:(((x.n:Int)==4)=true)∨(((x.n:Int)==4)=false∧((x.n:Int)==5)=true)∨(((x.n:Int)==4)=false∧((x.n:Int)==5)=false∧((x.n:Int)==6)=true)∨(((x.n:Int)==4)=false∧((x.n:Int)==5)=false∧((x.n:Int)==6)=false∧((x.n:Int)==12)=true):=by
   simp only[beq_iff_eq,beq_eq_false_iff_ne,ne_eq]
   omega
  have T:=Hh t;clear n1 n2 E t
  rcases T.out with t1 | ⟨t1,t2⟩ | ⟨t1,t2,t3⟩ | ⟨t1,t2,t3,t4⟩
  all_goals
   go_wp2_with fail
   go_ret
   exact⟨by rw[E2.out];rfl,tV⟩
 have E2:Hid (wI x y=true):=by rw[Hid,E.out,if_neg n1,if_neg n2]
 have t1:((x.n:Int)==4)=false:=by rw[beq_eq_false_iff_ne];omega
 have t2:((x.n:Int)==5)=false:=by rw[beq_eq_false_iff_ne];omega
 have t3:((x.n:Int)==6)=false:=by rw[beq_eq_false_iff_ne];omega
 have t4:((x.n:Int)==12)=false:=by rw[beq_eq_false_iff_ne];omega
 clear n1 n2 E;go_wp2_with fail
 go_ret
 exact⟨by rw[E2.out];rfl,tV⟩
theorem pM {H:Snap}(hTab:Tabs H) {p u:Itm}{a b:Ad}(hp:IsItem H a.ba a.bc a.ia a.ic p) (hu:IsItem H b.ba b.bc b.ia b.ic u) (n:Int) (uw : -9223372036854775808≤n) (uH:n≤9223372036854775807) (w:World) (hH:Holds w H) :
  Calls Tryz.prog 69 #[.agg (zF p a u b),.int .i64 n] w
   fun e w'=>∃ v,e=.returned (.tuple #[v,.bool (vT p u n).isSome])∧Gives w H ((vT p u n).getD zn) v w':=by
 have hB:=(Blk.new w 28 (zF p a u b)).alloc zT;have hT:=Blk.new (w.alloc (.cells (zF p a u b) 28)) 26 #[.int .i64 0,.int .u64 0,.slice none 0 0,.slice none 0 0]
 simp only[zr]at hT
 have hG:=(((Grows.refl hH).alloc (.cells (zF p a u b) 28)).alloc zT).drew;have uL:H (w.heap.size+1)=none:=hH.none_of_ge (by omega);have yx:=Snap.le.refl H;go_enter Tryz.func69,Tryz.ntmps69
 go_upto_region 1 with fail
 go_cut [6,7] (fun s6 s7 wx=>∃ N ra rb rc rd Hx,s6=.pointer (some ⟨N,0,none⟩)∧s7=.bool (yo p (zZ n)).isSome∧Blk wx N 26 #[.int .i64 ((yo p (zZ n)).getD zn).kind,.int .u64 ((yo p (zZ n)).getD zn).n,.slice ra ((yo p (zZ n)).getD zn).bytes.length rb,.slice rc ((yo p (zZ n)).getD zn).items.length rd]∧
  Blk wx w.heap.size 28 (zF p a u b)∧Blk wx (w.heap.size+1) 26 #[.int .i64 0,.int .u64 0,.slice none 0 0,.slice none 0 0]∧Grows w H wx Hx∧H.le Hx∧Hx (w.heap.size+1)=none∧IsItem Hx ra rb rc rd ((yo p (zZ n)).getD zn))
 case first =>
  have hB:=hB.drew;have hT:=hT.drew;have tJ:=hT.lt
  refine zw 10 (fun w'=>w'.cell? ⟨w.heap.size,0,none⟩=some (.int .i64 p.kind)∧w'.cell? ⟨w.heap.size,1,none⟩=some (.int .u64 p.n)∧w'.cell? ⟨w.heap.size,2,none⟩=some (.slice a.ba p.bytes.length a.bc)∧w'.cell? ⟨w.heap.size,3,none⟩=some (.slice a.ia p.items.length a.ic)) (by kernel_rfl) (⟨hB.cell 0 rfl,hB.cell 1 rfl,hB.cell 2 rfl,hB.cell 3 rfl⟩) (fun zy=>?_)
  refine Tk 0 rfl zy ?_
  refine Tk 1 rfl zy ?_
  refine Tk 2 rfl zy ?_
  refine Ways.two (i:=3) (j:=8) rfl rfl (by kernel_rfl) (fun K hK=>?_) (fun K hK=>?_)
  ·go_simp
   refine(sA n uw uH _ hG.holds).mono ?_
   rintro e w2 ⟨v2,rfl,rV⟩
   have hB:=hB.below rV.below;have hT:=hT.below rV.below
   try have hN:=hN.below rV.below
   obtain⟨ka,kb,kc,kd,H2,rfl,xB,oe⟩:=rV;have uL:=xB.none uL tJ;have tJ:=hT.lt;have yx:=yx.trans xB.le;have hG:=hG.trans xB
   try have vZ:=xB.none vZ tt
   try have tt:=hN.lt
   refine Ko hK ?_ fun zy=>?_
   ·exact⟨hB.cell 0 rfl,hB.cell 1 rfl,hB.cell 2 rfl,hB.cell 3 rfl⟩
   clear hK K
   refine Ways.two (i:=4) (j:=8) rfl rfl (by kernel_rfl) (fun K hK=>?_) (fun K hK=>?_)
   ·go_simp
    refine(wd (hTab.mono yx) (hp.mono yx).arg oe.arg _ hG.holds).mono ?_
    rintro e w3 ⟨v3,rfl,rP⟩
    have hB:=hB.below rP.below;have hT:=hT.below rP.below
    try have hN:=hN.below rP.below
    obtain⟨ra,rb,rc,rd,H3,rfl,yN,qK⟩:=rP;have uL:=yN.none uL tJ;have tJ:=hT.lt;have yx:=yx.trans yN.le;have hG:=hG.trans yN
    try have vZ:=yN.none vZ tt
    try have tt:=hN.lt
    refine Ko hK ?_ fun zy=>?_
    ·exact⟨hB.cell 0 rfl,hB.cell 1 rfl,hB.cell 2 rfl,hB.cell 3 rfl⟩
    clear hK K
    refine Tk 5 rfl zy ?_
    refine Tk 6 rfl zy ?_
    refine Tk 7 rfl zy ?_
    refine To 8 rfl fun K hK=>?_
    go_simp
    have hN:=hG.newBlk 26 #[.int .i64 0,.int .u64 0,.slice none 0 0,.slice none 0 0]
    try simp only[zL,zr]at hN
    have vZ:=hG.hidden (Nat.le_refl _)
    try simp only[zL,zr]at vZ
    have rp:=tJ;have rQ:=hG.size;have hB:=hB.alloc zT;have hT:=hT.alloc zT;have hG:=hG.alloc zT;have tJ:=hT.lt;have tt:=hN.lt
    refine Ko hK ?_ fun zy=>?_
    ·exact⟨hB.cell 0 rfl,hB.cell 1 rfl,hB.cell 2 rfl,hB.cell 3 rfl⟩
    clear hK K
    refine To 9 rfl fun K hK=>?_
    rw[if_pos (by rfl)]
    refine zm _ _ _ rfl _ _ rfl rfl _ _ hN zp rfl (ua _ _ _ _ rfl rfl rfl rfl) fun w5 hN5 yP=>?_
    have hB:=hB.grown yP (by first | (simp;done) | (simp;omega));have hT:=hT.grown yP (by first | (simp;done) | (simp;omega));have hG:=hG.grownOwn vZ (by first | exact rQ | omega) yP
    refine Ko hK ?_ fun zy=>?_
    ·exact⟨hB.cell 0 rfl,hB.cell 1 rfl,hB.cell 2 rfl,hB.cell 3 rfl⟩
    clear hK K
    refine To 10 rfl fun K hK=>?_
    go_simp
    refine Kz hK ?_
    clear hK K
    refine Wd ?_
    go_wp2_with fail
    go_meet
    exact⟨_,ra,rb,rc,rd,_,rfl,rfl,hN5,hB,hT,hG,yx,uL,qK⟩
   go_simp
   have hN:=hG.newBlk 26 #[.int .i64 0,.int .u64 0,.slice none 0 0,.slice none 0 0]
   try simp only[zL,zr]at hN
   have vZ:=hG.hidden (Nat.le_refl _)
   try simp only[zL,zr]at vZ
   have rp:=tJ;have rQ:=hG.size;have hB:=hB.alloc zT;have hT:=hT.alloc zT;have hG:=hG.alloc zT;have tJ:=hT.lt;have tt:=hN.lt
   refine Ko hK ?_ fun zy=>?_
   ·exact⟨hB.cell 0 rfl,hB.cell 1 rfl,hB.cell 2 rfl,hB.cell 3 rfl⟩
   clear hK K
   refine To 4 rfl fun K hK=>?_
   go_simp
   refine(wd (hTab.mono yx) (hp.mono yx).arg oe.arg _ hG.holds).mono ?_
   rintro e w3 ⟨v3,rfl,rP⟩
   have hB:=hB.below rP.below;have hT:=hT.below rP.below
   try have hN:=hN.below rP.below
   obtain⟨ra,rb,rc,rd,H3,rfl,yN,qK⟩:=rP;have uL:=yN.none uL tJ;have tJ:=hT.lt;have yx:=yx.trans yN.le;have hG:=hG.trans yN
   try have vZ:=yN.none vZ tt
   try have tt:=hN.lt
   refine Ko hK ?_ fun zy=>?_
   ·exact⟨hB.cell 0 rfl,hB.cell 1 rfl,hB.cell 2 rfl,hB.cell 3 rfl⟩
   clear hK K
   refine Tk 5 rfl zy ?_
   refine Tk 6 rfl zy ?_
   refine Tk 7 rfl zy ?_
   refine To 9 rfl fun K hK=>?_
   rw[if_pos (by rfl)]
   refine zm _ _ _ rfl _ _ rfl rfl _ _ hN zp rfl (ua _ _ _ _ rfl rfl rfl rfl) fun w5 hN5 yP=>?_
   have hB:=hB.grown yP (by first | (simp;done) | (simp;omega));have hT:=hT.grown yP (by first | (simp;done) | (simp;omega));have hG:=hG.grownOwn vZ (by first | exact rQ | omega) yP
   refine Ko hK ?_ fun zy=>?_
   ·exact⟨hB.cell 0 rfl,hB.cell 1 rfl,hB.cell 2 rfl,hB.cell 3 rfl⟩
   clear hK K
   refine To 10 rfl fun K hK=>?_
   go_simp
   refine Kz hK ?_
   clear hK K
   refine Wd ?_
   go_wp2_with fail
   go_meet
   exact⟨_,ra,rb,rc,rd,_,rfl,rfl,hN5,hB,hT,hG,yx,uL,qK⟩
  go_simp
  have hN:=hG.newBlk 26 #[.int .i64 0,.int .u64 0,.slice none 0 0,.slice none 0 0]
  try simp only[zL,zr]at hN
  have vZ:=hG.hidden (Nat.le_refl _)
  try simp only[zL,zr]at vZ
  have rp:=tJ;have rQ:=hG.size;have hB:=hB.alloc zT;have hT:=hT.alloc zT;have hG:=hG.alloc zT;have tJ:=hT.lt;have tt:=hN.lt
  refine Ko hK ?_ fun zy=>?_
  ·exact⟨hB.cell 0 rfl,hB.cell 1 rfl,hB.cell 2 rfl,hB.cell 3 rfl⟩
  clear hK K
  refine To 3 rfl fun K hK=>?_
  go_simp
  refine(sA n uw uH _ hG.holds).mono ?_
  rintro e w2 ⟨v2,rfl,rV⟩
  have hB:=hB.below rV.below;have hT:=hT.below rV.below
  try have hN:=hN.below rV.below
  obtain⟨ka,kb,kc,kd,H2,rfl,xB,oe⟩:=rV;have uL:=xB.none uL tJ;have tJ:=hT.lt;have yx:=yx.trans xB.le;have hG:=hG.trans xB
  try have vZ:=xB.none vZ tt
  try have tt:=hN.lt
  refine Ko hK ?_ fun zy=>?_
  ·exact⟨hB.cell 0 rfl,hB.cell 1 rfl,hB.cell 2 rfl,hB.cell 3 rfl⟩
  clear hK K
  refine To 4 rfl fun K hK=>?_
  go_simp
  refine(wd (hTab.mono yx) (hp.mono yx).arg oe.arg _ hG.holds).mono ?_
  rintro e w3 ⟨v3,rfl,rP⟩
  have hB:=hB.below rP.below;have hT:=hT.below rP.below
  try have hN:=hN.below rP.below
  obtain⟨ra,rb,rc,rd,H3,rfl,yN,qK⟩:=rP;have uL:=yN.none uL tJ;have tJ:=hT.lt;have yx:=yx.trans yN.le;have hG:=hG.trans yN
  try have vZ:=yN.none vZ tt
  try have tt:=hN.lt
  refine Ko hK ?_ fun zy=>?_
  ·exact⟨hB.cell 0 rfl,hB.cell 1 rfl,hB.cell 2 rfl,hB.cell 3 rfl⟩
  clear hK K
  refine Tk 5 rfl zy ?_
  refine Tk 6 rfl zy ?_
  refine Tk 7 rfl zy ?_
  refine To 9 rfl fun K hK=>?_
  rw[if_pos (by rfl)]
  refine zm _ _ _ rfl _ _ rfl rfl _ _ hN zp rfl (ua _ _ _ _ rfl rfl rfl rfl) fun w5 hN5 yP=>?_
  have hB:=hB.grown yP (by first | (simp;done) | (simp;omega));have hT:=hT.grown yP (by first | (simp;done) | (simp;omega));have hG:=hG.grownOwn vZ (by first | exact rQ | omega) yP
  refine Ko hK ?_ fun zy=>?_
  ·exact⟨hB.cell 0 rfl,hB.cell 1 rfl,hB.cell 2 rfl,hB.cell 3 rfl⟩
  clear hK K
  refine To 10 rfl fun K hK=>?_
  go_simp
  refine Kz hK ?_
  clear hK K
  refine Wd ?_
  go_wp2_with fail
  go_meet
  exact⟨_,ra,rb,rc,rd,_,rfl,rfl,hN5,hB,hT,hG,yx,uL,qK⟩
 case rest =>
 obtain⟨N,ra,rb,rc,rd,Hx,rfl,rfl,hN,hB,hT,hG,yx,uL,hi⟩:=hcut;have tJ:=hT.lt
 cases hf:yo p (zZ n) with
 | some x =>
  have E:Hid (vT p u n=some x):=by rw[Hid,vT,hf]
  rw[hf]at hN hi
  simp only[Option.getD_some]at hN hi
  have n0:=hN.cell 0 rfl;have n1:=hN.cell 1 rfl;have n2:=hN.cell 2 rfl;have n3:=hN.cell 3 rfl;clear hf;go_wp2_with (with_reducible refine zx ?_)
  refine stI hT fun w6 ki xX=>?_
  go_wp2_with fail
  refine zY rfl rfl ki rfl rfl zp rfl ?_
  rw[E.out]
  exact⟨_,rfl,ra,rb,rc,rd,Hx,rfl,hG.grownOwn uL (by omega) xX,hi⟩
 | none =>
 have E:Hid (vT p u n=yo u (zZ n)):=by rw[Hid,vT,hf]
 clear hN hi hf;have hB:=hB.drew;have hT:=hT.drew;have hG:=hG.drew;have tJ:=hT.lt;go_upto_region 4 with fail
 refine zw 8 (fun w'=>w'.cell? ⟨w.heap.size,4,none⟩=some (.int .i64 u.kind)∧w'.cell? ⟨w.heap.size,5,none⟩=some (.int .u64 u.n)∧w'.cell? ⟨w.heap.size,6,none⟩=some (.slice b.ba u.bytes.length b.bc)∧w'.cell? ⟨w.heap.size,7,none⟩=some (.slice b.ia u.items.length b.ic)) (by kernel_rfl) (⟨hB.cell 4 rfl,hB.cell 5 rfl,hB.cell 6 rfl,hB.cell 7 rfl⟩) (fun zy=>?_)
 refine Tk 0 rfl zy ?_
 refine Tk 1 rfl zy ?_
 refine Tk 2 rfl zy ?_
 refine To 3 rfl fun K hK=>?_
 go_simp
 refine(sA n uw uH _ hG.holds).mono ?_
 rintro e w7 ⟨v7,rfl,o4⟩
 have hB:=hB.below o4.below;have hT:=hT.below o4.below;obtain⟨sa,sb,sc,sd,H7,rfl,vV,eu⟩:=o4;have uL:=vV.none uL tJ;have tJ:=hT.lt;have yx:=yx.trans vV.le;have hG:=hG.trans vV
 refine Ko hK ?_ fun zy=>?_
 ·exact⟨hB.cell 4 rfl,hB.cell 5 rfl,hB.cell 6 rfl,hB.cell 7 rfl⟩
 clear hK K
 refine To 4 rfl fun K hK=>?_
 go_simp
 refine(wd (hTab.mono yx) (hu.mono yx).arg eu.arg _ hG.holds).mono ?_
 rintro e w8 ⟨v8,rfl,rn⟩
 have hB:=hB.below rn.below;have hT:=hT.below rn.below;obtain⟨ta,tb,tc,td,H8,rfl,yA,my⟩:=rn;have uL:=yA.none uL tJ;have tJ:=hT.lt;have yx:=yx.trans yA.le;have hG:=hG.trans yA
 refine Ko hK ?_ fun zy=>?_
 ·exact⟨hB.cell 4 rfl,hB.cell 5 rfl,hB.cell 6 rfl,hB.cell 7 rfl⟩
 clear hK K
 refine Tk 5 rfl zy ?_
 refine Tk 6 rfl zy ?_
 refine To 7 rfl fun K hK=>?_
 rw[if_pos (by rfl)]
 refine zm _ _ _ rfl (w.heap.size+1) _ rfl rfl _ _ hT zp rfl (ua _ _ _ _ rfl rfl rfl rfl) fun w9 kj yL=>?_
 have hB:=hB.grown yL (by simp);have hG:=hG.grownOwn uL (by omega) yL
 refine Ko hK ?_ fun zy=>?_
 ·exact⟨hB.cell 4 rfl,hB.cell 5 rfl,hB.cell 6 rfl,hB.cell 7 rfl⟩
 clear hK K
 refine To 8 rfl fun K hK=>?_
 go_simp
 refine Kz hK ?_
 clear hK K
 refine Wd ?_
 go_wp2_with fail
 refine zY rfl rfl kj rfl rfl zp rfl ?_
 rw[E.out]
 exact⟨_,rfl,ta,tb,tc,td,_,rfl,hG,my⟩
end Go.Proofs.YtliomcphdnppnaaGreatDoor
