/- squeezed. Walks: the references' left: maps. -/
import Derived.Test.YtgcjjhibdbafmabGreatDoorK04
import Derived.ChangeSlices
import Derived.OpenShut
set_option linter.unusedVariables false
set_option linter.unusedSimpArgs false
set_option maxRecDepth 100000
set_option maxHeartbeats 6400000
namespace Go.Proofs.YtgcjjhibdbafmabGreatDoor
open Go.RowKit
theorem Ts (x:Itm) (hk:x.kind=5) {H:Snap}(hT:Tabs H) (ih:∀ y:Itm,cnt y<cnt x→us y) {ba:Option Addr}{bc:Nat}{ia:Option Addr}{ic:Nat}(hx:IsItem H ba bc ia ic x) (w:World) (hH:Holds w H) (c d:Nat) (ln:0<c) (hc:c≤65536) (hd:d≤65536) :
  Calls Tryz.prog 60 #[xj x ba bc ia ic,.int .i64 c,.int .i64 d] w fun e w'=>e=.returned (.int .i64 (tp (yA x c d)))∧Below w.heap.size w w':=by
 have HX:=Hh hx;have tr:=hx.bounds;have hB:=Blk.new w 57 #[.int .i64 x.kind,.int .u64 x.n,.slice ba x.bytes.length bc,.slice ia x.items.length ic];have vL:=zi w (zS x ba bc ia ic);have od:((c-1:Nat):Int)=(c:Int)-1:=by omega
 have nT:x.bytes.length≤9223372036854775807:=by omega
 have bp:x.items.length≤9223372036854775807:=by omega
 have HN:=Hh tr.2.2.1;have VB:¬ (c:Int)<1:=by omega
 have k0:¬ x.kind<0:=by omega
 have k8:¬ 8<x.kind:=by omega
 have HK:=Hh hk;have ku:=Hh od;clear hx tr od;obtain⟨b0,b1,b2,b3,b4,b5,b6,b7,b8⟩:=WR hk;clear hk
 by_cases zF:x.n=0
 all_goals first | have bn00:((x.n:Int) != 0)=false:=by(simp[zF];done) | have bn00:((x.n:Int) != 0)=true:=by simp[zF]
 all_goals first | have bn01:(x.n=0)=True:=eq_true zF | have bn01:(x.n=0)=False:=eq_false zF
 all_goals have pt:=Hh zF
 all_goals clear zF
 all_goals by_cases tY:x.items.length%2=0
 all_goals first | have beven0:((x.items.length:Int)%2 != 0)=false:=by(rw[bne_eq_false_iff_eq];omega) | have beven0:((x.items.length:Int)%2 != 0)=true:=by(rw[bne_iff_ne];omega)
 all_goals have eK:=Hh tY
 all_goals clear tY
 all_goals
  by_cases uP:0<x.items.length
  ·have bpos0:(0:Int)<x.items.length:=by omega
   have nI:=Hh uP;clear uP;go_enter Tryz.func60,Tryz.ntmps60
   go_upto_region 22 with fail
   any_goals
    (have ss:yT x d (c-1)=false:=by
      cases hq:yT x d (c-1) with
      | false=>rfl
      | true=>exact absurd ((vY (by have:=HK.out;omega)).1 hq) (by have zF:=pt.out;have tY:=eK.out;have uP:=nI.out;have hk:=HK.out;omega)
     go_ret
     exact⟨by rw[vt ss];rfl,vL⟩)
   all_goals
    have HG:Hid (yT x d (c-1)=true):=(vY (by have:=HK.out;omega)).2 ⟨by omega,by omega,fun h=>by have:=HK.out;omega,fun _=>pt.out,fun h=>eK.out,by omega⟩;have c0:=hB.cell 0 rfl;have c3:=hB.cell 3 rfl;go_wp2_with fail
    have ed:=hB;have yX:=vL;go_loopw [1,157] (fun v1 v157 wr=>∃ (j r:Nat),j≤x.items.length∧r≤c∧v157=.int .i64 j∧v1=.int .i64 r∧wd (x.items.drop j) r (d+1)=wd x.items (c-1) (d+1)∧Below w.heap.size w wr∧Blk wr w.heap.size 57 #[.int .i64 x.kind,.int .u64 x.n,.slice ba x.bytes.length bc,.slice ia x.items.length ic]) (fun _ v157 _=>x.items.length-(intOf v157).toNat)
    case atStart=>exact⟨0,c-1,Nat.zero_le _,by omega,rfl,by rw[ku.out],rfl,yX,ed⟩
    case round =>
    obtain⟨j,r,hj,Qt,rfl,rfl,Xb,xP,iV⟩:=hrel;have XN:=Hh Xb;clear Xb
    by_cases ye:j<x.items.length
    ·have wF:Holds wr H:=hH.below xP (Nat.le_refl _);obtain⟨ib,io,rH,vD⟩:=HX.out.items (by omega);obtain⟨eba,ebc,eia,eic,q0,q1,q2,q3,tA⟩:=vD.get j ye;subst rH;have p0:=wF.cell q0;have p1:=wF.cell q1;have p2:=wF.cell q2;have p3:=wF.cell q3;have rj:wd (x.items.drop j) r (d+1)=match yA x.items[j] r (d+1) with | none=>none | some r'=>wd (x.items.drop (j+1)) r' (d+1):=by rw[List.drop_eq_getElem_cons ye,wd];cases yA x.items[j] r (d+1) <;> rfl
     have pQ:=Hh (rj.symm.trans XN.out);clear rj;have IHC:=ih x.items[j] (vF x j ye) H hT _ _ eba _ ebc eia _ eic (wr.alloc (zS x.items[j] eba ebc eia eic)) r (d+1) tA.arg (wF.alloc _) (by omega) (by omega);rw[show((d+1:Nat):Int)=(d:Int)+1 by omega]at IHC;have IHH:=Hh IHC;have ta:=xP.alloc xP.size (zS x.items[j] eba ebc eia eic);have sb:=iV.alloc (zS x.items[j] eba ebc eia eic);clear IHC q0 q1 q2 q3
     cases hq:yA x.items[j] r (d+1) with
     | none =>
      rw[hq]at IHH pQ;have E:Hid (yA x c d=none):=by rw[Hid,uD,if_neg (by omega),if_neg (by simp[HG.out]),← pQ.out]
      clear hq pQ;go_wp2_with fail
      refine IHH.out.mono ?_
      rintro e w6 ⟨rfl,tf⟩
      have vJ:=ta.trans (tf.mono ta.size)
      simp only[tp]
      go_wp2_with fail
      go_ret
      exact⟨by rw[E.out];rfl,vJ⟩
     | some r' =>
     rw[hq]at IHH pQ;have QQ:=(sI _ _ _ _ hq).2.2;have XK:Hid (wd (x.items.drop (j+1)) r' (d+1)=wd x.items (c-1) (d+1)):=pQ.out;clear hq pQ;have NH:(0:Int)≤(r':Int):=by omega
     have XI:r'≤c:=by omega
     go_wp2_with fail
     refine IHH.out.mono ?_
     rintro e w6 ⟨rfl,tf⟩
     have vJ:=ta.trans (tf.mono ta.size);have nP:=sb.below tf
     simp only[tp]
     clear xP iV ta sb tf IHH p0 p1 p2 p3 QQ wF;go_wp2_with fail
     go_roundw
     case rel=>exact⟨j+1,r',by omega,XI,by go_num,rfl,XK.out,vJ,nP⟩
     case measure=>simp[intOf];omega
    have gu:j=x.items.length:=by omega
    subst gu;have uJ:wd x.items (c-1) (d+1)=some r:=by rw[← XN.out,List.drop_length,wd]
    have bH:=Hh uJ;clear uJ XN;obtain⟨yv,Xm,uA⟩:=nu _ _ _ _ bH.out;have iT:=Hh yv;have nT:(yx x.items).length≤1099511627776:=by have:=GoodL.bytes yv Xm;omega
    have Gx:=Hh nT;have h5:x.kind=5:=by simpa using b5
    have H5:=Hh h5;clear yv Xm uA nT h5;go_wp2_with fail
    go_loopw [11] (fun v11 wz=>∃ i:Nat,2≤i∧i≤x.items.length+2∧v11=.int .i64 i∧wn (x.items.drop (i-2))=wn x.items∧Below w.heap.size w wz∧Blk wz w.heap.size 57 #[.int .i64 x.kind,.int .u64 x.n,.slice ba x.bytes.length bc,.slice ia x.items.length ic]) (fun v11 _=>(x.items.length+2)-(intOf v11).toNat)
    case atStart=>exact⟨2,by omega,by omega,rfl,rfl,xP,iV⟩
    case round =>
    obtain⟨i,mJ,GZ,rfl,pi,Sq,Uk⟩:=hrel;have HA:=Hh pi;have c0:=Uk.cell 0 rfl;have c3:=Uk.cell 3 rfl;clear pi xP iV
    by_cases hlt2:i<x.items.length
    ·have IV:Holds wr H:=hH.below Sq (Nat.le_refl _);obtain⟨ib,io,rH,vD⟩:=HX.out.items (by omega);obtain⟨y1,y2,y3,y4,p0,p1,p2,p3,hy⟩:=vD.get (i-2) (by omega);obtain⟨z1,z2,z3,z4,q0,q1,q2,q3,hz⟩:=vD.get i hlt2;subst rH;have hd:=lq x.items i mJ hlt2;rw[HA.out]at hd;have Kk:=iT.out.get x.items[i-2] (List.getElem_mem (by omega));have zT:=iT.out.get x.items[i] (List.getElem_mem hlt2);have OC:=mj (List.getElem_mem (show i-2<x.items.length by omega));have NC:=mj (List.getElem_mem hlt2);have GY:(2:Int)≤i:=by omega
     have Gm:((i:Int)-2).toNat=i-2:=by omega
     have Fx:IntKind.i64.wrap ((i:Int)-2)=(i:Int)-2:=IntWalk.i64_in _ (by omega);have Fs:(0:Int)≤(i:Int)-2:=by omega
     have Ft:(i:Int)-2<x.items.length:=by omega
     have Fu:(i:Int)<x.items.length:=by omega
     generalize x.items[i-2]'(by omega)=y at *
     generalize x.items[i]'hlt2=z at *
     have nT:=Gx.out;have RY:=Hh (fun w1:World=>fun h1:Holds w1 H=>sP y H _ _ y1 _ y2 y3 _ y4 w1 (d+1) Kk (by omega) hy.arg h1);have RZ:=Hh (fun w1:World=>fun h1:Holds w1 H=>sP z H _ _ z1 _ z2 z3 _ z4 w1 (d+1) zT (by omega) hz.arg h1);have QY:(zZ y).length≤1099511627776:=by omega
     have JI:(zZ z).length≤1099511627776:=by omega
     have HD:=Hh hd;clear Kk zT OC NC nT hd vD;go_upto_region 32 with fail
     have ep:=Uk.drew;have wG:=Sq.drew;have xY:=IV.drew
     refine zr 14 (fun w'=>w'.cell? ⟨w.heap.size,3,none⟩=some (.slice (some ⟨ib,io,none⟩) x.items.length ic)∧w'.cell? ⟨ib,io+(i-2)*4,none⟩=some (.int .i64 y.kind)∧w'.cell? ⟨ib,io+(i-2)*4+1,none⟩=some (.int .u64 y.n)∧w'.cell? ⟨ib,io+(i-2)*4+2,none⟩=some (.slice y1 y.bytes.length y2)∧w'.cell? ⟨ib,io+(i-2)*4+3,none⟩=some (.slice y3 y.items.length y4)∧w'.cell? ⟨ib,io+i*4,none⟩=some (.int .i64 z.kind)∧w'.cell? ⟨ib,io+i*4+1,none⟩=some (.int .u64 z.n)∧w'.cell? ⟨ib,io+i*4+2,none⟩=some (.slice z1 z.bytes.length z2)∧w'.cell? ⟨ib,io+i*4+3,none⟩=some (.slice z3 z.items.length z4)) (by kernel_rfl) (⟨ep.cell 3 rfl,xY.cell p0,xY.cell p1,xY.cell p2,xY.cell p3,xY.cell q0,xY.cell q1,xY.cell q2,xY.cell q3⟩) (fun zy=>?_)
     refine Tk 0 rfl zy ?_
     refine Tk 1 rfl zy ?_
     refine Tk 2 rfl zy ?_
     refine Tk 3 rfl zy ?_
     refine Tk 4 rfl zy ?_
     refine Tk 5 rfl zy ?_
     refine Tk 7 rfl zy ?_
     refine Tk 8 rfl zy ?_
     refine Tk 9 rfl zy ?_
     refine Tk 10 rfl zy ?_
     refine Tk 11 rfl zy ?_
     refine To 6 rfl fun K hK=>?_
     go_simp
     refine(RY.out _ xY).mono ?_
     rintro e wA ⟨rA,rfl,Qn⟩
     obtain⟨AA,ca,rfl,_⟩:=Qn.own.form;have QR:=Qn.own.src
     try have QS:=QS.below Qn.2
     have xY:=xY.below Qn.2 (Nat.le_refl _);have ep:=ep.below Qn.2;have wG:=wG.trans (Qn.2.mono wG.size)
     refine Ko hK ?_ fun zy=>?_
     ·exact⟨ep.cell 3 rfl,xY.cell p0,xY.cell p1,xY.cell p2,xY.cell p3,xY.cell q0,xY.cell q1,xY.cell q2,xY.cell q3⟩
     clear hK K
     refine To 12 rfl fun K hK=>?_
     go_simp
     refine(RZ.out _ xY).mono ?_
     rintro e wB ⟨rB,rfl,Qo⟩
     obtain⟨BB,cb,rfl,_⟩:=Qo.own.form;have QS:=Qo.own.src
     try have QR:=QR.below Qo.2
     have xY:=xY.below Qo.2 (Nat.le_refl _);have ep:=ep.below Qo.2;have wG:=wG.trans (Qo.2.mono wG.size)
     refine Ko hK ?_ fun zy=>?_
     ·exact⟨ep.cell 3 rfl,xY.cell p0,xY.cell p1,xY.cell p2,xY.cell p3,xY.cell q0,xY.cell q1,xY.cell q2,xY.cell q3⟩
     clear hK K
     refine To 13 rfl fun K hK=>?_
     go_simp
     refine(se _ AA BB (zZ y) (zZ z) _ _ ca cb rfl rfl QY JI QR QS).mono ?_
     rintro e wC ⟨rfl,Mx⟩
     have xY:=xY.below Mx (Nat.le_refl _);have ep:=ep.below Mx;have wG:=wG.trans (Mx.mono wG.size)
     refine Ko hK ?_ fun zy=>?_
     ·exact⟨ep.cell 3 rfl,xY.cell p0,xY.cell p1,xY.cell p2,xY.cell p3,xY.cell q0,xY.cell q1,xY.cell q2,xY.cell q3⟩
     clear hK K
     refine To 14 rfl fun K hK=>?_
     go_simp
     refine Kz hK ?_
     clear hK K
     refine Wd ?_
     clear zy
     by_cases qb:Lib.compareBytes (zZ y) (zZ z)<0
     ·have kK:¬ (0:Int)≤Lib.compareBytes (zZ y) (zZ z):=by omega
      have HN:Hid (wn (x.items.drop (i+2-2))=wn x.items):=by rw[Hid,Nat.add_sub_cancel,HD.out,decide_eq_true qb,Bool.true_and]
      generalize Lib.compareBytes (zZ y) (zZ z)=cmp at *
      have HC:=Hh qb;clear qb QR QS xY;go_wp2_with fail
      go_roundw
      case rel=>exact⟨i+2,by omega,by omega,by go_num,HN.out,wG,ep⟩
      case measure=>simp[intOf];omega
     have kK:(0:Int)≤Lib.compareBytes (zZ y) (zZ z):=by omega
     have HN:wn x.items=false:=by rw[HD.out,decide_eq_false qb,Bool.false_and]
     have E:Hid (yA x c d=none):=by
      rw[Hid,uD,if_neg (by omega),if_neg (by simp[HG.out]),bH.out]
      simp only
      rw[if_pos ⟨H5.out,HN⟩]
     generalize Lib.compareBytes (zZ y) (zZ z)=cmp at *
     clear qb QR QS xY HN;go_wp2_with fail
     go_ret
     exact⟨by rw[E.out];rfl,wG⟩
    have wi:¬ (i:Int)<x.items.length:=by omega
    have HN:wn x.items=true:=by rw[← HA.out];exact dU _ _ mJ (by omega)
    have E:Hid (yA x c d=some r):=by
     rw[Hid,uD,if_neg (by omega),if_neg (by simp[HG.out]),bH.out]
     simp only
     rw[if_neg (by rintro⟨_,h⟩;rw[HN]at h;cases h)]
    clear HN hlt2;go_wp2_with fail
    go_ret
    exact⟨by rw[E.out];rfl,Sq⟩
  have bpos0:¬ (0:Int)<x.items.length:=by omega
  have nI:=Hh uP;clear uP;go_enter Tryz.func60,Tryz.ntmps60
  go_upto_region 22 with fail
  any_goals
   (have ss:yT x d (c-1)=false:=by
     cases hq:yT x d (c-1) with
     | false=>rfl
     | true=>exact absurd ((vY (by have:=HK.out;omega)).1 hq) (by have zF:=pt.out;have tY:=eK.out;have uP:=nI.out;have hk:=HK.out;omega)
    go_ret
    exact⟨by rw[vt ss];rfl,vL⟩)
  all_goals
   have wS:yT x d (c-1)=true:=(vY (by have:=HK.out;omega)).2 ⟨by omega,by omega,fun h=>by have:=HK.out;omega,fun _=>pt.out,fun h=>eK.out,by omega⟩;have uq:x.items.length=0:=by have zF:=pt.out;have tY:=eK.out;have uP:=nI.out;have hk:=HK.out;omega
   have hk:=HK.out;have E:Hid (yA x c d=some (c-1)):=uU ln wS uq;have VG:¬ (0:Int)<x.items.length:=by omega
   have br:¬ (2:Int)<x.items.length:=by omega
   have HI:=Hh uq;have HC:=Hh wS;clear uq hk wS;have c0:=hB.cell 0 rfl;have c3:=hB.cell 3 rfl;go_wp2_with fail
   refine wp_loop_rounds 1 ?_
   rw[rounds_succ];go_wp2_with fail
   refine wp_loop_rounds 1 ?_
   rw[rounds_succ];go_wp2_with fail
   go_ret
   exact⟨by rw[E.out,← ku.out];rfl,vL⟩
theorem Tq (x:Itm) (hk:x.kind=3) {H:Snap}(hT:Tabs H) (ih:∀ y:Itm,cnt y<cnt x→us y) {ba:Option Addr}{bc:Nat}{ia:Option Addr}{ic:Nat}(hx:IsItem H ba bc ia ic x) (w:World) (hH:Holds w H) (c d:Nat) (ln:0<c) (hc:c≤65536) (hd:d≤65536) :
  Calls Tryz.prog 60 #[xj x ba bc ia ic,.int .i64 c,.int .i64 d] w fun e w'=>e=.returned (.int .i64 (tp (yA x c d)))∧Below w.heap.size w w':=by
 have HX:=Hh hx;have tr:=hx.bounds;have hB:=Blk.new w 57 #[.int .i64 x.kind,.int .u64 x.n,.slice ba x.bytes.length bc,.slice ia x.items.length ic];have vL:=zi w (zS x ba bc ia ic);have od:((c-1:Nat):Int)=(c:Int)-1:=by omega
 have nT:x.bytes.length≤9223372036854775807:=by omega
 have bp:x.items.length≤9223372036854775807:=by omega
 have HN:=Hh tr.2.2.1;have VB:¬ (c:Int)<1:=by omega
 have k0:¬ x.kind<0:=by omega
 have k8:¬ 8<x.kind:=by omega
 have HK:=Hh hk;have ku:=Hh od;have V:=Hh (tE hT (w.alloc (zS x ba bc ia ic)) (hH.alloc _) ba x.bytes _ bc rfl hx.bytes);clear hx tr od;obtain⟨b0,b1,b2,b3,b4,b5,b6,b7,b8⟩:=WO hk;clear hk
 by_cases zF:x.n=0
 all_goals first | (have bn00:((x.n:Int) != 0)=false:=by simp[zF]) | (have bn00:((x.n:Int) != 0)=true:=by simp[zF])
 all_goals first | (have bn01:(x.n=0)=True:=by first | exact eq_true zF | exact eq_false zF) | (have bn01:(x.n=0)=False:=by first | exact eq_true zF | exact eq_false zF)
 all_goals have pt:=Hh zF
 all_goals clear zF
 all_goals by_cases vH:Lib.validD x.bytes=true
 all_goals first | (have bval0:Lib.validD x.bytes=true:=by simpa using vH) | (have bval0:Lib.validD x.bytes=false:=by simpa using vH)
 all_goals have Ou:=Hh vH
 all_goals clear vH
 all_goals
  go_enter Tryz.func60,Tryz.ntmps60
  rw[bval0]at V;go_upto_region 22 with (go_at_call 83;refine V.out.mono ?_;rintro e wv ⟨rfl,Ka⟩;have hB:=hB.below Ka;have vL:=vL.trans (Ka.mono vL.size);have e0:=hB.cell 0 rfl;have e1:=hB.cell 1 rfl;have e2:=hB.cell 2 rfl;have e3:=hB.cell 3 rfl)
  any_goals
   (have ss:yT x d (c-1)=false:=by
     cases hq:yT x d (c-1) with
     | false=>rfl
     | true=>exact absurd ((ZL HK.out).1 hq) (by have zF:=pt.out;have vH:=Ou.out;rintro⟨p1,p2,p3,p4⟩;first | omega | (rw[bval0]at p4;cases p4))
    go_ret
    exact⟨by rw[vt ss];rfl,vL⟩)
  all_goals
   have wS:yT x d (c-1)=true:=(ZL HK.out).2 ⟨pt.out,by omega,by omega,bval0⟩;have uq:x.items.length=0:=by have zF:=pt.out;have vH:=Ou.out;omega
   have hk:=HK.out;have E:Hid (yA x c d=some (c-1)):=uU ln wS uq;have VG:¬ (0:Int)<x.items.length:=by omega
   have br:¬ (2:Int)<x.items.length:=by omega
   have HI:=Hh uq;have HC:=Hh wS;clear uq hk wS;have c0:=hB.cell 0 rfl;have c3:=hB.cell 3 rfl;go_wp2_with fail
   refine wp_loop_rounds 1 ?_
   rw[rounds_succ];go_wp2_with fail
   refine wp_loop_rounds 1 ?_
   rw[rounds_succ];go_wp2_with fail
   go_ret
   exact⟨by rw[E.out,← ku.out];rfl,vL⟩
theorem Tv (x:Itm) (hk:x.kind=8) {H:Snap}(hT:Tabs H) (ih:∀ y:Itm,cnt y<cnt x→us y) {ba:Option Addr}{bc:Nat}{ia:Option Addr}{ic:Nat}(hx:IsItem H ba bc ia ic x) (w:World) (hH:Holds w H) (c d:Nat) (ln:0<c) (hc:c≤65536) (hd:d≤65536) :
  Calls Tryz.prog 60 #[xj x ba bc ia ic,.int .i64 c,.int .i64 d] w fun e w'=>e=.returned (.int .i64 (tp (yA x c d)))∧Below w.heap.size w w':=by
 have HX:=Hh hx;have tr:=hx.bounds;have hB:=Blk.new w 57 #[.int .i64 x.kind,.int .u64 x.n,.slice ba x.bytes.length bc,.slice ia x.items.length ic];have vL:=zi w (zS x ba bc ia ic);have od:((c-1:Nat):Int)=(c:Int)-1:=by omega
 have nT:x.bytes.length≤9223372036854775807:=by omega
 have bp:x.items.length≤9223372036854775807:=by omega
 have HN:=Hh tr.2.2.1;have VB:¬ (c:Int)<1:=by omega
 have k0:¬ x.kind<0:=by omega
 have k8:¬ 8<x.kind:=by omega
 have HK:=Hh hk;have ku:=Hh od;have V:=Hh (qq x.n tr.2.2.1 (w.alloc (zS x ba bc ia ic)));clear hx tr od;obtain⟨b0,b1,b2,b3,b4,b5,b6,b7,b8⟩:=WU hk;clear hk
 by_cases zF:x.n=0
 all_goals first | (have bn00:((x.n:Int) != 0)=false:=by simp[zF]) | (have bn00:((x.n:Int) != 0)=true:=by simp[zF])
 all_goals first | (have bn01:(x.n=0)=True:=by first | exact eq_true zF | exact eq_false zF) | (have bn01:(x.n=0)=False:=by first | exact eq_true zF | exact eq_false zF)
 all_goals have pt:=Hh zF
 all_goals clear zF
 all_goals by_cases km:isNaN x.n=true
 all_goals first | (have bnan0:isNaN x.n=true:=by simpa using km) | (have bnan0:isNaN x.n=false:=by simpa using km)
 all_goals have Oq:=Hh km
 all_goals clear km
 all_goals by_cases nV:x.n=zJ
 all_goals first | (have bnn0:((x.n:Int) != 9221120237041090560)=false:=by(first | (rw[bne_eq_false_iff_eq];unfold zJ at nV;omega) | (rw[bne_iff_ne];unfold zJ at nV;omega))) | (have bnn0:((x.n:Int) != 9221120237041090560)=true:=by(first | (rw[bne_eq_false_iff_eq];unfold zJ at nV;omega) | (rw[bne_iff_ne];unfold zJ at nV;omega)))
 all_goals have bf:=Hh nV
 all_goals clear nV
 all_goals
  go_enter Tryz.func60,Tryz.ntmps60
  rw[bnan0]at V;go_upto_region 22 with (go_at_call 84;refine V.out.mono ?_;rintro e wv ⟨rfl,rfl⟩)
  any_goals
   (have ss:yT x d (c-1)=false:=by
     cases hq:yT x d (c-1) with
     | false=>rfl
     | true=>exact absurd ((ZN HK.out).1 hq) (by have zF:=pt.out;have km:=Oq.out;have nV:=bf.out;rintro⟨p1,p2,p3⟩;first | omega | (rcases p3 with p3 | p3;(rw[bnan0]at p3;cases p3);exact nV p3))
    go_ret
    exact⟨by rw[vt ss];rfl,vL⟩)
  all_goals
   have wS:yT x d (c-1)=true:=(ZN HK.out).2 ⟨by omega,by omega,by first | exact .inl bnan0 | exact .inr bf.out⟩;have uq:x.items.length=0:=by have zF:=pt.out;have km:=Oq.out;have nV:=bf.out;omega
   have hk:=HK.out;have E:Hid (yA x c d=some (c-1)):=uU ln wS uq;have VG:¬ (0:Int)<x.items.length:=by omega
   have br:¬ (2:Int)<x.items.length:=by omega
   have HI:=Hh uq;have HC:=Hh wS;clear uq hk wS;have c0:=hB.cell 0 rfl;have c3:=hB.cell 3 rfl;go_wp2_with fail
   refine wp_loop_rounds 1 ?_
   rw[rounds_succ];go_wp2_with fail
   refine wp_loop_rounds 1 ?_
   rw[rounds_succ];go_wp2_with fail
   go_ret
   exact⟨by rw[E.out,← ku.out];rfl,vL⟩
theorem Va (x:Itm) (hk:x.kind<0∨8<x.kind) {ba:Option Addr}{bc:Nat}{ia:Option Addr}{ic:Nat}(w:World) (c d:Nat) (ln:0<c) (hc:c≤65536) :
  Calls Tryz.prog 60 #[xj x ba bc ia ic,.int .i64 c,.int .i64 d] w fun e w'=>e=.returned (.int .i64 (tp (yA x c d)))∧Below w.heap.size w w':=by
 have E:Hid (yA x c d=none):=vt (YL hk);have VB:¬ (c:Int)<1:=by omega
 have b2:(x.kind==2)=false:=by rw[beq_eq_false_iff_ne];omega
 have b3:(x.kind==3)=false:=by rw[beq_eq_false_iff_ne];omega
 have b4:(x.kind==4)=false:=by rw[beq_eq_false_iff_ne];omega
 have b5:(x.kind==5)=false:=by rw[beq_eq_false_iff_ne];omega
 have b6:(x.kind==6)=false:=by rw[beq_eq_false_iff_ne];omega
 rcases hk with hk | hk
 ·go_enter Tryz.func60,Tryz.ntmps60
  go_wp2_with fail
  go_ret
  exact⟨by rw[E.out];rfl,zi w _⟩
 have tB:¬ x.kind<0:=by omega
 go_enter Tryz.func60,Tryz.ntmps60
 go_wp2_with fail
 go_ret
 exact⟨by rw[E.out];rfl,zi w _⟩
theorem W4 (x:Itm):us x:=by
 have main:∀ N,∀ x:Itm,cnt x≤N→us x:=by
  intro N
  induction N with
  | zero =>
   intro x hx
   have:0<cnt x:=by cases x;rw[cnt];omega
   omega
  | succ N ih =>
  intro x hx H hT k n ba bl bc ia il ic w c d ha hH hc hd
  obtain⟨rfl,rfl,rfl,rfl,hi⟩:=ha.eqs_;have ih':∀ y:Itm,cnt y<cnt x→us y:=fun y hy=>ih y (by omega)
  rcases Nat.eq_zero_or_pos c with h0 | h0
  ·subst h0
   exact YD x (H:=H) w d
  rcases(by omega:(x.kind<0∨8<x.kind)∨x.kind=0∨x.kind=1∨x.kind=2∨x.kind=3∨x.kind=4∨x.kind=5∨x.kind=6∨x.kind=7∨x.kind=8) with h | h | h | h | h | h | h | h | h | h
  ·exact Va x h w c d h0 hc
  ·exact Tm x h hT ih' hi w hH c d h0 hc hd
  ·exact Tn x h hT ih' hi w hH c d h0 hc hd
  ·exact Tp x h hT ih' hi w hH c d h0 hc hd
  ·exact Tq x h hT ih' hi w hH c d h0 hc hd
  ·exact Tr x h hT ih' hi w hH c d h0 hc hd
  ·exact Ts x h hT ih' hi w hH c d h0 hc hd
  ·exact Tt x h hT ih' hi w hH c d h0 hc hd
  ·exact Tu x h hT ih' hi w hH c d h0 hc hd
  exact Tv x h hT ih' hi w hH c d h0 hc hd
 exact main _ x (Nat.le_refl _)
theorem aT {x:Itm}{r:Nat}(h:yA x 256 0=some r):Good x 0∧(zZ x).length≤1099511627776:=by
 obtain⟨h1,h2,h3⟩:=sI _ _ _ _ h;have:=h1.bytes h2
 exact⟨h1,by omega⟩
theorem pF {H:Snap}(hT:Tabs H) {k n:Int}{ba:Option Addr}{bl bc:Nat}{ia:Option Addr}{il ic:Nat}{x:Itm}(hx:ItemA H k n ba bl bc ia il ic x) (w:World) (hH:Holds w H) :
  Calls Tryz.prog 37 #[.agg #[.int .i64 k,.int .u64 n,.slice ba bl bc,.slice ia il ic]] w fun e w'=>e=.returned (.bool (zL x))∧Below w.heap.size w w':=by
 obtain⟨rfl,rfl,rfl,rfl,ot⟩:=hx.eqs_;have hB:=Blk.new w 57 #[.int .i64 x.kind,.int .u64 x.n,.slice ba x.bytes.length bc,.slice ia x.items.length ic];have vL:=zi w (zS x ba bc ia ic);have Pw:=hH.alloc (zS x ba bc ia ic);have L:=Hh (W4 x H hT _ _ _ _ _ _ _ _ (w.alloc (zS x ba bc ia ic)) 256 0 ot.arg Pw (by omega) (by omega));have E0:=Yb x
 unfold fc at E0
 cases hl:yA x 256 0 with
 | none =>
  rw[hl]at L E0;have E:Hid (zL x=false):=by rw[Hid,← E0];rfl
  clear hl E0;go_enter Tryz.func37,Tryz.ntmps37
  go_wp2_with fail
  refine L.out.mono ?_
  rintro e w1 ⟨rfl,wU⟩
  have yX:=vL.trans (wU.mono vL.size)
  simp only[tp]
  go_wp2_with fail
  go_ret
  exact⟨by rw[E.out];rfl,yX⟩
 | some r =>
 rw[hl]at L E0;obtain⟨hg,tC⟩:=aT hl;have E:Hid (zL x=decide ((zZ x).length≤4096)):=by rw[Hid,← E0];rfl
 have NH:(0:Int)≤(r:Int):=by omega
 have RW:=Hh (fun w1:World=>fun h1:Holds w1 H=>sP x H _ _ ba _ bc ia _ ic w1 0 hg tC ot.arg h1);have mL:=Hh tC;clear hl E0 hg tC;go_enter Tryz.func37,Tryz.ntmps37
 go_wp2_with fail
 refine L.out.mono ?_
 rintro e w1 ⟨rfl,wU⟩
 have ws:=hB.below wU;have yX:=vL.trans (wU.mono vL.size);have pu:=Pw.below wU (Nat.le_refl _);have c0:=ws.cell 0 rfl;have c1:=ws.cell 1 rfl;have c2:=ws.cell 2 rfl;have c3:=ws.cell 3 rfl
 simp only[tp]
 go_wp2_with fail
 refine(RW.out _ pu).mono ?_
 rintro e w2 ⟨r2,rfl,hf⟩
 obtain⟨RA,rc,rfl,_⟩:=hf.own.form;have gp:=yX.trans (hf.2.mono yX.size);have tC:=mL.out
 by_cases h4:(zZ x).length≤4096
 ·have E1:Hid (zL x=true):=by rw[Hid,E.out,decide_eq_true h4]
  have I7:((zZ x).length:Int)≤4096:=by omega
  generalize (zZ x).length=q at *
  clear h4 hf;go_wp2_with fail
  go_ret
  exact⟨by rw[E1.out];rfl,gp⟩
 have E1:Hid (zL x=false):=by rw[Hid,E.out,decide_eq_false h4]
 have I7:¬ ((zZ x).length:Int)≤4096:=by omega
 generalize (zZ x).length=q at *
 clear h4 hf;go_wp2_with fail
 go_ret
 refine⟨?_,gp⟩
 rw[E1.out];show Ending.returned (Value.bool (decide _))=_
 rw[decide_eq_false (by omega)]
def VJ (w:World) (x:Itm) (e:Ending) (w':World):Prop :=
 (zL x=false∧e=.returned (.tuple #[.slice none 0 0,.int .i64 1])∧Below w.heap.size w w')∨
 (zL x=true∧∃ r,e=.returned (.tuple #[r,.int .i64 0])∧Fresh w (zZ x) r w')
theorem ar {H:Snap}(hT:Tabs H) {k n:Int}{ba:Option Addr}{bl bc:Nat}{ia:Option Addr}{il ic:Nat}{x:Itm}(hx:ItemA H k n ba bl bc ia il ic x) (w:World) (hH:Holds w H) :
  Calls Tryz.prog 24 #[.agg #[.int .i64 k,.int .u64 n,.slice ba bl bc,.slice ia il ic]] w (VJ w x):=by
 obtain⟨rfl,rfl,rfl,rfl,ot⟩:=hx.eqs_;have pu:=hH.alloc (zS x ba bc ia ic);have wU:=zi w (zS x ba bc ia ic);have ws:=Blk.new w 57 #[.int .i64 x.kind,.int .u64 x.n,.slice ba x.bytes.length bc,.slice ia x.items.length ic];have V:=Hh (pF hT ot.arg _ pu);go_enter Tryz.func24,Tryz.ntmps24
 go_wp2_with fail
 refine V.out.mono ?_
 rintro e w2 ⟨rfl,xJ⟩
 have yU:=ws.below xJ;have b0:=yU.cell 0 rfl;have b1:=yU.cell 1 rfl;have b2:=yU.cell 2 rfl;have b3:=yU.cell 3 rfl;have po:=pu.below xJ (Nat.le_refl _);have hb:=wU.trans (xJ.mono wU.size)
 cases hv:zL x with
 | false =>
  have Z6:=Hh hv;clear hv;go_wp2_with fail
  go_ret2
  exact .inl ⟨Z6.out,rfl,hb⟩
 | true =>
 have hg:=(wX x).1 hv;have A:=Hh (sP x H _ _ ba _ bc ia _ ic w2 0 hg.1 (by omega) ot.arg po);have Z6:=Hh hv;clear hv hg;go_wp2_with fail
 refine A.out.mono ?_
 rintro e w3 ⟨r,rfl,hf⟩
 go_wp2_with fail
 go_ret2
 exact .inr ⟨Z6.out,_,rfl,hf.step hb⟩
theorem ve (n:Int) (h1 : -9223372036854775808≤n) (h2:n≤9223372036854775807) {H:Snap}(w:World) (hH:Holds w H) :
  Calls Tryz.prog 39 #[.int .i64 n] w fun e w'=>∃ v,e=.returned v∧Gives w H (zt n) v w':=by
 by_cases h0:n<0
 ·have E:Hid (zt n=.mk 1 (-1-n).toNat [] []∧(-1-n).toNat<18446744073709551616∧-1-n=((-1-n).toNat:Int)):=⟨by rw[zt,if_pos h0],by omega,by omega⟩
  have K1:IntKind.u64.wrap (-1-n) = -1-n:=by rw[IntKind.wrap_u64];omega
  have K0:IntKind.i64.wrap (-1-n) = -1-n:=IntWalk.i64_in _ (by omega);clear h1 h2;go_enter Tryz.func39,Tryz.ntmps39
  go_wp2_with fail
  refine vK rfl rfl (Blk.new _ _ _) rfl rfl zv rfl ?_
  rw[E.out.1]
  exact⟨_,rfl,Gives.plain hH (zi _ _) (by omega) E.out.2.1 E.out.2.2⟩
 have E:Hid (zt n=.mk 0 n.toNat [] []∧n.toNat<18446744073709551616∧n=(n.toNat:Int)):=⟨by rw[zt,if_neg h0],by omega,by omega⟩
 have K1:IntKind.u64.wrap n=n:=by rw[IntKind.wrap_u64];omega
 have hn:=Int.not_lt.1 h0;clear h1 h2 h0;go_enter Tryz.func39,Tryz.ntmps39
 go_wp2_with fail
 refine vK rfl rfl (Blk.new _ _ _) rfl rfl zv rfl ?_
 rw[E.out.1]
 exact⟨_,rfl,Gives.plain hH (zi _ _) (by omega) E.out.2.1 E.out.2.2⟩
theorem pE {A:Option Addr}{n c:Nat}{l:List UInt8}(hn:n=l.length) (hl:l.length≤1099511627776) {H:Snap}(w:World) (hs:Src w A (l.map zI)) (hH:Holds w H) :
  Calls Tryz.prog 86 #[.slice A n c] w fun e w'=>∃ v,e=.returned v∧Gives w H (.mk 2 0 l []) v w':=by
 have HN:=Hh hn;clear hn;have vC:=hs.alloc zg;go_enter Tryz.func86,Tryz.ntmps86
 go_wp2_with (at_builtin;refine yf ?_)
 refine zR rfl (.const (.slice none 0 0)) (.tmp 3) rfl (w.heap.size+1) (.slice none 0 0) [] rfl (OwnB.nil _ _) A n c l rfl HN.out vC (by simp;omega) (by simp) fun v' w1 hO hg _=>?_
 have hf:Fresh (w.alloc zg) l v' w1:=⟨by have:=hO.more (base':=(w.alloc zg).heap.size) (by simp);simpa [OwnB] using this,zC (by simpa [Value.ownBlock] using hg)⟩
 have hB:=(Blk.new w 57 #[.int .i64 0,.int .u64 0,.slice none 0 0,.slice none 0 0]).below hf.2;have HF:=Hh (hf.gives (k:=2) (hH.alloc zg) (by omega));obtain⟨A',c',rfl,_⟩:=hf.own.form;clear hO hg hf;go_wp2_with (with_reducible refine zx ?_)
 refine stI hB fun w2 yU yq=>?_
 go_wp2_with fail
 refine vK rfl rfl yU rfl rfl zv rfl ?_
 exact⟨_,rfl,HF.out.own (zi _ _) hH yq (Nat.le_refl _) (by simp)⟩
theorem eH (s:ByteArray) (hl:s.size≤1099511627776) {H:Snap}(w:World) (hH:Holds w H) :
  Calls Tryz.prog 40 #[.string s] w fun e w'=>∃ v,e=.returned v∧Gives w H (.mk 3 0 s.data.toList []) v w':=by
 obtain⟨g,c,w1,hr,hb,H',hG,hi⟩:=lH (hH.alloc zg) s hl;have hB:=(Blk.new w 57 #[.int .i64 0,.int .u64 0,.slice none 0 0,.slice none 0 0]).below hb
 have HI:Gives (w.alloc zg) H (.mk 3 0 s.data.toList []) (.agg #[.int .i64 3,.int .u64 0,.slice (some ⟨g,0,none⟩) s.size c,.slice none 0 0]) w1:=by
  refine⟨some ⟨g,0,none⟩,c,none,0,H',by simp[xj,Itm.kind,Itm.n,Itm.bytes,Itm.items],hG, ?_⟩
  rw[IsItem]
  exact⟨⟨by omega,by omega,by omega,Nat.le_refl _,by omega⟩,hi,fun h=>absurd h (by simp)⟩
 have M6:=Hh HI;clear hb hi HI;go_enter Tryz.func40,Tryz.ntmps40
 go_wp2_with (with_reducible refine zx ?_)
 refine stI hB fun w2 yU yq=>?_
 go_wp2_with fail
 refine vK rfl rfl yU rfl rfl zv rfl ?_
 exact⟨_,rfl,M6.out.own (zi _ _) hH yq (Nat.le_refl _) (by simp)⟩
structure IsInts (H:Snap) (A:Option Addr) (c:Nat) (l:List Int):Prop where
 le:l.length≤c
 max:c≤9223372036854775807
 row:Row H A (l.map (Value.int .i64))
 bnd:∀ x∈l, -9223372036854775808≤x∧x≤9223372036854775807
theorem IsInts.mono {H K:Snap}{A:Option Addr}{c:Nat}{l:List Int}(h:IsInts H A c l) (hl:H.le K):IsInts K A c l:=⟨h.le,h.max,h.row.mono hl,h.bnd⟩
def Deck (w:World) (g:Nat) (H:Snap):Prop:=∃ (A:Option Addr) (c:Nat) (l:List Int) (k:Nat),Blk w g 52 #[.slice A l.length c,.int .i64 k]∧IsInts H A c l∧k≤l.length
theorem Deck.mono {w:World}{g:Nat}{H K:Snap}(h:Deck w g H) (hl:H.le K):Deck w g K:=by
 obtain⟨A,c,l,k,h1,h2,h3⟩:=h
 exact⟨A,c,l,k,h1,h2.mono hl,h3⟩
theorem Deck.below {w w':World}{g:Nat}{H:Snap}(h:Deck w g H) (hb:Below w.heap.size w w'):Deck w' g H:=by
 obtain⟨A,c,l,k,h1,h2,h3⟩:=h
 exact⟨A,c,l,k,h1.below hb,h2,h3⟩
theorem Deck.lt {w:World}{g:Nat}{H:Snap}(h:Deck w g H):g<w.heap.size:=by
 obtain⟨A,c,l,k,h1,h2,h3⟩:=h
 exact h1.lt
def kr (v n:Int):Int:=if v.tmod n<0 then v.tmod n+n else v.tmod n
theorem pa (v n:Int) (hn:0<n):0≤kr v n∧kr v n<n:=by
 have h1:=Int.tmod_lt_of_pos v hn;have h2 : -n<v.tmod n:=by have:=Int.tmod_lt_of_pos (-v) hn;rw[Int.neg_tmod]at this;omega
 unfold kr
 split <;> omega
theorem jq (v n:Int) (hn:0<n) (oo:n≤1099511627776) (w:World) :
  Calls Tryz.prog 15 #[.int .i64 v,.int .i64 n] w fun e w'=>e=.returned (.int .i64 (kr v n))∧w=w':=by
 have h1:=Int.tmod_lt_of_pos v hn;have h2 : -n<v.tmod n:=by have:=Int.tmod_lt_of_pos (-v) hn;rw[Int.neg_tmod]at this;omega
 have zF:(n==0)=false:=by rw[beq_eq_false_iff_ne];omega
 have ru:(n=0)=False:=eq_false (by omega);have K1:IntKind.i64.wrap (v.tmod n)=v.tmod n:=IntWalk.i64_in _ (by omega)
 by_cases h0:v.tmod n<0
 ·have E:Hid (kr v n=v.tmod n+n):=by rw[Hid,kr,if_pos h0]
  go_enter Tryz.func15,Tryz.ntmps15
  go_wp2_with fail
  go_ret
  exact⟨by rw[E.out];rfl,rfl⟩
 have E:Hid (kr v n=v.tmod n):=by rw[Hid,kr,if_neg h0]
 go_enter Tryz.func15,Tryz.ntmps15
 go_wp2_with fail
 go_ret
 exact⟨by rw[E.out];rfl,rfl⟩
theorem Ve (A:Option Addr) (n c:Nat) (w:World) :
  Calls Tryz.prog 4 #[.slice A n c] w fun e w'=>e=.returned (.bool (decide (n≤600)))∧w=w':=by
 have E:Hid (decide ((n:Int)≤600)=decide (n≤600)):=by rw[Hid,Bool.eq_iff_iff,decide_eq_true_eq,decide_eq_true_eq];omega
 go_enter Tryz.func4,Tryz.ntmps4
 go_wp2_with fail
 go_ret
 exact⟨by rw[← E.out];rfl,rfl⟩
theorem RK {H:Snap}{A:Option Addr}{c:Nat}{l:List Int}(hl:IsInts H A c l) (w:World) :
  Calls Tryz.prog 7 #[.slice A l.length c] w fun e w'=>e=.returned (.pointer (some ⟨w.heap.size,0,none⟩))∧Deck w' w.heap.size H∧Below w.heap.size w w':=by
 have hB:=Blk.new w 52 #[.slice A l.length c,.int .i64 0];have hb:=zi w (.cells #[.slice A l.length c,.int .i64 0] 52);have HL:=Hh hl;clear hl;go_enter Tryz.func7,Tryz.ntmps7
 go_wp2_with fail
 go_ret
 exact⟨rfl,⟨A,c,l,0,hB,HL.out,Nat.zero_le _⟩,hb⟩
theorem W7:(Tryz.prog.info? 3).map (·.size)=some 1:=by kernel_rfl
theorem Tw {H:Snap}{g:Nat}(w:World) (hD:Deck w g H) (hH:Holds w H) (hg:H g=none) (n:Int) (hn:0<n) (oo:n≤1099511627776) :
  Calls Tryz.prog 20 #[.pointer (some ⟨g,0,none⟩),.int .i64 n] w fun e w'=>∃ r:Int,e=.returned (.int .i64 r)∧0≤r∧r<n∧Deck w' g H∧w.grownBy w' (some g):=by
 obtain⟨A,c,l,k,hB,hl,hk⟩:=hD;have hc:=hl.max;have tC:=hl.le;have HL:=Hh hl;have ep:=hB.drew;clear hl;have O8:(k:Int)+1≤9223372036854775807∨l.length≤k:=by omega
 have M8:=Hh O8;have JW:=Hh oo;clear hc tC O8 oo;go_enter Tryz.func20,Tryz.ntmps20
 go_upto_region 1 with fail
 refine zr 9 (fun w'=>w'.cell? ⟨g,0,none⟩=some (.slice A l.length c)∧w'.cell? ⟨g,1,none⟩=some (.int .i64 k)) (by kernel_rfl) (⟨ep.cell 0 rfl,ep.cell 1 rfl⟩) (fun zy=>?_)
 refine Tk 0 rfl zy ?_
 refine Tk 1 rfl zy ?_
 refine Tk 2 rfl zy ?_
 refine Tk 3 rfl zy ?_
 refine Tk 4 rfl zy ?_
 refine Tk 5 rfl zy ?_
 refine Tk 6 rfl zy ?_
 refine Tk 7 rfl zy ?_
 refine Tk 8 rfl zy ?_
 refine To 9 rfl fun K hK=>?_
 go_simp
 refine Kz hK ?_
 clear hK K
 refine Wd ?_
 clear zy
 by_cases ye:k<l.length
 ·have ej:¬ (l.length:Int)≤k:=by omega
  have c1:=ep.cell 1 rfl;have rL:(k:Int)+1≤9223372036854775807:=by have:=M8.out;omega
  have oq:IntKind.i64.wrap ((k:Int)+1)=(k:Int)+1:=IntWalk.i64_in _ (by omega);clear rL;go_wp2_with (with_reducible refine zx ?_)
  refine zu rfl _ _ _ rfl rfl g 1 (.int .i64 ((k:Int)+1)) rfl rfl _ _ ep W7 (by simp) rfl fun w2 yU yq=>?_
  obtain⟨ib,io,rfl,xw⟩:=HL.out.row (by intro h;rw[List.map_eq_nil_iff]at h;subst h;simp at ye);have yq:=yk (tD (yu w (some g))) yq (.inl rfl);have po:Holds w2 H:=hH.grown yq (by rintro q ⟨⟩;exact hg);have hx:=xw k (.int .i64 l[k]) (by simp[ye]);have wL:Blk w2 g 52 #[.slice (some ⟨ib,io,none⟩) l.length c,.int .i64 ((k:Int)+1)]:=yU;have MD:=Hh (fun w3:World=>jq l[k] n hn JW.out w3);have Qm:=pa l[k] n hn
  generalize l[k]'ye=x at *
  have xY:=po.drew;have Pt:=wL.drew;have yQ:=tD yq;have Gc:(k:Int)<l.length:=by omega
  have vC:IntKind.i64.wrap ((k:Int)+1-1)=(k:Int):=by rw[show(k:Int)+1-1=k by omega];exact IntWalk.i64_in _ (by have:=M8.out;omega)
  have J8:IntKind.i64.wrap (k:Int)=(k:Int):=IntWalk.i64_in _ (by have:=M8.out;omega);have tB:(0:Int)≤k:=by omega
  have JO:=Hh Qm;clear yU yq po c1 ep hB xw Qm ej;go_upto_region 4 with fail
  refine zr 13 (fun w'=>w'.cell? ⟨g,0,none⟩=some (.slice (some ⟨ib,io,none⟩) l.length c)∧w'.cell? ⟨g,1,none⟩=some (.int .i64 ((k:Int)+1))∧w'.cell? ⟨ib,io+k,none⟩=some (.int .i64 x)) (by kernel_rfl) (⟨Pt.cell 0 rfl,Pt.cell 1 rfl,xY.cell hx⟩) (fun zy=>?_)
  refine Tk 0 rfl zy ?_
  refine Tk 1 rfl zy ?_
  refine Tk 2 rfl zy ?_
  refine Tk 3 rfl zy ?_
  refine Tk 4 rfl zy ?_
  refine Tk 5 rfl zy ?_
  refine Tk 6 rfl zy ?_
  refine Tk 7 rfl zy ?_
  refine Tk 8 rfl zy ?_
  refine Tk 9 rfl zy ?_
  refine Tk 10 rfl zy ?_
  refine Tk 11 rfl zy ?_
  refine To 12 rfl fun K hK=>?_
  go_simp
  refine(MD.out _).mono ?_
  rintro e w5 ⟨rfl,rfl⟩
  refine Ko hK ?_ fun zy=>?_
  ·exact⟨Pt.cell 0 rfl,Pt.cell 1 rfl,xY.cell hx⟩
  clear hK K
  refine To 13 rfl fun K hK=>?_
  go_simp
  refine Kz hK ?_
  clear hK K
  refine Wd ?_
  clear zy;go_wp2_with fail
  go_ret
  exact⟨_,rfl,JO.out.1,JO.out.2,⟨_,c,l,k+1,Pt,HL.out,by omega⟩,yQ⟩
 have ej:(l.length:Int)≤k:=by omega
 go_wp2_with fail
 go_ret
 exact⟨0,rfl,by omega,hn,⟨A,c,l,k,ep,HL.out,hk⟩,tD (yu w _)⟩
def pe (W:World):Snap:=fun b=>W.heap[b]?
theorem j8 (W:World) (a:Addr):(pe W).cell? a=W.cell? a:=rfl
theorem cY (W:World):Holds W (pe W):=fun _ _ h=>h
theorem aL {W:World}(h:Lib.Utf8Tabs 0 1 W):Tabs (pe W):=fun _ hw =>
 ⟨fun c hc=>hw.cell (h.1 c hc),fun i hi=>⟨hw.cell (h.2 i hi).1,hw.cell (h.2 i hi).2⟩⟩
theorem bC {n:Int}(h:(Lit.int .i64 n).wf=true) : -9223372036854775808≤n∧n≤9223372036854775807:=by
 simp[Lit.wf,IntKind.min,IntKind.max,IntKind.signed,IntKind.bits]at h
 omega
theorem Yc {n:Int}(h:(Lit.int .u8 n).wf=true):0≤n∧n<256:=by
 simp[Lit.wf,IntKind.min,IntKind.max,IntKind.signed,IntKind.bits]at h
 omega
theorem Y6 {W:World}{a:Addr}{len cap:Nat}{zs:List Int}(hl:len≤cap) (hm:cap≤maxLen) (hz:len≤zs.length)
  (hc:∀ i,i<zs.length→W.cell? (a.add i)=some (.int .i64 (zs.getD i 0))) (wf:∀ n∈zs,(Lit.int .i64 n).wf=true):IsInts (pe W) (some a) cap (zs.take len)∧(zs.take len).length=len:=by
 have zN:(zs.take len).length=len:=by rw[List.length_take];omega
 refine⟨⟨by rw[zN];exact hl,by simpa [maxLen] using hm,fun xH=>?_,fun x hx=>bC (wf x (List.mem_of_mem_take hx))⟩,zN⟩
 have h0:0<len:=by
  rcases Nat.eq_zero_or_pos len with h | h
  ·subst h;simp at xH
  exact h
 obtain⟨b,off,rfl,xw⟩:=ints_at hc (by omega)
 refine⟨b,off,rfl,fun j v hj=>?_⟩
 rw[List.getElem?_map]at hj;obtain⟨x,hx,rfl⟩:=Option.map_eq_some_iff.1 hj;have gu:=(List.getElem?_eq_some_iff.1 hx).1;rw[zN]at gu;rw[j8,xw j (by omega)];rw[List.getElem?_take,if_pos gu]at hx
 simp[List.getD,hx]
def tg (zs:List Int):List UInt8:=zs.map fun n=>u8 n.toNat
theorem ir {W:World}{a:Addr}{len cap:Nat}{zs:List Int}(hl:len≤cap) (hm:cap≤maxLen) (hz:len≤zs.length)
  (hc:∀ i,i<zs.length→W.cell? (a.add i)=some (.int .u8 (zs.getD i 0))) (wf:∀ n∈zs,(Lit.int .u8 n).wf=true):IsBytes (pe W) (some a) cap (tg (zs.take len))∧(tg (zs.take len)).length=len:=by
 have zN:(tg (zs.take len)).length=len:=by rw[tg,List.length_map,List.length_take];omega
 refine⟨⟨by rw[zN];exact hl,by simpa [maxLen] using hm,fun xH=>?_⟩,zN⟩
 have h0:0<len:=by
  rcases Nat.eq_zero_or_pos len with h | h
  ·subst h;simp[tg]at xH
  exact h
 obtain⟨b,off,rfl,xw⟩:=ints_at hc (by omega)
 refine⟨b,off,rfl,fun j v hj=>?_⟩
 rw[tg,List.map_map,List.getElem?_map]at hj;obtain⟨x,hx,rfl⟩:=Option.map_eq_some_iff.1 hj;rw[List.getElem?_take]at hx
 split at hx
 ·rename_i gu
  have hb:=Yc (wf x (List.mem_of_getElem? hx));rw[j8,xw j (by omega)]
  simp[List.getD,hx,zI,sq]
  omega
 cases hx
theorem OwnB.take_ {w:World}{base:Nat}{A:Option Addr}{n c:Nat}{l:List UInt8}(h:OwnB w base (.slice A n c) l) {k:Nat}(hk:k≤l.length):OwnB w base (.slice A k c) (l.take k):=by
 have sZ:(l.take k).length=k:=by rw[List.length_take];omega
 refine⟨by simp, ?_⟩
 rw[sZ]
 rcases h.2 with ⟨hv,hz⟩ | ⟨g,cap,cur,hv,hb,hg,hc,hm,hcz,ht⟩
 ·cases hv
  have:k=0:=by omega
  subst this
  exact .inl ⟨rfl,rfl⟩
 cases hv
 refine .inr ⟨g,c,cur,rfl,hb,hg,by omega,hm,hcz, ?_⟩
 rw[List.map_take,← ht,List.take_take,show min k (l.length*1)=k*1 by omega]
theorem OwnB.store_ {w:World}{base:Nat}{A:Option Addr}{n c:Nat}{l:List UInt8}(h:OwnB w base (.slice A n c) l) {k:Nat}(hk:k<l.length):∃ g cur,A=some ⟨g,0,none⟩∧base≤g∧Blk w g 5 cur∧k<cur.size∧
  ∀ (w':World) (x:UInt8),Blk w' g 5 (cur.setIfInBounds k (zI x))→OwnB w' base (.slice A n c) (l.set k x):=by
 rcases h.2 with ⟨hv,hz⟩ | ⟨g,cap,cur,hv,hb,hg,hc,hm,hcz,ht⟩
 ·omega
 cases hv
 refine⟨g,cur,rfl,hb,hg,by omega,fun w' x hB=>⟨by simp,.inr ⟨g,c,_,by simp,hb,hB,by simpa using hc,hm,by rw[Array.size_setIfInBounds,hcz], ?_⟩⟩⟩
 rw[Array.toList_setIfInBounds,List.length_set,List.take_set,ht,List.map_set]
theorem W9:(Tryz.prog.info? 5).map (·.size)=some 1:=by kernel_rfl
end Go.Proofs.YtgcjjhibdbafmabGreatDoor
