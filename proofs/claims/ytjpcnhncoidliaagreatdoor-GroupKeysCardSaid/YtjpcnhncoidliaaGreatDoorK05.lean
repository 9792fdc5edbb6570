/- squeezed. Walks: the references' left: maps. -/
import Derived.Test.YtjpcnhncoidliaaGreatDoorK03
set_option linter.unusedVariables false
set_option linter.unusedSimpArgs false
set_option maxRecDepth 100000
set_option maxHeartbeats 6400000
namespace Go.Proofs.YtjpcnhncoidliaaGreatDoor
open Go.RowKit
theorem R6 (x:Itm) (hk:x.kind=5) {H:Snap}(hT:Tabs H) (ih:∀ y:Itm,cnt y<cnt x→uY y) {ba:Option Addr}{bc:Nat}{ia:Option Addr}{ic:Nat}(hx:IsItem H ba bc ia ic x) (w:World) (hH:Holds w H) (c d:Nat) (pT:0<c) (hc:c≤65536) (hd:d≤65536) :
  Calls Tryz.prog 94 #[ua x ba bc ia ic,.int .i64 c,.int .i64 d] w fun e w'=>e=.returned (.int .i64 (wX (zN x c d)))∧Below w.heap.size w w':=by
 have HX:=Hh hx;have t6:=hx.bounds;have hB:=Blk.new w 78 #[.int .i64 x.kind,.int .u64 x.n,.slice ba x.bytes.length bc,.slice ia x.items.length ic];have yZ:=zl w (zH x ba bc ia ic);have mZ:((c-1:Nat):Int)=(c:Int)-1:=by omega
 have rM:x.bytes.length≤9223372036854775807:=by omega
 have rC:x.items.length≤9223372036854775807:=by omega
 have HN:=Hh t6.2.2.1;have So:¬ (c:Int)<1:=by omega
 have k0:¬ x.kind<0:=by omega
 have k8:¬ 8<x.kind:=by omega
 have HK:=Hh hk;have qu:=Hh mZ;clear hx t6 mZ;obtain⟨b0,b1,b2,b3,b4,b5,b6,b7,b8⟩:=Tw hk;clear hk
 by_cases zG:x.n=0
 ·have bn00:((x.n:Int) != 0)=false:=by simp[zG]
  have bn01:(x.n=0)=True:=by first | exact eq_true zG | exact eq_false zG
  have wk:=Hh zG;clear zG
  by_cases uq:x.items.length%2=0
  ·have beven0:((x.items.length:Int)%2 != 0)=false:=by(first | (rw[bne_eq_false_iff_eq];omega) | (rw[bne_iff_ne];omega))
   have uF:=Hh uq;clear uq
   by_cases yL:0<x.items.length
   ·have bpos0:(0:Int)<x.items.length:=by omega
    have wj:=Hh yL;clear yL;go_enter Tryz.func94,Tryz.ntmps94
    go_upto_region 22 with fail
    any_goals
     (have yH:zY x d (c-1)=false:=by
       cases hq:zY x d (c-1) with
       | false=>rfl
       | true=>exact absurd ((zC (by have:=HK.out;omega)).1 hq) (by have zG:=wk.out;have uq:=uF.out;have yL:=wj.out;have hk:=HK.out;omega)
      go_ret
      exact⟨by rw[zE yH];rfl,yZ⟩)
    all_goals
     have HG:Hid (zY x d (c-1)=true):=(zC (by have:=HK.out;omega)).2 ⟨by omega,by omega,fun h=>by have:=HK.out;omega,fun _=>wk.out,fun h=>uF.out,by omega⟩;have c0:=hB.cell 0 rfl;have c3:=hB.cell 3 rfl;go_wp2_with fail
     have kK:=hB;have yX:=yZ;go_loopw [1,157] (fun v1 v157 wr=>∃ (j r:Nat),j≤x.items.length∧r≤c∧v157=.int .i64 j∧v1=.int .i64 r∧zI (x.items.drop j) r (d+1)=zI x.items (c-1) (d+1)∧Below w.heap.size w wr∧Blk wr w.heap.size 78 #[.int .i64 x.kind,.int .u64 x.n,.slice ba x.bytes.length bc,.slice ia x.items.length ic]) (fun _ v157 _=>x.items.length-(intOf v157).toNat)
     case atStart=>exact⟨0,c-1,Nat.zero_le _,by omega,rfl,by rw[qu.out],rfl,yX,kK⟩
     case round =>
     obtain⟨j,r,hj,SW,rfl,rfl,mf,yE,rR⟩:=hrel;have qB:=Hh mf;clear mf
     by_cases yy:j<x.items.length
     ·have xD:Holds wr H:=hH.below yE (Nat.le_refl _);obtain⟨ib,io,qI,vI⟩:=HX.out.items (by omega);obtain⟨eba,ebc,eia,eic,q0,q1,q2,q3,qh⟩:=vI.get j yy;subst qI;have p0:=xD.cell q0;have p1:=xD.cell q1;have p2:=xD.cell q2;have p3:=xD.cell q3;have vz:zI (x.items.drop j) r (d+1)=match zN x.items[j] r (d+1) with | none=>none | some r'=>zI (x.items.drop (j+1)) r' (d+1):=by rw[List.drop_eq_getElem_cons yy,zI];cases zN x.items[j] r (d+1) <;> rfl
      have uL:=Hh (vz.symm.trans qB.out);clear vz;have IHC:=ih x.items[j] (wu x j yy) H hT _ _ eba _ ebc eia _ eic (wr.alloc (zH x.items[j] eba ebc eia eic)) r (d+1) qh.arg (xD.alloc _) (by omega) (by omega);rw[show((d+1:Nat):Int)=(d:Int)+1 by omega]at IHC;have IHH:=Hh IHC;have y8:=yE.alloc yE.size (zH x.items[j] eba ebc eia eic);have tF:=rR.alloc (zH x.items[j] eba ebc eia eic);clear IHC q0 q1 q2 q3
      cases hq:zN x.items[j] r (d+1) with
      | none =>
       rw[hq]at IHH uL;have E:Hid (zN x c d=none):=by rw[Hid,yM,if_neg (by omega),if_neg (by simp[HG.out]),← uL.out]
       clear hq uL;go_wp2_with fail
       refine IHH.out.mono ?_
       rintro e w6 ⟨rfl,y9⟩
       have xU:=y8.trans (y9.mono y8.size)
       simp only[wX]
       go_wp2_with fail
       go_ret
       exact⟨by rw[E.out];rfl,xU⟩
      | some r' =>
      rw[hq]at IHH uL;have dh:=(vx _ _ _ _ hq).2.2;have pB:Hid (zI (x.items.drop (j+1)) r' (d+1)=zI x.items (c-1) (d+1)):=uL.out;clear hq uL;have Xx:(0:Int)≤(r':Int):=by omega
      have pA:r'≤c:=by omega
      go_wp2_with fail
      refine IHH.out.mono ?_
      rintro e w6 ⟨rfl,y9⟩
      have xU:=y8.trans (y9.mono y8.size);have nW:=tF.below y9
      simp only[wX]
      clear yE rR y8 tF y9 IHH p0 p1 p2 p3 dh xD;go_wp2_with fail
      go_roundw
      case rel=>exact⟨j+1,r',by omega,pA,by go_num,rfl,pB.out,xU,nW⟩
      case measure=>simp[intOf];omega
     have u9:j=x.items.length:=by omega
     subst u9;have vy:zI x.items (c-1) (d+1)=some r:=by rw[← qB.out,List.drop_length,zI]
     have sw:=Hh vy;clear vy qB;obtain⟨yS,sP,nB⟩:=sC _ _ _ _ sw.out;have Un:=Hh yS;have rM:(ym x.items).length≤1099511627776:=by have:=GoodL.bytes yS sP;omega
     have iD:=Hh rM;have h5:x.kind=5:=by simpa using b5
     have H5:=Hh h5;clear yS sP nB rM h5;go_wp2_with fail
     go_loopw [11] (fun v11 wz=>∃ i:Nat,2≤i∧i≤x.items.length+2∧v11=.int .i64 i∧xj (x.items.drop (i-2))=xj x.items∧Below w.heap.size w wz∧Blk wz w.heap.size 78 #[.int .i64 x.kind,.int .u64 x.n,.slice ba x.bytes.length bc,.slice ia x.items.length ic]) (fun v11 _=>(x.items.length+2)-(intOf v11).toNat)
     case atStart=>exact⟨2,by omega,by omega,rfl,rfl,yE,rR⟩
     case round =>
     obtain⟨i,nC,PB,rfl,jy,iW,ZS⟩:=hrel;have HA:=Hh jy;have c0:=ZS.cell 0 rfl;have c3:=ZS.cell 3 rfl;clear jy yE rR
     by_cases hlt2:i<x.items.length
     ·have Pm:Holds wr H:=hH.below iW (Nat.le_refl _);obtain⟨ib,io,qI,vI⟩:=HX.out.items (by omega);obtain⟨y1,y2,y3,y4,p0,p1,p2,p3,hy⟩:=vI.get (i-2) (by omega);obtain⟨z1,z2,z3,z4,q0,q1,q2,q3,hz⟩:=vI.get i hlt2;subst qI;have hd:=pI x.items i nC hlt2;rw[HA.out]at hd;have V6:=Un.out.get x.items[i-2] (List.getElem_mem (by omega));have z8:=Un.out.get x.items[i] (List.getElem_mem hlt2);have Q3:=tS (List.getElem_mem (show i-2<x.items.length by omega));have Q4:=tS (List.getElem_mem hlt2);have P8:(2:Int)≤i:=by omega
      have PU:((i:Int)-2).toNat=i-2:=by omega
      have If:IntKind.i64.wrap ((i:Int)-2)=(i:Int)-2:=IntWalk.i64_in _ (by omega);have IP:(0:Int)≤(i:Int)-2:=by omega
      have IQ:(i:Int)-2<x.items.length:=by omega
      have IR:(i:Int)<x.items.length:=by omega
      generalize x.items[i-2]'(by omega)=y at *
      generalize x.items[i]'hlt2=z at *
      have rM:=iD.out;have RY:=Hh (fun w1:World=>fun h1:Holds w1 H=>vW y H _ _ y1 _ y2 y3 _ y4 w1 (d+1) V6 (by omega) hy.arg h1);have RZ:=Hh (fun w1:World=>fun h1:Holds w1 H=>vW z H _ _ z1 _ z2 z3 _ z4 w1 (d+1) z8 (by omega) hz.arg h1);have VL:(zX y).length≤1099511627776:=by omega
      have dj:(zX z).length≤1099511627776:=by omega
      have HD:=Hh hd;clear V6 z8 Q3 Q4 rM hd vI;go_upto_region 32 with fail
      have ry:=ZS.drew;have wJ:=iW.drew;have zA:=Pm.drew
      refine zn 14 (fun w'=>w'.cell? ⟨w.heap.size,3,none⟩=some (.slice (some ⟨ib,io,none⟩) x.items.length ic)∧w'.cell? ⟨ib,io+(i-2)*4,none⟩=some (.int .i64 y.kind)∧w'.cell? ⟨ib,io+(i-2)*4+1,none⟩=some (.int .u64 y.n)∧w'.cell? ⟨ib,io+(i-2)*4+2,none⟩=some (.slice y1 y.bytes.length y2)∧w'.cell? ⟨ib,io+(i-2)*4+3,none⟩=some (.slice y3 y.items.length y4)∧w'.cell? ⟨ib,io+i*4,none⟩=some (.int .i64 z.kind)∧w'.cell? ⟨ib,io+i*4+1,none⟩=some (.int .u64 z.n)∧w'.cell? ⟨ib,io+i*4+2,none⟩=some (.slice z1 z.bytes.length z2)∧w'.cell? ⟨ib,io+i*4+3,none⟩=some (.slice z3 z.items.length z4)) (by kernel_rfl) (⟨ry.cell 3 rfl,zA.cell p0,zA.cell p1,zA.cell p2,zA.cell p3,zA.cell q0,zA.cell q1,zA.cell q2,zA.cell q3⟩) (fun zy=>?_)
      refine Tk 0 rfl zy ?_
      refine Tk 1 rfl zy ?_
      refine Tk 2 rfl zy ?_
      refine Tk 3 rfl zy ?_
      refine Tk 4 rfl zy ?_
      refine Tk 5 rfl zy ?_
      refine Tk 7 rfl zy ?_
      refine Tk 8 rfl zy ?_
      refine Tk 9 rfl zy ?_
      refine Tk 10 rfl zy ?_
      refine Tk 11 rfl zy ?_
      refine To 6 rfl fun K hK=>?_
      go_simp
      refine(RY.out _ zA).mono ?_
      rintro e wA ⟨rA,rfl,kF⟩
      obtain⟨AA,ca,rfl,_⟩:=kF.own.form;have iL:=kF.own.src
      try have iM:=iM.below kF.2
      have zA:=zA.below kF.2 (Nat.le_refl _);have ry:=ry.below kF.2;have wJ:=wJ.trans (kF.2.mono wJ.size)
      refine Ko hK ?_ fun zy=>?_
      ·exact⟨ry.cell 3 rfl,zA.cell p0,zA.cell p1,zA.cell p2,zA.cell p3,zA.cell q0,zA.cell q1,zA.cell q2,zA.cell q3⟩
      clear hK K
      refine To 12 rfl fun K hK=>?_
      go_simp
      refine(RZ.out _ zA).mono ?_
      rintro e wB ⟨rB,rfl,kG⟩
      obtain⟨BB,cb,rfl,_⟩:=kG.own.form;have iM:=kG.own.src
      try have iL:=iL.below kG.2
      have zA:=zA.below kG.2 (Nat.le_refl _);have ry:=ry.below kG.2;have wJ:=wJ.trans (kG.2.mono wJ.size)
      refine Ko hK ?_ fun zy=>?_
      ·exact⟨ry.cell 3 rfl,zA.cell p0,zA.cell p1,zA.cell p2,zA.cell p3,zA.cell q0,zA.cell q1,zA.cell q2,zA.cell q3⟩
      clear hK K
      refine To 13 rfl fun K hK=>?_
      go_simp
      refine(vT _ AA BB (zX y) (zX z) _ _ ca cb rfl rfl VL dj iL iM).mono ?_
      rintro e wC ⟨rfl,ZV⟩
      have zA:=zA.below ZV (Nat.le_refl _);have ry:=ry.below ZV;have wJ:=wJ.trans (ZV.mono wJ.size)
      refine Ko hK ?_ fun zy=>?_
      ·exact⟨ry.cell 3 rfl,zA.cell p0,zA.cell p1,zA.cell p2,zA.cell p3,zA.cell q0,zA.cell q1,zA.cell q2,zA.cell q3⟩
      clear hK K
      refine To 14 rfl fun K hK=>?_
      go_simp
      refine Kz hK ?_
      clear hK K
      refine Wd ?_
      clear zy
      by_cases tz:Lib.compareBytes (zX y) (zX z)<0
      ·have iJ:¬ (0:Int)≤Lib.compareBytes (zX y) (zX z):=by omega
       have HN:Hid (xj (x.items.drop (i+2-2))=xj x.items):=by rw[Hid,Nat.add_sub_cancel,HD.out,decide_eq_true tz,Bool.true_and]
       generalize Lib.compareBytes (zX y) (zX z)=cmp at *
       have HC:=Hh tz;clear tz iL iM zA;go_wp2_with fail
       go_roundw
       case rel=>exact⟨i+2,by omega,by omega,by go_num,HN.out,wJ,ry⟩
       case measure=>simp[intOf];omega
      have iJ:(0:Int)≤Lib.compareBytes (zX y) (zX z):=by omega
      have HN:xj x.items=false:=by rw[HD.out,decide_eq_false tz,Bool.false_and]
      have E:Hid (zN x c d=none):=by
       rw[Hid,yM,if_neg (by omega),if_neg (by simp[HG.out]),sw.out]
       simp only
       rw[if_pos ⟨H5.out,HN⟩]
      generalize Lib.compareBytes (zX y) (zX z)=cmp at *
      clear tz iL iM zA HN;go_wp2_with fail
      go_ret
      exact⟨by rw[E.out];rfl,wJ⟩
     have x9:¬ (i:Int)<x.items.length:=by omega
     have HN:xj x.items=true:=by rw[← HA.out];exact km _ _ nC (by omega)
     have E:Hid (zN x c d=some r):=by
      rw[Hid,yM,if_neg (by omega),if_neg (by simp[HG.out]),sw.out]
      simp only
      rw[if_neg (by rintro⟨_,h⟩;rw[HN]at h;cases h)]
     clear HN hlt2;go_wp2_with fail
     go_ret
     exact⟨by rw[E.out];rfl,iW⟩
   have bpos0:¬ (0:Int)<x.items.length:=by omega
   have wj:=Hh yL;clear yL;go_enter Tryz.func94,Tryz.ntmps94
   go_upto_region 22 with fail
   any_goals
    (have yH:zY x d (c-1)=false:=by
      cases hq:zY x d (c-1) with
      | false=>rfl
      | true=>exact absurd ((zC (by have:=HK.out;omega)).1 hq) (by have zG:=wk.out;have uq:=uF.out;have yL:=wj.out;have hk:=HK.out;omega)
     go_ret
     exact⟨by rw[zE yH];rfl,yZ⟩)
   all_goals
    have zQ:zY x d (c-1)=true:=(zC (by have:=HK.out;omega)).2 ⟨by omega,by omega,fun h=>by have:=HK.out;omega,fun _=>wk.out,fun h=>uF.out,by omega⟩;have yK:x.items.length=0:=by have zG:=wk.out;have uq:=uF.out;have yL:=wj.out;have hk:=HK.out;omega
    have hk:=HK.out;have E:Hid (zN x c d=some (c-1)):=yu pT zQ yK;have qJ:¬ (0:Int)<x.items.length:=by omega
    have te:¬ (2:Int)<x.items.length:=by omega
    have HI:=Hh yK;have HC:=Hh zQ;clear yK hk zQ;have c0:=hB.cell 0 rfl;have c3:=hB.cell 3 rfl;go_wp2_with fail
    refine wp_loop_rounds 1 ?_
    rw[rounds_succ];go_wp2_with fail
    refine wp_loop_rounds 1 ?_
    rw[rounds_succ];go_wp2_with fail
    go_ret
    exact⟨by rw[E.out,← qu.out];rfl,yZ⟩
  have beven0:((x.items.length:Int)%2 != 0)=true:=by(first | (rw[bne_eq_false_iff_eq];omega) | (rw[bne_iff_ne];omega))
  have uF:=Hh uq;clear uq
  by_cases yL:0<x.items.length
  ·have bpos0:(0:Int)<x.items.length:=by omega
   have wj:=Hh yL;clear yL;go_enter Tryz.func94,Tryz.ntmps94
   go_upto_region 22 with fail
   any_goals
    (have yH:zY x d (c-1)=false:=by
      cases hq:zY x d (c-1) with
      | false=>rfl
      | true=>exact absurd ((zC (by have:=HK.out;omega)).1 hq) (by have zG:=wk.out;have uq:=uF.out;have yL:=wj.out;have hk:=HK.out;omega)
     go_ret
     exact⟨by rw[zE yH];rfl,yZ⟩)
   all_goals
    have HG:Hid (zY x d (c-1)=true):=(zC (by have:=HK.out;omega)).2 ⟨by omega,by omega,fun h=>by have:=HK.out;omega,fun _=>wk.out,fun h=>uF.out,by omega⟩;have c0:=hB.cell 0 rfl;have c3:=hB.cell 3 rfl;go_wp2_with fail
    have kK:=hB;have yX:=yZ;go_loopw [1,157] (fun v1 v157 wr=>∃ (j r:Nat),j≤x.items.length∧r≤c∧v157=.int .i64 j∧v1=.int .i64 r∧zI (x.items.drop j) r (d+1)=zI x.items (c-1) (d+1)∧Below w.heap.size w wr∧Blk wr w.heap.size 78 #[.int .i64 x.kind,.int .u64 x.n,.slice ba x.bytes.length bc,.slice ia x.items.length ic]) (fun _ v157 _=>x.items.length-(intOf v157).toNat)
    case atStart=>exact⟨0,c-1,Nat.zero_le _,by omega,rfl,by rw[qu.out],rfl,yX,kK⟩
    case round =>
    obtain⟨j,r,hj,SW,rfl,rfl,mf,yE,rR⟩:=hrel;have qB:=Hh mf;clear mf
    by_cases yy:j<x.items.length
    ·have xD:Holds wr H:=hH.below yE (Nat.le_refl _);obtain⟨ib,io,qI,vI⟩:=HX.out.items (by omega);obtain⟨eba,ebc,eia,eic,q0,q1,q2,q3,qh⟩:=vI.get j yy;subst qI;have p0:=xD.cell q0;have p1:=xD.cell q1;have p2:=xD.cell q2;have p3:=xD.cell q3;have vz:zI (x.items.drop j) r (d+1)=match zN x.items[j] r (d+1) with | none=>none | some r'=>zI (x.items.drop (j+1)) r' (d+1):=by rw[List.drop_eq_getElem_cons yy,zI];cases zN x.items[j] r (d+1) <;> rfl
     have uL:=Hh (vz.symm.trans qB.out);clear vz;have IHC:=ih x.items[j] (wu x j yy) H hT _ _ eba _ ebc eia _ eic (wr.alloc (zH x.items[j] eba ebc eia eic)) r (d+1) qh.arg (xD.alloc _) (by omega) (by omega);rw[show((d+1:Nat):Int)=(d:Int)+1 by omega]at IHC;have IHH:=Hh IHC;have y8:=yE.alloc yE.size (zH x.items[j] eba ebc eia eic);have tF:=rR.alloc (zH x.items[j] eba ebc eia eic);clear IHC q0 q1 q2 q3
     cases hq:zN x.items[j] r (d+1) with
     | none =>
      rw[hq]at IHH uL;have E:Hid (zN x c d=none):=by rw[Hid,yM,if_neg (by omega),if_neg (by simp[HG.out]),← uL.out]
      clear hq uL;go_wp2_with fail
      refine IHH.out.mono ?_
      rintro e w6 ⟨rfl,y9⟩
      have xU:=y8.trans (y9.mono y8.size)
      simp only[wX]
      go_wp2_with fail
      go_ret
      exact⟨by rw[E.out];rfl,xU⟩
     | some r' =>
     rw[hq]at IHH uL;have dh:=(vx _ _ _ _ hq).2.2;have pB:Hid (zI (x.items.drop (j+1)) r' (d+1)=zI x.items (c-1) (d+1)):=uL.out;clear hq uL;have Xx:(0:Int)≤(r':Int):=by omega
     have pA:r'≤c:=by omega
     go_wp2_with fail
     refine IHH.out.mono ?_
     rintro e w6 ⟨rfl,y9⟩
     have xU:=y8.trans (y9.mono y8.size);have nW:=tF.below y9
     simp only[wX]
     clear yE rR y8 tF y9 IHH p0 p1 p2 p3 dh xD;go_wp2_with fail
     go_roundw
     case rel=>exact⟨j+1,r',by omega,pA,by go_num,rfl,pB.out,xU,nW⟩
     case measure=>simp[intOf];omega
    have u9:j=x.items.length:=by omega
    subst u9;have vy:zI x.items (c-1) (d+1)=some r:=by rw[← qB.out,List.drop_length,zI]
    have sw:=Hh vy;clear vy qB;obtain⟨yS,sP,nB⟩:=sC _ _ _ _ sw.out;have Un:=Hh yS;have rM:(ym x.items).length≤1099511627776:=by have:=GoodL.bytes yS sP;omega
    have iD:=Hh rM;have h5:x.kind=5:=by simpa using b5
    have H5:=Hh h5;clear yS sP nB rM h5;go_wp2_with fail
    go_loopw [11] (fun v11 wz=>∃ i:Nat,2≤i∧i≤x.items.length+2∧v11=.int .i64 i∧xj (x.items.drop (i-2))=xj x.items∧Below w.heap.size w wz∧Blk wz w.heap.size 78 #[.int .i64 x.kind,.int .u64 x.n,.slice ba x.bytes.length bc,.slice ia x.items.length ic]) (fun v11 _=>(x.items.length+2)-(intOf v11).toNat)
    case atStart=>exact⟨2,by omega,by omega,rfl,rfl,yE,rR⟩
    case round =>
    obtain⟨i,nC,PB,rfl,jy,iW,ZS⟩:=hrel;have HA:=Hh jy;have c0:=ZS.cell 0 rfl;have c3:=ZS.cell 3 rfl;clear jy yE rR
    by_cases hlt2:i<x.items.length
    ·have Pm:Holds wr H:=hH.below iW (Nat.le_refl _);obtain⟨ib,io,qI,vI⟩:=HX.out.items (by omega);obtain⟨y1,y2,y3,y4,p0,p1,p2,p3,hy⟩:=vI.get (i-2) (by omega);obtain⟨z1,z2,z3,z4,q0,q1,q2,q3,hz⟩:=vI.get i hlt2;subst qI;have hd:=pI x.items i nC hlt2;rw[HA.out]at hd;have V6:=Un.out.get x.items[i-2] (List.getElem_mem (by omega));have z8:=Un.out.get x.items[i] (List.getElem_mem hlt2);have Q3:=tS (List.getElem_mem (show i-2<x.items.length by omega));have Q4:=tS (List.getElem_mem hlt2);have P8:(2:Int)≤i:=by omega
     have PU:((i:Int)-2).toNat=i-2:=by omega
     have If:IntKind.i64.wrap ((i:Int)-2)=(i:Int)-2:=IntWalk.i64_in _ (by omega);have IP:(0:Int)≤(i:Int)-2:=by omega
     have IQ:(i:Int)-2<x.items.length:=by omega
     have IR:(i:Int)<x.items.length:=by omega
     generalize x.items[i-2]'(by omega)=y at *
     generalize x.items[i]'hlt2=z at *
     have rM:=iD.out;have RY:=Hh (fun w1:World=>fun h1:Holds w1 H=>vW y H _ _ y1 _ y2 y3 _ y4 w1 (d+1) V6 (by omega) hy.arg h1);have RZ:=Hh (fun w1:World=>fun h1:Holds w1 H=>vW z H _ _ z1 _ z2 z3 _ z4 w1 (d+1) z8 (by omega) hz.arg h1);have VL:(zX y).length≤1099511627776:=by omega
     have dj:(zX z).length≤1099511627776:=by omega
     have HD:=Hh hd;clear V6 z8 Q3 Q4 rM hd vI;go_upto_region 32 with fail
     have ry:=ZS.drew;have wJ:=iW.drew;have zA:=Pm.drew
     refine zn 14 (fun w'=>w'.cell? ⟨w.heap.size,3,none⟩=some (.slice (some ⟨ib,io,none⟩) x.items.length ic)∧w'.cell? ⟨ib,io+(i-2)*4,none⟩=some (.int .i64 y.kind)∧w'.cell? ⟨ib,io+(i-2)*4+1,none⟩=some (.int .u64 y.n)∧w'.cell? ⟨ib,io+(i-2)*4+2,none⟩=some (.slice y1 y.bytes.length y2)∧w'.cell? ⟨ib,io+(i-2)*4+3,none⟩=some (.slice y3 y.items.length y4)∧w'.cell? ⟨ib,io+i*4,none⟩=some (.int .i64 z.kind)∧w'.cell? ⟨ib,io+i*4+1,none⟩=some (.int .u64 z.n)∧w'.cell? ⟨ib,io+i*4+2,none⟩=some (.slice z1 z.bytes.length z2)∧w'.cell? ⟨ib,io+i*4+3,none⟩=some (.slice z3 z.items.length z4)) (by kernel_rfl) (⟨ry.cell 3 rfl,zA.cell p0,zA.cell p1,zA.cell p2,zA.cell p3,zA.cell q0,zA.cell q1,zA.cell q2,zA.cell q3⟩) (fun zy=>?_)
     refine Tk 0 rfl zy ?_
     refine Tk 1 rfl zy ?_
     refine Tk 2 rfl zy ?_
     refine Tk 3 rfl zy ?_
     refine Tk 4 rfl zy ?_
     refine Tk 5 rfl zy ?_
     refine Tk 7 rfl zy ?_
     refine Tk 8 rfl zy ?_
     refine Tk 9 rfl zy ?_
     refine Tk 10 rfl zy ?_
     refine Tk 11 rfl zy ?_
     refine To 6 rfl fun K hK=>?_
     go_simp
     refine(RY.out _ zA).mono ?_
     rintro e wA ⟨rA,rfl,kF⟩
     obtain⟨AA,ca,rfl,_⟩:=kF.own.form;have iL:=kF.own.src
     try have iM:=iM.below kF.2
     have zA:=zA.below kF.2 (Nat.le_refl _);have ry:=ry.below kF.2;have wJ:=wJ.trans (kF.2.mono wJ.size)
     refine Ko hK ?_ fun zy=>?_
     ·exact⟨ry.cell 3 rfl,zA.cell p0,zA.cell p1,zA.cell p2,zA.cell p3,zA.cell q0,zA.cell q1,zA.cell q2,zA.cell q3⟩
     clear hK K
     refine To 12 rfl fun K hK=>?_
     go_simp
     refine(RZ.out _ zA).mono ?_
     rintro e wB ⟨rB,rfl,kG⟩
     obtain⟨BB,cb,rfl,_⟩:=kG.own.form;have iM:=kG.own.src
     try have iL:=iL.below kG.2
     have zA:=zA.below kG.2 (Nat.le_refl _);have ry:=ry.below kG.2;have wJ:=wJ.trans (kG.2.mono wJ.size)
     refine Ko hK ?_ fun zy=>?_
     ·exact⟨ry.cell 3 rfl,zA.cell p0,zA.cell p1,zA.cell p2,zA.cell p3,zA.cell q0,zA.cell q1,zA.cell q2,zA.cell q3⟩
     clear hK K
     refine To 13 rfl fun K hK=>?_
     go_simp
     refine(vT _ AA BB (zX y) (zX z) _ _ ca cb rfl rfl VL dj iL iM).mono ?_
     rintro e wC ⟨rfl,ZV⟩
     have zA:=zA.below ZV (Nat.le_refl _);have ry:=ry.below ZV;have wJ:=wJ.trans (ZV.mono wJ.size)
     refine Ko hK ?_ fun zy=>?_
     ·exact⟨ry.cell 3 rfl,zA.cell p0,zA.cell p1,zA.cell p2,zA.cell p3,zA.cell q0,zA.cell q1,zA.cell q2,zA.cell q3⟩
     clear hK K
     refine To 14 rfl fun K hK=>?_
     go_simp
     refine Kz hK ?_
     clear hK K
     refine Wd ?_
     clear zy
     by_cases tz:Lib.compareBytes (zX y) (zX z)<0
     ·have iJ:¬ (0:Int)≤Lib.compareBytes (zX y) (zX z):=by omega
      have HN:Hid (xj (x.items.drop (i+2-2))=xj x.items):=by rw[Hid,Nat.add_sub_cancel,HD.out,decide_eq_true tz,Bool.true_and]
      generalize Lib.compareBytes (zX y) (zX z)=cmp at *
      have HC:=Hh tz;clear tz iL iM zA;go_wp2_with fail
      go_roundw
      case rel=>exact⟨i+2,by omega,by omega,by go_num,HN.out,wJ,ry⟩
      case measure=>simp[intOf];omega
     have iJ:(0:Int)≤Lib.compareBytes (zX y) (zX z):=by omega
     have HN:xj x.items=false:=by rw[HD.out,decide_eq_false tz,Bool.false_and]
     have E:Hid (zN x c d=none):=by
      rw[Hid,yM,if_neg (by omega),if_neg (by simp[HG.out]),sw.out]
      simp only
      rw[if_pos ⟨H5.out,HN⟩]
     generalize Lib.compareBytes (zX y) (zX z)=cmp at *
     clear tz iL iM zA HN;go_wp2_with fail
     go_ret
     exact⟨by rw[E.out];rfl,wJ⟩
    have x9:¬ (i:Int)<x.items.length:=by omega
    have HN:xj x.items=true:=by rw[← HA.out];exact km _ _ nC (by omega)
    have E:Hid (zN x c d=some r):=by
     rw[Hid,yM,if_neg (by omega),if_neg (by simp[HG.out]),sw.out]
     simp only
     rw[if_neg (by rintro⟨_,h⟩;rw[HN]at h;cases h)]
    clear HN hlt2;go_wp2_with fail
    go_ret
    exact⟨by rw[E.out];rfl,iW⟩
  have bpos0:¬ (0:Int)<x.items.length:=by omega
  have wj:=Hh yL;clear yL;go_enter Tryz.func94,Tryz.ntmps94
  go_upto_region 22 with fail
  any_goals
   (have yH:zY x d (c-1)=false:=by
     cases hq:zY x d (c-1) with
     | false=>rfl
     | true=>exact absurd ((zC (by have:=HK.out;omega)).1 hq) (by have zG:=wk.out;have uq:=uF.out;have yL:=wj.out;have hk:=HK.out;omega)
    go_ret
    exact⟨by rw[zE yH];rfl,yZ⟩)
  all_goals
   have zQ:zY x d (c-1)=true:=(zC (by have:=HK.out;omega)).2 ⟨by omega,by omega,fun h=>by have:=HK.out;omega,fun _=>wk.out,fun h=>uF.out,by omega⟩;have yK:x.items.length=0:=by have zG:=wk.out;have uq:=uF.out;have yL:=wj.out;have hk:=HK.out;omega
   have hk:=HK.out;have E:Hid (zN x c d=some (c-1)):=yu pT zQ yK;have qJ:¬ (0:Int)<x.items.length:=by omega
   have te:¬ (2:Int)<x.items.length:=by omega
   have HI:=Hh yK;have HC:=Hh zQ;clear yK hk zQ;have c0:=hB.cell 0 rfl;have c3:=hB.cell 3 rfl;go_wp2_with fail
   refine wp_loop_rounds 1 ?_
   rw[rounds_succ];go_wp2_with fail
   refine wp_loop_rounds 1 ?_
   rw[rounds_succ];go_wp2_with fail
   go_ret
   exact⟨by rw[E.out,← qu.out];rfl,yZ⟩
 have bn00:((x.n:Int) != 0)=true:=by simp[zG]
 have bn01:(x.n=0)=False:=by first | exact eq_true zG | exact eq_false zG
 have wk:=Hh zG;clear zG
 by_cases uq:x.items.length%2=0
 ·have beven0:((x.items.length:Int)%2 != 0)=false:=by(first | (rw[bne_eq_false_iff_eq];omega) | (rw[bne_iff_ne];omega))
  have uF:=Hh uq;clear uq
  by_cases yL:0<x.items.length
  ·have bpos0:(0:Int)<x.items.length:=by omega
   have wj:=Hh yL;clear yL;go_enter Tryz.func94,Tryz.ntmps94
   go_upto_region 22 with fail
   any_goals
    (have yH:zY x d (c-1)=false:=by
      cases hq:zY x d (c-1) with
      | false=>rfl
      | true=>exact absurd ((zC (by have:=HK.out;omega)).1 hq) (by have zG:=wk.out;have uq:=uF.out;have yL:=wj.out;have hk:=HK.out;omega)
     go_ret
     exact⟨by rw[zE yH];rfl,yZ⟩)
   all_goals
    have HG:Hid (zY x d (c-1)=true):=(zC (by have:=HK.out;omega)).2 ⟨by omega,by omega,fun h=>by have:=HK.out;omega,fun _=>wk.out,fun h=>uF.out,by omega⟩;have c0:=hB.cell 0 rfl;have c3:=hB.cell 3 rfl;go_wp2_with fail
    have kK:=hB;have yX:=yZ;go_loopw [1,157] (fun v1 v157 wr=>∃ (j r:Nat),j≤x.items.length∧r≤c∧v157=.int .i64 j∧v1=.int .i64 r∧zI (x.items.drop j) r (d+1)=zI x.items (c-1) (d+1)∧Below w.heap.size w wr∧Blk wr w.heap.size 78 #[.int .i64 x.kind,.int .u64 x.n,.slice ba x.bytes.length bc,.slice ia x.items.length ic]) (fun _ v157 _=>x.items.length-(intOf v157).toNat)
    case atStart=>exact⟨0,c-1,Nat.zero_le _,by omega,rfl,by rw[qu.out],rfl,yX,kK⟩
    case round =>
    obtain⟨j,r,hj,SW,rfl,rfl,mf,yE,rR⟩:=hrel;have qB:=Hh mf;clear mf
    by_cases yy:j<x.items.length
    ·have xD:Holds wr H:=hH.below yE (Nat.le_refl _);obtain⟨ib,io,qI,vI⟩:=HX.out.items (by omega);obtain⟨eba,ebc,eia,eic,q0,q1,q2,q3,qh⟩:=vI.get j yy;subst qI;have p0:=xD.cell q0;have p1:=xD.cell q1;have p2:=xD.cell q2;have p3:=xD.cell q3;have vz:zI (x.items.drop j) r (d+1)=match zN x.items[j] r (d+1) with | none=>none | some r'=>zI (x.items.drop (j+1)) r' (d+1):=by rw[List.drop_eq_getElem_cons yy,zI];cases zN x.items[j] r (d+1) <;> rfl
     have uL:=Hh (vz.symm.trans qB.out);clear vz;have IHC:=ih x.items[j] (wu x j yy) H hT _ _ eba _ ebc eia _ eic (wr.alloc (zH x.items[j] eba ebc eia eic)) r (d+1) qh.arg (xD.alloc _) (by omega) (by omega);rw[show((d+1:Nat):Int)=(d:Int)+1 by omega]at IHC;have IHH:=Hh IHC;have y8:=yE.alloc yE.size (zH x.items[j] eba ebc eia eic);have tF:=rR.alloc (zH x.items[j] eba ebc eia eic);clear IHC q0 q1 q2 q3
     cases hq:zN x.items[j] r (d+1) with
     | none =>
      rw[hq]at IHH uL;have E:Hid (zN x c d=none):=by rw[Hid,yM,if_neg (by omega),if_neg (by simp[HG.out]),← uL.out]
      clear hq uL;go_wp2_with fail
      refine IHH.out.mono ?_
      rintro e w6 ⟨rfl,y9⟩
      have xU:=y8.trans (y9.mono y8.size)
      simp only[wX]
      go_wp2_with fail
      go_ret
      exact⟨by rw[E.out];rfl,xU⟩
     | some r' =>
     rw[hq]at IHH uL;have dh:=(vx _ _ _ _ hq).2.2;have pB:Hid (zI (x.items.drop (j+1)) r' (d+1)=zI x.items (c-1) (d+1)):=uL.out;clear hq uL;have Xx:(0:Int)≤(r':Int):=by omega
     have pA:r'≤c:=by omega
     go_wp2_with fail
     refine IHH.out.mono ?_
     rintro e w6 ⟨rfl,y9⟩
     have xU:=y8.trans (y9.mono y8.size);have nW:=tF.below y9
     simp only[wX]
     clear yE rR y8 tF y9 IHH p0 p1 p2 p3 dh xD;go_wp2_with fail
     go_roundw
     case rel=>exact⟨j+1,r',by omega,pA,by go_num,rfl,pB.out,xU,nW⟩
     case measure=>simp[intOf];omega
    have u9:j=x.items.length:=by omega
    subst u9;have vy:zI x.items (c-1) (d+1)=some r:=by rw[← qB.out,List.drop_length,zI]
    have sw:=Hh vy;clear vy qB;obtain⟨yS,sP,nB⟩:=sC _ _ _ _ sw.out;have Un:=Hh yS;have rM:(ym x.items).length≤1099511627776:=by have:=GoodL.bytes yS sP;omega
    have iD:=Hh rM;have h5:x.kind=5:=by simpa using b5
    have H5:=Hh h5;clear yS sP nB rM h5;go_wp2_with fail
    go_loopw [11] (fun v11 wz=>∃ i:Nat,2≤i∧i≤x.items.length+2∧v11=.int .i64 i∧xj (x.items.drop (i-2))=xj x.items∧Below w.heap.size w wz∧Blk wz w.heap.size 78 #[.int .i64 x.kind,.int .u64 x.n,.slice ba x.bytes.length bc,.slice ia x.items.length ic]) (fun v11 _=>(x.items.length+2)-(intOf v11).toNat)
    case atStart=>exact⟨2,by omega,by omega,rfl,rfl,yE,rR⟩
    case round =>
    obtain⟨i,nC,PB,rfl,jy,iW,ZS⟩:=hrel;have HA:=Hh jy;have c0:=ZS.cell 0 rfl;have c3:=ZS.cell 3 rfl;clear jy yE rR
    by_cases hlt2:i<x.items.length
    ·have Pm:Holds wr H:=hH.below iW (Nat.le_refl _);obtain⟨ib,io,qI,vI⟩:=HX.out.items (by omega);obtain⟨y1,y2,y3,y4,p0,p1,p2,p3,hy⟩:=vI.get (i-2) (by omega);obtain⟨z1,z2,z3,z4,q0,q1,q2,q3,hz⟩:=vI.get i hlt2;subst qI;have hd:=pI x.items i nC hlt2;rw[HA.out]at hd;have V6:=Un.out.get x.items[i-2] (List.getElem_mem (by omega));have z8:=Un.out.get x.items[i] (List.getElem_mem hlt2);have Q3:=tS (List.getElem_mem (show i-2<x.items.length by omega));have Q4:=tS (List.getElem_mem hlt2);have P8:(2:Int)≤i:=by omega
     have PU:((i:Int)-2).toNat=i-2:=by omega
     have If:IntKind.i64.wrap ((i:Int)-2)=(i:Int)-2:=IntWalk.i64_in _ (by omega);have IP:(0:Int)≤(i:Int)-2:=by omega
     have IQ:(i:Int)-2<x.items.length:=by omega
     have IR:(i:Int)<x.items.length:=by omega
     generalize x.items[i-2]'(by omega)=y at *
     generalize x.items[i]'hlt2=z at *
     have rM:=iD.out;have RY:=Hh (fun w1:World=>fun h1:Holds w1 H=>vW y H _ _ y1 _ y2 y3 _ y4 w1 (d+1) V6 (by omega) hy.arg h1);have RZ:=Hh (fun w1:World=>fun h1:Holds w1 H=>vW z H _ _ z1 _ z2 z3 _ z4 w1 (d+1) z8 (by omega) hz.arg h1);have VL:(zX y).length≤1099511627776:=by omega
     have dj:(zX z).length≤1099511627776:=by omega
     have HD:=Hh hd;clear V6 z8 Q3 Q4 rM hd vI;go_upto_region 32 with fail
     have ry:=ZS.drew;have wJ:=iW.drew;have zA:=Pm.drew
     refine zn 14 (fun w'=>w'.cell? ⟨w.heap.size,3,none⟩=some (.slice (some ⟨ib,io,none⟩) x.items.length ic)∧w'.cell? ⟨ib,io+(i-2)*4,none⟩=some (.int .i64 y.kind)∧w'.cell? ⟨ib,io+(i-2)*4+1,none⟩=some (.int .u64 y.n)∧w'.cell? ⟨ib,io+(i-2)*4+2,none⟩=some (.slice y1 y.bytes.length y2)∧w'.cell? ⟨ib,io+(i-2)*4+3,none⟩=some (.slice y3 y.items.length y4)∧w'.cell? ⟨ib,io+i*4,none⟩=some (.int .i64 z.kind)∧w'.cell? ⟨ib,io+i*4+1,none⟩=some (.int .u64 z.n)∧w'.cell? ⟨ib,io+i*4+2,none⟩=some (.slice z1 z.bytes.length z2)∧w'.cell? ⟨ib,io+i*4+3,none⟩=some (.slice z3 z.items.length z4)) (by kernel_rfl) (⟨ry.cell 3 rfl,zA.cell p0,zA.cell p1,zA.cell p2,zA.cell p3,zA.cell q0,zA.cell q1,zA.cell q2,zA.cell q3⟩) (fun zy=>?_)
     refine Tk 0 rfl zy ?_
     refine Tk 1 rfl zy ?_
     refine Tk 2 rfl zy ?_
     refine Tk 3 rfl zy ?_
     refine Tk 4 rfl zy ?_
     refine Tk 5 rfl zy ?_
     refine Tk 7 rfl zy ?_
     refine Tk 8 rfl zy ?_
     refine Tk 9 rfl zy ?_
     refine Tk 10 rfl zy ?_
     refine Tk 11 rfl zy ?_
     refine To 6 rfl fun K hK=>?_
     go_simp
     refine(RY.out _ zA).mono ?_
     rintro e wA ⟨rA,rfl,kF⟩
     obtain⟨AA,ca,rfl,_⟩:=kF.own.form;have iL:=kF.own.src
     try have iM:=iM.below kF.2
     have zA:=zA.below kF.2 (Nat.le_refl _);have ry:=ry.below kF.2;have wJ:=wJ.trans (kF.2.mono wJ.size)
     refine Ko hK ?_ fun zy=>?_
     ·exact⟨ry.cell 3 rfl,zA.cell p0,zA.cell p1,zA.cell p2,zA.cell p3,zA.cell q0,zA.cell q1,zA.cell q2,zA.cell q3⟩
     clear hK K
     refine To 12 rfl fun K hK=>?_
     go_simp
     refine(RZ.out _ zA).mono ?_
     rintro e wB ⟨rB,rfl,kG⟩
     obtain⟨BB,cb,rfl,_⟩:=kG.own.form;have iM:=kG.own.src
     try have iL:=iL.below kG.2
     have zA:=zA.below kG.2 (Nat.le_refl _);have ry:=ry.below kG.2;have wJ:=wJ.trans (kG.2.mono wJ.size)
     refine Ko hK ?_ fun zy=>?_
     ·exact⟨ry.cell 3 rfl,zA.cell p0,zA.cell p1,zA.cell p2,zA.cell p3,zA.cell q0,zA.cell q1,zA.cell q2,zA.cell q3⟩
     clear hK K
     refine To 13 rfl fun K hK=>?_
     go_simp
     refine(vT _ AA BB (zX y) (zX z) _ _ ca cb rfl rfl VL dj iL iM).mono ?_
     rintro e wC ⟨rfl,ZV⟩
     have zA:=zA.below ZV (Nat.le_refl _);have ry:=ry.below ZV;have wJ:=wJ.trans (ZV.mono wJ.size)
     refine Ko hK ?_ fun zy=>?_
     ·exact⟨ry.cell 3 rfl,zA.cell p0,zA.cell p1,zA.cell p2,zA.cell p3,zA.cell q0,zA.cell q1,zA.cell q2,zA.cell q3⟩
     clear hK K
     refine To 14 rfl fun K hK=>?_
     go_simp
     refine Kz hK ?_
     clear hK K
     refine Wd ?_
     clear zy
     by_cases tz:Lib.compareBytes (zX y) (zX z)<0
     ·have iJ:¬ (0:Int)≤Lib.compareBytes (zX y) (zX z):=by omega
      have HN:Hid (xj (x.items.drop (i+2-2))=xj x.items):=by rw[Hid,Nat.add_sub_cancel,HD.out,decide_eq_true tz,Bool.true_and]
      generalize Lib.compareBytes (zX y) (zX z)=cmp at *
      have HC:=Hh tz;clear tz iL iM zA;go_wp2_with fail
      go_roundw
      case rel=>exact⟨i+2,by omega,by omega,by go_num,HN.out,wJ,ry⟩
      case measure=>simp[intOf];omega
     have iJ:(0:Int)≤Lib.compareBytes (zX y) (zX z):=by omega
     have HN:xj x.items=false:=by rw[HD.out,decide_eq_false tz,Bool.false_and]
     have E:Hid (zN x c d=none):=by
      rw[Hid,yM,if_neg (by omega),if_neg (by simp[HG.out]),sw.out]
      simp only
      rw[if_pos ⟨H5.out,HN⟩]
     generalize Lib.compareBytes (zX y) (zX z)=cmp at *
     clear tz iL iM zA HN;go_wp2_with fail
     go_ret
     exact⟨by rw[E.out];rfl,wJ⟩
    have x9:¬ (i:Int)<x.items.length:=by omega
    have HN:xj x.items=true:=by rw[← HA.out];exact km _ _ nC (by omega)
    have E:Hid (zN x c d=some r):=by
     rw[Hid,yM,if_neg (by omega),if_neg (by simp[HG.out]),sw.out]
     simp only
     rw[if_neg (by rintro⟨_,h⟩;rw[HN]at h;cases h)]
    clear HN hlt2;go_wp2_with fail
    go_ret
    exact⟨by rw[E.out];rfl,iW⟩
  have bpos0:¬ (0:Int)<x.items.length:=by omega
  have wj:=Hh yL;clear yL;go_enter Tryz.func94,Tryz.ntmps94
  go_upto_region 22 with fail
  any_goals
   (have yH:zY x d (c-1)=false:=by
     cases hq:zY x d (c-1) with
     | false=>rfl
     | true=>exact absurd ((zC (by have:=HK.out;omega)).1 hq) (by have zG:=wk.out;have uq:=uF.out;have yL:=wj.out;have hk:=HK.out;omega)
    go_ret
    exact⟨by rw[zE yH];rfl,yZ⟩)
  all_goals
   have zQ:zY x d (c-1)=true:=(zC (by have:=HK.out;omega)).2 ⟨by omega,by omega,fun h=>by have:=HK.out;omega,fun _=>wk.out,fun h=>uF.out,by omega⟩;have yK:x.items.length=0:=by have zG:=wk.out;have uq:=uF.out;have yL:=wj.out;have hk:=HK.out;omega
   have hk:=HK.out;have E:Hid (zN x c d=some (c-1)):=yu pT zQ yK;have qJ:¬ (0:Int)<x.items.length:=by omega
   have te:¬ (2:Int)<x.items.length:=by omega
   have HI:=Hh yK;have HC:=Hh zQ;clear yK hk zQ;have c0:=hB.cell 0 rfl;have c3:=hB.cell 3 rfl;go_wp2_with fail
   refine wp_loop_rounds 1 ?_
   rw[rounds_succ];go_wp2_with fail
   refine wp_loop_rounds 1 ?_
   rw[rounds_succ];go_wp2_with fail
   go_ret
   exact⟨by rw[E.out,← qu.out];rfl,yZ⟩
 have beven0:((x.items.length:Int)%2 != 0)=true:=by(first | (rw[bne_eq_false_iff_eq];omega) | (rw[bne_iff_ne];omega))
 have uF:=Hh uq;clear uq
 by_cases yL:0<x.items.length
 ·have bpos0:(0:Int)<x.items.length:=by omega
  have wj:=Hh yL;clear yL;go_enter Tryz.func94,Tryz.ntmps94
  go_upto_region 22 with fail
  any_goals
   (have yH:zY x d (c-1)=false:=by
     cases hq:zY x d (c-1) with
     | false=>rfl
     | true=>exact absurd ((zC (by have:=HK.out;omega)).1 hq) (by have zG:=wk.out;have uq:=uF.out;have yL:=wj.out;have hk:=HK.out;omega)
    go_ret
    exact⟨by rw[zE yH];rfl,yZ⟩)
  all_goals
   have HG:Hid (zY x d (c-1)=true):=(zC (by have:=HK.out;omega)).2 ⟨by omega,by omega,fun h=>by have:=HK.out;omega,fun _=>wk.out,fun h=>uF.out,by omega⟩;have c0:=hB.cell 0 rfl;have c3:=hB.cell 3 rfl;go_wp2_with fail
   have kK:=hB;have yX:=yZ;go_loopw [1,157] (fun v1 v157 wr=>∃ (j r:Nat),j≤x.items.length∧r≤c∧v157=.int .i64 j∧v1=.int .i64 r∧zI (x.items.drop j) r (d+1)=zI x.items (c-1) (d+1)∧Below w.heap.size w wr∧Blk wr w.heap.size 78 #[.int .i64 x.kind,.int .u64 x.n,.slice ba x.bytes.length bc,.slice ia x.items.length ic]) (fun _ v157 _=>x.items.length-(intOf v157).toNat)
   case atStart=>exact⟨0,c-1,Nat.zero_le _,by omega,rfl,by rw[qu.out],rfl,yX,kK⟩
   case round =>
   obtain⟨j,r,hj,SW,rfl,rfl,mf,yE,rR⟩:=hrel;have qB:=Hh mf;clear mf
   by_cases yy:j<x.items.length
   ·have xD:Holds wr H:=hH.below yE (Nat.le_refl _);obtain⟨ib,io,qI,vI⟩:=HX.out.items (by omega);obtain⟨eba,ebc,eia,eic,q0,q1,q2,q3,qh⟩:=vI.get j yy;subst qI;have p0:=xD.cell q0;have p1:=xD.cell q1;have p2:=xD.cell q2;have p3:=xD.cell q3;have vz:zI (x.items.drop j) r (d+1)=match zN x.items[j] r (d+1) with | none=>none | some r'=>zI (x.items.drop (j+1)) r' (d+1):=by rw[List.drop_eq_getElem_cons yy,zI];cases zN x.items[j] r (d+1) <;> rfl
    have uL:=Hh (vz.symm.trans qB.out);clear vz;have IHC:=ih x.items[j] (wu x j yy) H hT _ _ eba _ ebc eia _ eic (wr.alloc (zH x.items[j] eba ebc eia eic)) r (d+1) qh.arg (xD.alloc _) (by omega) (by omega);rw[show((d+1:Nat):Int)=(d:Int)+1 by omega]at IHC;have IHH:=Hh IHC;have y8:=yE.alloc yE.size (zH x.items[j] eba ebc eia eic);have tF:=rR.alloc (zH x.items[j] eba ebc eia eic);clear IHC q0 q1 q2 q3
    cases hq:zN x.items[j] r (d+1) with
    | none =>
     rw[hq]at IHH uL;have E:Hid (zN x c d=none):=by rw[Hid,yM,if_neg (by omega),if_neg (by simp[HG.out]),← uL.out]
     clear hq uL;go_wp2_with fail
     refine IHH.out.mono ?_
     rintro e w6 ⟨rfl,y9⟩
     have xU:=y8.trans (y9.mono y8.size)
     simp only[wX]
     go_wp2_with fail
     go_ret
     exact⟨by rw[E.out];rfl,xU⟩
    | some r' =>
    rw[hq]at IHH uL;have dh:=(vx _ _ _ _ hq).2.2;have pB:Hid (zI (x.items.drop (j+1)) r' (d+1)=zI x.items (c-1) (d+1)):=uL.out;clear hq uL;have Xx:(0:Int)≤(r':Int):=by omega
    have pA:r'≤c:=by omega
    go_wp2_with fail
    refine IHH.out.mono ?_
    rintro e w6 ⟨rfl,y9⟩
    have xU:=y8.trans (y9.mono y8.size);have nW:=tF.below y9
    simp only[wX]
    clear yE rR y8 tF y9 IHH p0 p1 p2 p3 dh xD;go_wp2_with fail
    go_roundw
    case rel=>exact⟨j+1,r',by omega,pA,by go_num,rfl,pB.out,xU,nW⟩
    case measure=>simp[intOf];omega
   have u9:j=x.items.length:=by omega
   subst u9;have vy:zI x.items (c-1) (d+1)=some r:=by rw[← qB.out,List.drop_length,zI]
   have sw:=Hh vy;clear vy qB;obtain⟨yS,sP,nB⟩:=sC _ _ _ _ sw.out;have Un:=Hh yS;have rM:(ym x.items).length≤1099511627776:=by have:=GoodL.bytes yS sP;omega
   have iD:=Hh rM;have h5:x.kind=5:=by simpa using b5
   have H5:=Hh h5;clear yS sP nB rM h5;go_wp2_with fail
   go_loopw [11] (fun v11 wz=>∃ i:Nat,2≤i∧i≤x.items.length+2∧v11=.int .i64 i∧xj (x.items.drop (i-2))=xj x.items∧Below w.heap.size w wz∧Blk wz w.heap.size 78 #[.int .i64 x.kind,.int .u64 x.n,.slice ba x.bytes.length bc,.slice ia x.items.length ic]) (fun v11 _=>(x.items.length+2)-(intOf v11).toNat)
   case atStart=>exact⟨2,by omega,by omega,rfl,rfl,yE,rR⟩
   case round =>
   obtain⟨i,nC,PB,rfl,jy,iW,ZS⟩:=hrel;have HA:=Hh jy;have c0:=ZS.cell 0 rfl;have c3:=ZS.cell 3 rfl;clear jy yE rR
   by_cases hlt2:i<x.items.length
   ·have Pm:Holds wr H:=hH.below iW (Nat.le_refl _);obtain⟨ib,io,qI,vI⟩:=HX.out.items (by omega);obtain⟨y1,y2,y3,y4,p0,p1,p2,p3,hy⟩:=vI.get (i-2) (by omega);obtain⟨z1,z2,z3,z4,q0,q1,q2,q3,hz⟩:=vI.get i hlt2;subst qI;have hd:=pI x.items i nC hlt2;rw[HA.out]at hd;have V6:=Un.out.get x.items[i-2] (List.getElem_mem (by omega));have z8:=Un.out.get x.items[i] (List.getElem_mem hlt2);have Q3:=tS (List.getElem_mem (show i-2<x.items.length by omega));have Q4:=tS (List.getElem_mem hlt2);have P8:(2:Int)≤i:=by omega
    have PU:((i:Int)-2).toNat=i-2:=by omega
    have If:IntKind.i64.wrap ((i:Int)-2)=(i:Int)-2:=IntWalk.i64_in _ (by omega);have IP:(0:Int)≤(i:Int)-2:=by omega
    have IQ:(i:Int)-2<x.items.length:=by omega
    have IR:(i:Int)<x.items.length:=by omega
    generalize x.items[i-2]'(by omega)=y at *
    generalize x.items[i]'hlt2=z at *
    have rM:=iD.out;have RY:=Hh (fun w1:World=>fun h1:Holds w1 H=>vW y H _ _ y1 _ y2 y3 _ y4 w1 (d+1) V6 (by omega) hy.arg h1);have RZ:=Hh (fun w1:World=>fun h1:Holds w1 H=>vW z H _ _ z1 _ z2 z3 _ z4 w1 (d+1) z8 (by omega) hz.arg h1);have VL:(zX y).length≤1099511627776:=by omega
    have dj:(zX z).length≤1099511627776:=by omega
    have HD:=Hh hd;clear V6 z8 Q3 Q4 rM hd vI;go_upto_region 32 with fail
    have ry:=ZS.drew;have wJ:=iW.drew;have zA:=Pm.drew
    refine zn 14 (fun w'=>w'.cell? ⟨w.heap.size,3,none⟩=some (.slice (some ⟨ib,io,none⟩) x.items.length ic)∧w'.cell? ⟨ib,io+(i-2)*4,none⟩=some (.int .i64 y.kind)∧w'.cell? ⟨ib,io+(i-2)*4+1,none⟩=some (.int .u64 y.n)∧w'.cell? ⟨ib,io+(i-2)*4+2,none⟩=some (.slice y1 y.bytes.length y2)∧w'.cell? ⟨ib,io+(i-2)*4+3,none⟩=some (.slice y3 y.items.length y4)∧w'.cell? ⟨ib,io+i*4,none⟩=some (.int .i64 z.kind)∧w'.cell? ⟨ib,io+i*4+1,none⟩=some (.int .u64 z.n)∧w'.cell? ⟨ib,io+i*4+2,none⟩=some (.slice z1 z.bytes.length z2)∧w'.cell? ⟨ib,io+i*4+3,none⟩=some (.slice z3 z.items.length z4)) (by kernel_rfl) (⟨ry.cell 3 rfl,zA.cell p0,zA.cell p1,zA.cell p2,zA.cell p3,zA.cell q0,zA.cell q1,zA.cell q2,zA.cell q3⟩) (fun zy=>?_)
    refine Tk 0 rfl zy ?_
    refine Tk 1 rfl zy ?_
    refine Tk 2 rfl zy ?_
    refine Tk 3 rfl zy ?_
    refine Tk 4 rfl zy ?_
    refine Tk 5 rfl zy ?_
    refine Tk 7 rfl zy ?_
    refine Tk 8 rfl zy ?_
    refine Tk 9 rfl zy ?_
    refine Tk 10 rfl zy ?_
    refine Tk 11 rfl zy ?_
    refine To 6 rfl fun K hK=>?_
    go_simp
    refine(RY.out _ zA).mono ?_
    rintro e wA ⟨rA,rfl,kF⟩
    obtain⟨AA,ca,rfl,_⟩:=kF.own.form;have iL:=kF.own.src
    try have iM:=iM.below kF.2
    have zA:=zA.below kF.2 (Nat.le_refl _);have ry:=ry.below kF.2;have wJ:=wJ.trans (kF.2.mono wJ.size)
    refine Ko hK ?_ fun zy=>?_
    ·exact⟨ry.cell 3 rfl,zA.cell p0,zA.cell p1,zA.cell p2,zA.cell p3,zA.cell q0,zA.cell q1,zA.cell q2,zA.cell q3⟩
    clear hK K
    refine To 12 rfl fun K hK=>?_
    go_simp
    refine(RZ.out _ zA).mono ?_
    rintro e wB ⟨rB,rfl,kG⟩
    obtain⟨BB,cb,rfl,_⟩:=kG.own.form;have iM:=kG.own.src
    try have iL:=iL.below kG.2
    have zA:=zA.below kG.2 (Nat.le_refl _);have ry:=ry.below kG.2;have wJ:=wJ.trans (kG.2.mono wJ.size)
    refine Ko hK ?_ fun zy=>?_
    ·exact⟨ry.cell 3 rfl,zA.cell p0,zA.cell p1,zA.cell p2,zA.cell p3,zA.cell q0,zA.cell q1,zA.cell q2,zA.cell q3⟩
    clear hK K
    refine To 13 rfl fun K hK=>?_
    go_simp
    refine(vT _ AA BB (zX y) (zX z) _ _ ca cb rfl rfl VL dj iL iM).mono ?_
    rintro e wC ⟨rfl,ZV⟩
    have zA:=zA.below ZV (Nat.le_refl _);have ry:=ry.below ZV;have wJ:=wJ.trans (ZV.mono wJ.size)
    refine Ko hK ?_ fun zy=>?_
    ·exact⟨ry.cell 3 rfl,zA.cell p0,zA.cell p1,zA.cell p2,zA.cell p3,zA.cell q0,zA.cell q1,zA.cell q2,zA.cell q3⟩
    clear hK K
    refine To 14 rfl fun K hK=>?_
    go_simp
    refine Kz hK ?_
    clear hK K
    refine Wd ?_
    clear zy
    by_cases tz:Lib.compareBytes (zX y) (zX z)<0
    ·have iJ:¬ (0:Int)≤Lib.compareBytes (zX y) (zX z):=by omega
     have HN:Hid (xj (x.items.drop (i+2-2))=xj x.items):=by rw[Hid,Nat.add_sub_cancel,HD.out,decide_eq_true tz,Bool.true_and]
     generalize Lib.compareBytes (zX y) (zX z)=cmp at *
     have HC:=Hh tz;clear tz iL iM zA;go_wp2_with fail
     go_roundw
     case rel=>exact⟨i+2,by omega,by omega,by go_num,HN.out,wJ,ry⟩
     case measure=>simp[intOf];omega
    have iJ:(0:Int)≤Lib.compareBytes (zX y) (zX z):=by omega
    have HN:xj x.items=false:=by rw[HD.out,decide_eq_false tz,Bool.false_and]
    have E:Hid (zN x c d=none):=by
     rw[Hid,yM,if_neg (by omega),if_neg (by simp[HG.out]),sw.out]
     simp only
     rw[if_pos ⟨H5.out,HN⟩]
    generalize Lib.compareBytes (zX y) (zX z)=cmp at *
    clear tz iL iM zA HN;go_wp2_with fail
    go_ret
    exact⟨by rw[E.out];rfl,wJ⟩
   have x9:¬ (i:Int)<x.items.length:=by omega
   have HN:xj x.items=true:=by rw[← HA.out];exact km _ _ nC (by omega)
   have E:Hid (zN x c d=some r):=by
    rw[Hid,yM,if_neg (by omega),if_neg (by simp[HG.out]),sw.out]
    simp only
    rw[if_neg (by rintro⟨_,h⟩;rw[HN]at h;cases h)]
   clear HN hlt2;go_wp2_with fail
   go_ret
   exact⟨by rw[E.out];rfl,iW⟩
 have bpos0:¬ (0:Int)<x.items.length:=by omega
 have wj:=Hh yL;clear yL;go_enter Tryz.func94,Tryz.ntmps94
 go_upto_region 22 with fail
 any_goals
  (have yH:zY x d (c-1)=false:=by
    cases hq:zY x d (c-1) with
    | false=>rfl
    | true=>exact absurd ((zC (by have:=HK.out;omega)).1 hq) (by have zG:=wk.out;have uq:=uF.out;have yL:=wj.out;have hk:=HK.out;omega)
   go_ret
   exact⟨by rw[zE yH];rfl,yZ⟩)
 all_goals
  have zQ:zY x d (c-1)=true:=(zC (by have:=HK.out;omega)).2 ⟨by omega,by omega,fun h=>by have:=HK.out;omega,fun _=>wk.out,fun h=>uF.out,by omega⟩;have yK:x.items.length=0:=by have zG:=wk.out;have uq:=uF.out;have yL:=wj.out;have hk:=HK.out;omega
  have hk:=HK.out;have E:Hid (zN x c d=some (c-1)):=yu pT zQ yK;have qJ:¬ (0:Int)<x.items.length:=by omega
  have te:¬ (2:Int)<x.items.length:=by omega
  have HI:=Hh yK;have HC:=Hh zQ;clear yK hk zQ;have c0:=hB.cell 0 rfl;have c3:=hB.cell 3 rfl;go_wp2_with fail
  refine wp_loop_rounds 1 ?_
  rw[rounds_succ];go_wp2_with fail
  refine wp_loop_rounds 1 ?_
  rw[rounds_succ];go_wp2_with fail
  go_ret
  exact⟨by rw[E.out,← qu.out];rfl,yZ⟩
theorem Qz (x:Itm) (hk:x.kind=3) {H:Snap}(hT:Tabs H) (ih:∀ y:Itm,cnt y<cnt x→uY y) {ba:Option Addr}{bc:Nat}{ia:Option Addr}{ic:Nat}(hx:IsItem H ba bc ia ic x) (w:World) (hH:Holds w H) (c d:Nat) (pT:0<c) (hc:c≤65536) (hd:d≤65536) :
  Calls Tryz.prog 94 #[ua x ba bc ia ic,.int .i64 c,.int .i64 d] w fun e w'=>e=.returned (.int .i64 (wX (zN x c d)))∧Below w.heap.size w w':=by
 have HX:=Hh hx;have t6:=hx.bounds;have hB:=Blk.new w 78 #[.int .i64 x.kind,.int .u64 x.n,.slice ba x.bytes.length bc,.slice ia x.items.length ic];have yZ:=zl w (zH x ba bc ia ic);have mZ:((c-1:Nat):Int)=(c:Int)-1:=by omega
 have rM:x.bytes.length≤9223372036854775807:=by omega
 have rC:x.items.length≤9223372036854775807:=by omega
 have HN:=Hh t6.2.2.1;have So:¬ (c:Int)<1:=by omega
 have k0:¬ x.kind<0:=by omega
 have k8:¬ 8<x.kind:=by omega
 have HK:=Hh hk;have qu:=Hh mZ;have V:=Hh (mG hT (w.alloc (zH x ba bc ia ic)) (hH.alloc _) ba x.bytes _ bc rfl hx.bytes);clear hx t6 mZ;obtain⟨b0,b1,b2,b3,b4,b5,b6,b7,b8⟩:=Tu hk;clear hk
 by_cases zG:x.n=0
 ·have bn00:((x.n:Int) != 0)=false:=by simp[zG]
  have bn01:(x.n=0)=True:=by first | exact eq_true zG | exact eq_false zG
  have wk:=Hh zG;clear zG
  by_cases vD:Lib.validD x.bytes=true
  ·have bval0:Lib.validD x.bytes=true:=by simpa using vD
   have i6:=Hh vD;clear vD;go_enter Tryz.func94,Tryz.ntmps94
   rw[bval0]at V;go_upto_region 22 with (go_at_call 102;refine V.out.mono ?_;rintro e wv ⟨rfl,Xu⟩;have hB:=hB.below Xu;have yZ:=yZ.trans (Xu.mono yZ.size);have e0:=hB.cell 0 rfl;have e1:=hB.cell 1 rfl;have e2:=hB.cell 2 rfl;have e3:=hB.cell 3 rfl)
   any_goals
    (have yH:zY x d (c-1)=false:=by
      cases hq:zY x d (c-1) with
      | false=>rfl
      | true=>exact absurd ((px HK.out).1 hq) (by have zG:=wk.out;have vD:=i6.out;rintro⟨p1,p2,p3,p4⟩;first | omega | (rw[bval0]at p4;cases p4))
     go_ret
     exact⟨by rw[zE yH];rfl,yZ⟩)
   all_goals
    have zQ:zY x d (c-1)=true:=(px HK.out).2 ⟨wk.out,by omega,by omega,bval0⟩;have yK:x.items.length=0:=by have zG:=wk.out;have vD:=i6.out;omega
    have hk:=HK.out;have E:Hid (zN x c d=some (c-1)):=yu pT zQ yK;have qJ:¬ (0:Int)<x.items.length:=by omega
    have te:¬ (2:Int)<x.items.length:=by omega
    have HI:=Hh yK;have HC:=Hh zQ;clear yK hk zQ;have c0:=hB.cell 0 rfl;have c3:=hB.cell 3 rfl;go_wp2_with fail
    refine wp_loop_rounds 1 ?_
    rw[rounds_succ];go_wp2_with fail
    refine wp_loop_rounds 1 ?_
    rw[rounds_succ];go_wp2_with fail
    go_ret
    exact⟨by rw[E.out,← qu.out];rfl,yZ⟩
  have bval0:Lib.validD x.bytes=false:=by simpa using vD
  have i6:=Hh vD;clear vD;go_enter Tryz.func94,Tryz.ntmps94
  rw[bval0]at V;go_upto_region 22 with (go_at_call 102;refine V.out.mono ?_;rintro e wv ⟨rfl,Xu⟩;have hB:=hB.below Xu;have yZ:=yZ.trans (Xu.mono yZ.size);have e0:=hB.cell 0 rfl;have e1:=hB.cell 1 rfl;have e2:=hB.cell 2 rfl;have e3:=hB.cell 3 rfl)
  any_goals
   (have yH:zY x d (c-1)=false:=by
     cases hq:zY x d (c-1) with
     | false=>rfl
     | true=>exact absurd ((px HK.out).1 hq) (by have zG:=wk.out;have vD:=i6.out;rintro⟨p1,p2,p3,p4⟩;first | omega | (rw[bval0]at p4;cases p4))
    go_ret
    exact⟨by rw[zE yH];rfl,yZ⟩)
  all_goals
   have zQ:zY x d (c-1)=true:=(px HK.out).2 ⟨wk.out,by omega,by omega,bval0⟩;have yK:x.items.length=0:=by have zG:=wk.out;have vD:=i6.out;omega
   have hk:=HK.out;have E:Hid (zN x c d=some (c-1)):=yu pT zQ yK;have qJ:¬ (0:Int)<x.items.length:=by omega
   have te:¬ (2:Int)<x.items.length:=by omega
   have HI:=Hh yK;have HC:=Hh zQ;clear yK hk zQ;have c0:=hB.cell 0 rfl;have c3:=hB.cell 3 rfl;go_wp2_with fail
   refine wp_loop_rounds 1 ?_
   rw[rounds_succ];go_wp2_with fail
   refine wp_loop_rounds 1 ?_
   rw[rounds_succ];go_wp2_with fail
   go_ret
   exact⟨by rw[E.out,← qu.out];rfl,yZ⟩
 have bn00:((x.n:Int) != 0)=true:=by simp[zG]
 have bn01:(x.n=0)=False:=by first | exact eq_true zG | exact eq_false zG
 have wk:=Hh zG;clear zG
 by_cases vD:Lib.validD x.bytes=true
 ·have bval0:Lib.validD x.bytes=true:=by simpa using vD
  have i6:=Hh vD;clear vD;go_enter Tryz.func94,Tryz.ntmps94
  rw[bval0]at V;go_upto_region 22 with (go_at_call 102;refine V.out.mono ?_;rintro e wv ⟨rfl,Xu⟩;have hB:=hB.below Xu;have yZ:=yZ.trans (Xu.mono yZ.size);have e0:=hB.cell 0 rfl;have e1:=hB.cell 1 rfl;have e2:=hB.cell 2 rfl;have e3:=hB.cell 3 rfl)
  any_goals
   (have yH:zY x d (c-1)=false:=by
     cases hq:zY x d (c-1) with
     | false=>rfl
     | true=>exact absurd ((px HK.out).1 hq) (by have zG:=wk.out;have vD:=i6.out;rintro⟨p1,p2,p3,p4⟩;first | omega | (rw[bval0]at p4;cases p4))
    go_ret
    exact⟨by rw[zE yH];rfl,yZ⟩)
  all_goals
   have zQ:zY x d (c-1)=true:=(px HK.out).2 ⟨wk.out,by omega,by omega,bval0⟩;have yK:x.items.length=0:=by have zG:=wk.out;have vD:=i6.out;omega
   have hk:=HK.out;have E:Hid (zN x c d=some (c-1)):=yu pT zQ yK;have qJ:¬ (0:Int)<x.items.length:=by omega
   have te:¬ (2:Int)<x.items.length:=by omega
   have HI:=Hh yK;have HC:=Hh zQ;clear yK hk zQ;have c0:=hB.cell 0 rfl;have c3:=hB.cell 3 rfl;go_wp2_with fail
   refine wp_loop_rounds 1 ?_
   rw[rounds_succ];go_wp2_with fail
   refine wp_loop_rounds 1 ?_
   rw[rounds_succ];go_wp2_with fail
   go_ret
   exact⟨by rw[E.out,← qu.out];rfl,yZ⟩
 have bval0:Lib.validD x.bytes=false:=by simpa using vD
 have i6:=Hh vD;clear vD;go_enter Tryz.func94,Tryz.ntmps94
 rw[bval0]at V;go_upto_region 22 with (go_at_call 102;refine V.out.mono ?_;rintro e wv ⟨rfl,Xu⟩;have hB:=hB.below Xu;have yZ:=yZ.trans (Xu.mono yZ.size);have e0:=hB.cell 0 rfl;have e1:=hB.cell 1 rfl;have e2:=hB.cell 2 rfl;have e3:=hB.cell 3 rfl)
 any_goals
  (have yH:zY x d (c-1)=false:=by
    cases hq:zY x d (c-1) with
    | false=>rfl
    | true=>exact absurd ((px HK.out).1 hq) (by have zG:=wk.out;have vD:=i6.out;rintro⟨p1,p2,p3,p4⟩;first | omega | (rw[bval0]at p4;cases p4))
   go_ret
   exact⟨by rw[zE yH];rfl,yZ⟩)
 all_goals
  have zQ:zY x d (c-1)=true:=(px HK.out).2 ⟨wk.out,by omega,by omega,bval0⟩;have yK:x.items.length=0:=by have zG:=wk.out;have vD:=i6.out;omega
  have hk:=HK.out;have E:Hid (zN x c d=some (c-1)):=yu pT zQ yK;have qJ:¬ (0:Int)<x.items.length:=by omega
  have te:¬ (2:Int)<x.items.length:=by omega
  have HI:=Hh yK;have HC:=Hh zQ;clear yK hk zQ;have c0:=hB.cell 0 rfl;have c3:=hB.cell 3 rfl;go_wp2_with fail
  refine wp_loop_rounds 1 ?_
  rw[rounds_succ];go_wp2_with fail
  refine wp_loop_rounds 1 ?_
  rw[rounds_succ];go_wp2_with fail
  go_ret
  exact⟨by rw[E.out,← qu.out];rfl,yZ⟩
theorem R9 (x:Itm) (hk:x.kind=8) {H:Snap}(hT:Tabs H) (ih:∀ y:Itm,cnt y<cnt x→uY y) {ba:Option Addr}{bc:Nat}{ia:Option Addr}{ic:Nat}(hx:IsItem H ba bc ia ic x) (w:World) (hH:Holds w H) (c d:Nat) (pT:0<c) (hc:c≤65536) (hd:d≤65536) :
  Calls Tryz.prog 94 #[ua x ba bc ia ic,.int .i64 c,.int .i64 d] w fun e w'=>e=.returned (.int .i64 (wX (zN x c d)))∧Below w.heap.size w w':=by
 have HX:=Hh hx;have t6:=hx.bounds;have hB:=Blk.new w 78 #[.int .i64 x.kind,.int .u64 x.n,.slice ba x.bytes.length bc,.slice ia x.items.length ic];have yZ:=zl w (zH x ba bc ia ic);have mZ:((c-1:Nat):Int)=(c:Int)-1:=by omega
 have rM:x.bytes.length≤9223372036854775807:=by omega
 have rC:x.items.length≤9223372036854775807:=by omega
 have HN:=Hh t6.2.2.1;have So:¬ (c:Int)<1:=by omega
 have k0:¬ x.kind<0:=by omega
 have k8:¬ 8<x.kind:=by omega
 have HK:=Hh hk;have qu:=Hh mZ;have V:=Hh (pJ x.n t6.2.2.1 (w.alloc (zH x ba bc ia ic)));clear hx t6 mZ;obtain⟨b0,b1,b2,b3,b4,b5,b6,b7,b8⟩:=Tz hk;clear hk
 by_cases zG:x.n=0
 ·have bn00:((x.n:Int) != 0)=false:=by simp[zG]
  have bn01:(x.n=0)=True:=by first | exact eq_true zG | exact eq_false zG
  have wk:=Hh zG;clear zG
  by_cases sq:isNaN x.n=true
  ·have bnan0:isNaN x.n=true:=by simpa using sq
   have ow:=Hh sq;clear sq
   by_cases uK:x.n=zD
   ·have bnn0:((x.n:Int) != 9221120237041090560)=false:=by(first | (rw[bne_eq_false_iff_eq];unfold zD at uK;omega) | (rw[bne_iff_ne];unfold zD at uK;omega))
    have rK:=Hh uK;clear uK;go_enter Tryz.func94,Tryz.ntmps94
    rw[bnan0]at V;go_upto_region 22 with (go_at_call 73;refine V.out.mono ?_;rintro e wv ⟨rfl,rfl⟩)
    any_goals
     (have yH:zY x d (c-1)=false:=by
       cases hq:zY x d (c-1) with
       | false=>rfl
       | true=>exact absurd ((vG HK.out).1 hq) (by have zG:=wk.out;have sq:=ow.out;have uK:=rK.out;rintro⟨p1,p2,p3⟩;first | omega | (rcases p3 with p3 | p3;(rw[bnan0]at p3;cases p3);exact uK p3))
      go_ret
      exact⟨by rw[zE yH];rfl,yZ⟩)
    all_goals
     have zQ:zY x d (c-1)=true:=(vG HK.out).2 ⟨by omega,by omega,by first | exact .inl bnan0 | exact .inr rK.out⟩;have yK:x.items.length=0:=by have zG:=wk.out;have sq:=ow.out;have uK:=rK.out;omega
     have hk:=HK.out;have E:Hid (zN x c d=some (c-1)):=yu pT zQ yK;have qJ:¬ (0:Int)<x.items.length:=by omega
     have te:¬ (2:Int)<x.items.length:=by omega
     have HI:=Hh yK;have HC:=Hh zQ;clear yK hk zQ;have c0:=hB.cell 0 rfl;have c3:=hB.cell 3 rfl;go_wp2_with fail
     refine wp_loop_rounds 1 ?_
     rw[rounds_succ];go_wp2_with fail
     refine wp_loop_rounds 1 ?_
     rw[rounds_succ];go_wp2_with fail
     go_ret
     exact⟨by rw[E.out,← qu.out];rfl,yZ⟩
   have bnn0:((x.n:Int) != 9221120237041090560)=true:=by(first | (rw[bne_eq_false_iff_eq];unfold zD at uK;omega) | (rw[bne_iff_ne];unfold zD at uK;omega))
   have rK:=Hh uK;clear uK;go_enter Tryz.func94,Tryz.ntmps94
   rw[bnan0]at V;go_upto_region 22 with (go_at_call 73;refine V.out.mono ?_;rintro e wv ⟨rfl,rfl⟩)
   any_goals
    (have yH:zY x d (c-1)=false:=by
      cases hq:zY x d (c-1) with
      | false=>rfl
      | true=>exact absurd ((vG HK.out).1 hq) (by have zG:=wk.out;have sq:=ow.out;have uK:=rK.out;rintro⟨p1,p2,p3⟩;first | omega | (rcases p3 with p3 | p3;(rw[bnan0]at p3;cases p3);exact uK p3))
     go_ret
     exact⟨by rw[zE yH];rfl,yZ⟩)
   all_goals
    have zQ:zY x d (c-1)=true:=(vG HK.out).2 ⟨by omega,by omega,by first | exact .inl bnan0 | exact .inr rK.out⟩;have yK:x.items.length=0:=by have zG:=wk.out;have sq:=ow.out;have uK:=rK.out;omega
    have hk:=HK.out;have E:Hid (zN x c d=some (c-1)):=yu pT zQ yK;have qJ:¬ (0:Int)<x.items.length:=by omega
    have te:¬ (2:Int)<x.items.length:=by omega
    have HI:=Hh yK;have HC:=Hh zQ;clear yK hk zQ;have c0:=hB.cell 0 rfl;have c3:=hB.cell 3 rfl;go_wp2_with fail
    refine wp_loop_rounds 1 ?_
    rw[rounds_succ];go_wp2_with fail
    refine wp_loop_rounds 1 ?_
    rw[rounds_succ];go_wp2_with fail
    go_ret
    exact⟨by rw[E.out,← qu.out];rfl,yZ⟩
  have bnan0:isNaN x.n=false:=by simpa using sq
  have ow:=Hh sq;clear sq
  by_cases uK:x.n=zD
  ·have bnn0:((x.n:Int) != 9221120237041090560)=false:=by(first | (rw[bne_eq_false_iff_eq];unfold zD at uK;omega) | (rw[bne_iff_ne];unfold zD at uK;omega))
   have rK:=Hh uK;clear uK;go_enter Tryz.func94,Tryz.ntmps94
   rw[bnan0]at V;go_upto_region 22 with (go_at_call 73;refine V.out.mono ?_;rintro e wv ⟨rfl,rfl⟩)
   any_goals
    (have yH:zY x d (c-1)=false:=by
      cases hq:zY x d (c-1) with
      | false=>rfl
      | true=>exact absurd ((vG HK.out).1 hq) (by have zG:=wk.out;have sq:=ow.out;have uK:=rK.out;rintro⟨p1,p2,p3⟩;first | omega | (rcases p3 with p3 | p3;(rw[bnan0]at p3;cases p3);exact uK p3))
     go_ret
     exact⟨by rw[zE yH];rfl,yZ⟩)
   all_goals
    have zQ:zY x d (c-1)=true:=(vG HK.out).2 ⟨by omega,by omega,by first | exact .inl bnan0 | exact .inr rK.out⟩;have yK:x.items.length=0:=by have zG:=wk.out;have sq:=ow.out;have uK:=rK.out;omega
    have hk:=HK.out;have E:Hid (zN x c d=some (c-1)):=yu pT zQ yK;have qJ:¬ (0:Int)<x.items.length:=by omega
    have te:¬ (2:Int)<x.items.length:=by omega
    have HI:=Hh yK;have HC:=Hh zQ;clear yK hk zQ;have c0:=hB.cell 0 rfl;have c3:=hB.cell 3 rfl;go_wp2_with fail
    refine wp_loop_rounds 1 ?_
    rw[rounds_succ];go_wp2_with fail
    refine wp_loop_rounds 1 ?_
    rw[rounds_succ];go_wp2_with fail
    go_ret
    exact⟨by rw[E.out,← qu.out];rfl,yZ⟩
  have bnn0:((x.n:Int) != 9221120237041090560)=true:=by(first | (rw[bne_eq_false_iff_eq];unfold zD at uK;omega) | (rw[bne_iff_ne];unfold zD at uK;omega))
  have rK:=Hh uK;clear uK;go_enter Tryz.func94,Tryz.ntmps94
  rw[bnan0]at V;go_upto_region 22 with (go_at_call 73;refine V.out.mono ?_;rintro e wv ⟨rfl,rfl⟩)
  any_goals
   (have yH:zY x d (c-1)=false:=by
     cases hq:zY x d (c-1) with
     | false=>rfl
     | true=>exact absurd ((vG HK.out).1 hq) (by have zG:=wk.out;have sq:=ow.out;have uK:=rK.out;rintro⟨p1,p2,p3⟩;first | omega | (rcases p3 with p3 | p3;(rw[bnan0]at p3;cases p3);exact uK p3))
    go_ret
    exact⟨by rw[zE yH];rfl,yZ⟩)
  all_goals
   have zQ:zY x d (c-1)=true:=(vG HK.out).2 ⟨by omega,by omega,by first | exact .inl bnan0 | exact .inr rK.out⟩;have yK:x.items.length=0:=by have zG:=wk.out;have sq:=ow.out;have uK:=rK.out;omega
   have hk:=HK.out;have E:Hid (zN x c d=some (c-1)):=yu pT zQ yK;have qJ:¬ (0:Int)<x.items.length:=by omega
   have te:¬ (2:Int)<x.items.length:=by omega
   have HI:=Hh yK;have HC:=Hh zQ;clear yK hk zQ;have c0:=hB.cell 0 rfl;have c3:=hB.cell 3 rfl;go_wp2_with fail
   refine wp_loop_rounds 1 ?_
   rw[rounds_succ];go_wp2_with fail
   refine wp_loop_rounds 1 ?_
   rw[rounds_succ];go_wp2_with fail
   go_ret
   exact⟨by rw[E.out,← qu.out];rfl,yZ⟩
 have bn00:((x.n:Int) != 0)=true:=by simp[zG]
 have bn01:(x.n=0)=False:=by first | exact eq_true zG | exact eq_false zG
 have wk:=Hh zG;clear zG
 by_cases sq:isNaN x.n=true
 ·have bnan0:isNaN x.n=true:=by simpa using sq
  have ow:=Hh sq;clear sq
  by_cases uK:x.n=zD
  ·have bnn0:((x.n:Int) != 9221120237041090560)=false:=by(first | (rw[bne_eq_false_iff_eq];unfold zD at uK;omega) | (rw[bne_iff_ne];unfold zD at uK;omega))
   have rK:=Hh uK;clear uK;go_enter Tryz.func94,Tryz.ntmps94
   rw[bnan0]at V;go_upto_region 22 with (go_at_call 73;refine V.out.mono ?_;rintro e wv ⟨rfl,rfl⟩)
   any_goals
    (have yH:zY x d (c-1)=false:=by
      cases hq:zY x d (c-1) with
      | false=>rfl
      | true=>exact absurd ((vG HK.out).1 hq) (by have zG:=wk.out;have sq:=ow.out;have uK:=rK.out;rintro⟨p1,p2,p3⟩;first | omega | (rcases p3 with p3 | p3;(rw[bnan0]at p3;cases p3);exact uK p3))
     go_ret
     exact⟨by rw[zE yH];rfl,yZ⟩)
   all_goals
    have zQ:zY x d (c-1)=true:=(vG HK.out).2 ⟨by omega,by omega,by first | exact .inl bnan0 | exact .inr rK.out⟩;have yK:x.items.length=0:=by have zG:=wk.out;have sq:=ow.out;have uK:=rK.out;omega
    have hk:=HK.out;have E:Hid (zN x c d=some (c-1)):=yu pT zQ yK;have qJ:¬ (0:Int)<x.items.length:=by omega
    have te:¬ (2:Int)<x.items.length:=by omega
    have HI:=Hh yK;have HC:=Hh zQ;clear yK hk zQ;have c0:=hB.cell 0 rfl;have c3:=hB.cell 3 rfl;go_wp2_with fail
    refine wp_loop_rounds 1 ?_
    rw[rounds_succ];go_wp2_with fail
    refine wp_loop_rounds 1 ?_
    rw[rounds_succ];go_wp2_with fail
    go_ret
    exact⟨by rw[E.out,← qu.out];rfl,yZ⟩
  have bnn0:((x.n:Int) != 9221120237041090560)=true:=by(first | (rw[bne_eq_false_iff_eq];unfold zD at uK;omega) | (rw[bne_iff_ne];unfold zD at uK;omega))
  have rK:=Hh uK;clear uK;go_enter Tryz.func94,Tryz.ntmps94
  rw[bnan0]at V;go_upto_region 22 with (go_at_call 73;refine V.out.mono ?_;rintro e wv ⟨rfl,rfl⟩)
  any_goals
   (have yH:zY x d (c-1)=false:=by
     cases hq:zY x d (c-1) with
     | false=>rfl
     | true=>exact absurd ((vG HK.out).1 hq) (by have zG:=wk.out;have sq:=ow.out;have uK:=rK.out;rintro⟨p1,p2,p3⟩;first | omega | (rcases p3 with p3 | p3;(rw[bnan0]at p3;cases p3);exact uK p3))
    go_ret
    exact⟨by rw[zE yH];rfl,yZ⟩)
  all_goals
   have zQ:zY x d (c-1)=true:=(vG HK.out).2 ⟨by omega,by omega,by first | exact .inl bnan0 | exact .inr rK.out⟩;have yK:x.items.length=0:=by have zG:=wk.out;have sq:=ow.out;have uK:=rK.out;omega
   have hk:=HK.out;have E:Hid (zN x c d=some (c-1)):=yu pT zQ yK;have qJ:¬ (0:Int)<x.items.length:=by omega
   have te:¬ (2:Int)<x.items.length:=by omega
   have HI:=Hh yK;have HC:=Hh zQ;clear yK hk zQ;have c0:=hB.cell 0 rfl;have c3:=hB.cell 3 rfl;go_wp2_with fail
   refine wp_loop_rounds 1 ?_
   rw[rounds_succ];go_wp2_with fail
   refine wp_loop_rounds 1 ?_
   rw[rounds_succ];go_wp2_with fail
   go_ret
   exact⟨by rw[E.out,← qu.out];rfl,yZ⟩
 have bnan0:isNaN x.n=false:=by simpa using sq
 have ow:=Hh sq;clear sq
 by_cases uK:x.n=zD
 ·have bnn0:((x.n:Int) != 9221120237041090560)=false:=by(first | (rw[bne_eq_false_iff_eq];unfold zD at uK;omega) | (rw[bne_iff_ne];unfold zD at uK;omega))
  have rK:=Hh uK;clear uK;go_enter Tryz.func94,Tryz.ntmps94
  rw[bnan0]at V;go_upto_region 22 with (go_at_call 73;refine V.out.mono ?_;rintro e wv ⟨rfl,rfl⟩)
  any_goals
   (have yH:zY x d (c-1)=false:=by
     cases hq:zY x d (c-1) with
     | false=>rfl
     | true=>exact absurd ((vG HK.out).1 hq) (by have zG:=wk.out;have sq:=ow.out;have uK:=rK.out;rintro⟨p1,p2,p3⟩;first | omega | (rcases p3 with p3 | p3;(rw[bnan0]at p3;cases p3);exact uK p3))
    go_ret
    exact⟨by rw[zE yH];rfl,yZ⟩)
  all_goals
   have zQ:zY x d (c-1)=true:=(vG HK.out).2 ⟨by omega,by omega,by first | exact .inl bnan0 | exact .inr rK.out⟩;have yK:x.items.length=0:=by have zG:=wk.out;have sq:=ow.out;have uK:=rK.out;omega
   have hk:=HK.out;have E:Hid (zN x c d=some (c-1)):=yu pT zQ yK;have qJ:¬ (0:Int)<x.items.length:=by omega
   have te:¬ (2:Int)<x.items.length:=by omega
   have HI:=Hh yK;have HC:=Hh zQ;clear yK hk zQ;have c0:=hB.cell 0 rfl;have c3:=hB.cell 3 rfl;go_wp2_with fail
   refine wp_loop_rounds 1 ?_
   rw[rounds_succ];go_wp2_with fail
   refine wp_loop_rounds 1 ?_
   rw[rounds_succ];go_wp2_with fail
   go_ret
   exact⟨by rw[E.out,← qu.out];rfl,yZ⟩
 have bnn0:((x.n:Int) != 9221120237041090560)=true:=by(first | (rw[bne_eq_false_iff_eq];unfold zD at uK;omega) | (rw[bne_iff_ne];unfold zD at uK;omega))
 have rK:=Hh uK;clear uK;go_enter Tryz.func94,Tryz.ntmps94
 rw[bnan0]at V;go_upto_region 22 with (go_at_call 73;refine V.out.mono ?_;rintro e wv ⟨rfl,rfl⟩)
 any_goals
  (have yH:zY x d (c-1)=false:=by
    cases hq:zY x d (c-1) with
    | false=>rfl
    | true=>exact absurd ((vG HK.out).1 hq) (by have zG:=wk.out;have sq:=ow.out;have uK:=rK.out;rintro⟨p1,p2,p3⟩;first | omega | (rcases p3 with p3 | p3;(rw[bnan0]at p3;cases p3);exact uK p3))
   go_ret
   exact⟨by rw[zE yH];rfl,yZ⟩)
 all_goals
  have zQ:zY x d (c-1)=true:=(vG HK.out).2 ⟨by omega,by omega,by first | exact .inl bnan0 | exact .inr rK.out⟩;have yK:x.items.length=0:=by have zG:=wk.out;have sq:=ow.out;have uK:=rK.out;omega
  have hk:=HK.out;have E:Hid (zN x c d=some (c-1)):=yu pT zQ yK;have qJ:¬ (0:Int)<x.items.length:=by omega
  have te:¬ (2:Int)<x.items.length:=by omega
  have HI:=Hh yK;have HC:=Hh zQ;clear yK hk zQ;have c0:=hB.cell 0 rfl;have c3:=hB.cell 3 rfl;go_wp2_with fail
  refine wp_loop_rounds 1 ?_
  rw[rounds_succ];go_wp2_with fail
  refine wp_loop_rounds 1 ?_
  rw[rounds_succ];go_wp2_with fail
  go_ret
  exact⟨by rw[E.out,← qu.out];rfl,yZ⟩
end Go.Proofs.YtjpcnhncoidliaaGreatDoor
