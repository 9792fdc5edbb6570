/- squeezed. Walks: the references' left: array -/
import Derived.Test.YtjpcnhncoidliaaGreatDoorK03
set_option linter.unusedVariables false
set_option linter.unusedSimpArgs false
set_option maxRecDepth 100000
set_option maxHeartbeats 6400000
namespace Go.Proofs.YtjpcnhncoidliaaGreatDoor
open Go.RowKit
theorem R0 (x:Itm) (hk:x.kind=4) {H:Snap}(hT:Tabs H) (ih:∀ y:Itm,cnt y<cnt x→uY y) {ba:Option Addr}{bc:Nat}{ia:Option Addr}{ic:Nat}(hx:IsItem H ba bc ia ic x) (w:World) (hH:Holds w H) (c d:Nat) (pT:0<c) (hc:c≤65536) (hd:d≤65536) :
  Calls Tryz.prog 94 #[ua x ba bc ia ic,.int .i64 c,.int .i64 d] w fun e w'=>e=.returned (.int .i64 (wX (zN x c d)))∧Below w.heap.size w w':=by
 have HX:=Hh hx;have t6:=hx.bounds;have hB:=Blk.new w 78 #[.int .i64 x.kind,.int .u64 x.n,.slice ba x.bytes.length bc,.slice ia x.items.length ic];have yZ:=zl w (zH x ba bc ia ic);have mZ:((c-1:Nat):Int)=(c:Int)-1:=by omega
 have rM:x.bytes.length≤9223372036854775807:=by omega
 have rC:x.items.length≤9223372036854775807:=by omega
 have HN:=Hh t6.2.2.1;have So:¬ (c:Int)<1:=by omega
 have k0:¬ x.kind<0:=by omega
 have k8:¬ 8<x.kind:=by omega
 have HK:=Hh hk;have qu:=Hh mZ;clear hx t6 mZ;obtain⟨b0,b1,b2,b3,b4,b5,b6,b7,b8⟩:=Tv hk;clear hk
 by_cases zG:x.n=0
 ·have bn00:((x.n:Int) != 0)=false:=by simp[zG]
  have bn01:(x.n=0)=True:=by first | exact eq_true zG | exact eq_false zG
  have wk:=Hh zG;clear zG
  by_cases yL:0<x.items.length
  ·have bpos0:(0:Int)<x.items.length:=by omega
   have wj:=Hh yL;clear yL;go_enter Tryz.func94,Tryz.ntmps94
   go_upto_region 22 with fail
   any_goals
    (have yH:zY x d (c-1)=false:=by
      cases hq:zY x d (c-1) with
      | false=>rfl
      | true=>exact absurd ((zC (by have:=HK.out;omega)).1 hq) (by have zG:=wk.out;have yL:=wj.out;have hk:=HK.out;omega)
     go_ret
     exact⟨by rw[zE yH];rfl,yZ⟩)
   all_goals
    have HG:Hid (zY x d (c-1)=true):=(zC (by have:=HK.out;omega)).2 ⟨by omega,by omega,fun h=>by have:=HK.out;omega,fun _=>wk.out,fun h=>by have:=HK.out;omega,by omega⟩;have c0:=hB.cell 0 rfl;have c3:=hB.cell 3 rfl;go_wp2_with fail
    have kK:=hB;have yX:=yZ;go_loopw [1,157] (fun v1 v157 wr=>∃ (j r:Nat),j≤x.items.length∧r≤c∧v157=.int .i64 j∧v1=.int .i64 r∧zI (x.items.drop j) r (d+1)=zI x.items (c-1) (d+1)∧Below w.heap.size w wr∧Blk wr w.heap.size 78 #[.int .i64 x.kind,.int .u64 x.n,.slice ba x.bytes.length bc,.slice ia x.items.length ic]) (fun _ v157 _=>x.items.length-(intOf v157).toNat)
    case atStart=>exact⟨0,c-1,Nat.zero_le _,by omega,rfl,by rw[qu.out],rfl,yX,kK⟩
    case round =>
    obtain⟨j,r,hj,SW,rfl,rfl,mf,yE,rR⟩:=hrel;have qB:=Hh mf;clear mf
    by_cases yy:j<x.items.length
    ·have xD:Holds wr H:=hH.below yE (Nat.le_refl _);obtain⟨ib,io,qI,vI⟩:=HX.out.items (by omega);obtain⟨eba,ebc,eia,eic,q0,q1,q2,q3,qh⟩:=vI.get j yy;subst qI;have p0:=xD.cell q0;have p1:=xD.cell q1;have p2:=xD.cell q2;have p3:=xD.cell q3;have vz:zI (x.items.drop j) r (d+1)=match zN x.items[j] r (d+1) with | none=>none | some r'=>zI (x.items.drop (j+1)) r' (d+1):=by rw[List.drop_eq_getElem_cons yy,zI];cases zN x.items[j] r (d+1) <;> rfl
     have uL:=Hh (vz.symm.trans qB.out);clear vz;have IHC:=ih x.items[j] (wu x j yy) H hT _ _ eba _ ebc eia _ eic (wr.alloc (zH x.items[j] eba ebc eia eic)) r (d+1) qh.arg (xD.alloc _) (by omega) (by omega);rw[show((d+1:Nat):Int)=(d:Int)+1 by omega]at IHC;have IHH:=Hh IHC;have y8:=yE.alloc yE.size (zH x.items[j] eba ebc eia eic);have tF:=rR.alloc (zH x.items[j] eba ebc eia eic);clear IHC q0 q1 q2 q3
     cases hq:zN x.items[j] r (d+1) with
     | none =>
      rw[hq]at IHH uL;have E:Hid (zN x c d=none):=by rw[Hid,yM,if_neg (by omega),if_neg (by simp[HG.out]),← uL.out]
      clear hq uL;go_wp2_with fail
      refine IHH.out.mono ?_
      rintro e w6 ⟨rfl,y9⟩
      have xU:=y8.trans (y9.mono y8.size)
      simp only[wX]
      go_wp2_with fail
      go_ret
      exact⟨by rw[E.out];rfl,xU⟩
     | some r' =>
     rw[hq]at IHH uL;have dh:=(vx _ _ _ _ hq).2.2;have pB:Hid (zI (x.items.drop (j+1)) r' (d+1)=zI x.items (c-1) (d+1)):=uL.out;clear hq uL;have Xx:(0:Int)≤(r':Int):=by omega
     have pA:r'≤c:=by omega
     go_wp2_with fail
     refine IHH.out.mono ?_
     rintro e w6 ⟨rfl,y9⟩
     have xU:=y8.trans (y9.mono y8.size);have nW:=tF.below y9
     simp only[wX]
     clear yE rR y8 tF y9 IHH p0 p1 p2 p3 dh xD;go_wp2_with fail
     go_roundw
     case rel=>exact⟨j+1,r',by omega,pA,by go_num,rfl,pB.out,xU,nW⟩
     case measure=>simp[intOf];omega
    have u9:j=x.items.length:=by omega
    subst u9;have vy:zI x.items (c-1) (d+1)=some r:=by rw[← qB.out,List.drop_length,zI]
    have sw:=Hh vy;clear vy qB
    have E:Hid (zN x c d=some r):=by
     rw[Hid,yM,if_neg (by omega),if_neg (by simp[HG.out]),sw.out]
     simp only
     rw[if_neg (by rintro⟨h5,_⟩;rw[h5]at b5;cases b5)]
    have c0:=rR.cell 0 rfl;go_wp2_with fail
    refine wp_loop_rounds 1 ?_
    rw[rounds_succ];go_wp2_with fail
    go_ret
    exact⟨by rw[E.out];rfl,yE⟩
  have bpos0:¬ (0:Int)<x.items.length:=by omega
  have wj:=Hh yL;clear yL;go_enter Tryz.func94,Tryz.ntmps94
  go_upto_region 22 with fail
  any_goals
   (have yH:zY x d (c-1)=false:=by
     cases hq:zY x d (c-1) with
     | false=>rfl
     | true=>exact absurd ((zC (by have:=HK.out;omega)).1 hq) (by have zG:=wk.out;have yL:=wj.out;have hk:=HK.out;omega)
    go_ret
    exact⟨by rw[zE yH];rfl,yZ⟩)
  all_goals
   have zQ:zY x d (c-1)=true:=(zC (by have:=HK.out;omega)).2 ⟨by omega,by omega,fun h=>by have:=HK.out;omega,fun _=>wk.out,fun h=>by have:=HK.out;omega,by omega⟩;have yK:x.items.length=0:=by have zG:=wk.out;have yL:=wj.out;have hk:=HK.out;omega
   have hk:=HK.out;have E:Hid (zN x c d=some (c-1)):=yu pT zQ yK;have qJ:¬ (0:Int)<x.items.length:=by omega
   have te:¬ (2:Int)<x.items.length:=by omega
   have HI:=Hh yK;have HC:=Hh zQ;clear yK hk zQ;have c0:=hB.cell 0 rfl;have c3:=hB.cell 3 rfl;go_wp2_with fail
   refine wp_loop_rounds 1 ?_
   rw[rounds_succ];go_wp2_with fail
   refine wp_loop_rounds 1 ?_
   rw[rounds_succ];go_wp2_with fail
   go_ret
   exact⟨by rw[E.out,← qu.out];rfl,yZ⟩
 have bn00:((x.n:Int) != 0)=true:=by simp[zG]
 have bn01:(x.n=0)=False:=by first | exact eq_true zG | exact eq_false zG
 have wk:=Hh zG;clear zG
 by_cases yL:0<x.items.length
 ·have bpos0:(0:Int)<x.items.length:=by omega
  have wj:=Hh yL;clear yL;go_enter Tryz.func94,Tryz.ntmps94
  go_upto_region 22 with fail
  any_goals
   (have yH:zY x d (c-1)=false:=by
     cases hq:zY x d (c-1) with
     | false=>rfl
     | true=>exact absurd ((zC (by have:=HK.out;omega)).1 hq) (by have zG:=wk.out;have yL:=wj.out;have hk:=HK.out;omega)
    go_ret
    exact⟨by rw[zE yH];rfl,yZ⟩)
  all_goals
   have HG:Hid (zY x d (c-1)=true):=(zC (by have:=HK.out;omega)).2 ⟨by omega,by omega,fun h=>by have:=HK.out;omega,fun _=>wk.out,fun h=>by have:=HK.out;omega,by omega⟩;have c0:=hB.cell 0 rfl;have c3:=hB.cell 3 rfl;go_wp2_with fail
   have kK:=hB;have yX:=yZ;go_loopw [1,157] (fun v1 v157 wr=>∃ (j r:Nat),j≤x.items.length∧r≤c∧v157=.int .i64 j∧v1=.int .i64 r∧zI (x.items.drop j) r (d+1)=zI x.items (c-1) (d+1)∧Below w.heap.size w wr∧Blk wr w.heap.size 78 #[.int .i64 x.kind,.int .u64 x.n,.slice ba x.bytes.length bc,.slice ia x.items.length ic]) (fun _ v157 _=>x.items.length-(intOf v157).toNat)
   case atStart=>exact⟨0,c-1,Nat.zero_le _,by omega,rfl,by rw[qu.out],rfl,yX,kK⟩
   case round =>
   obtain⟨j,r,hj,SW,rfl,rfl,mf,yE,rR⟩:=hrel;have qB:=Hh mf;clear mf
   by_cases yy:j<x.items.length
   ·have xD:Holds wr H:=hH.below yE (Nat.le_refl _);obtain⟨ib,io,qI,vI⟩:=HX.out.items (by omega);obtain⟨eba,ebc,eia,eic,q0,q1,q2,q3,qh⟩:=vI.get j yy;subst qI;have p0:=xD.cell q0;have p1:=xD.cell q1;have p2:=xD.cell q2;have p3:=xD.cell q3;have vz:zI (x.items.drop j) r (d+1)=match zN x.items[j] r (d+1) with | none=>none | some r'=>zI (x.items.drop (j+1)) r' (d+1):=by rw[List.drop_eq_getElem_cons yy,zI];cases zN x.items[j] r (d+1) <;> rfl
    have uL:=Hh (vz.symm.trans qB.out);clear vz;have IHC:=ih x.items[j] (wu x j yy) H hT _ _ eba _ ebc eia _ eic (wr.alloc (zH x.items[j] eba ebc eia eic)) r (d+1) qh.arg (xD.alloc _) (by omega) (by omega);rw[show((d+1:Nat):Int)=(d:Int)+1 by omega]at IHC;have IHH:=Hh IHC;have y8:=yE.alloc yE.size (zH x.items[j] eba ebc eia eic);have tF:=rR.alloc (zH x.items[j] eba ebc eia eic);clear IHC q0 q1 q2 q3
    cases hq:zN x.items[j] r (d+1) with
    | none =>
     rw[hq]at IHH uL;have E:Hid (zN x c d=none):=by rw[Hid,yM,if_neg (by omega),if_neg (by simp[HG.out]),← uL.out]
     clear hq uL;go_wp2_with fail
     refine IHH.out.mono ?_
     rintro e w6 ⟨rfl,y9⟩
     have xU:=y8.trans (y9.mono y8.size)
     simp only[wX]
     go_wp2_with fail
     go_ret
     exact⟨by rw[E.out];rfl,xU⟩
    | some r' =>
    rw[hq]at IHH uL;have dh:=(vx _ _ _ _ hq).2.2;have pB:Hid (zI (x.items.drop (j+1)) r' (d+1)=zI x.items (c-1) (d+1)):=uL.out;clear hq uL;have Xx:(0:Int)≤(r':Int):=by omega
    have pA:r'≤c:=by omega
    go_wp2_with fail
    refine IHH.out.mono ?_
    rintro e w6 ⟨rfl,y9⟩
    have xU:=y8.trans (y9.mono y8.size);have nW:=tF.below y9
    simp only[wX]
    clear yE rR y8 tF y9 IHH p0 p1 p2 p3 dh xD;go_wp2_with fail
    go_roundw
    case rel=>exact⟨j+1,r',by omega,pA,by go_num,rfl,pB.out,xU,nW⟩
    case measure=>simp[intOf];omega
   have u9:j=x.items.length:=by omega
   subst u9;have vy:zI x.items (c-1) (d+1)=some r:=by rw[← qB.out,List.drop_length,zI]
   have sw:=Hh vy;clear vy qB
   have E:Hid (zN x c d=some r):=by
    rw[Hid,yM,if_neg (by omega),if_neg (by simp[HG.out]),sw.out]
    simp only
    rw[if_neg (by rintro⟨h5,_⟩;rw[h5]at b5;cases b5)]
   have c0:=rR.cell 0 rfl;go_wp2_with fail
   refine wp_loop_rounds 1 ?_
   rw[rounds_succ];go_wp2_with fail
   go_ret
   exact⟨by rw[E.out];rfl,yE⟩
 have bpos0:¬ (0:Int)<x.items.length:=by omega
 have wj:=Hh yL;clear yL;go_enter Tryz.func94,Tryz.ntmps94
 go_upto_region 22 with fail
 any_goals
  (have yH:zY x d (c-1)=false:=by
    cases hq:zY x d (c-1) with
    | false=>rfl
    | true=>exact absurd ((zC (by have:=HK.out;omega)).1 hq) (by have zG:=wk.out;have yL:=wj.out;have hk:=HK.out;omega)
   go_ret
   exact⟨by rw[zE yH];rfl,yZ⟩)
 all_goals
  have zQ:zY x d (c-1)=true:=(zC (by have:=HK.out;omega)).2 ⟨by omega,by omega,fun h=>by have:=HK.out;omega,fun _=>wk.out,fun h=>by have:=HK.out;omega,by omega⟩;have yK:x.items.length=0:=by have zG:=wk.out;have yL:=wj.out;have hk:=HK.out;omega
  have hk:=HK.out;have E:Hid (zN x c d=some (c-1)):=yu pT zQ yK;have qJ:¬ (0:Int)<x.items.length:=by omega
  have te:¬ (2:Int)<x.items.length:=by omega
  have HI:=Hh yK;have HC:=Hh zQ;clear yK hk zQ;have c0:=hB.cell 0 rfl;have c3:=hB.cell 3 rfl;go_wp2_with fail
  refine wp_loop_rounds 1 ?_
  rw[rounds_succ];go_wp2_with fail
  refine wp_loop_rounds 1 ?_
  rw[rounds_succ];go_wp2_with fail
  go_ret
  exact⟨by rw[E.out,← qu.out];rfl,yZ⟩
theorem R7 (x:Itm) (hk:x.kind=6) {H:Snap}(hT:Tabs H) (ih:∀ y:Itm,cnt y<cnt x→uY y) {ba:Option Addr}{bc:Nat}{ia:Option Addr}{ic:Nat}(hx:IsItem H ba bc ia ic x) (w:World) (hH:Holds w H) (c d:Nat) (pT:0<c) (hc:c≤65536) (hd:d≤65536) :
  Calls Tryz.prog 94 #[ua x ba bc ia ic,.int .i64 c,.int .i64 d] w fun e w'=>e=.returned (.int .i64 (wX (zN x c d)))∧Below w.heap.size w w':=by
 have HX:=Hh hx;have t6:=hx.bounds;have hB:=Blk.new w 78 #[.int .i64 x.kind,.int .u64 x.n,.slice ba x.bytes.length bc,.slice ia x.items.length ic];have yZ:=zl w (zH x ba bc ia ic);have mZ:((c-1:Nat):Int)=(c:Int)-1:=by omega
 have rM:x.bytes.length≤9223372036854775807:=by omega
 have rC:x.items.length≤9223372036854775807:=by omega
 have HN:=Hh t6.2.2.1;have So:¬ (c:Int)<1:=by omega
 have k0:¬ x.kind<0:=by omega
 have k8:¬ 8<x.kind:=by omega
 have HK:=Hh hk;have qu:=Hh mZ;clear hx t6 mZ;obtain⟨b0,b1,b2,b3,b4,b5,b6,b7,b8⟩:=Tx hk;clear hk
 by_cases zG:x.n=0
 ·have bn00:((x.n:Int) != 0)=false:=by simp[zG]
  have bn01:(x.n=0)=True:=by first | exact eq_true zG | exact eq_false zG
  have wk:=Hh zG;clear zG
  by_cases pd:x.items.length=1
  ·have bone0:((x.items.length:Int) != 1)=false:=by(first | (rw[bne_eq_false_iff_eq];omega) | (rw[bne_iff_ne];omega))
   have qb:=Hh pd;clear pd
   by_cases yL:0<x.items.length
   ·have bpos0:(0:Int)<x.items.length:=by omega
    have wj:=Hh yL;clear yL;go_enter Tryz.func94,Tryz.ntmps94
    go_upto_region 22 with fail
    any_goals
     (have yH:zY x d (c-1)=false:=by
       cases hq:zY x d (c-1) with
       | false=>rfl
       | true=>exact absurd ((zC (by have:=HK.out;omega)).1 hq) (by have zG:=wk.out;have pd:=qb.out;have yL:=wj.out;have hk:=HK.out;omega)
      go_ret
      exact⟨by rw[zE yH];rfl,yZ⟩)
    all_goals
     have HG:Hid (zY x d (c-1)=true):=(zC (by have:=HK.out;omega)).2 ⟨by omega,by omega,fun h=>qb.out,fun h=>by have:=HK.out;omega,fun h=>by have:=HK.out;omega,by omega⟩;have c0:=hB.cell 0 rfl;have c3:=hB.cell 3 rfl;go_wp2_with fail
     have kK:=hB;have yX:=yZ;go_loopw [1,157] (fun v1 v157 wr=>∃ (j r:Nat),j≤x.items.length∧r≤c∧v157=.int .i64 j∧v1=.int .i64 r∧zI (x.items.drop j) r (d+1)=zI x.items (c-1) (d+1)∧Below w.heap.size w wr∧Blk wr w.heap.size 78 #[.int .i64 x.kind,.int .u64 x.n,.slice ba x.bytes.length bc,.slice ia x.items.length ic]) (fun _ v157 _=>x.items.length-(intOf v157).toNat)
     case atStart=>exact⟨0,c-1,Nat.zero_le _,by omega,rfl,by rw[qu.out],rfl,yX,kK⟩
     case round =>
     obtain⟨j,r,hj,SW,rfl,rfl,mf,yE,rR⟩:=hrel;have qB:=Hh mf;clear mf
     by_cases yy:j<x.items.length
     ·have xD:Holds wr H:=hH.below yE (Nat.le_refl _);obtain⟨ib,io,qI,vI⟩:=HX.out.items (by omega);obtain⟨eba,ebc,eia,eic,q0,q1,q2,q3,qh⟩:=vI.get j yy;subst qI;have p0:=xD.cell q0;have p1:=xD.cell q1;have p2:=xD.cell q2;have p3:=xD.cell q3;have vz:zI (x.items.drop j) r (d+1)=match zN x.items[j] r (d+1) with | none=>none | some r'=>zI (x.items.drop (j+1)) r' (d+1):=by rw[List.drop_eq_getElem_cons yy,zI];cases zN x.items[j] r (d+1) <;> rfl
      have uL:=Hh (vz.symm.trans qB.out);clear vz;have IHC:=ih x.items[j] (wu x j yy) H hT _ _ eba _ ebc eia _ eic (wr.alloc (zH x.items[j] eba ebc eia eic)) r (d+1) qh.arg (xD.alloc _) (by omega) (by omega);rw[show((d+1:Nat):Int)=(d:Int)+1 by omega]at IHC;have IHH:=Hh IHC;have y8:=yE.alloc yE.size (zH x.items[j] eba ebc eia eic);have tF:=rR.alloc (zH x.items[j] eba ebc eia eic);clear IHC q0 q1 q2 q3
      cases hq:zN x.items[j] r (d+1) with
      | none =>
       rw[hq]at IHH uL;have E:Hid (zN x c d=none):=by rw[Hid,yM,if_neg (by omega),if_neg (by simp[HG.out]),← uL.out]
       clear hq uL;go_wp2_with fail
       refine IHH.out.mono ?_
       rintro e w6 ⟨rfl,y9⟩
       have xU:=y8.trans (y9.mono y8.size)
       simp only[wX]
       go_wp2_with fail
       go_ret
       exact⟨by rw[E.out];rfl,xU⟩
      | some r' =>
      rw[hq]at IHH uL;have dh:=(vx _ _ _ _ hq).2.2;have pB:Hid (zI (x.items.drop (j+1)) r' (d+1)=zI x.items (c-1) (d+1)):=uL.out;clear hq uL;have Xx:(0:Int)≤(r':Int):=by omega
      have pA:r'≤c:=by omega
      go_wp2_with fail
      refine IHH.out.mono ?_
      rintro e w6 ⟨rfl,y9⟩
      have xU:=y8.trans (y9.mono y8.size);have nW:=tF.below y9
      simp only[wX]
      clear yE rR y8 tF y9 IHH p0 p1 p2 p3 dh xD;go_wp2_with fail
      go_roundw
      case rel=>exact⟨j+1,r',by omega,pA,by go_num,rfl,pB.out,xU,nW⟩
      case measure=>simp[intOf];omega
     have u9:j=x.items.length:=by omega
     subst u9;have vy:zI x.items (c-1) (d+1)=some r:=by rw[← qB.out,List.drop_length,zI]
     have sw:=Hh vy;clear vy qB
     have E:Hid (zN x c d=some r):=by
      rw[Hid,yM,if_neg (by omega),if_neg (by simp[HG.out]),sw.out]
      simp only
      rw[if_neg (by rintro⟨h5,_⟩;rw[h5]at b5;cases b5)]
     have c0:=rR.cell 0 rfl;go_wp2_with fail
     refine wp_loop_rounds 1 ?_
     rw[rounds_succ];go_wp2_with fail
     go_ret
     exact⟨by rw[E.out];rfl,yE⟩
   have bpos0:¬ (0:Int)<x.items.length:=by omega
   have wj:=Hh yL;clear yL;go_enter Tryz.func94,Tryz.ntmps94
   go_upto_region 22 with fail
   any_goals
    (have yH:zY x d (c-1)=false:=by
      cases hq:zY x d (c-1) with
      | false=>rfl
      | true=>exact absurd ((zC (by have:=HK.out;omega)).1 hq) (by have zG:=wk.out;have pd:=qb.out;have yL:=wj.out;have hk:=HK.out;omega)
     go_ret
     exact⟨by rw[zE yH];rfl,yZ⟩)
   all_goals
    have zQ:zY x d (c-1)=true:=(zC (by have:=HK.out;omega)).2 ⟨by omega,by omega,fun h=>qb.out,fun h=>by have:=HK.out;omega,fun h=>by have:=HK.out;omega,by omega⟩;have yK:x.items.length=0:=by have zG:=wk.out;have pd:=qb.out;have yL:=wj.out;have hk:=HK.out;omega
    have hk:=HK.out;have E:Hid (zN x c d=some (c-1)):=yu pT zQ yK;have qJ:¬ (0:Int)<x.items.length:=by omega
    have te:¬ (2:Int)<x.items.length:=by omega
    have HI:=Hh yK;have HC:=Hh zQ;clear yK hk zQ;have c0:=hB.cell 0 rfl;have c3:=hB.cell 3 rfl;go_wp2_with fail
    refine wp_loop_rounds 1 ?_
    rw[rounds_succ];go_wp2_with fail
    refine wp_loop_rounds 1 ?_
    rw[rounds_succ];go_wp2_with fail
    go_ret
    exact⟨by rw[E.out,← qu.out];rfl,yZ⟩
  have bone0:((x.items.length:Int) != 1)=true:=by(first | (rw[bne_eq_false_iff_eq];omega) | (rw[bne_iff_ne];omega))
  have qb:=Hh pd;clear pd
  by_cases yL:0<x.items.length
  ·have bpos0:(0:Int)<x.items.length:=by omega
   have wj:=Hh yL;clear yL;go_enter Tryz.func94,Tryz.ntmps94
   go_upto_region 22 with fail
   any_goals
    (have yH:zY x d (c-1)=false:=by
      cases hq:zY x d (c-1) with
      | false=>rfl
      | true=>exact absurd ((zC (by have:=HK.out;omega)).1 hq) (by have zG:=wk.out;have pd:=qb.out;have yL:=wj.out;have hk:=HK.out;omega)
     go_ret
     exact⟨by rw[zE yH];rfl,yZ⟩)
   all_goals
    have HG:Hid (zY x d (c-1)=true):=(zC (by have:=HK.out;omega)).2 ⟨by omega,by omega,fun h=>qb.out,fun h=>by have:=HK.out;omega,fun h=>by have:=HK.out;omega,by omega⟩;have c0:=hB.cell 0 rfl;have c3:=hB.cell 3 rfl;go_wp2_with fail
    have kK:=hB;have yX:=yZ;go_loopw [1,157] (fun v1 v157 wr=>∃ (j r:Nat),j≤x.items.length∧r≤c∧v157=.int .i64 j∧v1=.int .i64 r∧zI (x.items.drop j) r (d+1)=zI x.items (c-1) (d+1)∧Below w.heap.size w wr∧Blk wr w.heap.size 78 #[.int .i64 x.kind,.int .u64 x.n,.slice ba x.bytes.length bc,.slice ia x.items.length ic]) (fun _ v157 _=>x.items.length-(intOf v157).toNat)
    case atStart=>exact⟨0,c-1,Nat.zero_le _,by omega,rfl,by rw[qu.out],rfl,yX,kK⟩
    case round =>
    obtain⟨j,r,hj,SW,rfl,rfl,mf,yE,rR⟩:=hrel;have qB:=Hh mf;clear mf
    by_cases yy:j<x.items.length
    ·have xD:Holds wr H:=hH.below yE (Nat.le_refl _);obtain⟨ib,io,qI,vI⟩:=HX.out.items (by omega);obtain⟨eba,ebc,eia,eic,q0,q1,q2,q3,qh⟩:=vI.get j yy;subst qI;have p0:=xD.cell q0;have p1:=xD.cell q1;have p2:=xD.cell q2;have p3:=xD.cell q3;have vz:zI (x.items.drop j) r (d+1)=match zN x.items[j] r (d+1) with | none=>none | some r'=>zI (x.items.drop (j+1)) r' (d+1):=by rw[List.drop_eq_getElem_cons yy,zI];cases zN x.items[j] r (d+1) <;> rfl
     have uL:=Hh (vz.symm.trans qB.out);clear vz;have IHC:=ih x.items[j] (wu x j yy) H hT _ _ eba _ ebc eia _ eic (wr.alloc (zH x.items[j] eba ebc eia eic)) r (d+1) qh.arg (xD.alloc _) (by omega) (by omega);rw[show((d+1:Nat):Int)=(d:Int)+1 by omega]at IHC;have IHH:=Hh IHC;have y8:=yE.alloc yE.size (zH x.items[j] eba ebc eia eic);have tF:=rR.alloc (zH x.items[j] eba ebc eia eic);clear IHC q0 q1 q2 q3
     cases hq:zN x.items[j] r (d+1) with
     | none =>
      rw[hq]at IHH uL;have E:Hid (zN x c d=none):=by rw[Hid,yM,if_neg (by omega),if_neg (by simp[HG.out]),← uL.out]
      clear hq uL;go_wp2_with fail
      refine IHH.out.mono ?_
      rintro e w6 ⟨rfl,y9⟩
      have xU:=y8.trans (y9.mono y8.size)
      simp only[wX]
      go_wp2_with fail
      go_ret
      exact⟨by rw[E.out];rfl,xU⟩
     | some r' =>
     rw[hq]at IHH uL;have dh:=(vx _ _ _ _ hq).2.2;have pB:Hid (zI (x.items.drop (j+1)) r' (d+1)=zI x.items (c-1) (d+1)):=uL.out;clear hq uL;have Xx:(0:Int)≤(r':Int):=by omega
     have pA:r'≤c:=by omega
     go_wp2_with fail
     refine IHH.out.mono ?_
     rintro e w6 ⟨rfl,y9⟩
     have xU:=y8.trans (y9.mono y8.size);have nW:=tF.below y9
     simp only[wX]
     clear yE rR y8 tF y9 IHH p0 p1 p2 p3 dh xD;go_wp2_with fail
     go_roundw
     case rel=>exact⟨j+1,r',by omega,pA,by go_num,rfl,pB.out,xU,nW⟩
     case measure=>simp[intOf];omega
    have u9:j=x.items.length:=by omega
    subst u9;have vy:zI x.items (c-1) (d+1)=some r:=by rw[← qB.out,List.drop_length,zI]
    have sw:=Hh vy;clear vy qB
    have E:Hid (zN x c d=some r):=by
     rw[Hid,yM,if_neg (by omega),if_neg (by simp[HG.out]),sw.out]
     simp only
     rw[if_neg (by rintro⟨h5,_⟩;rw[h5]at b5;cases b5)]
    have c0:=rR.cell 0 rfl;go_wp2_with fail
    refine wp_loop_rounds 1 ?_
    rw[rounds_succ];go_wp2_with fail
    go_ret
    exact⟨by rw[E.out];rfl,yE⟩
  have bpos0:¬ (0:Int)<x.items.length:=by omega
  have wj:=Hh yL;clear yL;go_enter Tryz.func94,Tryz.ntmps94
  go_upto_region 22 with fail
  any_goals
   (have yH:zY x d (c-1)=false:=by
     cases hq:zY x d (c-1) with
     | false=>rfl
     | true=>exact absurd ((zC (by have:=HK.out;omega)).1 hq) (by have zG:=wk.out;have pd:=qb.out;have yL:=wj.out;have hk:=HK.out;omega)
    go_ret
    exact⟨by rw[zE yH];rfl,yZ⟩)
  all_goals
   have zQ:zY x d (c-1)=true:=(zC (by have:=HK.out;omega)).2 ⟨by omega,by omega,fun h=>qb.out,fun h=>by have:=HK.out;omega,fun h=>by have:=HK.out;omega,by omega⟩;have yK:x.items.length=0:=by have zG:=wk.out;have pd:=qb.out;have yL:=wj.out;have hk:=HK.out;omega
   have hk:=HK.out;have E:Hid (zN x c d=some (c-1)):=yu pT zQ yK;have qJ:¬ (0:Int)<x.items.length:=by omega
   have te:¬ (2:Int)<x.items.length:=by omega
   have HI:=Hh yK;have HC:=Hh zQ;clear yK hk zQ;have c0:=hB.cell 0 rfl;have c3:=hB.cell 3 rfl;go_wp2_with fail
   refine wp_loop_rounds 1 ?_
   rw[rounds_succ];go_wp2_with fail
   refine wp_loop_rounds 1 ?_
   rw[rounds_succ];go_wp2_with fail
   go_ret
   exact⟨by rw[E.out,← qu.out];rfl,yZ⟩
 have bn00:((x.n:Int) != 0)=true:=by simp[zG]
 have bn01:(x.n=0)=False:=by first | exact eq_true zG | exact eq_false zG
 have wk:=Hh zG;clear zG
 by_cases pd:x.items.length=1
 ·have bone0:((x.items.length:Int) != 1)=false:=by(first | (rw[bne_eq_false_iff_eq];omega) | (rw[bne_iff_ne];omega))
  have qb:=Hh pd;clear pd
  by_cases yL:0<x.items.length
  ·have bpos0:(0:Int)<x.items.length:=by omega
   have wj:=Hh yL;clear yL;go_enter Tryz.func94,Tryz.ntmps94
   go_upto_region 22 with fail
   any_goals
    (have yH:zY x d (c-1)=false:=by
      cases hq:zY x d (c-1) with
      | false=>rfl
      | true=>exact absurd ((zC (by have:=HK.out;omega)).1 hq) (by have zG:=wk.out;have pd:=qb.out;have yL:=wj.out;have hk:=HK.out;omega)
     go_ret
     exact⟨by rw[zE yH];rfl,yZ⟩)
   all_goals
    have HG:Hid (zY x d (c-1)=true):=(zC (by have:=HK.out;omega)).2 ⟨by omega,by omega,fun h=>qb.out,fun h=>by have:=HK.out;omega,fun h=>by have:=HK.out;omega,by omega⟩;have c0:=hB.cell 0 rfl;have c3:=hB.cell 3 rfl;go_wp2_with fail
    have kK:=hB;have yX:=yZ;go_loopw [1,157] (fun v1 v157 wr=>∃ (j r:Nat),j≤x.items.length∧r≤c∧v157=.int .i64 j∧v1=.int .i64 r∧zI (x.items.drop j) r (d+1)=zI x.items (c-1) (d+1)∧Below w.heap.size w wr∧Blk wr w.heap.size 78 #[.int .i64 x.kind,.int .u64 x.n,.slice ba x.bytes.length bc,.slice ia x.items.length ic]) (fun _ v157 _=>x.items.length-(intOf v157).toNat)
    case atStart=>exact⟨0,c-1,Nat.zero_le _,by omega,rfl,by rw[qu.out],rfl,yX,kK⟩
    case round =>
    obtain⟨j,r,hj,SW,rfl,rfl,mf,yE,rR⟩:=hrel;have qB:=Hh mf;clear mf
    by_cases yy:j<x.items.length
    ·have xD:Holds wr H:=hH.below yE (Nat.le_refl _);obtain⟨ib,io,qI,vI⟩:=HX.out.items (by omega);obtain⟨eba,ebc,eia,eic,q0,q1,q2,q3,qh⟩:=vI.get j yy;subst qI;have p0:=xD.cell q0;have p1:=xD.cell q1;have p2:=xD.cell q2;have p3:=xD.cell q3;have vz:zI (x.items.drop j) r (d+1)=match zN x.items[j] r (d+1) with | none=>none | some r'=>zI (x.items.drop (j+1)) r' (d+1):=by rw[List.drop_eq_getElem_cons yy,zI];cases zN x.items[j] r (d+1) <;> rfl
     have uL:=Hh (vz.symm.trans qB.out);clear vz;have IHC:=ih x.items[j] (wu x j yy) H hT _ _ eba _ ebc eia _ eic (wr.alloc (zH x.items[j] eba ebc eia eic)) r (d+1) qh.arg (xD.alloc _) (by omega) (by omega);rw[show((d+1:Nat):Int)=(d:Int)+1 by omega]at IHC;have IHH:=Hh IHC;have y8:=yE.alloc yE.size (zH x.items[j] eba ebc eia eic);have tF:=rR.alloc (zH x.items[j] eba ebc eia eic);clear IHC q0 q1 q2 q3
     cases hq:zN x.items[j] r (d+1) with
     | none =>
      rw[hq]at IHH uL;have E:Hid (zN x c d=none):=by rw[Hid,yM,if_neg (by omega),if_neg (by simp[HG.out]),← uL.out]
      clear hq uL;go_wp2_with fail
      refine IHH.out.mono ?_
      rintro e w6 ⟨rfl,y9⟩
      have xU:=y8.trans (y9.mono y8.size)
      simp only[wX]
      go_wp2_with fail
      go_ret
      exact⟨by rw[E.out];rfl,xU⟩
     | some r' =>
     rw[hq]at IHH uL;have dh:=(vx _ _ _ _ hq).2.2;have pB:Hid (zI (x.items.drop (j+1)) r' (d+1)=zI x.items (c-1) (d+1)):=uL.out;clear hq uL;have Xx:(0:Int)≤(r':Int):=by omega
     have pA:r'≤c:=by omega
     go_wp2_with fail
     refine IHH.out.mono ?_
     rintro e w6 ⟨rfl,y9⟩
     have xU:=y8.trans (y9.mono y8.size);have nW:=tF.below y9
     simp only[wX]
     clear yE rR y8 tF y9 IHH p0 p1 p2 p3 dh xD;go_wp2_with fail
     go_roundw
     case rel=>exact⟨j+1,r',by omega,pA,by go_num,rfl,pB.out,xU,nW⟩
     case measure=>simp[intOf];omega
    have u9:j=x.items.length:=by omega
    subst u9;have vy:zI x.items (c-1) (d+1)=some r:=by rw[← qB.out,List.drop_length,zI]
    have sw:=Hh vy;clear vy qB
    have E:Hid (zN x c d=some r):=by
     rw[Hid,yM,if_neg (by omega),if_neg (by simp[HG.out]),sw.out]
     simp only
     rw[if_neg (by rintro⟨h5,_⟩;rw[h5]at b5;cases b5)]
    have c0:=rR.cell 0 rfl;go_wp2_with fail
    refine wp_loop_rounds 1 ?_
    rw[rounds_succ];go_wp2_with fail
    go_ret
    exact⟨by rw[E.out];rfl,yE⟩
  have bpos0:¬ (0:Int)<x.items.length:=by omega
  have wj:=Hh yL;clear yL;go_enter Tryz.func94,Tryz.ntmps94
  go_upto_region 22 with fail
  any_goals
   (have yH:zY x d (c-1)=false:=by
     cases hq:zY x d (c-1) with
     | false=>rfl
     | true=>exact absurd ((zC (by have:=HK.out;omega)).1 hq) (by have zG:=wk.out;have pd:=qb.out;have yL:=wj.out;have hk:=HK.out;omega)
    go_ret
    exact⟨by rw[zE yH];rfl,yZ⟩)
  all_goals
   have zQ:zY x d (c-1)=true:=(zC (by have:=HK.out;omega)).2 ⟨by omega,by omega,fun h=>qb.out,fun h=>by have:=HK.out;omega,fun h=>by have:=HK.out;omega,by omega⟩;have yK:x.items.length=0:=by have zG:=wk.out;have pd:=qb.out;have yL:=wj.out;have hk:=HK.out;omega
   have hk:=HK.out;have E:Hid (zN x c d=some (c-1)):=yu pT zQ yK;have qJ:¬ (0:Int)<x.items.length:=by omega
   have te:¬ (2:Int)<x.items.length:=by omega
   have HI:=Hh yK;have HC:=Hh zQ;clear yK hk zQ;have c0:=hB.cell 0 rfl;have c3:=hB.cell 3 rfl;go_wp2_with fail
   refine wp_loop_rounds 1 ?_
   rw[rounds_succ];go_wp2_with fail
   refine wp_loop_rounds 1 ?_
   rw[rounds_succ];go_wp2_with fail
   go_ret
   exact⟨by rw[E.out,← qu.out];rfl,yZ⟩
 have bone0:((x.items.length:Int) != 1)=true:=by(first | (rw[bne_eq_false_iff_eq];omega) | (rw[bne_iff_ne];omega))
 have qb:=Hh pd;clear pd
 by_cases yL:0<x.items.length
 ·have bpos0:(0:Int)<x.items.length:=by omega
  have wj:=Hh yL;clear yL;go_enter Tryz.func94,Tryz.ntmps94
  go_upto_region 22 with fail
  any_goals
   (have yH:zY x d (c-1)=false:=by
     cases hq:zY x d (c-1) with
     | false=>rfl
     | true=>exact absurd ((zC (by have:=HK.out;omega)).1 hq) (by have zG:=wk.out;have pd:=qb.out;have yL:=wj.out;have hk:=HK.out;omega)
    go_ret
    exact⟨by rw[zE yH];rfl,yZ⟩)
  all_goals
   have HG:Hid (zY x d (c-1)=true):=(zC (by have:=HK.out;omega)).2 ⟨by omega,by omega,fun h=>qb.out,fun h=>by have:=HK.out;omega,fun h=>by have:=HK.out;omega,by omega⟩;have c0:=hB.cell 0 rfl;have c3:=hB.cell 3 rfl;go_wp2_with fail
   have kK:=hB;have yX:=yZ;go_loopw [1,157] (fun v1 v157 wr=>∃ (j r:Nat),j≤x.items.length∧r≤c∧v157=.int .i64 j∧v1=.int .i64 r∧zI (x.items.drop j) r (d+1)=zI x.items (c-1) (d+1)∧Below w.heap.size w wr∧Blk wr w.heap.size 78 #[.int .i64 x.kind,.int .u64 x.n,.slice ba x.bytes.length bc,.slice ia x.items.length ic]) (fun _ v157 _=>x.items.length-(intOf v157).toNat)
   case atStart=>exact⟨0,c-1,Nat.zero_le _,by omega,rfl,by rw[qu.out],rfl,yX,kK⟩
   case round =>
   obtain⟨j,r,hj,SW,rfl,rfl,mf,yE,rR⟩:=hrel;have qB:=Hh mf;clear mf
   by_cases yy:j<x.items.length
   ·have xD:Holds wr H:=hH.below yE (Nat.le_refl _);obtain⟨ib,io,qI,vI⟩:=HX.out.items (by omega);obtain⟨eba,ebc,eia,eic,q0,q1,q2,q3,qh⟩:=vI.get j yy;subst qI;have p0:=xD.cell q0;have p1:=xD.cell q1;have p2:=xD.cell q2;have p3:=xD.cell q3;have vz:zI (x.items.drop j) r (d+1)=match zN x.items[j] r (d+1) with | none=>none | some r'=>zI (x.items.drop (j+1)) r' (d+1):=by rw[List.drop_eq_getElem_cons yy,zI];cases zN x.items[j] r (d+1) <;> rfl
    have uL:=Hh (vz.symm.trans qB.out);clear vz;have IHC:=ih x.items[j] (wu x j yy) H hT _ _ eba _ ebc eia _ eic (wr.alloc (zH x.items[j] eba ebc eia eic)) r (d+1) qh.arg (xD.alloc _) (by omega) (by omega);rw[show((d+1:Nat):Int)=(d:Int)+1 by omega]at IHC;have IHH:=Hh IHC;have y8:=yE.alloc yE.size (zH x.items[j] eba ebc eia eic);have tF:=rR.alloc (zH x.items[j] eba ebc eia eic);clear IHC q0 q1 q2 q3
    cases hq:zN x.items[j] r (d+1) with
    | none =>
     rw[hq]at IHH uL;have E:Hid (zN x c d=none):=by rw[Hid,yM,if_neg (by omega),if_neg (by simp[HG.out]),← uL.out]
     clear hq uL;go_wp2_with fail
     refine IHH.out.mono ?_
     rintro e w6 ⟨rfl,y9⟩
     have xU:=y8.trans (y9.mono y8.size)
     simp only[wX]
     go_wp2_with fail
     go_ret
     exact⟨by rw[E.out];rfl,xU⟩
    | some r' =>
    rw[hq]at IHH uL;have dh:=(vx _ _ _ _ hq).2.2;have pB:Hid (zI (x.items.drop (j+1)) r' (d+1)=zI x.items (c-1) (d+1)):=uL.out;clear hq uL;have Xx:(0:Int)≤(r':Int):=by omega
    have pA:r'≤c:=by omega
    go_wp2_with fail
    refine IHH.out.mono ?_
    rintro e w6 ⟨rfl,y9⟩
    have xU:=y8.trans (y9.mono y8.size);have nW:=tF.below y9
    simp only[wX]
    clear yE rR y8 tF y9 IHH p0 p1 p2 p3 dh xD;go_wp2_with fail
    go_roundw
    case rel=>exact⟨j+1,r',by omega,pA,by go_num,rfl,pB.out,xU,nW⟩
    case measure=>simp[intOf];omega
   have u9:j=x.items.length:=by omega
   subst u9;have vy:zI x.items (c-1) (d+1)=some r:=by rw[← qB.out,List.drop_length,zI]
   have sw:=Hh vy;clear vy qB
   have E:Hid (zN x c d=some r):=by
    rw[Hid,yM,if_neg (by omega),if_neg (by simp[HG.out]),sw.out]
    simp only
    rw[if_neg (by rintro⟨h5,_⟩;rw[h5]at b5;cases b5)]
   have c0:=rR.cell 0 rfl;go_wp2_with fail
   refine wp_loop_rounds 1 ?_
   rw[rounds_succ];go_wp2_with fail
   go_ret
   exact⟨by rw[E.out];rfl,yE⟩
 have bpos0:¬ (0:Int)<x.items.length:=by omega
 have wj:=Hh yL;clear yL;go_enter Tryz.func94,Tryz.ntmps94
 go_upto_region 22 with fail
 any_goals
  (have yH:zY x d (c-1)=false:=by
    cases hq:zY x d (c-1) with
    | false=>rfl
    | true=>exact absurd ((zC (by have:=HK.out;omega)).1 hq) (by have zG:=wk.out;have pd:=qb.out;have yL:=wj.out;have hk:=HK.out;omega)
   go_ret
   exact⟨by rw[zE yH];rfl,yZ⟩)
 all_goals
  have zQ:zY x d (c-1)=true:=(zC (by have:=HK.out;omega)).2 ⟨by omega,by omega,fun h=>qb.out,fun h=>by have:=HK.out;omega,fun h=>by have:=HK.out;omega,by omega⟩;have yK:x.items.length=0:=by have zG:=wk.out;have pd:=qb.out;have yL:=wj.out;have hk:=HK.out;omega
  have hk:=HK.out;have E:Hid (zN x c d=some (c-1)):=yu pT zQ yK;have qJ:¬ (0:Int)<x.items.length:=by omega
  have te:¬ (2:Int)<x.items.length:=by omega
  have HI:=Hh yK;have HC:=Hh zQ;clear yK hk zQ;have c0:=hB.cell 0 rfl;have c3:=hB.cell 3 rfl;go_wp2_with fail
  refine wp_loop_rounds 1 ?_
  rw[rounds_succ];go_wp2_with fail
  refine wp_loop_rounds 1 ?_
  rw[rounds_succ];go_wp2_with fail
  go_ret
  exact⟨by rw[E.out,← qu.out];rfl,yZ⟩
end Go.Proofs.YtjpcnhncoidliaaGreatDoor
