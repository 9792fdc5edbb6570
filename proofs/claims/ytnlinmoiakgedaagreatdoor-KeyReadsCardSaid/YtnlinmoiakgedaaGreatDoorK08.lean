/- squeezed. Walks: the references' left: array -/
import Derived.Test.YtnlinmoiakgedaaGreatDoorK07
set_option linter.unusedVariables false
set_option linter.unusedSimpArgs false
set_option maxRecDepth 100000
set_option maxHeartbeats 6400000
namespace Go.Proofs.YtnlinmoiakgedaaGreatDoor
open Go.RowKit
theorem Vv (x:Itm) (hk:x.kind=4) {H:Snap}(hT:Tabs H) (ih:∀ y:Itm,cnt y<cnt x→uv y) {ba:Option Addr}{bc:Nat}{ia:Option Addr}{ic:Nat}(hx:IsItem H ba bc ia ic x) (w:World) (hH:Holds w H) (c d:Nat) (sO:0<c) (hc:c≤65536) (hd:d≤65536) :
  Calls Tryz.prog 51 #[xN x ba bc ia ic,.int .i64 c,.int .i64 d] w fun e w'=>e=.returned (.int .i64 (wM (zN x c d)))∧Below w.heap.size w w':=by
 have HX:=Hh hx;have tv:=hx.bounds;have hB:=Blk.new w 26 #[.int .i64 x.kind,.int .u64 x.n,.slice ba x.bytes.length bc,.slice ia x.items.length ic];have xj:=zi w (zW x ba bc ia ic);have p8:((c-1:Nat):Int)=(c:Int)-1:=by omega
 have sN:x.bytes.length≤9223372036854775807:=by omega
 have eV:x.items.length≤9223372036854775807:=by omega
 have HN:=Hh tv.2.2.1;have XU:¬ (c:Int)<1:=by omega
 have k0:¬ x.kind<0:=by omega
 have k8:¬ 8<x.kind:=by omega
 have HK:=Hh hk;have sU:=Hh p8;clear hx tv p8;obtain⟨b0,b1,b2,b3,b4,b5,b6,b7,b8⟩:=Ya hk;clear hk
 by_cases zQ:x.n=0
 ·have bn00:((x.n:Int) != 0)=false:=by simp[zQ]
  have bn01:(x.n=0)=True:=by first | exact eq_true zQ | exact eq_false zQ
  have wY:=Hh zQ;clear zQ
  by_cases yI:0<x.items.length
  ·have bpos0:(0:Int)<x.items.length:=by omega
   have wF:=Hh yI;clear yI;go_enter Tryz.func51,Tryz.ntmps51
   go_upto_region 22 with fail
   any_goals
    (have xw:zZ x d (c-1)=false:=by
      cases hq:zZ x d (c-1) with
      | false=>rfl
      | true=>exact absurd ((zH (by have:=HK.out;omega)).1 hq) (by have zQ:=wY.out;have yI:=wF.out;have hk:=HK.out;omega)
     go_ret
     exact⟨by rw[zI xw];rfl,xj⟩)
   all_goals
    have HG:Hid (zZ x d (c-1)=true):=(zH (by have:=HK.out;omega)).2 ⟨by omega,by omega,fun h=>by have:=HK.out;omega,fun _=>wY.out,fun h=>by have:=HK.out;omega,by omega⟩;have c0:=hB.cell 0 rfl;have c3:=hB.cell 3 rfl;go_wp2_with fail
    have ob:=hB;have yR:=xj;go_loopw [1,157] (fun v1 v157 wr=>∃ (j r:Nat),j≤x.items.length∧r≤c∧v157=.int .i64 j∧v1=.int .i64 r∧zL (x.items.drop j) r (d+1)=zL x.items (c-1) (d+1)∧Below w.heap.size w wr∧Blk wr w.heap.size 26 #[.int .i64 x.kind,.int .u64 x.n,.slice ba x.bytes.length bc,.slice ia x.items.length ic]) (fun _ v157 _=>x.items.length-(intOf v157).toNat)
    case atStart=>exact⟨0,c-1,Nat.zero_le _,by omega,rfl,by rw[sU.out],rfl,yR,ob⟩
    case round =>
     obtain⟨j,r,hj,bG,rfl,rfl,qS,xS,tD⟩:=hrel;have tC:=Hh qS;clear qS
     by_cases yi:j<x.items.length
     ·have xT:Holds wr H:=hH.below xS (Nat.le_refl _);obtain⟨ib,io,tj,wI⟩:=HX.out.items (by omega);obtain⟨eba,ebc,eia,eic,q0,q1,q2,q3,uU⟩:=wI.get j yi;subst tj;have p0:=xT.cell q0;have p1:=xT.cell q1;have p2:=xT.cell q2;have p3:=xT.cell q3;have wW:zL (x.items.drop j) r (d+1)=match zN x.items[j] r (d+1) with | none=>none | some r'=>zL (x.items.drop (j+1)) r' (d+1):=by rw[List.drop_eq_getElem_cons yi,zL];cases zN x.items[j] r (d+1) <;> rfl
      have uu:=Hh (wW.symm.trans tC.out);clear wW;have IHC:=ih x.items[j] (xP x j yi) H hT _ _ eba _ ebc eia _ eic (wr.alloc (zW x.items[j] eba ebc eia eic)) r (d+1) uU.arg (xT.alloc _) (by omega) (by omega);rw[show((d+1:Nat):Int)=(d:Int)+1 by omega]at IHC;have IHH:=Hh IHC;have xe:=xS.alloc xS.size (zW x.items[j] eba ebc eia eic);have uh:=tD.alloc (zW x.items[j] eba ebc eia eic);clear IHC q0 q1 q2 q3
      cases hq:zN x.items[j] r (d+1) with
      | none =>
       rw[hq]at IHH uu;have E:Hid (zN x c d=none):=by rw[Hid,y7,if_neg (by omega),if_neg (by simp[HG.out]),← uu.out]
       clear hq uu;go_wp2_with fail
       refine IHH.out.mono ?_
       rintro e w6 ⟨rfl,wQ⟩
       have wj:=xe.trans (wQ.mono xe.size)
       simp only[wM]
       go_wp2_with fail
       go_ret
       exact⟨by rw[E.out];rfl,wj⟩
      | some r' =>
       rw[hq]at IHH uu;have jm:=(vw _ _ _ _ hq).2.2;have qy:Hid (zL (x.items.drop (j+1)) r' (d+1)=zL x.items (c-1) (d+1)):=uu.out;clear hq uu;have cH:(0:Int)≤(r':Int):=by omega
       have qu:r'≤c:=by omega
       go_wp2_with fail
       refine IHH.out.mono ?_
       rintro e w6 ⟨rfl,wQ⟩
       have wj:=xe.trans (wQ.mono xe.size);have rj:=uh.below wQ
       simp only[wM]
       clear xS tD xe uh wQ IHH p0 p1 p2 p3 jm xT;go_wp2_with fail
       go_roundw
       case rel=>exact⟨j+1,r',by omega,qu,by go_num,rfl,qy.out,wj,rj⟩
       case measure=>simp[intOf];omega
     ·have pB:j=x.items.length:=by omega
      subst pB;have vh:zL x.items (c-1) (d+1)=some r:=by rw[← tC.out,List.drop_length,zL]
      have tU:=Hh vh;clear vh tC
      have E:Hid (zN x c d=some r):=by
       rw[Hid,y7,if_neg (by omega),if_neg (by simp[HG.out]),tU.out]
       simp only
       rw[if_neg (by rintro⟨h5,_⟩;rw[h5]at b5;cases b5)]
      have c0:=tD.cell 0 rfl;go_wp2_with fail
      refine wp_loop_rounds 1 ?_
      rw[rounds_succ];go_wp2_with fail
      go_ret
      exact⟨by rw[E.out];rfl,xS⟩
  ·have bpos0:¬ (0:Int)<x.items.length:=by omega
   have wF:=Hh yI;clear yI;go_enter Tryz.func51,Tryz.ntmps51
   go_upto_region 22 with fail
   any_goals
    (have xw:zZ x d (c-1)=false:=by
      cases hq:zZ x d (c-1) with
      | false=>rfl
      | true=>exact absurd ((zH (by have:=HK.out;omega)).1 hq) (by have zQ:=wY.out;have yI:=wF.out;have hk:=HK.out;omega)
     go_ret
     exact⟨by rw[zI xw];rfl,xj⟩)
   all_goals
    have zS:zZ x d (c-1)=true:=(zH (by have:=HK.out;omega)).2 ⟨by omega,by omega,fun h=>by have:=HK.out;omega,fun _=>wY.out,fun h=>by have:=HK.out;omega,by omega⟩;have xt:x.items.length=0:=by have zQ:=wY.out;have yI:=wF.out;have hk:=HK.out;omega
    have hk:=HK.out;have E:Hid (zN x c d=some (c-1)):=yj sO zS xt;have oc:¬ (0:Int)<x.items.length:=by omega
    have rX:¬ (2:Int)<x.items.length:=by omega
    have HI:=Hh xt;have HC:=Hh zS;clear xt hk zS;have c0:=hB.cell 0 rfl;have c3:=hB.cell 3 rfl;go_wp2_with fail
    refine wp_loop_rounds 1 ?_
    rw[rounds_succ];go_wp2_with fail
    refine wp_loop_rounds 1 ?_
    rw[rounds_succ];go_wp2_with fail
    go_ret
    exact⟨by rw[E.out,← sU.out];rfl,xj⟩
 ·have bn00:((x.n:Int) != 0)=true:=by simp[zQ]
  have bn01:(x.n=0)=False:=by first | exact eq_true zQ | exact eq_false zQ
  have wY:=Hh zQ;clear zQ
  by_cases yI:0<x.items.length
  ·have bpos0:(0:Int)<x.items.length:=by omega
   have wF:=Hh yI;clear yI;go_enter Tryz.func51,Tryz.ntmps51
   go_upto_region 22 with fail
   any_goals
    (have xw:zZ x d (c-1)=false:=by
      cases hq:zZ x d (c-1) with
      | false=>rfl
      | true=>exact absurd ((zH (by have:=HK.out;omega)).1 hq) (by have zQ:=wY.out;have yI:=wF.out;have hk:=HK.out;omega)
     go_ret
     exact⟨by rw[zI xw];rfl,xj⟩)
   all_goals
    have HG:Hid (zZ x d (c-1)=true):=(zH (by have:=HK.out;omega)).2 ⟨by omega,by omega,fun h=>by have:=HK.out;omega,fun _=>wY.out,fun h=>by have:=HK.out;omega,by omega⟩;have c0:=hB.cell 0 rfl;have c3:=hB.cell 3 rfl;go_wp2_with fail
    have ob:=hB;have yR:=xj;go_loopw [1,157] (fun v1 v157 wr=>∃ (j r:Nat),j≤x.items.length∧r≤c∧v157=.int .i64 j∧v1=.int .i64 r∧zL (x.items.drop j) r (d+1)=zL x.items (c-1) (d+1)∧Below w.heap.size w wr∧Blk wr w.heap.size 26 #[.int .i64 x.kind,.int .u64 x.n,.slice ba x.bytes.length bc,.slice ia x.items.length ic]) (fun _ v157 _=>x.items.length-(intOf v157).toNat)
    case atStart=>exact⟨0,c-1,Nat.zero_le _,by omega,rfl,by rw[sU.out],rfl,yR,ob⟩
    case round =>
     obtain⟨j,r,hj,bG,rfl,rfl,qS,xS,tD⟩:=hrel;have tC:=Hh qS;clear qS
     by_cases yi:j<x.items.length
     ·have xT:Holds wr H:=hH.below xS (Nat.le_refl _);obtain⟨ib,io,tj,wI⟩:=HX.out.items (by omega);obtain⟨eba,ebc,eia,eic,q0,q1,q2,q3,uU⟩:=wI.get j yi;subst tj;have p0:=xT.cell q0;have p1:=xT.cell q1;have p2:=xT.cell q2;have p3:=xT.cell q3;have wW:zL (x.items.drop j) r (d+1)=match zN x.items[j] r (d+1) with | none=>none | some r'=>zL (x.items.drop (j+1)) r' (d+1):=by rw[List.drop_eq_getElem_cons yi,zL];cases zN x.items[j] r (d+1) <;> rfl
      have uu:=Hh (wW.symm.trans tC.out);clear wW;have IHC:=ih x.items[j] (xP x j yi) H hT _ _ eba _ ebc eia _ eic (wr.alloc (zW x.items[j] eba ebc eia eic)) r (d+1) uU.arg (xT.alloc _) (by omega) (by omega);rw[show((d+1:Nat):Int)=(d:Int)+1 by omega]at IHC;have IHH:=Hh IHC;have xe:=xS.alloc xS.size (zW x.items[j] eba ebc eia eic);have uh:=tD.alloc (zW x.items[j] eba ebc eia eic);clear IHC q0 q1 q2 q3
      cases hq:zN x.items[j] r (d+1) with
      | none =>
       rw[hq]at IHH uu;have E:Hid (zN x c d=none):=by rw[Hid,y7,if_neg (by omega),if_neg (by simp[HG.out]),← uu.out]
       clear hq uu;go_wp2_with fail
       refine IHH.out.mono ?_
       rintro e w6 ⟨rfl,wQ⟩
       have wj:=xe.trans (wQ.mono xe.size)
       simp only[wM]
       go_wp2_with fail
       go_ret
       exact⟨by rw[E.out];rfl,wj⟩
      | some r' =>
       rw[hq]at IHH uu;have jm:=(vw _ _ _ _ hq).2.2;have qy:Hid (zL (x.items.drop (j+1)) r' (d+1)=zL x.items (c-1) (d+1)):=uu.out;clear hq uu;have cH:(0:Int)≤(r':Int):=by omega
       have qu:r'≤c:=by omega
       go_wp2_with fail
       refine IHH.out.mono ?_
       rintro e w6 ⟨rfl,wQ⟩
       have wj:=xe.trans (wQ.mono xe.size);have rj:=uh.below wQ
       simp only[wM]
       clear xS tD xe uh wQ IHH p0 p1 p2 p3 jm xT;go_wp2_with fail
       go_roundw
       case rel=>exact⟨j+1,r',by omega,qu,by go_num,rfl,qy.out,wj,rj⟩
       case measure=>simp[intOf];omega
     ·have pB:j=x.items.length:=by omega
      subst pB;have vh:zL x.items (c-1) (d+1)=some r:=by rw[← tC.out,List.drop_length,zL]
      have tU:=Hh vh;clear vh tC
      have E:Hid (zN x c d=some r):=by
       rw[Hid,y7,if_neg (by omega),if_neg (by simp[HG.out]),tU.out]
       simp only
       rw[if_neg (by rintro⟨h5,_⟩;rw[h5]at b5;cases b5)]
      have c0:=tD.cell 0 rfl;go_wp2_with fail
      refine wp_loop_rounds 1 ?_
      rw[rounds_succ];go_wp2_with fail
      go_ret
      exact⟨by rw[E.out];rfl,xS⟩
  ·have bpos0:¬ (0:Int)<x.items.length:=by omega
   have wF:=Hh yI;clear yI;go_enter Tryz.func51,Tryz.ntmps51
   go_upto_region 22 with fail
   any_goals
    (have xw:zZ x d (c-1)=false:=by
      cases hq:zZ x d (c-1) with
      | false=>rfl
      | true=>exact absurd ((zH (by have:=HK.out;omega)).1 hq) (by have zQ:=wY.out;have yI:=wF.out;have hk:=HK.out;omega)
     go_ret
     exact⟨by rw[zI xw];rfl,xj⟩)
   all_goals
    have zS:zZ x d (c-1)=true:=(zH (by have:=HK.out;omega)).2 ⟨by omega,by omega,fun h=>by have:=HK.out;omega,fun _=>wY.out,fun h=>by have:=HK.out;omega,by omega⟩;have xt:x.items.length=0:=by have zQ:=wY.out;have yI:=wF.out;have hk:=HK.out;omega
    have hk:=HK.out;have E:Hid (zN x c d=some (c-1)):=yj sO zS xt;have oc:¬ (0:Int)<x.items.length:=by omega
    have rX:¬ (2:Int)<x.items.length:=by omega
    have HI:=Hh xt;have HC:=Hh zS;clear xt hk zS;have c0:=hB.cell 0 rfl;have c3:=hB.cell 3 rfl;go_wp2_with fail
    refine wp_loop_rounds 1 ?_
    rw[rounds_succ];go_wp2_with fail
    refine wp_loop_rounds 1 ?_
    rw[rounds_succ];go_wp2_with fail
    go_ret
    exact⟨by rw[E.out,← sU.out];rfl,xj⟩
theorem Vx (x:Itm) (hk:x.kind=6) {H:Snap}(hT:Tabs H) (ih:∀ y:Itm,cnt y<cnt x→uv y) {ba:Option Addr}{bc:Nat}{ia:Option Addr}{ic:Nat}(hx:IsItem H ba bc ia ic x) (w:World) (hH:Holds w H) (c d:Nat) (sO:0<c) (hc:c≤65536) (hd:d≤65536) :
  Calls Tryz.prog 51 #[xN x ba bc ia ic,.int .i64 c,.int .i64 d] w fun e w'=>e=.returned (.int .i64 (wM (zN x c d)))∧Below w.heap.size w w':=by
 have HX:=Hh hx;have tv:=hx.bounds;have hB:=Blk.new w 26 #[.int .i64 x.kind,.int .u64 x.n,.slice ba x.bytes.length bc,.slice ia x.items.length ic];have xj:=zi w (zW x ba bc ia ic);have p8:((c-1:Nat):Int)=(c:Int)-1:=by omega
 have sN:x.bytes.length≤9223372036854775807:=by omega
 have eV:x.items.length≤9223372036854775807:=by omega
 have HN:=Hh tv.2.2.1;have XU:¬ (c:Int)<1:=by omega
 have k0:¬ x.kind<0:=by omega
 have k8:¬ 8<x.kind:=by omega
 have HK:=Hh hk;have sU:=Hh p8;clear hx tv p8;obtain⟨b0,b1,b2,b3,b4,b5,b6,b7,b8⟩:=Yc hk;clear hk
 by_cases zQ:x.n=0
 ·have bn00:((x.n:Int) != 0)=false:=by simp[zQ]
  have bn01:(x.n=0)=True:=by first | exact eq_true zQ | exact eq_false zQ
  have wY:=Hh zQ;clear zQ
  by_cases tX:x.items.length=1
  ·have bone0:((x.items.length:Int) != 1)=false:=by(first | (rw[bne_eq_false_iff_eq];omega) | (rw[bne_iff_ne];omega))
   have sI:=Hh tX;clear tX
   by_cases yI:0<x.items.length
   ·have bpos0:(0:Int)<x.items.length:=by omega
    have wF:=Hh yI;clear yI;go_enter Tryz.func51,Tryz.ntmps51
    go_upto_region 22 with fail
    any_goals
     (have xw:zZ x d (c-1)=false:=by
       cases hq:zZ x d (c-1) with
       | false=>rfl
       | true=>exact absurd ((zH (by have:=HK.out;omega)).1 hq) (by have zQ:=wY.out;have tX:=sI.out;have yI:=wF.out;have hk:=HK.out;omega)
      go_ret
      exact⟨by rw[zI xw];rfl,xj⟩)
    all_goals
     have HG:Hid (zZ x d (c-1)=true):=(zH (by have:=HK.out;omega)).2 ⟨by omega,by omega,fun h=>sI.out,fun h=>by have:=HK.out;omega,fun h=>by have:=HK.out;omega,by omega⟩;have c0:=hB.cell 0 rfl;have c3:=hB.cell 3 rfl;go_wp2_with fail
     have ob:=hB;have yR:=xj;go_loopw [1,157] (fun v1 v157 wr=>∃ (j r:Nat),j≤x.items.length∧r≤c∧v157=.int .i64 j∧v1=.int .i64 r∧zL (x.items.drop j) r (d+1)=zL x.items (c-1) (d+1)∧Below w.heap.size w wr∧Blk wr w.heap.size 26 #[.int .i64 x.kind,.int .u64 x.n,.slice ba x.bytes.length bc,.slice ia x.items.length ic]) (fun _ v157 _=>x.items.length-(intOf v157).toNat)
     case atStart=>exact⟨0,c-1,Nat.zero_le _,by omega,rfl,by rw[sU.out],rfl,yR,ob⟩
     case round =>
      obtain⟨j,r,hj,bG,rfl,rfl,qS,xS,tD⟩:=hrel;have tC:=Hh qS;clear qS
      by_cases yi:j<x.items.length
      ·have xT:Holds wr H:=hH.below xS (Nat.le_refl _);obtain⟨ib,io,tj,wI⟩:=HX.out.items (by omega);obtain⟨eba,ebc,eia,eic,q0,q1,q2,q3,uU⟩:=wI.get j yi;subst tj;have p0:=xT.cell q0;have p1:=xT.cell q1;have p2:=xT.cell q2;have p3:=xT.cell q3;have wW:zL (x.items.drop j) r (d+1)=match zN x.items[j] r (d+1) with | none=>none | some r'=>zL (x.items.drop (j+1)) r' (d+1):=by rw[List.drop_eq_getElem_cons yi,zL];cases zN x.items[j] r (d+1) <;> rfl
       have uu:=Hh (wW.symm.trans tC.out);clear wW;have IHC:=ih x.items[j] (xP x j yi) H hT _ _ eba _ ebc eia _ eic (wr.alloc (zW x.items[j] eba ebc eia eic)) r (d+1) uU.arg (xT.alloc _) (by omega) (by omega);rw[show((d+1:Nat):Int)=(d:Int)+1 by omega]at IHC;have IHH:=Hh IHC;have xe:=xS.alloc xS.size (zW x.items[j] eba ebc eia eic);have uh:=tD.alloc (zW x.items[j] eba ebc eia eic);clear IHC q0 q1 q2 q3
       cases hq:zN x.items[j] r (d+1) with
       | none =>
        rw[hq]at IHH uu;have E:Hid (zN x c d=none):=by rw[Hid,y7,if_neg (by omega),if_neg (by simp[HG.out]),← uu.out]
        clear hq uu;go_wp2_with fail
        refine IHH.out.mono ?_
        rintro e w6 ⟨rfl,wQ⟩
        have wj:=xe.trans (wQ.mono xe.size)
        simp only[wM]
        go_wp2_with fail
        go_ret
        exact⟨by rw[E.out];rfl,wj⟩
       | some r' =>
        rw[hq]at IHH uu;have jm:=(vw _ _ _ _ hq).2.2;have qy:Hid (zL (x.items.drop (j+1)) r' (d+1)=zL x.items (c-1) (d+1)):=uu.out;clear hq uu;have cH:(0:Int)≤(r':Int):=by omega
        have qu:r'≤c:=by omega
        go_wp2_with fail
        refine IHH.out.mono ?_
        rintro e w6 ⟨rfl,wQ⟩
        have wj:=xe.trans (wQ.mono xe.size);have rj:=uh.below wQ
        simp only[wM]
        clear xS tD xe uh wQ IHH p0 p1 p2 p3 jm xT;go_wp2_with fail
        go_roundw
        case rel=>exact⟨j+1,r',by omega,qu,by go_num,rfl,qy.out,wj,rj⟩
        case measure=>simp[intOf];omega
      ·have pB:j=x.items.length:=by omega
       subst pB;have vh:zL x.items (c-1) (d+1)=some r:=by rw[← tC.out,List.drop_length,zL]
       have tU:=Hh vh;clear vh tC
       have E:Hid (zN x c d=some r):=by
        rw[Hid,y7,if_neg (by omega),if_neg (by simp[HG.out]),tU.out]
        simp only
        rw[if_neg (by rintro⟨h5,_⟩;rw[h5]at b5;cases b5)]
       have c0:=tD.cell 0 rfl;go_wp2_with fail
       refine wp_loop_rounds 1 ?_
       rw[rounds_succ];go_wp2_with fail
       go_ret
       exact⟨by rw[E.out];rfl,xS⟩
   ·have bpos0:¬ (0:Int)<x.items.length:=by omega
    have wF:=Hh yI;clear yI;go_enter Tryz.func51,Tryz.ntmps51
    go_upto_region 22 with fail
    any_goals
     (have xw:zZ x d (c-1)=false:=by
       cases hq:zZ x d (c-1) with
       | false=>rfl
       | true=>exact absurd ((zH (by have:=HK.out;omega)).1 hq) (by have zQ:=wY.out;have tX:=sI.out;have yI:=wF.out;have hk:=HK.out;omega)
      go_ret
      exact⟨by rw[zI xw];rfl,xj⟩)
    all_goals
     have zS:zZ x d (c-1)=true:=(zH (by have:=HK.out;omega)).2 ⟨by omega,by omega,fun h=>sI.out,fun h=>by have:=HK.out;omega,fun h=>by have:=HK.out;omega,by omega⟩;have xt:x.items.length=0:=by have zQ:=wY.out;have tX:=sI.out;have yI:=wF.out;have hk:=HK.out;omega
     have hk:=HK.out;have E:Hid (zN x c d=some (c-1)):=yj sO zS xt;have oc:¬ (0:Int)<x.items.length:=by omega
     have rX:¬ (2:Int)<x.items.length:=by omega
     have HI:=Hh xt;have HC:=Hh zS;clear xt hk zS;have c0:=hB.cell 0 rfl;have c3:=hB.cell 3 rfl;go_wp2_with fail
     refine wp_loop_rounds 1 ?_
     rw[rounds_succ];go_wp2_with fail
     refine wp_loop_rounds 1 ?_
     rw[rounds_succ];go_wp2_with fail
     go_ret
     exact⟨by rw[E.out,← sU.out];rfl,xj⟩
  ·have bone0:((x.items.length:Int) != 1)=true:=by(first | (rw[bne_eq_false_iff_eq];omega) | (rw[bne_iff_ne];omega))
   have sI:=Hh tX;clear tX
   by_cases yI:0<x.items.length
   ·have bpos0:(0:Int)<x.items.length:=by omega
    have wF:=Hh yI;clear yI;go_enter Tryz.func51,Tryz.ntmps51
    go_upto_region 22 with fail
    any_goals
     (have xw:zZ x d (c-1)=false:=by
       cases hq:zZ x d (c-1) with
       | false=>rfl
       | true=>exact absurd ((zH (by have:=HK.out;omega)).1 hq) (by have zQ:=wY.out;have tX:=sI.out;have yI:=wF.out;have hk:=HK.out;omega)
      go_ret
      exact⟨by rw[zI xw];rfl,xj⟩)
    all_goals
     have HG:Hid (zZ x d (c-1)=true):=(zH (by have:=HK.out;omega)).2 ⟨by omega,by omega,fun h=>sI.out,fun h=>by have:=HK.out;omega,fun h=>by have:=HK.out;omega,by omega⟩;have c0:=hB.cell 0 rfl;have c3:=hB.cell 3 rfl;go_wp2_with fail
     have ob:=hB;have yR:=xj;go_loopw [1,157] (fun v1 v157 wr=>∃ (j r:Nat),j≤x.items.length∧r≤c∧v157=.int .i64 j∧v1=.int .i64 r∧zL (x.items.drop j) r (d+1)=zL x.items (c-1) (d+1)∧Below w.heap.size w wr∧Blk wr w.heap.size 26 #[.int .i64 x.kind,.int .u64 x.n,.slice ba x.bytes.length bc,.slice ia x.items.length ic]) (fun _ v157 _=>x.items.length-(intOf v157).toNat)
     case atStart=>exact⟨0,c-1,Nat.zero_le _,by omega,rfl,by rw[sU.out],rfl,yR,ob⟩
     case round =>
      obtain⟨j,r,hj,bG,rfl,rfl,qS,xS,tD⟩:=hrel;have tC:=Hh qS;clear qS
      by_cases yi:j<x.items.length
      ·have xT:Holds wr H:=hH.below xS (Nat.le_refl _);obtain⟨ib,io,tj,wI⟩:=HX.out.items (by omega);obtain⟨eba,ebc,eia,eic,q0,q1,q2,q3,uU⟩:=wI.get j yi;subst tj;have p0:=xT.cell q0;have p1:=xT.cell q1;have p2:=xT.cell q2;have p3:=xT.cell q3;have wW:zL (x.items.drop j) r (d+1)=match zN x.items[j] r (d+1) with | none=>none | some r'=>zL (x.items.drop (j+1)) r' (d+1):=by rw[List.drop_eq_getElem_cons yi,zL];cases zN x.items[j] r (d+1) <;> rfl
       have uu:=Hh (wW.symm.trans tC.out);clear wW;have IHC:=ih x.items[j] (xP x j yi) H hT _ _ eba _ ebc eia _ eic (wr.alloc (zW x.items[j] eba ebc eia eic)) r (d+1) uU.arg (xT.alloc _) (by omega) (by omega);rw[show((d+1:Nat):Int)=(d:Int)+1 by omega]at IHC;have IHH:=Hh IHC;have xe:=xS.alloc xS.size (zW x.items[j] eba ebc eia eic);have uh:=tD.alloc (zW x.items[j] eba ebc eia eic);clear IHC q0 q1 q2 q3
       cases hq:zN x.items[j] r (d+1) with
       | none =>
        rw[hq]at IHH uu;have E:Hid (zN x c d=none):=by rw[Hid,y7,if_neg (by omega),if_neg (by simp[HG.out]),← uu.out]
        clear hq uu;go_wp2_with fail
        refine IHH.out.mono ?_
        rintro e w6 ⟨rfl,wQ⟩
        have wj:=xe.trans (wQ.mono xe.size)
        simp only[wM]
        go_wp2_with fail
        go_ret
        exact⟨by rw[E.out];rfl,wj⟩
       | some r' =>
        rw[hq]at IHH uu;have jm:=(vw _ _ _ _ hq).2.2;have qy:Hid (zL (x.items.drop (j+1)) r' (d+1)=zL x.items (c-1) (d+1)):=uu.out;clear hq uu;have cH:(0:Int)≤(r':Int):=by omega
        have qu:r'≤c:=by omega
        go_wp2_with fail
        refine IHH.out.mono ?_
        rintro e w6 ⟨rfl,wQ⟩
        have wj:=xe.trans (wQ.mono xe.size);have rj:=uh.below wQ
        simp only[wM]
        clear xS tD xe uh wQ IHH p0 p1 p2 p3 jm xT;go_wp2_with fail
        go_roundw
        case rel=>exact⟨j+1,r',by omega,qu,by go_num,rfl,qy.out,wj,rj⟩
        case measure=>simp[intOf];omega
      ·have pB:j=x.items.length:=by omega
       subst pB;have vh:zL x.items (c-1) (d+1)=some r:=by rw[← tC.out,List.drop_length,zL]
       have tU:=Hh vh;clear vh tC
       have E:Hid (zN x c d=some r):=by
        rw[Hid,y7,if_neg (by omega),if_neg (by simp[HG.out]),tU.out]
        simp only
        rw[if_neg (by rintro⟨h5,_⟩;rw[h5]at b5;cases b5)]
       have c0:=tD.cell 0 rfl;go_wp2_with fail
       refine wp_loop_rounds 1 ?_
       rw[rounds_succ];go_wp2_with fail
       go_ret
       exact⟨by rw[E.out];rfl,xS⟩
   ·have bpos0:¬ (0:Int)<x.items.length:=by omega
    have wF:=Hh yI;clear yI;go_enter Tryz.func51,Tryz.ntmps51
    go_upto_region 22 with fail
    any_goals
     (have xw:zZ x d (c-1)=false:=by
       cases hq:zZ x d (c-1) with
       | false=>rfl
       | true=>exact absurd ((zH (by have:=HK.out;omega)).1 hq) (by have zQ:=wY.out;have tX:=sI.out;have yI:=wF.out;have hk:=HK.out;omega)
      go_ret
      exact⟨by rw[zI xw];rfl,xj⟩)
    all_goals
     have zS:zZ x d (c-1)=true:=(zH (by have:=HK.out;omega)).2 ⟨by omega,by omega,fun h=>sI.out,fun h=>by have:=HK.out;omega,fun h=>by have:=HK.out;omega,by omega⟩;have xt:x.items.length=0:=by have zQ:=wY.out;have tX:=sI.out;have yI:=wF.out;have hk:=HK.out;omega
     have hk:=HK.out;have E:Hid (zN x c d=some (c-1)):=yj sO zS xt;have oc:¬ (0:Int)<x.items.length:=by omega
     have rX:¬ (2:Int)<x.items.length:=by omega
     have HI:=Hh xt;have HC:=Hh zS;clear xt hk zS;have c0:=hB.cell 0 rfl;have c3:=hB.cell 3 rfl;go_wp2_with fail
     refine wp_loop_rounds 1 ?_
     rw[rounds_succ];go_wp2_with fail
     refine wp_loop_rounds 1 ?_
     rw[rounds_succ];go_wp2_with fail
     go_ret
     exact⟨by rw[E.out,← sU.out];rfl,xj⟩
 ·have bn00:((x.n:Int) != 0)=true:=by simp[zQ]
  have bn01:(x.n=0)=False:=by first | exact eq_true zQ | exact eq_false zQ
  have wY:=Hh zQ;clear zQ
  by_cases tX:x.items.length=1
  ·have bone0:((x.items.length:Int) != 1)=false:=by(first | (rw[bne_eq_false_iff_eq];omega) | (rw[bne_iff_ne];omega))
   have sI:=Hh tX;clear tX
   by_cases yI:0<x.items.length
   ·have bpos0:(0:Int)<x.items.length:=by omega
    have wF:=Hh yI;clear yI;go_enter Tryz.func51,Tryz.ntmps51
    go_upto_region 22 with fail
    any_goals
     (have xw:zZ x d (c-1)=false:=by
       cases hq:zZ x d (c-1) with
       | false=>rfl
       | true=>exact absurd ((zH (by have:=HK.out;omega)).1 hq) (by have zQ:=wY.out;have tX:=sI.out;have yI:=wF.out;have hk:=HK.out;omega)
      go_ret
      exact⟨by rw[zI xw];rfl,xj⟩)
    all_goals
     have HG:Hid (zZ x d (c-1)=true):=(zH (by have:=HK.out;omega)).2 ⟨by omega,by omega,fun h=>sI.out,fun h=>by have:=HK.out;omega,fun h=>by have:=HK.out;omega,by omega⟩;have c0:=hB.cell 0 rfl;have c3:=hB.cell 3 rfl;go_wp2_with fail
     have ob:=hB;have yR:=xj;go_loopw [1,157] (fun v1 v157 wr=>∃ (j r:Nat),j≤x.items.length∧r≤c∧v157=.int .i64 j∧v1=.int .i64 r∧zL (x.items.drop j) r (d+1)=zL x.items (c-1) (d+1)∧Below w.heap.size w wr∧Blk wr w.heap.size 26 #[.int .i64 x.kind,.int .u64 x.n,.slice ba x.bytes.length bc,.slice ia x.items.length ic]) (fun _ v157 _=>x.items.length-(intOf v157).toNat)
     case atStart=>exact⟨0,c-1,Nat.zero_le _,by omega,rfl,by rw[sU.out],rfl,yR,ob⟩
     case round =>
      obtain⟨j,r,hj,bG,rfl,rfl,qS,xS,tD⟩:=hrel;have tC:=Hh qS;clear qS
      by_cases yi:j<x.items.length
      ·have xT:Holds wr H:=hH.below xS (Nat.le_refl _);obtain⟨ib,io,tj,wI⟩:=HX.out.items (by omega);obtain⟨eba,ebc,eia,eic,q0,q1,q2,q3,uU⟩:=wI.get j yi;subst tj;have p0:=xT.cell q0;have p1:=xT.cell q1;have p2:=xT.cell q2;have p3:=xT.cell q3;have wW:zL (x.items.drop j) r (d+1)=match zN x.items[j] r (d+1) with | none=>none | some r'=>zL (x.items.drop (j+1)) r' (d+1):=by rw[List.drop_eq_getElem_cons yi,zL];cases zN x.items[j] r (d+1) <;> rfl
       have uu:=Hh (wW.symm.trans tC.out);clear wW;have IHC:=ih x.items[j] (xP x j yi) H hT _ _ eba _ ebc eia _ eic (wr.alloc (zW x.items[j] eba ebc eia eic)) r (d+1) uU.arg (xT.alloc _) (by omega) (by omega);rw[show((d+1:Nat):Int)=(d:Int)+1 by omega]at IHC;have IHH:=Hh IHC;have xe:=xS.alloc xS.size (zW x.items[j] eba ebc eia eic);have uh:=tD.alloc (zW x.items[j] eba ebc eia eic);clear IHC q0 q1 q2 q3
       cases hq:zN x.items[j] r (d+1) with
       | none =>
        rw[hq]at IHH uu;have E:Hid (zN x c d=none):=by rw[Hid,y7,if_neg (by omega),if_neg (by simp[HG.out]),← uu.out]
        clear hq uu;go_wp2_with fail
        refine IHH.out.mono ?_
        rintro e w6 ⟨rfl,wQ⟩
        have wj:=xe.trans (wQ.mono xe.size)
        simp only[wM]
        go_wp2_with fail
        go_ret
        exact⟨by rw[E.out];rfl,wj⟩
       | some r' =>
        rw[hq]at IHH uu;have jm:=(vw _ _ _ _ hq).2.2;have qy:Hid (zL (x.items.drop (j+1)) r' (d+1)=zL x.items (c-1) (d+1)):=uu.out;clear hq uu;have cH:(0:Int)≤(r':Int):=by omega
        have qu:r'≤c:=by omega
        go_wp2_with fail
        refine IHH.out.mono ?_
        rintro e w6 ⟨rfl,wQ⟩
        have wj:=xe.trans (wQ.mono xe.size);have rj:=uh.below wQ
        simp only[wM]
        clear xS tD xe uh wQ IHH p0 p1 p2 p3 jm xT;go_wp2_with fail
        go_roundw
        case rel=>exact⟨j+1,r',by omega,qu,by go_num,rfl,qy.out,wj,rj⟩
        case measure=>simp[intOf];omega
      ·have pB:j=x.items.length:=by omega
       subst pB;have vh:zL x.items (c-1) (d+1)=some r:=by rw[← tC.out,List.drop_length,zL]
       have tU:=Hh vh;clear vh tC
       have E:Hid (zN x c d=some r):=by
        rw[Hid,y7,if_neg (by omega),if_neg (by simp[HG.out]),tU.out]
        simp only
        rw[if_neg (by rintro⟨h5,_⟩;rw[h5]at b5;cases b5)]
       have c0:=tD.cell 0 rfl;go_wp2_with fail
       refine wp_loop_rounds 1 ?_
       rw[rounds_succ];go_wp2_with fail
       go_ret
       exact⟨by rw[E.out];rfl,xS⟩
   ·have bpos0:¬ (0:Int)<x.items.length:=by omega
    have wF:=Hh yI;clear yI;go_enter Tryz.func51,Tryz.ntmps51
    go_upto_region 22 with fail
    any_goals
     (have xw:zZ x d (c-1)=false:=by
       cases hq:zZ x d (c-1) with
       | false=>rfl
       | true=>exact absurd ((zH (by have:=HK.out;omega)).1 hq) (by have zQ:=wY.out;have tX:=sI.out;have yI:=wF.out;have hk:=HK.out;omega)
      go_ret
      exact⟨by rw[zI xw];rfl,xj⟩)
    all_goals
     have zS:zZ x d (c-1)=true:=(zH (by have:=HK.out;omega)).2 ⟨by omega,by omega,fun h=>sI.out,fun h=>by have:=HK.out;omega,fun h=>by have:=HK.out;omega,by omega⟩;have xt:x.items.length=0:=by have zQ:=wY.out;have tX:=sI.out;have yI:=wF.out;have hk:=HK.out;omega
     have hk:=HK.out;have E:Hid (zN x c d=some (c-1)):=yj sO zS xt;have oc:¬ (0:Int)<x.items.length:=by omega
     have rX:¬ (2:Int)<x.items.length:=by omega
     have HI:=Hh xt;have HC:=Hh zS;clear xt hk zS;have c0:=hB.cell 0 rfl;have c3:=hB.cell 3 rfl;go_wp2_with fail
     refine wp_loop_rounds 1 ?_
     rw[rounds_succ];go_wp2_with fail
     refine wp_loop_rounds 1 ?_
     rw[rounds_succ];go_wp2_with fail
     go_ret
     exact⟨by rw[E.out,← sU.out];rfl,xj⟩
  ·have bone0:((x.items.length:Int) != 1)=true:=by(first | (rw[bne_eq_false_iff_eq];omega) | (rw[bne_iff_ne];omega))
   have sI:=Hh tX;clear tX
   by_cases yI:0<x.items.length
   ·have bpos0:(0:Int)<x.items.length:=by omega
    have wF:=Hh yI;clear yI;go_enter Tryz.func51,Tryz.ntmps51
    go_upto_region 22 with fail
    any_goals
     (have xw:zZ x d (c-1)=false:=by
       cases hq:zZ x d (c-1) with
       | false=>rfl
       | true=>exact absurd ((zH (by have:=HK.out;omega)).1 hq) (by have zQ:=wY.out;have tX:=sI.out;have yI:=wF.out;have hk:=HK.out;omega)
      go_ret
      exact⟨by rw[zI xw];rfl,xj⟩)
    all_goals
     have HG:Hid (zZ x d (c-1)=true):=(zH (by have:=HK.out;omega)).2 ⟨by omega,by omega,fun h=>sI.out,fun h=>by have:=HK.out;omega,fun h=>by have:=HK.out;omega,by omega⟩;have c0:=hB.cell 0 rfl;have c3:=hB.cell 3 rfl;go_wp2_with fail
     have ob:=hB;have yR:=xj;go_loopw [1,157] (fun v1 v157 wr=>∃ (j r:Nat),j≤x.items.length∧r≤c∧v157=.int .i64 j∧v1=.int .i64 r∧zL (x.items.drop j) r (d+1)=zL x.items (c-1) (d+1)∧Below w.heap.size w wr∧Blk wr w.heap.size 26 #[.int .i64 x.kind,.int .u64 x.n,.slice ba x.bytes.length bc,.slice ia x.items.length ic]) (fun _ v157 _=>x.items.length-(intOf v157).toNat)
     case atStart=>exact⟨0,c-1,Nat.zero_le _,by omega,rfl,by rw[sU.out],rfl,yR,ob⟩
     case round =>
      obtain⟨j,r,hj,bG,rfl,rfl,qS,xS,tD⟩:=hrel;have tC:=Hh qS;clear qS
      by_cases yi:j<x.items.length
      ·have xT:Holds wr H:=hH.below xS (Nat.le_refl _);obtain⟨ib,io,tj,wI⟩:=HX.out.items (by omega);obtain⟨eba,ebc,eia,eic,q0,q1,q2,q3,uU⟩:=wI.get j yi;subst tj;have p0:=xT.cell q0;have p1:=xT.cell q1;have p2:=xT.cell q2;have p3:=xT.cell q3;have wW:zL (x.items.drop j) r (d+1)=match zN x.items[j] r (d+1) with | none=>none | some r'=>zL (x.items.drop (j+1)) r' (d+1):=by rw[List.drop_eq_getElem_cons yi,zL];cases zN x.items[j] r (d+1) <;> rfl
       have uu:=Hh (wW.symm.trans tC.out);clear wW;have IHC:=ih x.items[j] (xP x j yi) H hT _ _ eba _ ebc eia _ eic (wr.alloc (zW x.items[j] eba ebc eia eic)) r (d+1) uU.arg (xT.alloc _) (by omega) (by omega);rw[show((d+1:Nat):Int)=(d:Int)+1 by omega]at IHC;have IHH:=Hh IHC;have xe:=xS.alloc xS.size (zW x.items[j] eba ebc eia eic);have uh:=tD.alloc (zW x.items[j] eba ebc eia eic);clear IHC q0 q1 q2 q3
       cases hq:zN x.items[j] r (d+1) with
       | none =>
        rw[hq]at IHH uu;have E:Hid (zN x c d=none):=by rw[Hid,y7,if_neg (by omega),if_neg (by simp[HG.out]),← uu.out]
        clear hq uu;go_wp2_with fail
        refine IHH.out.mono ?_
        rintro e w6 ⟨rfl,wQ⟩
        have wj:=xe.trans (wQ.mono xe.size)
        simp only[wM]
        go_wp2_with fail
        go_ret
        exact⟨by rw[E.out];rfl,wj⟩
       | some r' =>
        rw[hq]at IHH uu;have jm:=(vw _ _ _ _ hq).2.2;have qy:Hid (zL (x.items.drop (j+1)) r' (d+1)=zL x.items (c-1) (d+1)):=uu.out;clear hq uu;have cH:(0:Int)≤(r':Int):=by omega
        have qu:r'≤c:=by omega
        go_wp2_with fail
        refine IHH.out.mono ?_
        rintro e w6 ⟨rfl,wQ⟩
        have wj:=xe.trans (wQ.mono xe.size);have rj:=uh.below wQ
        simp only[wM]
        clear xS tD xe uh wQ IHH p0 p1 p2 p3 jm xT;go_wp2_with fail
        go_roundw
        case rel=>exact⟨j+1,r',by omega,qu,by go_num,rfl,qy.out,wj,rj⟩
        case measure=>simp[intOf];omega
      ·have pB:j=x.items.length:=by omega
       subst pB;have vh:zL x.items (c-1) (d+1)=some r:=by rw[← tC.out,List.drop_length,zL]
       have tU:=Hh vh;clear vh tC
       have E:Hid (zN x c d=some r):=by
        rw[Hid,y7,if_neg (by omega),if_neg (by simp[HG.out]),tU.out]
        simp only
        rw[if_neg (by rintro⟨h5,_⟩;rw[h5]at b5;cases b5)]
       have c0:=tD.cell 0 rfl;go_wp2_with fail
       refine wp_loop_rounds 1 ?_
       rw[rounds_succ];go_wp2_with fail
       go_ret
       exact⟨by rw[E.out];rfl,xS⟩
   ·have bpos0:¬ (0:Int)<x.items.length:=by omega
    have wF:=Hh yI;clear yI;go_enter Tryz.func51,Tryz.ntmps51
    go_upto_region 22 with fail
    any_goals
     (have xw:zZ x d (c-1)=false:=by
       cases hq:zZ x d (c-1) with
       | false=>rfl
       | true=>exact absurd ((zH (by have:=HK.out;omega)).1 hq) (by have zQ:=wY.out;have tX:=sI.out;have yI:=wF.out;have hk:=HK.out;omega)
      go_ret
      exact⟨by rw[zI xw];rfl,xj⟩)
    all_goals
     have zS:zZ x d (c-1)=true:=(zH (by have:=HK.out;omega)).2 ⟨by omega,by omega,fun h=>sI.out,fun h=>by have:=HK.out;omega,fun h=>by have:=HK.out;omega,by omega⟩;have xt:x.items.length=0:=by have zQ:=wY.out;have tX:=sI.out;have yI:=wF.out;have hk:=HK.out;omega
     have hk:=HK.out;have E:Hid (zN x c d=some (c-1)):=yj sO zS xt;have oc:¬ (0:Int)<x.items.length:=by omega
     have rX:¬ (2:Int)<x.items.length:=by omega
     have HI:=Hh xt;have HC:=Hh zS;clear xt hk zS;have c0:=hB.cell 0 rfl;have c3:=hB.cell 3 rfl;go_wp2_with fail
     refine wp_loop_rounds 1 ?_
     rw[rounds_succ];go_wp2_with fail
     refine wp_loop_rounds 1 ?_
     rw[rounds_succ];go_wp2_with fail
     go_ret
     exact⟨by rw[E.out,← sU.out];rfl,xj⟩
end Go.Proofs.YtnlinmoiakgedaaGreatDoor
