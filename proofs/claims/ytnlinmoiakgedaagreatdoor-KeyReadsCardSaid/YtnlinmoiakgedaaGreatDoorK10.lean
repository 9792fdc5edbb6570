/- squeezed. Walks: the references' left: texts -/
import Derived.Test.YtnlinmoiakgedaaGreatDoorK08
import Derived.Test.YtnlinmoiakgedaaGreatDoorK09
set_option linter.unusedVariables false
set_option linter.unusedSimpArgs false
set_option maxRecDepth 100000
set_option maxHeartbeats 6400000
namespace Go.Proofs.YtnlinmoiakgedaaGreatDoor
open Go.RowKit
theorem Vu (x:Itm) (hk:x.kind=3) {H:Snap}(hT:Tabs H) (ih:∀ y:Itm,cnt y<cnt x→uv y) {ba:Option Addr}{bc:Nat}{ia:Option Addr}{ic:Nat}(hx:IsItem H ba bc ia ic x) (w:World) (hH:Holds w H) (c d:Nat) (sO:0<c) (hc:c≤65536) (hd:d≤65536) :
  Calls Tryz.prog 51 #[xN x ba bc ia ic,.int .i64 c,.int .i64 d] w fun e w'=>e=.returned (.int .i64 (wM (zN x c d)))∧Below w.heap.size w w':=by
 have HX:=Hh hx;have tv:=hx.bounds;have hB:=Blk.new w 26 #[.int .i64 x.kind,.int .u64 x.n,.slice ba x.bytes.length bc,.slice ia x.items.length ic];have xj:=zi w (zW x ba bc ia ic);have p8:((c-1:Nat):Int)=(c:Int)-1:=by omega
 have sN:x.bytes.length≤9223372036854775807:=by omega
 have eV:x.items.length≤9223372036854775807:=by omega
 have HN:=Hh tv.2.2.1;have XU:¬ (c:Int)<1:=by omega
 have k0:¬ x.kind<0:=by omega
 have k8:¬ 8<x.kind:=by omega
 have HK:=Hh hk;have sU:=Hh p8;have V:=Hh (tQ hT (w.alloc (zW x ba bc ia ic)) (hH.alloc _) ba x.bytes _ bc rfl hx.bytes);clear hx tv p8;obtain⟨b0,b1,b2,b3,b4,b5,b6,b7,b8⟩:=YZ hk;clear hk
 by_cases zQ:x.n=0
 ·have bn00:((x.n:Int) != 0)=false:=by simp[zQ]
  have bn01:(x.n=0)=True:=by first | exact eq_true zQ | exact eq_false zQ
  have wY:=Hh zQ;clear zQ
  by_cases vH:Lib.validD x.bytes=true
  ·have bval0:Lib.validD x.bytes=true:=by simpa using vH
   have ku:=Hh vH;clear vH;go_enter Tryz.func51,Tryz.ntmps51
   rw[bval0]at V;go_upto_region 22 with (go_at_call 62;refine V.out.mono ?_;rintro e wv ⟨rfl,ZY⟩;have hB:=hB.below ZY;have xj:=xj.trans (ZY.mono xj.size);have e0:=hB.cell 0 rfl;have e1:=hB.cell 1 rfl;have e2:=hB.cell 2 rfl;have e3:=hB.cell 3 rfl)
   any_goals
    (have xw:zZ x d (c-1)=false:=by
      cases hq:zZ x d (c-1) with
      | false=>rfl
      | true=>exact absurd ((rs HK.out).1 hq) (by have zQ:=wY.out;have vH:=ku.out;rintro⟨p1,p2,p3,p4⟩;first | omega | (rw[bval0]at p4;cases p4))
     go_ret
     exact⟨by rw[zI xw];rfl,xj⟩)
   all_goals
    have zS:zZ x d (c-1)=true:=(rs HK.out).2 ⟨wY.out,by omega,by omega,bval0⟩;have xt:x.items.length=0:=by have zQ:=wY.out;have vH:=ku.out;omega
    have hk:=HK.out;have E:Hid (zN x c d=some (c-1)):=yj sO zS xt;have oc:¬ (0:Int)<x.items.length:=by omega
    have rX:¬ (2:Int)<x.items.length:=by omega
    have HI:=Hh xt;have HC:=Hh zS;clear xt hk zS;have c0:=hB.cell 0 rfl;have c3:=hB.cell 3 rfl;go_wp2_with fail
    refine wp_loop_rounds 1 ?_
    rw[rounds_succ];go_wp2_with fail
    refine wp_loop_rounds 1 ?_
    rw[rounds_succ];go_wp2_with fail
    go_ret
    exact⟨by rw[E.out,← sU.out];rfl,xj⟩
  ·have bval0:Lib.validD x.bytes=false:=by simpa using vH
   have ku:=Hh vH;clear vH;go_enter Tryz.func51,Tryz.ntmps51
   rw[bval0]at V;go_upto_region 22 with (go_at_call 62;refine V.out.mono ?_;rintro e wv ⟨rfl,ZY⟩;have hB:=hB.below ZY;have xj:=xj.trans (ZY.mono xj.size);have e0:=hB.cell 0 rfl;have e1:=hB.cell 1 rfl;have e2:=hB.cell 2 rfl;have e3:=hB.cell 3 rfl)
   any_goals
    (have xw:zZ x d (c-1)=false:=by
      cases hq:zZ x d (c-1) with
      | false=>rfl
      | true=>exact absurd ((rs HK.out).1 hq) (by have zQ:=wY.out;have vH:=ku.out;rintro⟨p1,p2,p3,p4⟩;first | omega | (rw[bval0]at p4;cases p4))
     go_ret
     exact⟨by rw[zI xw];rfl,xj⟩)
   all_goals
    have zS:zZ x d (c-1)=true:=(rs HK.out).2 ⟨wY.out,by omega,by omega,bval0⟩;have xt:x.items.length=0:=by have zQ:=wY.out;have vH:=ku.out;omega
    have hk:=HK.out;have E:Hid (zN x c d=some (c-1)):=yj sO zS xt;have oc:¬ (0:Int)<x.items.length:=by omega
    have rX:¬ (2:Int)<x.items.length:=by omega
    have HI:=Hh xt;have HC:=Hh zS;clear xt hk zS;have c0:=hB.cell 0 rfl;have c3:=hB.cell 3 rfl;go_wp2_with fail
    refine wp_loop_rounds 1 ?_
    rw[rounds_succ];go_wp2_with fail
    refine wp_loop_rounds 1 ?_
    rw[rounds_succ];go_wp2_with fail
    go_ret
    exact⟨by rw[E.out,← sU.out];rfl,xj⟩
 ·have bn00:((x.n:Int) != 0)=true:=by simp[zQ]
  have bn01:(x.n=0)=False:=by first | exact eq_true zQ | exact eq_false zQ
  have wY:=Hh zQ;clear zQ
  by_cases vH:Lib.validD x.bytes=true
  ·have bval0:Lib.validD x.bytes=true:=by simpa using vH
   have ku:=Hh vH;clear vH;go_enter Tryz.func51,Tryz.ntmps51
   rw[bval0]at V;go_upto_region 22 with (go_at_call 62;refine V.out.mono ?_;rintro e wv ⟨rfl,ZY⟩;have hB:=hB.below ZY;have xj:=xj.trans (ZY.mono xj.size);have e0:=hB.cell 0 rfl;have e1:=hB.cell 1 rfl;have e2:=hB.cell 2 rfl;have e3:=hB.cell 3 rfl)
   any_goals
    (have xw:zZ x d (c-1)=false:=by
      cases hq:zZ x d (c-1) with
      | false=>rfl
      | true=>exact absurd ((rs HK.out).1 hq) (by have zQ:=wY.out;have vH:=ku.out;rintro⟨p1,p2,p3,p4⟩;first | omega | (rw[bval0]at p4;cases p4))
     go_ret
     exact⟨by rw[zI xw];rfl,xj⟩)
   all_goals
    have zS:zZ x d (c-1)=true:=(rs HK.out).2 ⟨wY.out,by omega,by omega,bval0⟩;have xt:x.items.length=0:=by have zQ:=wY.out;have vH:=ku.out;omega
    have hk:=HK.out;have E:Hid (zN x c d=some (c-1)):=yj sO zS xt;have oc:¬ (0:Int)<x.items.length:=by omega
    have rX:¬ (2:Int)<x.items.length:=by omega
    have HI:=Hh xt;have HC:=Hh zS;clear xt hk zS;have c0:=hB.cell 0 rfl;have c3:=hB.cell 3 rfl;go_wp2_with fail
    refine wp_loop_rounds 1 ?_
    rw[rounds_succ];go_wp2_with fail
    refine wp_loop_rounds 1 ?_
    rw[rounds_succ];go_wp2_with fail
    go_ret
    exact⟨by rw[E.out,← sU.out];rfl,xj⟩
  ·have bval0:Lib.validD x.bytes=false:=by simpa using vH
   have ku:=Hh vH;clear vH;go_enter Tryz.func51,Tryz.ntmps51
   rw[bval0]at V;go_upto_region 22 with (go_at_call 62;refine V.out.mono ?_;rintro e wv ⟨rfl,ZY⟩;have hB:=hB.below ZY;have xj:=xj.trans (ZY.mono xj.size);have e0:=hB.cell 0 rfl;have e1:=hB.cell 1 rfl;have e2:=hB.cell 2 rfl;have e3:=hB.cell 3 rfl)
   any_goals
    (have xw:zZ x d (c-1)=false:=by
      cases hq:zZ x d (c-1) with
      | false=>rfl
      | true=>exact absurd ((rs HK.out).1 hq) (by have zQ:=wY.out;have vH:=ku.out;rintro⟨p1,p2,p3,p4⟩;first | omega | (rw[bval0]at p4;cases p4))
     go_ret
     exact⟨by rw[zI xw];rfl,xj⟩)
   all_goals
    have zS:zZ x d (c-1)=true:=(rs HK.out).2 ⟨wY.out,by omega,by omega,bval0⟩;have xt:x.items.length=0:=by have zQ:=wY.out;have vH:=ku.out;omega
    have hk:=HK.out;have E:Hid (zN x c d=some (c-1)):=yj sO zS xt;have oc:¬ (0:Int)<x.items.length:=by omega
    have rX:¬ (2:Int)<x.items.length:=by omega
    have HI:=Hh xt;have HC:=Hh zS;clear xt hk zS;have c0:=hB.cell 0 rfl;have c3:=hB.cell 3 rfl;go_wp2_with fail
    refine wp_loop_rounds 1 ?_
    rw[rounds_succ];go_wp2_with fail
    refine wp_loop_rounds 1 ?_
    rw[rounds_succ];go_wp2_with fail
    go_ret
    exact⟨by rw[E.out,← sU.out];rfl,xj⟩
theorem Vz (x:Itm) (hk:x.kind=8) {H:Snap}(hT:Tabs H) (ih:∀ y:Itm,cnt y<cnt x→uv y) {ba:Option Addr}{bc:Nat}{ia:Option Addr}{ic:Nat}(hx:IsItem H ba bc ia ic x) (w:World) (hH:Holds w H) (c d:Nat) (sO:0<c) (hc:c≤65536) (hd:d≤65536) :
  Calls Tryz.prog 51 #[xN x ba bc ia ic,.int .i64 c,.int .i64 d] w fun e w'=>e=.returned (.int .i64 (wM (zN x c d)))∧Below w.heap.size w w':=by
 have HX:=Hh hx;have tv:=hx.bounds;have hB:=Blk.new w 26 #[.int .i64 x.kind,.int .u64 x.n,.slice ba x.bytes.length bc,.slice ia x.items.length ic];have xj:=zi w (zW x ba bc ia ic);have p8:((c-1:Nat):Int)=(c:Int)-1:=by omega
 have sN:x.bytes.length≤9223372036854775807:=by omega
 have eV:x.items.length≤9223372036854775807:=by omega
 have HN:=Hh tv.2.2.1;have XU:¬ (c:Int)<1:=by omega
 have k0:¬ x.kind<0:=by omega
 have k8:¬ 8<x.kind:=by omega
 have HK:=Hh hk;have sU:=Hh p8;have V:=Hh (sT x.n tv.2.2.1 (w.alloc (zW x ba bc ia ic)));clear hx tv p8;obtain⟨b0,b1,b2,b3,b4,b5,b6,b7,b8⟩:=Ye hk;clear hk
 by_cases zQ:x.n=0
 ·have bn00:((x.n:Int) != 0)=false:=by simp[zQ]
  have bn01:(x.n=0)=True:=by first | exact eq_true zQ | exact eq_false zQ
  have wY:=Hh zQ;clear zQ
  by_cases uf:isNaN x.n=true
  ·have bnan0:isNaN x.n=true:=by simpa using uf
   have qn:=Hh uf;clear uf
   by_cases vE:x.n=zT
   ·have bnn0:((x.n:Int) != 9221120237041090560)=false:=by(first | (rw[bne_eq_false_iff_eq];unfold zT at vE;omega) | (rw[bne_iff_ne];unfold zT at vE;omega))
    have rh:=Hh vE;clear vE;go_enter Tryz.func51,Tryz.ntmps51
    rw[bnan0]at V;go_upto_region 22 with (go_at_call 50;refine V.out.mono ?_;rintro e wv ⟨rfl,rfl⟩)
    any_goals
     (have xw:zZ x d (c-1)=false:=by
       cases hq:zZ x d (c-1) with
       | false=>rfl
       | true=>exact absurd ((vK HK.out).1 hq) (by have zQ:=wY.out;have uf:=qn.out;have vE:=rh.out;rintro⟨p1,p2,p3⟩;first | omega | (rcases p3 with p3 | p3;(rw[bnan0]at p3;cases p3);exact vE p3))
      go_ret
      exact⟨by rw[zI xw];rfl,xj⟩)
    all_goals
     have zS:zZ x d (c-1)=true:=(vK HK.out).2 ⟨by omega,by omega,by first | exact .inl bnan0 | exact .inr rh.out⟩;have xt:x.items.length=0:=by have zQ:=wY.out;have uf:=qn.out;have vE:=rh.out;omega
     have hk:=HK.out;have E:Hid (zN x c d=some (c-1)):=yj sO zS xt;have oc:¬ (0:Int)<x.items.length:=by omega
     have rX:¬ (2:Int)<x.items.length:=by omega
     have HI:=Hh xt;have HC:=Hh zS;clear xt hk zS;have c0:=hB.cell 0 rfl;have c3:=hB.cell 3 rfl;go_wp2_with fail
     refine wp_loop_rounds 1 ?_
     rw[rounds_succ];go_wp2_with fail
     refine wp_loop_rounds 1 ?_
     rw[rounds_succ];go_wp2_with fail
     go_ret
     exact⟨by rw[E.out,← sU.out];rfl,xj⟩
   ·have bnn0:((x.n:Int) != 9221120237041090560)=true:=by(first | (rw[bne_eq_false_iff_eq];unfold zT at vE;omega) | (rw[bne_iff_ne];unfold zT at vE;omega))
    have rh:=Hh vE;clear vE;go_enter Tryz.func51,Tryz.ntmps51
    rw[bnan0]at V;go_upto_region 22 with (go_at_call 50;refine V.out.mono ?_;rintro e wv ⟨rfl,rfl⟩)
    any_goals
     (have xw:zZ x d (c-1)=false:=by
       cases hq:zZ x d (c-1) with
       | false=>rfl
       | true=>exact absurd ((vK HK.out).1 hq) (by have zQ:=wY.out;have uf:=qn.out;have vE:=rh.out;rintro⟨p1,p2,p3⟩;first | omega | (rcases p3 with p3 | p3;(rw[bnan0]at p3;cases p3);exact vE p3))
      go_ret
      exact⟨by rw[zI xw];rfl,xj⟩)
    all_goals
     have zS:zZ x d (c-1)=true:=(vK HK.out).2 ⟨by omega,by omega,by first | exact .inl bnan0 | exact .inr rh.out⟩;have xt:x.items.length=0:=by have zQ:=wY.out;have uf:=qn.out;have vE:=rh.out;omega
     have hk:=HK.out;have E:Hid (zN x c d=some (c-1)):=yj sO zS xt;have oc:¬ (0:Int)<x.items.length:=by omega
     have rX:¬ (2:Int)<x.items.length:=by omega
     have HI:=Hh xt;have HC:=Hh zS;clear xt hk zS;have c0:=hB.cell 0 rfl;have c3:=hB.cell 3 rfl;go_wp2_with fail
     refine wp_loop_rounds 1 ?_
     rw[rounds_succ];go_wp2_with fail
     refine wp_loop_rounds 1 ?_
     rw[rounds_succ];go_wp2_with fail
     go_ret
     exact⟨by rw[E.out,← sU.out];rfl,xj⟩
  ·have bnan0:isNaN x.n=false:=by simpa using uf
   have qn:=Hh uf;clear uf
   by_cases vE:x.n=zT
   ·have bnn0:((x.n:Int) != 9221120237041090560)=false:=by(first | (rw[bne_eq_false_iff_eq];unfold zT at vE;omega) | (rw[bne_iff_ne];unfold zT at vE;omega))
    have rh:=Hh vE;clear vE;go_enter Tryz.func51,Tryz.ntmps51
    rw[bnan0]at V;go_upto_region 22 with (go_at_call 50;refine V.out.mono ?_;rintro e wv ⟨rfl,rfl⟩)
    any_goals
     (have xw:zZ x d (c-1)=false:=by
       cases hq:zZ x d (c-1) with
       | false=>rfl
       | true=>exact absurd ((vK HK.out).1 hq) (by have zQ:=wY.out;have uf:=qn.out;have vE:=rh.out;rintro⟨p1,p2,p3⟩;first | omega | (rcases p3 with p3 | p3;(rw[bnan0]at p3;cases p3);exact vE p3))
      go_ret
      exact⟨by rw[zI xw];rfl,xj⟩)
    all_goals
     have zS:zZ x d (c-1)=true:=(vK HK.out).2 ⟨by omega,by omega,by first | exact .inl bnan0 | exact .inr rh.out⟩;have xt:x.items.length=0:=by have zQ:=wY.out;have uf:=qn.out;have vE:=rh.out;omega
     have hk:=HK.out;have E:Hid (zN x c d=some (c-1)):=yj sO zS xt;have oc:¬ (0:Int)<x.items.length:=by omega
     have rX:¬ (2:Int)<x.items.length:=by omega
     have HI:=Hh xt;have HC:=Hh zS;clear xt hk zS;have c0:=hB.cell 0 rfl;have c3:=hB.cell 3 rfl;go_wp2_with fail
     refine wp_loop_rounds 1 ?_
     rw[rounds_succ];go_wp2_with fail
     refine wp_loop_rounds 1 ?_
     rw[rounds_succ];go_wp2_with fail
     go_ret
     exact⟨by rw[E.out,← sU.out];rfl,xj⟩
   ·have bnn0:((x.n:Int) != 9221120237041090560)=true:=by(first | (rw[bne_eq_false_iff_eq];unfold zT at vE;omega) | (rw[bne_iff_ne];unfold zT at vE;omega))
    have rh:=Hh vE;clear vE;go_enter Tryz.func51,Tryz.ntmps51
    rw[bnan0]at V;go_upto_region 22 with (go_at_call 50;refine V.out.mono ?_;rintro e wv ⟨rfl,rfl⟩)
    any_goals
     (have xw:zZ x d (c-1)=false:=by
       cases hq:zZ x d (c-1) with
       | false=>rfl
       | true=>exact absurd ((vK HK.out).1 hq) (by have zQ:=wY.out;have uf:=qn.out;have vE:=rh.out;rintro⟨p1,p2,p3⟩;first | omega | (rcases p3 with p3 | p3;(rw[bnan0]at p3;cases p3);exact vE p3))
      go_ret
      exact⟨by rw[zI xw];rfl,xj⟩)
    all_goals
     have zS:zZ x d (c-1)=true:=(vK HK.out).2 ⟨by omega,by omega,by first | exact .inl bnan0 | exact .inr rh.out⟩;have xt:x.items.length=0:=by have zQ:=wY.out;have uf:=qn.out;have vE:=rh.out;omega
     have hk:=HK.out;have E:Hid (zN x c d=some (c-1)):=yj sO zS xt;have oc:¬ (0:Int)<x.items.length:=by omega
     have rX:¬ (2:Int)<x.items.length:=by omega
     have HI:=Hh xt;have HC:=Hh zS;clear xt hk zS;have c0:=hB.cell 0 rfl;have c3:=hB.cell 3 rfl;go_wp2_with fail
     refine wp_loop_rounds 1 ?_
     rw[rounds_succ];go_wp2_with fail
     refine wp_loop_rounds 1 ?_
     rw[rounds_succ];go_wp2_with fail
     go_ret
     exact⟨by rw[E.out,← sU.out];rfl,xj⟩
 ·have bn00:((x.n:Int) != 0)=true:=by simp[zQ]
  have bn01:(x.n=0)=False:=by first | exact eq_true zQ | exact eq_false zQ
  have wY:=Hh zQ;clear zQ
  by_cases uf:isNaN x.n=true
  ·have bnan0:isNaN x.n=true:=by simpa using uf
   have qn:=Hh uf;clear uf
   by_cases vE:x.n=zT
   ·have bnn0:((x.n:Int) != 9221120237041090560)=false:=by(first | (rw[bne_eq_false_iff_eq];unfold zT at vE;omega) | (rw[bne_iff_ne];unfold zT at vE;omega))
    have rh:=Hh vE;clear vE;go_enter Tryz.func51,Tryz.ntmps51
    rw[bnan0]at V;go_upto_region 22 with (go_at_call 50;refine V.out.mono ?_;rintro e wv ⟨rfl,rfl⟩)
    any_goals
     (have xw:zZ x d (c-1)=false:=by
       cases hq:zZ x d (c-1) with
       | false=>rfl
       | true=>exact absurd ((vK HK.out).1 hq) (by have zQ:=wY.out;have uf:=qn.out;have vE:=rh.out;rintro⟨p1,p2,p3⟩;first | omega | (rcases p3 with p3 | p3;(rw[bnan0]at p3;cases p3);exact vE p3))
      go_ret
      exact⟨by rw[zI xw];rfl,xj⟩)
    all_goals
     have zS:zZ x d (c-1)=true:=(vK HK.out).2 ⟨by omega,by omega,by first | exact .inl bnan0 | exact .inr rh.out⟩;have xt:x.items.length=0:=by have zQ:=wY.out;have uf:=qn.out;have vE:=rh.out;omega
     have hk:=HK.out;have E:Hid (zN x c d=some (c-1)):=yj sO zS xt;have oc:¬ (0:Int)<x.items.length:=by omega
     have rX:¬ (2:Int)<x.items.length:=by omega
     have HI:=Hh xt;have HC:=Hh zS;clear xt hk zS;have c0:=hB.cell 0 rfl;have c3:=hB.cell 3 rfl;go_wp2_with fail
     refine wp_loop_rounds 1 ?_
     rw[rounds_succ];go_wp2_with fail
     refine wp_loop_rounds 1 ?_
     rw[rounds_succ];go_wp2_with fail
     go_ret
     exact⟨by rw[E.out,← sU.out];rfl,xj⟩
   ·have bnn0:((x.n:Int) != 9221120237041090560)=true:=by(first | (rw[bne_eq_false_iff_eq];unfold zT at vE;omega) | (rw[bne_iff_ne];unfold zT at vE;omega))
    have rh:=Hh vE;clear vE;go_enter Tryz.func51,Tryz.ntmps51
    rw[bnan0]at V;go_upto_region 22 with (go_at_call 50;refine V.out.mono ?_;rintro e wv ⟨rfl,rfl⟩)
    any_goals
     (have xw:zZ x d (c-1)=false:=by
       cases hq:zZ x d (c-1) with
       | false=>rfl
       | true=>exact absurd ((vK HK.out).1 hq) (by have zQ:=wY.out;have uf:=qn.out;have vE:=rh.out;rintro⟨p1,p2,p3⟩;first | omega | (rcases p3 with p3 | p3;(rw[bnan0]at p3;cases p3);exact vE p3))
      go_ret
      exact⟨by rw[zI xw];rfl,xj⟩)
    all_goals
     have zS:zZ x d (c-1)=true:=(vK HK.out).2 ⟨by omega,by omega,by first | exact .inl bnan0 | exact .inr rh.out⟩;have xt:x.items.length=0:=by have zQ:=wY.out;have uf:=qn.out;have vE:=rh.out;omega
     have hk:=HK.out;have E:Hid (zN x c d=some (c-1)):=yj sO zS xt;have oc:¬ (0:Int)<x.items.length:=by omega
     have rX:¬ (2:Int)<x.items.length:=by omega
     have HI:=Hh xt;have HC:=Hh zS;clear xt hk zS;have c0:=hB.cell 0 rfl;have c3:=hB.cell 3 rfl;go_wp2_with fail
     refine wp_loop_rounds 1 ?_
     rw[rounds_succ];go_wp2_with fail
     refine wp_loop_rounds 1 ?_
     rw[rounds_succ];go_wp2_with fail
     go_ret
     exact⟨by rw[E.out,← sU.out];rfl,xj⟩
  ·have bnan0:isNaN x.n=false:=by simpa using uf
   have qn:=Hh uf;clear uf
   by_cases vE:x.n=zT
   ·have bnn0:((x.n:Int) != 9221120237041090560)=false:=by(first | (rw[bne_eq_false_iff_eq];unfold zT at vE;omega) | (rw[bne_iff_ne];unfold zT at vE;omega))
    have rh:=Hh vE;clear vE;go_enter Tryz.func51,Tryz.ntmps51
    rw[bnan0]at V;go_upto_region 22 with (go_at_call 50;refine V.out.mono ?_;rintro e wv ⟨rfl,rfl⟩)
    any_goals
     (have xw:zZ x d (c-1)=false:=by
       cases hq:zZ x d (c-1) with
       | false=>rfl
       | true=>exact absurd ((vK HK.out).1 hq) (by have zQ:=wY.out;have uf:=qn.out;have vE:=rh.out;rintro⟨p1,p2,p3⟩;first | omega | (rcases p3 with p3 | p3;(rw[bnan0]at p3;cases p3);exact vE p3))
      go_ret
      exact⟨by rw[zI xw];rfl,xj⟩)
    all_goals
     have zS:zZ x d (c-1)=true:=(vK HK.out).2 ⟨by omega,by omega,by first | exact .inl bnan0 | exact .inr rh.out⟩;have xt:x.items.length=0:=by have zQ:=wY.out;have uf:=qn.out;have vE:=rh.out;omega
     have hk:=HK.out;have E:Hid (zN x c d=some (c-1)):=yj sO zS xt;have oc:¬ (0:Int)<x.items.length:=by omega
     have rX:¬ (2:Int)<x.items.length:=by omega
     have HI:=Hh xt;have HC:=Hh zS;clear xt hk zS;have c0:=hB.cell 0 rfl;have c3:=hB.cell 3 rfl;go_wp2_with fail
     refine wp_loop_rounds 1 ?_
     rw[rounds_succ];go_wp2_with fail
     refine wp_loop_rounds 1 ?_
     rw[rounds_succ];go_wp2_with fail
     go_ret
     exact⟨by rw[E.out,← sU.out];rfl,xj⟩
   ·have bnn0:((x.n:Int) != 9221120237041090560)=true:=by(first | (rw[bne_eq_false_iff_eq];unfold zT at vE;omega) | (rw[bne_iff_ne];unfold zT at vE;omega))
    have rh:=Hh vE;clear vE;go_enter Tryz.func51,Tryz.ntmps51
    rw[bnan0]at V;go_upto_region 22 with (go_at_call 50;refine V.out.mono ?_;rintro e wv ⟨rfl,rfl⟩)
    any_goals
     (have xw:zZ x d (c-1)=false:=by
       cases hq:zZ x d (c-1) with
       | false=>rfl
       | true=>exact absurd ((vK HK.out).1 hq) (by have zQ:=wY.out;have uf:=qn.out;have vE:=rh.out;rintro⟨p1,p2,p3⟩;first | omega | (rcases p3 with p3 | p3;(rw[bnan0]at p3;cases p3);exact vE p3))
      go_ret
      exact⟨by rw[zI xw];rfl,xj⟩)
    all_goals
     have zS:zZ x d (c-1)=true:=(vK HK.out).2 ⟨by omega,by omega,by first | exact .inl bnan0 | exact .inr rh.out⟩;have xt:x.items.length=0:=by have zQ:=wY.out;have uf:=qn.out;have vE:=rh.out;omega
     have hk:=HK.out;have E:Hid (zN x c d=some (c-1)):=yj sO zS xt;have oc:¬ (0:Int)<x.items.length:=by omega
     have rX:¬ (2:Int)<x.items.length:=by omega
     have HI:=Hh xt;have HC:=Hh zS;clear xt hk zS;have c0:=hB.cell 0 rfl;have c3:=hB.cell 3 rfl;go_wp2_with fail
     refine wp_loop_rounds 1 ?_
     rw[rounds_succ];go_wp2_with fail
     refine wp_loop_rounds 1 ?_
     rw[rounds_succ];go_wp2_with fail
     go_ret
     exact⟨by rw[E.out,← sU.out];rfl,xj⟩
theorem Xt (x:Itm) (hk:x.kind<0∨8<x.kind) {ba:Option Addr}{bc:Nat}{ia:Option Addr}{ic:Nat}(w:World) (c d:Nat) (sO:0<c) (hc:c≤65536) :
  Calls Tryz.prog 51 #[xN x ba bc ia ic,.int .i64 c,.int .i64 d] w fun e w'=>e=.returned (.int .i64 (wM (zN x c d)))∧Below w.heap.size w w':=by
 have E:Hid (zN x c d=none):=zI (aS hk);have XU:¬ (c:Int)<1:=by omega
 have b2:(x.kind==2)=false:=by rw[beq_eq_false_iff_ne];omega
 have b3:(x.kind==3)=false:=by rw[beq_eq_false_iff_ne];omega
 have b4:(x.kind==4)=false:=by rw[beq_eq_false_iff_ne];omega
 have b5:(x.kind==5)=false:=by rw[beq_eq_false_iff_ne];omega
 have b6:(x.kind==6)=false:=by rw[beq_eq_false_iff_ne];omega
 rcases hk with hk | hk
 ·go_enter Tryz.func51,Tryz.ntmps51
  go_wp2_with fail
  go_ret
  exact⟨by rw[E.out];rfl,zi w _⟩
 ·have qN:¬ x.kind<0:=by omega
  go_enter Tryz.func51,Tryz.ntmps51
  go_wp2_with fail
  go_ret
  exact⟨by rw[E.out];rfl,zi w _⟩
theorem YG (x:Itm):uv x:=by
 have main:∀ N,∀ x:Itm,cnt x≤N→uv x:=by
  intro N
  induction N with
  | zero =>
   intro x hx
   have:0<cnt x:=by cases x;rw[cnt];omega
   omega
  | succ N ih =>
   intro x hx H hT k n ba bl bc ia il ic w c d ha hH hc hd
   obtain⟨rfl,rfl,rfl,rfl,hi⟩:=ha.eqs_;have ih':∀ y:Itm,cnt y<cnt x→uv y:=fun y hy=>ih y (by omega)
   rcases Nat.eq_zero_or_pos c with h0 | h0
   ·subst h0
    exact aK x (H:=H) w d
   ·rcases(by omega:(x.kind<0∨8<x.kind)∨x.kind=0∨x.kind=1∨x.kind=2∨x.kind=3∨x.kind=4∨x.kind=5∨x.kind=6∨x.kind=7∨x.kind=8) with h | h | h | h | h | h | h | h | h | h
    ·exact Xt x h w c d h0 hc
    ·exact Vr x h hT ih' hi w hH c d h0 hc hd
    ·exact Vs x h hT ih' hi w hH c d h0 hc hd
    ·exact Vt x h hT ih' hi w hH c d h0 hc hd
    ·exact Vu x h hT ih' hi w hH c d h0 hc hd
    ·exact Vv x h hT ih' hi w hH c d h0 hc hd
    ·exact Vw x h hT ih' hi w hH c d h0 hc hd
    ·exact Vx x h hT ih' hi w hH c d h0 hc hd
    ·exact Vy x h hT ih' hi w hH c d h0 hc hd
    ·exact Vz x h hT ih' hi w hH c d h0 hc hd
 exact main _ x (Nat.le_refl _)
theorem dC {x:Itm}{r:Nat}(h:zN x 256 0=some r):Good x 0∧(zd x).length≤1099511627776:=by
 obtain⟨h1,h2,h3⟩:=vw _ _ _ _ h;have:=h1.bytes h2
 exact⟨h1,by omega⟩
theorem rK {H:Snap}(hT:Tabs H) {k n:Int}{ba:Option Addr}{bl bc:Nat}{ia:Option Addr}{il ic:Nat}{x:Itm}(hx:ItemA H k n ba bl bc ia il ic x) (w:World) (hH:Holds w H) :
  Calls Tryz.prog 35 #[.agg #[.int .i64 k,.int .u64 n,.slice ba bl bc,.slice ia il ic]] w fun e w'=>e=.returned (.bool (yW x))∧Below w.heap.size w w':=by
 obtain⟨rfl,rfl,rfl,rfl,pY⟩:=hx.eqs_;have hB:=Blk.new w 26 #[.int .i64 x.kind,.int .u64 x.n,.slice ba x.bytes.length bc,.slice ia x.items.length ic];have xj:=zi w (zW x ba bc ia ic);have Sf:=hH.alloc (zW x ba bc ia ic);have L:=Hh (YG x H hT _ _ _ _ _ _ _ _ (w.alloc (zW x ba bc ia ic)) 256 0 pY.arg Sf (by omega) (by omega));have E0:=ag x
 unfold iI at E0
 cases hl:zN x 256 0 with
 | none =>
  rw[hl]at L E0;have E:Hid (yW x=false):=by rw[Hid,← E0];rfl
  clear hl E0;go_enter Tryz.func35,Tryz.ntmps35
  go_wp2_with fail
  refine L.out.mono ?_
  rintro e w1 ⟨rfl,vg⟩
  have yR:=xj.trans (vg.mono xj.size)
  simp only[wM]
  go_wp2_with fail
  go_ret
  exact⟨by rw[E.out];rfl,yR⟩
 | some r =>
  rw[hl]at L E0;obtain⟨hg,tw⟩:=dC hl;have E:Hid (yW x=decide ((zd x).length≤4096)):=by rw[Hid,← E0];rfl
  have cH:(0:Int)≤(r:Int):=by omega
  have RW:=Hh (fun w1:World=>fun h1:Holds w1 H=>vB x H _ _ ba _ bc ia _ ic w1 0 hg tw pY.arg h1);have qD:=Hh tw;clear hl E0 hg tw;go_enter Tryz.func35,Tryz.ntmps35
  go_wp2_with fail
  refine L.out.mono ?_
  rintro e w1 ⟨rfl,vg⟩
  have yM:=hB.below vg;have yR:=xj.trans (vg.mono xj.size);have qG:=Sf.below vg (Nat.le_refl _);have c0:=yM.cell 0 rfl;have c1:=yM.cell 1 rfl;have c2:=yM.cell 2 rfl;have c3:=yM.cell 3 rfl
  simp only[wM]
  go_wp2_with fail
  refine(RW.out _ qG).mono ?_
  rintro e w2 ⟨r2,rfl,hf⟩
  obtain⟨RA,rc,rfl,_⟩:=hf.own.form;have gV:=yR.trans (hf.2.mono yR.size);have tw:=qD.out
  by_cases h4:(zd x).length≤4096
  ·have E1:Hid (yW x=true):=by rw[Hid,E.out,decide_eq_true h4]
   have LH:((zd x).length:Int)≤4096:=by omega
   generalize (zd x).length=q at *
   clear h4 hf;go_wp2_with fail
   go_ret
   exact⟨by rw[E1.out];rfl,gV⟩
  ·have E1:Hid (yW x=false):=by rw[Hid,E.out,decide_eq_false h4]
   have LH:¬ ((zd x).length:Int)≤4096:=by omega
   generalize (zd x).length=q at *
   clear h4 hf;go_wp2_with fail
   go_ret
   refine⟨?_,gV⟩
   rw[E1.out];show Ending.returned (Value.bool (decide _))=_
   rw[decide_eq_false (by omega)]
def Xe (w:World) (x:Itm) (e:Ending) (w':World):Prop :=
 (yW x=false∧e=.returned (.tuple #[.slice none 0 0,.int .i64 1])∧Below w.heap.size w w')∨
 (yW x=true∧∃ r,e=.returned (.tuple #[r,.int .i64 0])∧Fresh w (zd x) r w')
theorem dO {H:Snap}(hT:Tabs H) {k n:Int}{ba:Option Addr}{bl bc:Nat}{ia:Option Addr}{il ic:Nat}{x:Itm}(hx:ItemA H k n ba bl bc ia il ic x) (w:World) (hH:Holds w H) :
  Calls Tryz.prog 29 #[.agg #[.int .i64 k,.int .u64 n,.slice ba bl bc,.slice ia il ic]] w (Xe w x):=by
 obtain⟨rfl,rfl,rfl,rfl,pY⟩:=hx.eqs_;have qG:=hH.alloc (zW x ba bc ia ic);have vg:=zi w (zW x ba bc ia ic);have yM:=Blk.new w 26 #[.int .i64 x.kind,.int .u64 x.n,.slice ba x.bytes.length bc,.slice ia x.items.length ic];have V:=Hh (rK hT pY.arg _ qG);go_enter Tryz.func29,Tryz.ntmps29
 go_wp2_with fail
 refine V.out.mono ?_
 rintro e w2 ⟨rfl,wg⟩
 have yu:=yM.below wg;have b0:=yu.cell 0 rfl;have b1:=yu.cell 1 rfl;have b2:=yu.cell 2 rfl;have b3:=yu.cell 3 rfl;have py:=qG.below wg (Nat.le_refl _);have hb:=vg.trans (wg.mono vg.size)
 cases hv:yW x with
 | false =>
  have XH:=Hh hv;clear hv;go_wp2_with fail
  go_ret2
  exact .inl ⟨XH.out,rfl,hb⟩
 | true =>
  have hg:=(uz x).1 hv;have A:=Hh (vB x H _ _ ba _ bc ia _ ic w2 0 hg.1 (by omega) pY.arg py);have XH:=Hh hv;clear hv hg;go_wp2_with fail
  refine A.out.mono ?_
  rintro e w3 ⟨r,rfl,hf⟩
  go_wp2_with fail
  go_ret2
  exact .inr ⟨XH.out,_,rfl,hf.step hb⟩
theorem uR (n:Int) (h1 : -9223372036854775808≤n) (h2:n≤9223372036854775807) {H:Snap}(w:World) (hH:Holds w H) :
  Calls Tryz.prog 11 #[.int .i64 n] w fun e w'=>∃ v,e=.returned v∧Gives w H (zX n) v w':=by
 by_cases h0:n<0
 ·have E:Hid (zX n=.mk 1 (-1-n).toNat [] []∧(-1-n).toNat<18446744073709551616∧-1-n=((-1-n).toNat:Int)):=⟨by rw[zX,if_pos h0],by omega,by omega⟩
  have K1:IntKind.u64.wrap (-1-n) = -1-n:=by rw[IntKind.wrap_u64];omega
  have K0:IntKind.i64.wrap (-1-n) = -1-n:=IntWalk.i64_in _ (by omega);clear h1 h2;go_enter Tryz.func11,Tryz.ntmps11
  go_wp2_with fail
  refine yN rfl rfl (Blk.new _ _ _) rfl rfl zw rfl ?_
  rw[E.out.1]
  exact⟨_,rfl,Gives.plain hH (zi _ _) (by omega) E.out.2.1 E.out.2.2⟩
 ·have E:Hid (zX n=.mk 0 n.toNat [] []∧n.toNat<18446744073709551616∧n=(n.toNat:Int)):=⟨by rw[zX,if_neg h0],by omega,by omega⟩
  have K1:IntKind.u64.wrap n=n:=by rw[IntKind.wrap_u64];omega
  have hn:=Int.not_lt.1 h0;clear h1 h2 h0;go_enter Tryz.func11,Tryz.ntmps11
  go_wp2_with fail
  refine yN rfl rfl (Blk.new _ _ _) rfl rfl zw rfl ?_
  rw[E.out.1]
  exact⟨_,rfl,Gives.plain hH (zi _ _) (by omega) E.out.2.1 E.out.2.2⟩
theorem tS {A:Option Addr}{n c:Nat}{l:List UInt8}(hn:n=l.length) (hl:l.length≤1099511627776) {H:Snap}(w:World) (hs:Src w A (l.map zD)) (hH:Holds w H) :
  Calls Tryz.prog 12 #[.slice A n c] w fun e w'=>∃ v,e=.returned v∧Gives w H (.mk 2 0 l []) v w':=by
 have HN:=Hh hn;clear hn;have xE:=hs.alloc zr;go_enter Tryz.func12,Tryz.ntmps12
 go_wp2_with (at_builtin;refine ye ?_)
 refine zO rfl (.const (.slice none 0 0)) (.tmp 3) rfl (w.heap.size+1) (.slice none 0 0) [] rfl (OwnB.nil _ _) A n c l rfl HN.out xE (by simp;omega) (by simp) fun v' w1 hO hg _=>?_
 have hf:Fresh (w.alloc zr) l v' w1:=⟨by have:=hO.more (base':=(w.alloc zr).heap.size) (by simp);simpa [OwnB] using this,yo (by simpa [Value.ownBlock] using hg)⟩
 have hB:=(Blk.new w 26 #[.int .i64 0,.int .u64 0,.slice none 0 0,.slice none 0 0]).below hf.2;have HF:=Hh (hf.gives (k:=2) (hH.alloc zr) (by omega));obtain⟨A',c',rfl,_⟩:=hf.own.form;clear hO hg hf;go_wp2_with (with_reducible refine zx ?_)
 refine stI hB fun w2 yu yp=>?_
 go_wp2_with fail
 refine yN rfl rfl yu rfl rfl zw rfl ?_
 exact⟨_,rfl,HF.out.own (zi _ _) hH yp (Nat.le_refl _) (by simp)⟩
theorem fw (s:ByteArray) (hl:s.size≤1099511627776) {H:Snap}(w:World) (hH:Holds w H) :
  Calls Tryz.prog 31 #[.string s] w fun e w'=>∃ v,e=.returned v∧Gives w H (.mk 3 0 s.data.toList []) v w':=by
 obtain⟨g,c,w1,hr,hb,H',hG,hi⟩:=ef (hH.alloc zr) s hl;have hB:=(Blk.new w 26 #[.int .i64 0,.int .u64 0,.slice none 0 0,.slice none 0 0]).below hb
 have HI:Gives (w.alloc zr) H (.mk 3 0 s.data.toList []) (.agg #[.int .i64 3,.int .u64 0,.slice (some ⟨g,0,none⟩) s.size c,.slice none 0 0]) w1:=by
  refine⟨some ⟨g,0,none⟩,c,none,0,H',by simp[xN,Itm.kind,Itm.n,Itm.bytes,Itm.items],hG, ?_⟩
  rw[IsItem]
  exact⟨⟨by omega,by omega,by omega,Nat.le_refl _,by omega⟩,hi,fun h=>absurd h (by simp)⟩
 have Kx:=Hh HI;clear hb hi HI;go_enter Tryz.func31,Tryz.ntmps31
 go_wp2_with (with_reducible refine zx ?_)
 refine stI hB fun w2 yu yp=>?_
 go_wp2_with fail
 refine yN rfl rfl yu rfl rfl zw rfl ?_
 exact⟨_,rfl,Kx.out.own (zi _ _) hH yp (Nat.le_refl _) (by simp)⟩
end Go.Proofs.YtnlinmoiakgedaaGreatDoor
