/- squeezed. Walks: the references' left: numbe -/
import Derived.Test.YtliomcphdnppnaaGreatDoorK06
set_option linter.unusedVariables false
set_option linter.unusedSimpArgs false
set_option maxRecDepth 100000
set_option maxHeartbeats 6400000
namespace Go.Proofs.YtliomcphdnppnaaGreatDoor
open Go.RowKit
theorem U5 (x:Itm) (hk:x.kind=0) {H:Snap}(hT:Tabs H) (ih:∀ y:Itm,cnt y<cnt x→va y) {ba:Option Addr}{bc:Nat}{ia:Option Addr}{ic:Nat}(hx:IsItem H ba bc ia ic x) (w:World) (hH:Holds w H) (c d:Nat) (tM:0<c) (hc:c≤65536) (hd:d≤65536) :
  Calls Tryz.prog 111 #[xq x ba bc ia ic,.int .i64 c,.int .i64 d] w fun e w'=>e=.returned (.int .i64 (uW (yX x c d)))∧Below w.heap.size w w':=by
 have HX:=Hh hx;have vG:=hx.bounds;have hB:=Blk.new w 26 #[.int .i64 x.kind,.int .u64 x.n,.slice ba x.bytes.length bc,.slice ia x.items.length ic];have xz:=zq w (zi x ba bc ia ic);have rK:((c-1:Nat):Int)=(c:Int)-1:=by omega
 have uD:x.bytes.length≤9223372036854775807:=by omega
 have fg:x.items.length≤9223372036854775807:=by omega
 have HN:=Hh vG.2.2.1;have fq:¬ (c:Int)<1:=by omega
 have k0:¬ x.kind<0:=by omega
 have k8:¬ 8<x.kind:=by omega
 have HK:=Hh hk;have ij:=Hh rK;clear hx vG rK;obtain⟨b0,b1,b2,b3,b4,b5,b6,b7,b8⟩:=Xj hk;clear hk
 by_cases yP:x.n=0
 all_goals first | (have bn00:((x.n:Int) != 0)=false:=by simp[yP]) | (have bn00:((x.n:Int) != 0)=true:=by simp[yP])
 all_goals first | (have bn01:(x.n=0)=True:=by first | exact eq_true yP | exact eq_false yP) | (have bn01:(x.n=0)=False:=by first | exact eq_true yP | exact eq_false yP)
 all_goals have qH:=Hh yP
 all_goals clear yP
 all_goals
  go_enter Tryz.func111,Tryz.ntmps111
  go_upto_region 22 with fail
  any_goals
   (have ss:yq x d (c-1)=false:=by
     cases hq:yq x d (c-1) with
     | false=>rfl
     | true=>exact absurd ((o8 (.inl HK.out)).1 hq) (by have yP:=qH.out;omega)
    go_ret
    exact⟨by rw[wk ss];rfl,xz⟩)
  all_goals
   have xM:yq x d (c-1)=true:=(o8 (.inl HK.out)).2 ⟨by omega,by omega⟩;have uF:x.items.length=0:=by have yP:=qH.out;omega
   have hk:=HK.out;have E:Hid (yX x c d=some (c-1)):=vA tM xM uF;have Tb:¬ (0:Int)<x.items.length:=by omega
   have pA:¬ (2:Int)<x.items.length:=by omega
   have HI:=Hh uF;have HC:=Hh xM;clear uF hk xM;have c0:=hB.cell 0 rfl;have c3:=hB.cell 3 rfl;go_wp2_with fail
   refine wp_loop_rounds 1 ?_
   rw[rounds_succ];go_wp2_with fail
   refine wp_loop_rounds 1 ?_
   rw[rounds_succ];go_wp2_with fail
   go_ret
   exact⟨by rw[E.out,← ij.out];rfl,xz⟩
theorem U6 (x:Itm) (hk:x.kind=1) {H:Snap}(hT:Tabs H) (ih:∀ y:Itm,cnt y<cnt x→va y) {ba:Option Addr}{bc:Nat}{ia:Option Addr}{ic:Nat}(hx:IsItem H ba bc ia ic x) (w:World) (hH:Holds w H) (c d:Nat) (tM:0<c) (hc:c≤65536) (hd:d≤65536) :
  Calls Tryz.prog 111 #[xq x ba bc ia ic,.int .i64 c,.int .i64 d] w fun e w'=>e=.returned (.int .i64 (uW (yX x c d)))∧Below w.heap.size w w':=by
 have HX:=Hh hx;have vG:=hx.bounds;have hB:=Blk.new w 26 #[.int .i64 x.kind,.int .u64 x.n,.slice ba x.bytes.length bc,.slice ia x.items.length ic];have xz:=zq w (zi x ba bc ia ic);have rK:((c-1:Nat):Int)=(c:Int)-1:=by omega
 have uD:x.bytes.length≤9223372036854775807:=by omega
 have fg:x.items.length≤9223372036854775807:=by omega
 have HN:=Hh vG.2.2.1;have fq:¬ (c:Int)<1:=by omega
 have k0:¬ x.kind<0:=by omega
 have k8:¬ 8<x.kind:=by omega
 have HK:=Hh hk;have ij:=Hh rK;clear hx vG rK;obtain⟨b0,b1,b2,b3,b4,b5,b6,b7,b8⟩:=Xk hk;clear hk
 by_cases yP:x.n=0
 all_goals first | (have bn00:((x.n:Int) != 0)=false:=by simp[yP]) | (have bn00:((x.n:Int) != 0)=true:=by simp[yP])
 all_goals first | (have bn01:(x.n=0)=True:=by first | exact eq_true yP | exact eq_false yP) | (have bn01:(x.n=0)=False:=by first | exact eq_true yP | exact eq_false yP)
 all_goals have qH:=Hh yP
 all_goals clear yP
 all_goals
  go_enter Tryz.func111,Tryz.ntmps111
  go_upto_region 22 with fail
  any_goals
   (have ss:yq x d (c-1)=false:=by
     cases hq:yq x d (c-1) with
     | false=>rfl
     | true=>exact absurd ((o8 (.inr HK.out)).1 hq) (by have yP:=qH.out;omega)
    go_ret
    exact⟨by rw[wk ss];rfl,xz⟩)
  all_goals
   have xM:yq x d (c-1)=true:=(o8 (.inr HK.out)).2 ⟨by omega,by omega⟩;have uF:x.items.length=0:=by have yP:=qH.out;omega
   have hk:=HK.out;have E:Hid (yX x c d=some (c-1)):=vA tM xM uF;have Tb:¬ (0:Int)<x.items.length:=by omega
   have pA:¬ (2:Int)<x.items.length:=by omega
   have HI:=Hh uF;have HC:=Hh xM;clear uF hk xM;have c0:=hB.cell 0 rfl;have c3:=hB.cell 3 rfl;go_wp2_with fail
   refine wp_loop_rounds 1 ?_
   rw[rounds_succ];go_wp2_with fail
   refine wp_loop_rounds 1 ?_
   rw[rounds_succ];go_wp2_with fail
   go_ret
   exact⟨by rw[E.out,← ij.out];rfl,xz⟩
theorem U7 (x:Itm) (hk:x.kind=2) {H:Snap}(hT:Tabs H) (ih:∀ y:Itm,cnt y<cnt x→va y) {ba:Option Addr}{bc:Nat}{ia:Option Addr}{ic:Nat}(hx:IsItem H ba bc ia ic x) (w:World) (hH:Holds w H) (c d:Nat) (tM:0<c) (hc:c≤65536) (hd:d≤65536) :
  Calls Tryz.prog 111 #[xq x ba bc ia ic,.int .i64 c,.int .i64 d] w fun e w'=>e=.returned (.int .i64 (uW (yX x c d)))∧Below w.heap.size w w':=by
 have HX:=Hh hx;have vG:=hx.bounds;have hB:=Blk.new w 26 #[.int .i64 x.kind,.int .u64 x.n,.slice ba x.bytes.length bc,.slice ia x.items.length ic];have xz:=zq w (zi x ba bc ia ic);have rK:((c-1:Nat):Int)=(c:Int)-1:=by omega
 have uD:x.bytes.length≤9223372036854775807:=by omega
 have fg:x.items.length≤9223372036854775807:=by omega
 have HN:=Hh vG.2.2.1;have fq:¬ (c:Int)<1:=by omega
 have k0:¬ x.kind<0:=by omega
 have k8:¬ 8<x.kind:=by omega
 have HK:=Hh hk;have ij:=Hh rK;clear hx vG rK;obtain⟨b0,b1,b2,b3,b4,b5,b6,b7,b8⟩:=Xl hk;clear hk
 by_cases yP:x.n=0
 all_goals first | (have bn00:((x.n:Int) != 0)=false:=by simp[yP]) | (have bn00:((x.n:Int) != 0)=true:=by simp[yP])
 all_goals first | (have bn01:(x.n=0)=True:=by first | exact eq_true yP | exact eq_false yP) | (have bn01:(x.n=0)=False:=by first | exact eq_true yP | exact eq_false yP)
 all_goals have qH:=Hh yP
 all_goals clear yP
 all_goals
  go_enter Tryz.func111,Tryz.ntmps111
  go_upto_region 22 with fail
  any_goals
   (have ss:yq x d (c-1)=false:=by
     cases hq:yq x d (c-1) with
     | false=>rfl
     | true=>exact absurd ((ah HK.out).1 hq) (by have yP:=qH.out;omega)
    go_ret
    exact⟨by rw[wk ss];rfl,xz⟩)
  all_goals
   have xM:yq x d (c-1)=true:=(ah HK.out).2 ⟨qH.out,by omega,by omega⟩;have uF:x.items.length=0:=by have yP:=qH.out;omega
   have hk:=HK.out;have E:Hid (yX x c d=some (c-1)):=vA tM xM uF;have Tb:¬ (0:Int)<x.items.length:=by omega
   have pA:¬ (2:Int)<x.items.length:=by omega
   have HI:=Hh uF;have HC:=Hh xM;clear uF hk xM;have c0:=hB.cell 0 rfl;have c3:=hB.cell 3 rfl;go_wp2_with fail
   refine wp_loop_rounds 1 ?_
   rw[rounds_succ];go_wp2_with fail
   refine wp_loop_rounds 1 ?_
   rw[rounds_succ];go_wp2_with fail
   go_ret
   exact⟨by rw[E.out,← ij.out];rfl,xz⟩
theorem UD (x:Itm) (hk:x.kind=7) {H:Snap}(hT:Tabs H) (ih:∀ y:Itm,cnt y<cnt x→va y) {ba:Option Addr}{bc:Nat}{ia:Option Addr}{ic:Nat}(hx:IsItem H ba bc ia ic x) (w:World) (hH:Holds w H) (c d:Nat) (tM:0<c) (hc:c≤65536) (hd:d≤65536) :
  Calls Tryz.prog 111 #[xq x ba bc ia ic,.int .i64 c,.int .i64 d] w fun e w'=>e=.returned (.int .i64 (uW (yX x c d)))∧Below w.heap.size w w':=by
 have HX:=Hh hx;have vG:=hx.bounds;have hB:=Blk.new w 26 #[.int .i64 x.kind,.int .u64 x.n,.slice ba x.bytes.length bc,.slice ia x.items.length ic];have xz:=zq w (zi x ba bc ia ic);have rK:((c-1:Nat):Int)=(c:Int)-1:=by omega
 have uD:x.bytes.length≤9223372036854775807:=by omega
 have fg:x.items.length≤9223372036854775807:=by omega
 have HN:=Hh vG.2.2.1;have fq:¬ (c:Int)<1:=by omega
 have k0:¬ x.kind<0:=by omega
 have k8:¬ 8<x.kind:=by omega
 have HK:=Hh hk;have ij:=Hh rK;clear hx vG rK;obtain⟨b0,b1,b2,b3,b4,b5,b6,b7,b8⟩:=Xq hk;clear hk
 by_cases yP:x.n=0
 all_goals first | (have bn00:((x.n:Int) != 0)=false:=by simp[yP]) | (have bn00:((x.n:Int) != 0)=true:=by simp[yP])
 all_goals first | (have bn01:(x.n=0)=True:=by first | exact eq_true yP | exact eq_false yP) | (have bn01:(x.n=0)=False:=by first | exact eq_true yP | exact eq_false yP)
 all_goals have qH:=Hh yP
 all_goals clear yP
 all_goals
  go_enter Tryz.func111,Tryz.ntmps111
  go_upto_region 22 with fail
  any_goals
   (have ss:yq x d (c-1)=false:=by
     cases hq:yq x d (c-1) with
     | false=>rfl
     | true=>exact absurd ((ak HK.out).1 hq) (by have yP:=qH.out;omega)
    go_ret
    exact⟨by rw[wk ss];rfl,xz⟩)
  all_goals
   have xM:yq x d (c-1)=true:=(ak HK.out).2 ⟨by omega,by omega,by have yP:=qH.out;omega⟩;have uF:x.items.length=0:=by have yP:=qH.out;omega
   have hk:=HK.out;have E:Hid (yX x c d=some (c-1)):=vA tM xM uF;have Tb:¬ (0:Int)<x.items.length:=by omega
   have pA:¬ (2:Int)<x.items.length:=by omega
   have HI:=Hh uF;have HC:=Hh xM;clear uF hk xM;have c0:=hB.cell 0 rfl;have c3:=hB.cell 3 rfl;go_wp2_with fail
   refine wp_loop_rounds 1 ?_
   rw[rounds_succ];go_wp2_with fail
   refine wp_loop_rounds 1 ?_
   rw[rounds_succ];go_wp2_with fail
   go_ret
   exact⟨by rw[E.out,← ij.out];rfl,xz⟩
theorem U9 (x:Itm) (hk:x.kind=4) {H:Snap}(hT:Tabs H) (ih:∀ y:Itm,cnt y<cnt x→va y) {ba:Option Addr}{bc:Nat}{ia:Option Addr}{ic:Nat}(hx:IsItem H ba bc ia ic x) (w:World) (hH:Holds w H) (c d:Nat) (tM:0<c) (hc:c≤65536) (hd:d≤65536) :
  Calls Tryz.prog 111 #[xq x ba bc ia ic,.int .i64 c,.int .i64 d] w fun e w'=>e=.returned (.int .i64 (uW (yX x c d)))∧Below w.heap.size w w':=by
 have HX:=Hh hx;have vG:=hx.bounds;have hB:=Blk.new w 26 #[.int .i64 x.kind,.int .u64 x.n,.slice ba x.bytes.length bc,.slice ia x.items.length ic];have xz:=zq w (zi x ba bc ia ic);have rK:((c-1:Nat):Int)=(c:Int)-1:=by omega
 have uD:x.bytes.length≤9223372036854775807:=by omega
 have fg:x.items.length≤9223372036854775807:=by omega
 have HN:=Hh vG.2.2.1;have fq:¬ (c:Int)<1:=by omega
 have k0:¬ x.kind<0:=by omega
 have k8:¬ 8<x.kind:=by omega
 have HK:=Hh hk;have ij:=Hh rK;clear hx vG rK;obtain⟨b0,b1,b2,b3,b4,b5,b6,b7,b8⟩:=Xn hk;clear hk
 by_cases yP:x.n=0
 all_goals first | have bn00:((x.n:Int) != 0)=false:=by(simp[yP];done) | have bn00:((x.n:Int) != 0)=true:=by simp[yP]
 all_goals first | have bn01:(x.n=0)=True:=eq_true yP | have bn01:(x.n=0)=False:=eq_false yP
 all_goals have qH:=Hh yP
 all_goals clear yP
 all_goals
  by_cases tt:0<x.items.length
  ·have bpos0:(0:Int)<x.items.length:=by omega
   have oI:=Hh tt;clear tt;go_enter Tryz.func111,Tryz.ntmps111
   go_upto_region 22 with fail
   any_goals
    (have ss:yq x d (c-1)=false:=by
      cases hq:yq x d (c-1) with
      | false=>rfl
      | true=>exact absurd ((wY (by have:=HK.out;omega)).1 hq) (by have yP:=qH.out;have tt:=oI.out;have hk:=HK.out;omega)
     go_ret
     exact⟨by rw[wk ss];rfl,xz⟩)
   all_goals
    have HG:Hid (yq x d (c-1)=true):=(wY (by have:=HK.out;omega)).2 ⟨by omega,by omega,fun h=>by have:=HK.out;omega,fun _=>qH.out,fun h=>by have:=HK.out;omega,by omega⟩;have c0:=hB.cell 0 rfl;have c3:=hB.cell 3 rfl;go_wp2_with fail
    have VY:=hB;have zJ:=xz;go_loopw [1,157] (fun v1 v157 wr=>∃ (j r:Nat),j≤x.items.length∧r≤c∧v157=.int .i64 j∧v1=.int .i64 r∧xf (x.items.drop j) r (d+1)=xf x.items (c-1) (d+1)∧Below w.heap.size w wr∧Blk wr w.heap.size 26 #[.int .i64 x.kind,.int .u64 x.n,.slice ba x.bytes.length bc,.slice ia x.items.length ic]) (fun _ v157 _=>x.items.length-(intOf v157).toNat)
    case atStart=>exact⟨0,c-1,Nat.zero_le _,by omega,rfl,by rw[ij.out],rfl,zJ,VY⟩
    case round =>
    obtain⟨j,r,hj,dW,rfl,rfl,Yg,yS,oe⟩:=hrel;have YN:=Hh Yg;clear Yg
    by_cases zB:j<x.items.length
    ·have yD:Holds wr H:=hH.below yS (Nat.le_refl _);obtain⟨ib,io,tf,xI⟩:=HX.out.items (by omega);obtain⟨eba,ebc,eia,eic,q0,q1,q2,q3,vW⟩:=xI.get j zB;subst tf;have p0:=yD.cell q0;have p1:=yD.cell q1;have p2:=yD.cell q2;have p3:=yD.cell q3;have tX:xf (x.items.drop j) r (d+1)=match yX x.items[j] r (d+1) with | none=>none | some r'=>xf (x.items.drop (j+1)) r' (d+1):=by rw[List.drop_eq_getElem_cons zB,xf];cases yX x.items[j] r (d+1) <;> rfl
     have vR:=Hh (tX.symm.trans YN.out);clear tX;have IHC:=ih x.items[j] (vx x j zB) H hT _ _ eba _ ebc eia _ eic (wr.alloc (zi x.items[j] eba ebc eia eic)) r (d+1) vW.arg (yD.alloc _) (by omega) (by omega);rw[show((d+1:Nat):Int)=(d:Int)+1 by omega]at IHC;have IHH:=Hh IHC;have uL:=yS.alloc yS.size (zi x.items[j] eba ebc eia eic);have mM:=oe.alloc (zi x.items[j] eba ebc eia eic);clear IHC q0 q1 q2 q3
     cases hq:yX x.items[j] r (d+1) with
     | none =>
      rw[hq]at IHH vR;have E:Hid (yX x c d=none):=by rw[Hid,un,if_neg (by omega),if_neg (by simp[HG.out]),← vR.out]
      clear hq vR;go_wp2_with fail
      refine IHH.out.mono ?_
      rintro e w6 ⟨rfl,xT⟩
      have vh:=uL.trans (xT.mono uL.size)
      simp only[uW]
      go_wp2_with fail
      go_ret
      exact⟨by rw[E.out];rfl,vh⟩
     | some r' =>
     rw[hq]at IHH vR;have Po:=(sz _ _ _ _ hq).2.2;have YL:Hid (xf (x.items.drop (j+1)) r' (d+1)=xf x.items (c-1) (d+1)):=vR.out;clear hq vR;have LT:(0:Int)≤(r':Int):=by omega
     have YI:r'≤c:=by omega
     go_wp2_with fail
     refine IHH.out.mono ?_
     rintro e w6 ⟨rfl,xT⟩
     have vh:=uL.trans (xT.mono uL.size);have SS:=mM.below xT
     simp only[uW]
     clear yS oe uL mM xT IHH p0 p1 p2 p3 Po yD;go_wp2_with fail
     go_roundw
     case rel=>exact⟨j+1,r',by omega,YI,by go_num,rfl,YL.out,vh,SS⟩
     case measure=>simp[intOf];omega
    have ip:j=x.items.length:=by omega
    subst ip;have vD:xf x.items (c-1) (d+1)=some r:=by rw[← YN.out,List.drop_length,xf]
    have dD:=Hh vD;clear vD YN
    have E:Hid (yX x c d=some r):=by
     rw[Hid,un,if_neg (by omega),if_neg (by simp[HG.out]),dD.out]
     simp only
     rw[if_neg (by rintro⟨h5,_⟩;rw[h5]at b5;cases b5)]
    have c0:=oe.cell 0 rfl;go_wp2_with fail
    refine wp_loop_rounds 1 ?_
    rw[rounds_succ];go_wp2_with fail
    go_ret
    exact⟨by rw[E.out];rfl,yS⟩
  have bpos0:¬ (0:Int)<x.items.length:=by omega
  have oI:=Hh tt;clear tt;go_enter Tryz.func111,Tryz.ntmps111
  go_upto_region 22 with fail
  any_goals
   (have ss:yq x d (c-1)=false:=by
     cases hq:yq x d (c-1) with
     | false=>rfl
     | true=>exact absurd ((wY (by have:=HK.out;omega)).1 hq) (by have yP:=qH.out;have tt:=oI.out;have hk:=HK.out;omega)
    go_ret
    exact⟨by rw[wk ss];rfl,xz⟩)
  all_goals
   have xM:yq x d (c-1)=true:=(wY (by have:=HK.out;omega)).2 ⟨by omega,by omega,fun h=>by have:=HK.out;omega,fun _=>qH.out,fun h=>by have:=HK.out;omega,by omega⟩;have uF:x.items.length=0:=by have yP:=qH.out;have tt:=oI.out;have hk:=HK.out;omega
   have hk:=HK.out;have E:Hid (yX x c d=some (c-1)):=vA tM xM uF;have Tb:¬ (0:Int)<x.items.length:=by omega
   have pA:¬ (2:Int)<x.items.length:=by omega
   have HI:=Hh uF;have HC:=Hh xM;clear uF hk xM;have c0:=hB.cell 0 rfl;have c3:=hB.cell 3 rfl;go_wp2_with fail
   refine wp_loop_rounds 1 ?_
   rw[rounds_succ];go_wp2_with fail
   refine wp_loop_rounds 1 ?_
   rw[rounds_succ];go_wp2_with fail
   go_ret
   exact⟨by rw[E.out,← ij.out];rfl,xz⟩
theorem UC (x:Itm) (hk:x.kind=6) {H:Snap}(hT:Tabs H) (ih:∀ y:Itm,cnt y<cnt x→va y) {ba:Option Addr}{bc:Nat}{ia:Option Addr}{ic:Nat}(hx:IsItem H ba bc ia ic x) (w:World) (hH:Holds w H) (c d:Nat) (tM:0<c) (hc:c≤65536) (hd:d≤65536) :
  Calls Tryz.prog 111 #[xq x ba bc ia ic,.int .i64 c,.int .i64 d] w fun e w'=>e=.returned (.int .i64 (uW (yX x c d)))∧Below w.heap.size w w':=by
 have HX:=Hh hx;have vG:=hx.bounds;have hB:=Blk.new w 26 #[.int .i64 x.kind,.int .u64 x.n,.slice ba x.bytes.length bc,.slice ia x.items.length ic];have xz:=zq w (zi x ba bc ia ic);have rK:((c-1:Nat):Int)=(c:Int)-1:=by omega
 have uD:x.bytes.length≤9223372036854775807:=by omega
 have fg:x.items.length≤9223372036854775807:=by omega
 have HN:=Hh vG.2.2.1;have fq:¬ (c:Int)<1:=by omega
 have k0:¬ x.kind<0:=by omega
 have k8:¬ 8<x.kind:=by omega
 have HK:=Hh hk;have ij:=Hh rK;clear hx vG rK;obtain⟨b0,b1,b2,b3,b4,b5,b6,b7,b8⟩:=Xp hk;clear hk
 by_cases yP:x.n=0
 all_goals first | have bn00:((x.n:Int) != 0)=false:=by(simp[yP];done) | have bn00:((x.n:Int) != 0)=true:=by simp[yP]
 all_goals first | have bn01:(x.n=0)=True:=eq_true yP | have bn01:(x.n=0)=False:=eq_false yP
 all_goals have qH:=Hh yP
 all_goals clear yP
 all_goals by_cases gi:x.items.length=1
 all_goals first | have bone0:((x.items.length:Int) != 1)=false:=by(rw[bne_eq_false_iff_eq];omega) | have bone0:((x.items.length:Int) != 1)=true:=by(rw[bne_iff_ne];omega)
 all_goals have dE:=Hh gi
 all_goals clear gi
 all_goals
  by_cases tt:0<x.items.length
  ·have bpos0:(0:Int)<x.items.length:=by omega
   have oI:=Hh tt;clear tt;go_enter Tryz.func111,Tryz.ntmps111
   go_upto_region 22 with fail
   any_goals
    (have ss:yq x d (c-1)=false:=by
      cases hq:yq x d (c-1) with
      | false=>rfl
      | true=>exact absurd ((wY (by have:=HK.out;omega)).1 hq) (by have yP:=qH.out;have gi:=dE.out;have tt:=oI.out;have hk:=HK.out;omega)
     go_ret
     exact⟨by rw[wk ss];rfl,xz⟩)
   all_goals
    have HG:Hid (yq x d (c-1)=true):=(wY (by have:=HK.out;omega)).2 ⟨by omega,by omega,fun h=>dE.out,fun h=>by have:=HK.out;omega,fun h=>by have:=HK.out;omega,by omega⟩;have c0:=hB.cell 0 rfl;have c3:=hB.cell 3 rfl;go_wp2_with fail
    have VY:=hB;have zJ:=xz;go_loopw [1,157] (fun v1 v157 wr=>∃ (j r:Nat),j≤x.items.length∧r≤c∧v157=.int .i64 j∧v1=.int .i64 r∧xf (x.items.drop j) r (d+1)=xf x.items (c-1) (d+1)∧Below w.heap.size w wr∧Blk wr w.heap.size 26 #[.int .i64 x.kind,.int .u64 x.n,.slice ba x.bytes.length bc,.slice ia x.items.length ic]) (fun _ v157 _=>x.items.length-(intOf v157).toNat)
    case atStart=>exact⟨0,c-1,Nat.zero_le _,by omega,rfl,by rw[ij.out],rfl,zJ,VY⟩
    case round =>
    obtain⟨j,r,hj,dW,rfl,rfl,Yg,yS,oe⟩:=hrel;have YN:=Hh Yg;clear Yg
    by_cases zB:j<x.items.length
    ·have yD:Holds wr H:=hH.below yS (Nat.le_refl _);obtain⟨ib,io,tf,xI⟩:=HX.out.items (by omega);obtain⟨eba,ebc,eia,eic,q0,q1,q2,q3,vW⟩:=xI.get j zB;subst tf;have p0:=yD.cell q0;have p1:=yD.cell q1;have p2:=yD.cell q2;have p3:=yD.cell q3;have tX:xf (x.items.drop j) r (d+1)=match yX x.items[j] r (d+1) with | none=>none | some r'=>xf (x.items.drop (j+1)) r' (d+1):=by rw[List.drop_eq_getElem_cons zB,xf];cases yX x.items[j] r (d+1) <;> rfl
     have vR:=Hh (tX.symm.trans YN.out);clear tX;have IHC:=ih x.items[j] (vx x j zB) H hT _ _ eba _ ebc eia _ eic (wr.alloc (zi x.items[j] eba ebc eia eic)) r (d+1) vW.arg (yD.alloc _) (by omega) (by omega);rw[show((d+1:Nat):Int)=(d:Int)+1 by omega]at IHC;have IHH:=Hh IHC;have uL:=yS.alloc yS.size (zi x.items[j] eba ebc eia eic);have mM:=oe.alloc (zi x.items[j] eba ebc eia eic);clear IHC q0 q1 q2 q3
     cases hq:yX x.items[j] r (d+1) with
     | none =>
      rw[hq]at IHH vR;have E:Hid (yX x c d=none):=by rw[Hid,un,if_neg (by omega),if_neg (by simp[HG.out]),← vR.out]
      clear hq vR;go_wp2_with fail
      refine IHH.out.mono ?_
      rintro e w6 ⟨rfl,xT⟩
      have vh:=uL.trans (xT.mono uL.size)
      simp only[uW]
      go_wp2_with fail
      go_ret
      exact⟨by rw[E.out];rfl,vh⟩
     | some r' =>
     rw[hq]at IHH vR;have Po:=(sz _ _ _ _ hq).2.2;have YL:Hid (xf (x.items.drop (j+1)) r' (d+1)=xf x.items (c-1) (d+1)):=vR.out;clear hq vR;have LT:(0:Int)≤(r':Int):=by omega
     have YI:r'≤c:=by omega
     go_wp2_with fail
     refine IHH.out.mono ?_
     rintro e w6 ⟨rfl,xT⟩
     have vh:=uL.trans (xT.mono uL.size);have SS:=mM.below xT
     simp only[uW]
     clear yS oe uL mM xT IHH p0 p1 p2 p3 Po yD;go_wp2_with fail
     go_roundw
     case rel=>exact⟨j+1,r',by omega,YI,by go_num,rfl,YL.out,vh,SS⟩
     case measure=>simp[intOf];omega
    have ip:j=x.items.length:=by omega
    subst ip;have vD:xf x.items (c-1) (d+1)=some r:=by rw[← YN.out,List.drop_length,xf]
    have dD:=Hh vD;clear vD YN
    have E:Hid (yX x c d=some r):=by
     rw[Hid,un,if_neg (by omega),if_neg (by simp[HG.out]),dD.out]
     simp only
     rw[if_neg (by rintro⟨h5,_⟩;rw[h5]at b5;cases b5)]
    have c0:=oe.cell 0 rfl;go_wp2_with fail
    refine wp_loop_rounds 1 ?_
    rw[rounds_succ];go_wp2_with fail
    go_ret
    exact⟨by rw[E.out];rfl,yS⟩
  have bpos0:¬ (0:Int)<x.items.length:=by omega
  have oI:=Hh tt;clear tt;go_enter Tryz.func111,Tryz.ntmps111
  go_upto_region 22 with fail
  any_goals
   (have ss:yq x d (c-1)=false:=by
     cases hq:yq x d (c-1) with
     | false=>rfl
     | true=>exact absurd ((wY (by have:=HK.out;omega)).1 hq) (by have yP:=qH.out;have gi:=dE.out;have tt:=oI.out;have hk:=HK.out;omega)
    go_ret
    exact⟨by rw[wk ss];rfl,xz⟩)
  all_goals
   have xM:yq x d (c-1)=true:=(wY (by have:=HK.out;omega)).2 ⟨by omega,by omega,fun h=>dE.out,fun h=>by have:=HK.out;omega,fun h=>by have:=HK.out;omega,by omega⟩;have uF:x.items.length=0:=by have yP:=qH.out;have gi:=dE.out;have tt:=oI.out;have hk:=HK.out;omega
   have hk:=HK.out;have E:Hid (yX x c d=some (c-1)):=vA tM xM uF;have Tb:¬ (0:Int)<x.items.length:=by omega
   have pA:¬ (2:Int)<x.items.length:=by omega
   have HI:=Hh uF;have HC:=Hh xM;clear uF hk xM;have c0:=hB.cell 0 rfl;have c3:=hB.cell 3 rfl;go_wp2_with fail
   refine wp_loop_rounds 1 ?_
   rw[rounds_succ];go_wp2_with fail
   refine wp_loop_rounds 1 ?_
   rw[rounds_succ];go_wp2_with fail
   go_ret
   exact⟨by rw[E.out,← ij.out];rfl,xz⟩
theorem UB (x:Itm) (hk:x.kind=5) {H:Snap}(hT:Tabs H) (ih:∀ y:Itm,cnt y<cnt x→va y) {ba:Option Addr}{bc:Nat}{ia:Option Addr}{ic:Nat}(hx:IsItem H ba bc ia ic x) (w:World) (hH:Holds w H) (c d:Nat) (tM:0<c) (hc:c≤65536) (hd:d≤65536) :
  Calls Tryz.prog 111 #[xq x ba bc ia ic,.int .i64 c,.int .i64 d] w fun e w'=>e=.returned (.int .i64 (uW (yX x c d)))∧Below w.heap.size w w':=by
 have HX:=Hh hx;have vG:=hx.bounds;have hB:=Blk.new w 26 #[.int .i64 x.kind,.int .u64 x.n,.slice ba x.bytes.length bc,.slice ia x.items.length ic];have xz:=zq w (zi x ba bc ia ic);have rK:((c-1:Nat):Int)=(c:Int)-1:=by omega
 have uD:x.bytes.length≤9223372036854775807:=by omega
 have fg:x.items.length≤9223372036854775807:=by omega
 have HN:=Hh vG.2.2.1;have fq:¬ (c:Int)<1:=by omega
 have k0:¬ x.kind<0:=by omega
 have k8:¬ 8<x.kind:=by omega
 have HK:=Hh hk;have ij:=Hh rK;clear hx vG rK;obtain⟨b0,b1,b2,b3,b4,b5,b6,b7,b8⟩:=Xo hk;clear hk
 by_cases yP:x.n=0
 all_goals first | have bn00:((x.n:Int) != 0)=false:=by(simp[yP];done) | have bn00:((x.n:Int) != 0)=true:=by simp[yP]
 all_goals first | have bn01:(x.n=0)=True:=eq_true yP | have bn01:(x.n=0)=False:=eq_false yP
 all_goals have qH:=Hh yP
 all_goals clear yP
 all_goals by_cases xB:x.items.length%2=0
 all_goals first | have beven0:((x.items.length:Int)%2 != 0)=false:=by(rw[bne_eq_false_iff_eq];omega) | have beven0:((x.items.length:Int)%2 != 0)=true:=by(rw[bne_iff_ne];omega)
 all_goals have fO:=Hh xB
 all_goals clear xB
 all_goals
  by_cases tt:0<x.items.length
  ·have bpos0:(0:Int)<x.items.length:=by omega
   have oI:=Hh tt;clear tt;go_enter Tryz.func111,Tryz.ntmps111
   go_upto_region 22 with fail
   any_goals
    (have ss:yq x d (c-1)=false:=by
      cases hq:yq x d (c-1) with
      | false=>rfl
      | true=>exact absurd ((wY (by have:=HK.out;omega)).1 hq) (by have yP:=qH.out;have xB:=fO.out;have tt:=oI.out;have hk:=HK.out;omega)
     go_ret
     exact⟨by rw[wk ss];rfl,xz⟩)
   all_goals
    have HG:Hid (yq x d (c-1)=true):=(wY (by have:=HK.out;omega)).2 ⟨by omega,by omega,fun h=>by have:=HK.out;omega,fun _=>qH.out,fun h=>fO.out,by omega⟩;have c0:=hB.cell 0 rfl;have c3:=hB.cell 3 rfl;go_wp2_with fail
    have VY:=hB;have zJ:=xz;go_loopw [1,157] (fun v1 v157 wr=>∃ (j r:Nat),j≤x.items.length∧r≤c∧v157=.int .i64 j∧v1=.int .i64 r∧xf (x.items.drop j) r (d+1)=xf x.items (c-1) (d+1)∧Below w.heap.size w wr∧Blk wr w.heap.size 26 #[.int .i64 x.kind,.int .u64 x.n,.slice ba x.bytes.length bc,.slice ia x.items.length ic]) (fun _ v157 _=>x.items.length-(intOf v157).toNat)
    case atStart=>exact⟨0,c-1,Nat.zero_le _,by omega,rfl,by rw[ij.out],rfl,zJ,VY⟩
    case round =>
    obtain⟨j,r,hj,dW,rfl,rfl,Yg,yS,oe⟩:=hrel;have YN:=Hh Yg;clear Yg
    by_cases zB:j<x.items.length
    ·have yD:Holds wr H:=hH.below yS (Nat.le_refl _);obtain⟨ib,io,tf,xI⟩:=HX.out.items (by omega);obtain⟨eba,ebc,eia,eic,q0,q1,q2,q3,vW⟩:=xI.get j zB;subst tf;have p0:=yD.cell q0;have p1:=yD.cell q1;have p2:=yD.cell q2;have p3:=yD.cell q3;have tX:xf (x.items.drop j) r (d+1)=match yX x.items[j] r (d+1) with | none=>none | some r'=>xf (x.items.drop (j+1)) r' (d+1):=by rw[List.drop_eq_getElem_cons zB,xf];cases yX x.items[j] r (d+1) <;> rfl
     have vR:=Hh (tX.symm.trans YN.out);clear tX;have IHC:=ih x.items[j] (vx x j zB) H hT _ _ eba _ ebc eia _ eic (wr.alloc (zi x.items[j] eba ebc eia eic)) r (d+1) vW.arg (yD.alloc _) (by omega) (by omega);rw[show((d+1:Nat):Int)=(d:Int)+1 by omega]at IHC;have IHH:=Hh IHC;have uL:=yS.alloc yS.size (zi x.items[j] eba ebc eia eic);have mM:=oe.alloc (zi x.items[j] eba ebc eia eic);clear IHC q0 q1 q2 q3
     cases hq:yX x.items[j] r (d+1) with
     | none =>
      rw[hq]at IHH vR;have E:Hid (yX x c d=none):=by rw[Hid,un,if_neg (by omega),if_neg (by simp[HG.out]),← vR.out]
      clear hq vR;go_wp2_with fail
      refine IHH.out.mono ?_
      rintro e w6 ⟨rfl,xT⟩
      have vh:=uL.trans (xT.mono uL.size)
      simp only[uW]
      go_wp2_with fail
      go_ret
      exact⟨by rw[E.out];rfl,vh⟩
     | some r' =>
     rw[hq]at IHH vR;have Po:=(sz _ _ _ _ hq).2.2;have YL:Hid (xf (x.items.drop (j+1)) r' (d+1)=xf x.items (c-1) (d+1)):=vR.out;clear hq vR;have LT:(0:Int)≤(r':Int):=by omega
     have YI:r'≤c:=by omega
     go_wp2_with fail
     refine IHH.out.mono ?_
     rintro e w6 ⟨rfl,xT⟩
     have vh:=uL.trans (xT.mono uL.size);have SS:=mM.below xT
     simp only[uW]
     clear yS oe uL mM xT IHH p0 p1 p2 p3 Po yD;go_wp2_with fail
     go_roundw
     case rel=>exact⟨j+1,r',by omega,YI,by go_num,rfl,YL.out,vh,SS⟩
     case measure=>simp[intOf];omega
    have ip:j=x.items.length:=by omega
    subst ip;have vD:xf x.items (c-1) (d+1)=some r:=by rw[← YN.out,List.drop_length,xf]
    have dD:=Hh vD;clear vD YN;obtain⟨wH,Ih,sD⟩:=oV _ _ _ _ dD.out;have W9:=Hh wH;have uD:(zM x.items).length≤1099511627776:=by have:=GoodL.bytes wH Ih;omega
    have fZ:=Hh uD;have h5:x.kind=5:=by simpa using b5
    have H5:=Hh h5;clear wH Ih sD uD h5;go_wp2_with fail
    go_loopw [11] (fun v11 wz=>∃ i:Nat,2≤i∧i≤x.items.length+2∧v11=.int .i64 i∧xY (x.items.drop (i-2))=xY x.items∧Below w.heap.size w wz∧Blk wz w.heap.size 26 #[.int .i64 x.kind,.int .u64 x.n,.slice ba x.bytes.length bc,.slice ia x.items.length ic]) (fun v11 _=>(x.items.length+2)-(intOf v11).toNat)
    case atStart=>exact⟨2,by omega,by omega,rfl,rfl,yS,oe⟩
    case round =>
    obtain⟨i,pI,Dv,rfl,qC,mu,ms⟩:=hrel;have HA:=Hh qC;have c0:=ms.cell 0 rfl;have c3:=ms.cell 3 rfl;clear qC yS oe
    by_cases hlt2:i<x.items.length
    ·have FO:Holds wr H:=hH.below mu (Nat.le_refl _);obtain⟨ib,io,tf,xI⟩:=HX.out.items (by omega);obtain⟨y1,y2,y3,y4,p0,p1,p2,p3,hy⟩:=xI.get (i-2) (by omega);obtain⟨z1,z2,z3,z4,q0,q1,q2,q3,hz⟩:=xI.get i hlt2;subst tf;have hd:=mz x.items i pI hlt2;rw[HA.out]at hd;have IJ:=W9.out.get x.items[i-2] (List.getElem_mem (by omega));have wm:=W9.out.get x.items[i] (List.getElem_mem hlt2);have jj:=o0 (List.getElem_mem (show i-2<x.items.length by omega));have Td:=o0 (List.getElem_mem hlt2);have Du:(2:Int)≤i:=by omega
     have EI:((i:Int)-2).toNat=i-2:=by omega
     have Kn:IntKind.i64.wrap ((i:Int)-2)=(i:Int)-2:=IntWalk.i64_in _ (by omega);have Kb:(0:Int)≤(i:Int)-2:=by omega
     have Q5:(i:Int)-2<x.items.length:=by omega
     have Q6:(i:Int)<x.items.length:=by omega
     generalize x.items[i-2]'(by omega)=y at *
     generalize x.items[i]'hlt2=z at *
     have uD:=fZ.out;have RY:=Hh (fun w1:World=>fun h1:Holds w1 H=>sH y H _ _ y1 _ y2 y3 _ y4 w1 (d+1) IJ (by omega) hy.arg h1);have RZ:=Hh (fun w1:World=>fun h1:Holds w1 H=>sH z H _ _ z1 _ z2 z3 _ z4 w1 (d+1) wm (by omega) hz.arg h1);have Iv:(zh y).length≤1099511627776:=by omega
     have GI:(zh z).length≤1099511627776:=by omega
     have HD:=Hh hd;clear IJ wm jj Td uD hd xI;go_upto_region 32 with fail
     have vF:=ms.drew;have yw:=mu.drew;have zQ:=FO.drew
     refine zw 14 (fun w'=>w'.cell? ⟨w.heap.size,3,none⟩=some (.slice (some ⟨ib,io,none⟩) x.items.length ic)∧w'.cell? ⟨ib,io+(i-2)*4,none⟩=some (.int .i64 y.kind)∧w'.cell? ⟨ib,io+(i-2)*4+1,none⟩=some (.int .u64 y.n)∧w'.cell? ⟨ib,io+(i-2)*4+2,none⟩=some (.slice y1 y.bytes.length y2)∧w'.cell? ⟨ib,io+(i-2)*4+3,none⟩=some (.slice y3 y.items.length y4)∧w'.cell? ⟨ib,io+i*4,none⟩=some (.int .i64 z.kind)∧w'.cell? ⟨ib,io+i*4+1,none⟩=some (.int .u64 z.n)∧w'.cell? ⟨ib,io+i*4+2,none⟩=some (.slice z1 z.bytes.length z2)∧w'.cell? ⟨ib,io+i*4+3,none⟩=some (.slice z3 z.items.length z4)) (by kernel_rfl) (⟨vF.cell 3 rfl,zQ.cell p0,zQ.cell p1,zQ.cell p2,zQ.cell p3,zQ.cell q0,zQ.cell q1,zQ.cell q2,zQ.cell q3⟩) (fun zy=>?_)
     refine Tk 0 rfl zy ?_
     refine Tk 1 rfl zy ?_
     refine Tk 2 rfl zy ?_
     refine Tk 3 rfl zy ?_
     refine Tk 4 rfl zy ?_
     refine Tk 5 rfl zy ?_
     refine Tk 7 rfl zy ?_
     refine Tk 8 rfl zy ?_
     refine Tk 9 rfl zy ?_
     refine Tk 10 rfl zy ?_
     refine Tk 11 rfl zy ?_
     refine To 6 rfl fun K hK=>?_
     go_simp
     refine(RY.out _ zQ).mono ?_
     rintro e wA ⟨rA,rfl,QK⟩
     obtain⟨AA,ca,rfl,_⟩:=QK.own.form;have Pq:=QK.own.src
     try have Ps:=Ps.below QK.2
     have zQ:=zQ.below QK.2 (Nat.le_refl _);have vF:=vF.below QK.2;have yw:=yw.trans (QK.2.mono yw.size)
     refine Ko hK ?_ fun zy=>?_
     ·exact⟨vF.cell 3 rfl,zQ.cell p0,zQ.cell p1,zQ.cell p2,zQ.cell p3,zQ.cell q0,zQ.cell q1,zQ.cell q2,zQ.cell q3⟩
     clear hK K
     refine To 12 rfl fun K hK=>?_
     go_simp
     refine(RZ.out _ zQ).mono ?_
     rintro e wB ⟨rB,rfl,QL⟩
     obtain⟨BB,cb,rfl,_⟩:=QL.own.form;have Ps:=QL.own.src
     try have Pq:=Pq.below QL.2
     have zQ:=zQ.below QL.2 (Nat.le_refl _);have vF:=vF.below QL.2;have yw:=yw.trans (QL.2.mono yw.size)
     refine Ko hK ?_ fun zy=>?_
     ·exact⟨vF.cell 3 rfl,zQ.cell p0,zQ.cell p1,zQ.cell p2,zQ.cell p3,zQ.cell q0,zQ.cell q1,zQ.cell q2,zQ.cell q3⟩
     clear hK K
     refine To 13 rfl fun K hK=>?_
     go_simp
     refine(sG _ AA BB (zh y) (zh z) _ _ ca cb rfl rfl Iv GI Pq Ps).mono ?_
     rintro e wC ⟨rfl,L6⟩
     have zQ:=zQ.below L6 (Nat.le_refl _);have vF:=vF.below L6;have yw:=yw.trans (L6.mono yw.size)
     refine Ko hK ?_ fun zy=>?_
     ·exact⟨vF.cell 3 rfl,zQ.cell p0,zQ.cell p1,zQ.cell p2,zQ.cell p3,zQ.cell q0,zQ.cell q1,zQ.cell q2,zQ.cell q3⟩
     clear hK K
     refine To 14 rfl fun K hK=>?_
     go_simp
     refine Kz hK ?_
     clear hK K
     refine Wd ?_
     clear zy
     by_cases rD:Lib.compareBytes (zh y) (zh z)<0
     ·have fe:¬ (0:Int)≤Lib.compareBytes (zh y) (zh z):=by omega
      have HN:Hid (xY (x.items.drop (i+2-2))=xY x.items):=by rw[Hid,Nat.add_sub_cancel,HD.out,decide_eq_true rD,Bool.true_and]
      generalize Lib.compareBytes (zh y) (zh z)=cmp at *
      have HC:=Hh rD;clear rD Pq Ps zQ;go_wp2_with fail
      go_roundw
      case rel=>exact⟨i+2,by omega,by omega,by go_num,HN.out,yw,vF⟩
      case measure=>simp[intOf];omega
     have fe:(0:Int)≤Lib.compareBytes (zh y) (zh z):=by omega
     have HN:xY x.items=false:=by rw[HD.out,decide_eq_false rD,Bool.false_and]
     have E:Hid (yX x c d=none):=by
      rw[Hid,un,if_neg (by omega),if_neg (by simp[HG.out]),dD.out]
      simp only
      rw[if_pos ⟨H5.out,HN⟩]
     generalize Lib.compareBytes (zh y) (zh z)=cmp at *
     clear rD Pq Ps zQ HN;go_wp2_with fail
     go_ret
     exact⟨by rw[E.out];rfl,yw⟩
    have Te:¬ (i:Int)<x.items.length:=by omega
    have HN:xY x.items=true:=by rw[← HA.out];exact eg _ _ pI (by omega)
    have E:Hid (yX x c d=some r):=by
     rw[Hid,un,if_neg (by omega),if_neg (by simp[HG.out]),dD.out]
     simp only
     rw[if_neg (by rintro⟨_,h⟩;rw[HN]at h;cases h)]
    clear HN hlt2;go_wp2_with fail
    go_ret
    exact⟨by rw[E.out];rfl,mu⟩
  have bpos0:¬ (0:Int)<x.items.length:=by omega
  have oI:=Hh tt;clear tt;go_enter Tryz.func111,Tryz.ntmps111
  go_upto_region 22 with fail
  any_goals
   (have ss:yq x d (c-1)=false:=by
     cases hq:yq x d (c-1) with
     | false=>rfl
     | true=>exact absurd ((wY (by have:=HK.out;omega)).1 hq) (by have yP:=qH.out;have xB:=fO.out;have tt:=oI.out;have hk:=HK.out;omega)
    go_ret
    exact⟨by rw[wk ss];rfl,xz⟩)
  all_goals
   have xM:yq x d (c-1)=true:=(wY (by have:=HK.out;omega)).2 ⟨by omega,by omega,fun h=>by have:=HK.out;omega,fun _=>qH.out,fun h=>fO.out,by omega⟩;have uF:x.items.length=0:=by have yP:=qH.out;have xB:=fO.out;have tt:=oI.out;have hk:=HK.out;omega
   have hk:=HK.out;have E:Hid (yX x c d=some (c-1)):=vA tM xM uF;have Tb:¬ (0:Int)<x.items.length:=by omega
   have pA:¬ (2:Int)<x.items.length:=by omega
   have HI:=Hh uF;have HC:=Hh xM;clear uF hk xM;have c0:=hB.cell 0 rfl;have c3:=hB.cell 3 rfl;go_wp2_with fail
   refine wp_loop_rounds 1 ?_
   rw[rounds_succ];go_wp2_with fail
   refine wp_loop_rounds 1 ?_
   rw[rounds_succ];go_wp2_with fail
   go_ret
   exact⟨by rw[E.out,← ij.out];rfl,xz⟩
end Go.Proofs.YtliomcphdnppnaaGreatDoor
