/- squeezed. Walks: the references' left: numbe -/
import Derived.Test.YtliomcphdnppnaaGreatDoorK06
set_option linter.unusedVariables false
set_option linter.unusedSimpArgs false
set_option maxRecDepth 100000
set_option maxHeartbeats 6400000
namespace Go.Proofs.YtliomcphdnppnaaGreatDoor
open Go.RowKit
theorem jae{P:Prop}(h:P:=by
 have xN:Holds wr H:=hH.below xY (Nat.le_refl _);obtain⟨ib,io,rC,wY⟩:=HX.out.items (by omega);obtain⟨eba,ebc,eia,eic,q0,q1,q2,q3,uy⟩:=wY.get j yu;subst rC;have p0:=xN.cell q0;have p1:=xN.cell q1;have p2:=xN.cell q2;have p3:=xN.cell q3;have rQ:wV (x.items.drop j) r (d+1)=match xu x.items[j] r (d+1) with | none=>none | some r'=>wV (x.items.drop (j+1)) r' (d+1):=by rw[List.drop_eq_getElem_cons yu,wV];cases xu x.items[j] r (d+1) <;> rfl
 have uF:=Hh (rQ.symm.trans Pv.out);clear rQ;have IHC:=ih x.items[j] (us x j yu) H hT _ _ eba _ ebc eia _ eic (wr.alloc (zU x.items[j] eba ebc eia eic)) r (d+1) uy.arg (xN.alloc _) (by omega) (by omega);rw[show((d+1:Nat):Int)=(d:Int)+1 by omega]at IHC;have IHH:=Hh IHC;have sK:=xY.alloc xY.size (zU x.items[j] eba ebc eia eic);have oa:=kh.alloc (zU x.items[j] eba ebc eia eic);clear IHC q0 q1 q2 q3
 cases hq:xu x.items[j] r (d+1) with
 | none =>
  rw[hq]at IHH uF;have E:Hid (xu x c d=none):=by rw[Hid,tL,if_neg (by omega),if_neg (by simp[HG.out]),← uF.out]
  clear hq uF;go_wp2_with fail
  refine IHH.out.mono ?_
  rintro e w6 ⟨rfl,wX⟩
  have um:=sK.trans (wX.mono sK.size)
  simp only[ss]
  go_wp2_with fail
  go_ret
  exact⟨by rw[E.out];rfl,um⟩
 | some r' =>
 rw[hq]at IHH uF;have EK:=(qM _ _ _ _ hq).2.2;have Ps:Hid (wV (x.items.drop (j+1)) r' (d+1)=wV x.items (c-1) (d+1)):=uF.out;clear hq uF;have Il:(0:Int)≤(r':Int):=by omega
 have Pn:r'≤c:=by omega
 go_wp2_with fail
 refine IHH.out.mono ?_
 rintro e w6 ⟨rfl,wX⟩
 have um:=sK.trans (wX.mono sK.size);have fQ:=oa.below wX
 simp only[ss]
 clear xY kh sK oa wX IHH p0 p1 p2 p3 EK xN;go_wp2_with fail
 go_roundw
 case rel=>exact⟨j+1,r',by omega,Pn,by go_num,rfl,Ps.out,um,fQ⟩
 case measure=>simp[intOf];omega):P:=h
theorem jbK{P:Prop}(h:P:=by exact⟨tp.cell 3 rfl,zE.cell p0,zE.cell p1,zE.cell p2,zE.cell p3,zE.cell q0,zE.cell q1,zE.cell q2,zE.cell q3⟩):P:=h
theorem jb6{P:Prop}(h:P:=by
 cases hq:yG x d (c-1) with
 | false=>rfl
 | true=>exact absurd ((vR (by have:=HK.out;omega)).1 hq) (by have yO:=mr.out;have Pl:=P8.out;have tY:=mz.out;have hk:=HK.out;omega)):P:=h
theorem jb7{P:Prop}(h:P:=by
 cases hq:yG x d (c-1) with
 | false=>rfl
 | true=>exact absurd ((vR (by have:=HK.out;omega)).1 hq) (by have yO:=mr.out;have wF:=Ym.out;have tY:=mz.out;have hk:=HK.out;omega)):P:=h
theorem jcb{P:Prop}(h:P:=by
 cases hq:yG x d (c-1) with
 | false=>rfl
 | true=>exact absurd ((vR (by have:=HK.out;omega)).1 hq) (by have yO:=mr.out;have tY:=mz.out;have hk:=HK.out;omega)):P:=h
theorem jcv{P:Prop}(h:P:=by
 rw[Hid,tL,if_neg (by omega),if_neg (by simp[HG.out]),cU.out]
 simp only
 rw[if_neg (by rintro⟨h5,_⟩;rw[h5]at b5;cases b5)]):P:=h
theorem jfj{P:Prop}(h:P:=by have c0:=hB.cell 0 rfl;exact c0):P:=h
theorem jfk{P:Prop}(h:P:=by have c3:=hB.cell 3 rfl;exact c3):P:=h
theorem jfp{P:Prop}(h:P:=by have hk:=HK.out;have E:Hid (xu x c d=some (c-1)):=tk qr wP tV;exact And.intro hk E):P:=h
theorem Ju (x:Itm) (hk:x.kind=0) {H:Snap}(hT:Tabs H) (ih:∀ y:Itm,cnt y<cnt x→uS y) {ba:Option Addr}{bc:Nat}{ia:Option Addr}{ic:Nat}(hx:IsItem H ba bc ia ic x) (w:World) (hH:Holds w H) (c d:Nat) (qr:0<c) (hc:c≤65536) (hd:d≤65536) :
  Calls Tryz.prog 111 #[xp x ba bc ia ic,.int .i64 c,.int .i64 d] w fun e w'=>e=.returned (.int .i64 (ss (xu x c d)))∧Below w.heap.size w w':=by
 have HX:=Hh hx;have tf:=jgF;obtain⟨hB,xo⟩:=je9;have nE:((c-1:Nat):Int)=(c:Int)-1:=by omega
 have om:x.bytes.length≤9223372036854775807:=by omega
 have Wy:x.items.length≤9223372036854775807:=by omega
 have HN:=jgH;have Ww:¬ (c:Int)<1:=by omega
 have k0:¬ x.kind<0:=by omega
 have k8:¬ 8<x.kind:=by omega
 have HK:=Hh hk;have bw:=Hh nE;clear hx tf nE;obtain⟨b0,b1,b2,b3,b4,b5,b6,b7,b8⟩:=OR hk;clear hk
 by_cases yO:x.n=0
 all_goals first | (have bn00:((x.n:Int) != 0)=false:=by simp[yO]) | (have bn00:((x.n:Int) != 0)=true:=by simp[yO])
 all_goals first | (have bn01:(x.n=0)=True:=by first | exact eq_true yO | exact eq_false yO) | (have bn01:(x.n=0)=False:=by first | exact eq_true yO | exact eq_false yO)
 all_goals have mr:=Hh yO
 all_goals clear yO
 all_goals
  go_enter Tryz.func111,Tryz.ntmps111
  go_upto_region 22 with fail
  any_goals
   (have sz:yG x d (c-1)=false:=by
     cases hq:yG x d (c-1) with
     | false=>rfl
     | true=>exact absurd ((jW (.inl HK.out)).1 hq) (by have yO:=mr.out;omega)
    go_ret
    exact⟨by rw[vg sz];rfl,xo⟩)
  all_goals
   have wP:yG x d (c-1)=true:=(jW (.inl HK.out)).2 ⟨by omega,by omega⟩;have tV:x.items.length=0:=by have yO:=mr.out;omega
   obtain⟨hk,E⟩:=jfp;have ML:¬ (0:Int)<x.items.length:=by omega
   have mi:¬ (2:Int)<x.items.length:=by omega
   have HI:=Hh tV;have HC:=Hh wP;clear tV hk wP;have c0:=jfj;have c3:=jfk;go_wp2_with fail
   refine wp_loop_rounds 1 ?_
   rw[rounds_succ];go_wp2_with fail
   refine wp_loop_rounds 1 ?_
   rw[rounds_succ];go_wp2_with fail
   go_ret
   exact⟨by rw[E.out,← bw.out];rfl,xo⟩
theorem Jv (x:Itm) (hk:x.kind=1) {H:Snap}(hT:Tabs H) (ih:∀ y:Itm,cnt y<cnt x→uS y) {ba:Option Addr}{bc:Nat}{ia:Option Addr}{ic:Nat}(hx:IsItem H ba bc ia ic x) (w:World) (hH:Holds w H) (c d:Nat) (qr:0<c) (hc:c≤65536) (hd:d≤65536) :
  Calls Tryz.prog 111 #[xp x ba bc ia ic,.int .i64 c,.int .i64 d] w fun e w'=>e=.returned (.int .i64 (ss (xu x c d)))∧Below w.heap.size w w':=by
 have HX:=Hh hx;have tf:=jgF;obtain⟨hB,xo⟩:=je9;have nE:((c-1:Nat):Int)=(c:Int)-1:=by omega
 have om:x.bytes.length≤9223372036854775807:=by omega
 have Wy:x.items.length≤9223372036854775807:=by omega
 have HN:=jgH;have Ww:¬ (c:Int)<1:=by omega
 have k0:¬ x.kind<0:=by omega
 have k8:¬ 8<x.kind:=by omega
 have HK:=Hh hk;have bw:=Hh nE;clear hx tf nE;obtain⟨b0,b1,b2,b3,b4,b5,b6,b7,b8⟩:=OS hk;clear hk
 by_cases yO:x.n=0
 all_goals first | (have bn00:((x.n:Int) != 0)=false:=by simp[yO]) | (have bn00:((x.n:Int) != 0)=true:=by simp[yO])
 all_goals first | (have bn01:(x.n=0)=True:=by first | exact eq_true yO | exact eq_false yO) | (have bn01:(x.n=0)=False:=by first | exact eq_true yO | exact eq_false yO)
 all_goals have mr:=Hh yO
 all_goals clear yO
 all_goals
  go_enter Tryz.func111,Tryz.ntmps111
  go_upto_region 22 with fail
  any_goals
   (have sz:yG x d (c-1)=false:=by
     cases hq:yG x d (c-1) with
     | false=>rfl
     | true=>exact absurd ((jW (.inr HK.out)).1 hq) (by have yO:=mr.out;omega)
    go_ret
    exact⟨by rw[vg sz];rfl,xo⟩)
  all_goals
   have wP:yG x d (c-1)=true:=(jW (.inr HK.out)).2 ⟨by omega,by omega⟩;have tV:x.items.length=0:=by have yO:=mr.out;omega
   obtain⟨hk,E⟩:=jfp;have ML:¬ (0:Int)<x.items.length:=by omega
   have mi:¬ (2:Int)<x.items.length:=by omega
   have HI:=Hh tV;have HC:=Hh wP;clear tV hk wP;have c0:=jfj;have c3:=jfk;go_wp2_with fail
   refine wp_loop_rounds 1 ?_
   rw[rounds_succ];go_wp2_with fail
   refine wp_loop_rounds 1 ?_
   rw[rounds_succ];go_wp2_with fail
   go_ret
   exact⟨by rw[E.out,← bw.out];rfl,xo⟩
theorem Jw (x:Itm) (hk:x.kind=2) {H:Snap}(hT:Tabs H) (ih:∀ y:Itm,cnt y<cnt x→uS y) {ba:Option Addr}{bc:Nat}{ia:Option Addr}{ic:Nat}(hx:IsItem H ba bc ia ic x) (w:World) (hH:Holds w H) (c d:Nat) (qr:0<c) (hc:c≤65536) (hd:d≤65536) :
  Calls Tryz.prog 111 #[xp x ba bc ia ic,.int .i64 c,.int .i64 d] w fun e w'=>e=.returned (.int .i64 (ss (xu x c d)))∧Below w.heap.size w w':=by
 have HX:=Hh hx;have tf:=jgF;obtain⟨hB,xo⟩:=je9;have nE:((c-1:Nat):Int)=(c:Int)-1:=by omega
 have om:x.bytes.length≤9223372036854775807:=by omega
 have Wy:x.items.length≤9223372036854775807:=by omega
 have HN:=jgH;have Ww:¬ (c:Int)<1:=by omega
 have k0:¬ x.kind<0:=by omega
 have k8:¬ 8<x.kind:=by omega
 have HK:=Hh hk;have bw:=Hh nE;clear hx tf nE;obtain⟨b0,b1,b2,b3,b4,b5,b6,b7,b8⟩:=OT hk;clear hk
 by_cases yO:x.n=0
 all_goals first | (have bn00:((x.n:Int) != 0)=false:=by simp[yO]) | (have bn00:((x.n:Int) != 0)=true:=by simp[yO])
 all_goals first | (have bn01:(x.n=0)=True:=by first | exact eq_true yO | exact eq_false yO) | (have bn01:(x.n=0)=False:=by first | exact eq_true yO | exact eq_false yO)
 all_goals have mr:=Hh yO
 all_goals clear yO
 all_goals
  go_enter Tryz.func111,Tryz.ntmps111
  go_upto_region 22 with fail
  any_goals
   (have sz:yG x d (c-1)=false:=by
     cases hq:yG x d (c-1) with
     | false=>rfl
     | true=>exact absurd ((Th HK.out).1 hq) (by have yO:=mr.out;omega)
    go_ret
    exact⟨by rw[vg sz];rfl,xo⟩)
  all_goals
   have wP:yG x d (c-1)=true:=(Th HK.out).2 ⟨mr.out,by omega,by omega⟩;have tV:x.items.length=0:=by have yO:=mr.out;omega
   obtain⟨hk,E⟩:=jfp;have ML:¬ (0:Int)<x.items.length:=by omega
   have mi:¬ (2:Int)<x.items.length:=by omega
   have HI:=Hh tV;have HC:=Hh wP;clear tV hk wP;have c0:=jfj;have c3:=jfk;go_wp2_with fail
   refine wp_loop_rounds 1 ?_
   rw[rounds_succ];go_wp2_with fail
   refine wp_loop_rounds 1 ?_
   rw[rounds_succ];go_wp2_with fail
   go_ret
   exact⟨by rw[E.out,← bw.out];rfl,xo⟩
theorem KE (x:Itm) (hk:x.kind=7) {H:Snap}(hT:Tabs H) (ih:∀ y:Itm,cnt y<cnt x→uS y) {ba:Option Addr}{bc:Nat}{ia:Option Addr}{ic:Nat}(hx:IsItem H ba bc ia ic x) (w:World) (hH:Holds w H) (c d:Nat) (qr:0<c) (hc:c≤65536) (hd:d≤65536) :
  Calls Tryz.prog 111 #[xp x ba bc ia ic,.int .i64 c,.int .i64 d] w fun e w'=>e=.returned (.int .i64 (ss (xu x c d)))∧Below w.heap.size w w':=by
 have HX:=Hh hx;have tf:=jgF;obtain⟨hB,xo⟩:=je9;have nE:((c-1:Nat):Int)=(c:Int)-1:=by omega
 have om:x.bytes.length≤9223372036854775807:=by omega
 have Wy:x.items.length≤9223372036854775807:=by omega
 have HN:=jgH;have Ww:¬ (c:Int)<1:=by omega
 have k0:¬ x.kind<0:=by omega
 have k8:¬ 8<x.kind:=by omega
 have HK:=Hh hk;have bw:=Hh nE;clear hx tf nE;obtain⟨b0,b1,b2,b3,b4,b5,b6,b7,b8⟩:=OZ hk;clear hk
 by_cases yO:x.n=0
 all_goals first | (have bn00:((x.n:Int) != 0)=false:=by simp[yO]) | (have bn00:((x.n:Int) != 0)=true:=by simp[yO])
 all_goals first | (have bn01:(x.n=0)=True:=by first | exact eq_true yO | exact eq_false yO) | (have bn01:(x.n=0)=False:=by first | exact eq_true yO | exact eq_false yO)
 all_goals have mr:=Hh yO
 all_goals clear yO
 all_goals
  go_enter Tryz.func111,Tryz.ntmps111
  go_upto_region 22 with fail
  any_goals
   (have sz:yG x d (c-1)=false:=by
     cases hq:yG x d (c-1) with
     | false=>rfl
     | true=>exact absurd ((Tj HK.out).1 hq) (by have yO:=mr.out;omega)
    go_ret
    exact⟨by rw[vg sz];rfl,xo⟩)
  all_goals
   have wP:yG x d (c-1)=true:=(Tj HK.out).2 ⟨by omega,by omega,by have yO:=mr.out;omega⟩;have tV:x.items.length=0:=by have yO:=mr.out;omega
   obtain⟨hk,E⟩:=jfp;have ML:¬ (0:Int)<x.items.length:=by omega
   have mi:¬ (2:Int)<x.items.length:=by omega
   have HI:=Hh tV;have HC:=Hh wP;clear tV hk wP;have c0:=jfj;have c3:=jfk;go_wp2_with fail
   refine wp_loop_rounds 1 ?_
   rw[rounds_succ];go_wp2_with fail
   refine wp_loop_rounds 1 ?_
   rw[rounds_succ];go_wp2_with fail
   go_ret
   exact⟨by rw[E.out,← bw.out];rfl,xo⟩
theorem Jy (x:Itm) (hk:x.kind=4) {H:Snap}(hT:Tabs H) (ih:∀ y:Itm,cnt y<cnt x→uS y) {ba:Option Addr}{bc:Nat}{ia:Option Addr}{ic:Nat}(hx:IsItem H ba bc ia ic x) (w:World) (hH:Holds w H) (c d:Nat) (qr:0<c) (hc:c≤65536) (hd:d≤65536) :
  Calls Tryz.prog 111 #[xp x ba bc ia ic,.int .i64 c,.int .i64 d] w fun e w'=>e=.returned (.int .i64 (ss (xu x c d)))∧Below w.heap.size w w':=by
 have HX:=Hh hx;have tf:=jgF;obtain⟨hB,xo⟩:=je9;have nE:((c-1:Nat):Int)=(c:Int)-1:=by omega
 have om:x.bytes.length≤9223372036854775807:=by omega
 have Wy:x.items.length≤9223372036854775807:=by omega
 have HN:=jgH;have Ww:¬ (c:Int)<1:=by omega
 have k0:¬ x.kind<0:=by omega
 have k8:¬ 8<x.kind:=by omega
 have HK:=Hh hk;have bw:=Hh nE;clear hx tf nE;obtain⟨b0,b1,b2,b3,b4,b5,b6,b7,b8⟩:=OW hk;clear hk
 by_cases yO:x.n=0
 all_goals first | have bn00:((x.n:Int) != 0)=false:=by(simp[yO];done) | have bn00:((x.n:Int) != 0)=true:=by simp[yO]
 all_goals first | have bn01:(x.n=0)=True:=eq_true yO | have bn01:(x.n=0)=False:=eq_false yO
 all_goals have mr:=Hh yO
 all_goals clear yO
 all_goals
  by_cases tY:0<x.items.length
  ·have bpos0:(0:Int)<x.items.length:=by omega
   have mz:=Hh tY;clear tY;go_enter Tryz.func111,Tryz.ntmps111
   go_upto_region 22 with fail
   any_goals
    (have sz:yG x d (c-1)=false:=by
      exact jcb
     go_ret
     exact⟨by rw[vg sz];rfl,xo⟩)
   all_goals
    have HG:Hid (yG x d (c-1)=true):=(vR (by have:=HK.out;omega)).2 ⟨by omega,by omega,fun h=>by have:=HK.out;omega,fun _=>mr.out,fun h=>by have:=HK.out;omega,by omega⟩;have c0:=jfj;have c3:=jfk;go_wp2_with fail
    have gG:=hB;have yz:=xo;go_loopw [1,157] (fun v1 v157 wr=>∃ (j r:Nat),j≤x.items.length∧r≤c∧v157=.int .i64 j∧v1=.int .i64 r∧wV (x.items.drop j) r (d+1)=wV x.items (c-1) (d+1)∧Below w.heap.size w wr∧Blk wr w.heap.size 26 #[.int .i64 x.kind,.int .u64 x.n,.slice ba x.bytes.length bc,.slice ia x.items.length ic]) (fun _ v157 _=>x.items.length-(intOf v157).toNat)
    case atStart=>exact⟨0,c-1,Nat.zero_le _,by omega,rfl,by rw[bw.out],rfl,yz,gG⟩
    case round =>
    obtain⟨j,r,hj,In,rfl,rfl,QA,xY,kh⟩:=hrel;have Pv:=Hh QA;clear QA
    by_cases yu:j<x.items.length
    ·exact jae
    have gI:j=x.items.length:=by omega
    subst gI;have uH:wV x.items (c-1) (d+1)=some r:=by rw[← Pv.out,List.drop_length,wV]
    have cU:=Hh uH;clear uH Pv
    have E:Hid (xu x c d=some r):=by
     exact jcv
    have c0:=kh.cell 0 rfl;go_wp2_with fail
    refine wp_loop_rounds 1 ?_
    rw[rounds_succ];go_wp2_with fail
    go_ret
    exact⟨by rw[E.out];rfl,xY⟩
  have bpos0:¬ (0:Int)<x.items.length:=by omega
  have mz:=Hh tY;clear tY;go_enter Tryz.func111,Tryz.ntmps111
  go_upto_region 22 with fail
  any_goals
   (have sz:yG x d (c-1)=false:=by
     exact jcb
    go_ret
    exact⟨by rw[vg sz];rfl,xo⟩)
  all_goals
   have wP:yG x d (c-1)=true:=(vR (by have:=HK.out;omega)).2 ⟨by omega,by omega,fun h=>by have:=HK.out;omega,fun _=>mr.out,fun h=>by have:=HK.out;omega,by omega⟩;have tV:x.items.length=0:=by have yO:=mr.out;have tY:=mz.out;have hk:=HK.out;omega
   obtain⟨hk,E⟩:=jfp;have ML:¬ (0:Int)<x.items.length:=by omega
   have mi:¬ (2:Int)<x.items.length:=by omega
   have HI:=Hh tV;have HC:=Hh wP;clear tV hk wP;have c0:=jfj;have c3:=jfk;go_wp2_with fail
   refine wp_loop_rounds 1 ?_
   rw[rounds_succ];go_wp2_with fail
   refine wp_loop_rounds 1 ?_
   rw[rounds_succ];go_wp2_with fail
   go_ret
   exact⟨by rw[E.out,← bw.out];rfl,xo⟩
theorem KD (x:Itm) (hk:x.kind=6) {H:Snap}(hT:Tabs H) (ih:∀ y:Itm,cnt y<cnt x→uS y) {ba:Option Addr}{bc:Nat}{ia:Option Addr}{ic:Nat}(hx:IsItem H ba bc ia ic x) (w:World) (hH:Holds w H) (c d:Nat) (qr:0<c) (hc:c≤65536) (hd:d≤65536) :
  Calls Tryz.prog 111 #[xp x ba bc ia ic,.int .i64 c,.int .i64 d] w fun e w'=>e=.returned (.int .i64 (ss (xu x c d)))∧Below w.heap.size w w':=by
 have HX:=Hh hx;have tf:=jgF;obtain⟨hB,xo⟩:=je9;have nE:((c-1:Nat):Int)=(c:Int)-1:=by omega
 have om:x.bytes.length≤9223372036854775807:=by omega
 have Wy:x.items.length≤9223372036854775807:=by omega
 have HN:=jgH;have Ww:¬ (c:Int)<1:=by omega
 have k0:¬ x.kind<0:=by omega
 have k8:¬ 8<x.kind:=by omega
 have HK:=Hh hk;have bw:=Hh nE;clear hx tf nE;obtain⟨b0,b1,b2,b3,b4,b5,b6,b7,b8⟩:=OY hk;clear hk
 by_cases yO:x.n=0
 all_goals first | have bn00:((x.n:Int) != 0)=false:=by(simp[yO];done) | have bn00:((x.n:Int) != 0)=true:=by simp[yO]
 all_goals first | have bn01:(x.n=0)=True:=eq_true yO | have bn01:(x.n=0)=False:=eq_false yO
 all_goals have mr:=Hh yO
 all_goals clear yO
 all_goals by_cases Pl:x.items.length=1
 all_goals first | have bone0:((x.items.length:Int) != 1)=false:=by(rw[bne_eq_false_iff_eq];omega) | have bone0:((x.items.length:Int) != 1)=true:=by(rw[bne_iff_ne];omega)
 all_goals have P8:=Hh Pl
 all_goals clear Pl
 all_goals
  by_cases tY:0<x.items.length
  ·have bpos0:(0:Int)<x.items.length:=by omega
   have mz:=Hh tY;clear tY;go_enter Tryz.func111,Tryz.ntmps111
   go_upto_region 22 with fail
   any_goals
    (have sz:yG x d (c-1)=false:=by
      exact jb6
     go_ret
     exact⟨by rw[vg sz];rfl,xo⟩)
   all_goals
    have HG:Hid (yG x d (c-1)=true):=(vR (by have:=HK.out;omega)).2 ⟨by omega,by omega,fun h=>P8.out,fun h=>by have:=HK.out;omega,fun h=>by have:=HK.out;omega,by omega⟩;have c0:=jfj;have c3:=jfk;go_wp2_with fail
    have gG:=hB;have yz:=xo;go_loopw [1,157] (fun v1 v157 wr=>∃ (j r:Nat),j≤x.items.length∧r≤c∧v157=.int .i64 j∧v1=.int .i64 r∧wV (x.items.drop j) r (d+1)=wV x.items (c-1) (d+1)∧Below w.heap.size w wr∧Blk wr w.heap.size 26 #[.int .i64 x.kind,.int .u64 x.n,.slice ba x.bytes.length bc,.slice ia x.items.length ic]) (fun _ v157 _=>x.items.length-(intOf v157).toNat)
    case atStart=>exact⟨0,c-1,Nat.zero_le _,by omega,rfl,by rw[bw.out],rfl,yz,gG⟩
    case round =>
    obtain⟨j,r,hj,In,rfl,rfl,QA,xY,kh⟩:=hrel;have Pv:=Hh QA;clear QA
    by_cases yu:j<x.items.length
    ·exact jae
    have gI:j=x.items.length:=by omega
    subst gI;have uH:wV x.items (c-1) (d+1)=some r:=by rw[← Pv.out,List.drop_length,wV]
    have cU:=Hh uH;clear uH Pv
    have E:Hid (xu x c d=some r):=by
     exact jcv
    have c0:=kh.cell 0 rfl;go_wp2_with fail
    refine wp_loop_rounds 1 ?_
    rw[rounds_succ];go_wp2_with fail
    go_ret
    exact⟨by rw[E.out];rfl,xY⟩
  have bpos0:¬ (0:Int)<x.items.length:=by omega
  have mz:=Hh tY;clear tY;go_enter Tryz.func111,Tryz.ntmps111
  go_upto_region 22 with fail
  any_goals
   (have sz:yG x d (c-1)=false:=by
     exact jb6
    go_ret
    exact⟨by rw[vg sz];rfl,xo⟩)
  all_goals
   have wP:yG x d (c-1)=true:=(vR (by have:=HK.out;omega)).2 ⟨by omega,by omega,fun h=>P8.out,fun h=>by have:=HK.out;omega,fun h=>by have:=HK.out;omega,by omega⟩;have tV:x.items.length=0:=by have yO:=mr.out;have Pl:=P8.out;have tY:=mz.out;have hk:=HK.out;omega
   obtain⟨hk,E⟩:=jfp;have ML:¬ (0:Int)<x.items.length:=by omega
   have mi:¬ (2:Int)<x.items.length:=by omega
   have HI:=Hh tV;have HC:=Hh wP;clear tV hk wP;have c0:=jfj;have c3:=jfk;go_wp2_with fail
   refine wp_loop_rounds 1 ?_
   rw[rounds_succ];go_wp2_with fail
   refine wp_loop_rounds 1 ?_
   rw[rounds_succ];go_wp2_with fail
   go_ret
   exact⟨by rw[E.out,← bw.out];rfl,xo⟩
theorem Jz (x:Itm) (hk:x.kind=5) {H:Snap}(hT:Tabs H) (ih:∀ y:Itm,cnt y<cnt x→uS y) {ba:Option Addr}{bc:Nat}{ia:Option Addr}{ic:Nat}(hx:IsItem H ba bc ia ic x) (w:World) (hH:Holds w H) (c d:Nat) (qr:0<c) (hc:c≤65536) (hd:d≤65536) :
  Calls Tryz.prog 111 #[xp x ba bc ia ic,.int .i64 c,.int .i64 d] w fun e w'=>e=.returned (.int .i64 (ss (xu x c d)))∧Below w.heap.size w w':=by
 have HX:=Hh hx;have tf:=jgF;obtain⟨hB,xo⟩:=je9;have nE:((c-1:Nat):Int)=(c:Int)-1:=by omega
 have om:x.bytes.length≤9223372036854775807:=by omega
 have Wy:x.items.length≤9223372036854775807:=by omega
 have HN:=jgH;have Ww:¬ (c:Int)<1:=by omega
 have k0:¬ x.kind<0:=by omega
 have k8:¬ 8<x.kind:=by omega
 have HK:=Hh hk;have bw:=Hh nE;clear hx tf nE;obtain⟨b0,b1,b2,b3,b4,b5,b6,b7,b8⟩:=OX hk;clear hk
 by_cases yO:x.n=0
 all_goals first | have bn00:((x.n:Int) != 0)=false:=by(simp[yO];done) | have bn00:((x.n:Int) != 0)=true:=by simp[yO]
 all_goals first | have bn01:(x.n=0)=True:=eq_true yO | have bn01:(x.n=0)=False:=eq_false yO
 all_goals have mr:=Hh yO
 all_goals clear yO
 all_goals by_cases wF:x.items.length%2=0
 all_goals first | have beven0:((x.items.length:Int)%2 != 0)=false:=by(rw[bne_eq_false_iff_eq];omega) | have beven0:((x.items.length:Int)%2 != 0)=true:=by(rw[bne_iff_ne];omega)
 all_goals have Ym:=Hh wF
 all_goals clear wF
 all_goals
  by_cases tY:0<x.items.length
  ·have bpos0:(0:Int)<x.items.length:=by omega
   have mz:=Hh tY;clear tY;go_enter Tryz.func111,Tryz.ntmps111
   go_upto_region 22 with fail
   any_goals
    (have sz:yG x d (c-1)=false:=by
      exact jb7
     go_ret
     exact⟨by rw[vg sz];rfl,xo⟩)
   all_goals
    have HG:Hid (yG x d (c-1)=true):=(vR (by have:=HK.out;omega)).2 ⟨by omega,by omega,fun h=>by have:=HK.out;omega,fun _=>mr.out,fun h=>Ym.out,by omega⟩;have c0:=jfj;have c3:=jfk;go_wp2_with fail
    have gG:=hB;have yz:=xo;go_loopw [1,157] (fun v1 v157 wr=>∃ (j r:Nat),j≤x.items.length∧r≤c∧v157=.int .i64 j∧v1=.int .i64 r∧wV (x.items.drop j) r (d+1)=wV x.items (c-1) (d+1)∧Below w.heap.size w wr∧Blk wr w.heap.size 26 #[.int .i64 x.kind,.int .u64 x.n,.slice ba x.bytes.length bc,.slice ia x.items.length ic]) (fun _ v157 _=>x.items.length-(intOf v157).toNat)
    case atStart=>exact⟨0,c-1,Nat.zero_le _,by omega,rfl,by rw[bw.out],rfl,yz,gG⟩
    case round =>
    obtain⟨j,r,hj,In,rfl,rfl,QA,xY,kh⟩:=hrel;have Pv:=Hh QA;clear QA
    by_cases yu:j<x.items.length
    ·exact jae
    have gI:j=x.items.length:=by omega
    subst gI;have uH:wV x.items (c-1) (d+1)=some r:=by rw[← Pv.out,List.drop_length,wV]
    have cU:=Hh uH;clear uH Pv;obtain⟨wl,ES,nN⟩:=kK _ _ _ _ cU.out;have MQ:=Hh wl;have om:(zP x.items).length≤1099511627776:=by have:=GoodL.bytes wl ES;omega
    have lf:=Hh om;have h5:x.kind=5:=by simpa using b5
    have H5:=Hh h5;clear wl ES nN om h5;go_wp2_with fail
    go_loopw [11] (fun v11 wz=>∃ i:Nat,2≤i∧i≤x.items.length+2∧v11=.int .i64 i∧xB (x.items.drop (i-2))=xB x.items∧Below w.heap.size w wz∧Blk wz w.heap.size 26 #[.int .i64 x.kind,.int .u64 x.n,.slice ba x.bytes.length bc,.slice ia x.items.length ic]) (fun v11 _=>(x.items.length+2)-(intOf v11).toNat)
    case atStart=>exact⟨2,by omega,by omega,rfl,rfl,xY,kh⟩
    case round =>
    obtain⟨i,pi,zB2,rfl,qg,gH,gi⟩:=hrel;have HA:=Hh qg;have c0:=gi.cell 0 rfl;have c3:=gi.cell 3 rfl;clear qg xY kh
    by_cases hlt2:i<x.items.length
    ·have hHs:Holds wr H:=hH.below gH (Nat.le_refl _);obtain⟨ib,io,rC,wY⟩:=HX.out.items (by omega);obtain⟨y1,y2,y3,y4,p0,p1,p2,p3,hy⟩:=wY.get (i-2) (by omega);obtain⟨z1,z2,z3,z4,q0,q1,q2,q3,hz⟩:=wY.get i hlt2;subst rC;have hd:=i6 x.items i pi hlt2;rw[HA.out]at hd;have hgy:=MQ.out.get x.items[i-2] (List.getElem_mem (by omega));have yS:=MQ.out.get x.items[i] (List.getElem_mem hlt2);have dP:=jS (List.getElem_mem (show i-2<x.items.length by omega));have hlz:=jS (List.getElem_mem hlt2);have zB3:(2:Int)≤i:=by omega
     have zBn:((i:Int)-2).toNat=i-2:=by omega
     have hKs:IntKind.i64.wrap ((i:Int)-2)=(i:Int)-2:=IntWalk.i64_in _ (by omega);have h02:(0:Int)≤(i:Int)-2:=by omega
     have Eo:(i:Int)-2<x.items.length:=by omega
     have Ep:(i:Int)<x.items.length:=by omega
     generalize x.items[i-2]'(by omega)=y at *
     generalize x.items[i]'hlt2=z at *
     have om:=lf.out;have RY:=Hh (fun w1:World=>fun h1:Holds w1 H=>nm y H _ _ y1 _ y2 y3 _ y4 w1 (d+1) hgy (by omega) hy.arg h1);have RZ:=Hh (fun w1:World=>fun h1:Holds w1 H=>nm z H _ _ z1 _ z2 z3 _ z4 w1 (d+1) yS (by omega) hz.arg h1);have hyl:(zZ y).length≤1099511627776:=by omega
     have TO:(zZ z).length≤1099511627776:=by omega
     have HD:=Hh hd;clear hgy yS dP hlz om hd wY;go_upto_region 32 with fail
     have tp:=gi.drew;have xO:=gH.drew;have zE:=hHs.drew
     refine zw 14 (fun w'=>w'.cell? ⟨w.heap.size,3,none⟩=some (.slice (some ⟨ib,io,none⟩) x.items.length ic)∧w'.cell? ⟨ib,io+(i-2)*4,none⟩=some (.int .i64 y.kind)∧w'.cell? ⟨ib,io+(i-2)*4+1,none⟩=some (.int .u64 y.n)∧w'.cell? ⟨ib,io+(i-2)*4+2,none⟩=some (.slice y1 y.bytes.length y2)∧w'.cell? ⟨ib,io+(i-2)*4+3,none⟩=some (.slice y3 y.items.length y4)∧w'.cell? ⟨ib,io+i*4,none⟩=some (.int .i64 z.kind)∧w'.cell? ⟨ib,io+i*4+1,none⟩=some (.int .u64 z.n)∧w'.cell? ⟨ib,io+i*4+2,none⟩=some (.slice z1 z.bytes.length z2)∧w'.cell? ⟨ib,io+i*4+3,none⟩=some (.slice z3 z.items.length z4)) (by kernel_rfl) (⟨tp.cell 3 rfl,zE.cell p0,zE.cell p1,zE.cell p2,zE.cell p3,zE.cell q0,zE.cell q1,zE.cell q2,zE.cell q3⟩) (fun zy=>?_)
     refine Tk 0 rfl zy ?_
     refine Tk 1 rfl zy ?_
     refine Tk 2 rfl zy ?_
     refine Tk 3 rfl zy ?_
     refine Tk 4 rfl zy ?_
     refine Tk 5 rfl zy ?_
     refine Tk 7 rfl zy ?_
     refine Tk 8 rfl zy ?_
     refine Tk 9 rfl zy ?_
     refine Tk 10 rfl zy ?_
     refine Tk 11 rfl zy ?_
     refine To 6 rfl fun K hK=>?_
     go_simp
     refine(RY.out _ zE).mono ?_
     rintro e wA ⟨rA,rfl,FO⟩
     obtain⟨AA,ca,rfl,_⟩:=FO.own.form;have EM:=FO.own.src
     try have ER:=ER.below FO.2
     have zE:=zE.below FO.2 (Nat.le_refl _);have tp:=tp.below FO.2;have xO:=xO.trans (FO.2.mono xO.size)
     refine Ko hK ?_ fun zy=>?_
     ·exact jbK
     clear hK K
     refine To 12 rfl fun K hK=>?_
     go_simp
     refine(RZ.out _ zE).mono ?_
     rintro e wB ⟨rB,rfl,FP⟩
     obtain⟨BB,cb,rfl,_⟩:=FP.own.form;have ER:=FP.own.src
     try have EM:=EM.below FP.2
     have zE:=zE.below FP.2 (Nat.le_refl _);have tp:=tp.below FP.2;have xO:=xO.trans (FP.2.mono xO.size)
     refine Ko hK ?_ fun zy=>?_
     ·exact jbK
     clear hK K
     refine To 13 rfl fun K hK=>?_
     go_simp
     refine(pN _ AA BB (zZ y) (zZ z) _ _ ca cb rfl rfl hyl TO EM ER).mono ?_
     rintro e wC ⟨rfl,hfC⟩
     have zE:=zE.below hfC (Nat.le_refl _);have tp:=tp.below hfC;have xO:=xO.trans (hfC.mono xO.size)
     refine Ko hK ?_ fun zy=>?_
     ·exact jbK
     clear hK K
     refine To 14 rfl fun K hK=>?_
     go_simp
     refine Kz hK ?_
     clear hK K
     refine Wd ?_
     clear zy
     by_cases o8:Lib.compareBytes (zZ y) (zZ z)<0
     ·have ZE:¬ (0:Int)≤Lib.compareBytes (zZ y) (zZ z):=by omega
      have HN:Hid (xB (x.items.drop (i+2-2))=xB x.items):=by rw[Hid,Nat.add_sub_cancel,HD.out,decide_eq_true o8,Bool.true_and]
      generalize Lib.compareBytes (zZ y) (zZ z)=cmp at *
      have HC:=Hh o8;clear o8 EM ER zE;go_wp2_with fail
      go_roundw
      case rel=>exact⟨i+2,by omega,by omega,by go_num,HN.out,xO,tp⟩
      case measure=>simp[intOf];omega
     have ZE:(0:Int)≤Lib.compareBytes (zZ y) (zZ z):=by omega
     have HN:xB x.items=false:=by rw[HD.out,decide_eq_false o8,Bool.false_and]
     have E:Hid (xu x c d=none):=by
      rw[Hid,tL,if_neg (by omega),if_neg (by simp[HG.out]),cU.out]
      simp only
      rw[if_pos ⟨H5.out,HN⟩]
     generalize Lib.compareBytes (zZ y) (zZ z)=cmp at *
     clear o8 EM ER zE HN;go_wp2_with fail
     go_ret
     exact⟨by rw[E.out];rfl,xO⟩
    have mj:¬ (i:Int)<x.items.length:=by omega
    have HN:xB x.items=true:=by rw[← HA.out];exact Y0 _ _ pi (by omega)
    have E:Hid (xu x c d=some r):=by
     rw[Hid,tL,if_neg (by omega),if_neg (by simp[HG.out]),cU.out]
     simp only
     rw[if_neg (by rintro⟨_,h⟩;rw[HN]at h;cases h)]
    clear HN hlt2;go_wp2_with fail
    go_ret
    exact⟨by rw[E.out];rfl,gH⟩
  have bpos0:¬ (0:Int)<x.items.length:=by omega
  have mz:=Hh tY;clear tY;go_enter Tryz.func111,Tryz.ntmps111
  go_upto_region 22 with fail
  any_goals
   (have sz:yG x d (c-1)=false:=by
     exact jb7
    go_ret
    exact⟨by rw[vg sz];rfl,xo⟩)
  all_goals
   have wP:yG x d (c-1)=true:=(vR (by have:=HK.out;omega)).2 ⟨by omega,by omega,fun h=>by have:=HK.out;omega,fun _=>mr.out,fun h=>Ym.out,by omega⟩;have tV:x.items.length=0:=by have yO:=mr.out;have wF:=Ym.out;have tY:=mz.out;have hk:=HK.out;omega
   obtain⟨hk,E⟩:=jfp;have ML:¬ (0:Int)<x.items.length:=by omega
   have mi:¬ (2:Int)<x.items.length:=by omega
   have HI:=Hh tV;have HC:=Hh wP;clear tV hk wP;have c0:=jfj;have c3:=jfk;go_wp2_with fail
   refine wp_loop_rounds 1 ?_
   rw[rounds_succ];go_wp2_with fail
   refine wp_loop_rounds 1 ?_
   rw[rounds_succ];go_wp2_with fail
   go_ret
   exact⟨by rw[E.out,← bw.out];rfl,xo⟩
end Go.Proofs.YtliomcphdnppnaaGreatDoor
