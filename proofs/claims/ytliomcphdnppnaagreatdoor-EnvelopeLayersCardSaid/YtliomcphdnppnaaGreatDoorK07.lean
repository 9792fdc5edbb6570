/- squeezed. Walks: the references' left: numbe -/
import Derived.Test.YtliomcphdnppnaaGreatDoorK06
set_option linter.unusedVariables false
set_option linter.unusedSimpArgs false
set_option maxRecDepth 100000
set_option maxHeartbeats 6400000
namespace Go.Proofs.YtliomcphdnppnaaGreatDoor
open Go.RowKit
theorem Rw (x:Itm) (hk:x.kind=0) {H:Snap}(hT:Tabs H) (ih:∀ y:Itm,cnt y<cnt x→vk y) {ba:Option Addr}{bc:Nat}{ia:Option Addr}{ic:Nat}(hx:IsItem H ba bc ia ic x) (w:World) (hH:Holds w H) (c d:Nat) (tB:0<c) (hc:c≤65536) (hd:d≤65536) :
  Calls Tryz.prog 111 #[xR x ba bc ia ic,.int .i64 c,.int .i64 d] w fun e w'=>e=.returned (.int .i64 (uT (yZ x c d)))∧Below w.heap.size w w':=by
 have HX:=Hh hx;have uV:=hx.bounds;have hB:=Blk.new w 26 #[.int .i64 x.kind,.int .u64 x.n,.slice ba x.bytes.length bc,.slice ia x.items.length ic];have yK:=zu w (zh x ba bc ia ic);have rK:((c-1:Nat):Int)=(c:Int)-1:=by omega
 have rM:x.bytes.length≤9223372036854775807:=by omega
 have cR:x.items.length≤9223372036854775807:=by omega
 have HN:=Hh uV.2.2.1;have cP:¬ (c:Int)<1:=by omega
 have k0:¬ x.kind<0:=by omega
 have k8:¬ 8<x.kind:=by omega
 have HK:=Hh hk;have i7:=Hh rK;clear hx uV rK;obtain⟨b0,b1,b2,b3,b4,b5,b6,b7,b8⟩:=VI hk;clear hk
 by_cases yV:x.n=0
 all_goals first | (have bn00:((x.n:Int) != 0)=false:=by simp[yV]) | (have bn00:((x.n:Int) != 0)=true:=by simp[yV])
 all_goals first | (have bn01:(x.n=0)=True:=by first | exact eq_true yV | exact eq_false yV) | (have bn01:(x.n=0)=False:=by first | exact eq_true yV | exact eq_false yV)
 all_goals have pv:=Hh yV
 all_goals clear yV
 all_goals
  go_enter Tryz.func111,Tryz.ntmps111
  go_upto_region 22 with fail
  any_goals
   (have sM:ym x d (c-1)=false:=by
     cases hq:ym x d (c-1) with
     | false=>rfl
     | true=>exact absurd ((nQ (.inl HK.out)).1 hq) (by have yV:=pv.out;omega)
    go_ret
    exact⟨by rw[wn sM];rfl,yK⟩)
  all_goals
   have xP:ym x d (c-1)=true:=(nQ (.inl HK.out)).2 ⟨by omega,by omega⟩;have uv:x.items.length=0:=by have yV:=pv.out;omega
   have hk:=HK.out;have E:Hid (yZ x c d=some (c-1)):=vE tB xP uv;have RX:¬ (0:Int)<x.items.length:=by omega
   have og:¬ (2:Int)<x.items.length:=by omega
   have HI:=Hh uv;have HC:=Hh xP;clear uv hk xP;have c0:=hB.cell 0 rfl;have c3:=hB.cell 3 rfl;go_wp2_with fail
   refine wp_loop_rounds 1 ?_
   rw[rounds_succ];go_wp2_with fail
   refine wp_loop_rounds 1 ?_
   rw[rounds_succ];go_wp2_with fail
   go_ret
   exact⟨by rw[E.out,← i7.out];rfl,yK⟩
theorem Rx (x:Itm) (hk:x.kind=1) {H:Snap}(hT:Tabs H) (ih:∀ y:Itm,cnt y<cnt x→vk y) {ba:Option Addr}{bc:Nat}{ia:Option Addr}{ic:Nat}(hx:IsItem H ba bc ia ic x) (w:World) (hH:Holds w H) (c d:Nat) (tB:0<c) (hc:c≤65536) (hd:d≤65536) :
  Calls Tryz.prog 111 #[xR x ba bc ia ic,.int .i64 c,.int .i64 d] w fun e w'=>e=.returned (.int .i64 (uT (yZ x c d)))∧Below w.heap.size w w':=by
 have HX:=Hh hx;have uV:=hx.bounds;have hB:=Blk.new w 26 #[.int .i64 x.kind,.int .u64 x.n,.slice ba x.bytes.length bc,.slice ia x.items.length ic];have yK:=zu w (zh x ba bc ia ic);have rK:((c-1:Nat):Int)=(c:Int)-1:=by omega
 have rM:x.bytes.length≤9223372036854775807:=by omega
 have cR:x.items.length≤9223372036854775807:=by omega
 have HN:=Hh uV.2.2.1;have cP:¬ (c:Int)<1:=by omega
 have k0:¬ x.kind<0:=by omega
 have k8:¬ 8<x.kind:=by omega
 have HK:=Hh hk;have i7:=Hh rK;clear hx uV rK;obtain⟨b0,b1,b2,b3,b4,b5,b6,b7,b8⟩:=VJ hk;clear hk
 by_cases yV:x.n=0
 all_goals first | (have bn00:((x.n:Int) != 0)=false:=by simp[yV]) | (have bn00:((x.n:Int) != 0)=true:=by simp[yV])
 all_goals first | (have bn01:(x.n=0)=True:=by first | exact eq_true yV | exact eq_false yV) | (have bn01:(x.n=0)=False:=by first | exact eq_true yV | exact eq_false yV)
 all_goals have pv:=Hh yV
 all_goals clear yV
 all_goals
  go_enter Tryz.func111,Tryz.ntmps111
  go_upto_region 22 with fail
  any_goals
   (have sM:ym x d (c-1)=false:=by
     cases hq:ym x d (c-1) with
     | false=>rfl
     | true=>exact absurd ((nQ (.inr HK.out)).1 hq) (by have yV:=pv.out;omega)
    go_ret
    exact⟨by rw[wn sM];rfl,yK⟩)
  all_goals
   have xP:ym x d (c-1)=true:=(nQ (.inr HK.out)).2 ⟨by omega,by omega⟩;have uv:x.items.length=0:=by have yV:=pv.out;omega
   have hk:=HK.out;have E:Hid (yZ x c d=some (c-1)):=vE tB xP uv;have RX:¬ (0:Int)<x.items.length:=by omega
   have og:¬ (2:Int)<x.items.length:=by omega
   have HI:=Hh uv;have HC:=Hh xP;clear uv hk xP;have c0:=hB.cell 0 rfl;have c3:=hB.cell 3 rfl;go_wp2_with fail
   refine wp_loop_rounds 1 ?_
   rw[rounds_succ];go_wp2_with fail
   refine wp_loop_rounds 1 ?_
   rw[rounds_succ];go_wp2_with fail
   go_ret
   exact⟨by rw[E.out,← i7.out];rfl,yK⟩
theorem Ry (x:Itm) (hk:x.kind=2) {H:Snap}(hT:Tabs H) (ih:∀ y:Itm,cnt y<cnt x→vk y) {ba:Option Addr}{bc:Nat}{ia:Option Addr}{ic:Nat}(hx:IsItem H ba bc ia ic x) (w:World) (hH:Holds w H) (c d:Nat) (tB:0<c) (hc:c≤65536) (hd:d≤65536) :
  Calls Tryz.prog 111 #[xR x ba bc ia ic,.int .i64 c,.int .i64 d] w fun e w'=>e=.returned (.int .i64 (uT (yZ x c d)))∧Below w.heap.size w w':=by
 have HX:=Hh hx;have uV:=hx.bounds;have hB:=Blk.new w 26 #[.int .i64 x.kind,.int .u64 x.n,.slice ba x.bytes.length bc,.slice ia x.items.length ic];have yK:=zu w (zh x ba bc ia ic);have rK:((c-1:Nat):Int)=(c:Int)-1:=by omega
 have rM:x.bytes.length≤9223372036854775807:=by omega
 have cR:x.items.length≤9223372036854775807:=by omega
 have HN:=Hh uV.2.2.1;have cP:¬ (c:Int)<1:=by omega
 have k0:¬ x.kind<0:=by omega
 have k8:¬ 8<x.kind:=by omega
 have HK:=Hh hk;have i7:=Hh rK;clear hx uV rK;obtain⟨b0,b1,b2,b3,b4,b5,b6,b7,b8⟩:=VK hk;clear hk
 by_cases yV:x.n=0
 all_goals first | (have bn00:((x.n:Int) != 0)=false:=by simp[yV]) | (have bn00:((x.n:Int) != 0)=true:=by simp[yV])
 all_goals first | (have bn01:(x.n=0)=True:=by first | exact eq_true yV | exact eq_false yV) | (have bn01:(x.n=0)=False:=by first | exact eq_true yV | exact eq_false yV)
 all_goals have pv:=Hh yV
 all_goals clear yV
 all_goals
  go_enter Tryz.func111,Tryz.ntmps111
  go_upto_region 22 with fail
  any_goals
   (have sM:ym x d (c-1)=false:=by
     cases hq:ym x d (c-1) with
     | false=>rfl
     | true=>exact absurd ((ZK HK.out).1 hq) (by have yV:=pv.out;omega)
    go_ret
    exact⟨by rw[wn sM];rfl,yK⟩)
  all_goals
   have xP:ym x d (c-1)=true:=(ZK HK.out).2 ⟨pv.out,by omega,by omega⟩;have uv:x.items.length=0:=by have yV:=pv.out;omega
   have hk:=HK.out;have E:Hid (yZ x c d=some (c-1)):=vE tB xP uv;have RX:¬ (0:Int)<x.items.length:=by omega
   have og:¬ (2:Int)<x.items.length:=by omega
   have HI:=Hh uv;have HC:=Hh xP;clear uv hk xP;have c0:=hB.cell 0 rfl;have c3:=hB.cell 3 rfl;go_wp2_with fail
   refine wp_loop_rounds 1 ?_
   rw[rounds_succ];go_wp2_with fail
   refine wp_loop_rounds 1 ?_
   rw[rounds_succ];go_wp2_with fail
   go_ret
   exact⟨by rw[E.out,← i7.out];rfl,yK⟩
theorem S7 (x:Itm) (hk:x.kind=7) {H:Snap}(hT:Tabs H) (ih:∀ y:Itm,cnt y<cnt x→vk y) {ba:Option Addr}{bc:Nat}{ia:Option Addr}{ic:Nat}(hx:IsItem H ba bc ia ic x) (w:World) (hH:Holds w H) (c d:Nat) (tB:0<c) (hc:c≤65536) (hd:d≤65536) :
  Calls Tryz.prog 111 #[xR x ba bc ia ic,.int .i64 c,.int .i64 d] w fun e w'=>e=.returned (.int .i64 (uT (yZ x c d)))∧Below w.heap.size w w':=by
 have HX:=Hh hx;have uV:=hx.bounds;have hB:=Blk.new w 26 #[.int .i64 x.kind,.int .u64 x.n,.slice ba x.bytes.length bc,.slice ia x.items.length ic];have yK:=zu w (zh x ba bc ia ic);have rK:((c-1:Nat):Int)=(c:Int)-1:=by omega
 have rM:x.bytes.length≤9223372036854775807:=by omega
 have cR:x.items.length≤9223372036854775807:=by omega
 have HN:=Hh uV.2.2.1;have cP:¬ (c:Int)<1:=by omega
 have k0:¬ x.kind<0:=by omega
 have k8:¬ 8<x.kind:=by omega
 have HK:=Hh hk;have i7:=Hh rK;clear hx uV rK;obtain⟨b0,b1,b2,b3,b4,b5,b6,b7,b8⟩:=VS hk;clear hk
 by_cases yV:x.n=0
 all_goals first | (have bn00:((x.n:Int) != 0)=false:=by simp[yV]) | (have bn00:((x.n:Int) != 0)=true:=by simp[yV])
 all_goals first | (have bn01:(x.n=0)=True:=by first | exact eq_true yV | exact eq_false yV) | (have bn01:(x.n=0)=False:=by first | exact eq_true yV | exact eq_false yV)
 all_goals have pv:=Hh yV
 all_goals clear yV
 all_goals
  go_enter Tryz.func111,Tryz.ntmps111
  go_upto_region 22 with fail
  any_goals
   (have sM:ym x d (c-1)=false:=by
     cases hq:ym x d (c-1) with
     | false=>rfl
     | true=>exact absurd ((ZM HK.out).1 hq) (by have yV:=pv.out;omega)
    go_ret
    exact⟨by rw[wn sM];rfl,yK⟩)
  all_goals
   have xP:ym x d (c-1)=true:=(ZM HK.out).2 ⟨by omega,by omega,by have yV:=pv.out;omega⟩;have uv:x.items.length=0:=by have yV:=pv.out;omega
   have hk:=HK.out;have E:Hid (yZ x c d=some (c-1)):=vE tB xP uv;have RX:¬ (0:Int)<x.items.length:=by omega
   have og:¬ (2:Int)<x.items.length:=by omega
   have HI:=Hh uv;have HC:=Hh xP;clear uv hk xP;have c0:=hB.cell 0 rfl;have c3:=hB.cell 3 rfl;go_wp2_with fail
   refine wp_loop_rounds 1 ?_
   rw[rounds_succ];go_wp2_with fail
   refine wp_loop_rounds 1 ?_
   rw[rounds_succ];go_wp2_with fail
   go_ret
   exact⟨by rw[E.out,← i7.out];rfl,yK⟩
theorem S0 (x:Itm) (hk:x.kind=4) {H:Snap}(hT:Tabs H) (ih:∀ y:Itm,cnt y<cnt x→vk y) {ba:Option Addr}{bc:Nat}{ia:Option Addr}{ic:Nat}(hx:IsItem H ba bc ia ic x) (w:World) (hH:Holds w H) (c d:Nat) (tB:0<c) (hc:c≤65536) (hd:d≤65536) :
  Calls Tryz.prog 111 #[xR x ba bc ia ic,.int .i64 c,.int .i64 d] w fun e w'=>e=.returned (.int .i64 (uT (yZ x c d)))∧Below w.heap.size w w':=by
 have HX:=Hh hx;have uV:=hx.bounds;have hB:=Blk.new w 26 #[.int .i64 x.kind,.int .u64 x.n,.slice ba x.bytes.length bc,.slice ia x.items.length ic];have yK:=zu w (zh x ba bc ia ic);have rK:((c-1:Nat):Int)=(c:Int)-1:=by omega
 have rM:x.bytes.length≤9223372036854775807:=by omega
 have cR:x.items.length≤9223372036854775807:=by omega
 have HN:=Hh uV.2.2.1;have cP:¬ (c:Int)<1:=by omega
 have k0:¬ x.kind<0:=by omega
 have k8:¬ 8<x.kind:=by omega
 have HK:=Hh hk;have i7:=Hh rK;clear hx uV rK;obtain⟨b0,b1,b2,b3,b4,b5,b6,b7,b8⟩:=VN hk;clear hk
 by_cases yV:x.n=0
 all_goals first | have bn00:((x.n:Int) != 0)=false:=by(simp[yV];done) | have bn00:((x.n:Int) != 0)=true:=by simp[yV]
 all_goals first | have bn01:(x.n=0)=True:=eq_true yV | have bn01:(x.n=0)=False:=eq_false yV
 all_goals have pv:=Hh yV
 all_goals clear yV
 all_goals
  by_cases tk:0<x.items.length
  ·have bpos0:(0:Int)<x.items.length:=by omega
   have qA:=Hh tk;clear tk;go_enter Tryz.func111,Tryz.ntmps111
   go_upto_region 22 with fail
   any_goals
    (have sM:ym x d (c-1)=false:=by
      cases hq:ym x d (c-1) with
      | false=>rfl
      | true=>exact absurd ((we (by have:=HK.out;omega)).1 hq) (by have yV:=pv.out;have tk:=qA.out;have hk:=HK.out;omega)
     go_ret
     exact⟨by rw[wn sM];rfl,yK⟩)
   all_goals
    have HG:Hid (ym x d (c-1)=true):=(we (by have:=HK.out;omega)).2 ⟨by omega,by omega,fun h=>by have:=HK.out;omega,fun _=>pv.out,fun h=>by have:=HK.out;omega,by omega⟩;have c0:=hB.cell 0 rfl;have c3:=hB.cell 3 rfl;go_wp2_with fail
    have Yp:=hB;have zA:=yK;go_loopw [1,157] (fun v1 v157 wr=>∃ (j r:Nat),j≤x.items.length∧r≤c∧v157=.int .i64 j∧v1=.int .i64 r∧xW (x.items.drop j) r (d+1)=xW x.items (c-1) (d+1)∧Below w.heap.size w wr∧Blk wr w.heap.size 26 #[.int .i64 x.kind,.int .u64 x.n,.slice ba x.bytes.length bc,.slice ia x.items.length ic]) (fun _ v157 _=>x.items.length-(intOf v157).toNat)
    case atStart=>exact⟨0,c-1,Nat.zero_le _,by omega,rfl,by rw[i7.out],rfl,zA,Yp⟩
    case round =>
    obtain⟨j,r,hj,Qm,rfl,rfl,WZ,yO,oL⟩:=hrel;have WK:=Hh WZ;clear WZ
    by_cases zB:j<x.items.length
    ·have yG:Holds wr H:=hH.below yO (Nat.le_refl _);obtain⟨ib,io,tK,xA⟩:=HX.out.items (by omega);obtain⟨eba,ebc,eia,eic,q0,q1,q2,q3,va⟩:=xA.get j zB;subst tK;have p0:=yG.cell q0;have p1:=yG.cell q1;have p2:=yG.cell q2;have p3:=yG.cell q3;have tS:xW (x.items.drop j) r (d+1)=match yZ x.items[j] r (d+1) with | none=>none | some r'=>xW (x.items.drop (j+1)) r' (d+1):=by rw[List.drop_eq_getElem_cons zB,xW];cases yZ x.items[j] r (d+1) <;> rfl
     have vd:=Hh (tS.symm.trans WK.out);clear tS;have IHC:=ih x.items[j] (wL x j zB) H hT _ _ eba _ ebc eia _ eic (wr.alloc (zh x.items[j] eba ebc eia eic)) r (d+1) va.arg (yG.alloc _) (by omega) (by omega);rw[show((d+1:Nat):Int)=(d:Int)+1 by omega]at IHC;have IHH:=Hh IHC;have uE:=yO.alloc yO.size (zh x.items[j] eba ebc eia eic);have lL:=oL.alloc (zh x.items[j] eba ebc eia eic);clear IHC q0 q1 q2 q3
     cases hq:yZ x.items[j] r (d+1) with
     | none =>
      rw[hq]at IHH vd;have E:Hid (yZ x c d=none):=by rw[Hid,uq,if_neg (by omega),if_neg (by simp[HG.out]),← vd.out]
      clear hq vd;go_wp2_with fail
      refine IHH.out.mono ?_
      rintro e w6 ⟨rfl,xT⟩
      have wJ:=uE.trans (xT.mono uE.size)
      simp only[uT]
      go_wp2_with fail
      go_ret
      exact⟨by rw[E.out];rfl,wJ⟩
     | some r' =>
     rw[hq]at IHH vd;have NZ:=(sV _ _ _ _ hq).2.2;have WC:Hid (xW (x.items.drop (j+1)) r' (d+1)=xW x.items (c-1) (d+1)):=vd.out;clear hq vd;have Qk:(0:Int)≤(r':Int):=by omega
     have Vz:r'≤c:=by omega
     go_wp2_with fail
     refine IHH.out.mono ?_
     rintro e w6 ⟨rfl,xT⟩
     have wJ:=uE.trans (xT.mono uE.size);have WO:=lL.below xT
     simp only[uT]
     clear yO oL uE lL xT IHH p0 p1 p2 p3 NZ yG;go_wp2_with fail
     go_roundw
     case rel=>exact⟨j+1,r',by omega,Vz,by go_num,rfl,WC.out,wJ,WO⟩
     case measure=>simp[intOf];omega
    have lN:j=x.items.length:=by omega
    subst lN;have vH:xW x.items (c-1) (d+1)=some r:=by rw[← WK.out,List.drop_length,xW]
    have iS:=Hh vH;clear vH WK
    have E:Hid (yZ x c d=some r):=by
     rw[Hid,uq,if_neg (by omega),if_neg (by simp[HG.out]),iS.out]
     simp only
     rw[if_neg (by rintro⟨h5,_⟩;rw[h5]at b5;cases b5)]
    have c0:=oL.cell 0 rfl;go_wp2_with fail
    refine wp_loop_rounds 1 ?_
    rw[rounds_succ];go_wp2_with fail
    go_ret
    exact⟨by rw[E.out];rfl,yO⟩
  have bpos0:¬ (0:Int)<x.items.length:=by omega
  have qA:=Hh tk;clear tk;go_enter Tryz.func111,Tryz.ntmps111
  go_upto_region 22 with fail
  any_goals
   (have sM:ym x d (c-1)=false:=by
     cases hq:ym x d (c-1) with
     | false=>rfl
     | true=>exact absurd ((we (by have:=HK.out;omega)).1 hq) (by have yV:=pv.out;have tk:=qA.out;have hk:=HK.out;omega)
    go_ret
    exact⟨by rw[wn sM];rfl,yK⟩)
  all_goals
   have xP:ym x d (c-1)=true:=(we (by have:=HK.out;omega)).2 ⟨by omega,by omega,fun h=>by have:=HK.out;omega,fun _=>pv.out,fun h=>by have:=HK.out;omega,by omega⟩;have uv:x.items.length=0:=by have yV:=pv.out;have tk:=qA.out;have hk:=HK.out;omega
   have hk:=HK.out;have E:Hid (yZ x c d=some (c-1)):=vE tB xP uv;have RX:¬ (0:Int)<x.items.length:=by omega
   have og:¬ (2:Int)<x.items.length:=by omega
   have HI:=Hh uv;have HC:=Hh xP;clear uv hk xP;have c0:=hB.cell 0 rfl;have c3:=hB.cell 3 rfl;go_wp2_with fail
   refine wp_loop_rounds 1 ?_
   rw[rounds_succ];go_wp2_with fail
   refine wp_loop_rounds 1 ?_
   rw[rounds_succ];go_wp2_with fail
   go_ret
   exact⟨by rw[E.out,← i7.out];rfl,yK⟩
theorem S6 (x:Itm) (hk:x.kind=6) {H:Snap}(hT:Tabs H) (ih:∀ y:Itm,cnt y<cnt x→vk y) {ba:Option Addr}{bc:Nat}{ia:Option Addr}{ic:Nat}(hx:IsItem H ba bc ia ic x) (w:World) (hH:Holds w H) (c d:Nat) (tB:0<c) (hc:c≤65536) (hd:d≤65536) :
  Calls Tryz.prog 111 #[xR x ba bc ia ic,.int .i64 c,.int .i64 d] w fun e w'=>e=.returned (.int .i64 (uT (yZ x c d)))∧Below w.heap.size w w':=by
 have HX:=Hh hx;have uV:=hx.bounds;have hB:=Blk.new w 26 #[.int .i64 x.kind,.int .u64 x.n,.slice ba x.bytes.length bc,.slice ia x.items.length ic];have yK:=zu w (zh x ba bc ia ic);have rK:((c-1:Nat):Int)=(c:Int)-1:=by omega
 have rM:x.bytes.length≤9223372036854775807:=by omega
 have cR:x.items.length≤9223372036854775807:=by omega
 have HN:=Hh uV.2.2.1;have cP:¬ (c:Int)<1:=by omega
 have k0:¬ x.kind<0:=by omega
 have k8:¬ 8<x.kind:=by omega
 have HK:=Hh hk;have i7:=Hh rK;clear hx uV rK;obtain⟨b0,b1,b2,b3,b4,b5,b6,b7,b8⟩:=VR hk;clear hk
 by_cases yV:x.n=0
 all_goals first | have bn00:((x.n:Int) != 0)=false:=by(simp[yV];done) | have bn00:((x.n:Int) != 0)=true:=by simp[yV]
 all_goals first | have bn01:(x.n=0)=True:=eq_true yV | have bn01:(x.n=0)=False:=eq_false yV
 all_goals have pv:=Hh yV
 all_goals clear yV
 all_goals by_cases Vy:x.items.length=1
 all_goals first | have bone0:((x.items.length:Int) != 1)=false:=by(rw[bne_eq_false_iff_eq];omega) | have bone0:((x.items.length:Int) != 1)=true:=by(rw[bne_iff_ne];omega)
 all_goals have Vn:=Hh Vy
 all_goals clear Vy
 all_goals
  by_cases tk:0<x.items.length
  ·have bpos0:(0:Int)<x.items.length:=by omega
   have qA:=Hh tk;clear tk;go_enter Tryz.func111,Tryz.ntmps111
   go_upto_region 22 with fail
   any_goals
    (have sM:ym x d (c-1)=false:=by
      cases hq:ym x d (c-1) with
      | false=>rfl
      | true=>exact absurd ((we (by have:=HK.out;omega)).1 hq) (by have yV:=pv.out;have Vy:=Vn.out;have tk:=qA.out;have hk:=HK.out;omega)
     go_ret
     exact⟨by rw[wn sM];rfl,yK⟩)
   all_goals
    have HG:Hid (ym x d (c-1)=true):=(we (by have:=HK.out;omega)).2 ⟨by omega,by omega,fun h=>Vn.out,fun h=>by have:=HK.out;omega,fun h=>by have:=HK.out;omega,by omega⟩;have c0:=hB.cell 0 rfl;have c3:=hB.cell 3 rfl;go_wp2_with fail
    have Yp:=hB;have zA:=yK;go_loopw [1,157] (fun v1 v157 wr=>∃ (j r:Nat),j≤x.items.length∧r≤c∧v157=.int .i64 j∧v1=.int .i64 r∧xW (x.items.drop j) r (d+1)=xW x.items (c-1) (d+1)∧Below w.heap.size w wr∧Blk wr w.heap.size 26 #[.int .i64 x.kind,.int .u64 x.n,.slice ba x.bytes.length bc,.slice ia x.items.length ic]) (fun _ v157 _=>x.items.length-(intOf v157).toNat)
    case atStart=>exact⟨0,c-1,Nat.zero_le _,by omega,rfl,by rw[i7.out],rfl,zA,Yp⟩
    case round =>
    obtain⟨j,r,hj,Qm,rfl,rfl,WZ,yO,oL⟩:=hrel;have WK:=Hh WZ;clear WZ
    by_cases zB:j<x.items.length
    ·have yG:Holds wr H:=hH.below yO (Nat.le_refl _);obtain⟨ib,io,tK,xA⟩:=HX.out.items (by omega);obtain⟨eba,ebc,eia,eic,q0,q1,q2,q3,va⟩:=xA.get j zB;subst tK;have p0:=yG.cell q0;have p1:=yG.cell q1;have p2:=yG.cell q2;have p3:=yG.cell q3;have tS:xW (x.items.drop j) r (d+1)=match yZ x.items[j] r (d+1) with | none=>none | some r'=>xW (x.items.drop (j+1)) r' (d+1):=by rw[List.drop_eq_getElem_cons zB,xW];cases yZ x.items[j] r (d+1) <;> rfl
     have vd:=Hh (tS.symm.trans WK.out);clear tS;have IHC:=ih x.items[j] (wL x j zB) H hT _ _ eba _ ebc eia _ eic (wr.alloc (zh x.items[j] eba ebc eia eic)) r (d+1) va.arg (yG.alloc _) (by omega) (by omega);rw[show((d+1:Nat):Int)=(d:Int)+1 by omega]at IHC;have IHH:=Hh IHC;have uE:=yO.alloc yO.size (zh x.items[j] eba ebc eia eic);have lL:=oL.alloc (zh x.items[j] eba ebc eia eic);clear IHC q0 q1 q2 q3
     cases hq:yZ x.items[j] r (d+1) with
     | none =>
      rw[hq]at IHH vd;have E:Hid (yZ x c d=none):=by rw[Hid,uq,if_neg (by omega),if_neg (by simp[HG.out]),← vd.out]
      clear hq vd;go_wp2_with fail
      refine IHH.out.mono ?_
      rintro e w6 ⟨rfl,xT⟩
      have wJ:=uE.trans (xT.mono uE.size)
      simp only[uT]
      go_wp2_with fail
      go_ret
      exact⟨by rw[E.out];rfl,wJ⟩
     | some r' =>
     rw[hq]at IHH vd;have NZ:=(sV _ _ _ _ hq).2.2;have WC:Hid (xW (x.items.drop (j+1)) r' (d+1)=xW x.items (c-1) (d+1)):=vd.out;clear hq vd;have Qk:(0:Int)≤(r':Int):=by omega
     have Vz:r'≤c:=by omega
     go_wp2_with fail
     refine IHH.out.mono ?_
     rintro e w6 ⟨rfl,xT⟩
     have wJ:=uE.trans (xT.mono uE.size);have WO:=lL.below xT
     simp only[uT]
     clear yO oL uE lL xT IHH p0 p1 p2 p3 NZ yG;go_wp2_with fail
     go_roundw
     case rel=>exact⟨j+1,r',by omega,Vz,by go_num,rfl,WC.out,wJ,WO⟩
     case measure=>simp[intOf];omega
    have lN:j=x.items.length:=by omega
    subst lN;have vH:xW x.items (c-1) (d+1)=some r:=by rw[← WK.out,List.drop_length,xW]
    have iS:=Hh vH;clear vH WK
    have E:Hid (yZ x c d=some r):=by
     rw[Hid,uq,if_neg (by omega),if_neg (by simp[HG.out]),iS.out]
     simp only
     rw[if_neg (by rintro⟨h5,_⟩;rw[h5]at b5;cases b5)]
    have c0:=oL.cell 0 rfl;go_wp2_with fail
    refine wp_loop_rounds 1 ?_
    rw[rounds_succ];go_wp2_with fail
    go_ret
    exact⟨by rw[E.out];rfl,yO⟩
  have bpos0:¬ (0:Int)<x.items.length:=by omega
  have qA:=Hh tk;clear tk;go_enter Tryz.func111,Tryz.ntmps111
  go_upto_region 22 with fail
  any_goals
   (have sM:ym x d (c-1)=false:=by
     cases hq:ym x d (c-1) with
     | false=>rfl
     | true=>exact absurd ((we (by have:=HK.out;omega)).1 hq) (by have yV:=pv.out;have Vy:=Vn.out;have tk:=qA.out;have hk:=HK.out;omega)
    go_ret
    exact⟨by rw[wn sM];rfl,yK⟩)
  all_goals
   have xP:ym x d (c-1)=true:=(we (by have:=HK.out;omega)).2 ⟨by omega,by omega,fun h=>Vn.out,fun h=>by have:=HK.out;omega,fun h=>by have:=HK.out;omega,by omega⟩;have uv:x.items.length=0:=by have yV:=pv.out;have Vy:=Vn.out;have tk:=qA.out;have hk:=HK.out;omega
   have hk:=HK.out;have E:Hid (yZ x c d=some (c-1)):=vE tB xP uv;have RX:¬ (0:Int)<x.items.length:=by omega
   have og:¬ (2:Int)<x.items.length:=by omega
   have HI:=Hh uv;have HC:=Hh xP;clear uv hk xP;have c0:=hB.cell 0 rfl;have c3:=hB.cell 3 rfl;go_wp2_with fail
   refine wp_loop_rounds 1 ?_
   rw[rounds_succ];go_wp2_with fail
   refine wp_loop_rounds 1 ?_
   rw[rounds_succ];go_wp2_with fail
   go_ret
   exact⟨by rw[E.out,← i7.out];rfl,yK⟩
theorem S5 (x:Itm) (hk:x.kind=5) {H:Snap}(hT:Tabs H) (ih:∀ y:Itm,cnt y<cnt x→vk y) {ba:Option Addr}{bc:Nat}{ia:Option Addr}{ic:Nat}(hx:IsItem H ba bc ia ic x) (w:World) (hH:Holds w H) (c d:Nat) (tB:0<c) (hc:c≤65536) (hd:d≤65536) :
  Calls Tryz.prog 111 #[xR x ba bc ia ic,.int .i64 c,.int .i64 d] w fun e w'=>e=.returned (.int .i64 (uT (yZ x c d)))∧Below w.heap.size w w':=by
 have HX:=Hh hx;have uV:=hx.bounds;have hB:=Blk.new w 26 #[.int .i64 x.kind,.int .u64 x.n,.slice ba x.bytes.length bc,.slice ia x.items.length ic];have yK:=zu w (zh x ba bc ia ic);have rK:((c-1:Nat):Int)=(c:Int)-1:=by omega
 have rM:x.bytes.length≤9223372036854775807:=by omega
 have cR:x.items.length≤9223372036854775807:=by omega
 have HN:=Hh uV.2.2.1;have cP:¬ (c:Int)<1:=by omega
 have k0:¬ x.kind<0:=by omega
 have k8:¬ 8<x.kind:=by omega
 have HK:=Hh hk;have i7:=Hh rK;clear hx uV rK;obtain⟨b0,b1,b2,b3,b4,b5,b6,b7,b8⟩:=VQ hk;clear hk
 by_cases yV:x.n=0
 all_goals first | have bn00:((x.n:Int) != 0)=false:=by(simp[yV];done) | have bn00:((x.n:Int) != 0)=true:=by simp[yV]
 all_goals first | have bn01:(x.n=0)=True:=eq_true yV | have bn01:(x.n=0)=False:=eq_false yV
 all_goals have pv:=Hh yV
 all_goals clear yV
 all_goals by_cases xF:x.items.length%2=0
 all_goals first | have beven0:((x.items.length:Int)%2 != 0)=false:=by(rw[bne_eq_false_iff_eq];omega) | have beven0:((x.items.length:Int)%2 != 0)=true:=by(rw[bne_iff_ne];omega)
 all_goals have eQ:=Hh xF
 all_goals clear xF
 all_goals
  by_cases tk:0<x.items.length
  ·have bpos0:(0:Int)<x.items.length:=by omega
   have qA:=Hh tk;clear tk;go_enter Tryz.func111,Tryz.ntmps111
   go_upto_region 22 with fail
   any_goals
    (have sM:ym x d (c-1)=false:=by
      cases hq:ym x d (c-1) with
      | false=>rfl
      | true=>exact absurd ((we (by have:=HK.out;omega)).1 hq) (by have yV:=pv.out;have xF:=eQ.out;have tk:=qA.out;have hk:=HK.out;omega)
     go_ret
     exact⟨by rw[wn sM];rfl,yK⟩)
   all_goals
    have HG:Hid (ym x d (c-1)=true):=(we (by have:=HK.out;omega)).2 ⟨by omega,by omega,fun h=>by have:=HK.out;omega,fun _=>pv.out,fun h=>eQ.out,by omega⟩;have c0:=hB.cell 0 rfl;have c3:=hB.cell 3 rfl;go_wp2_with fail
    have Yp:=hB;have zA:=yK;go_loopw [1,157] (fun v1 v157 wr=>∃ (j r:Nat),j≤x.items.length∧r≤c∧v157=.int .i64 j∧v1=.int .i64 r∧xW (x.items.drop j) r (d+1)=xW x.items (c-1) (d+1)∧Below w.heap.size w wr∧Blk wr w.heap.size 26 #[.int .i64 x.kind,.int .u64 x.n,.slice ba x.bytes.length bc,.slice ia x.items.length ic]) (fun _ v157 _=>x.items.length-(intOf v157).toNat)
    case atStart=>exact⟨0,c-1,Nat.zero_le _,by omega,rfl,by rw[i7.out],rfl,zA,Yp⟩
    case round =>
    obtain⟨j,r,hj,Qm,rfl,rfl,WZ,yO,oL⟩:=hrel;have WK:=Hh WZ;clear WZ
    by_cases zB:j<x.items.length
    ·have yG:Holds wr H:=hH.below yO (Nat.le_refl _);obtain⟨ib,io,tK,xA⟩:=HX.out.items (by omega);obtain⟨eba,ebc,eia,eic,q0,q1,q2,q3,va⟩:=xA.get j zB;subst tK;have p0:=yG.cell q0;have p1:=yG.cell q1;have p2:=yG.cell q2;have p3:=yG.cell q3;have tS:xW (x.items.drop j) r (d+1)=match yZ x.items[j] r (d+1) with | none=>none | some r'=>xW (x.items.drop (j+1)) r' (d+1):=by rw[List.drop_eq_getElem_cons zB,xW];cases yZ x.items[j] r (d+1) <;> rfl
     have vd:=Hh (tS.symm.trans WK.out);clear tS;have IHC:=ih x.items[j] (wL x j zB) H hT _ _ eba _ ebc eia _ eic (wr.alloc (zh x.items[j] eba ebc eia eic)) r (d+1) va.arg (yG.alloc _) (by omega) (by omega);rw[show((d+1:Nat):Int)=(d:Int)+1 by omega]at IHC;have IHH:=Hh IHC;have uE:=yO.alloc yO.size (zh x.items[j] eba ebc eia eic);have lL:=oL.alloc (zh x.items[j] eba ebc eia eic);clear IHC q0 q1 q2 q3
     cases hq:yZ x.items[j] r (d+1) with
     | none =>
      rw[hq]at IHH vd;have E:Hid (yZ x c d=none):=by rw[Hid,uq,if_neg (by omega),if_neg (by simp[HG.out]),← vd.out]
      clear hq vd;go_wp2_with fail
      refine IHH.out.mono ?_
      rintro e w6 ⟨rfl,xT⟩
      have wJ:=uE.trans (xT.mono uE.size)
      simp only[uT]
      go_wp2_with fail
      go_ret
      exact⟨by rw[E.out];rfl,wJ⟩
     | some r' =>
     rw[hq]at IHH vd;have NZ:=(sV _ _ _ _ hq).2.2;have WC:Hid (xW (x.items.drop (j+1)) r' (d+1)=xW x.items (c-1) (d+1)):=vd.out;clear hq vd;have Qk:(0:Int)≤(r':Int):=by omega
     have Vz:r'≤c:=by omega
     go_wp2_with fail
     refine IHH.out.mono ?_
     rintro e w6 ⟨rfl,xT⟩
     have wJ:=uE.trans (xT.mono uE.size);have WO:=lL.below xT
     simp only[uT]
     clear yO oL uE lL xT IHH p0 p1 p2 p3 NZ yG;go_wp2_with fail
     go_roundw
     case rel=>exact⟨j+1,r',by omega,Vz,by go_num,rfl,WC.out,wJ,WO⟩
     case measure=>simp[intOf];omega
    have lN:j=x.items.length:=by omega
    subst lN;have vH:xW x.items (c-1) (d+1)=some r:=by rw[← WK.out,List.drop_length,xW]
    have iS:=Hh vH;clear vH WK;obtain⟨uG,GY,lM⟩:=oC _ _ _ _ iS.out;have Ef:=Hh uG;have rM:(zG x.items).length≤1099511627776:=by have:=GoodL.bytes uG GY;omega
    have eo:=Hh rM;have h5:x.kind=5:=by simpa using b5
    have H5:=Hh h5;clear uG GY lM rM h5;go_wp2_with fail
    go_loopw [11] (fun v11 wz=>∃ i:Nat,2≤i∧i≤x.items.length+2∧v11=.int .i64 i∧xe (x.items.drop (i-2))=xe x.items∧Below w.heap.size w wz∧Blk wz w.heap.size 26 #[.int .i64 x.kind,.int .u64 x.n,.slice ba x.bytes.length bc,.slice ia x.items.length ic]) (fun v11 _=>(x.items.length+2)-(intOf v11).toNat)
    case atStart=>exact⟨2,by omega,by omega,rfl,rfl,yO,oL⟩
    case round =>
    obtain⟨i,oe,Bq,rfl,pm,km,m5⟩:=hrel;have HA:=Hh pm;have c0:=m5.cell 0 rfl;have c3:=m5.cell 3 rfl;clear pm yO oL
    by_cases hlt2:i<x.items.length
    ·have DN:Holds wr H:=hH.below km (Nat.le_refl _);obtain⟨ib,io,tK,xA⟩:=HX.out.items (by omega);obtain⟨y1,y2,y3,y4,p0,p1,p2,p3,hy⟩:=xA.get (i-2) (by omega);obtain⟨z1,z2,z3,z4,q0,q1,q2,q3,hz⟩:=xA.get i hlt2;subst tK;have hd:=mG x.items i oe hlt2;rw[HA.out]at hd;have GA:=Ef.out.get x.items[i-2] (List.getElem_mem (by omega));have xI:=Ef.out.get x.items[i] (List.getElem_mem hlt2);have im:=nN (List.getElem_mem (show i-2<x.items.length by omega));have Jd:=nN (List.getElem_mem hlt2);have Bp:(2:Int)≤i:=by omega
     have C6:((i:Int)-2).toNat=i-2:=by omega
     have BG:IntKind.i64.wrap ((i:Int)-2)=(i:Int)-2:=IntWalk.i64_in _ (by omega);have Ix:(0:Int)≤(i:Int)-2:=by omega
     have Nu:(i:Int)-2<x.items.length:=by omega
     have Nv:(i:Int)<x.items.length:=by omega
     generalize x.items[i-2]'(by omega)=y at *
     generalize x.items[i]'hlt2=z at *
     have rM:=eo.out;have RY:=Hh (fun w1:World=>fun h1:Holds w1 H=>qe y H _ _ y1 _ y2 y3 _ y4 w1 (d+1) GA (by omega) hy.arg h1);have RZ:=Hh (fun w1:World=>fun h1:Holds w1 H=>qe z H _ _ z1 _ z2 z3 _ z4 w1 (d+1) xI (by omega) hz.arg h1);have Gk:(zi y).length≤1099511627776:=by omega
     have Z9:(zi z).length≤1099511627776:=by omega
     have HD:=Hh hd;clear GA xI im Jd rM hd xA;go_upto_region 32 with fail
     have vI:=m5.drew;have yH:=km.drew;have zP:=DN.drew
     refine zw 14 (fun w'=>w'.cell? ⟨w.heap.size,3,none⟩=some (.slice (some ⟨ib,io,none⟩) x.items.length ic)∧w'.cell? ⟨ib,io+(i-2)*4,none⟩=some (.int .i64 y.kind)∧w'.cell? ⟨ib,io+(i-2)*4+1,none⟩=some (.int .u64 y.n)∧w'.cell? ⟨ib,io+(i-2)*4+2,none⟩=some (.slice y1 y.bytes.length y2)∧w'.cell? ⟨ib,io+(i-2)*4+3,none⟩=some (.slice y3 y.items.length y4)∧w'.cell? ⟨ib,io+i*4,none⟩=some (.int .i64 z.kind)∧w'.cell? ⟨ib,io+i*4+1,none⟩=some (.int .u64 z.n)∧w'.cell? ⟨ib,io+i*4+2,none⟩=some (.slice z1 z.bytes.length z2)∧w'.cell? ⟨ib,io+i*4+3,none⟩=some (.slice z3 z.items.length z4)) (by kernel_rfl) (⟨vI.cell 3 rfl,zP.cell p0,zP.cell p1,zP.cell p2,zP.cell p3,zP.cell q0,zP.cell q1,zP.cell q2,zP.cell q3⟩) (fun zy=>?_)
     refine Tk 0 rfl zy ?_
     refine Tk 1 rfl zy ?_
     refine Tk 2 rfl zy ?_
     refine Tk 3 rfl zy ?_
     refine Tk 4 rfl zy ?_
     refine Tk 5 rfl zy ?_
     refine Tk 7 rfl zy ?_
     refine Tk 8 rfl zy ?_
     refine Tk 9 rfl zy ?_
     refine Tk 10 rfl zy ?_
     refine Tk 11 rfl zy ?_
     refine To 6 rfl fun K hK=>?_
     go_simp
     refine(RY.out _ zP).mono ?_
     rintro e wA ⟨rA,rfl,OF⟩
     obtain⟨AA,ca,rfl,_⟩:=OF.own.form;have Nd:=OF.own.src
     try have Nf:=Nf.below OF.2
     have zP:=zP.below OF.2 (Nat.le_refl _);have vI:=vI.below OF.2;have yH:=yH.trans (OF.2.mono yH.size)
     refine Ko hK ?_ fun zy=>?_
     ·exact⟨vI.cell 3 rfl,zP.cell p0,zP.cell p1,zP.cell p2,zP.cell p3,zP.cell q0,zP.cell q1,zP.cell q2,zP.cell q3⟩
     clear hK K
     refine To 12 rfl fun K hK=>?_
     go_simp
     refine(RZ.out _ zP).mono ?_
     rintro e wB ⟨rB,rfl,OG⟩
     obtain⟨BB,cb,rfl,_⟩:=OG.own.form;have Nf:=OG.own.src
     try have Nd:=Nd.below OG.2
     have zP:=zP.below OG.2 (Nat.le_refl _);have vI:=vI.below OG.2;have yH:=yH.trans (OG.2.mono yH.size)
     refine Ko hK ?_ fun zy=>?_
     ·exact⟨vI.cell 3 rfl,zP.cell p0,zP.cell p1,zP.cell p2,zP.cell p3,zP.cell q0,zP.cell q1,zP.cell q2,zP.cell q3⟩
     clear hK K
     refine To 13 rfl fun K hK=>?_
     go_simp
     refine(rY _ AA BB (zi y) (zi z) _ _ ca cb rfl rfl Gk Z9 Nd Nf).mono ?_
     rintro e wC ⟨rfl,JR⟩
     have zP:=zP.below JR (Nat.le_refl _);have vI:=vI.below JR;have yH:=yH.trans (JR.mono yH.size)
     refine Ko hK ?_ fun zy=>?_
     ·exact⟨vI.cell 3 rfl,zP.cell p0,zP.cell p1,zP.cell p2,zP.cell p3,zP.cell q0,zP.cell q1,zP.cell q2,zP.cell q3⟩
     clear hK K
     refine To 14 rfl fun K hK=>?_
     go_simp
     refine Kz hK ?_
     clear hK K
     refine Wd ?_
     clear zy
     by_cases qm:Lib.compareBytes (zi y) (zi z)<0
     ·have et:¬ (0:Int)≤Lib.compareBytes (zi y) (zi z):=by omega
      have HN:Hid (xe (x.items.drop (i+2-2))=xe x.items):=by rw[Hid,Nat.add_sub_cancel,HD.out,decide_eq_true qm,Bool.true_and]
      generalize Lib.compareBytes (zi y) (zi z)=cmp at *
      have HC:=Hh qm;clear qm Nd Nf zP;go_wp2_with fail
      go_roundw
      case rel=>exact⟨i+2,by omega,by omega,by go_num,HN.out,yH,vI⟩
      case measure=>simp[intOf];omega
     have et:(0:Int)≤Lib.compareBytes (zi y) (zi z):=by omega
     have HN:xe x.items=false:=by rw[HD.out,decide_eq_false qm,Bool.false_and]
     have E:Hid (yZ x c d=none):=by
      rw[Hid,uq,if_neg (by omega),if_neg (by simp[HG.out]),iS.out]
      simp only
      rw[if_pos ⟨H5.out,HN⟩]
     generalize Lib.compareBytes (zi y) (zi z)=cmp at *
     clear qm Nd Nf zP HN;go_wp2_with fail
     go_ret
     exact⟨by rw[E.out];rfl,yH⟩
    have cV:¬ (i:Int)<x.items.length:=by omega
    have HN:xe x.items=true:=by rw[← HA.out];exact dZ _ _ oe (by omega)
    have E:Hid (yZ x c d=some r):=by
     rw[Hid,uq,if_neg (by omega),if_neg (by simp[HG.out]),iS.out]
     simp only
     rw[if_neg (by rintro⟨_,h⟩;rw[HN]at h;cases h)]
    clear HN hlt2;go_wp2_with fail
    go_ret
    exact⟨by rw[E.out];rfl,km⟩
  have bpos0:¬ (0:Int)<x.items.length:=by omega
  have qA:=Hh tk;clear tk;go_enter Tryz.func111,Tryz.ntmps111
  go_upto_region 22 with fail
  any_goals
   (have sM:ym x d (c-1)=false:=by
     cases hq:ym x d (c-1) with
     | false=>rfl
     | true=>exact absurd ((we (by have:=HK.out;omega)).1 hq) (by have yV:=pv.out;have xF:=eQ.out;have tk:=qA.out;have hk:=HK.out;omega)
    go_ret
    exact⟨by rw[wn sM];rfl,yK⟩)
  all_goals
   have xP:ym x d (c-1)=true:=(we (by have:=HK.out;omega)).2 ⟨by omega,by omega,fun h=>by have:=HK.out;omega,fun _=>pv.out,fun h=>eQ.out,by omega⟩;have uv:x.items.length=0:=by have yV:=pv.out;have xF:=eQ.out;have tk:=qA.out;have hk:=HK.out;omega
   have hk:=HK.out;have E:Hid (yZ x c d=some (c-1)):=vE tB xP uv;have RX:¬ (0:Int)<x.items.length:=by omega
   have og:¬ (2:Int)<x.items.length:=by omega
   have HI:=Hh uv;have HC:=Hh xP;clear uv hk xP;have c0:=hB.cell 0 rfl;have c3:=hB.cell 3 rfl;go_wp2_with fail
   refine wp_loop_rounds 1 ?_
   rw[rounds_succ];go_wp2_with fail
   refine wp_loop_rounds 1 ?_
   rw[rounds_succ];go_wp2_with fail
   go_ret
   exact⟨by rw[E.out,← i7.out];rfl,yK⟩
end Go.Proofs.YtliomcphdnppnaaGreatDoor
