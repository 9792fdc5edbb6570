/- squeezed. Walks: the references' left: numbe -/
import Derived.Test.YtgaoknihklmakabGreatDoorK04
set_option linter.unusedVariables false
set_option linter.unusedSimpArgs false
set_option maxRecDepth 100000
set_option maxHeartbeats 6400000
namespace Go.Proofs.YtgaoknihklmakabGreatDoor
open Go.RowKit
theorem jaf{P:Prop}(h:P:=by
 have vv:Holds wr H:=hH.below ws (Nat.le_refl _);obtain⟨ib,io,pf,un⟩:=HX.out.items (by omega);obtain⟨eba,ebc,eia,eic,q0,q1,q2,q3,rx⟩:=un.get j zB;subst pf;have p0:=vv.cell q0;have p1:=vv.cell q1;have p2:=vv.cell q2;have p3:=vv.cell q3;have qP:x9 (x.items.drop j) r (d+1)=match yM x.items[j] r (d+1) with | none=>none | some r'=>x9 (x.items.drop (j+1)) r' (d+1):=by rw[List.drop_eq_getElem_cons zB,x9];cases yM x.items[j] r (d+1) <;> rfl
 have lf:=Hh (qP.symm.trans UN.out);clear qP;have IHC:=ih x.items[j] (ui x j zB) H hT _ _ eba _ ebc eia _ eic (wr.alloc (zU x.items[j] eba ebc eia eic)) r (d+1) rx.arg (vv.alloc _) (by omega) (by omega);rw[show((d+1:Nat):Int)=(d:Int)+1 by omega]at IHC;have IHH:=Hh IHC;have sX:=ws.alloc ws.size (zU x.items[j] eba ebc eia eic);have qc:=eu.alloc (zU x.items[j] eba ebc eia eic);clear IHC q0 q1 q2 q3
 cases hq:yM x.items[j] r (d+1) with
 | none =>
  rw[hq]at IHH lf;have E:Hid (yM x c d=none):=by rw[Hid,tT,if_neg (by omega),if_neg (by simp[HG.out]),← lf.out]
  clear hq lf;go_wp2_with fail
  refine IHH.out.mono ?_
  rintro e w6 ⟨rfl,sm⟩
  have uq:=sX.trans (sm.mono sX.size)
  simp only[tB]
  go_wp2_with fail
  go_ret
  exact⟨by rw[E.out];rfl,uq⟩
 | some r' =>
 rw[hq]at IHH lf;have Mc:=(rI _ _ _ _ hq).2.2;have UH:Hid (x9 (x.items.drop (j+1)) r' (d+1)=x9 x.items (c-1) (d+1)):=lf.out;clear hq lf;have Ma:(0:Int)≤(r':Int):=by omega
 have UF:r'≤c:=by omega
 go_wp2_with fail
 refine IHH.out.mono ?_
 rintro e w6 ⟨rfl,sm⟩
 have uq:=sX.trans (sm.mono sX.size);have mr:=qc.below sm
 simp only[tB]
 clear ws eu sX qc sm IHH p0 p1 p2 p3 Mc vv;go_wp2_with fail
 go_roundw
 case rel=>exact⟨j+1,r',by omega,UF,by go_num,rfl,UH.out,uq,mr⟩
 case measure=>simp[intOf];omega):P:=h
theorem jbO{P:Prop}(h:P:=by exact⟨bV.cell 3 rfl,xf.cell p0,xf.cell p1,xf.cell p2,xf.cell p3,xf.cell q0,xf.cell q1,xf.cell q2,xf.cell q3⟩):P:=h
theorem jca{P:Prop}(h:P:=by
 cases hq:yX x d (c-1) with
 | false=>rfl
 | true=>exact absurd ((vH (by have:=HK.out;omega)).1 hq) (by have yj:=oO.out;have UC:=Ts.out;have tm:=lL.out;have hk:=HK.out;omega)):P:=h
theorem jcb{P:Prop}(h:P:=by
 cases hq:yX x d (c-1) with
 | false=>rfl
 | true=>exact absurd ((vH (by have:=HK.out;omega)).1 hq) (by have yj:=oO.out;have sV:=ar.out;have tm:=lL.out;have hk:=HK.out;omega)):P:=h
theorem jci{P:Prop}(h:P:=by
 cases hq:yX x d (c-1) with
 | false=>rfl
 | true=>exact absurd ((vH (by have:=HK.out;omega)).1 hq) (by have yj:=oO.out;have tm:=lL.out;have hk:=HK.out;omega)):P:=h
theorem jcD{P:Prop}(h:P:=by
 rw[Hid,tT,if_neg (by omega),if_neg (by simp[HG.out]),mz.out]
 simp only
 rw[if_neg (by rintro⟨h5,_⟩;rw[h5]at b5;cases b5)]):P:=h
theorem jcW{P:Prop}(h:P:=by
 go_wp2_with fail
 go_ret
 exact⟨by rw[E.out];rfl,yg⟩):P:=h
theorem jfZ{P:Prop}(h:P:=by have hk:=HK.out;have E:Hid (yM x c d=some (c-1)):=tz jg wg uZ;exact And.intro hk E):P:=h
theorem jf8{P:Prop}(h:P:=by have c0:=hB.cell 0 rfl;exact c0):P:=h
theorem jgp{P:Prop}(h:P:=by have c3:=hB.cell 3 rfl;exact c3):P:=h
theorem jg1{P:Prop}(h:P:=by have b0:=yT.cell 0 rfl;have b1:=yT.cell 1 rfl;have b2:=yT.cell 2 rfl;have b3:=yT.cell 3 rfl;exact And.intro b0 (And.intro b1 (And.intro b2 b3))):P:=h
theorem QH (x:Itm) (hk:x.kind=0) {H:Snap}(hT:Tabs H) (ih:∀ y:Itm,cnt y<cnt x→uX y) {ba:Option Addr}{bc:Nat}{ia:Option Addr}{ic:Nat}(hx:IsItem H ba bc ia ic x) (w:World) (hH:Holds w H) (c d:Nat) (jg:0<c) (hc:c≤65536) (hd:d≤65536) :
  Calls Tryz.prog 75 #[xx x ba bc ia ic,.int .i64 c,.int .i64 d] w fun e w'=>e=.returned (.int .i64 (tB (yM x c d)))∧Below w.heap.size w w':=by
 have HX:=Hh hx;have tE:=jhN;obtain⟨hB,uo⟩:=jfz;have oL:((c-1:Nat):Int)=(c:Int)-1:=by omega
 have jf:x.bytes.length≤9223372036854775807:=by omega
 have tL:x.items.length≤9223372036854775807:=by omega
 have HN:=jhS;have Ry:¬ (c:Int)<1:=by omega
 have k0:¬ x.kind<0:=by omega
 have k8:¬ 8<x.kind:=by omega
 have HK:=Hh hk;have gj:=Hh oL;clear hx tE oL;obtain⟨b0,b1,b2,b3,b4,b5,b6,b7,b8⟩:=TI hk;clear hk
 by_cases yj:x.n=0
 all_goals first | (have bn00:((x.n:Int) != 0)=false:=by simp[yj]) | (have bn00:((x.n:Int) != 0)=true:=by simp[yj])
 all_goals first | (have bn01:(x.n=0)=True:=by first | exact eq_true yj | exact eq_false yj) | (have bn01:(x.n=0)=False:=by first | exact eq_true yj | exact eq_false yj)
 all_goals have oO:=Hh yj
 all_goals clear yj
 all_goals
  go_enter Tryz.func75,Tryz.ntmps75
  go_upto_region 22 with fail
  any_goals
   (have rg:yX x d (c-1)=false:=by
     cases hq:yX x d (c-1) with
     | false=>rfl
     | true=>exact absurd ((ks (.inl HK.out)).1 hq) (by have yj:=oO.out;omega)
    go_ret
    exact⟨by rw[va rg];rfl,uo⟩)
  all_goals
   have wg:yX x d (c-1)=true:=(ks (.inl HK.out)).2 ⟨by omega,by omega⟩;have uZ:x.items.length=0:=by have yj:=oO.out;omega
   obtain⟨hk,E⟩:=jfZ;have Rz:¬ (0:Int)<x.items.length:=by omega
   have lT:¬ (2:Int)<x.items.length:=by omega
   have HI:=Hh uZ;have HC:=Hh wg;clear uZ hk wg;have c0:=jf8;have c3:=jgp;go_wp2_with fail
   refine wp_loop_rounds 1 ?_
   rw[rounds_succ];go_wp2_with fail
   refine wp_loop_rounds 1 ?_
   rw[rounds_succ];go_wp2_with fail
   go_ret
   exact⟨by rw[E.out,← gj.out];rfl,uo⟩
theorem QI (x:Itm) (hk:x.kind=1) {H:Snap}(hT:Tabs H) (ih:∀ y:Itm,cnt y<cnt x→uX y) {ba:Option Addr}{bc:Nat}{ia:Option Addr}{ic:Nat}(hx:IsItem H ba bc ia ic x) (w:World) (hH:Holds w H) (c d:Nat) (jg:0<c) (hc:c≤65536) (hd:d≤65536) :
  Calls Tryz.prog 75 #[xx x ba bc ia ic,.int .i64 c,.int .i64 d] w fun e w'=>e=.returned (.int .i64 (tB (yM x c d)))∧Below w.heap.size w w':=by
 have HX:=Hh hx;have tE:=jhN;obtain⟨hB,uo⟩:=jfz;have oL:((c-1:Nat):Int)=(c:Int)-1:=by omega
 have jf:x.bytes.length≤9223372036854775807:=by omega
 have tL:x.items.length≤9223372036854775807:=by omega
 have HN:=jhS;have Ry:¬ (c:Int)<1:=by omega
 have k0:¬ x.kind<0:=by omega
 have k8:¬ 8<x.kind:=by omega
 have HK:=Hh hk;have gj:=Hh oL;clear hx tE oL;obtain⟨b0,b1,b2,b3,b4,b5,b6,b7,b8⟩:=TJ hk;clear hk
 by_cases yj:x.n=0
 all_goals first | (have bn00:((x.n:Int) != 0)=false:=by simp[yj]) | (have bn00:((x.n:Int) != 0)=true:=by simp[yj])
 all_goals first | (have bn01:(x.n=0)=True:=by first | exact eq_true yj | exact eq_false yj) | (have bn01:(x.n=0)=False:=by first | exact eq_true yj | exact eq_false yj)
 all_goals have oO:=Hh yj
 all_goals clear yj
 all_goals
  go_enter Tryz.func75,Tryz.ntmps75
  go_upto_region 22 with fail
  any_goals
   (have rg:yX x d (c-1)=false:=by
     cases hq:yX x d (c-1) with
     | false=>rfl
     | true=>exact absurd ((ks (.inr HK.out)).1 hq) (by have yj:=oO.out;omega)
    go_ret
    exact⟨by rw[va rg];rfl,uo⟩)
  all_goals
   have wg:yX x d (c-1)=true:=(ks (.inr HK.out)).2 ⟨by omega,by omega⟩;have uZ:x.items.length=0:=by have yj:=oO.out;omega
   obtain⟨hk,E⟩:=jfZ;have Rz:¬ (0:Int)<x.items.length:=by omega
   have lT:¬ (2:Int)<x.items.length:=by omega
   have HI:=Hh uZ;have HC:=Hh wg;clear uZ hk wg;have c0:=jf8;have c3:=jgp;go_wp2_with fail
   refine wp_loop_rounds 1 ?_
   rw[rounds_succ];go_wp2_with fail
   refine wp_loop_rounds 1 ?_
   rw[rounds_succ];go_wp2_with fail
   go_ret
   exact⟨by rw[E.out,← gj.out];rfl,uo⟩
theorem QJ (x:Itm) (hk:x.kind=2) {H:Snap}(hT:Tabs H) (ih:∀ y:Itm,cnt y<cnt x→uX y) {ba:Option Addr}{bc:Nat}{ia:Option Addr}{ic:Nat}(hx:IsItem H ba bc ia ic x) (w:World) (hH:Holds w H) (c d:Nat) (jg:0<c) (hc:c≤65536) (hd:d≤65536) :
  Calls Tryz.prog 75 #[xx x ba bc ia ic,.int .i64 c,.int .i64 d] w fun e w'=>e=.returned (.int .i64 (tB (yM x c d)))∧Below w.heap.size w w':=by
 have HX:=Hh hx;have tE:=jhN;obtain⟨hB,uo⟩:=jfz;have oL:((c-1:Nat):Int)=(c:Int)-1:=by omega
 have jf:x.bytes.length≤9223372036854775807:=by omega
 have tL:x.items.length≤9223372036854775807:=by omega
 have HN:=jhS;have Ry:¬ (c:Int)<1:=by omega
 have k0:¬ x.kind<0:=by omega
 have k8:¬ 8<x.kind:=by omega
 have HK:=Hh hk;have gj:=Hh oL;clear hx tE oL;obtain⟨b0,b1,b2,b3,b4,b5,b6,b7,b8⟩:=TK hk;clear hk
 by_cases yj:x.n=0
 all_goals first | (have bn00:((x.n:Int) != 0)=false:=by simp[yj]) | (have bn00:((x.n:Int) != 0)=true:=by simp[yj])
 all_goals first | (have bn01:(x.n=0)=True:=by first | exact eq_true yj | exact eq_false yj) | (have bn01:(x.n=0)=False:=by first | exact eq_true yj | exact eq_false yj)
 all_goals have oO:=Hh yj
 all_goals clear yj
 all_goals
  go_enter Tryz.func75,Tryz.ntmps75
  go_upto_region 22 with fail
  any_goals
   (have rg:yX x d (c-1)=false:=by
     cases hq:yX x d (c-1) with
     | false=>rfl
     | true=>exact absurd ((Wj HK.out).1 hq) (by have yj:=oO.out;omega)
    go_ret
    exact⟨by rw[va rg];rfl,uo⟩)
  all_goals
   have wg:yX x d (c-1)=true:=(Wj HK.out).2 ⟨oO.out,by omega,by omega⟩;have uZ:x.items.length=0:=by have yj:=oO.out;omega
   obtain⟨hk,E⟩:=jfZ;have Rz:¬ (0:Int)<x.items.length:=by omega
   have lT:¬ (2:Int)<x.items.length:=by omega
   have HI:=Hh uZ;have HC:=Hh wg;clear uZ hk wg;have c0:=jf8;have c3:=jgp;go_wp2_with fail
   refine wp_loop_rounds 1 ?_
   rw[rounds_succ];go_wp2_with fail
   refine wp_loop_rounds 1 ?_
   rw[rounds_succ];go_wp2_with fail
   go_ret
   exact⟨by rw[E.out,← gj.out];rfl,uo⟩
theorem QO (x:Itm) (hk:x.kind=7) {H:Snap}(hT:Tabs H) (ih:∀ y:Itm,cnt y<cnt x→uX y) {ba:Option Addr}{bc:Nat}{ia:Option Addr}{ic:Nat}(hx:IsItem H ba bc ia ic x) (w:World) (hH:Holds w H) (c d:Nat) (jg:0<c) (hc:c≤65536) (hd:d≤65536) :
  Calls Tryz.prog 75 #[xx x ba bc ia ic,.int .i64 c,.int .i64 d] w fun e w'=>e=.returned (.int .i64 (tB (yM x c d)))∧Below w.heap.size w w':=by
 have HX:=Hh hx;have tE:=jhN;obtain⟨hB,uo⟩:=jfz;have oL:((c-1:Nat):Int)=(c:Int)-1:=by omega
 have jf:x.bytes.length≤9223372036854775807:=by omega
 have tL:x.items.length≤9223372036854775807:=by omega
 have HN:=jhS;have Ry:¬ (c:Int)<1:=by omega
 have k0:¬ x.kind<0:=by omega
 have k8:¬ 8<x.kind:=by omega
 have HK:=Hh hk;have gj:=Hh oL;clear hx tE oL;obtain⟨b0,b1,b2,b3,b4,b5,b6,b7,b8⟩:=TP hk;clear hk
 by_cases yj:x.n=0
 all_goals first | (have bn00:((x.n:Int) != 0)=false:=by simp[yj]) | (have bn00:((x.n:Int) != 0)=true:=by simp[yj])
 all_goals first | (have bn01:(x.n=0)=True:=by first | exact eq_true yj | exact eq_false yj) | (have bn01:(x.n=0)=False:=by first | exact eq_true yj | exact eq_false yj)
 all_goals have oO:=Hh yj
 all_goals clear yj
 all_goals
  go_enter Tryz.func75,Tryz.ntmps75
  go_upto_region 22 with fail
  any_goals
   (have rg:yX x d (c-1)=false:=by
     cases hq:yX x d (c-1) with
     | false=>rfl
     | true=>exact absurd ((Wl HK.out).1 hq) (by have yj:=oO.out;omega)
    go_ret
    exact⟨by rw[va rg];rfl,uo⟩)
  all_goals
   have wg:yX x d (c-1)=true:=(Wl HK.out).2 ⟨by omega,by omega,by have yj:=oO.out;omega⟩;have uZ:x.items.length=0:=by have yj:=oO.out;omega
   obtain⟨hk,E⟩:=jfZ;have Rz:¬ (0:Int)<x.items.length:=by omega
   have lT:¬ (2:Int)<x.items.length:=by omega
   have HI:=Hh uZ;have HC:=Hh wg;clear uZ hk wg;have c0:=jf8;have c3:=jgp;go_wp2_with fail
   refine wp_loop_rounds 1 ?_
   rw[rounds_succ];go_wp2_with fail
   refine wp_loop_rounds 1 ?_
   rw[rounds_succ];go_wp2_with fail
   go_ret
   exact⟨by rw[E.out,← gj.out];rfl,uo⟩
theorem QL (x:Itm) (hk:x.kind=4) {H:Snap}(hT:Tabs H) (ih:∀ y:Itm,cnt y<cnt x→uX y) {ba:Option Addr}{bc:Nat}{ia:Option Addr}{ic:Nat}(hx:IsItem H ba bc ia ic x) (w:World) (hH:Holds w H) (c d:Nat) (jg:0<c) (hc:c≤65536) (hd:d≤65536) :
  Calls Tryz.prog 75 #[xx x ba bc ia ic,.int .i64 c,.int .i64 d] w fun e w'=>e=.returned (.int .i64 (tB (yM x c d)))∧Below w.heap.size w w':=by
 have HX:=Hh hx;have tE:=jhN;obtain⟨hB,uo⟩:=jfz;have oL:((c-1:Nat):Int)=(c:Int)-1:=by omega
 have jf:x.bytes.length≤9223372036854775807:=by omega
 have tL:x.items.length≤9223372036854775807:=by omega
 have HN:=jhS;have Ry:¬ (c:Int)<1:=by omega
 have k0:¬ x.kind<0:=by omega
 have k8:¬ 8<x.kind:=by omega
 have HK:=Hh hk;have gj:=Hh oL;clear hx tE oL;obtain⟨b0,b1,b2,b3,b4,b5,b6,b7,b8⟩:=TM hk;clear hk
 by_cases yj:x.n=0
 all_goals first | have bn00:((x.n:Int) != 0)=false:=by(simp[yj];done) | have bn00:((x.n:Int) != 0)=true:=by simp[yj]
 all_goals first | have bn01:(x.n=0)=True:=eq_true yj | have bn01:(x.n=0)=False:=eq_false yj
 all_goals have oO:=Hh yj
 all_goals clear yj
 all_goals
  by_cases tm:0<x.items.length
  ·have bpos0:(0:Int)<x.items.length:=by omega
   have lL:=Hh tm;clear tm;go_enter Tryz.func75,Tryz.ntmps75
   go_upto_region 22 with fail
   any_goals
    (have rg:yX x d (c-1)=false:=by
      exact jci
     go_ret
     exact⟨by rw[va rg];rfl,uo⟩)
   all_goals
    have HG:Hid (yX x d (c-1)=true):=(vH (by have:=HK.out;omega)).2 ⟨by omega,by omega,fun h=>by have:=HK.out;omega,fun _=>oO.out,fun h=>by have:=HK.out;omega,by omega⟩;have c0:=jf8;have c3:=jgp;go_wp2_with fail
    have ob:=hB;have yg:=uo;go_loopw [1,157] (fun v1 v157 wr=>∃ (j r:Nat),j≤x.items.length∧r≤c∧v157=.int .i64 j∧v1=.int .i64 r∧x9 (x.items.drop j) r (d+1)=x9 x.items (c-1) (d+1)∧Below w.heap.size w wr∧Blk wr w.heap.size 83 #[.int .i64 x.kind,.int .u64 x.n,.slice ba x.bytes.length bc,.slice ia x.items.length ic]) (fun _ v157 _=>x.items.length-(intOf v157).toNat)
    case atStart=>exact⟨0,c-1,Nat.zero_le _,by omega,rfl,by rw[gj.out],rfl,yg,ob⟩
    case round =>
    obtain⟨j,r,hj,FJ,rfl,rfl,Uj,ws,eu⟩:=hrel;have UN:=Hh Uj;clear Uj
    by_cases zB:j<x.items.length
    ·exact jaf
    have uU:j=x.items.length:=by omega
    subst uU;have tX:x9 x.items (c-1) (d+1)=some r:=by rw[← UN.out,List.drop_length,x9]
    have mz:=Hh tX;clear tX UN
    have E:Hid (yM x c d=some r):=by
     exact jcD
    have c0:=eu.cell 0 rfl;go_wp2_with fail
    refine wp_loop_rounds 1 ?_
    rw[rounds_succ];go_wp2_with fail
    go_ret
    exact⟨by rw[E.out];rfl,ws⟩
  have bpos0:¬ (0:Int)<x.items.length:=by omega
  have lL:=Hh tm;clear tm;go_enter Tryz.func75,Tryz.ntmps75
  go_upto_region 22 with fail
  any_goals
   (have rg:yX x d (c-1)=false:=by
     exact jci
    go_ret
    exact⟨by rw[va rg];rfl,uo⟩)
  all_goals
   have wg:yX x d (c-1)=true:=(vH (by have:=HK.out;omega)).2 ⟨by omega,by omega,fun h=>by have:=HK.out;omega,fun _=>oO.out,fun h=>by have:=HK.out;omega,by omega⟩;have uZ:x.items.length=0:=by have yj:=oO.out;have tm:=lL.out;have hk:=HK.out;omega
   obtain⟨hk,E⟩:=jfZ;have Rz:¬ (0:Int)<x.items.length:=by omega
   have lT:¬ (2:Int)<x.items.length:=by omega
   have HI:=Hh uZ;have HC:=Hh wg;clear uZ hk wg;have c0:=jf8;have c3:=jgp;go_wp2_with fail
   refine wp_loop_rounds 1 ?_
   rw[rounds_succ];go_wp2_with fail
   refine wp_loop_rounds 1 ?_
   rw[rounds_succ];go_wp2_with fail
   go_ret
   exact⟨by rw[E.out,← gj.out];rfl,uo⟩
theorem QN (x:Itm) (hk:x.kind=6) {H:Snap}(hT:Tabs H) (ih:∀ y:Itm,cnt y<cnt x→uX y) {ba:Option Addr}{bc:Nat}{ia:Option Addr}{ic:Nat}(hx:IsItem H ba bc ia ic x) (w:World) (hH:Holds w H) (c d:Nat) (jg:0<c) (hc:c≤65536) (hd:d≤65536) :
  Calls Tryz.prog 75 #[xx x ba bc ia ic,.int .i64 c,.int .i64 d] w fun e w'=>e=.returned (.int .i64 (tB (yM x c d)))∧Below w.heap.size w w':=by
 have HX:=Hh hx;have tE:=jhN;obtain⟨hB,uo⟩:=jfz;have oL:((c-1:Nat):Int)=(c:Int)-1:=by omega
 have jf:x.bytes.length≤9223372036854775807:=by omega
 have tL:x.items.length≤9223372036854775807:=by omega
 have HN:=jhS;have Ry:¬ (c:Int)<1:=by omega
 have k0:¬ x.kind<0:=by omega
 have k8:¬ 8<x.kind:=by omega
 have HK:=Hh hk;have gj:=Hh oL;clear hx tE oL;obtain⟨b0,b1,b2,b3,b4,b5,b6,b7,b8⟩:=TO hk;clear hk
 by_cases yj:x.n=0
 all_goals first | have bn00:((x.n:Int) != 0)=false:=by(simp[yj];done) | have bn00:((x.n:Int) != 0)=true:=by simp[yj]
 all_goals first | have bn01:(x.n=0)=True:=eq_true yj | have bn01:(x.n=0)=False:=eq_false yj
 all_goals have oO:=Hh yj
 all_goals clear yj
 all_goals by_cases UC:x.items.length=1
 all_goals first | have bone0:((x.items.length:Int) != 1)=false:=by(rw[bne_eq_false_iff_eq];omega) | have bone0:((x.items.length:Int) != 1)=true:=by(rw[bne_iff_ne];omega)
 all_goals have Ts:=Hh UC
 all_goals clear UC
 all_goals
  by_cases tm:0<x.items.length
  ·have bpos0:(0:Int)<x.items.length:=by omega
   have lL:=Hh tm;clear tm;go_enter Tryz.func75,Tryz.ntmps75
   go_upto_region 22 with fail
   any_goals
    (have rg:yX x d (c-1)=false:=by
      exact jca
     go_ret
     exact⟨by rw[va rg];rfl,uo⟩)
   all_goals
    have HG:Hid (yX x d (c-1)=true):=(vH (by have:=HK.out;omega)).2 ⟨by omega,by omega,fun h=>Ts.out,fun h=>by have:=HK.out;omega,fun h=>by have:=HK.out;omega,by omega⟩;have c0:=jf8;have c3:=jgp;go_wp2_with fail
    have ob:=hB;have yg:=uo;go_loopw [1,157] (fun v1 v157 wr=>∃ (j r:Nat),j≤x.items.length∧r≤c∧v157=.int .i64 j∧v1=.int .i64 r∧x9 (x.items.drop j) r (d+1)=x9 x.items (c-1) (d+1)∧Below w.heap.size w wr∧Blk wr w.heap.size 83 #[.int .i64 x.kind,.int .u64 x.n,.slice ba x.bytes.length bc,.slice ia x.items.length ic]) (fun _ v157 _=>x.items.length-(intOf v157).toNat)
    case atStart=>exact⟨0,c-1,Nat.zero_le _,by omega,rfl,by rw[gj.out],rfl,yg,ob⟩
    case round =>
    obtain⟨j,r,hj,FJ,rfl,rfl,Uj,ws,eu⟩:=hrel;have UN:=Hh Uj;clear Uj
    by_cases zB:j<x.items.length
    ·exact jaf
    have uU:j=x.items.length:=by omega
    subst uU;have tX:x9 x.items (c-1) (d+1)=some r:=by rw[← UN.out,List.drop_length,x9]
    have mz:=Hh tX;clear tX UN
    have E:Hid (yM x c d=some r):=by
     exact jcD
    have c0:=eu.cell 0 rfl;go_wp2_with fail
    refine wp_loop_rounds 1 ?_
    rw[rounds_succ];go_wp2_with fail
    go_ret
    exact⟨by rw[E.out];rfl,ws⟩
  have bpos0:¬ (0:Int)<x.items.length:=by omega
  have lL:=Hh tm;clear tm;go_enter Tryz.func75,Tryz.ntmps75
  go_upto_region 22 with fail
  any_goals
   (have rg:yX x d (c-1)=false:=by
     exact jca
    go_ret
    exact⟨by rw[va rg];rfl,uo⟩)
  all_goals
   have wg:yX x d (c-1)=true:=(vH (by have:=HK.out;omega)).2 ⟨by omega,by omega,fun h=>Ts.out,fun h=>by have:=HK.out;omega,fun h=>by have:=HK.out;omega,by omega⟩;have uZ:x.items.length=0:=by have yj:=oO.out;have UC:=Ts.out;have tm:=lL.out;have hk:=HK.out;omega
   obtain⟨hk,E⟩:=jfZ;have Rz:¬ (0:Int)<x.items.length:=by omega
   have lT:¬ (2:Int)<x.items.length:=by omega
   have HI:=Hh uZ;have HC:=Hh wg;clear uZ hk wg;have c0:=jf8;have c3:=jgp;go_wp2_with fail
   refine wp_loop_rounds 1 ?_
   rw[rounds_succ];go_wp2_with fail
   refine wp_loop_rounds 1 ?_
   rw[rounds_succ];go_wp2_with fail
   go_ret
   exact⟨by rw[E.out,← gj.out];rfl,uo⟩
theorem QM (x:Itm) (hk:x.kind=5) {H:Snap}(hT:Tabs H) (ih:∀ y:Itm,cnt y<cnt x→uX y) {ba:Option Addr}{bc:Nat}{ia:Option Addr}{ic:Nat}(hx:IsItem H ba bc ia ic x) (w:World) (hH:Holds w H) (c d:Nat) (jg:0<c) (hc:c≤65536) (hd:d≤65536) :
  Calls Tryz.prog 75 #[xx x ba bc ia ic,.int .i64 c,.int .i64 d] w fun e w'=>e=.returned (.int .i64 (tB (yM x c d)))∧Below w.heap.size w w':=by
 have HX:=Hh hx;have tE:=jhN;obtain⟨hB,uo⟩:=jfz;have oL:((c-1:Nat):Int)=(c:Int)-1:=by omega
 have jf:x.bytes.length≤9223372036854775807:=by omega
 have tL:x.items.length≤9223372036854775807:=by omega
 have HN:=jhS;have Ry:¬ (c:Int)<1:=by omega
 have k0:¬ x.kind<0:=by omega
 have k8:¬ 8<x.kind:=by omega
 have HK:=Hh hk;have gj:=Hh oL;clear hx tE oL;obtain⟨b0,b1,b2,b3,b4,b5,b6,b7,b8⟩:=TN hk;clear hk
 by_cases yj:x.n=0
 all_goals first | have bn00:((x.n:Int) != 0)=false:=by(simp[yj];done) | have bn00:((x.n:Int) != 0)=true:=by simp[yj]
 all_goals first | have bn01:(x.n=0)=True:=eq_true yj | have bn01:(x.n=0)=False:=eq_false yj
 all_goals have oO:=Hh yj
 all_goals clear yj
 all_goals by_cases sV:x.items.length%2=0
 all_goals first | have beven0:((x.items.length:Int)%2 != 0)=false:=by(rw[bne_eq_false_iff_eq];omega) | have beven0:((x.items.length:Int)%2 != 0)=true:=by(rw[bne_iff_ne];omega)
 all_goals have ar:=Hh sV
 all_goals clear sV
 all_goals
  by_cases tm:0<x.items.length
  ·have bpos0:(0:Int)<x.items.length:=by omega
   have lL:=Hh tm;clear tm;go_enter Tryz.func75,Tryz.ntmps75
   go_upto_region 22 with fail
   any_goals
    (have rg:yX x d (c-1)=false:=by
      exact jcb
     go_ret
     exact⟨by rw[va rg];rfl,uo⟩)
   all_goals
    have HG:Hid (yX x d (c-1)=true):=(vH (by have:=HK.out;omega)).2 ⟨by omega,by omega,fun h=>by have:=HK.out;omega,fun _=>oO.out,fun h=>ar.out,by omega⟩;have c0:=jf8;have c3:=jgp;go_wp2_with fail
    have ob:=hB;have yg:=uo;go_loopw [1,157] (fun v1 v157 wr=>∃ (j r:Nat),j≤x.items.length∧r≤c∧v157=.int .i64 j∧v1=.int .i64 r∧x9 (x.items.drop j) r (d+1)=x9 x.items (c-1) (d+1)∧Below w.heap.size w wr∧Blk wr w.heap.size 83 #[.int .i64 x.kind,.int .u64 x.n,.slice ba x.bytes.length bc,.slice ia x.items.length ic]) (fun _ v157 _=>x.items.length-(intOf v157).toNat)
    case atStart=>exact⟨0,c-1,Nat.zero_le _,by omega,rfl,by rw[gj.out],rfl,yg,ob⟩
    case round =>
    obtain⟨j,r,hj,FJ,rfl,rfl,Uj,ws,eu⟩:=hrel;have UN:=Hh Uj;clear Uj
    by_cases zB:j<x.items.length
    ·exact jaf
    have uU:j=x.items.length:=by omega
    subst uU;have tX:x9 x.items (c-1) (d+1)=some r:=by rw[← UN.out,List.drop_length,x9]
    have mz:=Hh tX;clear tX UN;obtain⟨yC,sJ,rE⟩:=mA _ _ _ _ mz.out;have De:=Hh yC;have jf:(zG x.items).length≤1099511627776:=by have:=GoodL.bytes yC sJ;omega
    have Oa:=Hh jf;have h5:x.kind=5:=by simpa using b5
    have H5:=Hh h5;clear yC sJ rE jf h5;go_wp2_with fail
    go_loopw [11] (fun v11 wz=>∃ i:Nat,2≤i∧i≤x.items.length+2∧v11=.int .i64 i∧xE (x.items.drop (i-2))=xE x.items∧Below w.heap.size w wz∧Blk wz w.heap.size 83 #[.int .i64 x.kind,.int .u64 x.n,.slice ba x.bytes.length bc,.slice ia x.items.length ic]) (fun v11 _=>(x.items.length+2)-(intOf v11).toNat)
    case atStart=>exact⟨2,by omega,by omega,rfl,rfl,ws,eu⟩
    case round =>
    obtain⟨i,sH,Ab,rfl,oG,Uo,RN⟩:=hrel;have HA:=Hh oG;have c0:=RN.cell 0 rfl;have c3:=RN.cell 3 rfl;clear oG ws eu
    by_cases eZ:i<x.items.length
    ·have Cb:Holds wr H:=hH.below Uo (Nat.le_refl _);obtain⟨ib,io,pf,un⟩:=HX.out.items (by omega);obtain⟨y1,y2,y3,y4,p0,p1,p2,p3,hy⟩:=un.get (i-2) (by omega);obtain⟨z1,z2,z3,z4,q0,q1,q2,q3,hz⟩:=un.get i eZ;subst pf;have hd:=jh x.items i sH eZ;rw[HA.out]at hd;have F1:=De.out.get x.items[i-2] (List.getElem_mem (by omega));have zS:=De.out.get x.items[i] (List.getElem_mem eZ);have JX:=km (List.getElem_mem (show i-2<x.items.length by omega));have Pv:=km (List.getElem_mem eZ);have Aa:(2:Int)≤i:=by omega
     have Ao:((i:Int)-2).toNat=i-2:=by omega
     have hKs:IntKind.i64.wrap ((i:Int)-2)=(i:Int)-2:=IntWalk.i64_in _ (by omega);have h02:(0:Int)≤(i:Int)-2:=by omega
     have h03:(i:Int)-2<x.items.length:=by omega
     have h04:(i:Int)<x.items.length:=by omega
     generalize x.items[i-2]'(by omega)=y at *
     generalize x.items[i]'eZ=z at *
     have jf:=Oa.out;have RY:=Hh (fun w1:World=>fun h1:Holds w1 H=>rP y H _ _ y1 _ y2 y3 _ y4 w1 (d+1) F1 (by omega) hy.arg h1);have RZ:=Hh (fun w1:World=>fun h1:Holds w1 H=>rP z H _ _ z1 _ z2 z3 _ z4 w1 (d+1) zS (by omega) hz.arg h1);have Mi:(zf y).length≤1099511627776:=by omega
     have DK:(zf z).length≤1099511627776:=by omega
     have HD:=Hh hd;clear F1 zS JX Pv jf hd un;go_upto_region 32 with fail
     have bV:=RN.drew;have pe:=Uo.drew;have xf:=Cb.drew
     refine zj 14 (fun w'=>w'.cell? ⟨w.heap.size,3,none⟩=some (.slice (some ⟨ib,io,none⟩) x.items.length ic)∧w'.cell? ⟨ib,io+(i-2)*4,none⟩=some (.int .i64 y.kind)∧w'.cell? ⟨ib,io+(i-2)*4+1,none⟩=some (.int .u64 y.n)∧w'.cell? ⟨ib,io+(i-2)*4+2,none⟩=some (.slice y1 y.bytes.length y2)∧w'.cell? ⟨ib,io+(i-2)*4+3,none⟩=some (.slice y3 y.items.length y4)∧w'.cell? ⟨ib,io+i*4,none⟩=some (.int .i64 z.kind)∧w'.cell? ⟨ib,io+i*4+1,none⟩=some (.int .u64 z.n)∧w'.cell? ⟨ib,io+i*4+2,none⟩=some (.slice z1 z.bytes.length z2)∧w'.cell? ⟨ib,io+i*4+3,none⟩=some (.slice z3 z.items.length z4)) (by kernel_rfl) (⟨bV.cell 3 rfl,xf.cell p0,xf.cell p1,xf.cell p2,xf.cell p3,xf.cell q0,xf.cell q1,xf.cell q2,xf.cell q3⟩) (fun zy=>?_)
     refine Tk 0 rfl zy ?_
     refine Tk 1 rfl zy ?_
     refine Tk 2 rfl zy ?_
     refine Tk 3 rfl zy ?_
     refine Tk 4 rfl zy ?_
     refine Tk 5 rfl zy ?_
     refine Tk 7 rfl zy ?_
     refine Tk 8 rfl zy ?_
     refine Tk 9 rfl zy ?_
     refine Tk 10 rfl zy ?_
     refine Tk 11 rfl zy ?_
     refine To 6 rfl fun K hK=>?_
     go_simp
     refine(RY.out _ xf).mono ?_
     rintro e wA ⟨rA,rfl,NE⟩
     obtain⟨AA,ca,rfl,_⟩:=NE.own.form;have Me:=NE.own.src
     try have Pz:=Pz.below NE.2
     have xf:=xf.below NE.2 (Nat.le_refl _);have bV:=bV.below NE.2;have pe:=pe.trans (NE.2.mono pe.size)
     refine Ko hK ?_ fun zy=>?_
     ·exact jbO
     clear hK K
     refine To 12 rfl fun K hK=>?_
     go_simp
     refine(RZ.out _ xf).mono ?_
     rintro e wB ⟨rB,rfl,NF⟩
     obtain⟨BB,cb,rfl,_⟩:=NF.own.form;have Pz:=NF.own.src
     try have Me:=Me.below NF.2
     have xf:=xf.below NF.2 (Nat.le_refl _);have bV:=bV.below NF.2;have pe:=pe.trans (NF.2.mono pe.size)
     refine Ko hK ?_ fun zy=>?_
     ·exact jbO
     clear hK K
     refine To 13 rfl fun K hK=>?_
     go_simp
     refine(ss _ AA BB (zf y) (zf z) _ _ ca cb rfl rfl Mi DK Me Pz).mono ?_
     rintro e wC ⟨rfl,IA⟩
     have xf:=xf.below IA (Nat.le_refl _);have bV:=bV.below IA;have pe:=pe.trans (IA.mono pe.size)
     refine Ko hK ?_ fun zy=>?_
     ·exact jbO
     clear hK K
     refine To 14 rfl fun K hK=>?_
     go_simp
     refine Kz hK ?_
     clear hK K
     refine Wd ?_
     clear zy
     by_cases pD:Lib.compareBytes (zf y) (zf z)<0
     ·have gv:¬ (0:Int)≤Lib.compareBytes (zf y) (zf z):=by omega
      have HN:Hid (xE (x.items.drop (i+2-2))=xE x.items):=by rw[Hid,Nat.add_sub_cancel,HD.out,decide_eq_true pD,Bool.true_and]
      generalize Lib.compareBytes (zf y) (zf z)=cmp at *
      have HC:=Hh pD;clear pD Me Pz xf;go_wp2_with fail
      go_roundw
      case rel=>exact⟨i+2,by omega,by omega,by go_num,HN.out,pe,bV⟩
      case measure=>simp[intOf];omega
     have gv:(0:Int)≤Lib.compareBytes (zf y) (zf z):=by omega
     have HN:xE x.items=false:=by rw[HD.out,decide_eq_false pD,Bool.false_and]
     have E:Hid (yM x c d=none):=by
      rw[Hid,tT,if_neg (by omega),if_neg (by simp[HG.out]),mz.out]
      simp only
      rw[if_pos ⟨H5.out,HN⟩]
     generalize Lib.compareBytes (zf y) (zf z)=cmp at *
     clear pD Me Pz xf HN;go_wp2_with fail
     go_ret
     exact⟨by rw[E.out];rfl,pe⟩
    have kK:¬ (i:Int)<x.items.length:=by omega
    have HN:xE x.items=true:=by rw[← HA.out];exact aC _ _ sH (by omega)
    have E:Hid (yM x c d=some r):=by
     rw[Hid,tT,if_neg (by omega),if_neg (by simp[HG.out]),mz.out]
     simp only
     rw[if_neg (by rintro⟨_,h⟩;rw[HN]at h;cases h)]
    clear HN eZ;go_wp2_with fail
    go_ret
    exact⟨by rw[E.out];rfl,Uo⟩
  have bpos0:¬ (0:Int)<x.items.length:=by omega
  have lL:=Hh tm;clear tm;go_enter Tryz.func75,Tryz.ntmps75
  go_upto_region 22 with fail
  any_goals
   (have rg:yX x d (c-1)=false:=by
     exact jcb
    go_ret
    exact⟨by rw[va rg];rfl,uo⟩)
  all_goals
   have wg:yX x d (c-1)=true:=(vH (by have:=HK.out;omega)).2 ⟨by omega,by omega,fun h=>by have:=HK.out;omega,fun _=>oO.out,fun h=>ar.out,by omega⟩;have uZ:x.items.length=0:=by have yj:=oO.out;have sV:=ar.out;have tm:=lL.out;have hk:=HK.out;omega
   obtain⟨hk,E⟩:=jfZ;have Rz:¬ (0:Int)<x.items.length:=by omega
   have lT:¬ (2:Int)<x.items.length:=by omega
   have HI:=Hh uZ;have HC:=Hh wg;clear uZ hk wg;have c0:=jf8;have c3:=jgp;go_wp2_with fail
   refine wp_loop_rounds 1 ?_
   rw[rounds_succ];go_wp2_with fail
   refine wp_loop_rounds 1 ?_
   rw[rounds_succ];go_wp2_with fail
   go_ret
   exact⟨by rw[E.out,← gj.out];rfl,uo⟩
theorem QK (x:Itm) (hk:x.kind=3) {H:Snap}(hT:Tabs H) (ih:∀ y:Itm,cnt y<cnt x→uX y) {ba:Option Addr}{bc:Nat}{ia:Option Addr}{ic:Nat}(hx:IsItem H ba bc ia ic x) (w:World) (hH:Holds w H) (c d:Nat) (jg:0<c) (hc:c≤65536) (hd:d≤65536) :
  Calls Tryz.prog 75 #[xx x ba bc ia ic,.int .i64 c,.int .i64 d] w fun e w'=>e=.returned (.int .i64 (tB (yM x c d)))∧Below w.heap.size w w':=by
 have HX:=Hh hx;have tE:=jhN;obtain⟨hB,uo⟩:=jfz;have oL:((c-1:Nat):Int)=(c:Int)-1:=by omega
 have jf:x.bytes.length≤9223372036854775807:=by omega
 have tL:x.items.length≤9223372036854775807:=by omega
 have HN:=jhS;have Ry:¬ (c:Int)<1:=by omega
 have k0:¬ x.kind<0:=by omega
 have k8:¬ 8<x.kind:=by omega
 have HK:=Hh hk;have gj:=Hh oL;have V:=Hh (sB hT (w.alloc (zU x ba bc ia ic)) (hH.alloc _) ba x.bytes _ bc rfl hx.bytes);clear hx tE oL;obtain⟨b0,b1,b2,b3,b4,b5,b6,b7,b8⟩:=TL hk;clear hk
 by_cases yj:x.n=0
 all_goals first | (have bn00:((x.n:Int) != 0)=false:=by simp[yj]) | (have bn00:((x.n:Int) != 0)=true:=by simp[yj])
 all_goals first | (have bn01:(x.n=0)=True:=by first | exact eq_true yj | exact eq_false yj) | (have bn01:(x.n=0)=False:=by first | exact eq_true yj | exact eq_false yj)
 all_goals have oO:=Hh yj
 all_goals clear yj
 all_goals by_cases ug:Lib.validD x.bytes=true
 all_goals first | (have bval0:Lib.validD x.bytes=true:=by simpa using ug) | (have bval0:Lib.validD x.bytes=false:=by simpa using ug)
 all_goals have KY:=Hh ug
 all_goals clear ug
 all_goals
  go_enter Tryz.func75,Tryz.ntmps75
  rw[bval0]at V;go_upto_region 22 with (go_at_call 96;refine V.out.mono ?_;rintro e wv ⟨rfl,MA⟩;have hB:=hB.below MA;have uo:=uo.trans (MA.mono uo.size);have e0:=hB.cell 0 rfl;have e1:=hB.cell 1 rfl;have e2:=hB.cell 2 rfl;have e3:=hB.cell 3 rfl)
  any_goals
   (have rg:yX x d (c-1)=false:=by
     cases hq:yX x d (c-1) with
     | false=>rfl
     | true=>exact absurd ((Wk HK.out).1 hq) (by have yj:=oO.out;have ug:=KY.out;rintro⟨p1,p2,p3,p4⟩;first | omega | (rw[bval0]at p4;cases p4))
    go_ret
    exact⟨by rw[va rg];rfl,uo⟩)
  all_goals
   have wg:yX x d (c-1)=true:=(Wk HK.out).2 ⟨oO.out,by omega,by omega,bval0⟩;have uZ:x.items.length=0:=by have yj:=oO.out;have ug:=KY.out;omega
   obtain⟨hk,E⟩:=jfZ;have Rz:¬ (0:Int)<x.items.length:=by omega
   have lT:¬ (2:Int)<x.items.length:=by omega
   have HI:=Hh uZ;have HC:=Hh wg;clear uZ hk wg;have c0:=jf8;have c3:=jgp;go_wp2_with fail
   refine wp_loop_rounds 1 ?_
   rw[rounds_succ];go_wp2_with fail
   refine wp_loop_rounds 1 ?_
   rw[rounds_succ];go_wp2_with fail
   go_ret
   exact⟨by rw[E.out,← gj.out];rfl,uo⟩
theorem QP (x:Itm) (hk:x.kind=8) {H:Snap}(hT:Tabs H) (ih:∀ y:Itm,cnt y<cnt x→uX y) {ba:Option Addr}{bc:Nat}{ia:Option Addr}{ic:Nat}(hx:IsItem H ba bc ia ic x) (w:World) (hH:Holds w H) (c d:Nat) (jg:0<c) (hc:c≤65536) (hd:d≤65536) :
  Calls Tryz.prog 75 #[xx x ba bc ia ic,.int .i64 c,.int .i64 d] w fun e w'=>e=.returned (.int .i64 (tB (yM x c d)))∧Below w.heap.size w w':=by
 have HX:=Hh hx;have tE:=jhN;obtain⟨hB,uo⟩:=jfz;have oL:((c-1:Nat):Int)=(c:Int)-1:=by omega
 have jf:x.bytes.length≤9223372036854775807:=by omega
 have tL:x.items.length≤9223372036854775807:=by omega
 have HN:=jhS;have Ry:¬ (c:Int)<1:=by omega
 have k0:¬ x.kind<0:=by omega
 have k8:¬ 8<x.kind:=by omega
 have HK:=Hh hk;have gj:=Hh oL;have V:=Hh (jv x.n tE.2.2.1 (w.alloc (zU x ba bc ia ic)));clear hx tE oL;obtain⟨b0,b1,b2,b3,b4,b5,b6,b7,b8⟩:=TQ hk;clear hk
 by_cases yj:x.n=0
 all_goals first | (have bn00:((x.n:Int) != 0)=false:=by simp[yj]) | (have bn00:((x.n:Int) != 0)=true:=by simp[yj])
 all_goals first | (have bn01:(x.n=0)=True:=by first | exact eq_true yj | exact eq_false yj) | (have bn01:(x.n=0)=False:=by first | exact eq_true yj | exact eq_false yj)
 all_goals have oO:=Hh yj
 all_goals clear yj
 all_goals by_cases ie:isNaN x.n=true
 all_goals first | (have bnan0:isNaN x.n=true:=by simpa using ie) | (have bnan0:isNaN x.n=false:=by simpa using ie)
 all_goals have KV:=Hh ie
 all_goals clear ie
 all_goals by_cases iQ:x.n=ym
 all_goals first | (have bnn0:((x.n:Int) != 9221120237041090560)=false:=by(first | (rw[bne_eq_false_iff_eq];unfold ym at iQ;omega) | (rw[bne_iff_ne];unfold ym at iQ;omega))) | (have bnn0:((x.n:Int) != 9221120237041090560)=true:=by(first | (rw[bne_eq_false_iff_eq];unfold ym at iQ;omega) | (rw[bne_iff_ne];unfold ym at iQ;omega)))
 all_goals have en:=Hh iQ
 all_goals clear iQ
 all_goals
  go_enter Tryz.func75,Tryz.ntmps75
  rw[bnan0]at V;go_upto_region 22 with (go_at_call 97;refine V.out.mono ?_;rintro e wv ⟨rfl,rfl⟩)
  any_goals
   (have rg:yX x d (c-1)=false:=by
     cases hq:yX x d (c-1) with
     | false=>rfl
     | true=>exact absurd ((Wm HK.out).1 hq) (by have yj:=oO.out;have ie:=KV.out;have iQ:=en.out;rintro⟨p1,p2,p3⟩;first | omega | (rcases p3 with p3 | p3;(rw[bnan0]at p3;cases p3);exact iQ p3))
    go_ret
    exact⟨by rw[va rg];rfl,uo⟩)
  all_goals
   have wg:yX x d (c-1)=true:=(Wm HK.out).2 ⟨by omega,by omega,by first | exact .inl bnan0 | exact .inr en.out⟩;have uZ:x.items.length=0:=by have yj:=oO.out;have ie:=KV.out;have iQ:=en.out;omega
   obtain⟨hk,E⟩:=jfZ;have Rz:¬ (0:Int)<x.items.length:=by omega
   have lT:¬ (2:Int)<x.items.length:=by omega
   have HI:=Hh uZ;have HC:=Hh wg;clear uZ hk wg;have c0:=jf8;have c3:=jgp;go_wp2_with fail
   refine wp_loop_rounds 1 ?_
   rw[rounds_succ];go_wp2_with fail
   refine wp_loop_rounds 1 ?_
   rw[rounds_succ];go_wp2_with fail
   go_ret
   exact⟨by rw[E.out,← gj.out];rfl,uo⟩
theorem Sa (x:Itm) (hk:x.kind<0∨8<x.kind) {ba:Option Addr}{bc:Nat}{ia:Option Addr}{ic:Nat}(w:World) (c d:Nat) (jg:0<c) (hc:c≤65536) :
  Calls Tryz.prog 75 #[xx x ba bc ia ic,.int .i64 c,.int .i64 d] w fun e w'=>e=.returned (.int .i64 (tB (yM x c d)))∧Below w.heap.size w w':=by
 have E:Hid (yM x c d=none):=va (Vb hk);have Ry:¬ (c:Int)<1:=by omega
 have b2:(x.kind==2)=false:=by rw[beq_eq_false_iff_ne];omega
 have b3:(x.kind==3)=false:=by rw[beq_eq_false_iff_ne];omega
 have b4:(x.kind==4)=false:=by rw[beq_eq_false_iff_ne];omega
 have b5:(x.kind==5)=false:=by rw[beq_eq_false_iff_ne];omega
 have b6:(x.kind==6)=false:=by rw[beq_eq_false_iff_ne];omega
 rcases hk with hk | hk
 ·exact jb8
 have sL:¬ x.kind<0:=by omega
 exact jb8
theorem Sz (x:Itm):uX x:=by
 have main:∀ N,∀ x:Itm,cnt x≤N→uX x:=by
  intro N
  induction N with
  | zero =>
   exact jbq
  | succ N ih =>
  intro x hx H hT k n ba bl bc ia il ic w c d ha hH hc hd
  obtain⟨rfl,rfl,rfl,rfl,hi⟩:=ha.eqs_;have ih':∀ y:Itm,cnt y<cnt x→uX y:=fun y hy=>ih y (by omega)
  rcases Nat.eq_zero_or_pos c with h0 | h0
  ·subst h0
   exact VV x (H:=H) w d
  rcases(by omega:(x.kind<0∨8<x.kind)∨x.kind=0∨x.kind=1∨x.kind=2∨x.kind=3∨x.kind=4∨x.kind=5∨x.kind=6∨x.kind=7∨x.kind=8) with h | h | h | h | h | h | h | h | h | h
  ·exact Sa x h w c d h0 hc
  ·exact QH x h hT ih' hi w hH c d h0 hc hd
  ·exact QI x h hT ih' hi w hH c d h0 hc hd
  ·exact QJ x h hT ih' hi w hH c d h0 hc hd
  ·exact QK x h hT ih' hi w hH c d h0 hc hd
  ·exact QL x h hT ih' hi w hH c d h0 hc hd
  ·exact QM x h hT ih' hi w hH c d h0 hc hd
  ·exact QN x h hT ih' hi w hH c d h0 hc hd
  ·exact QO x h hT ih' hi w hH c d h0 hc hd
  exact QP x h hT ih' hi w hH c d h0 hc hd
 exact jcq
theorem Xt {x:Itm}{r:Nat}(h:yM x 256 0=some r):Good x 0∧(zf x).length≤1099511627776:=by
 obtain⟨h1,h2,h3⟩:=rI _ _ _ _ h;have:=h1.bytes h2
 exact⟨h1,by omega⟩
theorem nQ {H:Snap}(hT:Tabs H) {k n:Int}{ba:Option Addr}{bl bc:Nat}{ia:Option Addr}{il ic:Nat}{x:Itm}(hx:ItemA H k n ba bl bc ia il ic x) (w:World) (hH:Holds w H) :
  Calls Tryz.prog 57 #[.agg #[.int .i64 k,.int .u64 n,.slice ba bl bc,.slice ia il ic]] w fun e w'=>e=.returned (.bool (zR x))∧Below w.heap.size w w':=by
 obtain⟨rfl,rfl,rfl,rfl,nE⟩:=hx.eqs_;obtain⟨hB,uo⟩:=jfz;have Lz:=hH.alloc (zU x ba bc ia ic);have L:=Hh (Sz x H hT _ _ _ _ _ _ _ _ (w.alloc (zU x ba bc ia ic)) 256 0 nE.arg Lz (by omega) (by omega));have E0:=Vt x
 unfold cU at E0
 cases hl:yM x 256 0 with
 | none =>
  rw[hl]at L E0;have E:Hid (zR x=false):=by rw[Hid,← E0];rfl
  clear hl E0;go_enter Tryz.func57,Tryz.ntmps57
  go_wp2_with fail
  refine L.out.mono ?_
  rintro e w1 ⟨rfl,xR⟩
  have yg:=uo.trans (xR.mono uo.size)
  simp only[tB]
  exact jcW
 | some r =>
 rw[hl]at L E0;obtain⟨hg,xO⟩:=Xt hl;have E:Hid (zR x=decide ((zf x).length≤4096)):=by rw[Hid,← E0];rfl
 have Ma:(0:Int)≤(r:Int):=by omega
 have RW:=Hh (fun w1:World=>fun h1:Holds w1 H=>rP x H _ _ ba _ bc ia _ ic w1 0 hg xO nE.arg h1);have sk:=Hh xO;clear hl E0 hg xO;go_enter Tryz.func57,Tryz.ntmps57
 go_wp2_with fail
 refine L.out.mono ?_
 rintro e w1 ⟨rfl,xR⟩
 have y8:=hB.below xR;have yg:=uo.trans (xR.mono uo.size);have nA:=Lz.below xR (Nat.le_refl _);have c0:=y8.cell 0 rfl;have c1:=y8.cell 1 rfl;have c2:=y8.cell 2 rfl;have c3:=y8.cell 3 rfl
 simp only[tB]
 go_wp2_with fail
 refine(RW.out _ nA).mono ?_
 rintro e w2 ⟨r2,rfl,hf⟩
 obtain⟨RA,rc,rfl,_⟩:=hf.own.form;have kI:=yg.trans (hf.2.mono yg.size);have xO:=sk.out
 by_cases h4:(zf x).length≤4096
 ·have E1:Hid (zR x=true):=by rw[Hid,E.out,decide_eq_true h4]
  have CA:((zf x).length:Int)≤4096:=by omega
  generalize (zf x).length=q at *
  clear h4 hf;go_wp2_with fail
  go_ret
  exact⟨by rw[E1.out];rfl,kI⟩
 have E1:Hid (zR x=false):=by rw[Hid,E.out,decide_eq_false h4]
 have CA:¬ ((zf x).length:Int)≤4096:=by omega
 generalize (zf x).length=q at *
 clear h4 hf;go_wp2_with fail
 go_ret
 refine⟨?_,kI⟩
 rw[E1.out];show Ending.returned (Value.bool (decide _))=_
 rw[decide_eq_false (by omega)]
def S5 (w:World) (x:Itm) (e:Ending) (w':World):Prop :=
 (zR x=false∧e=.returned (.tuple #[.slice none 0 0,.int .i64 1])∧Below w.heap.size w w')∨
 (zR x=true∧∃ r,e=.returned (.tuple #[r,.int .i64 0])∧Fresh w (zf x) r w')
theorem YE {H:Snap}(hT:Tabs H) {k n:Int}{ba:Option Addr}{bl bc:Nat}{ia:Option Addr}{il ic:Nat}{x:Itm}(hx:ItemA H k n ba bl bc ia il ic x) (w:World) (hH:Holds w H) :
  Calls Tryz.prog 48 #[.agg #[.int .i64 k,.int .u64 n,.slice ba bl bc,.slice ia il ic]] w (S5 w x):=by
 obtain⟨rfl,rfl,rfl,rfl,nE⟩:=hx.eqs_;have nA:=hH.alloc (zU x ba bc ia ic);have xR:=zm w (zU x ba bc ia ic);have y8:=Blk.new w 83 #[.int .i64 x.kind,.int .u64 x.n,.slice ba x.bytes.length bc,.slice ia x.items.length ic];have V:=Hh (nQ hT nE.arg _ nA);go_enter Tryz.func48,Tryz.ntmps48
 go_wp2_with fail
 refine V.out.mono ?_
 rintro e w2 ⟨rfl,zC⟩
 have yT:=y8.below zC;obtain⟨b0,b1,b2,b3⟩:=jg1;have nB:=nA.below zC (Nat.le_refl _);have hb:=xR.trans (zC.mono xR.size)
 cases hv:zR x with
 | false =>
  have Rj:=Hh hv;clear hv;go_wp2_with fail
  go_ret2
  exact .inl ⟨Rj.out,rfl,hb⟩
 | true =>
 have hg:=(wj x).1 hv;have A:=Hh (rP x H _ _ ba _ bc ia _ ic w2 0 hg.1 (by omega) nE.arg nB);have Rj:=Hh hv;clear hv hg;go_wp2_with fail
 refine A.out.mono ?_
 rintro e w3 ⟨r,rfl,hf⟩
 go_wp2_with fail
 go_ret2
 exact .inr ⟨Rj.out,_,rfl,hf.step hb⟩
theorem vS (n:Int) (h1 : -9223372036854775808≤n) (h2:n≤9223372036854775807) {H:Snap}(w:World) (hH:Holds w H) :
  Calls Tryz.prog 59 #[.int .i64 n] w fun e w'=>∃ v,e=.returned v∧Gives w H (zr n) v w':=by
 by_cases h0:n<0
 ·have E:Hid (zr n=.mk 1 (-1-n).toNat [] []∧(-1-n).toNat<18446744073709551616∧-1-n=((-1-n).toNat:Int)):=⟨by rw[zr,if_pos h0],by omega,by omega⟩
  have K1:IntKind.u64.wrap (-1-n) = -1-n:=by rw[IntKind.wrap_u64];omega
  have K0:IntKind.i64.wrap (-1-n) = -1-n:=IntWalk.i64_in _ (by omega);clear h1 h2;go_enter Tryz.func59,Tryz.ntmps59
  exact jbo
 have E:Hid (zr n=.mk 0 n.toNat [] []∧n.toNat<18446744073709551616∧n=(n.toNat:Int)):=⟨by rw[zr,if_neg h0],by omega,by omega⟩
 have K1:IntKind.u64.wrap n=n:=by rw[IntKind.wrap_u64];omega
 have hn:=Int.not_lt.1 h0;clear h1 h2 h0;go_enter Tryz.func59,Tryz.ntmps59
 exact jbo
theorem nP {A:Option Addr}{n c:Nat}{l:List UInt8}(hn:n=l.length) (hl:l.length≤1099511627776) {H:Snap}(w:World) (hs:Src w A (l.map zT)) (hH:Holds w H) :
  Calls Tryz.prog 99 #[.slice A n c] w fun e w'=>∃ v,e=.returned v∧Gives w H (.mk 2 0 l []) v w':=by
 have HN:=Hh hn;clear hn;have wu:=hs.alloc zg;go_enter Tryz.func99,Tryz.ntmps99
 go_wp2_with (at_builtin;refine yq ?_)
 refine zW rfl (.const (.slice none 0 0)) (.tmp 3) rfl (w.heap.size+1) (.slice none 0 0) [] rfl (OwnB.nil _ _) A n c l rfl HN.out wu (by simp;omega) (by simp) fun v' w1 hO hg _=>?_
 have hf:Fresh (w.alloc zg) l v' w1:=⟨by have:=hO.more (base':=(w.alloc zg).heap.size) (by simp);simpa [OwnB] using this,yr (by simpa [Value.ownBlock] using hg)⟩
 have hB:=jhQ;have HF:=Hh (hf.gives (k:=2) (hH.alloc zg) (by omega));obtain⟨A',c',rfl,_⟩:=hf.own.form;clear hO hg hf;go_wp2_with (with_reducible refine zx ?_)
 refine stI hB fun w2 yT zM=>?_
 exact jcB
theorem aj (s:ByteArray) (hl:s.size≤1099511627776) {H:Snap}(w:World) (hH:Holds w H) :
  Calls Tryz.prog 60 #[.string s] w fun e w'=>∃ v,e=.returned v∧Gives w H (.mk 3 0 s.data.toList []) v w':=by
 obtain⟨g,c,w1,hr,hb,H',hG,hi⟩:=jA (hH.alloc zg) s hl;have hB:=jhT
 have HI:Gives (w.alloc zg) H (.mk 3 0 s.data.toList []) (.agg #[.int .i64 3,.int .u64 0,.slice (some ⟨g,0,none⟩) s.size c,.slice none 0 0]) w1:=by
  exact jbR
 have Gb:=Hh HI;clear hb hi HI;go_enter Tryz.func60,Tryz.ntmps60
 go_wp2_with (with_reducible refine zx ?_)
 refine stI hB fun w2 yT zM=>?_
 exact jcC
end Go.Proofs.YtgaoknihklmakabGreatDoor
