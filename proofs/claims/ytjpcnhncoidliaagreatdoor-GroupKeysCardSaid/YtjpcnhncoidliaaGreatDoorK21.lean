/- squeezed. Walks: which keys are valid, by th -/
import Derived.Deep.DeepCutAuto
import Derived.Deep.CutBlock
import Derived.Test.YtjpcnhncoidliaaGreatDoorK12
set_option linter.unusedVariables false
set_option linter.unusedSimpArgs false
set_option maxRecDepth 100000
set_option maxHeartbeats 25600000
namespace Go.Proofs.YtjpcnhncoidliaaGreatDoor
open Go.RowKit
def xg (n:Nat):Bool:=decide (n=0)||decide (n=32)
def zS (t v g:Int) (ni nx nd nk:Nat):Bool :=
 decide (ni≤16)&&decide (-65536≤g)&&decide (g≤65535) &&
 (if t=1 then(decide (v=4)||decide (v=6))&&xg nx&&xg nd&&decide (0<nx+nd)&&decide (nk=0)
  else if t=4 then decide (v=0)&&decide (nx+nd=0)&&decide (1≤nk)&&decide (nk≤64) else false)
abbrev mr (t v g:Int) (Ai:Option Addr) (ni ci:Nat) (Ax:Option Addr) (nx cx:Nat) (Ad:Option Addr) (nd cd:Nat) (Ak:Option Addr) (nk ck:Nat):Array Value :=
 #[.int .i64 t,.int .i64 v,.int .i64 g,.slice Ai ni ci,.slice Ax nx cx,.slice Ad nd cd,.slice Ak nk ck]
theorem jG {a b:Nat}(ha:a≤9223372036854775807) (hb:b≤9223372036854775807) (h:¬ a+b=0):¬ wrap64 ((a:Int)+(b:Int))=0:=by
 unfold wrap64
 omega
theorem eV {a b:Nat}(ha:a≤9223372036854775807) (hb:b≤9223372036854775807) (h:¬ a+b=0):¬ IntKind.i64.wrap ((a:Int)+(b:Int))=0:=by
 rw[IntKind.wrap_i64]
 omega
section
variable (t v g:Int) (Ai:Option Addr) (ni ci:Nat) (Ax:Option Addr) (nx cx:Nat) (Ad:Option Addr) (nd cd:Nat) (Ak:Option Addr) (nk ck:Nat) (w:World)
theorem gK (h2:nx≤9223372036854775807) (h3:nd≤9223372036854775807) :
  Calls Tryz.prog 82 #[.agg (mr t v g Ai ni ci Ax nx cx Ad nd cd Ak nk ck)] w fun e w'=>e=.returned (.bool (zS t v g ni nx nd nk))∧Below w.heap.size w w':=by
 have hB:=Blk.new w 88 (mr t v g Ai ni ci Ax nx cx Ad nd cd Ak nk ck);have hb:=zl w (.cells (mr t v g Ai ni ci Ax nx cx Ad nd cd Ak nk ck) 88);have c0:=hB.cell 0 rfl;have c1:=hB.cell 1 rfl;have c2:=hB.cell 2 rfl;have c3:=hB.cell 3 rfl;have c4:=hB.cell 4 rfl;have c5:=hB.cell 5 rfl;have c6:=hB.cell 6 rfl;have Z1:=Hh (And.intro h2 h3);clear h2 h3
 by_cases hi:ni≤16
 case neg =>
  have ri:¬ ((ni:Int)≤16):=by omega
  have si:decide ((ni:Int)≤16)=false:=decide_eq_false ri;have qi:16<(ni:Int):=by omega
  have bi:decide (16<(ni:Int))=true:=decide_eq_true qi;have E:Hid (zS _ _ _ _ _ _ _=false):=(show zS t v g ni nx nd nk=false by simp[zS,xg,hi])
  clear hi;go_enter Tryz.func82,Tryz.ntmps82
  go_wp2_with fail
  go_ret
  exact⟨by rw[E.out];rfl,by first | exact hb | exact hb.drew⟩
 have qi:¬ (16<(ni:Int)):=by omega
 have bi:decide (16<(ni:Int))=false:=decide_eq_false qi
 by_cases hg1 : -65536≤g
 case neg =>
  have qg1:g < -65536:=by omega
  have bg1:decide (g < -65536)=true:=decide_eq_true qg1;have E:Hid (zS _ _ _ _ _ _ _=false):=(show zS t v g ni nx nd nk=false by simp[zS,xg,hi,hg1])
  clear hi hg1;go_enter Tryz.func82,Tryz.ntmps82
  go_wp2_with fail
  go_ret
  exact⟨by rw[E.out];rfl,by first | exact hb | exact hb.drew⟩
 have qg1:¬ (g < -65536):=by omega
 have bg1:decide (g < -65536)=false:=decide_eq_false qg1
 by_cases hg2:g≤65535
 case neg =>
  have rg2:¬ (g≤65535):=by omega
  have sg2:decide (g≤65535)=false:=decide_eq_false rg2;have qg2:65535<g:=by omega
  have bg2:decide (65535<g)=true:=decide_eq_true qg2;have E:Hid (zS _ _ _ _ _ _ _=false):=(show zS t v g ni nx nd nk=false by simp[zS,xg,hi,hg1,hg2])
  clear hi hg1 hg2;go_enter Tryz.func82,Tryz.ntmps82
  go_wp2_with fail
  go_ret
  exact⟨by rw[E.out];rfl,by first | exact hb | exact hb.drew⟩
 have qg2:¬ (65535<g):=by omega
 have bg2:decide (65535<g)=false:=decide_eq_false qg2;go_enter Tryz.func82,Tryz.ntmps82
 go_upto_region 3 with fail
 go_cut [3,4] (fun s3 s4 wx=>s3=.int .i64 (nx:Int)∧s4=.int .i64 (nd:Int)∧Below w.heap.size w wx∧Blk wx w.heap.size 88 #[.int .i64 t,.int .i64 v,.int .i64 g,.slice Ai ni ci,.slice Ax nx cx,.slice Ad nd cd,.slice Ak nk ck])
 case first =>
  refine zn 7 (fun wx=>wx.cell? ⟨w.heap.size,4,none⟩=some (.slice Ax nx cx)∧wx.cell? ⟨w.heap.size,5,none⟩=some (.slice Ad nd cd)) (by kernel_rfl) (⟨c4,c5⟩) (fun zy=>?_)
  refine Tk 0 rfl zy ?_
  refine Tk 1 rfl zy ?_
  refine Tk 2 rfl zy ?_
  refine Tk 3 rfl zy ?_
  refine Tk 4 rfl zy ?_
  refine Tk 5 rfl zy ?_
  refine Tk 6 rfl zy ?_
  refine To 7 rfl fun K hK=>?_
  go_simp
  refine Kz hK ?_
  clear hK K
  refine Wd ?_
  go_wp2_with fail
  go_meet
  exact⟨rfl,rfl,hb.drew,hB.drew⟩
 case rest =>
 clear hb hB c0 c1 c2 c3 c4 c5 c6;obtain⟨rfl,rfl,hb,hB⟩:=hcut;have c0:=hB.cell 0 rfl;have c1:=hB.cell 1 rfl;have c6:=hB.cell 6 rfl
 by_cases ht:t=1
 case neg =>
  have qt:(t==1)=false:=by rw[beq_eq_false_iff_ne];omega
  have bt:(t=1)=False:=eq_false (by omega)
  by_cases ht4:t=4
  case neg =>
   have qt4:(t==4)=false:=by rw[beq_eq_false_iff_ne];omega
   have bt4:(t=4)=False:=eq_false (by omega);have E:Hid (zS _ _ _ _ _ _ _=false):=(show zS t v g ni nx nd nk=false by simp[zS,xg,hi,hg1,hg2,ht,ht4])
   clear hi hg1 hg2 ht ht4;go_wp2_with fail
   go_ret
   exact⟨by rw[E.out];rfl,by first | exact hb | exact hb.drew⟩
  subst ht4
  by_cases hw:v=0
  case neg =>
   have qw:(v==0)=false:=by rw[beq_eq_false_iff_ne];omega
   have bw:(v=0)=False:=eq_false (by omega);have E:Hid (zS _ _ _ _ _ _ _=false):=(show zS 4 v g ni nx nd nk=false by simp[zS,xg,hi,hg1,hg2,hw])
   clear hi hg1 hg2 hw;go_wp2_with fail
   go_ret
   exact⟨by rw[E.out];rfl,by first | exact hb | exact hb.drew⟩
  subst hw
  by_cases hs:nx+nd=0
  case neg =>
   have as0:(IntKind.i64.wrap ((nx:Int)+(nd:Int))==0)=false:=by rw[beq_eq_false_iff_ne];exact eV Z1.out.1 Z1.out.2 hs
   have as1:(IntKind.i64.wrap ((nx:Int)+(nd:Int))=0)=False:=eq_false (eV Z1.out.1 Z1.out.2 hs);have as2:(wrap64 ((nx:Int)+(nd:Int))==0)=false:=by rw[beq_eq_false_iff_ne];exact jG Z1.out.1 Z1.out.2 hs
   have as3:(wrap64 ((nx:Int)+(nd:Int))=0)=False:=eq_false (jG Z1.out.1 Z1.out.2 hs);have E:Hid (zS _ _ _ _ _ _ _=false):=(show zS 4 0 g ni nx nd nk=false by simp[zS,xg,hi,hg1,hg2,hs] <;> omega)
   clear hi hg1 hg2 hs;go_wp2_with fail
   go_ret
   exact⟨by rw[E.out];rfl,by first | exact hb | exact hb.drew⟩
  obtain⟨rfl,rfl⟩:nx=0∧nd=0:=by omega
  have K:IntKind.i64.wrap (((0:Nat):Int)+((0:Nat):Int))=((0:Nat):Int)+((0:Nat):Int):=IntWalk.i64_in _ (by omega)
  by_cases pX:1≤nk
  case neg =>
   have qk1:¬ (0:Int)<(nk:Int):=by omega
   have bk1:decide ((0:Int)<(nk:Int))=false:=decide_eq_false qk1;have ck1:¬ (1:Int)≤(nk:Int):=by omega
   have dk1:decide ((1:Int)≤(nk:Int))=false:=decide_eq_false ck1;have E:Hid (zS _ _ _ _ _ _ _=false):=(show zS 4 0 g ni 0 0 nk=false by simp[zS,xg,hi,hg1,hg2,pX])
   clear hi hg1 hg2 pX;go_wp2_with fail
   go_ret
   exact⟨by rw[E.out];rfl,by first | exact hb | exact hb.drew⟩
  have qk1:(0:Int)<(nk:Int):=by omega
  have bk1:decide ((0:Int)<(nk:Int))=true:=decide_eq_true qk1;have ck1:(1:Int)≤(nk:Int):=by omega
  have dk1:decide ((1:Int)≤(nk:Int))=true:=decide_eq_true ck1
  by_cases kM:nk≤64
  case neg =>
   have rk2:¬ ((nk:Int)≤64):=by omega
   have sk2:decide ((nk:Int)≤64)=false:=decide_eq_false rk2;have qk2:64<(nk:Int):=by omega
   have bk2:decide (64<(nk:Int))=true:=decide_eq_true qk2;have E:Hid (zS _ _ _ _ _ _ _=false):=(show zS 4 0 g ni 0 0 nk=false by simp[zS,xg,hi,hg1,hg2,pX,kM])
   clear hi hg1 hg2 pX kM;go_wp2_with fail
   go_ret
   exact⟨by rw[E.out];rfl,by first | exact hb | exact hb.drew⟩
  have qk2:¬ (64<(nk:Int)):=by omega
  have bk2:decide (64<(nk:Int))=false:=decide_eq_false qk2;have E:Hid (zS _ _ _ _ _ _ _=true):=(show zS 4 0 g ni 0 0 nk=true by simp[zS,xg,hi,hg1,hg2,pX,kM])
  clear hi hg1 hg2 pX kM;go_wp2_with fail
  go_ret
  exact⟨by rw[E.out];rfl,by first | exact hb | exact hb.drew⟩
 subst ht
 by_cases hv:v=4
 case neg =>
  have qv:(v==4)=false:=by rw[beq_eq_false_iff_ne];omega
  have bv:(v=4)=False:=eq_false (by omega)
  by_cases XP:v=6
  case neg =>
   have qv2:(v==6)=false:=by rw[beq_eq_false_iff_ne];omega
   have bv2:(v=6)=False:=eq_false (by omega);have E:Hid (zS _ _ _ _ _ _ _=false):=(show zS 1 v g ni nx nd nk=false by simp[zS,xg,hi,hg1,hg2,hv,XP])
   clear hi hg1 hg2 hv XP;go_wp2_with fail
   go_ret
   exact⟨by rw[E.out];rfl,by first | exact hb | exact hb.drew⟩
  subst XP
  by_cases hx:nx=0
  case neg =>
   have qx:((nx:Int)==0)=false:=by rw[beq_eq_false_iff_ne];omega
   have bx:((nx:Int)=0)=False:=eq_false (by omega)
   by_cases fV:nx=32
   case neg =>
    have qx2:((nx:Int)==32)=false:=by rw[beq_eq_false_iff_ne];omega
    have bx2:((nx:Int)=32)=False:=eq_false (by omega);have E:Hid (zS _ _ _ _ _ _ _=false):=(show zS 1 6 g ni nx nd nk=false by simp[zS,xg,hi,hg1,hg2,hx,fV])
    clear hi hg1 hg2 hx fV;go_wp2_with fail
    go_ret
    exact⟨by rw[E.out];rfl,by first | exact hb | exact hb.drew⟩
   subst fV
   by_cases hd:nd=0
   case neg =>
    have qd:((nd:Int)==0)=false:=by rw[beq_eq_false_iff_ne];omega
    have bd:((nd:Int)=0)=False:=eq_false (by omega)
    by_cases us:nd=32
    case neg =>
     have qd2:((nd:Int)==32)=false:=by rw[beq_eq_false_iff_ne];omega
     have bd2:((nd:Int)=32)=False:=eq_false (by omega);have E:Hid (zS _ _ _ _ _ _ _=false):=(show zS 1 6 g ni 32 nd nk=false by simp[zS,xg,hi,hg1,hg2,hd,us])
     clear hi hg1 hg2 hd us;go_wp2_with fail
     go_ret
     exact⟨by rw[E.out];rfl,by first | exact hb | exact hb.drew⟩
    subst us;have K:IntKind.i64.wrap (((32:Nat):Int)+((32:Nat):Int))=((32:Nat):Int)+((32:Nat):Int):=IntWalk.i64_in _ (by omega)
    by_cases hk:nk=0
    case neg =>
     have qk:((nk:Int)==0)=false:=by rw[beq_eq_false_iff_ne];omega
     have bk:((nk:Int)=0)=False:=eq_false (by omega);have E:Hid (zS _ _ _ _ _ _ _=false):=(show zS 1 6 g ni 32 32 nk=false by simp[zS,xg,hi,hg1,hg2,hk])
     clear hi hg1 hg2 hk;go_wp2_with fail
     go_ret
     exact⟨by rw[E.out];rfl,by first | exact hb | exact hb.drew⟩
    subst hk;have E:Hid (zS _ _ _ _ _ _ _=true):=(show zS 1 6 g ni 32 32 0=true by simp[zS,xg,hi,hg1,hg2])
    clear hi hg1 hg2;go_wp2_with fail
    go_ret
    exact⟨by rw[E.out];rfl,by first | exact hb | exact hb.drew⟩
   subst hd;have K:IntKind.i64.wrap (((32:Nat):Int)+((0:Nat):Int))=((32:Nat):Int)+((0:Nat):Int):=IntWalk.i64_in _ (by omega)
   by_cases hk:nk=0
   case neg =>
    have qk:((nk:Int)==0)=false:=by rw[beq_eq_false_iff_ne];omega
    have bk:((nk:Int)=0)=False:=eq_false (by omega);have E:Hid (zS _ _ _ _ _ _ _=false):=(show zS 1 6 g ni 32 0 nk=false by simp[zS,xg,hi,hg1,hg2,hk])
    clear hi hg1 hg2 hk;go_wp2_with fail
    go_ret
    exact⟨by rw[E.out];rfl,by first | exact hb | exact hb.drew⟩
   subst hk;have E:Hid (zS _ _ _ _ _ _ _=true):=(show zS 1 6 g ni 32 0 0=true by simp[zS,xg,hi,hg1,hg2])
   clear hi hg1 hg2;go_wp2_with fail
   go_ret
   exact⟨by rw[E.out];rfl,by first | exact hb | exact hb.drew⟩
  subst hx
  by_cases hd:nd=0
  case neg =>
   have qd:((nd:Int)==0)=false:=by rw[beq_eq_false_iff_ne];omega
   have bd:((nd:Int)=0)=False:=eq_false (by omega)
   by_cases us:nd=32
   case neg =>
    have qd2:((nd:Int)==32)=false:=by rw[beq_eq_false_iff_ne];omega
    have bd2:((nd:Int)=32)=False:=eq_false (by omega);have E:Hid (zS _ _ _ _ _ _ _=false):=(show zS 1 6 g ni 0 nd nk=false by simp[zS,xg,hi,hg1,hg2,hd,us])
    clear hi hg1 hg2 hd us;go_wp2_with fail
    go_ret
    exact⟨by rw[E.out];rfl,by first | exact hb | exact hb.drew⟩
   subst us;have K:IntKind.i64.wrap (((0:Nat):Int)+((32:Nat):Int))=((0:Nat):Int)+((32:Nat):Int):=IntWalk.i64_in _ (by omega)
   by_cases hk:nk=0
   case neg =>
    have qk:((nk:Int)==0)=false:=by rw[beq_eq_false_iff_ne];omega
    have bk:((nk:Int)=0)=False:=eq_false (by omega);have E:Hid (zS _ _ _ _ _ _ _=false):=(show zS 1 6 g ni 0 32 nk=false by simp[zS,xg,hi,hg1,hg2,hk])
    clear hi hg1 hg2 hk;go_wp2_with fail
    go_ret
    exact⟨by rw[E.out];rfl,by first | exact hb | exact hb.drew⟩
   subst hk;have E:Hid (zS _ _ _ _ _ _ _=true):=(show zS 1 6 g ni 0 32 0=true by simp[zS,xg,hi,hg1,hg2])
   clear hi hg1 hg2;go_wp2_with fail
   go_ret
   exact⟨by rw[E.out];rfl,by first | exact hb | exact hb.drew⟩
  subst hd;have K:IntKind.i64.wrap (((0:Nat):Int)+((0:Nat):Int))=((0:Nat):Int)+((0:Nat):Int):=IntWalk.i64_in _ (by omega);have E:Hid (zS _ _ _ _ _ _ _=false):=(show zS 1 6 g ni 0 0 nk=false by simp[zS,xg,hi,hg1,hg2])
  clear hi hg1 hg2;go_wp2_with fail
  go_ret
  exact⟨by rw[E.out];rfl,by first | exact hb | exact hb.drew⟩
 subst hv
 by_cases hx:nx=0
 case neg =>
  have qx:((nx:Int)==0)=false:=by rw[beq_eq_false_iff_ne];omega
  have bx:((nx:Int)=0)=False:=eq_false (by omega)
  by_cases fV:nx=32
  case neg =>
   have qx2:((nx:Int)==32)=false:=by rw[beq_eq_false_iff_ne];omega
   have bx2:((nx:Int)=32)=False:=eq_false (by omega);have E:Hid (zS _ _ _ _ _ _ _=false):=(show zS 1 4 g ni nx nd nk=false by simp[zS,xg,hi,hg1,hg2,hx,fV])
   clear hi hg1 hg2 hx fV;go_wp2_with fail
   go_ret
   exact⟨by rw[E.out];rfl,by first | exact hb | exact hb.drew⟩
  subst fV
  by_cases hd:nd=0
  case neg =>
   have qd:((nd:Int)==0)=false:=by rw[beq_eq_false_iff_ne];omega
   have bd:((nd:Int)=0)=False:=eq_false (by omega)
   by_cases us:nd=32
   case neg =>
    have qd2:((nd:Int)==32)=false:=by rw[beq_eq_false_iff_ne];omega
    have bd2:((nd:Int)=32)=False:=eq_false (by omega);have E:Hid (zS _ _ _ _ _ _ _=false):=(show zS 1 4 g ni 32 nd nk=false by simp[zS,xg,hi,hg1,hg2,hd,us])
    clear hi hg1 hg2 hd us;go_wp2_with fail
    go_ret
    exact⟨by rw[E.out];rfl,by first | exact hb | exact hb.drew⟩
   subst us;have K:IntKind.i64.wrap (((32:Nat):Int)+((32:Nat):Int))=((32:Nat):Int)+((32:Nat):Int):=IntWalk.i64_in _ (by omega)
   by_cases hk:nk=0
   case neg =>
    have qk:((nk:Int)==0)=false:=by rw[beq_eq_false_iff_ne];omega
    have bk:((nk:Int)=0)=False:=eq_false (by omega);have E:Hid (zS _ _ _ _ _ _ _=false):=(show zS 1 4 g ni 32 32 nk=false by simp[zS,xg,hi,hg1,hg2,hk])
    clear hi hg1 hg2 hk;go_wp2_with fail
    go_ret
    exact⟨by rw[E.out];rfl,by first | exact hb | exact hb.drew⟩
   subst hk;have E:Hid (zS _ _ _ _ _ _ _=true):=(show zS 1 4 g ni 32 32 0=true by simp[zS,xg,hi,hg1,hg2])
   clear hi hg1 hg2;go_wp2_with fail
   go_ret
   exact⟨by rw[E.out];rfl,by first | exact hb | exact hb.drew⟩
  subst hd;have K:IntKind.i64.wrap (((32:Nat):Int)+((0:Nat):Int))=((32:Nat):Int)+((0:Nat):Int):=IntWalk.i64_in _ (by omega)
  by_cases hk:nk=0
  case neg =>
   have qk:((nk:Int)==0)=false:=by rw[beq_eq_false_iff_ne];omega
   have bk:((nk:Int)=0)=False:=eq_false (by omega);have E:Hid (zS _ _ _ _ _ _ _=false):=(show zS 1 4 g ni 32 0 nk=false by simp[zS,xg,hi,hg1,hg2,hk])
   clear hi hg1 hg2 hk;go_wp2_with fail
   go_ret
   exact⟨by rw[E.out];rfl,by first | exact hb | exact hb.drew⟩
  subst hk;have E:Hid (zS _ _ _ _ _ _ _=true):=(show zS 1 4 g ni 32 0 0=true by simp[zS,xg,hi,hg1,hg2])
  clear hi hg1 hg2;go_wp2_with fail
  go_ret
  exact⟨by rw[E.out];rfl,by first | exact hb | exact hb.drew⟩
 subst hx
 by_cases hd:nd=0
 case neg =>
  have qd:((nd:Int)==0)=false:=by rw[beq_eq_false_iff_ne];omega
  have bd:((nd:Int)=0)=False:=eq_false (by omega)
  by_cases us:nd=32
  case neg =>
   have qd2:((nd:Int)==32)=false:=by rw[beq_eq_false_iff_ne];omega
   have bd2:((nd:Int)=32)=False:=eq_false (by omega);have E:Hid (zS _ _ _ _ _ _ _=false):=(show zS 1 4 g ni 0 nd nk=false by simp[zS,xg,hi,hg1,hg2,hd,us])
   clear hi hg1 hg2 hd us;go_wp2_with fail
   go_ret
   exact⟨by rw[E.out];rfl,by first | exact hb | exact hb.drew⟩
  subst us;have K:IntKind.i64.wrap (((0:Nat):Int)+((32:Nat):Int))=((0:Nat):Int)+((32:Nat):Int):=IntWalk.i64_in _ (by omega)
  by_cases hk:nk=0
  case neg =>
   have qk:((nk:Int)==0)=false:=by rw[beq_eq_false_iff_ne];omega
   have bk:((nk:Int)=0)=False:=eq_false (by omega);have E:Hid (zS _ _ _ _ _ _ _=false):=(show zS 1 4 g ni 0 32 nk=false by simp[zS,xg,hi,hg1,hg2,hk])
   clear hi hg1 hg2 hk;go_wp2_with fail
   go_ret
   exact⟨by rw[E.out];rfl,by first | exact hb | exact hb.drew⟩
  subst hk;have E:Hid (zS _ _ _ _ _ _ _=true):=(show zS 1 4 g ni 0 32 0=true by simp[zS,xg,hi,hg1,hg2])
  clear hi hg1 hg2;go_wp2_with fail
  go_ret
  exact⟨by rw[E.out];rfl,by first | exact hb | exact hb.drew⟩
 subst hd;have K:IntKind.i64.wrap (((0:Nat):Int)+((0:Nat):Int))=((0:Nat):Int)+((0:Nat):Int):=IntWalk.i64_in _ (by omega);have E:Hid (zS _ _ _ _ _ _ _=false):=(show zS 1 4 g ni 0 0 nk=false by simp[zS,xg,hi,hg1,hg2])
 clear hi hg1 hg2;go_wp2_with fail
 go_ret
 exact⟨by rw[E.out];rfl,by first | exact hb | exact hb.drew⟩
end
structure Ky where
 kty:Int
 crv:Int
 alg:Int
 kid:List UInt8
 x:List UInt8
 d:List UInt8
 k:List UInt8
def Yw (b:List UInt8):Bool:=decide (b.length=0)||decide (b.length=32)
def wV (q:Ky):Bool :=
 decide (q.kid.length≤16)&&decide (-65536≤q.alg)&&decide (q.alg≤65535) &&
 (if q.kty=1 then(decide (q.crv=4)||decide (q.crv=6))&&Yw q.x&&Yw q.d&&decide (0<q.x.length+q.d.length)&&decide (q.k.length=0)
  else if q.kty=4 then decide (q.crv=0)&&decide (q.x.length+q.d.length=0)&&decide (1≤q.k.length)&&decide (q.k.length≤64) else false)
def mv (b:List UInt8):Itm:=.mk 2 0 b []
def pR (n:Int) (b:List UInt8):List Itm:=if 0<b.length then [zh n,mv b] else []
def y7 (q:Ky):List Itm :=
 [zh 1,zh q.kty]++pR 2 q.kid++(if q.alg=0 then [] else [zh 3,zh q.alg]) ++
  (if q.kty=4 then pR (-1) q.k else [zh (-1),zh q.crv]++pR (-2) q.x++pR (-4) q.d)
def sk (q:Ky):Itm:=.mk 5 0 [] (y7 q)
theorem W5:Lib.compareBytes (zX (zh 1)) (zX (zh 2))<0∧Lib.compareBytes (zX (zh 1)) (zX (zh 3))<0∧Lib.compareBytes (zX (zh 1)) (zX (zh (-1)))<0∧
  Lib.compareBytes (zX (zh 2)) (zX (zh 3))<0∧Lib.compareBytes (zX (zh 2)) (zX (zh (-1)))<0∧Lib.compareBytes (zX (zh 3)) (zX (zh (-1)))<0∧
  Lib.compareBytes (zX (zh (-1))) (zX (zh (-2)))<0∧Lib.compareBytes (zX (zh (-1))) (zX (zh (-4)))<0∧Lib.compareBytes (zX (zh (-2))) (zX (zh (-4)))<0:=by
 rw[wW,wW,wW,wW,wW,wW];decide +kernel
theorem la (q:Ky):xj (y7 q)=true:=by
 obtain⟨K8,DA,DB,DE,DH,DI,iK,NL,n9⟩:=W5
 unfold y7 pR
 repeat' split
 all_goals simp[xj,K8,DA,DB,DE,DH,DI,iK,NL,n9]
theorem qP (q:Ky):wV q=true↔(q.kid.length≤16∧-65536≤q.alg∧q.alg≤65535∧
  ((q.kty=1∧(q.crv=4∨q.crv=6)∧(q.x.length=0∨q.x.length=32)∧(q.d.length=0∨q.d.length=32)∧0<q.x.length+q.d.length∧q.k.length=0)∨
   (q.kty=4∧q.crv=0∧q.x.length+q.d.length=0∧1≤q.k.length∧q.k.length≤64))):=by
 unfold wV Yw
 split
 ·rename_i h1
  simp[h1,and_assoc]
 split
 ·rename_i h1 h4
  simp[h1,h4,and_assoc]
 rename_i h1 h4
 simp[h1,h4]
theorem Vr (b:List UInt8) (lv:Nat):Good (mv b) lv:=rj 2 (.inl rfl) b lv (fun h=>by omega)
theorem kX (q:Ky) (lv:Nat):GoodL (y7 q) lv:=by
 unfold y7 pR
 repeat' split
 all_goals simp[GoodL,ww,Vr]
theorem nf (q:Ky):(y7 q).length%2=0:=by
 unfold y7 pR
 repeat' split
 all_goals simp
theorem ly (q:Ky):2≤(y7 q).length∧(y7 q).length≤12:=by
 unfold y7 pR
 repeat' split
 all_goals simp
theorem YG (q:Ky):Good (sk q) 0:=by
 refine Good.of ?_ (kX q 1) (fun _=>la q)
 have h:=nf q;rw[yF,if_neg (by rw[yh];simp[sk,Itm.kind]),vV]
 simp[sk,Itm.kind,Itm.bytes,Itm.items,Itm.n,h]
def eX (x:Itm):Prop:=cnt x=1∧(zX x).length≤73
theorem vw (n:Int):eX (zh n):=by
 unfold zh
 split
 ·refine⟨by simp[cnt,xO], ?_⟩
  have h:=rh 1 (-1-n).toNat [] [] (by decide) (by decide)
  simp[ym]at h
  omega
 refine⟨by simp[cnt,xO], ?_⟩
 have h:=rh 0 n.toNat [] [] (by decide) (by decide)
 simp[ym]at h
 omega
theorem nH {b:List UInt8}(hb:b.length≤64):eX (mv b):=by
 refine⟨by simp[mv,cnt,xO], ?_⟩
 have h:=rh 2 0 b [] (by decide) (by decide)
 simp[ym]at h
 simp only[mv]
 omega
theorem ks:∀ l:List Itm,(∀ x∈l,eX x)→xO l=l.length∧(ym l).length≤73*l.length
 | [],_=>by simp[xO,ym]
 | x::l,h=>by
  have h1:=h x (by simp);have h2:=ks l fun y hy=>h y (by simp[hy])
  simp only[xO,ym,List.length_cons,List.length_append]
  have:=h1.1;have:=h1.2
  omega
theorem kq {x:Itm}{n:Int}{b:List UInt8}(h:x∈pR n b):x=zh n∨x=mv b:=by
 unfold pR at h
 split at h
 ·simpa using h
 simp at h
theorem j6 {q:Ky}(h:wV q=true):∀ x∈y7 q,eX x:=by
 have hv:=(qP q).mp h;have hx:q.x.length≤64:=by omega
 have hd:q.d.length≤64:=by omega
 have hk:q.k.length≤64:=by omega
 have hi:q.kid.length≤64:=by omega
 intro x hm
 unfold y7 at hm
 simp only[List.mem_append]at hm
 rcases hm with ((hm | hm) | hm) | hm
 ·simp at hm
  rcases hm with rfl | rfl <;> exact vw _
 ·rcases kq hm with rfl | rfl
  ·exact vw _
  exact nH hi
 ·split at hm
  ·simp at hm
  simp at hm
  rcases hm with rfl | rfl <;> exact vw _
 split at hm
 ·rcases kq hm with rfl | rfl
  ·exact vw _
  exact nH hk
 simp only[List.mem_append]at hm
 rcases hm with (hm | hm) | hm
 ·simp at hm
  rcases hm with rfl | rfl <;> exact vw _
 ·rcases kq hm with rfl | rfl
  ·exact vw _
  exact nH hx
 rcases kq hm with rfl | rfl
 ·exact vw _
 exact nH hd
theorem ob {q:Ky}(h:wV q=true):yG (sk q)=true:=by
 have hs:=ks (y7 q) (j6 h);have hl:=ly q
 refine(vO _).mpr ⟨YG q, ?_, ?_⟩
 ·rw[ju];show xO (y7 q)+1≤256
  omega
 have h2:=rh 5 0 [] (y7 q) (by decide) (by decide)
 simp at h2
 show(zX (.mk 5 0 [] (y7 q))).length≤4096
 omega
theorem f9 {q:Ky}(h:wV q=true):∀ x∈y7 q,yG x=true :=
 fun x hx=>pw (ob h) (show x∈(sk q).items from hx)
theorem Tn {q:Ky}(h:wV q=true):(y7 q).length%2=0∧xj (y7 q)=true∧(∀ x∈y7 q,yG x=true)∧yG (.mk 5 0 [] (y7 q))=true :=
 ⟨nf q,la q,f9 h,ob h⟩
theorem OwnI.lit2 {w:World}{H:Snap}{l:List Itm}{cs:List Value}(h:ItemsC H cs l) (base:Nat) (hb:base≤w.heap.size) (hm:l.length≤4096) :
  OwnI (w.alloc (.cells cs.toArray 78)) base (.slice (some ⟨w.heap.size,0,none⟩) l.length l.length) H l:=by
 refine⟨cs,h,h.len,.inr ⟨w.heap.size,l.length,cs.toArray,rfl,hb,heap_alloc_new w _,Nat.le_refl _,by simp only[maxLen];omega, ?_, ?_⟩⟩
 ·simpa using h.len
 rw[← h.len];simp
structure RS (W0:World) (H:Snap) (kc:Array Value) (v:Value) (L:List Itm) (w:World) (Hr:Snap):Prop where
 grows:Grows W0 H w Hr
 hK:Hr W0.heap.size=none
 key:Blk w W0.heap.size 88 kc
 own:OwnI w (W0.heap.size+1) v Hr L
 apart:∀ g,v.ownBlock=some g→Hr g=none
section
variable {W0 w w':World} {H Hr Hs:Snap} {kc:Array Value} {v v':Value} {L news:List Itm}
theorem RS.grow (h:RS W0 H kc v L w Hr) (k:Grows w Hr w' Hs):RS W0 H kc v L w' Hs :=
 ⟨h.grows.trans k,k.none h.hK h.key.lt,h.key.below k.below,(h.own.below k.below).mono k.le,fun g hg=>k.none (h.apart g hg) (h.own.lt g hg).2⟩
theorem RS.below (h:RS W0 H kc v L w Hr) (k:Below w.heap.size w w'):RS W0 H kc v L w' Hr:=h.grow (Grows.of_below h.grows.holds k)
theorem RS.alloc (h:RS W0 H kc v L w Hr) (o:Obj):RS W0 H kc v L (w.alloc o) Hr:=h.below (zl w o)
theorem RS.drew (h:RS W0 H kc v L w Hr):RS W0 H kc v L w.drew Hr:=h.below (Below.refl _ _).drew
theorem RS.base (h:RS W0 H kc v L w Hr):W0.heap.size+1≤w.heap.size:=by have:=h.key.lt;omega
theorem RS.litZ (h:RS W0 H kc v L w Hr) (cs:Array Value) (e:TypeId):Src (w.alloc (.cells cs e)) (some ⟨w.heap.size,0,none⟩) cs.toList:=Src.lit w cs e
theorem RS.app (h:RS W0 H kc v L w Hr) (hO:OwnI w' (W0.heap.size+1) v' Hr (L++news)) (hg:w.grownBy w' v.ownBlock) (ha:At0 w v.ownBlock v'.ownBlock):RS W0 H kc v' (L++news) w' Hr :=
 ⟨h.grows.grownRow h.apart (fun g hg=>by have:=(h.own.lt g hg).1;omega) hg,h.hK,h.key.grown hg (fun e=>by have:=(h.own.lt _ e).1;omega),hO,fun g hv=>by
  rcases ha with e | ⟨g',e,hs⟩
  ·exact h.apart g (by rw[← e,hv])
  rw[hv]at e;injection e with e
  subst e
  exact h.grows.hidden hs⟩
theorem RS.lit {cs:List Value}{l:List Itm}(hG:Grows W0 H w Hr) (hK:Hr W0.heap.size=none) (hk:Blk w W0.heap.size 88 kc) (hc:ItemsC Hr cs l) (hm:l.length≤4096) :
  RS W0 H kc (.slice (some ⟨w.heap.size,0,none⟩) l.length l.length) l (w.alloc (.cells cs.toArray 78)) Hr :=
 ⟨hG.alloc _,hK,hk.alloc _,OwnI.lit2 hc _ (by have:=hk.lt;omega) hm,fun g hg=>by
  simp[Value.ownBlock]at hg
  subst hg
  exact hG.hidden (Nat.le_refl _)⟩
end
section
variable {W0 w w':World} {H Hr Hs:Snap} {B:Nat} {kc:Array Value} {bv v v':Value} {L L1 L2 news:List Itm} {z:Itm}
theorem RS.litR (h:RS W0 H kc v L w Hr) {cs:List Value}{l:List Itm}(hc:ItemsC Hr cs l) (hm:l.length≤4096) :
  RS W0 H kc (.slice (some ⟨w.heap.size,0,none⟩) l.length l.length) l (w.alloc (.cells cs.toArray 78)) Hr:=RS.lit h.grows h.hK h.key hc hm
theorem RS.nil (hG:Grows W0 H w Hr) (hK:Hr W0.heap.size=none) (hk:Blk w W0.heap.size 88 kc):RS W0 H kc (.slice none 0 0) [] w Hr :=
 ⟨hG,hK,hk,OwnI.nil _ _ _,fun g hg=>by simp[Value.ownBlock]at hg⟩
def Yr (W0:World) (H:Snap) (L:List Itm) (v:Value) (w:World):Prop:=∃ A c H',v=.slice A L.length c∧Grows W0 H w H'∧L.length≤c∧c≤9223372036854775807∧(0<L.length→∃ b off,A=some ⟨b,off,none⟩∧IsElems H' b off L)
theorem RS.out {A:Option Addr}{m c:Nat}(h:RS W0 H kc (.slice A m c) L w Hr):Yr W0 H L (.slice A m c) w:=by
 obtain⟨H',hl,hh,hf,rfl,mN,mO,vI⟩:=h.own.snap h.grows.holds (fun g hg=>h.apart g (by cases A <;> simp_all [Value.ownBlock]))
 refine⟨A,c,H',rfl,⟨h.grows.below,h.grows.le.trans hl,hh,fun b o hb=>?_⟩,mN,mO,vI⟩
 rcases hf b o hb with h1 | h1
 ·exact h.grows.fresh b o h1
 exact .inr (by have:=(h.own.lt b (by cases A <;> simp_all [Value.ownBlock])).1;omega)
end
section
variable {W0:World} {H:Snap} {B:Nat} {kc:Array Value} {L:List Itm}
def jS (b:List UInt8):Itm:=.mk 2 0 b []
def wi (n:Int) (b:List UInt8):List Itm:=if 0<b.length then [zh n,jS b] else []
end
def xM (kty alg:Int) (kid:List UInt8):List Itm:=[zh 1,zh kty]++wi 2 kid++(if alg=0 then [] else [zh 3,zh alg])
def jv (kty crv alg:Int) (kid x d k:List UInt8):List Itm :=
 xM kty alg kid++(if kty=4 then wi (-1) k else [zh (-1),zh crv]++wi (-2) x++wi (-4) d)
theorem ga (n:Int) (b:List UInt8):(wi n b).length≤2:=by
 unfold wi;split <;> simp
theorem gF (kty alg:Int) (kid:List UInt8):(xM kty alg kid).length≤6:=by
 have:=ga 2 kid
 unfold xM
 split <;> simp <;> omega
def T8 (w:World) (H:Snap) (L:List Itm) (e:Ending) (w':World):Prop:=∃ v,e=.returned v∧Yr w H L v w'
def RSt (W0:World) (H:Snap) (kc:Array Value) (v:Value) (L:List Itm) (w:World):Prop:=∃ Hr A m c,v=.slice A m c∧m=L.length∧RS W0 H kc (.slice A m c) L w Hr
theorem RSt.key {W0 w:World}{H:Snap}{kc:Array Value}{v:Value}{L:List Itm}(h:RSt W0 H kc v L w):Blk w W0.heap.size 88 kc:=by
 obtain⟨Hr,A,m,c,_,_,hP⟩:=h
 exact hP.key
theorem aH {H:Snap}(t v g:Int) (ht : -9223372036854775808≤t∧t≤9223372036854775807) (hv : -9223372036854775808≤v∧v≤9223372036854775807) (hg : -9223372036854775808≤g∧g≤9223372036854775807)
  {Ai:Option Addr} {ci:Nat} {kid:List UInt8} (hi:IsBytes H Ai ci kid) {Ax:Option Addr} {cx:Nat} {x:List UInt8} (hx:IsBytes H Ax cx x)
  {Ad:Option Addr} {cd:Nat} {d:List UInt8} (hd:IsBytes H Ad cd d) {Ak:Option Addr} {ck:Nat} {k:List UInt8} (hk:IsBytes H Ak ck k)
  (hl:kid.length≤64∧x.length≤64∧d.length≤64∧k.length≤64) (XK:t=4→0<k.length) (w:World) (hH:Holds w H) :
  Calls Tryz.prog 95 #[.agg (mr t v g Ai kid.length ci Ax x.length cx Ad d.length cd Ak k.length ck)] w (T8 w H (jv t v g kid x d k)):=by
 have hP:=RS.nil ((Grows.refl hH).alloc (.cells (mr t v g Ai kid.length ci Ax x.length cx Ad d.length cd Ak k.length ck) 88)) (hH.none_of_ge (Nat.le_refl _)) (Blk.new w 88 (mr t v g Ai kid.length ci Ax x.length cx Ad d.length cd Ak k.length ck));have KC:Hid ((mr t v g Ai kid.length ci Ax x.length cx Ad d.length cd Ak k.length ck)=#[.int .i64 t,.int .i64 v,.int .i64 g,.slice Ai kid.length ci,.slice Ax x.length cx,.slice Ad d.length cd,.slice Ak k.length ck]):=rfl;have D:=Hh (And.intro ht (And.intro hv hg));have B1:=Hh (And.intro hi (And.intro hx (And.intro hd hk)));have BL:=Hh hl;have K4:=Hh XK;clear hi hx hd hk hl ht hv hg hH XK;go_enter Tryz.func95,Tryz.ntmps95
 go_upto_region 1 with fail
 go_cut [3] (fun s3 wx=>RSt w H (mr t v g Ai kid.length ci Ax x.length cx Ad d.length cd Ak k.length ck) s3 [zh 1,zh t] wx)
 case first =>
  obtain⟨W1,Sm⟩:∃ W1,w.alloc (.cells (mr t v g Ai kid.length ci Ax x.length cx Ad d.length cd Ak k.length ck) 88)=W1:=⟨_,rfl⟩
  rw[Sm]at hP⊢;clear Sm;have c0:=hP.key.cell 0 rfl;replace hP:=hP.drew
  refine yw 5 (fun wx=>wx.cell? ⟨w.heap.size,0,none⟩=some (.int .i64 t)) (by kernel_rfl) (c0) (fun zy=>?_)
  refine Zk 1 rfl zy ?_
  refine Zk 2 rfl zy ?_
  refine Zo 0 rfl fun K hK=>?_
  go_simp
  refine(xJ (1) (by omega) (by omega) _ hP.grows.holds).mono ?_
  rintro e w3 ⟨v1,rfl,xa1,xb1,xc1,xd1,H1,rfl,um,tG⟩
  have hP:=hP.grow um
  refine Ko hK ?_ fun zy=>?_
  ·exact hP.key.cell 0 rfl
  clear hK K
  refine Zo 3 rfl fun K hK=>?_
  go_simp
  refine(xJ t D.out.1.1 D.out.1.2 _ hP.grows.holds).mono ?_
  rintro e w4 ⟨v2,rfl,xa2,xb2,xc2,xd2,H2,rfl,yY,lR⟩
  have hP:=hP.grow yY;have tG:=tG.mono yY.le
  refine Ko hK ?_ fun zy=>?_
  ·exact hP.key.cell 0 rfl
  clear hK K
  refine Zo 4 rfl fun K hK=>?_
  go_simp
  have hP:=hP.litR ((ItemsC.one tG).app (ItemsC.one lR)) (by simp)
  refine Ko hK ?_ fun zy=>?_
  ·exact hP.key.cell 0 rfl
  clear hK K
  refine Zo 5 rfl fun K hK=>?_
  go_simp
  refine Kz hK ?_
  clear hK K
  refine WaysZ.done (by kernel_rfl) ?_
  clear zy;go_wp2_with fail
  go_meet
  exact⟨_,_,_,_,rfl,rfl,hP⟩
 case rest =>
 clear hP;have hS:=hcut;clear hcut;have pF:Hid (([zh 1,zh t]:List Itm).length≤1000):=by rw[Hid];simp
 have c3:=hS.key.cell 3 rfl;go_upto_if 12 with fail
 go_cut [3] (fun s3 wx=>RSt w H (mr t v g Ai kid.length ci Ax x.length cx Ad d.length cd Ak k.length ck) s3 ([zh 1,zh t]++wi 2 kid) wx)
 case first =>
  by_cases h0:0<kid.length
  case neg =>
   have E:Hid (([zh 1,zh t]++wi 2 kid)=[zh 1,zh t]):=by rw[Hid,show wi (2) kid=[] from if_neg h0,List.append_nil]
   have yK:¬ (0:Int)<(kid.length:Int):=by omega
   have oM:decide ((0:Int)<(kid.length:Int))=false:=decide_eq_false yK;have nC:decide (0<kid.length)=false:=decide_eq_false h0;clear h0;have HS:=Hh hS;clear hS;go_wp2_with fail
   go_meet
   rw[E.out]
   exact HS.out
  have yK:(0:Int)<(kid.length:Int):=by omega
  have oM:decide ((0:Int)<(kid.length:Int))=true:=decide_eq_true yK;have nC:decide (0<kid.length)=true:=decide_eq_true h0;have E:Hid (([zh 1,zh t]++wi 2 kid)=[zh 1,zh t]++[zh (2),jS kid]):=by rw[Hid,show wi (2) kid=[zh (2),jS kid] from if_pos h0]
  clear h0;have pF:=pF;obtain⟨LL,qG⟩:∃ LL,[zh 1,zh t]=LL:=⟨_,rfl⟩
  rw[qG]at hS pF;have rb:=Hh qG;clear qG;obtain⟨Hr,VA,m,vc,rfl,hm,hP⟩:=hS;have HL:=Hh (And.intro hm pF.out);clear hm;go_upto_region 3 with fail
  have c3:=hP.key.cell 3 rfl;replace hP:=hP.drew
  refine yw 6 (fun wx=>wx.cell? ⟨w.heap.size,3,none⟩=some (.slice Ai kid.length ci)) (by kernel_rfl) (c3) (fun zy=>?_)
  refine Zk 0 rfl zy ?_
  refine Zk 2 rfl zy ?_
  refine Zk 3 rfl zy ?_
  refine Zo 1 rfl fun K hK=>?_
  go_simp
  refine(xJ (2) (by omega) (by omega) _ hP.grows.holds).mono ?_
  rintro e w3 ⟨v1,rfl,xa1,xb1,xc1,xd1,H1,rfl,um,tG⟩
  have hP:=hP.grow um
  refine Ko hK ?_ fun zy=>?_
  ·exact hP.key.cell 3 rfl
  clear hK K
  refine Zo 4 rfl fun K hK=>?_
  go_simp
  refine(vB rfl (by have:=BL.out;omega) _ (Src.of_row (B1.out.1.row.mono hP.grows.le) hP.grows.holds) hP.grows.holds).mono ?_
  rintro e w4 ⟨v2,rfl,xa2,xb2,xc2,xd2,H2,rfl,yY,lR⟩
  have hP:=hP.grow yY;have tG:=tG.mono yY.le
  refine Ko hK ?_ fun zy=>?_
  ·exact hP.key.cell 3 rfl
  clear hK K
  refine Zo 5 rfl fun K hK=>?_
  go_simp
  have hZ:=hP.litZ (zT (zh (2)) xa1 xb1 xc1 xd1++zT (.mk 2 0 kid []) xa2 xb2 xc2 xd2).toArray 78;have hP:=hP.alloc (.cells (zT (zh (2)) xa1 xb1 xc1 xd1++zT (.mk 2 0 kid []) xa2 xb2 xc2 xd2).toArray 78)
  refine Ko hK ?_ fun zy=>?_
  ·exact hP.key.cell 3 rfl
  clear hK K
  refine Zo 6 rfl fun K hK=>?_
  rw[if_pos (by rfl)]
  refine yV _ _ rfl _ _ _ _ rfl hP.own _ _ _ _ [_,_] rfl rfl ((ItemsC.one tG).app (ItemsC.one lR)) hZ (by have:=HL.out;simp;omega) hP.base fun v7 w7 hown7 hg7 hat7=>?_
  have hP:=hP.app hown7 hg7 hat7;obtain⟨A7,c7,rfl,_⟩:=hown7.form;obtain⟨m7,pC⟩:∃ m7,(LL++[zh (2),.mk 2 0 kid []]).length=m7:=⟨_,rfl⟩
  rw[pC]at hP⊢;have cK:=Hh pC;clear hown7 hg7 hat7 hZ pC
  refine Kz hK ?_
  clear hK K
  refine ZkT 7 rfl (fun h=>absurd h (by decide)) ?_
  refine WaysZ.done (by kernel_rfl) ?_
  clear zy;go_wp2_with fail
  go_meet
  exact(by rw[E.out,rb.out];exact⟨_,_,_,_,rfl,cK.out.symm,hP⟩)
 case rest =>
 clear hS c3;have hS:=hcut;clear hcut;have pF:Hid (([zh 1,zh t]++wi 2 kid).length≤1000):=by have:=ga 2 kid;rw[Hid];simp;omega
 have c2:=hS.key.cell 2 rfl;go_upto_if 22 with fail
 go_cut [3] (fun s3 wx=>RSt w H (mr t v g Ai kid.length ci Ax x.length cx Ad d.length cd Ak k.length ck) s3 (xM t g kid) wx)
 case first =>
  by_cases h0:g=0
  case pos =>
   have E:Hid ((xM t g kid)=([zh 1,zh t]++wi 2 kid)):=by rw[Hid,xM,if_pos h0,List.append_nil]
   subst h0;have HS:=Hh hS;clear hS;go_wp2_with fail
   go_meet
   rw[E.out]
   exact HS.out
  have b1:(g != 0)=true:=by simp[h0]
  have p1:(g=0)=False:=eq_false h0;have E:Hid ((xM t g kid)=([zh 1,zh t]++wi 2 kid)++[zh 3,zh g]):=by rw[Hid,xM,if_neg h0]
  clear h0;have pF:=pF;obtain⟨LL,qG⟩:∃ LL,([zh 1,zh t]++wi 2 kid)=LL:=⟨_,rfl⟩
  rw[qG]at hS pF;have rb:=Hh qG;clear qG;obtain⟨Hr,VA,m,vc,rfl,hm,hP⟩:=hS;have HL:=Hh (And.intro hm pF.out);clear hm;go_upto_region 5 with fail
  have c2:=hP.key.cell 2 rfl;replace hP:=hP.drew
  refine yw 6 (fun wx=>wx.cell? ⟨w.heap.size,2,none⟩=some (.int .i64 g)) (by kernel_rfl) (c2) (fun zy=>?_)
  refine Zk 0 rfl zy ?_
  refine Zk 2 rfl zy ?_
  refine Zk 3 rfl zy ?_
  refine Zo 1 rfl fun K hK=>?_
  go_simp
  refine(xJ (3) (by omega) (by omega) _ hP.grows.holds).mono ?_
  rintro e w3 ⟨v1,rfl,xa1,xb1,xc1,xd1,H1,rfl,um,tG⟩
  have hP:=hP.grow um
  refine Ko hK ?_ fun zy=>?_
  ·exact hP.key.cell 2 rfl
  clear hK K
  refine Zo 4 rfl fun K hK=>?_
  go_simp
  refine(xJ g D.out.2.2.1 D.out.2.2.2 _ hP.grows.holds).mono ?_
  rintro e w4 ⟨v2,rfl,xa2,xb2,xc2,xd2,H2,rfl,yY,lR⟩
  have hP:=hP.grow yY;have tG:=tG.mono yY.le
  refine Ko hK ?_ fun zy=>?_
  ·exact hP.key.cell 2 rfl
  clear hK K
  refine Zo 5 rfl fun K hK=>?_
  go_simp
  have hZ:=hP.litZ (zT (zh (3)) xa1 xb1 xc1 xd1++zT (zh g) xa2 xb2 xc2 xd2).toArray 78;have hP:=hP.alloc (.cells (zT (zh (3)) xa1 xb1 xc1 xd1++zT (zh g) xa2 xb2 xc2 xd2).toArray 78)
  refine Ko hK ?_ fun zy=>?_
  ·exact hP.key.cell 2 rfl
  clear hK K
  refine Zo 6 rfl fun K hK=>?_
  rw[if_pos (by rfl)]
  refine yV _ _ rfl _ _ _ _ rfl hP.own _ _ _ _ [_,_] rfl rfl ((ItemsC.one tG).app (ItemsC.one lR)) hZ (by have:=HL.out;simp;omega) hP.base fun v7 w7 hown7 hg7 hat7=>?_
  have hP:=hP.app hown7 hg7 hat7;obtain⟨A7,c7,rfl,_⟩:=hown7.form;obtain⟨m7,pC⟩:∃ m7,(LL++[zh (3),zh g]).length=m7:=⟨_,rfl⟩
  rw[pC]at hP⊢;have cK:=Hh pC;clear hown7 hg7 hat7 hZ pC
  refine Kz hK ?_
  clear hK K
  refine ZkT 7 rfl (fun h=>absurd h (by decide)) ?_
  refine WaysZ.done (by kernel_rfl) ?_
  clear zy;go_wp2_with fail
  go_meet
  exact(by rw[E.out,rb.out];exact⟨_,_,_,_,rfl,cK.out.symm,hP⟩)
 case rest =>
 clear hS c2;have hS:=hcut;clear hcut;have pF:Hid ((xM t g kid).length≤1000):=by have:=gF t g kid;rw[Hid];omega
 have c0:=hS.key.cell 0 rfl
 by_cases ht4:t=4
 case pos =>
  subst ht4;have CJ:=Hh (K4.out rfl);have E:Hid (jv 4 v g kid x d k=xM 4 g kid++[zh (-1),jS k]):=by rw[Hid,jv,if_pos rfl,wi,if_pos CJ.out]
  clear K4;obtain⟨LL,qG⟩:∃ LL,(xM 4 g kid)=LL:=⟨_,rfl⟩
  rw[qG]at hS pF;have rb:=Hh qG;clear qG;obtain⟨Hr,VA,m,vc,rfl,hm,hP⟩:=hS;have HL:=Hh (And.intro hm pF.out);clear hm;go_upto_region 7 with fail
  have c6:=hP.key.cell 6 rfl;replace hP:=hP.drew
  refine yw 6 (fun wx=>wx.cell? ⟨w.heap.size,6,none⟩=some (.slice Ak k.length ck)) (by kernel_rfl) (c6) (fun zy=>?_)
  refine Zk 0 rfl zy ?_
  refine Zk 2 rfl zy ?_
  refine Zk 3 rfl zy ?_
  refine Zo 1 rfl fun K hK=>?_
  go_simp
  refine(xJ (-1) (by omega) (by omega) _ hP.grows.holds).mono ?_
  rintro e w3 ⟨v1,rfl,xa1,xb1,xc1,xd1,H1,rfl,um,tG⟩
  have hP:=hP.grow um
  refine Ko hK ?_ fun zy=>?_
  ·exact hP.key.cell 6 rfl
  clear hK K
  refine Zo 4 rfl fun K hK=>?_
  go_simp
  refine(vB rfl (by have:=BL.out;omega) _ (Src.of_row (B1.out.2.2.2.row.mono hP.grows.le) hP.grows.holds) hP.grows.holds).mono ?_
  rintro e w4 ⟨v2,rfl,xa2,xb2,xc2,xd2,H2,rfl,yY,lR⟩
  have hP:=hP.grow yY;have tG:=tG.mono yY.le
  refine Ko hK ?_ fun zy=>?_
  ·exact hP.key.cell 6 rfl
  clear hK K
  refine Zo 5 rfl fun K hK=>?_
  go_simp
  have hZ:=hP.litZ (zT (zh (-1)) xa1 xb1 xc1 xd1++zT (.mk 2 0 k []) xa2 xb2 xc2 xd2).toArray 78;have hP:=hP.alloc (.cells (zT (zh (-1)) xa1 xb1 xc1 xd1++zT (.mk 2 0 k []) xa2 xb2 xc2 xd2).toArray 78)
  refine Ko hK ?_ fun zy=>?_
  ·exact hP.key.cell 6 rfl
  clear hK K
  refine Zo 6 rfl fun K hK=>?_
  rw[if_pos (by rfl)]
  refine yV _ _ rfl _ _ _ _ rfl hP.own _ _ _ _ [_,_] rfl rfl ((ItemsC.one tG).app (ItemsC.one lR)) hZ (by have:=HL.out;simp;omega) hP.base fun v7 w7 hown7 hg7 hat7=>?_
  have hP:=hP.app hown7 hg7 hat7;obtain⟨A7,c7,rfl,_⟩:=hown7.form;obtain⟨m7,pC⟩:∃ m7,(LL++[zh (-1),.mk 2 0 k []]).length=m7:=⟨_,rfl⟩
  rw[pC]at hP⊢;have cK:=Hh pC;clear hown7 hg7 hat7 hZ pC
  refine Kz hK ?_
  clear hK K
  refine ZkT 7 rfl (fun h=>absurd h (by decide)) ?_
  refine WaysZ.done (by kernel_rfl) ?_
  clear zy;go_wp2_with fail
  go_ret
  exact⟨_,rfl,by rw[E.out,rb.out];exact hP.out⟩
 have b4:(t==4)=false:=by rw[beq_eq_false_iff_ne];exact ht4
 have p4:(t=4)=False:=eq_false ht4;have EL:Hid (jv t v g kid x d k=xM t g kid++([zh (-1),zh v]++wi (-2) x++wi (-4) d)):=by rw[Hid,jv,if_neg ht4]
 have Ed:Hid ((xM t g kid).length≤6):=gF t g kid;clear ht4 K4;go_upto_region 8 with fail
 clear c0;go_cut [3] (fun s3 wx=>RSt w H (mr t v g Ai kid.length ci Ax x.length cx Ad d.length cd Ak k.length ck) s3 (xM t g kid++[zh (-1),zh v]) wx)
 case first =>
  obtain⟨LL,qG⟩:∃ LL,(xM t g kid)=LL:=⟨_,rfl⟩
  rw[qG]at hS pF;have rb:=Hh qG;clear qG;obtain⟨Hr,VA,m,vc,rfl,hm,hP⟩:=hS;have HL:=Hh (And.intro hm pF.out);clear hm;have c1:=hP.key.cell 1 rfl;replace hP:=hP.drew
  refine yw 6 (fun wx=>wx.cell? ⟨w.heap.size,1,none⟩=some (.int .i64 v)) (by kernel_rfl) (c1) (fun zy=>?_)
  refine Zk 0 rfl zy ?_
  refine Zk 2 rfl zy ?_
  refine Zk 3 rfl zy ?_
  refine Zo 1 rfl fun K hK=>?_
  go_simp
  refine(xJ (-1) (by omega) (by omega) _ hP.grows.holds).mono ?_
  rintro e w3 ⟨v1,rfl,xa1,xb1,xc1,xd1,H1,rfl,um,tG⟩
  have hP:=hP.grow um
  refine Ko hK ?_ fun zy=>?_
  ·exact hP.key.cell 1 rfl
  clear hK K
  refine Zo 4 rfl fun K hK=>?_
  go_simp
  refine(xJ v D.out.2.1.1 D.out.2.1.2 _ hP.grows.holds).mono ?_
  rintro e w4 ⟨v2,rfl,xa2,xb2,xc2,xd2,H2,rfl,yY,lR⟩
  have hP:=hP.grow yY;have tG:=tG.mono yY.le
  refine Ko hK ?_ fun zy=>?_
  ·exact hP.key.cell 1 rfl
  clear hK K
  refine Zo 5 rfl fun K hK=>?_
  go_simp
  have hZ:=hP.litZ (zT (zh (-1)) xa1 xb1 xc1 xd1++zT (zh v) xa2 xb2 xc2 xd2).toArray 78;have hP:=hP.alloc (.cells (zT (zh (-1)) xa1 xb1 xc1 xd1++zT (zh v) xa2 xb2 xc2 xd2).toArray 78)
  refine Ko hK ?_ fun zy=>?_
  ·exact hP.key.cell 1 rfl
  clear hK K
  refine Zo 6 rfl fun K hK=>?_
  rw[if_pos (by rfl)]
  refine yV _ _ rfl _ _ _ _ rfl hP.own _ _ _ _ [_,_] rfl rfl ((ItemsC.one tG).app (ItemsC.one lR)) hZ (by have:=HL.out;simp;omega) hP.base fun v7 w7 hown7 hg7 hat7=>?_
  have hP:=hP.app hown7 hg7 hat7;obtain⟨A7,c7,rfl,_⟩:=hown7.form;obtain⟨m7,pC⟩:∃ m7,(LL++[zh (-1),zh v]).length=m7:=⟨_,rfl⟩
  rw[pC]at hP⊢;have cK:=Hh pC;clear hown7 hg7 hat7 hZ pC
  refine Kz hK ?_
  clear hK K
  refine ZkT 7 rfl (fun h=>absurd h (by decide)) ?_
  refine WaysZ.done (by kernel_rfl) ?_
  clear zy;go_wp2_with fail
  go_meet
  exact(by rw[rb.out];exact⟨_,_,_,_,rfl,cK.out.symm,hP⟩)
 case rest =>
 clear hS pF;have hS:=hcut;clear hcut;have pF:Hid ((xM t g kid++[zh (-1),zh v]).length≤1000):=by have:=Ed.out;rw[Hid];simp;omega
 have c4:=hS.key.cell 4 rfl;go_upto_if 50 with fail
 go_cut [3] (fun s3 wx=>RSt w H (mr t v g Ai kid.length ci Ax x.length cx Ad d.length cd Ak k.length ck) s3 (xM t g kid++[zh (-1),zh v]++wi (-2) x) wx)
 case first =>
  by_cases h0:0<x.length
  case neg =>
   have E:Hid ((xM t g kid++[zh (-1),zh v]++wi (-2) x)=(xM t g kid++[zh (-1),zh v])):=by rw[Hid,show wi (-2) x=[] from if_neg h0,List.append_nil]
   have yK:¬ (0:Int)<(x.length:Int):=by omega
   have oM:decide ((0:Int)<(x.length:Int))=false:=decide_eq_false yK;have nC:decide (0<x.length)=false:=decide_eq_false h0;clear h0;have HS:=Hh hS;clear hS;go_wp2_with fail
   go_meet
   rw[E.out]
   exact HS.out
  have yK:(0:Int)<(x.length:Int):=by omega
  have oM:decide ((0:Int)<(x.length:Int))=true:=decide_eq_true yK;have nC:decide (0<x.length)=true:=decide_eq_true h0;have E:Hid ((xM t g kid++[zh (-1),zh v]++wi (-2) x)=(xM t g kid++[zh (-1),zh v])++[zh (-2),jS x]):=by rw[Hid,show wi (-2) x=[zh (-2),jS x] from if_pos h0]
  clear h0;have pF:=pF;obtain⟨LL,qG⟩:∃ LL,(xM t g kid++[zh (-1),zh v])=LL:=⟨_,rfl⟩
  rw[qG]at hS pF;have rb:=Hh qG;clear qG;obtain⟨Hr,VA,m,vc,rfl,hm,hP⟩:=hS;have HL:=Hh (And.intro hm pF.out);clear hm;go_upto_region 10 with fail
  have c4:=hP.key.cell 4 rfl;replace hP:=hP.drew
  refine yw 6 (fun wx=>wx.cell? ⟨w.heap.size,4,none⟩=some (.slice Ax x.length cx)) (by kernel_rfl) (c4) (fun zy=>?_)
  refine Zk 0 rfl zy ?_
  refine Zk 2 rfl zy ?_
  refine Zk 3 rfl zy ?_
  refine Zo 1 rfl fun K hK=>?_
  go_simp
  refine(xJ (-2) (by omega) (by omega) _ hP.grows.holds).mono ?_
  rintro e w3 ⟨v1,rfl,xa1,xb1,xc1,xd1,H1,rfl,um,tG⟩
  have hP:=hP.grow um
  refine Ko hK ?_ fun zy=>?_
  ·exact hP.key.cell 4 rfl
  clear hK K
  refine Zo 4 rfl fun K hK=>?_
  go_simp
  refine(vB rfl (by have:=BL.out;omega) _ (Src.of_row (B1.out.2.1.row.mono hP.grows.le) hP.grows.holds) hP.grows.holds).mono ?_
  rintro e w4 ⟨v2,rfl,xa2,xb2,xc2,xd2,H2,rfl,yY,lR⟩
  have hP:=hP.grow yY;have tG:=tG.mono yY.le
  refine Ko hK ?_ fun zy=>?_
  ·exact hP.key.cell 4 rfl
  clear hK K
  refine Zo 5 rfl fun K hK=>?_
  go_simp
  have hZ:=hP.litZ (zT (zh (-2)) xa1 xb1 xc1 xd1++zT (.mk 2 0 x []) xa2 xb2 xc2 xd2).toArray 78;have hP:=hP.alloc (.cells (zT (zh (-2)) xa1 xb1 xc1 xd1++zT (.mk 2 0 x []) xa2 xb2 xc2 xd2).toArray 78)
  refine Ko hK ?_ fun zy=>?_
  ·exact hP.key.cell 4 rfl
  clear hK K
  refine Zo 6 rfl fun K hK=>?_
  rw[if_pos (by rfl)]
  refine yV _ _ rfl _ _ _ _ rfl hP.own _ _ _ _ [_,_] rfl rfl ((ItemsC.one tG).app (ItemsC.one lR)) hZ (by have:=HL.out;simp;omega) hP.base fun v7 w7 hown7 hg7 hat7=>?_
  have hP:=hP.app hown7 hg7 hat7;obtain⟨A7,c7,rfl,_⟩:=hown7.form;obtain⟨m7,pC⟩:∃ m7,(LL++[zh (-2),.mk 2 0 x []]).length=m7:=⟨_,rfl⟩
  rw[pC]at hP⊢;have cK:=Hh pC;clear hown7 hg7 hat7 hZ pC
  refine Kz hK ?_
  clear hK K
  refine ZkT 7 rfl (fun h=>absurd h (by decide)) ?_
  refine WaysZ.done (by kernel_rfl) ?_
  clear zy;go_wp2_with fail
  go_meet
  exact(by rw[E.out,rb.out];exact⟨_,_,_,_,rfl,cK.out.symm,hP⟩)
 case rest =>
 clear hS c4;have hS:=hcut;clear hcut;have pF:Hid ((xM t g kid++[zh (-1),zh v]++wi (-2) x).length≤1000):=by have:=Ed.out;have:=ga (-2) x;rw[Hid];simp;omega
 have c5:=hS.key.cell 5 rfl;go_upto_if 61 with fail
 go_cut [3] (fun s3 wx=>RSt w H (mr t v g Ai kid.length ci Ax x.length cx Ad d.length cd Ak k.length ck) s3 (xM t g kid++[zh (-1),zh v]++wi (-2) x++wi (-4) d) wx)
 case first =>
  by_cases h0:0<d.length
  case neg =>
   have E:Hid ((xM t g kid++[zh (-1),zh v]++wi (-2) x++wi (-4) d)=(xM t g kid++[zh (-1),zh v]++wi (-2) x)):=by rw[Hid,show wi (-4) d=[] from if_neg h0,List.append_nil]
   have yK:¬ (0:Int)<(d.length:Int):=by omega
   have oM:decide ((0:Int)<(d.length:Int))=false:=decide_eq_false yK;have nC:decide (0<d.length)=false:=decide_eq_false h0;clear h0;have HS:=Hh hS;clear hS;go_wp2_with fail
   go_meet
   rw[E.out]
   exact HS.out
  have yK:(0:Int)<(d.length:Int):=by omega
  have oM:decide ((0:Int)<(d.length:Int))=true:=decide_eq_true yK;have nC:decide (0<d.length)=true:=decide_eq_true h0;have E:Hid ((xM t g kid++[zh (-1),zh v]++wi (-2) x++wi (-4) d)=(xM t g kid++[zh (-1),zh v]++wi (-2) x)++[zh (-4),jS d]):=by rw[Hid,show wi (-4) d=[zh (-4),jS d] from if_pos h0]
  clear h0;have pF:=pF;obtain⟨LL,qG⟩:∃ LL,(xM t g kid++[zh (-1),zh v]++wi (-2) x)=LL:=⟨_,rfl⟩
  rw[qG]at hS pF;have rb:=Hh qG;clear qG;obtain⟨Hr,VA,m,vc,rfl,hm,hP⟩:=hS;have HL:=Hh (And.intro hm pF.out);clear hm;go_upto_region 12 with fail
  have c5:=hP.key.cell 5 rfl;replace hP:=hP.drew
  refine yw 6 (fun wx=>wx.cell? ⟨w.heap.size,5,none⟩=some (.slice Ad d.length cd)) (by kernel_rfl) (c5) (fun zy=>?_)
  refine Zk 0 rfl zy ?_
  refine Zk 2 rfl zy ?_
  refine Zk 3 rfl zy ?_
  refine Zo 1 rfl fun K hK=>?_
  go_simp
  refine(xJ (-4) (by omega) (by omega) _ hP.grows.holds).mono ?_
  rintro e w3 ⟨v1,rfl,xa1,xb1,xc1,xd1,H1,rfl,um,tG⟩
  have hP:=hP.grow um
  refine Ko hK ?_ fun zy=>?_
  ·exact hP.key.cell 5 rfl
  clear hK K
  refine Zo 4 rfl fun K hK=>?_
  go_simp
  refine(vB rfl (by have:=BL.out;omega) _ (Src.of_row (B1.out.2.2.1.row.mono hP.grows.le) hP.grows.holds) hP.grows.holds).mono ?_
  rintro e w4 ⟨v2,rfl,xa2,xb2,xc2,xd2,H2,rfl,yY,lR⟩
  have hP:=hP.grow yY;have tG:=tG.mono yY.le
  refine Ko hK ?_ fun zy=>?_
  ·exact hP.key.cell 5 rfl
  clear hK K
  refine Zo 5 rfl fun K hK=>?_
  go_simp
  have hZ:=hP.litZ (zT (zh (-4)) xa1 xb1 xc1 xd1++zT (.mk 2 0 d []) xa2 xb2 xc2 xd2).toArray 78;have hP:=hP.alloc (.cells (zT (zh (-4)) xa1 xb1 xc1 xd1++zT (.mk 2 0 d []) xa2 xb2 xc2 xd2).toArray 78)
  refine Ko hK ?_ fun zy=>?_
  ·exact hP.key.cell 5 rfl
  clear hK K
  refine Zo 6 rfl fun K hK=>?_
  rw[if_pos (by rfl)]
  refine yV _ _ rfl _ _ _ _ rfl hP.own _ _ _ _ [_,_] rfl rfl ((ItemsC.one tG).app (ItemsC.one lR)) hZ (by have:=HL.out;simp;omega) hP.base fun v7 w7 hown7 hg7 hat7=>?_
  have hP:=hP.app hown7 hg7 hat7;obtain⟨A7,c7,rfl,_⟩:=hown7.form;obtain⟨m7,pC⟩:∃ m7,(LL++[zh (-4),.mk 2 0 d []]).length=m7:=⟨_,rfl⟩
  rw[pC]at hP⊢;have cK:=Hh pC;clear hown7 hg7 hat7 hZ pC
  refine Kz hK ?_
  clear hK K
  refine ZkT 7 rfl (fun h=>absurd h (by decide)) ?_
  refine WaysZ.done (by kernel_rfl) ?_
  clear zy;go_wp2_with fail
  go_meet
  exact(by rw[E.out,rb.out];exact⟨_,_,_,_,rfl,cK.out.symm,hP⟩)
 case rest =>
 clear hS c5;have hS:=hcut;clear hcut;obtain⟨Hr,VA,m,vc,rfl,hm,hP⟩:=hS;have hO:=hP.out;clear hP hm;go_wp2_with fail
 go_ret
 exact⟨_,rfl,by rw[EL.out];show Yr w H _ (Value.slice VA m vc) _;rw[← List.append_assoc,← List.append_assoc];exact hO⟩
structure PE (H:Snap) where
 A:Option Addr
 cc:Nat
 key:List UInt8
 rest:List Value
 len:rest.length=8
 one:∀ u∈rest,u.oneCell'=true
 is:IsBytes H A cc key
instance (H:Snap):Inhabited (PE H):=⟨⟨none,0,[],List.replicate 8 (.bool false),by simp,by simp[Value.oneCell'],IsBytes.nil H⟩⟩
section
variable {α:Type} {L:Lie α} {t bt kt:TypeId} {W0 w w':World} {H Hr Hs:Snap} {B:Nat} {kc:Array Value} {bv v v':Value} {l news:List α}
end
abbrev tE:Array Value:=#[.int .i64 0,.int .u64 0,.slice none 0 0,.slice none 0 0]
section
variable {W0 w w':World} {H Hr Hs:Snap} {B M:Nat} {bc:Array Value} {iv v v':Value} {l news:List Itm}
end
structure KAd where
 ia:Option Addr
 ic:Nat
 xa:Option Addr
 xc:Nat
 da:Option Addr
 dc:Nat
 ka:Option Addr
 kc:Nat
abbrev mu (q:Ky) (a:KAd):Array Value:=mr q.kty q.crv q.alg a.ia q.kid.length a.ic a.xa q.x.length a.xc a.da q.d.length a.dc a.ka q.k.length a.kc
structure KeyA (H:Snap) (q:Ky) (a:KAd):Prop where
 kty : -9223372036854775808≤q.kty∧q.kty≤9223372036854775807
 crv : -9223372036854775808≤q.crv∧q.crv≤9223372036854775807
 alg : -9223372036854775808≤q.alg∧q.alg≤9223372036854775807
 kid:IsBytes H a.ia a.ic q.kid
 x:IsBytes H a.xa a.xc q.x
 d:IsBytes H a.da a.dc q.d
 k:IsBytes H a.ka a.kc q.k
theorem KeyA.mono {H K:Snap}{q:Ky}{a:KAd}(h:KeyA H q a) (hl:H.le K):KeyA K q a:=⟨h.kty,h.crv,h.alg,h.kid.mono hl,h.x.mono hl,h.d.mono hl,h.k.mono hl⟩
theorem KeyA.len {H:Snap}{q:Ky}{a:KAd}(h:KeyA H q a):q.x.length≤9223372036854775807∧q.d.length≤9223372036854775807:=⟨Nat.le_trans h.x.le h.x.max,Nat.le_trans h.d.le h.d.max⟩
theorem Ww (q:Ky):zS q.kty q.crv q.alg q.kid.length q.x.length q.d.length q.k.length=wV q:=rfl
theorem WG (q:Ky):jv q.kty q.crv q.alg q.kid q.x q.d q.k=y7 q:=rfl
def oA (q:Ky):Int:=if wV q=true then 0 else 1
def iC (q:Ky):Itm:=if wV q=true then sk q else lB
def Kx (w:World) (H:Snap) (q:Ky) (e:Ending) (w':World):Prop:=∃ v,e=.returned (.tuple #[v,.int .i64 (oA q)])∧Gives w H (iC q) v w'
theorem Ym {q:Ky}(h:wV q=true):q.kid.length≤64∧q.x.length≤64∧q.d.length≤64∧q.k.length≤64:=by
 have:=(qP q).1 h
 omega
theorem Ti {q:Ky}(h:wV q=true) (h4:q.kty=4):0<q.k.length:=by
 have:=(qP q).1 h
 omega
theorem IsRowI.of {H:Snap}{A:Option Addr}{c:Nat}{l:List Itm}(h:l.length≤c∧c≤9223372036854775807∧(0<l.length→∃ b off,A=some ⟨b,off,none⟩∧IsElems H b off l)):IsRowI H A c l:=⟨h.1,h.2.1,h.2.2⟩
theorem kZ {H:Snap}(hTab:Tabs H) {q:Ky}{a:KAd}(hq:KeyA H q a) (w:World) (hH:Holds w H) :
  Calls Tryz.prog 84 #[.agg (mu q a)] w (Kx w H q):=by
 have rZ:=(Blk.new w 88 (mu q a)).alloc (.cells tE 78);have hT:=Blk.new (w.alloc (.cells (mu q a) 88)) 78 tE;rw[zW]at hT;have uU:H (w.heap.size+1)=none:=hH.none_of_ge (by omega);have um:=((Grows.refl hH).alloc (.cells (mu q a) 88)).alloc (.cells tE 78);have V:=Hh (fun W=>gK q.kty q.crv q.alg a.ia q.kid.length a.ic a.xa q.x.length a.xc a.da q.d.length a.dc a.ka q.k.length a.kc W hq.len.1 hq.len.2);have HQ:=Hh hq;have c0:=rZ.cell 0 rfl;have c1:=rZ.cell 1 rfl;have c2:=rZ.cell 2 rfl;have c3:=rZ.cell 3 rfl;have c4:=rZ.cell 4 rfl;have c5:=rZ.cell 5 rfl;have c6:=rZ.cell 6 rfl;clear hq hH;go_enter Tryz.func84,Tryz.ntmps84
 go_wp2_with fail
 refine(V.out _).mono ?_
 rintro e w3 ⟨rfl,vg⟩
 rw[Ww];replace hT:=hT.below vg;replace rZ:=rZ.below vg;have xf:=um.below_ vg;clear um vg V c0 c1 c2 c3 c4 c5 c6;have c0:=rZ.cell 0 rfl;have c1:=rZ.cell 1 rfl;have c2:=rZ.cell 2 rfl;have c3:=rZ.cell 3 rfl;have c4:=rZ.cell 4 rfl;have c5:=rZ.cell 5 rfl;have c6:=rZ.cell 6 rfl;clear rZ
 cases hv:wV q with
 | false =>
  have E:Hid (oA q=1∧iC q=lB):=⟨by rw[oA,if_neg (by rw[hv];simp)],by rw[iC,if_neg (by rw[hv];simp)]⟩
  clear hv;go_wp2_with (with_reducible refine zx ?_)
  refine stI hT fun w9 wL hg9=>?_
  have tZ:=xf.grownOwn uU (by omega) hg9;go_wp2_with fail
  refine zw rfl rfl wL rfl rfl zp rfl ?_
  exact⟨_,by rw[E.out.1];rfl,by rw[E.out.2];exact⟨none,0,none,0,H,rfl,tZ,IsItem.plain H 0 0 (by omega) (by omega)⟩⟩
 | true =>
 have E:Hid (oA q=0∧iC q=.mk 5 0 [] (y7 q)):=⟨by rw[oA,if_pos hv],by rw[iC,if_pos hv];rfl⟩
 have HV:=Hh hv;clear hv;go_wp2_with fail
 refine(aH q.kty q.crv q.alg HQ.out.kty HQ.out.crv HQ.out.alg HQ.out.kid HQ.out.x HQ.out.d HQ.out.k (Ym HV.out) (Ti HV.out) _ xf.holds).mono ?_
 rintro e w4 ⟨v4,rfl,A4,c9,H4,rfl,uv,O1⟩
 rw[WG]at O1⊢;have xC:=xf.trans uv;have Gh:=uv.none uU hT.lt;replace hT:=hT.below uv.below;have Cn:=Hh (IsRowI.of O1);have HB:=Hh (gJ (hTab.mono xC.le) Cn.out (by have:=(ly q).2;omega) w4 xC.holds);clear uv O1 xf c0 c1 c2 c3 c4 c5 c6;go_wp2_with fail
 refine HB.out.mono ?_
 rintro e w6 ⟨v6,h6⟩
 have DO:∃ xa xb xc xd H6,e=.returned (.tuple #[ua (.mk 5 0 [] (y7 q)) xa xb xc xd,.int .i64 0])∧Grows w4 H4 w6 H6∧IsItem H6 xa xb xc xd (.mk 5 0 [] (y7 q)):=by
  rcases h6 with ⟨l,rfl,⟨xa,xb,xc,xd,H6,rfl,zK,VV⟩,_,_,hl⟩ | ⟨_,_,_,_,Zh⟩
  ·obtain rfl:=hl (Tn HV.out).2.1
   exact⟨xa,xb,xc,xd,H6,rfl,zK,VV⟩
  exact absurd (Tn HV.out) Zh
 clear h6;obtain⟨xa,xb,xc,xd,H6,rfl,zK,VV⟩:=DO;have uw:=xC.trans zK;have Ov:=zK.none Gh hT.lt;replace hT:=hT.below zK.below;clear zK xC HB;go_wp2_with (with_reducible refine zx ?_)
 refine stI hT fun w9 wL hg9=>?_
 have tZ:=uw.grownOwn Ov (by omega) hg9;go_wp2_with fail
 refine zw rfl rfl wL rfl rfl zp rfl ?_
 exact⟨_,by rw[E.out.1];rfl,by rw[E.out.2];exact⟨xa,xb,xc,xd,H6,rfl,tZ,VV⟩⟩
theorem dq (v:Int):∃ x:UInt8,Value.int .u8 (IntKind.u8.wrap v)=zg x:=by
 refine⟨UInt8.ofNat (v%256).toNat, ?_⟩
 have h:(v%256).toNat<256:=by omega
 rw[IntKind.wrap_u8,zg,UInt8.toNat_ofNat_of_lt' (by simpa using h)];congr 1
 omega
theorem kz (n:Int) (w:World) :
  Calls Tryz.prog 23 #[.int .i64 n] w fun e w'=>∃ A c l,e=.returned (.slice A 32 c)∧l.length=32∧Fresh w l (.slice A 32 c) w':=by
 have zP:=Below.refl w.heap.size w;go_enter Tryz.func23,Tryz.ntmps23
 go_wp2_with fail
 go_loopw [3,5] (fun v3 v5 wr=>∃ (k:Nat) (VA:Option Addr) (vc vn:Nat) (l:List UInt8),k≤32∧v5=.int .i64 (k:Int)∧v3=.slice VA vn vc∧vn=k∧l.length=k∧OwnB wr w.heap.size (.slice VA vn vc) l∧Below w.heap.size w wr) (fun _ v5 _=>32-(intOf v5).toNat)
 case atStart=>exact⟨0,none,0,0,[],by omega,rfl,rfl,rfl,rfl,OwnB.nil _ _,zP⟩
 case round =>
 clear zP;obtain⟨k,VA,vc,vn,l,hk,rfl,rfl,mg,VD,vf,yE⟩:=hrel;have HK:=Hh hk;have HV:=Hh (And.intro mg VD);clear hk mg VD
 by_cases yy:k<32
 ·have ei:(k:Int)<32:=by omega
  have mP:decide ((k:Int)<32)=true:=decide_eq_true ei;have ej:decide (k<32)=true:=decide_eq_true yy;have sv:=Hh yy;go_wp2_with (at_builtin;refine zf ?_)
  unfold zU
  obtain⟨x,hx⟩:∃ x:UInt8,Value.int .u8 (bits BinOp.xor IntKind.u8 (IntKind.u64.wrap n/2 ^ (8*(k%8))%256) (37*((k:Int)/8)))=zg x:=dq _
  generalize bits BinOp.xor IntKind.u8 (IntKind.u64.wrap n/2 ^ (8*(k%8))%256) (37*((k:Int)/8))=v at hx⊢
  have HC:Hid ((#[.int .u8 v]:Array Value).toList=[x].map zg):=by simp[Hid,← hx]
  have yp:=vf.alloc (.cells #[.int .u8 v] 5);have yz:=yE.alloc yE.size (.cells #[.int .u8 v] 5)
  refine zv rfl (.tmp 8) (.tmp 22) rfl w.heap.size (.slice VA vn vc) l rfl yp _ 1 _ [x] rfl rfl (Src.new _ _ _ _ rfl _ HC.out) (by have:=HV.out;have:=HK.out;simp;omega) yz.size fun v' w7 wY hg7 hat7=>?_
  have xU:=yz.grown hg7 yz.size (fun q hq=>(yp.lt q hq).1);obtain⟨VA',vc',rfl,bU⟩:=wY.form;clear bU hg7 hat7 hx yp yz vf yE;obtain⟨m,hm⟩:∃ m,l++[x]=m:=⟨_,rfl⟩
  have HM:Hid (m.length=k+1):=by have:=HV.out;rw[Hid,← hm,List.length_append];simp;omega
  rw[hm]at wY⊢;clear hm;go_wp2_with fail
  go_roundw
  case rel=>exact⟨k+1,VA',vc',_,m,by have:=sv.out;omega,by go_num,rfl,HM.out,HM.out,wY,xU⟩
  case measure=>have:=sv.out;simp[intOf];omega
 have ei:¬ ((k:Int)<32):=by omega
 have mP:decide ((k:Int)<32)=false:=decide_eq_false ei;have ej:decide (k<32)=false:=decide_eq_false yy;have Gw:k=32:=by have:=HK.out;omega
 have HL:Hid (l.length=32):=by have:=HV.out;rw[Hid];omega
 obtain rfl:vn=32:=by have:=HV.out;omega
 clear yy Gw;go_wp2_with fail
 go_ret
 exact⟨VA,vc,rfl,l,HL.out,vf,yE⟩
end Go.Proofs.YtjpcnhncoidliaaGreatDoor
