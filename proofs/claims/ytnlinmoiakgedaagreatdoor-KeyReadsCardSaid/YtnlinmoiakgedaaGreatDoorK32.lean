/- squeezed. Walks: which keys are valid, by th -/
import Derived.Test.YtnlinmoiakgedaaGreatDoorK00
import Derived.Deep.DeepCutAuto
import Derived.Deep.CutBlock
set_option linter.unusedVariables false
set_option linter.unusedSimpArgs false
set_option maxRecDepth 100000
set_option maxHeartbeats 12800000
namespace Go.Proofs.YtnlinmoiakgedaaGreatDoor
open Go.RowKit
def yC (n:Nat):Bool:=decide (n=0)||decide (n=32)
def zp (t v g:Int) (ni nx nd nk:Nat):Bool :=
 decide (ni≤16)&&decide (-65536≤g)&&decide (g≤65535) &&
 (if t=1 then(decide (v=4)||decide (v=6))&&yC nx&&yC nd&&decide (0<nx+nd)&&decide (nk=0)
  else if t=4 then decide (v=0)&&decide (nx+nd=0)&&decide (1≤nk)&&decide (nk≤64) else false)
abbrev wX (t v g:Int) (Ai:Option Addr) (ni ci:Nat) (Ax:Option Addr) (nx cx:Nat) (Ad:Option Addr) (nd cd:Nat) (Ak:Option Addr) (nk ck:Nat):Array Value :=
 #[.int .i64 t,.int .i64 v,.int .i64 g,.slice Ai ni ci,.slice Ax nx cx,.slice Ad nd cd,.slice Ak nk ck]
theorem xQ (A:Option Addr) (n c:Nat) (w:World) :
  Calls Tryz.prog 61 #[.slice A n c] w fun e w'=>e=.returned (.bool (yC n))∧w=w':=by
 by_cases h0:n=0
 ·subst h0;go_enter Tryz.func61,Tryz.ntmps61
  go_wp2_with fail
  go_ret
  exact⟨rfl,rfl⟩
 ·have z0:((n:Int)==0)=false:=by rw[beq_eq_false_iff_ne];omega
  have y0:((n:Int)=0)=False:=eq_false (by omega)
  have E:Hid (decide ((n:Int)=32)=yC n):=by
   rw[Hid,yC,decide_eq_false h0,Bool.false_or,Bool.eq_iff_iff,decide_eq_true_eq,decide_eq_true_eq];omega
  have E':Hid (((n:Int)==32)=yC n):=by
   rw[← E.out];rfl
  go_enter Tryz.func61,Tryz.ntmps61
  go_wp2_with fail
  go_ret
  exact⟨by first | (rw[← E.out];rfl) | (rw[← E'.out];rfl),rfl⟩
theorem rq {a b:Nat}(ha:a≤9223372036854775807) (hb:b≤9223372036854775807) (h:¬ a+b=0):¬ wrap64 ((a:Int)+(b:Int))=0:=by
 unfold wrap64
 omega
theorem pS {a b:Nat}(ha:a≤9223372036854775807) (hb:b≤9223372036854775807) (h:¬ a+b=0):¬ IntKind.i64.wrap ((a:Int)+(b:Int))=0:=by
 rw[IntKind.wrap_i64]
 omega
section
variable (t v g:Int) (Ai:Option Addr) (ni ci:Nat) (Ax:Option Addr) (nx cx:Nat) (Ad:Option Addr) (nd cd:Nat) (Ak:Option Addr) (nk ck:Nat) (w:World)
theorem dP (h2:nx≤9223372036854775807) (h3:nd≤9223372036854775807) :
  Calls Tryz.prog 27 #[.agg (wX t v g Ai ni ci Ax nx cx Ad nd cd Ak nk ck)] w fun e w'=>e=.returned (.bool (zp t v g ni nx nd nk))∧Below w.heap.size w w':=by
 have hB:=Blk.new w 33 (wX t v g Ai ni ci Ax nx cx Ad nd cd Ak nk ck);have hb:=zi w (.cells (wX t v g Ai ni ci Ax nx cx Ad nd cd Ak nk ck) 33);have c0:=hB.cell 0 rfl;have c1:=hB.cell 1 rfl;have c2:=hB.cell 2 rfl;have c3:=hB.cell 3 rfl;have c4:=hB.cell 4 rfl;have c5:=hB.cell 5 rfl;have c6:=hB.cell 6 rfl;have Z1:=Hh (And.intro h2 h3);clear h2 h3
 by_cases hi:ni≤16
 case neg =>
  have ri:¬ ((ni:Int)≤16):=by omega
  have si:decide ((ni:Int)≤16)=false:=decide_eq_false ri;have qi:16<(ni:Int):=by omega
  have bi:decide (16<(ni:Int))=true:=decide_eq_true qi;have E:Hid (zp _ _ _ _ _ _ _=false):=(show zp t v g ni nx nd nk=false by simp[zp,yC,hi])
  clear hi;go_enter Tryz.func27,Tryz.ntmps27
  go_wp2_with fail
  go_ret
  exact⟨by rw[E.out];rfl,by first | exact hb | exact hb.drew⟩
 have qi:¬ (16<(ni:Int)):=by omega
 have bi:decide (16<(ni:Int))=false:=decide_eq_false qi
 by_cases wS : -65536≤g
 case neg =>
  have qg1:g < -65536:=by omega
  have bg1:decide (g < -65536)=true:=decide_eq_true qg1;have E:Hid (zp _ _ _ _ _ _ _=false):=(show zp t v g ni nx nd nk=false by simp[zp,yC,hi,wS])
  clear hi wS;go_enter Tryz.func27,Tryz.ntmps27
  go_wp2_with fail
  go_ret
  exact⟨by rw[E.out];rfl,by first | exact hb | exact hb.drew⟩
 have qg1:¬ (g < -65536):=by omega
 have bg1:decide (g < -65536)=false:=decide_eq_false qg1
 by_cases wk:g≤65535
 case neg =>
  have rg2:¬ (g≤65535):=by omega
  have sg2:decide (g≤65535)=false:=decide_eq_false rg2;have qg2:65535<g:=by omega
  have bg2:decide (65535<g)=true:=decide_eq_true qg2;have E:Hid (zp _ _ _ _ _ _ _=false):=(show zp t v g ni nx nd nk=false by simp[zp,yC,hi,wS,wk])
  clear hi wS wk;go_enter Tryz.func27,Tryz.ntmps27
  go_wp2_with fail
  go_ret
  exact⟨by rw[E.out];rfl,by first | exact hb | exact hb.drew⟩
 have qg2:¬ (65535<g):=by omega
 have bg2:decide (65535<g)=false:=decide_eq_false qg2;go_enter Tryz.func27,Tryz.ntmps27
 go_upto_region 3 with fail
 go_cut [3,4] (fun s3 s4 wx=>s3=.int .i64 (nx:Int)∧s4=.int .i64 (nd:Int)∧Below w.heap.size w wx∧Blk wx w.heap.size 33 #[.int .i64 t,.int .i64 v,.int .i64 g,.slice Ai ni ci,.slice Ax nx cx,.slice Ad nd cd,.slice Ak nk ck])
 case first =>
  refine zf 7 (fun wx=>wx.cell? ⟨w.heap.size,4,none⟩=some (.slice Ax nx cx)∧wx.cell? ⟨w.heap.size,5,none⟩=some (.slice Ad nd cd)) (by kernel_rfl) (⟨c4,c5⟩) (fun zy=>?_)
  refine Tk 0 rfl zy ?_
  refine Tk 1 rfl zy ?_
  refine Tk 2 rfl zy ?_
  refine Tk 3 rfl zy ?_
  refine Tk 4 rfl zy ?_
  refine Tk 5 rfl zy ?_
  refine Tk 6 rfl zy ?_
  refine To 7 rfl fun K hK=>?_
  go_simp
  refine hK.out _ _ (fun h=>absurd rfl h) (fun _=>?_)
  clear hK K
  try simp only[Act.put,zz1,zz2,zz3,zz4,zz5,zz6]
  refine Ways.done (by kernel_rfl) ?_
  go_wp2_with fail
  go_meet
  exact⟨rfl,rfl,hb.drew,hB.drew⟩
 case rest =>
  clear hb hB c0 c1 c2 c3 c4 c5 c6;obtain⟨rfl,rfl,hb,hB⟩:=hcut;have c0:=hB.cell 0 rfl;have c1:=hB.cell 1 rfl;have c6:=hB.cell 6 rfl
  by_cases ht:t=1
  case neg =>
   have qt:(t==1)=false:=by rw[beq_eq_false_iff_ne];omega
   have bt:(t=1)=False:=eq_false (by omega)
   by_cases ie:t=4
   case neg =>
    have qt4:(t==4)=false:=by rw[beq_eq_false_iff_ne];omega
    have bt4:(t=4)=False:=eq_false (by omega);have E:Hid (zp _ _ _ _ _ _ _=false):=(show zp t v g ni nx nd nk=false by simp[zp,yC,hi,wS,wk,ht,ie])
    clear hi wS wk ht ie;go_wp2_with fail
    go_ret
    exact⟨by rw[E.out];rfl,by first | exact hb | exact hb.drew⟩
   subst ie
   by_cases hw:v=0
   case neg =>
    have qw:(v==0)=false:=by rw[beq_eq_false_iff_ne];omega
    have bw:(v=0)=False:=eq_false (by omega);have E:Hid (zp _ _ _ _ _ _ _=false):=(show zp 4 v g ni nx nd nk=false by simp[zp,yC,hi,wS,wk,hw])
    clear hi wS wk hw;go_wp2_with fail
    go_ret
    exact⟨by rw[E.out];rfl,by first | exact hb | exact hb.drew⟩
   subst hw
   by_cases hs:nx+nd=0
   case neg =>
    have as0:(IntKind.i64.wrap ((nx:Int)+(nd:Int))==0)=false:=by rw[beq_eq_false_iff_ne];exact pS Z1.out.1 Z1.out.2 hs
    have as1:(IntKind.i64.wrap ((nx:Int)+(nd:Int))=0)=False:=eq_false (pS Z1.out.1 Z1.out.2 hs);have as2:(wrap64 ((nx:Int)+(nd:Int))==0)=false:=by rw[beq_eq_false_iff_ne];exact rq Z1.out.1 Z1.out.2 hs
    have as3:(wrap64 ((nx:Int)+(nd:Int))=0)=False:=eq_false (rq Z1.out.1 Z1.out.2 hs);have E:Hid (zp _ _ _ _ _ _ _=false):=(show zp 4 0 g ni nx nd nk=false by simp[zp,yC,hi,wS,wk,hs] <;> omega)
    clear hi wS wk hs;go_wp2_with fail
    go_ret
    exact⟨by rw[E.out];rfl,by first | exact hb | exact hb.drew⟩
   obtain⟨rfl,rfl⟩:nx=0∧nd=0:=by omega
   have K:IntKind.i64.wrap (((0:Nat):Int)+((0:Nat):Int))=((0:Nat):Int)+((0:Nat):Int):=IntWalk.i64_in _ (by omega)
   by_cases tG:1≤nk
   case neg =>
    have qk1:¬ (0:Int)<(nk:Int):=by omega
    have bk1:decide ((0:Int)<(nk:Int))=false:=decide_eq_false qk1;have ck1:¬ (1:Int)≤(nk:Int):=by omega
    have dk1:decide ((1:Int)≤(nk:Int))=false:=decide_eq_false ck1;have E:Hid (zp _ _ _ _ _ _ _=false):=(show zp 4 0 g ni 0 0 nk=false by simp[zp,yC,hi,wS,wk,tG])
    clear hi wS wk tG;go_wp2_with fail
    go_ret
    exact⟨by rw[E.out];rfl,by first | exact hb | exact hb.drew⟩
   have qk1:(0:Int)<(nk:Int):=by omega
   have bk1:decide ((0:Int)<(nk:Int))=true:=decide_eq_true qk1;have ck1:(1:Int)≤(nk:Int):=by omega
   have dk1:decide ((1:Int)≤(nk:Int))=true:=decide_eq_true ck1
   by_cases sE:nk≤64
   case neg =>
    have rk2:¬ ((nk:Int)≤64):=by omega
    have sk2:decide ((nk:Int)≤64)=false:=decide_eq_false rk2;have qk2:64<(nk:Int):=by omega
    have bk2:decide (64<(nk:Int))=true:=decide_eq_true qk2;have E:Hid (zp _ _ _ _ _ _ _=false):=(show zp 4 0 g ni 0 0 nk=false by simp[zp,yC,hi,wS,wk,tG,sE])
    clear hi wS wk tG sE;go_wp2_with fail
    go_ret
    exact⟨by rw[E.out];rfl,by first | exact hb | exact hb.drew⟩
   have qk2:¬ (64<(nk:Int)):=by omega
   have bk2:decide (64<(nk:Int))=false:=decide_eq_false qk2;have E:Hid (zp _ _ _ _ _ _ _=true):=(show zp 4 0 g ni 0 0 nk=true by simp[zp,yC,hi,wS,wk,tG,sE])
   clear hi wS wk tG sE;go_wp2_with fail
   go_ret
   exact⟨by rw[E.out];rfl,by first | exact hb | exact hb.drew⟩
  subst ht
  by_cases hv:v=4
  case neg =>
   have qv:(v==4)=false:=by rw[beq_eq_false_iff_ne];omega
   have bv:(v=4)=False:=eq_false (by omega)
   by_cases bH:v=6
   case neg =>
    have qv2:(v==6)=false:=by rw[beq_eq_false_iff_ne];omega
    have bv2:(v=6)=False:=eq_false (by omega);have E:Hid (zp _ _ _ _ _ _ _=false):=(show zp 1 v g ni nx nd nk=false by simp[zp,yC,hi,wS,wk,hv,bH])
    clear hi wS wk hv bH;go_wp2_with fail
    go_ret
    exact⟨by rw[E.out];rfl,by first | exact hb | exact hb.drew⟩
   subst bH
   by_cases hx:nx=0
   case neg =>
    have qx:((nx:Int)==0)=false:=by rw[beq_eq_false_iff_ne];omega
    have bx:((nx:Int)=0)=False:=eq_false (by omega)
    by_cases Zs:nx=32
    case neg =>
     have qx2:((nx:Int)==32)=false:=by rw[beq_eq_false_iff_ne];omega
     have bx2:((nx:Int)=32)=False:=eq_false (by omega);have E:Hid (zp _ _ _ _ _ _ _=false):=(show zp 1 6 g ni nx nd nk=false by simp[zp,yC,hi,wS,wk,hx,Zs])
     clear hi wS wk hx Zs;go_wp2_with fail
     go_ret
     exact⟨by rw[E.out];rfl,by first | exact hb | exact hb.drew⟩
    subst Zs
    by_cases hd:nd=0
    case neg =>
     have qd:((nd:Int)==0)=false:=by rw[beq_eq_false_iff_ne];omega
     have bd:((nd:Int)=0)=False:=eq_false (by omega)
     by_cases yv:nd=32
     case neg =>
      have qd2:((nd:Int)==32)=false:=by rw[beq_eq_false_iff_ne];omega
      have bd2:((nd:Int)=32)=False:=eq_false (by omega);have E:Hid (zp _ _ _ _ _ _ _=false):=(show zp 1 6 g ni 32 nd nk=false by simp[zp,yC,hi,wS,wk,hd,yv])
      clear hi wS wk hd yv;go_wp2_with fail
      go_ret
      exact⟨by rw[E.out];rfl,by first | exact hb | exact hb.drew⟩
     subst yv;have K:IntKind.i64.wrap (((32:Nat):Int)+((32:Nat):Int))=((32:Nat):Int)+((32:Nat):Int):=IntWalk.i64_in _ (by omega)
     by_cases hk:nk=0
     case neg =>
      have qk:((nk:Int)==0)=false:=by rw[beq_eq_false_iff_ne];omega
      have bk:((nk:Int)=0)=False:=eq_false (by omega);have E:Hid (zp _ _ _ _ _ _ _=false):=(show zp 1 6 g ni 32 32 nk=false by simp[zp,yC,hi,wS,wk,hk])
      clear hi wS wk hk;go_wp2_with fail
      go_ret
      exact⟨by rw[E.out];rfl,by first | exact hb | exact hb.drew⟩
     subst hk;have E:Hid (zp _ _ _ _ _ _ _=true):=(show zp 1 6 g ni 32 32 0=true by simp[zp,yC,hi,wS,wk])
     clear hi wS wk;go_wp2_with fail
     go_ret
     exact⟨by rw[E.out];rfl,by first | exact hb | exact hb.drew⟩
    subst hd;have K:IntKind.i64.wrap (((32:Nat):Int)+((0:Nat):Int))=((32:Nat):Int)+((0:Nat):Int):=IntWalk.i64_in _ (by omega)
    by_cases hk:nk=0
    case neg =>
     have qk:((nk:Int)==0)=false:=by rw[beq_eq_false_iff_ne];omega
     have bk:((nk:Int)=0)=False:=eq_false (by omega);have E:Hid (zp _ _ _ _ _ _ _=false):=(show zp 1 6 g ni 32 0 nk=false by simp[zp,yC,hi,wS,wk,hk])
     clear hi wS wk hk;go_wp2_with fail
     go_ret
     exact⟨by rw[E.out];rfl,by first | exact hb | exact hb.drew⟩
    subst hk;have E:Hid (zp _ _ _ _ _ _ _=true):=(show zp 1 6 g ni 32 0 0=true by simp[zp,yC,hi,wS,wk])
    clear hi wS wk;go_wp2_with fail
    go_ret
    exact⟨by rw[E.out];rfl,by first | exact hb | exact hb.drew⟩
   subst hx
   by_cases hd:nd=0
   case neg =>
    have qd:((nd:Int)==0)=false:=by rw[beq_eq_false_iff_ne];omega
    have bd:((nd:Int)=0)=False:=eq_false (by omega)
    by_cases yv:nd=32
    case neg =>
     have qd2:((nd:Int)==32)=false:=by rw[beq_eq_false_iff_ne];omega
     have bd2:((nd:Int)=32)=False:=eq_false (by omega);have E:Hid (zp _ _ _ _ _ _ _=false):=(show zp 1 6 g ni 0 nd nk=false by simp[zp,yC,hi,wS,wk,hd,yv])
     clear hi wS wk hd yv;go_wp2_with fail
     go_ret
     exact⟨by rw[E.out];rfl,by first | exact hb | exact hb.drew⟩
    subst yv;have K:IntKind.i64.wrap (((0:Nat):Int)+((32:Nat):Int))=((0:Nat):Int)+((32:Nat):Int):=IntWalk.i64_in _ (by omega)
    by_cases hk:nk=0
    case neg =>
     have qk:((nk:Int)==0)=false:=by rw[beq_eq_false_iff_ne];omega
     have bk:((nk:Int)=0)=False:=eq_false (by omega);have E:Hid (zp _ _ _ _ _ _ _=false):=(show zp 1 6 g ni 0 32 nk=false by simp[zp,yC,hi,wS,wk,hk])
     clear hi wS wk hk;go_wp2_with fail
     go_ret
     exact⟨by rw[E.out];rfl,by first | exact hb | exact hb.drew⟩
    subst hk;have E:Hid (zp _ _ _ _ _ _ _=true):=(show zp 1 6 g ni 0 32 0=true by simp[zp,yC,hi,wS,wk])
    clear hi wS wk;go_wp2_with fail
    go_ret
    exact⟨by rw[E.out];rfl,by first | exact hb | exact hb.drew⟩
   subst hd;have K:IntKind.i64.wrap (((0:Nat):Int)+((0:Nat):Int))=((0:Nat):Int)+((0:Nat):Int):=IntWalk.i64_in _ (by omega);have E:Hid (zp _ _ _ _ _ _ _=false):=(show zp 1 6 g ni 0 0 nk=false by simp[zp,yC,hi,wS,wk])
   clear hi wS wk;go_wp2_with fail
   go_ret
   exact⟨by rw[E.out];rfl,by first | exact hb | exact hb.drew⟩
  subst hv
  by_cases hx:nx=0
  case neg =>
   have qx:((nx:Int)==0)=false:=by rw[beq_eq_false_iff_ne];omega
   have bx:((nx:Int)=0)=False:=eq_false (by omega)
   by_cases Zs:nx=32
   case neg =>
    have qx2:((nx:Int)==32)=false:=by rw[beq_eq_false_iff_ne];omega
    have bx2:((nx:Int)=32)=False:=eq_false (by omega);have E:Hid (zp _ _ _ _ _ _ _=false):=(show zp 1 4 g ni nx nd nk=false by simp[zp,yC,hi,wS,wk,hx,Zs])
    clear hi wS wk hx Zs;go_wp2_with fail
    go_ret
    exact⟨by rw[E.out];rfl,by first | exact hb | exact hb.drew⟩
   subst Zs
   by_cases hd:nd=0
   case neg =>
    have qd:((nd:Int)==0)=false:=by rw[beq_eq_false_iff_ne];omega
    have bd:((nd:Int)=0)=False:=eq_false (by omega)
    by_cases yv:nd=32
    case neg =>
     have qd2:((nd:Int)==32)=false:=by rw[beq_eq_false_iff_ne];omega
     have bd2:((nd:Int)=32)=False:=eq_false (by omega);have E:Hid (zp _ _ _ _ _ _ _=false):=(show zp 1 4 g ni 32 nd nk=false by simp[zp,yC,hi,wS,wk,hd,yv])
     clear hi wS wk hd yv;go_wp2_with fail
     go_ret
     exact⟨by rw[E.out];rfl,by first | exact hb | exact hb.drew⟩
    subst yv;have K:IntKind.i64.wrap (((32:Nat):Int)+((32:Nat):Int))=((32:Nat):Int)+((32:Nat):Int):=IntWalk.i64_in _ (by omega)
    by_cases hk:nk=0
    case neg =>
     have qk:((nk:Int)==0)=false:=by rw[beq_eq_false_iff_ne];omega
     have bk:((nk:Int)=0)=False:=eq_false (by omega);have E:Hid (zp _ _ _ _ _ _ _=false):=(show zp 1 4 g ni 32 32 nk=false by simp[zp,yC,hi,wS,wk,hk])
     clear hi wS wk hk;go_wp2_with fail
     go_ret
     exact⟨by rw[E.out];rfl,by first | exact hb | exact hb.drew⟩
    subst hk;have E:Hid (zp _ _ _ _ _ _ _=true):=(show zp 1 4 g ni 32 32 0=true by simp[zp,yC,hi,wS,wk])
    clear hi wS wk;go_wp2_with fail
    go_ret
    exact⟨by rw[E.out];rfl,by first | exact hb | exact hb.drew⟩
   subst hd;have K:IntKind.i64.wrap (((32:Nat):Int)+((0:Nat):Int))=((32:Nat):Int)+((0:Nat):Int):=IntWalk.i64_in _ (by omega)
   by_cases hk:nk=0
   case neg =>
    have qk:((nk:Int)==0)=false:=by rw[beq_eq_false_iff_ne];omega
    have bk:((nk:Int)=0)=False:=eq_false (by omega);have E:Hid (zp _ _ _ _ _ _ _=false):=(show zp 1 4 g ni 32 0 nk=false by simp[zp,yC,hi,wS,wk,hk])
    clear hi wS wk hk;go_wp2_with fail
    go_ret
    exact⟨by rw[E.out];rfl,by first | exact hb | exact hb.drew⟩
   subst hk;have E:Hid (zp _ _ _ _ _ _ _=true):=(show zp 1 4 g ni 32 0 0=true by simp[zp,yC,hi,wS,wk])
   clear hi wS wk;go_wp2_with fail
   go_ret
   exact⟨by rw[E.out];rfl,by first | exact hb | exact hb.drew⟩
  subst hx
  by_cases hd:nd=0
  case neg =>
   have qd:((nd:Int)==0)=false:=by rw[beq_eq_false_iff_ne];omega
   have bd:((nd:Int)=0)=False:=eq_false (by omega)
   by_cases yv:nd=32
   case neg =>
    have qd2:((nd:Int)==32)=false:=by rw[beq_eq_false_iff_ne];omega
    have bd2:((nd:Int)=32)=False:=eq_false (by omega);have E:Hid (zp _ _ _ _ _ _ _=false):=(show zp 1 4 g ni 0 nd nk=false by simp[zp,yC,hi,wS,wk,hd,yv])
    clear hi wS wk hd yv;go_wp2_with fail
    go_ret
    exact⟨by rw[E.out];rfl,by first | exact hb | exact hb.drew⟩
   subst yv;have K:IntKind.i64.wrap (((0:Nat):Int)+((32:Nat):Int))=((0:Nat):Int)+((32:Nat):Int):=IntWalk.i64_in _ (by omega)
   by_cases hk:nk=0
   case neg =>
    have qk:((nk:Int)==0)=false:=by rw[beq_eq_false_iff_ne];omega
    have bk:((nk:Int)=0)=False:=eq_false (by omega);have E:Hid (zp _ _ _ _ _ _ _=false):=(show zp 1 4 g ni 0 32 nk=false by simp[zp,yC,hi,wS,wk,hk])
    clear hi wS wk hk;go_wp2_with fail
    go_ret
    exact⟨by rw[E.out];rfl,by first | exact hb | exact hb.drew⟩
   subst hk;have E:Hid (zp _ _ _ _ _ _ _=true):=(show zp 1 4 g ni 0 32 0=true by simp[zp,yC,hi,wS,wk])
   clear hi wS wk;go_wp2_with fail
   go_ret
   exact⟨by rw[E.out];rfl,by first | exact hb | exact hb.drew⟩
  subst hd;have K:IntKind.i64.wrap (((0:Nat):Int)+((0:Nat):Int))=((0:Nat):Int)+((0:Nat):Int):=IntWalk.i64_in _ (by omega);have E:Hid (zp _ _ _ _ _ _ _=false):=(show zp 1 4 g ni 0 0 nk=false by simp[zp,yC,hi,wS,wk])
  clear hi wS wk;go_wp2_with fail
  go_ret
  exact⟨by rw[E.out];rfl,by first | exact hb | exact hb.drew⟩
end
theorem pQ {n:Nat}(h:yC n=true):n≤32:=by
 simp[yC]at h
 omega
section
variable (t v g:Int) (Ai:Option Addr) (ni ci:Nat) (Ax:Option Addr) (nx cx:Nat) (Ad:Option Addr) (nd cd:Nat) (Ak:Option Addr) (nk ck:Nat) (w:World)
theorem Ts (ht:t=1) (hr:ni≤16∧-65536≤g∧g≤65535):Calls Tryz.prog 48 #[.agg (wX t v g Ai ni ci Ax nx cx Ad nd cd Ak nk ck)] w fun e w'=>e=.returned (.bool (zp t v g ni nx nd nk))∧Below w.heap.size w w':=by
 have hB:=Blk.new w 33 (wX t v g Ai ni ci Ax nx cx Ad nd cd Ak nk ck);have hb:=zi w (.cells (wX t v g Ai ni ci Ax nx cx Ad nd cd Ak nk ck) 33);have c0:=hB.cell 0 rfl;have c1:=hB.cell 1 rfl;have c2:=hB.cell 2 rfl;have c3:=hB.cell 3 rfl;have c4:=hB.cell 4 rfl;have c5:=hB.cell 5 rfl;have c6:=hB.cell 6 rfl;subst ht;have hi:=hr.1;have wS:=hr.2.1;have wk:=hr.2.2;have qi:¬ (16<(ni:Int)):=by omega
 have bi:decide (16<(ni:Int))=false:=decide_eq_false qi;have qg1:¬ (g < -65536):=by omega
 have bg1:decide (g < -65536)=false:=decide_eq_false qg1;have qg2:¬ (65535<g):=by omega
 have bg2:decide (65535<g)=false:=decide_eq_false qg2;have Ly:=Hh hr;clear hr;have qv2:((4:Int)==6)=false:=rfl
 by_cases hv:v=4∨v=6
 case neg =>
  have TZ:¬ v=4:=fun h=>hv (.inl h)
  have TG:¬ v=6:=fun h=>hv (.inr h)
  have qv:(v==4)=false:=by rw[beq_eq_false_iff_ne];omega
  have bv:(v=4)=False:=eq_false TZ;have qw:(v==6)=false:=by rw[beq_eq_false_iff_ne];omega
  have bw:(v=6)=False:=eq_false TG;have E:Hid (zp _ _ _ _ _ _ _=false):=(show zp 1 v g ni nx nd nk=false by simp[zp,hi,wS,wk,TZ,TG])
  clear hi wS wk TZ TG;go_enter Tryz.func48,Tryz.ntmps48
  clear hv;go_wp2_with fail
  go_ret
  exact⟨by rw[E.out];rfl,hb⟩
 have HV:Hid ((decide (v=4)||decide (v=6))=true):=by rw[Hid,Bool.or_eq_true,decide_eq_true_eq,decide_eq_true_eq];exact hv
 by_cases TZ:v=4
 case pos =>
  subst TZ;clear hv HV
  cases sx:yC nx with
  | false =>
   have E:Hid (zp _ _ _ _ _ _ _=false):=(show zp 1 4 g ni nx nd nk=false by simp[zp,hi,wS,wk,sx])
   clear hi wS wk;go_enter Tryz.func48,Tryz.ntmps48
   go_wp2_with fail
   refine(xQ _ _ _ _).mono ?_
   rintro e w3 ⟨rfl,rfl⟩
   rw[sx];go_wp2_with fail
   go_ret
   exact⟨by rw[E.out];rfl,hb⟩
  | true =>
  cases sd:yC nd with
  | false =>
   have E:Hid (zp _ _ _ _ _ _ _=false):=(show zp 1 4 g ni nx nd nk=false by simp[zp,hi,wS,wk,sx,sd])
   clear hi wS wk;go_enter Tryz.func48,Tryz.ntmps48
   go_wp2_with fail
   refine(xQ _ _ _ _).mono ?_
   rintro e w3 ⟨rfl,rfl⟩
   rw[sx];go_wp2_with fail
   refine(xQ _ _ _ _).mono ?_
   rintro e w4 ⟨rfl,rfl⟩
   rw[sd];go_wp2_with fail
   go_ret
   exact⟨by rw[E.out];rfl,hb⟩
  | true =>
  have Zg:=pQ sx;have bB:=pQ sd;have K:IntKind.i64.wrap ((nx:Int)+(nd:Int))=(nx:Int)+(nd:Int):=IntWalk.i64_in _ (by omega)
  by_cases hs:0<nx+nd
  case neg =>
   obtain⟨rfl,rfl⟩:nx=0∧nd=0:=by omega
   have E:Hid (zp _ _ _ _ _ _ _=false):=(show zp 1 4 g ni 0 0 nk=false by simp[zp,hi,wS,wk])
   clear hi wS wk;go_enter Tryz.func48,Tryz.ntmps48
   go_wp2_with fail
   refine(xQ _ _ _ _).mono ?_
   rintro e w3 ⟨rfl,rfl⟩
   rw[sx];go_wp2_with fail
   refine(xQ _ _ _ _).mono ?_
   rintro e w4 ⟨rfl,rfl⟩
   rw[sd];go_wp2_with fail
   go_ret
   exact⟨by rw[E.out];rfl,hb⟩
  have Q9:(0:Int)<(nx:Int)+(nd:Int):=by omega
  have Lz:decide ((0:Int)<(nx:Int)+(nd:Int))=true:=decide_eq_true Q9;have M0:decide (0<nx+nd)=true:=decide_eq_true hs
  by_cases hk:nk=0
  case neg =>
   have qk:((nk:Int)==0)=false:=by rw[beq_eq_false_iff_ne];omega
   have bk:((nk:Int)=0)=False:=eq_false (by omega);have E:Hid (zp _ _ _ _ _ _ _=false):=(show zp 1 4 g ni nx nd nk=false by simp[zp,hi,wS,wk,hk])
   clear hi wS wk hk;go_enter Tryz.func48,Tryz.ntmps48
   clear Zg bB;go_wp2_with fail
   refine(xQ _ _ _ _).mono ?_
   rintro e w3 ⟨rfl,rfl⟩
   rw[sx];go_wp2_with fail
   refine(xQ _ _ _ _).mono ?_
   rintro e w4 ⟨rfl,rfl⟩
   rw[sd];go_wp2_with fail
   go_ret
   exact⟨by rw[E.out];rfl,hb⟩
  subst hk;have E:Hid (zp _ _ _ _ _ _ _=true):=(show zp 1 4 g ni nx nd 0=true by simp[zp,hi,wS,wk,sx,sd];exact hs)
  clear hi wS wk;go_enter Tryz.func48,Tryz.ntmps48
  clear Zg bB;go_wp2_with fail
  refine(xQ _ _ _ _).mono ?_
  rintro e w3 ⟨rfl,rfl⟩
  rw[sx];go_wp2_with fail
  refine(xQ _ _ _ _).mono ?_
  rintro e w4 ⟨rfl,rfl⟩
  rw[sd];go_wp2_with fail
  go_ret
  exact⟨by rw[E.out];rfl,hb⟩
 have TG:v=6:=by omega
 subst TG;clear hv HV TZ;have q64:((6:Int)==4)=false:=rfl
 cases sx:yC nx with
 | false =>
  have E:Hid (zp _ _ _ _ _ _ _=false):=(show zp 1 6 g ni nx nd nk=false by simp[zp,hi,wS,wk,sx])
  clear hi wS wk;go_enter Tryz.func48,Tryz.ntmps48
  go_wp2_with fail
  refine(xQ _ _ _ _).mono ?_
  rintro e w3 ⟨rfl,rfl⟩
  rw[sx];go_wp2_with fail
  go_ret
  exact⟨by rw[E.out];rfl,hb⟩
 | true =>
 cases sd:yC nd with
 | false =>
  have E:Hid (zp _ _ _ _ _ _ _=false):=(show zp 1 6 g ni nx nd nk=false by simp[zp,hi,wS,wk,sx,sd])
  clear hi wS wk;go_enter Tryz.func48,Tryz.ntmps48
  go_wp2_with fail
  refine(xQ _ _ _ _).mono ?_
  rintro e w3 ⟨rfl,rfl⟩
  rw[sx];go_wp2_with fail
  refine(xQ _ _ _ _).mono ?_
  rintro e w4 ⟨rfl,rfl⟩
  rw[sd];go_wp2_with fail
  go_ret
  exact⟨by rw[E.out];rfl,hb⟩
 | true =>
 have Zg:=pQ sx;have bB:=pQ sd;have K:IntKind.i64.wrap ((nx:Int)+(nd:Int))=(nx:Int)+(nd:Int):=IntWalk.i64_in _ (by omega)
 by_cases hs:0<nx+nd
 case neg =>
  obtain⟨rfl,rfl⟩:nx=0∧nd=0:=by omega
  have E:Hid (zp _ _ _ _ _ _ _=false):=(show zp 1 6 g ni 0 0 nk=false by simp[zp,hi,wS,wk])
  clear hi wS wk;go_enter Tryz.func48,Tryz.ntmps48
  go_wp2_with fail
  refine(xQ _ _ _ _).mono ?_
  rintro e w3 ⟨rfl,rfl⟩
  rw[sx];go_wp2_with fail
  refine(xQ _ _ _ _).mono ?_
  rintro e w4 ⟨rfl,rfl⟩
  rw[sd];go_wp2_with fail
  go_ret
  exact⟨by rw[E.out];rfl,hb⟩
 have Q9:(0:Int)<(nx:Int)+(nd:Int):=by omega
 have Lz:decide ((0:Int)<(nx:Int)+(nd:Int))=true:=decide_eq_true Q9;have M0:decide (0<nx+nd)=true:=decide_eq_true hs
 by_cases hk:nk=0
 case neg =>
  have qk:((nk:Int)==0)=false:=by rw[beq_eq_false_iff_ne];omega
  have bk:((nk:Int)=0)=False:=eq_false (by omega);have E:Hid (zp _ _ _ _ _ _ _=false):=(show zp 1 6 g ni nx nd nk=false by simp[zp,hi,wS,wk,hk])
  clear hi wS wk hk;go_enter Tryz.func48,Tryz.ntmps48
  clear Zg bB;go_wp2_with fail
  refine(xQ _ _ _ _).mono ?_
  rintro e w3 ⟨rfl,rfl⟩
  rw[sx];go_wp2_with fail
  refine(xQ _ _ _ _).mono ?_
  rintro e w4 ⟨rfl,rfl⟩
  rw[sd];go_wp2_with fail
  go_ret
  exact⟨by rw[E.out];rfl,hb⟩
 subst hk;have E:Hid (zp _ _ _ _ _ _ _=true):=(show zp 1 6 g ni nx nd 0=true by simp[zp,hi,wS,wk,sx,sd];exact hs)
 clear hi wS wk;go_enter Tryz.func48,Tryz.ntmps48
 clear Zg bB;go_wp2_with fail
 refine(xQ _ _ _ _).mono ?_
 rintro e w3 ⟨rfl,rfl⟩
 rw[sx];go_wp2_with fail
 refine(xQ _ _ _ _).mono ?_
 rintro e w4 ⟨rfl,rfl⟩
 rw[sd];go_wp2_with fail
 go_ret
 exact⟨by rw[E.out];rfl,hb⟩
theorem Tt (ht:t=4) (h2:nx≤9223372036854775807) (h3:nd≤9223372036854775807) (hr:ni≤16∧-65536≤g∧g≤65535):Calls Tryz.prog 48 #[.agg (wX t v g Ai ni ci Ax nx cx Ad nd cd Ak nk ck)] w fun e w'=>e=.returned (.bool (zp t v g ni nx nd nk))∧Below w.heap.size w w':=by
 have hB:=Blk.new w 33 (wX t v g Ai ni ci Ax nx cx Ad nd cd Ak nk ck);have hb:=zi w (.cells (wX t v g Ai ni ci Ax nx cx Ad nd cd Ak nk ck) 33);have c0:=hB.cell 0 rfl;have c1:=hB.cell 1 rfl;have c2:=hB.cell 2 rfl;have c3:=hB.cell 3 rfl;have c4:=hB.cell 4 rfl;have c5:=hB.cell 5 rfl;have c6:=hB.cell 6 rfl;subst ht;have Z1:=Hh (And.intro h2 h3);clear h2 h3;have hi:=hr.1;have wS:=hr.2.1;have wk:=hr.2.2;have qi:¬ (16<(ni:Int)):=by omega
 have bi:decide (16<(ni:Int))=false:=decide_eq_false qi;have qg1:¬ (g < -65536):=by omega
 have bg1:decide (g < -65536)=false:=decide_eq_false qg1;have qg2:¬ (65535<g):=by omega
 have bg2:decide (65535<g)=false:=decide_eq_false qg2;have Ly:=Hh hr;clear hr;have q41:((4:Int)==1)=false:=rfl
 by_cases hv:v=0
 case neg =>
  have qv:(v==0)=false:=by rw[beq_eq_false_iff_ne];omega
  have bv:(v=0)=False:=eq_false hv;have E:Hid (zp _ _ _ _ _ _ _=false):=(show zp 4 v g ni nx nd nk=false by simp[zp,hi,wS,wk,hv])
  clear hi wS wk hv;go_enter Tryz.func48,Tryz.ntmps48
  go_wp2_with fail
  go_ret
  exact⟨by rw[E.out];rfl,hb⟩
 subst hv
 by_cases hs:nx+nd=0
 case neg =>
  have as0:(IntKind.i64.wrap ((nx:Int)+(nd:Int))==0)=false:=by rw[beq_eq_false_iff_ne];exact pS Z1.out.1 Z1.out.2 hs
  have as1:(IntKind.i64.wrap ((nx:Int)+(nd:Int))=0)=False:=eq_false (pS Z1.out.1 Z1.out.2 hs);have as2:(wrap64 ((nx:Int)+(nd:Int))==0)=false:=by rw[beq_eq_false_iff_ne];exact rq Z1.out.1 Z1.out.2 hs
  have as3:(wrap64 ((nx:Int)+(nd:Int))=0)=False:=eq_false (rq Z1.out.1 Z1.out.2 hs);have E:Hid (zp _ _ _ _ _ _ _=false):=(show zp 4 0 g ni nx nd nk=false by simp[zp,hi,wS,wk,hs] <;> omega)
  clear hi wS wk hs;go_enter Tryz.func48,Tryz.ntmps48
  go_wp2_with fail
  go_ret
  exact⟨by rw[E.out];rfl,hb⟩
 obtain⟨rfl,rfl⟩:nx=0∧nd=0:=by omega
 have K:IntKind.i64.wrap (((0:Nat):Int)+((0:Nat):Int))=((0:Nat):Int)+((0:Nat):Int):=IntWalk.i64_in _ (by omega)
 by_cases tG:1≤nk
 case neg =>
  have qk1:¬ (0:Int)<(nk:Int):=by omega
  have bk1:decide ((0:Int)<(nk:Int))=false:=decide_eq_false qk1;have ck1:¬ (1:Int)≤(nk:Int):=by omega
  have dk1:decide ((1:Int)≤(nk:Int))=false:=decide_eq_false ck1;have E:Hid (zp _ _ _ _ _ _ _=false):=(show zp 4 0 g ni 0 0 nk=false by simp[zp,hi,wS,wk,tG])
  clear hi wS wk tG;go_enter Tryz.func48,Tryz.ntmps48
  go_wp2_with fail
  go_ret
  exact⟨by rw[E.out];rfl,hb⟩
 have qk1:(0:Int)<(nk:Int):=by omega
 have bk1:decide ((0:Int)<(nk:Int))=true:=decide_eq_true qk1;have ck1:(1:Int)≤(nk:Int):=by omega
 have dk1:decide ((1:Int)≤(nk:Int))=true:=decide_eq_true ck1
 by_cases sE:nk≤64
 case neg =>
  have rk2:¬ ((nk:Int)≤64):=by omega
  have sk2:decide ((nk:Int)≤64)=false:=decide_eq_false rk2;have E:Hid (zp _ _ _ _ _ _ _=false):=(show zp 4 0 g ni 0 0 nk=false by simp[zp,hi,wS,wk,tG,sE])
  clear hi wS wk tG sE;go_enter Tryz.func48,Tryz.ntmps48
  go_wp2_with fail
  go_ret
  exact⟨by rw[E.out];rfl,hb⟩
 have rk2:(nk:Int)≤64:=by omega
 have sk2:decide ((nk:Int)≤64)=true:=decide_eq_true rk2;have E:Hid (zp _ _ _ _ _ _ _=true):=(show zp 4 0 g ni 0 0 nk=true by simp[zp,hi,wS,wk,tG,sE])
 clear hi wS wk tG sE;go_enter Tryz.func48,Tryz.ntmps48
 go_wp2_with fail
 go_ret
 exact⟨by rw[E.out];rfl,hb⟩
theorem YV (ht:ni≤16∧-65536≤g∧g≤65535→¬ t=1∧¬ t=4):Calls Tryz.prog 48 #[.agg (wX t v g Ai ni ci Ax nx cx Ad nd cd Ak nk ck)] w fun e w'=>e=.returned (.bool (zp t v g ni nx nd nk))∧Below w.heap.size w w':=by
 have hB:=Blk.new w 33 (wX t v g Ai ni ci Ax nx cx Ad nd cd Ak nk ck);have hb:=zi w (.cells (wX t v g Ai ni ci Ax nx cx Ad nd cd Ak nk ck) 33);have c0:=hB.cell 0 rfl;have c1:=hB.cell 1 rfl;have c2:=hB.cell 2 rfl;have c3:=hB.cell 3 rfl;have c4:=hB.cell 4 rfl;have c5:=hB.cell 5 rfl;have c6:=hB.cell 6 rfl
 by_cases hi:ni≤16
 case neg =>
  have ri:¬ ((ni:Int)≤16):=by omega
  have si:decide ((ni:Int)≤16)=false:=decide_eq_false ri;have qi:16<(ni:Int):=by omega
  have bi:decide (16<(ni:Int))=true:=decide_eq_true qi;clear ht;have E:Hid (zp _ _ _ _ _ _ _=false):=(show zp t v g ni nx nd nk=false by simp[zp,hi])
  clear hi;go_enter Tryz.func48,Tryz.ntmps48
  go_wp2_with fail
  go_ret
  exact⟨by rw[E.out];rfl,hb⟩
 have qi:¬ (16<(ni:Int)):=by omega
 have bi:decide (16<(ni:Int))=false:=decide_eq_false qi
 by_cases wS : -65536≤g
 case neg =>
  have qg1:g < -65536:=by omega
  have bg1:decide (g < -65536)=true:=decide_eq_true qg1;clear ht;have E:Hid (zp _ _ _ _ _ _ _=false):=(show zp t v g ni nx nd nk=false by simp[zp,hi,wS])
  clear hi wS;go_enter Tryz.func48,Tryz.ntmps48
  go_wp2_with fail
  go_ret
  exact⟨by rw[E.out];rfl,hb⟩
 have qg1:¬ (g < -65536):=by omega
 have bg1:decide (g < -65536)=false:=decide_eq_false qg1
 by_cases wk:g≤65535
 case neg =>
  have qg2:65535<g:=by omega
  have bg2:decide (65535<g)=true:=decide_eq_true qg2;clear ht;have E:Hid (zp _ _ _ _ _ _ _=false):=(show zp t v g ni nx nd nk=false by simp[zp,hi,wS,wk])
  clear hi wS wk;go_enter Tryz.func48,Tryz.ntmps48
  go_wp2_with fail
  go_ret
  exact⟨by rw[E.out];rfl,hb⟩
 have qg2:¬ (65535<g):=by omega
 have bg2:decide (65535<g)=false:=decide_eq_false qg2;obtain⟨lV,ie⟩:=ht ⟨hi,wS,wk⟩;clear ht;have q1:(t==1)=false:=by rw[beq_eq_false_iff_ne];omega
 have b1:(t=1)=False:=eq_false lV;have q4:(t==4)=false:=by rw[beq_eq_false_iff_ne];omega
 have b4:(t=4)=False:=eq_false ie;have E:Hid (zp _ _ _ _ _ _ _=false):=(show zp t v g ni nx nd nk=false by simp[zp,hi,wS,wk,lV,ie])
 clear hi wS wk lV ie;go_enter Tryz.func48,Tryz.ntmps48
 go_wp2_with fail
 go_ret
 exact⟨by rw[E.out];rfl,hb⟩
theorem kC (h2:nx≤9223372036854775807) (h3:nd≤9223372036854775807) :
  Calls Tryz.prog 48 #[.agg (wX t v g Ai ni ci Ax nx cx Ad nd cd Ak nk ck)] w fun e w'=>e=.returned (.bool (zp t v g ni nx nd nk))∧Below w.heap.size w w':=by
 by_cases hr:ni≤16∧-65536≤g∧g≤65535
 ·by_cases h1:t=1
  ·exact Ts t v g Ai ni ci Ax nx cx Ad nd cd Ak nk ck w h1 hr
  ·by_cases h4:t=4
   ·exact Tt t v g Ai ni ci Ax nx cx Ad nd cd Ak nk ck w h4 h2 h3 hr
   ·exact YV t v g Ai ni ci Ax nx cx Ad nd cd Ak nk ck w (fun _=>⟨h1,h4⟩)
 ·exact YV t v g Ai ni ci Ax nx cx Ad nd cd Ak nk ck w (fun h=>absurd h hr)
end
end Go.Proofs.YtnlinmoiakgedaaGreatDoor
