/- squeezed. Walks: which keys are valid, by th -/
import Derived.Test.YtgaoknihklmakaaGreatDoorK00
import Derived.Deep.DeepCutAuto
import Derived.Deep.CutBlock
import Derived.Test.YtgaoknihklmakaaGreatDoorK03
import Derived.Test.YtgaoknihklmakaaGreatDoorK01
set_option linter.unusedVariables false
set_option linter.unusedSimpArgs false
set_option maxRecDepth 100000
set_option maxHeartbeats 12800000
namespace Go.Proofs.YtgaoknihklmakaaGreatDoor
open Go.RowKit
def sizedN (n : Nat) : Bool := decide (n = 0) || decide (n = 32)
def validN (t v g : Int) (ni nx nd nk : Nat) : Bool :=
 decide (ni ≤ 16) && decide (-65536 ≤ g) && decide (g ≤ 65535) &&
 (if t = 1 then (decide (v = 4) || decide (v = 6)) && sizedN nx && sizedN nd && decide (0 < nx + nd) && decide (nk = 0)
  else if t = 4 then decide (v = 0) && decide (nx + nd = 0) && decide (1 ≤ nk) && decide (nk ≤ 64) else false)
abbrev keyC (t v g : Int) (Ai : Option Addr) (ni ci : Nat) (Ax : Option Addr) (nx cx : Nat) (Ad : Option Addr) (nd cd : Nat) (Ak : Option Addr) (nk ck : Nat) : Array Value :=
 #[.int .i64 t, .int .i64 v, .int .i64 g, .slice Ai ni ci, .slice Ax nx cx, .slice Ad nd cd, .slice Ak nk ck]
theorem key_sized (A : Option Addr) (n c : Nat) (w : World) :
  Calls Tryz.prog 84 #[.slice A n c] w fun e w' => e = .returned (.bool (sizedN n)) ∧ w = w' := by
 by_cases h0 : n = 0
 ·subst h0;go_enter Tryz.func84, Tryz.ntmps84
  go_wp2_with fail
  go_ret
  exact ⟨rfl, rfl⟩
 ·have z0 : ((n : Int) == 0) = false := by rw [beq_eq_false_iff_ne]; omega
  have y0 : ((n : Int) = 0) = False := eq_false (by omega)
  have E : Hid (decide ((n : Int) = 32) = sizedN n) := by
   rw [Hid, sizedN, decide_eq_false h0, Bool.false_or, Bool.eq_iff_iff, decide_eq_true_eq, decide_eq_true_eq]; omega
  have E' : Hid (((n : Int) == 32) = sizedN n) := by
   rw [← E.out]; rfl
  go_enter Tryz.func84, Tryz.ntmps84
  go_wp2_with fail
  go_ret
  exact ⟨by first | (rw [← E.out]; rfl) | (rw [← E'.out]; rfl), rfl⟩
theorem wrap64_sum0 {a b : Nat} (ha : a ≤ 9223372036854775807) (hb : b ≤ 9223372036854775807) (h : ¬ a + b = 0) : ¬ wrap64 ((a : Int) + (b : Int)) = 0 := by
 unfold wrap64
 omega
theorem wrap_sum0 {a b : Nat} (ha : a ≤ 9223372036854775807) (hb : b ≤ 9223372036854775807) (h : ¬ a + b = 0) : ¬ IntKind.i64.wrap ((a : Int) + (b : Int)) = 0 := by
 rw [IntKind.wrap_i64]
 omega
section
variable (t v g : Int) (Ai : Option Addr) (ni ci : Nat) (Ax : Option Addr) (nx cx : Nat) (Ad : Option Addr) (nd cd : Nat) (Ak : Option Addr) (nk ck : Nat) (w : World)
theorem ref_ValidN (h2 : nx ≤ 9223372036854775807) (h3 : nd ≤ 9223372036854775807) :
  Calls Tryz.prog 37 #[.agg (keyC t v g Ai ni ci Ax nx cx Ad nd cd Ak nk ck)] w fun e w' => e = .returned (.bool (validN t v g ni nx nd nk)) ∧ Below w.heap.size w w' := by
 have hB := Blk.new w 60 (keyC t v g Ai ni ci Ax nx cx Ad nd cd Ak nk ck);have hb := below_box w (.cells (keyC t v g Ai ni ci Ax nx cx Ad nd cd Ak nk ck) 60);have c0 := hB.cell 0 rfl;have c1 := hB.cell 1 rfl;have c2 := hB.cell 2 rfl;have c3 := hB.cell 3 rfl;have c4 := hB.cell 4 rfl;have c5 := hB.cell 5 rfl;have c6 := hB.cell 6 rfl;have Z1 := Hh (And.intro h2 h3);clear h2 h3
 by_cases hi : ni ≤ 16
 case neg =>
  have ri : ¬ ((ni : Int) ≤ 16) := by omega
  have si : decide ((ni : Int) ≤ 16) = false := decide_eq_false ri;have qi : 16 < (ni : Int) := by omega
  have bi : decide (16 < (ni : Int)) = true := decide_eq_true qi;have E : Hid (validN _ _ _ _ _ _ _ = false) := (show validN t v g ni nx nd nk = false by simp [validN, sizedN, hi])
  clear hi;go_enter Tryz.func37, Tryz.ntmps37
  go_wp2_with fail
  go_ret
  exact ⟨by rw [E.out]; rfl, by first | exact hb | exact hb.drew⟩
 have qi : ¬ (16 < (ni : Int)) := by omega
 have bi : decide (16 < (ni : Int)) = false := decide_eq_false qi
 by_cases hg1 : -65536 ≤ g
 case neg =>
  have qg1 : g < -65536 := by omega
  have bg1 : decide (g < -65536) = true := decide_eq_true qg1;have E : Hid (validN _ _ _ _ _ _ _ = false) := (show validN t v g ni nx nd nk = false by simp [validN, sizedN, hi, hg1])
  clear hi hg1;go_enter Tryz.func37, Tryz.ntmps37
  go_wp2_with fail
  go_ret
  exact ⟨by rw [E.out]; rfl, by first | exact hb | exact hb.drew⟩
 have qg1 : ¬ (g < -65536) := by omega
 have bg1 : decide (g < -65536) = false := decide_eq_false qg1
 by_cases hg2 : g ≤ 65535
 case neg =>
  have rg2 : ¬ (g ≤ 65535) := by omega
  have sg2 : decide (g ≤ 65535) = false := decide_eq_false rg2;have qg2 : 65535 < g := by omega
  have bg2 : decide (65535 < g) = true := decide_eq_true qg2;have E : Hid (validN _ _ _ _ _ _ _ = false) := (show validN t v g ni nx nd nk = false by simp [validN, sizedN, hi, hg1, hg2])
  clear hi hg1 hg2;go_enter Tryz.func37, Tryz.ntmps37
  go_wp2_with fail
  go_ret
  exact ⟨by rw [E.out]; rfl, by first | exact hb | exact hb.drew⟩
 have qg2 : ¬ (65535 < g) := by omega
 have bg2 : decide (65535 < g) = false := decide_eq_false qg2;go_enter Tryz.func37, Tryz.ntmps37
 go_upto_region 3 with fail
 go_cut [3, 4] (fun s3 s4 wx => s3 = .int .i64 (nx : Int) ∧ s4 = .int .i64 (nd : Int) ∧ Below w.heap.size w wx ∧ Blk wx w.heap.size 60 #[.int .i64 t, .int .i64 v, .int .i64 g, .slice Ai ni ci, .slice Ax nx cx, .slice Ad nd cd, .slice Ak nk ck])
 case first =>
  refine wp_region_ways 7 (fun wx => wx.cell? ⟨w.heap.size, 4, none⟩ = some (.slice Ax nx cx) ∧ wx.cell? ⟨w.heap.size, 5, none⟩ = some (.slice Ad nd cd)) (by kernel_rfl) (⟨c4, c5⟩) (fun hHeld => ?_)
  refine Tk 0 rfl hHeld ?_
  refine Tk 1 rfl hHeld ?_
  refine Tk 2 rfl hHeld ?_
  refine Tk 3 rfl hHeld ?_
  refine Tk 4 rfl hHeld ?_
  refine Tk 5 rfl hHeld ?_
  refine Tk 6 rfl hHeld ?_
  refine To 7 rfl fun K hK => ?_
  go_simp
  refine Kz hK ?_
  clear hK K
  refine Wd ?_
  go_wp2_with fail
  go_meet
  exact ⟨rfl, rfl, hb.drew, hB.drew⟩
 case rest =>
  clear hb hB c0 c1 c2 c3 c4 c5 c6;obtain ⟨rfl, rfl, hb, hB⟩ := hcut;have c0 := hB.cell 0 rfl;have c1 := hB.cell 1 rfl;have c6 := hB.cell 6 rfl
  by_cases ht : t = 1
  case neg =>
   have qt : (t == 1) = false := by rw [beq_eq_false_iff_ne]; omega
   have bt : (t = 1) = False := eq_false (by omega)
   by_cases ht4 : t = 4
   case neg =>
    have qt4 : (t == 4) = false := by rw [beq_eq_false_iff_ne]; omega
    have bt4 : (t = 4) = False := eq_false (by omega);have E : Hid (validN _ _ _ _ _ _ _ = false) := (show validN t v g ni nx nd nk = false by simp [validN, sizedN, hi, hg1, hg2, ht, ht4])
    clear hi hg1 hg2 ht ht4;go_wp2_with fail
    go_ret
    exact ⟨by rw [E.out]; rfl, by first | exact hb | exact hb.drew⟩
   subst ht4
   by_cases hw : v = 0
   case neg =>
    have qw : (v == 0) = false := by rw [beq_eq_false_iff_ne]; omega
    have bw : (v = 0) = False := eq_false (by omega);have E : Hid (validN _ _ _ _ _ _ _ = false) := (show validN 4 v g ni nx nd nk = false by simp [validN, sizedN, hi, hg1, hg2, hw])
    clear hi hg1 hg2 hw;go_wp2_with fail
    go_ret
    exact ⟨by rw [E.out]; rfl, by first | exact hb | exact hb.drew⟩
   subst hw
   by_cases hs : nx + nd = 0
   case neg =>
    have as0 : (IntKind.i64.wrap ((nx : Int) + (nd : Int)) == 0) = false := by rw [beq_eq_false_iff_ne]; exact wrap_sum0 Z1.out.1 Z1.out.2 hs
    have as1 : (IntKind.i64.wrap ((nx : Int) + (nd : Int)) = 0) = False := eq_false (wrap_sum0 Z1.out.1 Z1.out.2 hs);have as2 : (wrap64 ((nx : Int) + (nd : Int)) == 0) = false := by rw [beq_eq_false_iff_ne]; exact wrap64_sum0 Z1.out.1 Z1.out.2 hs
    have as3 : (wrap64 ((nx : Int) + (nd : Int)) = 0) = False := eq_false (wrap64_sum0 Z1.out.1 Z1.out.2 hs);have E : Hid (validN _ _ _ _ _ _ _ = false) := (show validN 4 0 g ni nx nd nk = false by simp [validN, sizedN, hi, hg1, hg2, hs] <;> omega)
    clear hi hg1 hg2 hs;go_wp2_with fail
    go_ret
    exact ⟨by rw [E.out]; rfl, by first | exact hb | exact hb.drew⟩
   obtain ⟨rfl, rfl⟩ : nx = 0 ∧ nd = 0 := by omega
   have K : IntKind.i64.wrap (((0 : Nat) : Int) + ((0 : Nat) : Int)) = ((0 : Nat) : Int) + ((0 : Nat) : Int) := IntWalk.i64_in _ (by omega)
   by_cases hk1 : 1 ≤ nk
   case neg =>
    have qk1 : ¬ (0 : Int) < (nk : Int) := by omega
    have bk1 : decide ((0 : Int) < (nk : Int)) = false := decide_eq_false qk1;have ck1 : ¬ (1 : Int) ≤ (nk : Int) := by omega
    have dk1 : decide ((1 : Int) ≤ (nk : Int)) = false := decide_eq_false ck1;have E : Hid (validN _ _ _ _ _ _ _ = false) := (show validN 4 0 g ni 0 0 nk = false by simp [validN, sizedN, hi, hg1, hg2, hk1])
    clear hi hg1 hg2 hk1;go_wp2_with fail
    go_ret
    exact ⟨by rw [E.out]; rfl, by first | exact hb | exact hb.drew⟩
   have qk1 : (0 : Int) < (nk : Int) := by omega
   have bk1 : decide ((0 : Int) < (nk : Int)) = true := decide_eq_true qk1;have ck1 : (1 : Int) ≤ (nk : Int) := by omega
   have dk1 : decide ((1 : Int) ≤ (nk : Int)) = true := decide_eq_true ck1
   by_cases hk2 : nk ≤ 64
   case neg =>
    have rk2 : ¬ ((nk : Int) ≤ 64) := by omega
    have sk2 : decide ((nk : Int) ≤ 64) = false := decide_eq_false rk2;have qk2 : 64 < (nk : Int) := by omega
    have bk2 : decide (64 < (nk : Int)) = true := decide_eq_true qk2;have E : Hid (validN _ _ _ _ _ _ _ = false) := (show validN 4 0 g ni 0 0 nk = false by simp [validN, sizedN, hi, hg1, hg2, hk1, hk2])
    clear hi hg1 hg2 hk1 hk2;go_wp2_with fail
    go_ret
    exact ⟨by rw [E.out]; rfl, by first | exact hb | exact hb.drew⟩
   have qk2 : ¬ (64 < (nk : Int)) := by omega
   have bk2 : decide (64 < (nk : Int)) = false := decide_eq_false qk2;have E : Hid (validN _ _ _ _ _ _ _ = true) := (show validN 4 0 g ni 0 0 nk = true by simp [validN, sizedN, hi, hg1, hg2, hk1, hk2])
   clear hi hg1 hg2 hk1 hk2;go_wp2_with fail
   go_ret
   exact ⟨by rw [E.out]; rfl, by first | exact hb | exact hb.drew⟩
  subst ht
  by_cases hv : v = 4
  case neg =>
   have qv : (v == 4) = false := by rw [beq_eq_false_iff_ne]; omega
   have bv : (v = 4) = False := eq_false (by omega)
   by_cases hv2 : v = 6
   case neg =>
    have qv2 : (v == 6) = false := by rw [beq_eq_false_iff_ne]; omega
    have bv2 : (v = 6) = False := eq_false (by omega);have E : Hid (validN _ _ _ _ _ _ _ = false) := (show validN 1 v g ni nx nd nk = false by simp [validN, sizedN, hi, hg1, hg2, hv, hv2])
    clear hi hg1 hg2 hv hv2;go_wp2_with fail
    go_ret
    exact ⟨by rw [E.out]; rfl, by first | exact hb | exact hb.drew⟩
   subst hv2
   by_cases hx : nx = 0
   case neg =>
    have qx : ((nx : Int) == 0) = false := by rw [beq_eq_false_iff_ne]; omega
    have bx : ((nx : Int) = 0) = False := eq_false (by omega)
    by_cases hx2 : nx = 32
    case neg =>
     have qx2 : ((nx : Int) == 32) = false := by rw [beq_eq_false_iff_ne]; omega
     have bx2 : ((nx : Int) = 32) = False := eq_false (by omega);have E : Hid (validN _ _ _ _ _ _ _ = false) := (show validN 1 6 g ni nx nd nk = false by simp [validN, sizedN, hi, hg1, hg2, hx, hx2])
     clear hi hg1 hg2 hx hx2;go_wp2_with fail
     go_ret
     exact ⟨by rw [E.out]; rfl, by first | exact hb | exact hb.drew⟩
    subst hx2
    by_cases hd : nd = 0
    case neg =>
     have qd : ((nd : Int) == 0) = false := by rw [beq_eq_false_iff_ne]; omega
     have bd : ((nd : Int) = 0) = False := eq_false (by omega)
     by_cases hd2 : nd = 32
     case neg =>
      have qd2 : ((nd : Int) == 32) = false := by rw [beq_eq_false_iff_ne]; omega
      have bd2 : ((nd : Int) = 32) = False := eq_false (by omega);have E : Hid (validN _ _ _ _ _ _ _ = false) := (show validN 1 6 g ni 32 nd nk = false by simp [validN, sizedN, hi, hg1, hg2, hd, hd2])
      clear hi hg1 hg2 hd hd2;go_wp2_with fail
      go_ret
      exact ⟨by rw [E.out]; rfl, by first | exact hb | exact hb.drew⟩
     subst hd2;have K : IntKind.i64.wrap (((32 : Nat) : Int) + ((32 : Nat) : Int)) = ((32 : Nat) : Int) + ((32 : Nat) : Int) := IntWalk.i64_in _ (by omega)
     by_cases hk : nk = 0
     case neg =>
      have qk : ((nk : Int) == 0) = false := by rw [beq_eq_false_iff_ne]; omega
      have bk : ((nk : Int) = 0) = False := eq_false (by omega);have E : Hid (validN _ _ _ _ _ _ _ = false) := (show validN 1 6 g ni 32 32 nk = false by simp [validN, sizedN, hi, hg1, hg2, hk])
      clear hi hg1 hg2 hk;go_wp2_with fail
      go_ret
      exact ⟨by rw [E.out]; rfl, by first | exact hb | exact hb.drew⟩
     subst hk;have E : Hid (validN _ _ _ _ _ _ _ = true) := (show validN 1 6 g ni 32 32 0 = true by simp [validN, sizedN, hi, hg1, hg2])
     clear hi hg1 hg2;go_wp2_with fail
     go_ret
     exact ⟨by rw [E.out]; rfl, by first | exact hb | exact hb.drew⟩
    subst hd;have K : IntKind.i64.wrap (((32 : Nat) : Int) + ((0 : Nat) : Int)) = ((32 : Nat) : Int) + ((0 : Nat) : Int) := IntWalk.i64_in _ (by omega)
    by_cases hk : nk = 0
    case neg =>
     have qk : ((nk : Int) == 0) = false := by rw [beq_eq_false_iff_ne]; omega
     have bk : ((nk : Int) = 0) = False := eq_false (by omega);have E : Hid (validN _ _ _ _ _ _ _ = false) := (show validN 1 6 g ni 32 0 nk = false by simp [validN, sizedN, hi, hg1, hg2, hk])
     clear hi hg1 hg2 hk;go_wp2_with fail
     go_ret
     exact ⟨by rw [E.out]; rfl, by first | exact hb | exact hb.drew⟩
    subst hk;have E : Hid (validN _ _ _ _ _ _ _ = true) := (show validN 1 6 g ni 32 0 0 = true by simp [validN, sizedN, hi, hg1, hg2])
    clear hi hg1 hg2;go_wp2_with fail
    go_ret
    exact ⟨by rw [E.out]; rfl, by first | exact hb | exact hb.drew⟩
   subst hx
   by_cases hd : nd = 0
   case neg =>
    have qd : ((nd : Int) == 0) = false := by rw [beq_eq_false_iff_ne]; omega
    have bd : ((nd : Int) = 0) = False := eq_false (by omega)
    by_cases hd2 : nd = 32
    case neg =>
     have qd2 : ((nd : Int) == 32) = false := by rw [beq_eq_false_iff_ne]; omega
     have bd2 : ((nd : Int) = 32) = False := eq_false (by omega);have E : Hid (validN _ _ _ _ _ _ _ = false) := (show validN 1 6 g ni 0 nd nk = false by simp [validN, sizedN, hi, hg1, hg2, hd, hd2])
     clear hi hg1 hg2 hd hd2;go_wp2_with fail
     go_ret
     exact ⟨by rw [E.out]; rfl, by first | exact hb | exact hb.drew⟩
    subst hd2;have K : IntKind.i64.wrap (((0 : Nat) : Int) + ((32 : Nat) : Int)) = ((0 : Nat) : Int) + ((32 : Nat) : Int) := IntWalk.i64_in _ (by omega)
    by_cases hk : nk = 0
    case neg =>
     have qk : ((nk : Int) == 0) = false := by rw [beq_eq_false_iff_ne]; omega
     have bk : ((nk : Int) = 0) = False := eq_false (by omega);have E : Hid (validN _ _ _ _ _ _ _ = false) := (show validN 1 6 g ni 0 32 nk = false by simp [validN, sizedN, hi, hg1, hg2, hk])
     clear hi hg1 hg2 hk;go_wp2_with fail
     go_ret
     exact ⟨by rw [E.out]; rfl, by first | exact hb | exact hb.drew⟩
    subst hk;have E : Hid (validN _ _ _ _ _ _ _ = true) := (show validN 1 6 g ni 0 32 0 = true by simp [validN, sizedN, hi, hg1, hg2])
    clear hi hg1 hg2;go_wp2_with fail
    go_ret
    exact ⟨by rw [E.out]; rfl, by first | exact hb | exact hb.drew⟩
   subst hd;have K : IntKind.i64.wrap (((0 : Nat) : Int) + ((0 : Nat) : Int)) = ((0 : Nat) : Int) + ((0 : Nat) : Int) := IntWalk.i64_in _ (by omega);have E : Hid (validN _ _ _ _ _ _ _ = false) := (show validN 1 6 g ni 0 0 nk = false by simp [validN, sizedN, hi, hg1, hg2])
   clear hi hg1 hg2;go_wp2_with fail
   go_ret
   exact ⟨by rw [E.out]; rfl, by first | exact hb | exact hb.drew⟩
  subst hv
  by_cases hx : nx = 0
  case neg =>
   have qx : ((nx : Int) == 0) = false := by rw [beq_eq_false_iff_ne]; omega
   have bx : ((nx : Int) = 0) = False := eq_false (by omega)
   by_cases hx2 : nx = 32
   case neg =>
    have qx2 : ((nx : Int) == 32) = false := by rw [beq_eq_false_iff_ne]; omega
    have bx2 : ((nx : Int) = 32) = False := eq_false (by omega);have E : Hid (validN _ _ _ _ _ _ _ = false) := (show validN 1 4 g ni nx nd nk = false by simp [validN, sizedN, hi, hg1, hg2, hx, hx2])
    clear hi hg1 hg2 hx hx2;go_wp2_with fail
    go_ret
    exact ⟨by rw [E.out]; rfl, by first | exact hb | exact hb.drew⟩
   subst hx2
   by_cases hd : nd = 0
   case neg =>
    have qd : ((nd : Int) == 0) = false := by rw [beq_eq_false_iff_ne]; omega
    have bd : ((nd : Int) = 0) = False := eq_false (by omega)
    by_cases hd2 : nd = 32
    case neg =>
     have qd2 : ((nd : Int) == 32) = false := by rw [beq_eq_false_iff_ne]; omega
     have bd2 : ((nd : Int) = 32) = False := eq_false (by omega);have E : Hid (validN _ _ _ _ _ _ _ = false) := (show validN 1 4 g ni 32 nd nk = false by simp [validN, sizedN, hi, hg1, hg2, hd, hd2])
     clear hi hg1 hg2 hd hd2;go_wp2_with fail
     go_ret
     exact ⟨by rw [E.out]; rfl, by first | exact hb | exact hb.drew⟩
    subst hd2;have K : IntKind.i64.wrap (((32 : Nat) : Int) + ((32 : Nat) : Int)) = ((32 : Nat) : Int) + ((32 : Nat) : Int) := IntWalk.i64_in _ (by omega)
    by_cases hk : nk = 0
    case neg =>
     have qk : ((nk : Int) == 0) = false := by rw [beq_eq_false_iff_ne]; omega
     have bk : ((nk : Int) = 0) = False := eq_false (by omega);have E : Hid (validN _ _ _ _ _ _ _ = false) := (show validN 1 4 g ni 32 32 nk = false by simp [validN, sizedN, hi, hg1, hg2, hk])
     clear hi hg1 hg2 hk;go_wp2_with fail
     go_ret
     exact ⟨by rw [E.out]; rfl, by first | exact hb | exact hb.drew⟩
    subst hk;have E : Hid (validN _ _ _ _ _ _ _ = true) := (show validN 1 4 g ni 32 32 0 = true by simp [validN, sizedN, hi, hg1, hg2])
    clear hi hg1 hg2;go_wp2_with fail
    go_ret
    exact ⟨by rw [E.out]; rfl, by first | exact hb | exact hb.drew⟩
   subst hd;have K : IntKind.i64.wrap (((32 : Nat) : Int) + ((0 : Nat) : Int)) = ((32 : Nat) : Int) + ((0 : Nat) : Int) := IntWalk.i64_in _ (by omega)
   by_cases hk : nk = 0
   case neg =>
    have qk : ((nk : Int) == 0) = false := by rw [beq_eq_false_iff_ne]; omega
    have bk : ((nk : Int) = 0) = False := eq_false (by omega);have E : Hid (validN _ _ _ _ _ _ _ = false) := (show validN 1 4 g ni 32 0 nk = false by simp [validN, sizedN, hi, hg1, hg2, hk])
    clear hi hg1 hg2 hk;go_wp2_with fail
    go_ret
    exact ⟨by rw [E.out]; rfl, by first | exact hb | exact hb.drew⟩
   subst hk;have E : Hid (validN _ _ _ _ _ _ _ = true) := (show validN 1 4 g ni 32 0 0 = true by simp [validN, sizedN, hi, hg1, hg2])
   clear hi hg1 hg2;go_wp2_with fail
   go_ret
   exact ⟨by rw [E.out]; rfl, by first | exact hb | exact hb.drew⟩
  subst hx
  by_cases hd : nd = 0
  case neg =>
   have qd : ((nd : Int) == 0) = false := by rw [beq_eq_false_iff_ne]; omega
   have bd : ((nd : Int) = 0) = False := eq_false (by omega)
   by_cases hd2 : nd = 32
   case neg =>
    have qd2 : ((nd : Int) == 32) = false := by rw [beq_eq_false_iff_ne]; omega
    have bd2 : ((nd : Int) = 32) = False := eq_false (by omega);have E : Hid (validN _ _ _ _ _ _ _ = false) := (show validN 1 4 g ni 0 nd nk = false by simp [validN, sizedN, hi, hg1, hg2, hd, hd2])
    clear hi hg1 hg2 hd hd2;go_wp2_with fail
    go_ret
    exact ⟨by rw [E.out]; rfl, by first | exact hb | exact hb.drew⟩
   subst hd2;have K : IntKind.i64.wrap (((0 : Nat) : Int) + ((32 : Nat) : Int)) = ((0 : Nat) : Int) + ((32 : Nat) : Int) := IntWalk.i64_in _ (by omega)
   by_cases hk : nk = 0
   case neg =>
    have qk : ((nk : Int) == 0) = false := by rw [beq_eq_false_iff_ne]; omega
    have bk : ((nk : Int) = 0) = False := eq_false (by omega);have E : Hid (validN _ _ _ _ _ _ _ = false) := (show validN 1 4 g ni 0 32 nk = false by simp [validN, sizedN, hi, hg1, hg2, hk])
    clear hi hg1 hg2 hk;go_wp2_with fail
    go_ret
    exact ⟨by rw [E.out]; rfl, by first | exact hb | exact hb.drew⟩
   subst hk;have E : Hid (validN _ _ _ _ _ _ _ = true) := (show validN 1 4 g ni 0 32 0 = true by simp [validN, sizedN, hi, hg1, hg2])
   clear hi hg1 hg2;go_wp2_with fail
   go_ret
   exact ⟨by rw [E.out]; rfl, by first | exact hb | exact hb.drew⟩
  subst hd;have K : IntKind.i64.wrap (((0 : Nat) : Int) + ((0 : Nat) : Int)) = ((0 : Nat) : Int) + ((0 : Nat) : Int) := IntWalk.i64_in _ (by omega);have E : Hid (validN _ _ _ _ _ _ _ = false) := (show validN 1 4 g ni 0 0 nk = false by simp [validN, sizedN, hi, hg1, hg2])
  clear hi hg1 hg2;go_wp2_with fail
  go_ret
  exact ⟨by rw [E.out]; rfl, by first | exact hb | exact hb.drew⟩
end
theorem sizedN_le {n : Nat} (h : sizedN n = true) : n ≤ 32 := by
 simp [sizedN] at h
 omega
section
variable (t v g : Int) (Ai : Option Addr) (ni ci : Nat) (Ax : Option Addr) (nx cx : Nat) (Ad : Option Addr) (nd cd : Nat) (Ak : Option Addr) (nk ck : Nat) (w : World)
theorem key_V1 (ht : t = 1) (hr : ni ≤ 16 ∧ -65536 ≤ g ∧ g ≤ 65535) : Calls Tryz.prog 68 #[.agg (keyC t v g Ai ni ci Ax nx cx Ad nd cd Ak nk ck)] w fun e w' => e = .returned (.bool (validN t v g ni nx nd nk)) ∧ Below w.heap.size w w' := by
 have hB := Blk.new w 60 (keyC t v g Ai ni ci Ax nx cx Ad nd cd Ak nk ck);have hb := below_box w (.cells (keyC t v g Ai ni ci Ax nx cx Ad nd cd Ak nk ck) 60);have c0 := hB.cell 0 rfl;have c1 := hB.cell 1 rfl;have c2 := hB.cell 2 rfl;have c3 := hB.cell 3 rfl;have c4 := hB.cell 4 rfl;have c5 := hB.cell 5 rfl;have c6 := hB.cell 6 rfl;subst ht;have hi := hr.1;have hg1 := hr.2.1;have hg2 := hr.2.2;have qi : ¬ (16 < (ni : Int)) := by omega
 have bi : decide (16 < (ni : Int)) = false := decide_eq_false qi;have qg1 : ¬ (g < -65536) := by omega
 have bg1 : decide (g < -65536) = false := decide_eq_false qg1;have qg2 : ¬ (65535 < g) := by omega
 have bg2 : decide (65535 < g) = false := decide_eq_false qg2;have hr9 := Hh hr;clear hr;have qv2 : ((4 : Int) == 6) = false := rfl
 by_cases hv : v = 4 ∨ v = 6
 case neg =>
  have hv4 : ¬ v = 4 := fun h => hv (.inl h)
  have hv6 : ¬ v = 6 := fun h => hv (.inr h)
  have qv : (v == 4) = false := by rw [beq_eq_false_iff_ne]; omega
  have bv : (v = 4) = False := eq_false hv4;have qw : (v == 6) = false := by rw [beq_eq_false_iff_ne]; omega
  have bw : (v = 6) = False := eq_false hv6;have E : Hid (validN _ _ _ _ _ _ _ = false) := (show validN 1 v g ni nx nd nk = false by simp [validN, hi, hg1, hg2, hv4, hv6])
  clear hi hg1 hg2 hv4 hv6;go_enter Tryz.func68, Tryz.ntmps68
  clear hv;go_wp2_with fail
  go_ret
  exact ⟨by rw [E.out]; rfl, hb⟩
 have HV : Hid ((decide (v = 4) || decide (v = 6)) = true) := by rw [Hid, Bool.or_eq_true, decide_eq_true_eq, decide_eq_true_eq]; exact hv
 by_cases hv4 : v = 4
 case pos =>
  subst hv4;clear hv HV
  cases sx : sizedN nx with
  | false =>
   have E : Hid (validN _ _ _ _ _ _ _ = false) := (show validN 1 4 g ni nx nd nk = false by simp [validN, hi, hg1, hg2, sx])
   clear hi hg1 hg2;go_enter Tryz.func68, Tryz.ntmps68
   go_wp2_with fail
   refine (key_sized _ _ _ _).mono ?_
   rintro e w3 ⟨rfl, rfl⟩
   rw [sx];go_wp2_with fail
   go_ret
   exact ⟨by rw [E.out]; rfl, hb⟩
  | true =>
  cases sd : sizedN nd with
  | false =>
   have E : Hid (validN _ _ _ _ _ _ _ = false) := (show validN 1 4 g ni nx nd nk = false by simp [validN, hi, hg1, hg2, sx, sd])
   clear hi hg1 hg2;go_enter Tryz.func68, Tryz.ntmps68
   go_wp2_with fail
   refine (key_sized _ _ _ _).mono ?_
   rintro e w3 ⟨rfl, rfl⟩
   rw [sx];go_wp2_with fail
   refine (key_sized _ _ _ _).mono ?_
   rintro e w4 ⟨rfl, rfl⟩
   rw [sd];go_wp2_with fail
   go_ret
   exact ⟨by rw [E.out]; rfl, hb⟩
  | true =>
  have hxl := sizedN_le sx;have hdl := sizedN_le sd;have K : IntKind.i64.wrap ((nx : Int) + (nd : Int)) = (nx : Int) + (nd : Int) := IntWalk.i64_in _ (by omega)
  by_cases hs : 0 < nx + nd
  case neg =>
   obtain ⟨rfl, rfl⟩ : nx = 0 ∧ nd = 0 := by omega
   have E : Hid (validN _ _ _ _ _ _ _ = false) := (show validN 1 4 g ni 0 0 nk = false by simp [validN, hi, hg1, hg2])
   clear hi hg1 hg2;go_enter Tryz.func68, Tryz.ntmps68
   go_wp2_with fail
   refine (key_sized _ _ _ _).mono ?_
   rintro e w3 ⟨rfl, rfl⟩
   rw [sx];go_wp2_with fail
   refine (key_sized _ _ _ _).mono ?_
   rintro e w4 ⟨rfl, rfl⟩
   rw [sd];go_wp2_with fail
   go_ret
   exact ⟨by rw [E.out]; rfl, hb⟩
  have hsI : (0 : Int) < (nx : Int) + (nd : Int) := by omega
  have hsD : decide ((0 : Int) < (nx : Int) + (nd : Int)) = true := decide_eq_true hsI;have hsN : decide (0 < nx + nd) = true := decide_eq_true hs
  by_cases hk : nk = 0
  case neg =>
   have qk : ((nk : Int) == 0) = false := by rw [beq_eq_false_iff_ne]; omega
   have bk : ((nk : Int) = 0) = False := eq_false (by omega);have E : Hid (validN _ _ _ _ _ _ _ = false) := (show validN 1 4 g ni nx nd nk = false by simp [validN, hi, hg1, hg2, hk])
   clear hi hg1 hg2 hk;go_enter Tryz.func68, Tryz.ntmps68
   clear hxl hdl;go_wp2_with fail
   refine (key_sized _ _ _ _).mono ?_
   rintro e w3 ⟨rfl, rfl⟩
   rw [sx];go_wp2_with fail
   refine (key_sized _ _ _ _).mono ?_
   rintro e w4 ⟨rfl, rfl⟩
   rw [sd];go_wp2_with fail
   go_ret
   exact ⟨by rw [E.out]; rfl, hb⟩
  subst hk;have E : Hid (validN _ _ _ _ _ _ _ = true) := (show validN 1 4 g ni nx nd 0 = true by simp [validN, hi, hg1, hg2, sx, sd]; exact hs)
  clear hi hg1 hg2;go_enter Tryz.func68, Tryz.ntmps68
  clear hxl hdl;go_wp2_with fail
  refine (key_sized _ _ _ _).mono ?_
  rintro e w3 ⟨rfl, rfl⟩
  rw [sx];go_wp2_with fail
  refine (key_sized _ _ _ _).mono ?_
  rintro e w4 ⟨rfl, rfl⟩
  rw [sd];go_wp2_with fail
  go_ret
  exact ⟨by rw [E.out]; rfl, hb⟩
 have hv6 : v = 6 := by omega
 subst hv6;clear hv HV hv4;have q64 : ((6 : Int) == 4) = false := rfl
 cases sx : sizedN nx with
 | false =>
  have E : Hid (validN _ _ _ _ _ _ _ = false) := (show validN 1 6 g ni nx nd nk = false by simp [validN, hi, hg1, hg2, sx])
  clear hi hg1 hg2;go_enter Tryz.func68, Tryz.ntmps68
  go_wp2_with fail
  refine (key_sized _ _ _ _).mono ?_
  rintro e w3 ⟨rfl, rfl⟩
  rw [sx];go_wp2_with fail
  go_ret
  exact ⟨by rw [E.out]; rfl, hb⟩
 | true =>
 cases sd : sizedN nd with
 | false =>
  have E : Hid (validN _ _ _ _ _ _ _ = false) := (show validN 1 6 g ni nx nd nk = false by simp [validN, hi, hg1, hg2, sx, sd])
  clear hi hg1 hg2;go_enter Tryz.func68, Tryz.ntmps68
  go_wp2_with fail
  refine (key_sized _ _ _ _).mono ?_
  rintro e w3 ⟨rfl, rfl⟩
  rw [sx];go_wp2_with fail
  refine (key_sized _ _ _ _).mono ?_
  rintro e w4 ⟨rfl, rfl⟩
  rw [sd];go_wp2_with fail
  go_ret
  exact ⟨by rw [E.out]; rfl, hb⟩
 | true =>
 have hxl := sizedN_le sx;have hdl := sizedN_le sd;have K : IntKind.i64.wrap ((nx : Int) + (nd : Int)) = (nx : Int) + (nd : Int) := IntWalk.i64_in _ (by omega)
 by_cases hs : 0 < nx + nd
 case neg =>
  obtain ⟨rfl, rfl⟩ : nx = 0 ∧ nd = 0 := by omega
  have E : Hid (validN _ _ _ _ _ _ _ = false) := (show validN 1 6 g ni 0 0 nk = false by simp [validN, hi, hg1, hg2])
  clear hi hg1 hg2;go_enter Tryz.func68, Tryz.ntmps68
  go_wp2_with fail
  refine (key_sized _ _ _ _).mono ?_
  rintro e w3 ⟨rfl, rfl⟩
  rw [sx];go_wp2_with fail
  refine (key_sized _ _ _ _).mono ?_
  rintro e w4 ⟨rfl, rfl⟩
  rw [sd];go_wp2_with fail
  go_ret
  exact ⟨by rw [E.out]; rfl, hb⟩
 have hsI : (0 : Int) < (nx : Int) + (nd : Int) := by omega
 have hsD : decide ((0 : Int) < (nx : Int) + (nd : Int)) = true := decide_eq_true hsI;have hsN : decide (0 < nx + nd) = true := decide_eq_true hs
 by_cases hk : nk = 0
 case neg =>
  have qk : ((nk : Int) == 0) = false := by rw [beq_eq_false_iff_ne]; omega
  have bk : ((nk : Int) = 0) = False := eq_false (by omega);have E : Hid (validN _ _ _ _ _ _ _ = false) := (show validN 1 6 g ni nx nd nk = false by simp [validN, hi, hg1, hg2, hk])
  clear hi hg1 hg2 hk;go_enter Tryz.func68, Tryz.ntmps68
  clear hxl hdl;go_wp2_with fail
  refine (key_sized _ _ _ _).mono ?_
  rintro e w3 ⟨rfl, rfl⟩
  rw [sx];go_wp2_with fail
  refine (key_sized _ _ _ _).mono ?_
  rintro e w4 ⟨rfl, rfl⟩
  rw [sd];go_wp2_with fail
  go_ret
  exact ⟨by rw [E.out]; rfl, hb⟩
 subst hk;have E : Hid (validN _ _ _ _ _ _ _ = true) := (show validN 1 6 g ni nx nd 0 = true by simp [validN, hi, hg1, hg2, sx, sd]; exact hs)
 clear hi hg1 hg2;go_enter Tryz.func68, Tryz.ntmps68
 clear hxl hdl;go_wp2_with fail
 refine (key_sized _ _ _ _).mono ?_
 rintro e w3 ⟨rfl, rfl⟩
 rw [sx];go_wp2_with fail
 refine (key_sized _ _ _ _).mono ?_
 rintro e w4 ⟨rfl, rfl⟩
 rw [sd];go_wp2_with fail
 go_ret
 exact ⟨by rw [E.out]; rfl, hb⟩
theorem key_V4 (ht : t = 4) (h2 : nx ≤ 9223372036854775807) (h3 : nd ≤ 9223372036854775807) (hr : ni ≤ 16 ∧ -65536 ≤ g ∧ g ≤ 65535) : Calls Tryz.prog 68 #[.agg (keyC t v g Ai ni ci Ax nx cx Ad nd cd Ak nk ck)] w fun e w' => e = .returned (.bool (validN t v g ni nx nd nk)) ∧ Below w.heap.size w w' := by
 have hB := Blk.new w 60 (keyC t v g Ai ni ci Ax nx cx Ad nd cd Ak nk ck);have hb := below_box w (.cells (keyC t v g Ai ni ci Ax nx cx Ad nd cd Ak nk ck) 60);have c0 := hB.cell 0 rfl;have c1 := hB.cell 1 rfl;have c2 := hB.cell 2 rfl;have c3 := hB.cell 3 rfl;have c4 := hB.cell 4 rfl;have c5 := hB.cell 5 rfl;have c6 := hB.cell 6 rfl;subst ht;have Z1 := Hh (And.intro h2 h3);clear h2 h3;have hi := hr.1;have hg1 := hr.2.1;have hg2 := hr.2.2;have qi : ¬ (16 < (ni : Int)) := by omega
 have bi : decide (16 < (ni : Int)) = false := decide_eq_false qi;have qg1 : ¬ (g < -65536) := by omega
 have bg1 : decide (g < -65536) = false := decide_eq_false qg1;have qg2 : ¬ (65535 < g) := by omega
 have bg2 : decide (65535 < g) = false := decide_eq_false qg2;have hr9 := Hh hr;clear hr;have q41 : ((4 : Int) == 1) = false := rfl
 by_cases hv : v = 0
 case neg =>
  have qv : (v == 0) = false := by rw [beq_eq_false_iff_ne]; omega
  have bv : (v = 0) = False := eq_false hv;have E : Hid (validN _ _ _ _ _ _ _ = false) := (show validN 4 v g ni nx nd nk = false by simp [validN, hi, hg1, hg2, hv])
  clear hi hg1 hg2 hv;go_enter Tryz.func68, Tryz.ntmps68
  go_wp2_with fail
  go_ret
  exact ⟨by rw [E.out]; rfl, hb⟩
 subst hv
 by_cases hs : nx + nd = 0
 case neg =>
  have as0 : (IntKind.i64.wrap ((nx : Int) + (nd : Int)) == 0) = false := by rw [beq_eq_false_iff_ne]; exact wrap_sum0 Z1.out.1 Z1.out.2 hs
  have as1 : (IntKind.i64.wrap ((nx : Int) + (nd : Int)) = 0) = False := eq_false (wrap_sum0 Z1.out.1 Z1.out.2 hs);have as2 : (wrap64 ((nx : Int) + (nd : Int)) == 0) = false := by rw [beq_eq_false_iff_ne]; exact wrap64_sum0 Z1.out.1 Z1.out.2 hs
  have as3 : (wrap64 ((nx : Int) + (nd : Int)) = 0) = False := eq_false (wrap64_sum0 Z1.out.1 Z1.out.2 hs);have E : Hid (validN _ _ _ _ _ _ _ = false) := (show validN 4 0 g ni nx nd nk = false by simp [validN, hi, hg1, hg2, hs] <;> omega)
  clear hi hg1 hg2 hs;go_enter Tryz.func68, Tryz.ntmps68
  go_wp2_with fail
  go_ret
  exact ⟨by rw [E.out]; rfl, hb⟩
 obtain ⟨rfl, rfl⟩ : nx = 0 ∧ nd = 0 := by omega
 have K : IntKind.i64.wrap (((0 : Nat) : Int) + ((0 : Nat) : Int)) = ((0 : Nat) : Int) + ((0 : Nat) : Int) := IntWalk.i64_in _ (by omega)
 by_cases hk1 : 1 ≤ nk
 case neg =>
  have qk1 : ¬ (0 : Int) < (nk : Int) := by omega
  have bk1 : decide ((0 : Int) < (nk : Int)) = false := decide_eq_false qk1;have ck1 : ¬ (1 : Int) ≤ (nk : Int) := by omega
  have dk1 : decide ((1 : Int) ≤ (nk : Int)) = false := decide_eq_false ck1;have E : Hid (validN _ _ _ _ _ _ _ = false) := (show validN 4 0 g ni 0 0 nk = false by simp [validN, hi, hg1, hg2, hk1])
  clear hi hg1 hg2 hk1;go_enter Tryz.func68, Tryz.ntmps68
  go_wp2_with fail
  go_ret
  exact ⟨by rw [E.out]; rfl, hb⟩
 have qk1 : (0 : Int) < (nk : Int) := by omega
 have bk1 : decide ((0 : Int) < (nk : Int)) = true := decide_eq_true qk1;have ck1 : (1 : Int) ≤ (nk : Int) := by omega
 have dk1 : decide ((1 : Int) ≤ (nk : Int)) = true := decide_eq_true ck1
 by_cases hk2 : nk ≤ 64
 case neg =>
  have rk2 : ¬ ((nk : Int) ≤ 64) := by omega
  have sk2 : decide ((nk : Int) ≤ 64) = false := decide_eq_false rk2;have E : Hid (validN _ _ _ _ _ _ _ = false) := (show validN 4 0 g ni 0 0 nk = false by simp [validN, hi, hg1, hg2, hk1, hk2])
  clear hi hg1 hg2 hk1 hk2;go_enter Tryz.func68, Tryz.ntmps68
  go_wp2_with fail
  go_ret
  exact ⟨by rw [E.out]; rfl, hb⟩
 have rk2 : (nk : Int) ≤ 64 := by omega
 have sk2 : decide ((nk : Int) ≤ 64) = true := decide_eq_true rk2;have E : Hid (validN _ _ _ _ _ _ _ = true) := (show validN 4 0 g ni 0 0 nk = true by simp [validN, hi, hg1, hg2, hk1, hk2])
 clear hi hg1 hg2 hk1 hk2;go_enter Tryz.func68, Tryz.ntmps68
 go_wp2_with fail
 go_ret
 exact ⟨by rw [E.out]; rfl, hb⟩
theorem key_V0 (ht : ni ≤ 16 ∧ -65536 ≤ g ∧ g ≤ 65535 → ¬ t = 1 ∧ ¬ t = 4) : Calls Tryz.prog 68 #[.agg (keyC t v g Ai ni ci Ax nx cx Ad nd cd Ak nk ck)] w fun e w' => e = .returned (.bool (validN t v g ni nx nd nk)) ∧ Below w.heap.size w w' := by
 have hB := Blk.new w 60 (keyC t v g Ai ni ci Ax nx cx Ad nd cd Ak nk ck);have hb := below_box w (.cells (keyC t v g Ai ni ci Ax nx cx Ad nd cd Ak nk ck) 60);have c0 := hB.cell 0 rfl;have c1 := hB.cell 1 rfl;have c2 := hB.cell 2 rfl;have c3 := hB.cell 3 rfl;have c4 := hB.cell 4 rfl;have c5 := hB.cell 5 rfl;have c6 := hB.cell 6 rfl
 by_cases hi : ni ≤ 16
 case neg =>
  have ri : ¬ ((ni : Int) ≤ 16) := by omega
  have si : decide ((ni : Int) ≤ 16) = false := decide_eq_false ri;have qi : 16 < (ni : Int) := by omega
  have bi : decide (16 < (ni : Int)) = true := decide_eq_true qi;clear ht;have E : Hid (validN _ _ _ _ _ _ _ = false) := (show validN t v g ni nx nd nk = false by simp [validN, hi])
  clear hi;go_enter Tryz.func68, Tryz.ntmps68
  go_wp2_with fail
  go_ret
  exact ⟨by rw [E.out]; rfl, hb⟩
 have qi : ¬ (16 < (ni : Int)) := by omega
 have bi : decide (16 < (ni : Int)) = false := decide_eq_false qi
 by_cases hg1 : -65536 ≤ g
 case neg =>
  have qg1 : g < -65536 := by omega
  have bg1 : decide (g < -65536) = true := decide_eq_true qg1;clear ht;have E : Hid (validN _ _ _ _ _ _ _ = false) := (show validN t v g ni nx nd nk = false by simp [validN, hi, hg1])
  clear hi hg1;go_enter Tryz.func68, Tryz.ntmps68
  go_wp2_with fail
  go_ret
  exact ⟨by rw [E.out]; rfl, hb⟩
 have qg1 : ¬ (g < -65536) := by omega
 have bg1 : decide (g < -65536) = false := decide_eq_false qg1
 by_cases hg2 : g ≤ 65535
 case neg =>
  have qg2 : 65535 < g := by omega
  have bg2 : decide (65535 < g) = true := decide_eq_true qg2;clear ht;have E : Hid (validN _ _ _ _ _ _ _ = false) := (show validN t v g ni nx nd nk = false by simp [validN, hi, hg1, hg2])
  clear hi hg1 hg2;go_enter Tryz.func68, Tryz.ntmps68
  go_wp2_with fail
  go_ret
  exact ⟨by rw [E.out]; rfl, hb⟩
 have qg2 : ¬ (65535 < g) := by omega
 have bg2 : decide (65535 < g) = false := decide_eq_false qg2;obtain ⟨ht1, ht4⟩ := ht ⟨hi, hg1, hg2⟩;clear ht;have q1 : (t == 1) = false := by rw [beq_eq_false_iff_ne]; omega
 have b1 : (t = 1) = False := eq_false ht1;have q4 : (t == 4) = false := by rw [beq_eq_false_iff_ne]; omega
 have b4 : (t = 4) = False := eq_false ht4;have E : Hid (validN _ _ _ _ _ _ _ = false) := (show validN t v g ni nx nd nk = false by simp [validN, hi, hg1, hg2, ht1, ht4])
 clear hi hg1 hg2 ht1 ht4;go_enter Tryz.func68, Tryz.ntmps68
 go_wp2_with fail
 go_ret
 exact ⟨by rw [E.out]; rfl, hb⟩
theorem key_ValidN (h2 : nx ≤ 9223372036854775807) (h3 : nd ≤ 9223372036854775807) :
  Calls Tryz.prog 68 #[.agg (keyC t v g Ai ni ci Ax nx cx Ad nd cd Ak nk ck)] w fun e w' => e = .returned (.bool (validN t v g ni nx nd nk)) ∧ Below w.heap.size w w' := by
 by_cases hr : ni ≤ 16 ∧ -65536 ≤ g ∧ g ≤ 65535
 ·by_cases h1 : t = 1
  ·exact key_V1 t v g Ai ni ci Ax nx cx Ad nd cd Ak nk ck w h1 hr
  ·by_cases h4 : t = 4
   ·exact key_V4 t v g Ai ni ci Ax nx cx Ad nd cd Ak nk ck w h4 h2 h3 hr
   ·exact key_V0 t v g Ai ni ci Ax nx cx Ad nd cd Ak nk ck w (fun _ => ⟨h1, h4⟩)
 ·exact key_V0 t v g Ai ni ci Ax nx cx Ad nd cd Ak nk ck w (fun h => absurd h hr)
end
theorem OwnI.lit2 {w : World} {H : Snap} {l : List Itm} {cs : List Value} (h : ItemsC H cs l) (base : Nat) (hb : base ≤ w.heap.size) (hm : l.length ≤ 4096) :
  OwnI (w.alloc (.cells cs.toArray 75)) base (.slice (some ⟨w.heap.size, 0, none⟩) l.length l.length) H l := by
 refine ⟨cs, h, h.len, .inr ⟨w.heap.size, l.length, cs.toArray, rfl, hb, heap_alloc_new w _, Nat.le_refl _, by simp only [maxLen]; omega, ?_, ?_⟩⟩
 ·simpa using h.len
 ·rw [← h.len]; simp
theorem putC_mid (cs : Array Value) (a b c d : List Value) (h : cs.toList.take (a.length + b.length + c.length) = a ++ b ++ c) (hd : d.length = b.length) :
  (putC cs a.length d).toList.take (a.length + d.length + c.length) = a ++ d ++ c := by
 have hz : a.length + b.length + c.length ≤ cs.size := by
  have h1 := congrArg List.length h
  simp only [List.length_take, List.length_append, Array.length_toList] at h1
  omega
 apply List.ext_getElem?
 intro j
 have hj : (cs.toList.take (a.length + b.length + c.length))[j]? = (a ++ b ++ c)[j]? := by rw [h]
 simp only [List.getElem?_take, List.getElem?_append, Array.getElem?_toList, putC_get, List.length_append] at hj ⊢
 by_cases h1 : j < a.length
 ·rw [if_pos (by omega), if_neg (by omega), if_pos (by omega), if_pos h1];rw [if_pos (by omega), if_pos (by omega), if_pos h1] at hj
  exact hj
 ·by_cases h2 : j < a.length + d.length
  ·rw [if_pos (by omega), if_pos (by omega), if_pos h2, if_neg h1]
  ·by_cases h3 : j < a.length + d.length + c.length
   ·rw [if_pos h3, if_neg (by omega), if_neg h2];rw [if_pos (by omega), if_neg (by omega)] at hj;rw [hj, hd]
   ·rw [if_neg h3, if_neg h2];symm
    rw [List.getElem?_eq_none_iff]
    omega
theorem OwnI.put {w : World} {base : Nat} {A : Option Addr} {m c : Nat} {H : Snap} {l1 l2 : List Itm} {z : Itm} (h : OwnI w base (.slice A m c) H (l1 ++ z :: l2)) :
  ∃ g cur, A = some ⟨g, 0, none⟩ ∧ base ≤ g ∧ Blk w g 75 cur ∧ l1.length * 4 + 4 ≤ cur.size ∧
   ∀ (w' : World) (cells : List Value) (y : Itm), ItemsC H cells [y] → Blk w' g 75 (putC cur (l1.length * 4) cells) → OwnI w' base (.slice A m c) H (l1 ++ y :: l2) := by
 obtain ⟨cs, hcs, h⟩ := h
 rcases h.2 with ⟨hv, hz⟩ | ⟨g, cap, cur, hv, hb, hg, hc, hm, hcz, ht⟩
 ·simp at hz
 ·cases hv
  have hs := hcs.split l1.length;rw [List.take_left, List.drop_left] at hs
  obtain ⟨ba, bc, ia, ic, rest, he, hi, hr⟩ : ∃ ba bc ia ic rest, cs.drop (l1.length * 4) = itemC z ba bc ia ic ++ rest ∧ IsItem H ba bc ia ic z ∧ ItemsC H rest l2 := by
   have h2 := hs.2;rw [ItemsC] at h2;obtain ⟨ba, bc, ia, ic, rest, h2⟩ := h2
   exact ⟨ba, bc, ia, ic, rest, h2.1, h2.2⟩
  have hlen := hs.1.len;have hrl := hr.len;have hcl := hcs.len;have e : cs = cs.take (l1.length * 4) ++ itemC z ba bc ia ic ++ rest := by rw [List.append_assoc, ← he, List.take_append_drop]
  have hsz : l1.length * 4 + 4 ≤ cur.size := by
   have hx : (l1 ++ z :: l2).length * 4 ≤ c * 4 := Nat.mul_le_mul_right _ hc
   simp only [List.length_append, List.length_cons] at hx
   omega
  refine ⟨g, cur, rfl, hb, hg, hsz, fun w' cells y hy hB => ⟨cs.take (l1.length * 4) ++ cells ++ rest, by
    have h3 := (hs.1.app hy).app hr
    simpa using h3, ?_, .inr ⟨g, c, _, by simp, hb, hB, by simpa using hc, hm, by rw [putC_size, hcz], ?_⟩⟩⟩
  ·have := hy.len
   simp only [List.length_append, List.length_cons, List.length_nil] at this hlen hrl hcl ⊢
   omega
  ·have hcell := hy.len
   have hk := putC_mid cur (cs.take (l1.length * 4)) (itemC z ba bc ia ic) rest cells (by
    rw [← e]
    have e4 : (cs.take (l1.length * 4)).length + (itemC z ba bc ia ic).length + rest.length = (l1 ++ z :: l2).length * 4 := by
     rw [hlen, hrl]
     simp [itemC]
     omega
    rw [e4]
    exact ht) (by rw [hcell]; simp [itemC])
   rw [hlen] at hk
   have e5 : (l1 ++ y :: l2).length * 4 = l1.length * 4 + cells.length + rest.length := by
    rw [hcell, hrl]
    simp
    omega
   rw [e5]
   exact hk
structure RS (W0 : World) (H : Snap) (kc : Array Value) (v : Value) (L : List Itm) (w : World) (Hr : Snap) : Prop where
 grows : Grows W0 H w Hr
 hK : Hr W0.heap.size = none
 key : Blk w W0.heap.size 60 kc
 own : OwnI w (W0.heap.size + 1) v Hr L
 apart : ∀ g, v.ownBlock = some g → Hr g = none
section
variable {W0 w w' : World} {H Hr Hs : Snap} {kc : Array Value} {v v' : Value} {L news : List Itm}
theorem RS.grow (h : RS W0 H kc v L w Hr) (k : Grows w Hr w' Hs) : RS W0 H kc v L w' Hs :=
 ⟨h.grows.trans k, k.none h.hK h.key.lt, h.key.below k.below, (h.own.below k.below).mono k.le, fun g hg => k.none (h.apart g hg) (h.own.lt g hg).2⟩
theorem RS.below (h : RS W0 H kc v L w Hr) (k : Below w.heap.size w w') : RS W0 H kc v L w' Hr := h.grow (Grows.of_below h.grows.holds k)
theorem RS.alloc (h : RS W0 H kc v L w Hr) (o : Obj) : RS W0 H kc v L (w.alloc o) Hr := h.below (below_box w o)
theorem RS.drew (h : RS W0 H kc v L w Hr) : RS W0 H kc v L w.drew Hr := h.below (Below.refl _ _).drew
theorem RS.base (h : RS W0 H kc v L w Hr) : W0.heap.size + 1 ≤ w.heap.size := by have := h.key.lt; omega
theorem RS.litZ (h : RS W0 H kc v L w Hr) (cs : Array Value) (e : TypeId) : Src (w.alloc (.cells cs e)) (some ⟨w.heap.size, 0, none⟩) cs.toList := Src.lit w cs e
theorem RS.app (h : RS W0 H kc v L w Hr) (hO : OwnI w' (W0.heap.size + 1) v' Hr (L ++ news)) (hg : w.grownBy w' v.ownBlock) (ha : At0 w v.ownBlock v'.ownBlock) : RS W0 H kc v' (L ++ news) w' Hr :=
 ⟨h.grows.grownRow h.apart (fun g hg => by have := (h.own.lt g hg).1; omega) hg, h.hK, h.key.grown hg (fun e => by have := (h.own.lt _ e).1; omega), hO, fun g hv => by
  rcases ha with e | ⟨g', e, hs⟩
  ·exact h.apart g (by rw [← e, hv])
  ·rw [hv] at e;injection e with e
   subst e
   exact h.grows.hidden hs⟩
theorem RS.lit {cs : List Value} {l : List Itm} (hG : Grows W0 H w Hr) (hK : Hr W0.heap.size = none) (hk : Blk w W0.heap.size 60 kc) (hc : ItemsC Hr cs l) (hm : l.length ≤ 4096) :
  RS W0 H kc (.slice (some ⟨w.heap.size, 0, none⟩) l.length l.length) l (w.alloc (.cells cs.toArray 75)) Hr :=
 ⟨hG.alloc _, hK, hk.alloc _, OwnI.lit2 hc _ (by have := hk.lt; omega) hm, fun g hg => by
  simp [Value.ownBlock] at hg
  subst hg
  exact hG.hidden (Nat.le_refl _)⟩
end
structure PM (W0 : World) (H : Snap) (B : Nat) (kc : Array Value) (bv v : Value) (L : List Itm) (w : World) (Hr : Snap) : Prop where
 row : RS W0 H kc v L w Hr
 lt : W0.heap.size < B
 hB : Hr B = none
 box : Blk w B 73 #[bv]
 far : v.ownBlock ≠ some B
section
variable {W0 w w' : World} {H Hr Hs : Snap} {B : Nat} {kc : Array Value} {bv v v' : Value} {L L1 L2 news : List Itm} {z : Itm}
theorem PM.grow (h : PM W0 H B kc bv v L w Hr) (k : Grows w Hr w' Hs) : PM W0 H B kc bv v L w' Hs :=
 ⟨h.row.grow k, h.lt, k.none h.hB h.box.lt, h.box.below k.below, h.far⟩
theorem PM.below (h : PM W0 H B kc bv v L w Hr) (k : Below w.heap.size w w') : PM W0 H B kc bv v L w' Hr := h.grow (Grows.of_below h.row.grows.holds k)
theorem PM.alloc (h : PM W0 H B kc bv v L w Hr) (o : Obj) : PM W0 H B kc bv v L (w.alloc o) Hr := h.below (below_box w o)
theorem PM.drew (h : PM W0 H B kc bv v L w Hr) : PM W0 H B kc bv v L w.drew Hr := h.below (Below.refl _ _).drew
theorem PM.app (h : PM W0 H B kc bv v L w Hr) (hO : OwnI w' (W0.heap.size + 1) v' Hr (L ++ news)) (hg : w.grownBy w' v.ownBlock) (ha : At0 w v.ownBlock v'.ownBlock) : PM W0 H B kc bv v' (L ++ news) w' Hr :=
 ⟨h.row.app hO hg ha, h.lt, h.hB, h.box.grown hg h.far, by
  rcases ha with e | ⟨g', e, hs⟩
  ·rw [e]; exact h.far
  ·rw [e]
   intro e2
   injection e2 with e2
   have := h.box.lt
   omega⟩
theorem PM.put {A : Option Addr} {m c i : Nat} {Lf : List Itm} (h : PM W0 H B kc bv (.slice A m c) Lf w Hr) (e : Lf = L1 ++ z :: L2) (hi : i = L1.length) :
  ∃ g cur, A = some ⟨g, 0, none⟩ ∧ Blk w g 75 cur ∧ i * 4 + 4 ≤ cur.size ∧
   ∀ (w' : World) (cells : List Value) (y : Itm) (Lg : List Itm), ItemsC Hr cells [y] → Lg = L1 ++ y :: L2 → Blk w' g 75 (putC cur (i * 4) cells) → w.grownBy w' (some g) → PM W0 H B kc bv (.slice A m c) Lg w' Hr := by
 subst e;subst hi;obtain ⟨g, cur, rfl, hb, hB, hs, hput⟩ := h.row.own.put;have hg0 := h.row.apart g (by simp [Value.ownBlock]);have hgB : g ≠ B := fun e => h.far (by simp [Value.ownBlock, e])
 exact ⟨g, cur, rfl, hB, hs, fun w' cells y Lg hy e hB' hgr => by
  subst e
  exact ⟨⟨h.row.grows.grownOwn hg0 (by omega) hgr, h.row.hK, h.row.key.grown hgr (fun e => by injection e with e; omega), hput w' cells y hy hB', h.row.apart⟩, h.lt, h.hB, h.box.grown hgr (fun e => by injection e with e; exact hgB e), h.far⟩⟩
theorem PM.setBox (h : PM W0 H B kc bv v L w Hr) (hB : Blk w' B 73 #[v']) (hg : w.grownBy w' (some B)) : PM W0 H B kc v' v L w' Hr :=
 ⟨⟨h.row.grows.grownOwn h.hB (by have := h.lt; omega) hg, h.row.hK, h.row.key.grown hg (fun e => by injection e with e; have := h.lt; omega), h.row.own.kept hg (.inr h.far), h.row.apart⟩, h.lt, h.hB, hB, h.far⟩
theorem PM.litZ (h : PM W0 H B kc bv v L w Hr) (cs : Array Value) (e : TypeId) : Src (w.alloc (.cells cs e)) (some ⟨w.heap.size, 0, none⟩) cs.toList := Src.lit w cs e
theorem PM.start (h : RS W0 H kc v L w Hr) : PM W0 H w.heap.size kc bv v L (w.alloc (.cells #[bv] 73)) Hr :=
 ⟨h.alloc _, h.key.lt, h.grows.hidden (Nat.le_refl _), Blk.new _ _ _, fun e => by have := (h.own.lt _ e).2; omega⟩
theorem RS.litR (h : RS W0 H kc v L w Hr) {cs : List Value} {l : List Itm} (hc : ItemsC Hr cs l) (hm : l.length ≤ 4096) :
  RS W0 H kc (.slice (some ⟨w.heap.size, 0, none⟩) l.length l.length) l (w.alloc (.cells cs.toArray 75)) Hr := RS.lit h.grows h.hK h.key hc hm
theorem PM.lit (h : PM W0 H B kc bv v L w Hr) {cs : List Value} {l : List Itm} (hc : ItemsC Hr cs l) (hm : l.length ≤ 4096) :
  PM W0 H B kc bv (.slice (some ⟨w.heap.size, 0, none⟩) l.length l.length) l (w.alloc (.cells cs.toArray 75)) Hr :=
 ⟨h.row.litR hc hm, h.lt, h.hB, h.box.alloc _, fun e => by
  simp [Value.ownBlock] at e
  have := h.box.lt
  omega⟩
theorem RS.nil (hG : Grows W0 H w Hr) (hK : Hr W0.heap.size = none) (hk : Blk w W0.heap.size 60 kc) : RS W0 H kc (.slice none 0 0) [] w Hr :=
 ⟨hG, hK, hk, OwnI.nil _ _ _, fun g hg => by simp [Value.ownBlock] at hg⟩
def PSt (W0 : World) (H : Snap) (B : Nat) (kc : Array Value) (L : List Itm) (w : World) : Prop := ∃ Hr A m c, m = L.length ∧ PM W0 H B kc (.slice A m c) (.slice A m c) L w Hr
def RowOut (W0 : World) (H : Snap) (L : List Itm) (v : Value) (w : World) : Prop := ∃ A c H', v = .slice A L.length c ∧ Grows W0 H w H' ∧ L.length ≤ c ∧ c ≤ 9223372036854775807 ∧ (0 < L.length → ∃ b off, A = some ⟨b, off, none⟩ ∧ IsElems H' b off L)
theorem RS.out {A : Option Addr} {m c : Nat} (h : RS W0 H kc (.slice A m c) L w Hr) : RowOut W0 H L (.slice A m c) w := by
 obtain ⟨H', hl, hh, hf, rfl, hle1, hle2, hel⟩ := h.own.snap h.grows.holds (fun g hg => h.apart g (by cases A <;> simp_all [Value.ownBlock]))
 refine ⟨A, c, H', rfl, ⟨h.grows.below, h.grows.le.trans hl, hh, fun b o hb => ?_⟩, hle1, hle2, hel⟩
 rcases hf b o hb with h1 | h1
 ·exact h.grows.fresh b o h1
 ·exact .inr (by have := (h.own.lt b (by cases A <;> simp_all [Value.ownBlock])).1; omega)
theorem PSt.out (h : PSt W0 H B kc L w) : ∃ A m c, w.cell? ⟨B, 0, none⟩ = some (.slice A m c) ∧ RowOut W0 H L (.slice A m c) w := by
 obtain ⟨Hr, A, m, c, _, hP⟩ := h
 exact ⟨A, m, c, hP.box.cell 0 rfl, hP.row.out⟩
theorem PSt.key (h : PSt W0 H B kc L w) : Blk w W0.heap.size 60 kc := by
 obtain ⟨Hr, A, m, c, _, hP⟩ := h
 exact hP.row.key
end
theorem wp_store_at {w : World} {o : Oper} {a : Act} {K : Act → World → Prop} {Q : Exit → Act → World → Prop} (ty : TypeId) (x y : Operand) (ho : o.op = .store ty x y)
  (g off : Nat) (cells : Array Value) (hx : a.eval x = .pointer (some ⟨g, off, none⟩)) (hy : a.eval y = .agg cells)
  (t : TypeId) (old : Array Value) (hB : Blk w g t old) (hi : (Tryz.prog.info? ty).map (·.size) = some cells.size) (hold : off + cells.size ≤ old.size) (h1 : cells.all (·.oneCell') = true)
  (h : ∀ w', Blk w' g t (putC old off cells.toList) → w.grownBy w' (some g) → K (a.put o.dst undef) w') :
  o.wp Tryz.prog a w K Q := by
 refine wp_store_mid ty x y ho g off cells hx hy (fun j hj => ⟨?_, hB.frozen _⟩) hi h1 ?_
 ·obtain ⟨v, hv⟩ : ∃ v, old[off + j]? = some v := ⟨_, Array.getElem?_eq_getElem (by omega)⟩
  rw [hB.cell _ hv]; rfl
 ·exact h _ (hB.setCells _ _) (grown_setCells g _ _ (grown_refl w _))
abbrev zero2 : Array Value := #[.int .i64 0, .int .u64 0, .slice none 0 0, .slice none 0 0, .int .i64 0, .int .u64 0, .slice none 0 0, .slice none 0 0]
theorem zero2_items (H : Snap) : ItemsC H zero2.toList [zeroItm, zeroItm] := by
 have h := IsItem.plain H 0 0 (by omega) (by omega)
 exact (ItemsC.one h).app (ItemsC.one h)
end Go.Proofs.YtgaoknihklmakaaGreatDoor
