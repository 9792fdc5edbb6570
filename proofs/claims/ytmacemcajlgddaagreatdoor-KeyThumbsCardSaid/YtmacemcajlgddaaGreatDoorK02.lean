/- squeezed. Walks: which keys are valid, by th -/
import Derived.Test.YtmacemcajlgddaaGreatDoorK00
import Derived.Test.YtmacemcajlgddaaGreatDoorK01
import Derived.Deep.DeepCutAuto
import Derived.Deep.CutBlock
set_option linter.unusedVariables false
set_option linter.unusedSimpArgs false
set_option maxRecDepth 100000
set_option maxHeartbeats 12800000
namespace Go.Proofs.YtmacemcajlgddaaGreatDoor
open Go.RowKit
def sizedN (n : Nat) : Bool := decide (n = 0) || decide (n = 32)
def validN (t v g : Int) (ni nx nd nk : Nat) : Bool :=
 decide (ni ≤ 16) && decide (-65536 ≤ g) && decide (g ≤ 65535) &&
 (if t = 1 then (decide (v = 4) || decide (v = 6)) && sizedN nx && sizedN nd && decide (0 < nx + nd) && decide (nk = 0)
  else if t = 4 then decide (v = 0) && decide (nx + nd = 0) && decide (1 ≤ nk) && decide (nk ≤ 64) else false)
abbrev keyC (t v g : Int) (Ai : Option Addr) (ni ci : Nat) (Ax : Option Addr) (nx cx : Nat) (Ad : Option Addr) (nd cd : Nat) (Ak : Option Addr) (nk ck : Nat) : Array Value :=
 #[.int .i64 t, .int .i64 v, .int .i64 g, .slice Ai ni ci, .slice Ax nx cx, .slice Ad nd cd, .slice Ak nk ck]
theorem key_sized (A : Option Addr) (n c : Nat) (w : World) :
  Calls Tryz.prog 27 #[.slice A n c] w fun e w' => e = .returned (.bool (sizedN n)) ∧ w = w' := by
 by_cases h0 : n = 0
 ·subst h0;go_enter Tryz.func27, Tryz.ntmps27
  go_wp2_with fail
  go_ret
  exact ⟨rfl, rfl⟩
 ·have z0 : ((n : Int) == 0) = false := by rw [beq_eq_false_iff_ne]; omega
  have y0 : ((n : Int) = 0) = False := eq_false (by omega)
  have E : Hid (decide ((n : Int) = 32) = sizedN n) := by
   rw [Hid, sizedN, decide_eq_false h0, Bool.false_or, Bool.eq_iff_iff, decide_eq_true_eq, decide_eq_true_eq]; omega
  have E' : Hid (((n : Int) == 32) = sizedN n) := by
   rw [← E.out]; rfl
  go_enter Tryz.func27, Tryz.ntmps27
  go_wp2_with fail
  go_ret
  exact ⟨by first | (rw [← E.out]; rfl) | (rw [← E'.out]; rfl), rfl⟩
theorem wrap64_sum0 {a b : Nat} (ha : a ≤ 9223372036854775807) (hb : b ≤ 9223372036854775807) (h : ¬ a + b = 0) : ¬ wrap64 ((a : Int) + (b : Int)) = 0 := by
 unfold wrap64
 omega
theorem wrap_sum0 {a b : Nat} (ha : a ≤ 9223372036854775807) (hb : b ≤ 9223372036854775807) (h : ¬ a + b = 0) : ¬ IntKind.i64.wrap ((a : Int) + (b : Int)) = 0 := by
 rw [IntKind.wrap_i64]
 omega
section
variable (t v g : Int) (Ai : Option Addr) (ni ci : Nat) (Ax : Option Addr) (nx cx : Nat) (Ad : Option Addr) (nd cd : Nat) (Ak : Option Addr) (nk ck : Nat) (w : World)
theorem ref_ValidN (h2 : nx ≤ 9223372036854775807) (h3 : nd ≤ 9223372036854775807) :
  Calls Tryz.prog 22 #[.agg (keyC t v g Ai ni ci Ax nx cx Ad nd cd Ak nk ck)] w fun e w' => e = .returned (.bool (validN t v g ni nx nd nk)) ∧ Below w.heap.size w w' := by
 have hB := Blk.new w 24 (keyC t v g Ai ni ci Ax nx cx Ad nd cd Ak nk ck);have hb := below_box w (.cells (keyC t v g Ai ni ci Ax nx cx Ad nd cd Ak nk ck) 24);have c0 := hB.cell 0 rfl;have c1 := hB.cell 1 rfl;have c2 := hB.cell 2 rfl;have c3 := hB.cell 3 rfl;have c4 := hB.cell 4 rfl;have c5 := hB.cell 5 rfl;have c6 := hB.cell 6 rfl;have Z1 := Hh (And.intro h2 h3);clear h2 h3
 by_cases hi : ni ≤ 16
 case neg =>
  have ri : ¬ ((ni : Int) ≤ 16) := by omega
  have si : decide ((ni : Int) ≤ 16) = false := decide_eq_false ri;have qi : 16 < (ni : Int) := by omega
  have bi : decide (16 < (ni : Int)) = true := decide_eq_true qi;have E : Hid (validN _ _ _ _ _ _ _ = false) := (show validN t v g ni nx nd nk = false by simp [validN, sizedN, hi])
  clear hi;go_enter Tryz.func22, Tryz.ntmps22
  go_wp2_with fail
  go_ret
  exact ⟨by rw [E.out]; rfl, by first | exact hb | exact hb.drew⟩
 have qi : ¬ (16 < (ni : Int)) := by omega
 have bi : decide (16 < (ni : Int)) = false := decide_eq_false qi
 by_cases hg1 : -65536 ≤ g
 case neg =>
  have qg1 : g < -65536 := by omega
  have bg1 : decide (g < -65536) = true := decide_eq_true qg1;have E : Hid (validN _ _ _ _ _ _ _ = false) := (show validN t v g ni nx nd nk = false by simp [validN, sizedN, hi, hg1])
  clear hi hg1;go_enter Tryz.func22, Tryz.ntmps22
  go_wp2_with fail
  go_ret
  exact ⟨by rw [E.out]; rfl, by first | exact hb | exact hb.drew⟩
 have qg1 : ¬ (g < -65536) := by omega
 have bg1 : decide (g < -65536) = false := decide_eq_false qg1
 by_cases hg2 : g ≤ 65535
 case neg =>
  have rg2 : ¬ (g ≤ 65535) := by omega
  have sg2 : decide (g ≤ 65535) = false := decide_eq_false rg2;have qg2 : 65535 < g := by omega
  have bg2 : decide (65535 < g) = true := decide_eq_true qg2;have E : Hid (validN _ _ _ _ _ _ _ = false) := (show validN t v g ni nx nd nk = false by simp [validN, sizedN, hi, hg1, hg2])
  clear hi hg1 hg2;go_enter Tryz.func22, Tryz.ntmps22
  go_wp2_with fail
  go_ret
  exact ⟨by rw [E.out]; rfl, by first | exact hb | exact hb.drew⟩
 have qg2 : ¬ (65535 < g) := by omega
 have bg2 : decide (65535 < g) = false := decide_eq_false qg2;go_enter Tryz.func22, Tryz.ntmps22
 go_upto_region 3 with fail
 go_cut [3, 4] (fun s3 s4 wx => s3 = .int .i64 (nx : Int) ∧ s4 = .int .i64 (nd : Int) ∧ Below w.heap.size w wx ∧ Blk wx w.heap.size 24 #[.int .i64 t, .int .i64 v, .int .i64 g, .slice Ai ni ci, .slice Ax nx cx, .slice Ad nd cd, .slice Ak nk ck])
 case first =>
  refine wp_region_ways 7 (fun wx => wx.cell? ⟨w.heap.size, 4, none⟩ = some (.slice Ax nx cx) ∧ wx.cell? ⟨w.heap.size, 5, none⟩ = some (.slice Ad nd cd)) (by kernel_rfl) (⟨c4, c5⟩) (fun hHeld => ?_)
  refine Tk 0 rfl hHeld ?_
  refine Tk 1 rfl hHeld ?_
  refine Tk 2 rfl hHeld ?_
  refine Tk 3 rfl hHeld ?_
  refine Tk 4 rfl hHeld ?_
  refine Tk 5 rfl hHeld ?_
  refine Tk 6 rfl hHeld ?_
  refine To 7 rfl fun K hK => ?_
  go_simp
  refine hK.out _ _ (fun h => absurd rfl h) (fun _ => ?_)
  clear hK K
  try simp only [Act.put, zz1, zz2, zz3, zz4, zz5, zz6]
  refine Ways.done (by kernel_rfl) ?_
  go_wp2_with fail
  go_meet
  exact ⟨rfl, rfl, hb.drew, hB.drew⟩
 case rest =>
  clear hb hB c0 c1 c2 c3 c4 c5 c6;obtain ⟨rfl, rfl, hb, hB⟩ := hcut;have c0 := hB.cell 0 rfl;have c1 := hB.cell 1 rfl;have c6 := hB.cell 6 rfl
  by_cases ht : t = 1
  case neg =>
   have qt : (t == 1) = false := by rw [beq_eq_false_iff_ne]; omega
   have bt : (t = 1) = False := eq_false (by omega)
   by_cases ht4 : t = 4
   case neg =>
    have qt4 : (t == 4) = false := by rw [beq_eq_false_iff_ne]; omega
    have bt4 : (t = 4) = False := eq_false (by omega);have E : Hid (validN _ _ _ _ _ _ _ = false) := (show validN t v g ni nx nd nk = false by simp [validN, sizedN, hi, hg1, hg2, ht, ht4])
    clear hi hg1 hg2 ht ht4;go_wp2_with fail
    go_ret
    exact ⟨by rw [E.out]; rfl, by first | exact hb | exact hb.drew⟩
   subst ht4
   by_cases hw : v = 0
   case neg =>
    have qw : (v == 0) = false := by rw [beq_eq_false_iff_ne]; omega
    have bw : (v = 0) = False := eq_false (by omega);have E : Hid (validN _ _ _ _ _ _ _ = false) := (show validN 4 v g ni nx nd nk = false by simp [validN, sizedN, hi, hg1, hg2, hw])
    clear hi hg1 hg2 hw;go_wp2_with fail
    go_ret
    exact ⟨by rw [E.out]; rfl, by first | exact hb | exact hb.drew⟩
   subst hw
   by_cases hs : nx + nd = 0
   case neg =>
    have as0 : (IntKind.i64.wrap ((nx : Int) + (nd : Int)) == 0) = false := by rw [beq_eq_false_iff_ne]; exact wrap_sum0 Z1.out.1 Z1.out.2 hs
    have as1 : (IntKind.i64.wrap ((nx : Int) + (nd : Int)) = 0) = False := eq_false (wrap_sum0 Z1.out.1 Z1.out.2 hs);have as2 : (wrap64 ((nx : Int) + (nd : Int)) == 0) = false := by rw [beq_eq_false_iff_ne]; exact wrap64_sum0 Z1.out.1 Z1.out.2 hs
    have as3 : (wrap64 ((nx : Int) + (nd : Int)) = 0) = False := eq_false (wrap64_sum0 Z1.out.1 Z1.out.2 hs);have E : Hid (validN _ _ _ _ _ _ _ = false) := (show validN 4 0 g ni nx nd nk = false by simp [validN, sizedN, hi, hg1, hg2, hs] <;> omega)
    clear hi hg1 hg2 hs;go_wp2_with fail
    go_ret
    exact ⟨by rw [E.out]; rfl, by first | exact hb | exact hb.drew⟩
   obtain ⟨rfl, rfl⟩ : nx = 0 ∧ nd = 0 := by omega
   have K : IntKind.i64.wrap (((0 : Nat) : Int) + ((0 : Nat) : Int)) = ((0 : Nat) : Int) + ((0 : Nat) : Int) := IntWalk.i64_in _ (by omega)
   by_cases hk1 : 1 ≤ nk
   case neg =>
    have qk1 : ¬ (0 : Int) < (nk : Int) := by omega
    have bk1 : decide ((0 : Int) < (nk : Int)) = false := decide_eq_false qk1;have ck1 : ¬ (1 : Int) ≤ (nk : Int) := by omega
    have dk1 : decide ((1 : Int) ≤ (nk : Int)) = false := decide_eq_false ck1;have E : Hid (validN _ _ _ _ _ _ _ = false) := (show validN 4 0 g ni 0 0 nk = false by simp [validN, sizedN, hi, hg1, hg2, hk1])
    clear hi hg1 hg2 hk1;go_wp2_with fail
    go_ret
    exact ⟨by rw [E.out]; rfl, by first | exact hb | exact hb.drew⟩
   have qk1 : (0 : Int) < (nk : Int) := by omega
   have bk1 : decide ((0 : Int) < (nk : Int)) = true := decide_eq_true qk1;have ck1 : (1 : Int) ≤ (nk : Int) := by omega
   have dk1 : decide ((1 : Int) ≤ (nk : Int)) = true := decide_eq_true ck1
   by_cases hk2 : nk ≤ 64
   case neg =>
    have rk2 : ¬ ((nk : Int) ≤ 64) := by omega
    have sk2 : decide ((nk : Int) ≤ 64) = false := decide_eq_false rk2;have qk2 : 64 < (nk : Int) := by omega
    have bk2 : decide (64 < (nk : Int)) = true := decide_eq_true qk2;have E : Hid (validN _ _ _ _ _ _ _ = false) := (show validN 4 0 g ni 0 0 nk = false by simp [validN, sizedN, hi, hg1, hg2, hk1, hk2])
    clear hi hg1 hg2 hk1 hk2;go_wp2_with fail
    go_ret
    exact ⟨by rw [E.out]; rfl, by first | exact hb | exact hb.drew⟩
   have qk2 : ¬ (64 < (nk : Int)) := by omega
   have bk2 : decide (64 < (nk : Int)) = false := decide_eq_false qk2;have E : Hid (validN _ _ _ _ _ _ _ = true) := (show validN 4 0 g ni 0 0 nk = true by simp [validN, sizedN, hi, hg1, hg2, hk1, hk2])
   clear hi hg1 hg2 hk1 hk2;go_wp2_with fail
   go_ret
   exact ⟨by rw [E.out]; rfl, by first | exact hb | exact hb.drew⟩
  subst ht
  by_cases hv : v = 4
  case neg =>
   have qv : (v == 4) = false := by rw [beq_eq_false_iff_ne]; omega
   have bv : (v = 4) = False := eq_false (by omega)
   by_cases hv2 : v = 6
   case neg =>
    have qv2 : (v == 6) = false := by rw [beq_eq_false_iff_ne]; omega
    have bv2 : (v = 6) = False := eq_false (by omega);have E : Hid (validN _ _ _ _ _ _ _ = false) := (show validN 1 v g ni nx nd nk = false by simp [validN, sizedN, hi, hg1, hg2, hv, hv2])
    clear hi hg1 hg2 hv hv2;go_wp2_with fail
    go_ret
    exact ⟨by rw [E.out]; rfl, by first | exact hb | exact hb.drew⟩
   subst hv2
   by_cases hx : nx = 0
   case neg =>
    have qx : ((nx : Int) == 0) = false := by rw [beq_eq_false_iff_ne]; omega
    have bx : ((nx : Int) = 0) = False := eq_false (by omega)
    by_cases hx2 : nx = 32
    case neg =>
     have qx2 : ((nx : Int) == 32) = false := by rw [beq_eq_false_iff_ne]; omega
     have bx2 : ((nx : Int) = 32) = False := eq_false (by omega);have E : Hid (validN _ _ _ _ _ _ _ = false) := (show validN 1 6 g ni nx nd nk = false by simp [validN, sizedN, hi, hg1, hg2, hx, hx2])
     clear hi hg1 hg2 hx hx2;go_wp2_with fail
     go_ret
     exact ⟨by rw [E.out]; rfl, by first | exact hb | exact hb.drew⟩
    subst hx2
    by_cases hd : nd = 0
    case neg =>
     have qd : ((nd : Int) == 0) = false := by rw [beq_eq_false_iff_ne]; omega
     have bd : ((nd : Int) = 0) = False := eq_false (by omega)
     by_cases hd2 : nd = 32
     case neg =>
      have qd2 : ((nd : Int) == 32) = false := by rw [beq_eq_false_iff_ne]; omega
      have bd2 : ((nd : Int) = 32) = False := eq_false (by omega);have E : Hid (validN _ _ _ _ _ _ _ = false) := (show validN 1 6 g ni 32 nd nk = false by simp [validN, sizedN, hi, hg1, hg2, hd, hd2])
      clear hi hg1 hg2 hd hd2;go_wp2_with fail
      go_ret
      exact ⟨by rw [E.out]; rfl, by first | exact hb | exact hb.drew⟩
     subst hd2;have K : IntKind.i64.wrap (((32 : Nat) : Int) + ((32 : Nat) : Int)) = ((32 : Nat) : Int) + ((32 : Nat) : Int) := IntWalk.i64_in _ (by omega)
     by_cases hk : nk = 0
     case neg =>
      have qk : ((nk : Int) == 0) = false := by rw [beq_eq_false_iff_ne]; omega
      have bk : ((nk : Int) = 0) = False := eq_false (by omega);have E : Hid (validN _ _ _ _ _ _ _ = false) := (show validN 1 6 g ni 32 32 nk = false by simp [validN, sizedN, hi, hg1, hg2, hk])
      clear hi hg1 hg2 hk;go_wp2_with fail
      go_ret
      exact ⟨by rw [E.out]; rfl, by first | exact hb | exact hb.drew⟩
     subst hk;have E : Hid (validN _ _ _ _ _ _ _ = true) := (show validN 1 6 g ni 32 32 0 = true by simp [validN, sizedN, hi, hg1, hg2])
     clear hi hg1 hg2;go_wp2_with fail
     go_ret
     exact ⟨by rw [E.out]; rfl, by first | exact hb | exact hb.drew⟩
    subst hd;have K : IntKind.i64.wrap (((32 : Nat) : Int) + ((0 : Nat) : Int)) = ((32 : Nat) : Int) + ((0 : Nat) : Int) := IntWalk.i64_in _ (by omega)
    by_cases hk : nk = 0
    case neg =>
     have qk : ((nk : Int) == 0) = false := by rw [beq_eq_false_iff_ne]; omega
     have bk : ((nk : Int) = 0) = False := eq_false (by omega);have E : Hid (validN _ _ _ _ _ _ _ = false) := (show validN 1 6 g ni 32 0 nk = false by simp [validN, sizedN, hi, hg1, hg2, hk])
     clear hi hg1 hg2 hk;go_wp2_with fail
     go_ret
     exact ⟨by rw [E.out]; rfl, by first | exact hb | exact hb.drew⟩
    subst hk;have E : Hid (validN _ _ _ _ _ _ _ = true) := (show validN 1 6 g ni 32 0 0 = true by simp [validN, sizedN, hi, hg1, hg2])
    clear hi hg1 hg2;go_wp2_with fail
    go_ret
    exact ⟨by rw [E.out]; rfl, by first | exact hb | exact hb.drew⟩
   subst hx
   by_cases hd : nd = 0
   case neg =>
    have qd : ((nd : Int) == 0) = false := by rw [beq_eq_false_iff_ne]; omega
    have bd : ((nd : Int) = 0) = False := eq_false (by omega)
    by_cases hd2 : nd = 32
    case neg =>
     have qd2 : ((nd : Int) == 32) = false := by rw [beq_eq_false_iff_ne]; omega
     have bd2 : ((nd : Int) = 32) = False := eq_false (by omega);have E : Hid (validN _ _ _ _ _ _ _ = false) := (show validN 1 6 g ni 0 nd nk = false by simp [validN, sizedN, hi, hg1, hg2, hd, hd2])
     clear hi hg1 hg2 hd hd2;go_wp2_with fail
     go_ret
     exact ⟨by rw [E.out]; rfl, by first | exact hb | exact hb.drew⟩
    subst hd2;have K : IntKind.i64.wrap (((0 : Nat) : Int) + ((32 : Nat) : Int)) = ((0 : Nat) : Int) + ((32 : Nat) : Int) := IntWalk.i64_in _ (by omega)
    by_cases hk : nk = 0
    case neg =>
     have qk : ((nk : Int) == 0) = false := by rw [beq_eq_false_iff_ne]; omega
     have bk : ((nk : Int) = 0) = False := eq_false (by omega);have E : Hid (validN _ _ _ _ _ _ _ = false) := (show validN 1 6 g ni 0 32 nk = false by simp [validN, sizedN, hi, hg1, hg2, hk])
     clear hi hg1 hg2 hk;go_wp2_with fail
     go_ret
     exact ⟨by rw [E.out]; rfl, by first | exact hb | exact hb.drew⟩
    subst hk;have E : Hid (validN _ _ _ _ _ _ _ = true) := (show validN 1 6 g ni 0 32 0 = true by simp [validN, sizedN, hi, hg1, hg2])
    clear hi hg1 hg2;go_wp2_with fail
    go_ret
    exact ⟨by rw [E.out]; rfl, by first | exact hb | exact hb.drew⟩
   subst hd;have K : IntKind.i64.wrap (((0 : Nat) : Int) + ((0 : Nat) : Int)) = ((0 : Nat) : Int) + ((0 : Nat) : Int) := IntWalk.i64_in _ (by omega);have E : Hid (validN _ _ _ _ _ _ _ = false) := (show validN 1 6 g ni 0 0 nk = false by simp [validN, sizedN, hi, hg1, hg2])
   clear hi hg1 hg2;go_wp2_with fail
   go_ret
   exact ⟨by rw [E.out]; rfl, by first | exact hb | exact hb.drew⟩
  subst hv
  by_cases hx : nx = 0
  case neg =>
   have qx : ((nx : Int) == 0) = false := by rw [beq_eq_false_iff_ne]; omega
   have bx : ((nx : Int) = 0) = False := eq_false (by omega)
   by_cases hx2 : nx = 32
   case neg =>
    have qx2 : ((nx : Int) == 32) = false := by rw [beq_eq_false_iff_ne]; omega
    have bx2 : ((nx : Int) = 32) = False := eq_false (by omega);have E : Hid (validN _ _ _ _ _ _ _ = false) := (show validN 1 4 g ni nx nd nk = false by simp [validN, sizedN, hi, hg1, hg2, hx, hx2])
    clear hi hg1 hg2 hx hx2;go_wp2_with fail
    go_ret
    exact ⟨by rw [E.out]; rfl, by first | exact hb | exact hb.drew⟩
   subst hx2
   by_cases hd : nd = 0
   case neg =>
    have qd : ((nd : Int) == 0) = false := by rw [beq_eq_false_iff_ne]; omega
    have bd : ((nd : Int) = 0) = False := eq_false (by omega)
    by_cases hd2 : nd = 32
    case neg =>
     have qd2 : ((nd : Int) == 32) = false := by rw [beq_eq_false_iff_ne]; omega
     have bd2 : ((nd : Int) = 32) = False := eq_false (by omega);have E : Hid (validN _ _ _ _ _ _ _ = false) := (show validN 1 4 g ni 32 nd nk = false by simp [validN, sizedN, hi, hg1, hg2, hd, hd2])
     clear hi hg1 hg2 hd hd2;go_wp2_with fail
     go_ret
     exact ⟨by rw [E.out]; rfl, by first | exact hb | exact hb.drew⟩
    subst hd2;have K : IntKind.i64.wrap (((32 : Nat) : Int) + ((32 : Nat) : Int)) = ((32 : Nat) : Int) + ((32 : Nat) : Int) := IntWalk.i64_in _ (by omega)
    by_cases hk : nk = 0
    case neg =>
     have qk : ((nk : Int) == 0) = false := by rw [beq_eq_false_iff_ne]; omega
     have bk : ((nk : Int) = 0) = False := eq_false (by omega);have E : Hid (validN _ _ _ _ _ _ _ = false) := (show validN 1 4 g ni 32 32 nk = false by simp [validN, sizedN, hi, hg1, hg2, hk])
     clear hi hg1 hg2 hk;go_wp2_with fail
     go_ret
     exact ⟨by rw [E.out]; rfl, by first | exact hb | exact hb.drew⟩
    subst hk;have E : Hid (validN _ _ _ _ _ _ _ = true) := (show validN 1 4 g ni 32 32 0 = true by simp [validN, sizedN, hi, hg1, hg2])
    clear hi hg1 hg2;go_wp2_with fail
    go_ret
    exact ⟨by rw [E.out]; rfl, by first | exact hb | exact hb.drew⟩
   subst hd;have K : IntKind.i64.wrap (((32 : Nat) : Int) + ((0 : Nat) : Int)) = ((32 : Nat) : Int) + ((0 : Nat) : Int) := IntWalk.i64_in _ (by omega)
   by_cases hk : nk = 0
   case neg =>
    have qk : ((nk : Int) == 0) = false := by rw [beq_eq_false_iff_ne]; omega
    have bk : ((nk : Int) = 0) = False := eq_false (by omega);have E : Hid (validN _ _ _ _ _ _ _ = false) := (show validN 1 4 g ni 32 0 nk = false by simp [validN, sizedN, hi, hg1, hg2, hk])
    clear hi hg1 hg2 hk;go_wp2_with fail
    go_ret
    exact ⟨by rw [E.out]; rfl, by first | exact hb | exact hb.drew⟩
   subst hk;have E : Hid (validN _ _ _ _ _ _ _ = true) := (show validN 1 4 g ni 32 0 0 = true by simp [validN, sizedN, hi, hg1, hg2])
   clear hi hg1 hg2;go_wp2_with fail
   go_ret
   exact ⟨by rw [E.out]; rfl, by first | exact hb | exact hb.drew⟩
  subst hx
  by_cases hd : nd = 0
  case neg =>
   have qd : ((nd : Int) == 0) = false := by rw [beq_eq_false_iff_ne]; omega
   have bd : ((nd : Int) = 0) = False := eq_false (by omega)
   by_cases hd2 : nd = 32
   case neg =>
    have qd2 : ((nd : Int) == 32) = false := by rw [beq_eq_false_iff_ne]; omega
    have bd2 : ((nd : Int) = 32) = False := eq_false (by omega);have E : Hid (validN _ _ _ _ _ _ _ = false) := (show validN 1 4 g ni 0 nd nk = false by simp [validN, sizedN, hi, hg1, hg2, hd, hd2])
    clear hi hg1 hg2 hd hd2;go_wp2_with fail
    go_ret
    exact ⟨by rw [E.out]; rfl, by first | exact hb | exact hb.drew⟩
   subst hd2;have K : IntKind.i64.wrap (((0 : Nat) : Int) + ((32 : Nat) : Int)) = ((0 : Nat) : Int) + ((32 : Nat) : Int) := IntWalk.i64_in _ (by omega)
   by_cases hk : nk = 0
   case neg =>
    have qk : ((nk : Int) == 0) = false := by rw [beq_eq_false_iff_ne]; omega
    have bk : ((nk : Int) = 0) = False := eq_false (by omega);have E : Hid (validN _ _ _ _ _ _ _ = false) := (show validN 1 4 g ni 0 32 nk = false by simp [validN, sizedN, hi, hg1, hg2, hk])
    clear hi hg1 hg2 hk;go_wp2_with fail
    go_ret
    exact ⟨by rw [E.out]; rfl, by first | exact hb | exact hb.drew⟩
   subst hk;have E : Hid (validN _ _ _ _ _ _ _ = true) := (show validN 1 4 g ni 0 32 0 = true by simp [validN, sizedN, hi, hg1, hg2])
   clear hi hg1 hg2;go_wp2_with fail
   go_ret
   exact ⟨by rw [E.out]; rfl, by first | exact hb | exact hb.drew⟩
  subst hd;have K : IntKind.i64.wrap (((0 : Nat) : Int) + ((0 : Nat) : Int)) = ((0 : Nat) : Int) + ((0 : Nat) : Int) := IntWalk.i64_in _ (by omega);have E : Hid (validN _ _ _ _ _ _ _ = false) := (show validN 1 4 g ni 0 0 nk = false by simp [validN, sizedN, hi, hg1, hg2])
  clear hi hg1 hg2;go_wp2_with fail
  go_ret
  exact ⟨by rw [E.out]; rfl, by first | exact hb | exact hb.drew⟩
end
end Go.Proofs.YtmacemcajlgddaaGreatDoor
