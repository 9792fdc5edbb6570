/- squeezed. Walks: which keys are valid, by th -/
import Derived.Test.YtmacemcajlgddaaGreatDoorK02
import Derived.Test.YtmacemcajlgddaaGreatDoorK00
import Derived.Test.YtmacemcajlgddaaGreatDoorK01
import Derived.Deep.DeepCutAuto
import Derived.Deep.CutBlock
set_option linter.unusedVariables false
set_option linter.unusedSimpArgs false
set_option maxRecDepth 100000
set_option maxHeartbeats 12800000
namespace Go.Proofs.YtmacemcajlgddaaGreatDoor
open Go.RowKit
theorem sizedN_le {n : Nat} (h : sizedN n = true) : n ≤ 32 := by
 simp [sizedN] at h
 omega
section
variable (t v g : Int) (Ai : Option Addr) (ni ci : Nat) (Ax : Option Addr) (nx cx : Nat) (Ad : Option Addr) (nd cd : Nat) (Ak : Option Addr) (nk ck : Nat) (w : World)
theorem key_V1 (ht : t = 1) (hr : ni ≤ 16 ∧ -65536 ≤ g ∧ g ≤ 65535) : Calls Tryz.prog 20 #[.agg (keyC t v g Ai ni ci Ax nx cx Ad nd cd Ak nk ck)] w fun e w' => e = .returned (.bool (validN t v g ni nx nd nk)) ∧ Below w.heap.size w w' := by
 have hB := Blk.new w 24 (keyC t v g Ai ni ci Ax nx cx Ad nd cd Ak nk ck);have hb := below_box w (.cells (keyC t v g Ai ni ci Ax nx cx Ad nd cd Ak nk ck) 24);have c0 := hB.cell 0 rfl;have c1 := hB.cell 1 rfl;have c2 := hB.cell 2 rfl;have c3 := hB.cell 3 rfl;have c4 := hB.cell 4 rfl;have c5 := hB.cell 5 rfl;have c6 := hB.cell 6 rfl;subst ht;have hi := hr.1;have hg1 := hr.2.1;have hg2 := hr.2.2;have qi : ¬ (16 < (ni : Int)) := by omega
 have bi : decide (16 < (ni : Int)) = false := decide_eq_false qi;have qg1 : ¬ (g < -65536) := by omega
 have bg1 : decide (g < -65536) = false := decide_eq_false qg1;have qg2 : ¬ (65535 < g) := by omega
 have bg2 : decide (65535 < g) = false := decide_eq_false qg2;have hr9 := Hh hr;clear hr;have qv2 : ((4 : Int) == 6) = false := rfl
 by_cases hv : v = 4 ∨ v = 6
 case neg =>
  have hv4 : ¬ v = 4 := fun h => hv (.inl h)
  have hv6 : ¬ v = 6 := fun h => hv (.inr h)
  have qv : (v == 4) = false := by rw [beq_eq_false_iff_ne]; omega
  have bv : (v = 4) = False := eq_false hv4;have qw : (v == 6) = false := by rw [beq_eq_false_iff_ne]; omega
  have bw : (v = 6) = False := eq_false hv6;have E : Hid (validN _ _ _ _ _ _ _ = false) := (show validN 1 v g ni nx nd nk = false by simp [validN, hi, hg1, hg2, hv4, hv6])
  clear hi hg1 hg2 hv4 hv6;go_enter Tryz.func20, Tryz.ntmps20
  clear hv;go_wp2_with fail
  go_ret
  exact ⟨by rw [E.out]; rfl, hb⟩
 have HV : Hid ((decide (v = 4) || decide (v = 6)) = true) := by rw [Hid, Bool.or_eq_true, decide_eq_true_eq, decide_eq_true_eq]; exact hv
 by_cases hv4 : v = 4
 case pos =>
  subst hv4;clear hv HV
  cases sx : sizedN nx with
  | false =>
   have E : Hid (validN _ _ _ _ _ _ _ = false) := (show validN 1 4 g ni nx nd nk = false by simp [validN, hi, hg1, hg2, sx])
   clear hi hg1 hg2;go_enter Tryz.func20, Tryz.ntmps20
   go_wp2_with fail
   refine (key_sized _ _ _ _).mono ?_
   rintro e w3 ⟨rfl, rfl⟩
   rw [sx];go_wp2_with fail
   go_ret
   exact ⟨by rw [E.out]; rfl, hb⟩
  | true =>
  cases sd : sizedN nd with
  | false =>
   have E : Hid (validN _ _ _ _ _ _ _ = false) := (show validN 1 4 g ni nx nd nk = false by simp [validN, hi, hg1, hg2, sx, sd])
   clear hi hg1 hg2;go_enter Tryz.func20, Tryz.ntmps20
   go_wp2_with fail
   refine (key_sized _ _ _ _).mono ?_
   rintro e w3 ⟨rfl, rfl⟩
   rw [sx];go_wp2_with fail
   refine (key_sized _ _ _ _).mono ?_
   rintro e w4 ⟨rfl, rfl⟩
   rw [sd];go_wp2_with fail
   go_ret
   exact ⟨by rw [E.out]; rfl, hb⟩
  | true =>
  have hxl := sizedN_le sx;have hdl := sizedN_le sd;have K : IntKind.i64.wrap ((nx : Int) + (nd : Int)) = (nx : Int) + (nd : Int) := IntWalk.i64_in _ (by omega)
  by_cases hs : 0 < nx + nd
  case neg =>
   obtain ⟨rfl, rfl⟩ : nx = 0 ∧ nd = 0 := by omega
   have E : Hid (validN _ _ _ _ _ _ _ = false) := (show validN 1 4 g ni 0 0 nk = false by simp [validN, hi, hg1, hg2])
   clear hi hg1 hg2;go_enter Tryz.func20, Tryz.ntmps20
   go_wp2_with fail
   refine (key_sized _ _ _ _).mono ?_
   rintro e w3 ⟨rfl, rfl⟩
   rw [sx];go_wp2_with fail
   refine (key_sized _ _ _ _).mono ?_
   rintro e w4 ⟨rfl, rfl⟩
   rw [sd];go_wp2_with fail
   go_ret
   exact ⟨by rw [E.out]; rfl, hb⟩
  have hsI : (0 : Int) < (nx : Int) + (nd : Int) := by omega
  have hsD : decide ((0 : Int) < (nx : Int) + (nd : Int)) = true := decide_eq_true hsI;have hsN : decide (0 < nx + nd) = true := decide_eq_true hs
  by_cases hk : nk = 0
  case neg =>
   have qk : ((nk : Int) == 0) = false := by rw [beq_eq_false_iff_ne]; omega
   have bk : ((nk : Int) = 0) = False := eq_false (by omega);have E : Hid (validN _ _ _ _ _ _ _ = false) := (show validN 1 4 g ni nx nd nk = false by simp [validN, hi, hg1, hg2, hk])
   clear hi hg1 hg2 hk;go_enter Tryz.func20, Tryz.ntmps20
   clear hxl hdl;go_wp2_with fail
   refine (key_sized _ _ _ _).mono ?_
   rintro e w3 ⟨rfl, rfl⟩
   rw [sx];go_wp2_with fail
   refine (key_sized _ _ _ _).mono ?_
   rintro e w4 ⟨rfl, rfl⟩
   rw [sd];go_wp2_with fail
   go_ret
   exact ⟨by rw [E.out]; rfl, hb⟩
  subst hk;have E : Hid (validN _ _ _ _ _ _ _ = true) := (show validN 1 4 g ni nx nd 0 = true by simp [validN, hi, hg1, hg2, sx, sd]; exact hs)
  clear hi hg1 hg2;go_enter Tryz.func20, Tryz.ntmps20
  clear hxl hdl;go_wp2_with fail
  refine (key_sized _ _ _ _).mono ?_
  rintro e w3 ⟨rfl, rfl⟩
  rw [sx];go_wp2_with fail
  refine (key_sized _ _ _ _).mono ?_
  rintro e w4 ⟨rfl, rfl⟩
  rw [sd];go_wp2_with fail
  go_ret
  exact ⟨by rw [E.out]; rfl, hb⟩
 have hv6 : v = 6 := by omega
 subst hv6;clear hv HV hv4;have q64 : ((6 : Int) == 4) = false := rfl
 cases sx : sizedN nx with
 | false =>
  have E : Hid (validN _ _ _ _ _ _ _ = false) := (show validN 1 6 g ni nx nd nk = false by simp [validN, hi, hg1, hg2, sx])
  clear hi hg1 hg2;go_enter Tryz.func20, Tryz.ntmps20
  go_wp2_with fail
  refine (key_sized _ _ _ _).mono ?_
  rintro e w3 ⟨rfl, rfl⟩
  rw [sx];go_wp2_with fail
  go_ret
  exact ⟨by rw [E.out]; rfl, hb⟩
 | true =>
 cases sd : sizedN nd with
 | false =>
  have E : Hid (validN _ _ _ _ _ _ _ = false) := (show validN 1 6 g ni nx nd nk = false by simp [validN, hi, hg1, hg2, sx, sd])
  clear hi hg1 hg2;go_enter Tryz.func20, Tryz.ntmps20
  go_wp2_with fail
  refine (key_sized _ _ _ _).mono ?_
  rintro e w3 ⟨rfl, rfl⟩
  rw [sx];go_wp2_with fail
  refine (key_sized _ _ _ _).mono ?_
  rintro e w4 ⟨rfl, rfl⟩
  rw [sd];go_wp2_with fail
  go_ret
  exact ⟨by rw [E.out]; rfl, hb⟩
 | true =>
 have hxl := sizedN_le sx;have hdl := sizedN_le sd;have K : IntKind.i64.wrap ((nx : Int) + (nd : Int)) = (nx : Int) + (nd : Int) := IntWalk.i64_in _ (by omega)
 by_cases hs : 0 < nx + nd
 case neg =>
  obtain ⟨rfl, rfl⟩ : nx = 0 ∧ nd = 0 := by omega
  have E : Hid (validN _ _ _ _ _ _ _ = false) := (show validN 1 6 g ni 0 0 nk = false by simp [validN, hi, hg1, hg2])
  clear hi hg1 hg2;go_enter Tryz.func20, Tryz.ntmps20
  go_wp2_with fail
  refine (key_sized _ _ _ _).mono ?_
  rintro e w3 ⟨rfl, rfl⟩
  rw [sx];go_wp2_with fail
  refine (key_sized _ _ _ _).mono ?_
  rintro e w4 ⟨rfl, rfl⟩
  rw [sd];go_wp2_with fail
  go_ret
  exact ⟨by rw [E.out]; rfl, hb⟩
 have hsI : (0 : Int) < (nx : Int) + (nd : Int) := by omega
 have hsD : decide ((0 : Int) < (nx : Int) + (nd : Int)) = true := decide_eq_true hsI;have hsN : decide (0 < nx + nd) = true := decide_eq_true hs
 by_cases hk : nk = 0
 case neg =>
  have qk : ((nk : Int) == 0) = false := by rw [beq_eq_false_iff_ne]; omega
  have bk : ((nk : Int) = 0) = False := eq_false (by omega);have E : Hid (validN _ _ _ _ _ _ _ = false) := (show validN 1 6 g ni nx nd nk = false by simp [validN, hi, hg1, hg2, hk])
  clear hi hg1 hg2 hk;go_enter Tryz.func20, Tryz.ntmps20
  clear hxl hdl;go_wp2_with fail
  refine (key_sized _ _ _ _).mono ?_
  rintro e w3 ⟨rfl, rfl⟩
  rw [sx];go_wp2_with fail
  refine (key_sized _ _ _ _).mono ?_
  rintro e w4 ⟨rfl, rfl⟩
  rw [sd];go_wp2_with fail
  go_ret
  exact ⟨by rw [E.out]; rfl, hb⟩
 subst hk;have E : Hid (validN _ _ _ _ _ _ _ = true) := (show validN 1 6 g ni nx nd 0 = true by simp [validN, hi, hg1, hg2, sx, sd]; exact hs)
 clear hi hg1 hg2;go_enter Tryz.func20, Tryz.ntmps20
 clear hxl hdl;go_wp2_with fail
 refine (key_sized _ _ _ _).mono ?_
 rintro e w3 ⟨rfl, rfl⟩
 rw [sx];go_wp2_with fail
 refine (key_sized _ _ _ _).mono ?_
 rintro e w4 ⟨rfl, rfl⟩
 rw [sd];go_wp2_with fail
 go_ret
 exact ⟨by rw [E.out]; rfl, hb⟩
theorem key_V4 (ht : t = 4) (h2 : nx ≤ 9223372036854775807) (h3 : nd ≤ 9223372036854775807) (hr : ni ≤ 16 ∧ -65536 ≤ g ∧ g ≤ 65535) : Calls Tryz.prog 20 #[.agg (keyC t v g Ai ni ci Ax nx cx Ad nd cd Ak nk ck)] w fun e w' => e = .returned (.bool (validN t v g ni nx nd nk)) ∧ Below w.heap.size w w' := by
 have hB := Blk.new w 24 (keyC t v g Ai ni ci Ax nx cx Ad nd cd Ak nk ck);have hb := below_box w (.cells (keyC t v g Ai ni ci Ax nx cx Ad nd cd Ak nk ck) 24);have c0 := hB.cell 0 rfl;have c1 := hB.cell 1 rfl;have c2 := hB.cell 2 rfl;have c3 := hB.cell 3 rfl;have c4 := hB.cell 4 rfl;have c5 := hB.cell 5 rfl;have c6 := hB.cell 6 rfl;subst ht;have Z1 := Hh (And.intro h2 h3);clear h2 h3;have hi := hr.1;have hg1 := hr.2.1;have hg2 := hr.2.2;have qi : ¬ (16 < (ni : Int)) := by omega
 have bi : decide (16 < (ni : Int)) = false := decide_eq_false qi;have qg1 : ¬ (g < -65536) := by omega
 have bg1 : decide (g < -65536) = false := decide_eq_false qg1;have qg2 : ¬ (65535 < g) := by omega
 have bg2 : decide (65535 < g) = false := decide_eq_false qg2;have hr9 := Hh hr;clear hr;have q41 : ((4 : Int) == 1) = false := rfl
 by_cases hv : v = 0
 case neg =>
  have qv : (v == 0) = false := by rw [beq_eq_false_iff_ne]; omega
  have bv : (v = 0) = False := eq_false hv;have E : Hid (validN _ _ _ _ _ _ _ = false) := (show validN 4 v g ni nx nd nk = false by simp [validN, hi, hg1, hg2, hv])
  clear hi hg1 hg2 hv;go_enter Tryz.func20, Tryz.ntmps20
  go_wp2_with fail
  go_ret
  exact ⟨by rw [E.out]; rfl, hb⟩
 subst hv
 by_cases hs : nx + nd = 0
 case neg =>
  have as0 : (IntKind.i64.wrap ((nx : Int) + (nd : Int)) == 0) = false := by rw [beq_eq_false_iff_ne]; exact wrap_sum0 Z1.out.1 Z1.out.2 hs
  have as1 : (IntKind.i64.wrap ((nx : Int) + (nd : Int)) = 0) = False := eq_false (wrap_sum0 Z1.out.1 Z1.out.2 hs);have as2 : (wrap64 ((nx : Int) + (nd : Int)) == 0) = false := by rw [beq_eq_false_iff_ne]; exact wrap64_sum0 Z1.out.1 Z1.out.2 hs
  have as3 : (wrap64 ((nx : Int) + (nd : Int)) = 0) = False := eq_false (wrap64_sum0 Z1.out.1 Z1.out.2 hs);have E : Hid (validN _ _ _ _ _ _ _ = false) := (show validN 4 0 g ni nx nd nk = false by simp [validN, hi, hg1, hg2, hs] <;> omega)
  clear hi hg1 hg2 hs;go_enter Tryz.func20, Tryz.ntmps20
  go_wp2_with fail
  go_ret
  exact ⟨by rw [E.out]; rfl, hb⟩
 obtain ⟨rfl, rfl⟩ : nx = 0 ∧ nd = 0 := by omega
 have K : IntKind.i64.wrap (((0 : Nat) : Int) + ((0 : Nat) : Int)) = ((0 : Nat) : Int) + ((0 : Nat) : Int) := IntWalk.i64_in _ (by omega)
 by_cases hk1 : 1 ≤ nk
 case neg =>
  have qk1 : ¬ (0 : Int) < (nk : Int) := by omega
  have bk1 : decide ((0 : Int) < (nk : Int)) = false := decide_eq_false qk1;have ck1 : ¬ (1 : Int) ≤ (nk : Int) := by omega
  have dk1 : decide ((1 : Int) ≤ (nk : Int)) = false := decide_eq_false ck1;have E : Hid (validN _ _ _ _ _ _ _ = false) := (show validN 4 0 g ni 0 0 nk = false by simp [validN, hi, hg1, hg2, hk1])
  clear hi hg1 hg2 hk1;go_enter Tryz.func20, Tryz.ntmps20
  go_wp2_with fail
  go_ret
  exact ⟨by rw [E.out]; rfl, hb⟩
 have qk1 : (0 : Int) < (nk : Int) := by omega
 have bk1 : decide ((0 : Int) < (nk : Int)) = true := decide_eq_true qk1;have ck1 : (1 : Int) ≤ (nk : Int) := by omega
 have dk1 : decide ((1 : Int) ≤ (nk : Int)) = true := decide_eq_true ck1
 by_cases hk2 : nk ≤ 64
 case neg =>
  have rk2 : ¬ ((nk : Int) ≤ 64) := by omega
  have sk2 : decide ((nk : Int) ≤ 64) = false := decide_eq_false rk2;have E : Hid (validN _ _ _ _ _ _ _ = false) := (show validN 4 0 g ni 0 0 nk = false by simp [validN, hi, hg1, hg2, hk1, hk2])
  clear hi hg1 hg2 hk1 hk2;go_enter Tryz.func20, Tryz.ntmps20
  go_wp2_with fail
  go_ret
  exact ⟨by rw [E.out]; rfl, hb⟩
 have rk2 : (nk : Int) ≤ 64 := by omega
 have sk2 : decide ((nk : Int) ≤ 64) = true := decide_eq_true rk2;have E : Hid (validN _ _ _ _ _ _ _ = true) := (show validN 4 0 g ni 0 0 nk = true by simp [validN, hi, hg1, hg2, hk1, hk2])
 clear hi hg1 hg2 hk1 hk2;go_enter Tryz.func20, Tryz.ntmps20
 go_wp2_with fail
 go_ret
 exact ⟨by rw [E.out]; rfl, hb⟩
theorem key_V0 (ht : ni ≤ 16 ∧ -65536 ≤ g ∧ g ≤ 65535 → ¬ t = 1 ∧ ¬ t = 4) : Calls Tryz.prog 20 #[.agg (keyC t v g Ai ni ci Ax nx cx Ad nd cd Ak nk ck)] w fun e w' => e = .returned (.bool (validN t v g ni nx nd nk)) ∧ Below w.heap.size w w' := by
 have hB := Blk.new w 24 (keyC t v g Ai ni ci Ax nx cx Ad nd cd Ak nk ck);have hb := below_box w (.cells (keyC t v g Ai ni ci Ax nx cx Ad nd cd Ak nk ck) 24);have c0 := hB.cell 0 rfl;have c1 := hB.cell 1 rfl;have c2 := hB.cell 2 rfl;have c3 := hB.cell 3 rfl;have c4 := hB.cell 4 rfl;have c5 := hB.cell 5 rfl;have c6 := hB.cell 6 rfl
 by_cases hi : ni ≤ 16
 case neg =>
  have ri : ¬ ((ni : Int) ≤ 16) := by omega
  have si : decide ((ni : Int) ≤ 16) = false := decide_eq_false ri;have qi : 16 < (ni : Int) := by omega
  have bi : decide (16 < (ni : Int)) = true := decide_eq_true qi;clear ht;have E : Hid (validN _ _ _ _ _ _ _ = false) := (show validN t v g ni nx nd nk = false by simp [validN, hi])
  clear hi;go_enter Tryz.func20, Tryz.ntmps20
  go_wp2_with fail
  go_ret
  exact ⟨by rw [E.out]; rfl, hb⟩
 have qi : ¬ (16 < (ni : Int)) := by omega
 have bi : decide (16 < (ni : Int)) = false := decide_eq_false qi
 by_cases hg1 : -65536 ≤ g
 case neg =>
  have qg1 : g < -65536 := by omega
  have bg1 : decide (g < -65536) = true := decide_eq_true qg1;clear ht;have E : Hid (validN _ _ _ _ _ _ _ = false) := (show validN t v g ni nx nd nk = false by simp [validN, hi, hg1])
  clear hi hg1;go_enter Tryz.func20, Tryz.ntmps20
  go_wp2_with fail
  go_ret
  exact ⟨by rw [E.out]; rfl, hb⟩
 have qg1 : ¬ (g < -65536) := by omega
 have bg1 : decide (g < -65536) = false := decide_eq_false qg1
 by_cases hg2 : g ≤ 65535
 case neg =>
  have qg2 : 65535 < g := by omega
  have bg2 : decide (65535 < g) = true := decide_eq_true qg2;clear ht;have E : Hid (validN _ _ _ _ _ _ _ = false) := (show validN t v g ni nx nd nk = false by simp [validN, hi, hg1, hg2])
  clear hi hg1 hg2;go_enter Tryz.func20, Tryz.ntmps20
  go_wp2_with fail
  go_ret
  exact ⟨by rw [E.out]; rfl, hb⟩
 have qg2 : ¬ (65535 < g) := by omega
 have bg2 : decide (65535 < g) = false := decide_eq_false qg2;obtain ⟨ht1, ht4⟩ := ht ⟨hi, hg1, hg2⟩;clear ht;have q1 : (t == 1) = false := by rw [beq_eq_false_iff_ne]; omega
 have b1 : (t = 1) = False := eq_false ht1;have q4 : (t == 4) = false := by rw [beq_eq_false_iff_ne]; omega
 have b4 : (t = 4) = False := eq_false ht4;have E : Hid (validN _ _ _ _ _ _ _ = false) := (show validN t v g ni nx nd nk = false by simp [validN, hi, hg1, hg2, ht1, ht4])
 clear hi hg1 hg2 ht1 ht4;go_enter Tryz.func20, Tryz.ntmps20
 go_wp2_with fail
 go_ret
 exact ⟨by rw [E.out]; rfl, hb⟩
theorem key_ValidN (h2 : nx ≤ 9223372036854775807) (h3 : nd ≤ 9223372036854775807) :
  Calls Tryz.prog 20 #[.agg (keyC t v g Ai ni ci Ax nx cx Ad nd cd Ak nk ck)] w fun e w' => e = .returned (.bool (validN t v g ni nx nd nk)) ∧ Below w.heap.size w w' := by
 by_cases hr : ni ≤ 16 ∧ -65536 ≤ g ∧ g ≤ 65535
 ·by_cases h1 : t = 1
  ·exact key_V1 t v g Ai ni ci Ax nx cx Ad nd cd Ak nk ck w h1 hr
  ·by_cases h4 : t = 4
   ·exact key_V4 t v g Ai ni ci Ax nx cx Ad nd cd Ak nk ck w h4 h2 h3 hr
   ·exact key_V0 t v g Ai ni ci Ax nx cx Ad nd cd Ak nk ck w (fun _ => ⟨h1, h4⟩)
 ·exact key_V0 t v g Ai ni ci Ax nx cx Ad nd cd Ak nk ck w (fun h => absurd h hr)
end
def u8 (n : Nat) : UInt8 := UInt8.ofNat n
theorem u8_toNat (n : Nat) : (u8 n).toNat = n % 256 := by simp [u8]
theorem byteV_u8 (n : Nat) : byteV (u8 n) = .int .u8 ((n % 256 : Nat) : Int) := by simp [byteV, u8_toNat]
theorem byteV_of (x : Int) (n : Nat) (h : x = ((n % 256 : Nat) : Int)) : Value.int .u8 x = byteV (u8 n) := by rw [byteV_u8, h]
def be8 (n : Nat) : Nat → List UInt8
 | 0 => []
 | k + 1 => be8 n k ++ [u8 (n / 2 ^ (56 - 8 * k))]
theorem be8_length (n k : Nat) : (be8 n k).length = k := by induction k <;> simp [be8, *]
def headB (m n : Nat) : List UInt8 :=
 if n < 24 then [u8 (m * 32 + n)]
 else if n < 256 then [u8 (m * 32 + 24), u8 n]
 else if n < 65536 then [u8 (m * 32 + 25), u8 (n / 256), u8 n]
 else if n < 4294967296 then [u8 (m * 32 + 26), u8 (n / 16777216), u8 (n / 65536), u8 (n / 256), u8 n]
 else u8 (m * 32 + 27) :: be8 n 8
theorem headB_length (m n : Nat) : (headB m n).length = if n < 24 then 1 else if n < 256 then 2 else if n < 65536 then 3 else if n < 4294967296 then 5 else 9 := by
 unfold headB
 repeat' split
 all_goals simp [be8_length]
theorem headB_le (m n : Nat) : 1 ≤ (headB m n).length ∧ (headB m n).length ≤ 9 := by
 rw [headB_length]
 repeat' split
 all_goals omega
theorem ofInt_u8 (a : Nat) (ha : a < 256) : (BitVec.ofInt 8 (a : Int)).toNat = a := by
 rw [BitVec.ofInt_natCast, BitVec.toNat_ofNat]; exact Nat.mod_eq_of_lt (by omega)
theorem u8_or_nat (a b : Nat) (ha : a < 256) (hb : b < 256) : bits .or .u8 (a : Int) (b : Int) = ((a ||| b : Nat) : Int) := by
 have hx : a ||| b < 2 ^ 8 := Nat.or_lt_two_pow (by omega) (by omega);show IntKind.u8.wrap ((BitVec.ofInt 8 (a : Int) ||| BitVec.ofInt 8 (b : Int)).toNat : Int) = _
 rw [BitVec.toNat_or, ofInt_u8 a ha, ofInt_u8 b hb, IntKind.wrap_u8]
 omega
theorem or_head (m n : Nat) (hn : n < 32) : m * 32 ||| n = m * 32 + n := by
 have h := Nat.two_pow_add_eq_or_of_lt (i := 5) (b := n) (by omega) m;rw [show 2 ^ 5 * m = m * 32 by omega] at h
 exact h.symm
theorem u8_head (m n : Nat) (hm : m < 8) (hn : n < 32) : bits .or .u8 ((m : Int) * 32) (n : Int) = ((m * 32 + n : Nat) : Int) := by
 have h := u8_or_nat (m * 32) n (by omega) (by omega);rw [or_head m n hn] at h
 simpa using h
def isNaN (n : Nat) : Bool := n / 2 ^ 52 % 2048 == 2047 && n % 2 ^ 52 != 0
def narrow (n eb mb : Nat) : Option Nat :=
 let sign := n / 2 ^ 63 * 2 ^ (eb + mb)
 let e := n / 2 ^ 52 % 2048
 let m := n % 2 ^ 52
 let top := 2 ^ eb - 1
 let bias := 2 ^ (eb - 1) - 1
 if e = 2047 then (if m = 0 then some (sign + top * 2 ^ mb) else none)
 else if e = 0 then (if m = 0 then some sign else none)
 else if 1023 + top ≤ e + bias then none
 else if 1023 < e + bias then (if m % 2 ^ (52 - mb) = 0 then some (sign + (e + bias - 1023) * 2 ^ mb + m / 2 ^ (52 - mb)) else none)
 else
  let shift := 53 - mb + (1023 - e - bias)
  if 52 < shift then none else if (m + 2 ^ 52) % 2 ^ shift = 0 then some (sign + (m + 2 ^ 52) / 2 ^ shift) else none
def floatB (n : Nat) : List UInt8 :=
 if isNaN n then [u8 249, u8 126, u8 0] else
 match narrow n 5 10 with
 | some v => [u8 249, u8 (v / 256), u8 v]
 | none => match narrow n 8 23 with
  | some v => [u8 250, u8 (v / 16777216), u8 (v / 65536), u8 (v / 256), u8 v]
  | none => u8 251 :: be8 n 8
theorem floatB_length (n : Nat) : (floatB n).length = 3 ∨ (floatB n).length = 5 ∨ (floatB n).length = 9 := by
 unfold floatB
 repeat' split
 all_goals simp [be8_length]
def numP (x : Itm) : Nat :=
 if x.kind = 2 ∨ x.kind = 3 then x.bytes.length else if x.kind = 4 then x.items.length else if x.kind = 5 then x.items.length / 2 else x.n
mutual
def encB : Itm → List UInt8
 | .mk k n bs l =>
  if k = 8 then floatB n
  else if k = 7 ∧ 24 ≤ n then [u8 248, u8 n]
  else headB k.toNat (numP (.mk k n bs l)) ++ bs ++ encL l
def encL : List Itm → List UInt8
 | [] => []
 | x :: l => encB x ++ encL l
end
theorem encL_append (l m : List Itm) : encL (l ++ m) = encL l ++ encL m := by
 induction l with
 | nil => rw [List.nil_append, encL, List.nil_append]
 | cons x l ih => rw [List.cons_append, encL, encL, ih, List.append_assoc]
theorem encL_take_succ (l : List Itm) (k : Nat) (h : k < l.length) : encL (l.take (k + 1)) = encL (l.take k) ++ encB l[k] := by
 rw [List.take_succ_eq_append_getElem h, encL_append, encL, encL, List.append_nil]
theorem encB_eq (x : Itm) : encB x = if x.kind = 8 then floatB x.n else if x.kind = 7 ∧ 24 ≤ x.n then [u8 248, u8 x.n] else headB x.kind.toNat (numP x) ++ x.bytes ++ encL x.items := by
 cases x
 rw [encB];rfl
theorem encL_take_le (l : List Itm) (k : Nat) : (encL (l.take k)).length ≤ (encL l).length := by
 have h := encL_append (l.take k) (l.drop k);rw [List.take_append_drop] at h;rw [h]
 simp
mutual
def Kinds : Itm → Prop
 | .mk k _ _ l => (0 ≤ k ∧ k ≤ 8) ∧ KindsL l
def KindsL : List Itm → Prop
 | [] => True
 | x :: l => Kinds x ∧ KindsL l
end
theorem Kinds.kind {x : Itm} (h : Kinds x) : 0 ≤ x.kind ∧ x.kind ≤ 8 := by cases x; rw [Kinds] at h; exact h.1
theorem Kinds.items {x : Itm} (h : Kinds x) : KindsL x.items := by cases x; rw [Kinds] at h; exact h.2
theorem KindsL.get : ∀ {l : List Itm}, KindsL l → ∀ (k : Nat) (hk : k < l.length), Kinds l[k]
 | [], _, k, hk => by simp at hk
 | x :: l, h, 0, _ => by rw [KindsL] at h; exact h.1
 | x :: l, h, k + 1, hk => by rw [KindsL] at h; exact h.2.get k (by simpa using hk)
mutual
def cnt : Itm → Nat
 | .mk _ _ _ l => cntL l + 1
def cntL : List Itm → Nat
 | [] => 0
 | x :: l => cnt x + cntL l
end
theorem cntL_get : ∀ (l : List Itm) (k : Nat) (hk : k < l.length), cnt l[k] ≤ cntL l
 | [], k, hk => by simp at hk
 | x :: l, 0, _ => by rw [cntL]; simp
 | x :: l, k + 1, hk => by
  have := cntL_get l k (by simpa using hk);rw [cntL]
  simp only [List.getElem_cons_succ]
  omega
theorem cnt_items (x : Itm) (k : Nat) (hk : k < x.items.length) : cnt x.items[k] < cnt x := by
 cases x with
 | mk a b c l =>
  have := cntL_get l k hk;rw [cnt]
  simp only [Itm.items]
  omega
theorem ref_Compare (w : World) (A B : Option Addr) (a b : List UInt8) (n m c d : Nat) (hn : n = a.length) (hm : m = b.length) (hna : n ≤ 1099511627776) (hmb : m ≤ 1099511627776) (ha : Src w A (a.map byteV)) (hb : Src w B (b.map byteV)) :
  Calls Tryz.prog 73 #[.slice A n c, .slice B m d] w fun e w' => e = .returned (.int .i64 (Lib.compareBytes a b)) ∧ Below w.heap.size w w' := by
 have HN := Hh hn;have HM := Hh hm;clear hn hm;go_enter Tryz.func73, Tryz.ntmps73
 go_wp2_with fail
 go_loopw [5] (fun vi wr => ∃ k : Nat, k ≤ n ∧ k ≤ m ∧ vi = .int .i64 k ∧ Lib.compareBytes (a.drop k) (b.drop k) = Lib.compareBytes a b ∧ Below w.heap.size w wr) (fun vi _ => n - (intOf vi).toNat)
 case atStart => exact ⟨0, by omega, by omega, rfl, by simp, Below.refl _ _⟩
 case round =>
  obtain ⟨k, hk1, hk2, rfl, hc, hbr⟩ := hrel;have hn := HN.out;have hm := HM.out
  by_cases h1 : k < n
  ·by_cases h2 : k < m
   ·obtain ⟨ab, ao, rfl, hsa⟩ := (ha.below hbr) (by intro h; simp at h; subst h; simp at hn; omega)
    obtain ⟨bb, bo, rfl, hsb⟩ := (hb.below hbr) (by intro h; simp at h; subst h; simp at hm; omega)
    have ka : k < a.length := by omega
    have kb : k < b.length := by omega
    have p0 := hsa k (byteV a[k]) (by simp [ka]);have q0 := hsb k (byteV b[k]) (by simp [kb])
    have hd : Lib.compareBytes (a.drop k) (b.drop k) = if a[k] < b[k] then -1 else if b[k] < a[k] then 1 else Lib.compareBytes (a.drop (k + 1)) (b.drop (k + 1)) := by
     rw [List.drop_eq_getElem_cons ka, List.drop_eq_getElem_cons kb, Lib.compareBytes]
    rw [hc] at hd
    generalize a[k]'ka = x at *
    generalize b[k]'kb = y at *
    have HD := Hh hd;clear hd hc hn hm hsa hsb ka kb;go_upto_region 4 with fail
    refine wp_region_ways 8 (fun w' => w'.cell? ⟨ab, ao + k, none⟩ = some (byteV x) ∧ w'.cell? ⟨bb, bo + k, none⟩ = some (byteV y)) (by kernel_rfl) (⟨p0, q0⟩) (fun hHeld => ?_)
    refine Tk 0 rfl hHeld ?_
    refine Tk 1 rfl hHeld ?_
    refine Tk 2 rfl hHeld ?_
    refine Tk 3 rfl hHeld ?_
    refine Tk 4 rfl hHeld ?_
    refine Tk 5 rfl hHeld ?_
    refine Tk 6 rfl hHeld ?_
    refine Tk 7 rfl hHeld ?_
    refine To 8 rfl fun K hK => ?_
    go_simp
    refine hK.out _ _ (fun h => absurd rfl h) (fun _ => ?_)
    clear hK K
    try simp only [Act.put, zz4, zz5, zz6]
    refine Ways.done (by kernel_rfl) ?_
    clear hHeld
    by_cases hxy : x = y
    ·subst hxy;have E : Hid (Lib.compareBytes (a.drop (k + 1)) (b.drop (k + 1)) = Lib.compareBytes a b) := by rw [Hid, HD.out, if_neg (UInt8.lt_irrefl x), if_neg (UInt8.lt_irrefl x)]
     have hb2 := hbr.drew;go_wp2_with fail
     go_roundw
     case rel => exact ⟨k + 1, by omega, by omega, by go_num, E.out, hb2⟩
     case measure => simp [intOf]; omega
    ·have hne : ((x.toNat : Int) != (y.toNat : Int)) = true := by
      rw [bne_iff_ne]
      intro h
      exact hxy (UInt8.toNat_inj.1 (by omega))
     have hb2 := hbr.drew.drew;have HXY := Hh hxy;clear hxy;go_upto_region 5 with fail
     refine wp_region_ways 8 (fun w' => w'.cell? ⟨ab, ao + k, none⟩ = some (byteV x) ∧ w'.cell? ⟨bb, bo + k, none⟩ = some (byteV y)) (by kernel_rfl) (⟨p0, q0⟩) (fun hHeld => ?_)
     refine Tk 0 rfl hHeld ?_
     refine Tk 1 rfl hHeld ?_
     refine Tk 2 rfl hHeld ?_
     refine Tk 3 rfl hHeld ?_
     refine Tk 4 rfl hHeld ?_
     refine Tk 5 rfl hHeld ?_
     refine Tk 6 rfl hHeld ?_
     refine Tk 7 rfl hHeld ?_
     refine To 8 rfl fun K hK => ?_
     go_simp
     refine hK.out _ _ (fun h => absurd rfl h) (fun _ => ?_)
     clear hK K
     try simp only [Act.put, zz4, zz5, zz6]
     refine Ways.done (by kernel_rfl) ?_
     clear hHeld
     by_cases hl : x < y
     ·have E : Hid (Lib.compareBytes a b = -1) := by rw [Hid, HD.out, if_pos hl]
      have hl2 : (x.toNat : Int) < (y.toNat : Int) := by have := UInt8.lt_iff_toNat_lt.1 hl; omega
      clear hl;go_wp2_with fail
      go_ret
      exact ⟨by rw [E.out]; rfl, hb2⟩
     ·have hg : y < x := by
       have := HXY.out
       rcases Nat.lt_trichotomy x.toNat y.toNat with h | h | h
       ·exact absurd (UInt8.lt_iff_toNat_lt.2 h) hl
       ·exact absurd (UInt8.toNat_inj.1 h) this
       ·exact UInt8.lt_iff_toNat_lt.2 h
      have E : Hid (Lib.compareBytes a b = 1) := by rw [Hid, HD.out, if_neg hl, if_pos hg]
      have hl2 : (y.toNat : Int) ≤ (x.toNat : Int) := by have := UInt8.lt_iff_toNat_lt.1 hg; omega
      clear hl hg;go_wp2_with fail
      go_ret
      exact ⟨by rw [E.out]; rfl, hbr.drew.drew⟩
   ·have hkm : k = m := by omega
    have E : Hid (Lib.compareBytes a b = 1) := by
     rw [Hid, ← hc, List.drop_eq_getElem_cons (show k < a.length by omega), List.drop_eq_nil_of_le (show b.length ≤ k by omega), Lib.compareBytes]
    clear hc hn hm;go_wp2_with fail
    go_ret
    exact ⟨by rw [E.out]; rfl, hbr⟩
  ·have hkn : k = n := by omega
   by_cases h2 : k < m
   ·have E : Hid (Lib.compareBytes a b = -1) := by
     rw [Hid, ← hc, List.drop_eq_nil_of_le (show a.length ≤ k by omega), List.drop_eq_getElem_cons (show k < b.length by omega), Lib.compareBytes]
    clear hc hn hm;go_wp2_with fail
    go_ret
    exact ⟨by rw [E.out]; rfl, hbr⟩
   ·have E : Hid (Lib.compareBytes a b = 0) := by
     rw [Hid, ← hc, List.drop_eq_nil_of_le (show a.length ≤ k by omega), List.drop_eq_nil_of_le (show b.length ≤ k by omega), Lib.compareBytes]
    clear hc hn hm;go_wp2_with fail
    go_ret
    exact ⟨by rw [E.out]; rfl, hbr⟩
theorem OwnB.blk {w : World} {g base : Nat} {cs : Array Value} {l : List UInt8} (h : Blk w g 5 cs) (hc : cs.toList = l.map byteV) (hb : base ≤ g) (hm : l.length ≤ 4096) (k : Nat) (hk : k = l.length) :
  OwnB w base (.slice (some ⟨g, 0, none⟩) k k) l := by
 subst hk
 refine ⟨by simp, .inr ⟨g, l.length, cs, rfl, hb, h, Nat.le_refl _, by simp only [maxLen]; omega, ?_, ?_⟩⟩
 ·rw [← Array.length_toList, hc]; simp
 ·rw [hc, Nat.mul_one]; exact List.take_of_length_le (by simp)
def tailB (n s j : Nat) : List UInt8 := (List.range j).map fun t => u8 (n / 2 ^ (8 * (s - 1 - t)))
theorem tailB_succ (n s j : Nat) : tailB n s (j + 1) = tailB n s j ++ [u8 (n / 2 ^ (8 * (s - 1 - j)))] := by
 simp [tailB, List.range_succ]
theorem tailB_len (n s j : Nat) : (tailB n s j).length = j := by simp [tailB]
def tailF (n s j : Nat) : UInt8 := u8 (n / 2 ^ (8 * (s - 1 - j)))
def headS (n : Nat) : Nat := if n < 256 then 1 else if n < 65536 then 2 else if n < 4294967296 then 4 else 8
def headA (n : Nat) : Nat := if n < 256 then 24 else if n < 65536 then 25 else if n < 4294967296 then 26 else 27
def headF (m n : Nat) : UInt8 := u8 (m * 32 + headA n)
theorem headB_tail (m n : Nat) (h : 24 ≤ n) : headB m n = headF m n :: tailB n (headS n) (headS n) := by
 rw [headB, if_neg (by omega), headF, headA, headS]
 by_cases h1 : n < 256
 ·simp [h1, tailB, List.range_succ]
 by_cases h2 : n < 65536
 ·simp [h1, h2, tailB, List.range_succ]
 by_cases h3 : n < 4294967296
 ·simp [h1, h2, h3, tailB, List.range_succ]
 ·simp [h1, h2, h3, tailB, be8, List.range_succ]
theorem head_1 {n : Int} (h : n < 256) : headS n.toNat = 1 ∧ headA n.toNat = 24 := by
 constructor <;> (simp only [headS, headA]; repeat (first | rw [if_pos (by omega)] | rw [if_neg (by omega)]))
theorem head_2 {n : Int} (h : 256 ≤ n) (h' : n < 65536) : headS n.toNat = 2 ∧ headA n.toNat = 25 := by
 constructor <;> (simp only [headS, headA]; repeat (first | rw [if_pos (by omega)] | rw [if_neg (by omega)]))
theorem head_3 {n : Int} (h : 65536 ≤ n) (h' : n < 4294967296) : headS n.toNat = 4 ∧ headA n.toNat = 26 := by
 constructor <;> (simp only [headS, headA]; repeat (first | rw [if_pos (by omega)] | rw [if_neg (by omega)]))
theorem head_4 {n : Int} (h : 4294967296 ≤ n) : headS n.toNat = 8 ∧ headA n.toNat = 27 := by
 constructor <;> (simp only [headS, headA]; repeat (first | rw [if_pos (by omega)] | rw [if_neg (by omega)]))
theorem headS_le (n : Nat) : 1 ≤ headS n ∧ headS n ≤ 8 := by
 unfold headS
 repeat' split
 all_goals omega
theorem head_cell {m n : Int} (hm0 : 0 ≤ m) (hm : m < 8) (h0 : 0 ≤ n) (h : n < 24) : (#[.int .u8 (32 * m + n)] : Array Value).toList = (headB m.toNat n.toNat).map byteV := by
 rw [headB, if_pos (by omega)]
 simp only [List.map_cons, List.map_nil, byteV_u8]
 congr 2
 omega
theorem ref_Head (m n : Int) (w : World) (hm0 : 0 ≤ m) (hm : m < 8) (h0 : 0 ≤ n) (h1 : n < 18446744073709551616) :
  Calls Tryz.prog 78 #[.int .i64 m, .int .u64 n] w fun e w' => ∃ r, e = .returned r ∧ Fresh w (headB m.toNat n.toNat) r w' := by
 have H1 := Hh h1;have H0 := Hh h0;have K0 : IntKind.u8.wrap (32 * m + 24) = 32 * m + 24 := IntWalk.u8_in _ (by omega);have K1 : IntKind.i64.wrap (32 * m) = 32 * m := IntWalk.i64_in _ (by omega);have K2 : IntKind.i64.wrap (32 * m + 24) = 32 * m + 24 := IntWalk.i64_in _ (by omega);have K3 : IntKind.u8.wrap (32 * m) = 32 * m := IntWalk.u8_in _ (by omega);have hB := Blk.new w 5 #[.int .u8 (32 * m + 24)];have hb0 := below_box w (.cells #[.int .u8 (32 * m + 24)] 5);clear h1;go_enter Tryz.func78, Tryz.ntmps78
 go_upto_block 0 with fail
 go_cut [5, 6] (fun s5 s6 wx => 24 ≤ n ∧ s5 = .slice (some ⟨w.heap.size, 0, none⟩) 1 1 ∧ s6 = .int .i64 (headS n.toNat : Int) ∧ Blk wx w.heap.size 5 #[.int .u8 (32 * m + (headA n.toNat : Int))] ∧ Below w.heap.size w wx)
 case first =>
  go_wp2_with fail
  ·go_ret
   have hlt : n < 24 := by with_reducible assumption
   have hc := head_cell hm0 hm H0.out hlt;have hB2 := Blk.new (w.alloc (.cells #[.int .u8 (32 * m + 24)] 5)) 5 #[.int .u8 (32 * m + n)]
   simp only [size_alloc] at hB2
   have hl1 : 1 = (headB m.toNat n.toNat).length := by rw [headB_length, if_pos (by omega)]
   exact ⟨_, rfl, OwnB.blk hB2 hc (by omega) (by omega) 1 hl1, hb0.alloc hb0.size _⟩
  ·have h24 : 24 ≤ n := by with_reducible assumption
   have hlt : n < 256 := by with_reducible assumption
   obtain ⟨e1, e2⟩ := head_1 hlt;go_meet
   rw [e1, e2]
   exact ⟨h24, rfl, rfl, hB, hb0⟩
  ·have h24 : 24 ≤ n := by with_reducible assumption
   have hge : 256 ≤ n := by with_reducible assumption
   have hlt : n < 65536 := by with_reducible assumption
   obtain ⟨e1, e2⟩ := head_2 hge hlt;go_meet
   rw [e1, e2];have := Blk.new w 5 #[.int .u8 (32 * m + 24 + 1)];rw [show 32 * m + 24 + 1 = 32 * m + ((25 : Nat) : Int) by omega] at this ⊢
   exact ⟨h24, rfl, rfl, this, below_box _ _⟩
  ·have h24 : 24 ≤ n := by with_reducible assumption
   have hge : 65536 ≤ n := by with_reducible assumption
   have hlt : n < 4294967296 := by with_reducible assumption
   obtain ⟨e1, e2⟩ := head_3 hge hlt;go_meet
   rw [e1, e2];have := Blk.new w 5 #[.int .u8 (32 * m + 24 + 2)];rw [show 32 * m + 24 + 2 = 32 * m + ((26 : Nat) : Int) by omega] at this ⊢
   exact ⟨h24, rfl, rfl, this, below_box _ _⟩
  ·have h24 : 24 ≤ n := by with_reducible assumption
   have hge : 4294967296 ≤ n := by with_reducible assumption
   obtain ⟨e1, e2⟩ := head_4 hge;go_meet
   rw [e1, e2];have := Blk.new w 5 #[.int .u8 (32 * m + 24 + 3)];rw [show 32 * m + 24 + 3 = 32 * m + ((27 : Nat) : Int) by omega] at this ⊢
   exact ⟨h24, rfl, rfl, this, below_box _ _⟩
 case rest =>
  obtain ⟨h24, rfl, rfl, hB2, hb2⟩ := hcut;obtain ⟨hs1, hs2⟩ := headS_le n.toNat;have HT := Hh (headB_tail m.toNat n.toNat (by omega))
  generalize headS n.toNat = s at *
  have K5 : IntKind.i64.wrap ((s : Int) - 1) = (s : Int) - 1 := IntWalk.i64_in _ (by omega)
  have hO : OwnB wc w.heap.size (.slice (some ⟨w.heap.size, 0, none⟩) 1 1) [headF m.toNat n.toNat] := by
   refine OwnB.blk hB2 ?_ (Nat.le_refl _) (by simp) 1 rfl
   simp only [List.map_cons, List.map_nil, headF, byteV_u8]
   have : headA n.toNat ≤ 27 := by unfold headA; (repeat' split); all_goals omega
   congr 2
   omega
  go_upto_region 13 with fail
  go_loopw [5, 7] (fun v5 v7 wr => ∃ (j : Nat) (VA : Option Addr) (vc : Nat), j ≤ s ∧ v7 = .int .i64 ((s : Int) - 1 - j) ∧ v5 = .slice VA (1 + j) vc ∧ OwnB wr w.heap.size (.slice VA (1 + j) vc) (headF m.toNat n.toNat :: tailB n.toNat s j) ∧ Below w.heap.size w wr) (fun _ v7 _ => (intOf v7 + 1).toNat)
  case atStart => exact ⟨0, _, _, by omega, by go_num, rfl, hO, hb2⟩
  case round =>
   obtain ⟨j, VA, vc, hj, rfl, rfl, hOr, hbr⟩ := hrel
   by_cases hlt : j < s
   ·have hge : (0 : Int) ≤ (s : Int) - 1 - j := by omega
    have hcell : (#[.int .u8 (n / 2 ^ (8 * (s - 1 - j)) % 256)] : Array Value).toList = [tailF n.toNat s j].map byteV := by
     simp only [List.map_cons, List.map_nil, tailF, byteV_u8]
     obtain ⟨n', rfl⟩ := Int.eq_ofNat_of_zero_le H0.out
     simp
    have hb3 := hbr.alloc hbr.size (.cells #[.int .u8 (n / 2 ^ (8 * (s - 1 - j)) % 256)] 5);have hO3 := hOr.alloc (.cells #[.int .u8 (n / 2 ^ (8 * (s - 1 - j)) % 256)] 5);have HC := Hh hcell;clear hcell;go_wp2_with (at_builtin; refine stop_in ?_)
    refine wpList_app_bytes rfl (.tmp 56) (.tmp 63) rfl w.heap.size _ _ rfl hO3 _ 1 _ [tailF n.toNat s j] rfl rfl (Src.new _ _ _ _ rfl _ HC.out) (by simp [tailB_len]; omega) hb3.size fun v' w7 hO7 hg7 hat7 => ?_
    have hl7 : (headF m.toNat n.toNat :: tailB n.toNat s j) ++ [tailF n.toNat s j] = headF m.toNat n.toNat :: tailB n.toNat s (j + 1) := by rw [tailB_succ]; rfl
    obtain ⟨VA', vc', rfl, _⟩ := hO7.form;have hll : ((headF m.toNat n.toNat :: tailB n.toNat s j) ++ [tailF n.toNat s j]).length = 1 + (j + 1) := by simp [tailB_len]; omega
    rw [hll] at hO7;rw [hll];rw [hl7] at hO7;have hb7 := hb3.grown hg7 hb3.size (fun q hq => (hO3.lt q hq).1);clear hl7 hll hg7 hat7 hO3 hOr hb3 hbr;go_wp2_with fail
    go_roundw
    case rel => exact ⟨j + 1, VA', vc', by omega, by rw [show ((j + 1 : Nat) : Int) = (j : Int) + 1 by omega, show (s : Int) - 1 - ((j : Int) + 1) = (s : Int) - 1 - j - 1 by omega], rfl, hO7, hb7⟩
    case measure => simp [intOf]; omega
   ·have hjs : j = s := by omega
    subst hjs;have E : Hid (headB m.toNat n.toNat = headF m.toNat n.toNat :: tailB n.toNat j j) := HT.out;have hneg : (j : Int) - 1 - j < 0 := by omega
    go_wp2_with fail
    go_ret
    rw [E.out]
    exact ⟨_, rfl, hOr, hbr⟩
end Go.Proofs.YtmacemcajlgddaaGreatDoor
