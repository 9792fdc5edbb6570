/- Walks: the library's Ldexp, Inf, Copysign as far as half floats need them; the program's widen. Walks: the program's widen. -/
import Derived.Test.YtebcnkelbicbnaaGreatDoorM12
import Derived.Test.YtebcnkelbicbnaaGreatDoorM07
import Derived.Test.YtebcnkelbicbnaaGreatDoorM08
set_option linter.unusedVariables false
set_option linter.unusedSimpArgs false
namespace Go.Proofs.YtebcnkelbicbnaaGreatDoor
open Go.RowKit

theorem read_norm {e m : Nat} (he : 1 ≤ e) (he2 : e ≤ 2046) (hm : m < 4503599627370496) : Ieee.double.read (e * 4503599627370496 + m) = .number false (4503599627370496 + m) (-1074 + ((e - 1 : Nat) : Int)) := by
  have e1 : Ieee.double.signWeight = 9223372036854775808 := rfl
  have e2 : Ieee.double.binade = 4503599627370496 := rfl
  have e3 : Ieee.double.infRung = 9218868437227405312 := rfl
  have e4 : Ieee.double.leastPlace = -1074 := rfl
  obtain ⟨x, hx⟩ : ∃ x, e * 4503599627370496 + m = x := ⟨_, rfl⟩
  have a1 : x / 9223372036854775808 = 0 := by omega
  have a2 : x % 9223372036854775808 = x := by omega
  rw [hx]
  unfold Ieee.Format.read
  rw [e1, e2, e3, e4]
  simp only [a1, a2]
  rw [if_neg (by omega), if_pos (by omega)]
  have a3 : x / 4503599627370496 = e := by omega
  have a4 : x % 4503599627370496 = m := by omega
  rw [a3, a4]
  rfl
theorem cmp_gt {a b : Int} (h : b < a) : compare a b = .gt := by
  show compareOfLessAndEq a b = _
  rw [compareOfLessAndEq, if_neg (by omega), if_neg (by omega)]
theorem cmp_lt {a b : Int} (h : a < b) : compare a b = .lt := by
  show compareOfLessAndEq a b = _
  rw [compareOfLessAndEq, if_pos h]
theorem ord_pos {e m : Nat} (he : 2 ≤ e) (he2 : e ≤ 2045) (hm : m < 4503599627370496) {D : Nat} (hD : D = e * 4503599627370496 + m) :
    FloatKind.f64.format.order D 0 = some .gt ∧ FloatKind.f64.format.order D 9218868437227405311 = some .lt ∧ FloatKind.f64.format.order D 4503599627370496 = some .gt ∧ FloatKind.f64.format.order D D = some .eq := by
  have r := read_norm (show 1 ≤ e by omega) (show e ≤ 2046 by omega) hm
  rw [← hD] at r
  have z : Ieee.double.read 0 = .number false 0 (-1074) := by decide +kernel
  have mx : Ieee.double.read 9218868437227405311 = .number false 9007199254740991 971 := by decide +kernel
  have mn : Ieee.double.read 4503599627370496 = .number false 4503599627370496 (-1074) := by decide +kernel
  obtain ⟨k, hk⟩ : ∃ k, e - 1 = k := ⟨_, rfl⟩
  rw [hk] at r
  have hsh : ∀ a b : Nat, a ≤ a <<< b := fun a b => by rw [Nat.shiftLeft_eq]; exact Nat.le_mul_of_pos_right _ (Nat.two_pow_pos b)
  have hsh2 : ∀ a b : Nat, 1 ≤ b → a * 2 ≤ a <<< b := fun a b hb => by
    rw [Nat.shiftLeft_eq]
    refine Nat.mul_le_mul_left _ ?_
    calc 2 = 2 ^ 1 := rfl
      _ ≤ 2 ^ b := Nat.pow_le_pow_right (by omega) hb
  refine ⟨?_, ?_, ?_, ?_⟩
  · show (Ieee.double.read D).order (Ieee.double.read 0) = _
    rw [r, z]
    simp only [Ieee.Datum.order, Ieee.signed]
    rw [cmp_gt]
    have := hsh (4503599627370496 + m) (-1074 + (k : Int) - min (-1074 + (k : Int)) (-1074)).toNat
    simp only [Bool.false_eq_true, if_false, Nat.zero_shiftLeft]
    omega
  · show (Ieee.double.read D).order (Ieee.double.read 9218868437227405311) = _
    rw [r, mx]
    simp only [Ieee.Datum.order, Ieee.signed]
    rw [cmp_lt]
    have h1 : min (-1074 + (k : Int)) 971 = -1074 + (k : Int) := by omega
    rw [h1]
    have h2 : (-1074 + (k : Int) - (-1074 + (k : Int))).toNat = 0 := by omega
    rw [h2]
    have := hsh2 9007199254740991 (971 - (-1074 + (k : Int))).toNat (by omega)
    simp only [Bool.false_eq_true, if_false, Nat.shiftLeft_zero]
    omega
  · show (Ieee.double.read D).order (Ieee.double.read 4503599627370496) = _
    rw [r, mn]
    simp only [Ieee.Datum.order, Ieee.signed]
    rw [cmp_gt]
    have h1 : min (-1074 + (k : Int)) (-1074) = -1074 := by omega
    rw [h1]
    have h2 : (-1074 - (-1074 : Int)).toNat = 0 := by decide
    have := hsh2 (4503599627370496 + m) (-1074 + (k : Int) - -1074).toNat (by omega)
    rw [h2]
    simp only [Bool.false_eq_true, if_false, Nat.shiftLeft_zero]
    omega
  · show (Ieee.double.read D).order (Ieee.double.read D) = _
    rw [r]
    simp only [Ieee.Datum.order]
    congr 1
    show compareOfLessAndEq _ _ = _
    rw [compareOfLessAndEq, if_neg (by omega), if_pos rfl]
/-- The bits of a positive number, taken apart. -/
structure Pos (D e m : Nat) : Prop where
  eq : D = e * 4503599627370496 + m
  lo : 2 ≤ e
  hi : e ≤ 2045
  m_lt : m < 4503599627370496
theorem Pos.lt {D e m : Nat} (h : Pos D e m) : D < 9223372036854775808 := by have := h.eq; have := h.hi; have := h.m_lt; omega
theorem u64_andNot_sign {D : Nat} (h : D < 9223372036854775808) : bits .andNot .u64 (D : Int) 9223372036854775808 = (D : Int) := by
  have := u64_andNot_nat D 9223372036854775808 (by omega) (by omega)
  rw [show ((9223372036854775808 : Nat) : Int) = 9223372036854775808 from rfl] at this
  rw [this, show 18446744073709551615 - 9223372036854775808 = 2 ^ 63 - 1 by decide, Nat.and_two_pow_sub_one_eq_mod, Nat.mod_eq_of_lt (by simpa using h)]
theorem u64_mantissa {D e m : Nat} (h : Pos D e m) : bits .andNot .u64 (D : Int) 9218868437227405312 = (m : Int) := by
  have hl := h.lt
  have := u64_andNot_nat D 9218868437227405312 (by omega) (by omega)
  rw [show ((9218868437227405312 : Nat) : Int) = 9218868437227405312 from rfl] at this
  rw [this, show 18446744073709551615 - 9218868437227405312 = 2 ^ 63 ||| (2 ^ 52 - 1) by decide, Nat.and_or_distrib_left, Nat.and_two_pow_sub_one_eq_mod]
  have h0 : D &&& 2 ^ 63 = 0 := by
    apply Nat.eq_of_testBit_eq
    intro i
    rw [Nat.testBit_and, Nat.testBit_two_pow, Nat.zero_testBit]
    by_cases hi : 63 = i
    · subst hi
      rw [Nat.testBit_lt_two_pow (by simpa using hl)]; rfl
    · simp [hi]
  have h1 := h.eq
  have h2 := h.m_lt
  rw [h0, Nat.zero_or]
  simp only [Nat.reducePow]
  omega
theorem u64_expo {q m : Nat} (hq : q ≤ 2046) (hm : m < 4503599627370496) : bits .or .u64 (m : Int) ((q : Int) * 4503599627370496) = ((q * 4503599627370496 + m : Nat) : Int) := by
  have h := Nat.shiftLeft_add_eq_or_of_lt (show m < 2 ^ 52 by simpa using hm) q
  rw [Nat.shiftLeft_eq] at h
  rw [show ((q : Int) * 4503599627370496) = ((q * 4503599627370496 : Nat) : Int) by omega, u64_or_nat _ _ (by omega) (by omega), Nat.or_comm]
  simp only [Nat.reducePow] at h
  rw [← h]
theorem i64_and_2047 {e : Nat} (h : e ≤ 2046) : bits .and .i64 (e : Int) 2047 = (e : Int) := by
  have hall : ∀ X : Fin 2048, bits .and .i64 ((X.val : Nat) : Int) 2047 = ((X.val : Nat) : Int) := by decide +kernel
  exact hall ⟨e, by omega⟩

set_option maxRecDepth 100000 in
theorem math_Abs {D : Nat} (h : D < 9223372036854775808) (w : World) : Calls Tryz.prog 136 #[.float .f64 D] w fun e w' => e = .returned (.float .f64 D) ∧ w' = w := by
  have r1 := run_f64bits D
  have r2 := run_f64frombits D
  have K := u64_andNot_sign h
  clear h
  go_enter Tryz.func136, Tryz.ntmps136
  go_wp2_with fail
  go_ret
  exact ⟨rfl, rfl⟩
set_option maxRecDepth 100000 in
theorem math_IsInf {D e m : Nat} (h : Pos D e m) (w : World) : Calls Tryz.prog 133 #[.float .f64 D, .int .i64 0] w fun e w' => e = .returned (.bool false) ∧ w' = w := by
  have AB := Lib.hid (fun w => math_Abs h.lt w)
  have o1 := (ord_pos h.lo h.hi h.m_lt h.eq).2.1
  clear h
  go_enter Tryz.func133, Tryz.ntmps133
  go_wp2_with fail
  refine (AB.out _).mono ?_
  rintro e w1 ⟨rfl, rfl⟩
  go_wp2_with fail
  go_ret
  exact ⟨by first | rfl | simp [o1], rfl⟩
set_option maxRecDepth 100000 in
theorem math_IsNaN {D e m : Nat} (h : Pos D e m) (w : World) : Calls Tryz.prog 134 #[.float .f64 D] w fun e w' => e = .returned (.bool false) ∧ w' = w := by
  have o1 := (ord_pos h.lo h.hi h.m_lt h.eq).2.2.2
  clear h
  go_enter Tryz.func134, Tryz.ntmps134
  go_wp2_with fail
  go_ret
  exact ⟨by first | rfl | simp [o1], rfl⟩
set_option maxRecDepth 100000 in
theorem math_normalize {D e m : Nat} (h : Pos D e m) (w : World) : Calls Tryz.prog 135 #[.float .f64 D] w fun e w' => e = .returned (.tuple #[.float .f64 D, .int .i64 0]) ∧ w' = w := by
  have AB := Lib.hid (fun w => math_Abs h.lt w)
  have o1 : (FloatKind.f64.format.order D 4503599627370496 == some .lt) = false := by rw [(ord_pos h.lo h.hi h.m_lt h.eq).2.2.1]; rfl
  clear h
  go_enter Tryz.func135, Tryz.ntmps135
  go_wp2_with fail
  refine (AB.out _).mono ?_
  rintro e w1 ⟨rfl, rfl⟩
  go_wp2_with fail
  go_ret2
  exact ⟨rfl, rfl⟩
set_option maxRecDepth 100000 in
theorem math_Inf (w : World) : Calls Tryz.prog 127 #[.int .i64 1] w fun e w' => e = .returned (.float .f64 9218868437227405312) ∧ w' = w := by
  have r2 : ∀ w, (callFunc 89 #[.int .u64 9218868437227405312]).run Tryz.prog w = .ok (.value (.float .f64 9218868437227405312)) w := run_f64frombits 9218868437227405312
  go_enter Tryz.func127, Tryz.ntmps127
  go_wp2_with fail
  go_ret
  exact ⟨rfl, rfl⟩
set_option maxRecDepth 100000 in
set_option maxHeartbeats 3200000 in
theorem math_ldexp {D e m : Nat} (h : Pos D e m) (k : Int) (q : Nat) (hk : -1000 ≤ k ∧ k ≤ 1000) (hq : (e : Int) + k = (q : Int)) (hq2 : 2 ≤ q ∧ q ≤ 2045) (w : World) :
    Calls Tryz.prog 132 #[.float .f64 D, .int .i64 k] w fun e w' => e = .returned (.float .f64 (q * 4503599627370496 + m)) ∧ w' = w := by
  obtain ⟨o1, _, _, _⟩ := ord_pos h.lo h.hi h.m_lt h.eq
  have o0 : (FloatKind.f64.format.order D 0 == some .eq) = false := by rw [o1]; rfl
  have IN := Lib.hid (fun w => math_IsInf h w)
  have NA := Lib.hid (fun w => math_IsNaN h w)
  have NO := Lib.hid (fun w => math_normalize h w)
  have r1 := run_f64bits D
  have hD := h.eq
  have hm := h.m_lt
  have hlo := h.lo
  have hhi := h.hi
  have K1 : IntKind.i64.wrap (k + 0) = k := by rw [Int.add_zero]; exact IntWalk.i64_in _ (by omega)
  have K2 : (D : Int) / 4503599627370496 = (e : Int) := by omega
  have K3 : IntKind.i64.wrap (e : Int) = (e : Int) := IntWalk.i64_in _ (by omega)
  have K4 := i64_and_2047 (show e ≤ 2046 by omega)
  have K5 : IntKind.i64.wrap ((e : Int) - 1023) = (e : Int) - 1023 := IntWalk.i64_in _ (by omega)
  obtain ⟨x, hx⟩ : ∃ x : Int, k + ((e : Int) - 1023) = x := ⟨_, rfl⟩
  have K6 : IntKind.i64.wrap (k + ((e : Int) - 1023)) = x := by rw [hx]; exact IntWalk.i64_in _ (by omega)
  have K6b : k + ((e : Int) - 1023) = x := hx
  have z1 : ¬ (x < -1075) := by omega
  have z2 : ¬ (1023 < x) := by omega
  have z3 : ¬ (x < -1022) := by omega
  have K7 := u64_mantissa h
  have K8 : IntKind.i64.wrap (x + 1023) = (q : Int) := by rw [show x + 1023 = (q : Int) by omega]; exact IntWalk.i64_in _ (by omega)
  have K8b : x + 1023 = (q : Int) := by omega
  have K9 : IntKind.u64.wrap (q : Int) = (q : Int) := by rw [IntKind.wrap_u64]; omega
  have K10 : IntKind.u64.wrap ((q : Int) * 4503599627370496) = (q : Int) * 4503599627370496 := by rw [IntKind.wrap_u64]; omega
  have K11 := u64_expo (show q ≤ 2046 by omega) hm
  obtain ⟨R, hR⟩ : ∃ R, q * 4503599627370496 + m = R := ⟨_, rfl⟩
  have hmul : floatBits .mul .f64 4607182418800017408 R = some R := by
    have := mul_one_f (s := 0) (e := q) (m := m) (by omega) (by omega) (by omega) hm
    rw [Nat.zero_mul, Nat.zero_add, hR] at this
    exact this
  have r3 := run_f64frombits R
  rw [hR] at K11
  rw [hR]
  have r4 : ∀ w, (binOp .mul 132 (.float .f64 4607182418800017408) (.float .f64 R)).run Tryz.prog w = .ok (.float .f64 R) w := fun w => run_float_arith w .mul _ .f64 _ _ R hmul
  obtain ⟨hk1, hk2⟩ := hk
  have he1 : (2 : Int) ≤ (e : Int) := by omega
  have he2 : (e : Int) ≤ 2045 := by omega
  have hx1 : -1021 ≤ x := by omega
  have hx2 : x ≤ 1022 := by omega
  have hq1 : (2 : Int) ≤ (q : Int) := by omega
  have hq3 : (q : Int) ≤ 2045 := by omega
  clear h hD hm hlo hhi hq hq2 hx hmul hR o1
  go_enter Tryz.func132, Tryz.ntmps132
  go_wp2_with fail
  refine (IN.out _).mono ?_
  rintro e w1 ⟨rfl, rfl⟩
  go_wp2_with fail
  refine (NA.out _).mono ?_
  rintro e w1 ⟨rfl, rfl⟩
  go_wp2_with fail
  refine (NO.out _).mono ?_
  rintro e w1 ⟨rfl, rfl⟩
  go_wp2_with fail
  go_ret
  exact ⟨rfl, rfl⟩
end Go.Proofs.YtebcnkelbicbnaaGreatDoor
namespace Go.Proofs.YtebcnkelbicbnaaGreatDoor
open Go.RowKit

set_option maxRecDepth 100000 in
theorem math_Ldexp {D e m : Nat} (h : Pos D e m) (k : Int) (q : Nat) (hk : -1000 ≤ k ∧ k ≤ 1000) (hq : (e : Int) + k = (q : Int)) (hq2 : 2 ≤ q ∧ q ≤ 2045) (w : World) :
    Calls Tryz.prog 128 #[.float .f64 D, .int .i64 k] w fun e w' => e = .returned (.float .f64 (q * 4503599627370496 + m)) ∧ w' = w := by
  have L := Lib.hid (fun w => math_ldexp h k q hk hq hq2 w)
  clear h hk hq hq2
  go_enter Tryz.func128, Tryz.ntmps128
  go_wp2_with fail
  refine (L.out _).mono ?_
  rintro e w1 ⟨rfl, rfl⟩
  go_wp2_with fail
  go_ret
  exact ⟨rfl, rfl⟩
set_option maxRecDepth 100000 in
theorem math_ldexp0 (k : Int) (w : World) : Calls Tryz.prog 132 #[.float .f64 0, .int .i64 k] w fun e w' => e = .returned (.float .f64 0) ∧ w' = w := by
  have o0 : (FloatKind.f64.format.order 0 0 == some .eq) = true := by decide +kernel
  go_enter Tryz.func132, Tryz.ntmps132
  go_wp2_with fail
  go_ret
  exact ⟨rfl, rfl⟩
set_option maxRecDepth 100000 in
theorem math_Ldexp0 (k : Int) (w : World) : Calls Tryz.prog 128 #[.float .f64 0, .int .i64 k] w fun e w' => e = .returned (.float .f64 0) ∧ w' = w := by
  have L := Lib.hid (fun w => math_ldexp0 k w)
  go_enter Tryz.func128, Tryz.ntmps128
  go_wp2_with fail
  refine (L.out _).mono ?_
  rintro e w1 ⟨rfl, rfl⟩
  go_wp2_with fail
  go_ret
  exact ⟨rfl, rfl⟩
theorem u64_or_sign {D : Nat} (h : D < 9223372036854775808) : bits .or .u64 (D : Int) 9223372036854775808 = ((9223372036854775808 + D : Nat) : Int) := by
  have h1 := Nat.shiftLeft_add_eq_or_of_lt (show D < 2 ^ 63 by simpa using h) 1
  rw [Nat.shiftLeft_eq] at h1
  have := u64_or_nat D 9223372036854775808 (by omega) (by omega)
  rw [show ((9223372036854775808 : Nat) : Int) = 9223372036854775808 from rfl] at this
  rw [this, Nat.or_comm]
  simp only [Nat.reducePow, Nat.one_mul] at h1
  rw [← h1]
set_option maxRecDepth 100000 in
theorem math_Copysign {D : Nat} (h : D < 9223372036854775808) (w : World) : Calls Tryz.prog 129 #[.float .f64 D, .float .f64 13830554455654793216] w fun e w' => e = .returned (.float .f64 (9223372036854775808 + D)) ∧ w' = w := by
  have r1 := run_f64bits D
  have r2 : ∀ w, (callFunc 90 #[.float .f64 13830554455654793216]).run Tryz.prog w = .ok (.value (.int .u64 13830554455654793216)) w := run_f64bits 13830554455654793216
  have K1 := u64_andNot_sign h
  have K2 : bits .and .u64 13830554455654793216 9223372036854775808 = 9223372036854775808 := by decide +kernel
  have K3 := u64_or_sign h
  obtain ⟨R, hR⟩ : ∃ R, 9223372036854775808 + D = R := ⟨_, rfl⟩
  rw [hR] at K3
  rw [hR]
  have r3 := run_f64frombits R
  clear h hR
  go_enter Tryz.func129, Tryz.ntmps129
  go_wp2_with fail
  go_ret
  exact ⟨rfl, rfl⟩
/-- What the program's widen gives. -/
def widenQ (v : Nat) : Nat := if v / 1024 % 32 = 31 ∧ v % 1024 ≠ 0 then notNumber else widen5 v
theorem u16_and {v k : Nat} (hv : v < 65536) (hk : k ≤ 16) : bits .and .u16 (v : Int) ((2 ^ k - 1 : Nat) : Int) = ((v % 2 ^ k : Nat) : Int) := by
  have : 2 ^ k ≤ 2 ^ 16 := Nat.pow_le_pow_right (by omega) hk
  rw [u16_and_nat v (2 ^ k - 1) (by omega) (by omega), Nat.and_two_pow_sub_one_eq_mod]
theorem dbl_pos {n t : Nat} (h0 : n ≠ 0) (ht : n.log2 = t) (hn : n < 2048) : Pos (dbl n) (1023 + t) (n * 2 ^ (52 - t) - 4503599627370496) := by
  subst ht
  have a1 : 2 ^ n.log2 ≤ n := Nat.log2_self_le h0
  have a2 : n < 2 ^ (n.log2 + 1) := Nat.lt_log2_self
  have a3 : n.log2 < 11 := (Nat.log2_lt h0).2 (by simpa using hn)
  have b := sub_full a1 a2 (by omega)
  exact ⟨by rw [dbl, if_neg h0], by omega, by omega, by omega⟩
theorem half_m (f : Nat) : (f + 1024) * 4398046511104 - 4503599627370496 = f * 4398046511104 := by omega
def WidenQ (w : World) (v : Nat) (e : Ending) (w' : World) : Prop := e = .returned (.int .u64 (widenQ v : Int)) ∧ w' = w
set_option maxRecDepth 100000 in
set_option maxHeartbeats 3200000 in
theorem cbor_widen (v : Nat) (hv : v < 65536) (w : World) : Calls Tryz.prog 120 #[.int .u16 (v : Int)] w (WidenQ w v) := by
  have A1 : bits .and .u16 (v : Int) 1023 = ((v % 1024 : Nat) : Int) := u16_and (k := 10) hv (by omega)
  obtain ⟨u, hu⟩ : ∃ u, v / 1024 = u := ⟨_, rfl⟩
  have A2 : bits .and .u16 (u : Int) 31 = ((u % 32 : Nat) : Int) := u16_and (k := 5) (by omega) (by omega)
  have hur : u % 32 = v / 1024 % 32 := by rw [hu]
  rw [hur] at A2
  obtain ⟨s, hs⟩ : ∃ s, v / 32768 = s := ⟨_, rfl⟩
  obtain ⟨x, hx⟩ : ∃ x, v / 1024 % 32 = x := ⟨_, rfl⟩
  obtain ⟨f, hf⟩ : ∃ f, v % 1024 = f := ⟨_, rfl⟩
  have hs1 : s ≤ 1 := by omega
  have hx1 : x ≤ 31 := by omega
  have hf1 : f < 1024 := by omega
  have W := Lib.hid (show widenQ v = (if x = 31 ∧ f ≠ 0 then notNumber else if x = 31 then s * 9223372036854775808 + 9218868437227405312 + f * 4398046511104
    else if x = 0 then (if f = 0 then s * 9223372036854775808 else s * 9223372036854775808 + (999 + f.log2) * 4503599627370496 + (f * 2 ^ (52 - f.log2) - 4503599627370496))
    else s * 9223372036854775808 + (x + 1008) * 4503599627370496 + f * 4398046511104) by rw [widenQ, widen5, hs, hx, hf])
  rw [hf] at A1
  rw [hx] at A2
  have S1 : (v : Int) / 32768 = (s : Int) := by omega
  have S2 : (v : Int) / 1024 = (u : Int) := by omega
  have FI : floatOfInt .f64 (f : Int) = dbl f := of_int_dbl ⟨f, hf1⟩
  -- BRANCHES
  have HX := Lib.hid (And.intro hs1 (And.intro hx1 hf1))
  have hs15 : (v : Int) / 32768 = (s : Int) := S1
  have hsi : (s : Int) ≤ 1 := by omega
  clear hs hx hf hv hu hur
  by_cases h31 : x = 31
  · subst h31
    by_cases hf0 : f = 0
    · subst hf0
      have FI0 : floatOfInt .f64 0 = 0 := of_int_dbl 0
      have WQ : Hid (widenQ v = s * 9223372036854775808 + 9218868437227405312) := by rw [Hid, W.out, if_neg (by simp), if_pos rfl]; try omega
      have IF := Lib.hid (fun w => math_Inf w)
      clear FI W
      go_enter Tryz.func120, Tryz.ntmps120
      go_wp2_with fail
      refine (IF.out _).mono ?_
      rintro e w1 ⟨rfl, rfl⟩
      obtain ⟨D, hD⟩ : ∃ D, 9218868437227405312 = D := ⟨_, rfl⟩
      rw [hD] at WQ
      rw [hD]
      have HD := Lib.hid hD
      clear hD
      have RS := Lib.hid (run_f64bits D)
      rcases (by have := HX.out.1; omega : s = 0 ∨ s = 1) with rfl | rfl
      · have r9 := run_f64bits D
        have WW : Hid (widenQ v = D) := by rw [Hid, WQ.out]; try omega
        go_wp2_with fail
        go_ret
        exact ⟨by rw [WW.out]; try rfl, rfl⟩
      · have CS := Lib.hid (fun w => math_Copysign (D := D) (by rw [← HD.out]; omega) w)
        obtain ⟨R, hR⟩ : ∃ R, 9223372036854775808 + D = R := ⟨_, rfl⟩
        rw [hR] at CS
        have WW : Hid (widenQ v = R) := by rw [Hid, ← hR, WQ.out]; try omega
        have r9 := run_f64bits R
        clear hR
        go_wp2_with fail
        refine (CS.out _).mono ?_
        rintro e w1 ⟨rfl, rfl⟩
        go_wp2_with fail
        go_ret
        exact ⟨by rw [WW.out]; try rfl, rfl⟩

    · have f0 : ((f : Int) != 0) = true := by simp; omega
      have f0' : ((f : Int) = 0) = False := eq_false (by omega)
      have WW : Hid (widenQ v = notNumber) := by rw [Hid, W.out, if_pos ⟨rfl, hf0⟩]
      clear W hf0
      go_enter Tryz.func120, Tryz.ntmps120
      go_wp2_with fail
      go_ret
      exact ⟨by rw [WW.out]; try rfl, rfl⟩
  have x31 : ((x : Int) == 31) = false := by simp; omega
  have x31' : ((x : Int) = 31) = False := eq_false (by omega)
  by_cases h0 : x = 0
  · subst h0
    by_cases hf0 : f = 0
    · subst hf0
      have FI0 : floatOfInt .f64 0 = 0 := of_int_dbl 0
      have WQ : Hid (widenQ v = s * 9223372036854775808 + 0) := by rw [Hid, Nat.add_zero, W.out, if_neg (by omega), if_neg (by omega), if_pos rfl, if_pos rfl]
      have LD := Lib.hid (fun w => math_Ldexp0 (-24) w)
      clear FI W h31
      go_enter Tryz.func120, Tryz.ntmps120
      go_wp2_with fail
      refine (LD.out _).mono ?_
      rintro e w1 ⟨rfl, rfl⟩
      obtain ⟨D, hD⟩ : ∃ D : Nat, 0 = D := ⟨_, rfl⟩
      rw [hD] at WQ
      have HD := Lib.hid hD
      rw [show (Value.float FloatKind.f64 0) = Value.float FloatKind.f64 D by rw [hD]]
      clear hD
      have RS := Lib.hid (run_f64bits D)
      rcases (by have := HX.out.1; omega : s = 0 ∨ s = 1) with rfl | rfl
      · have r9 := run_f64bits D
        have WW : Hid (widenQ v = D) := by rw [Hid, WQ.out]; try omega
        go_wp2_with fail
        go_ret
        exact ⟨by rw [WW.out]; try rfl, rfl⟩
      · have CS := Lib.hid (fun w => math_Copysign (D := D) (by rw [← HD.out]; omega) w)
        obtain ⟨R, hR⟩ : ∃ R, 9223372036854775808 + D = R := ⟨_, rfl⟩
        rw [hR] at CS
        have WW : Hid (widenQ v = R) := by rw [Hid, ← hR, WQ.out]; try omega
        have r9 := run_f64bits R
        clear hR
        go_wp2_with fail
        refine (CS.out _).mono ?_
        rintro e w1 ⟨rfl, rfl⟩
        go_wp2_with fail
        go_ret
        exact ⟨by rw [WW.out]; try rfl, rfl⟩

    · obtain ⟨t, ht⟩ : ∃ t, f.log2 = t := ⟨_, rfl⟩
      have hP := dbl_pos hf0 ht (by omega)
      have htl : t < 10 := by rw [← ht]; exact (Nat.log2_lt hf0).2 (by simpa using hf1)
      have LD := Lib.hid (fun w => math_Ldexp hP (-24) (999 + t) (by omega) (by omega) (by omega) w)
      obtain ⟨D, hD⟩ : ∃ D, (999 + t) * 4503599627370496 + (f * 2 ^ (52 - t) - 4503599627370496) = D := ⟨_, rfl⟩
      have hDl : D < 9223372036854775808 := by have := hP.m_lt; omega
      have WQ : Hid (widenQ v = s * 9223372036854775808 + D) := by rw [Hid, W.out, if_neg (by omega), if_neg (by omega), if_pos rfl, if_neg hf0, ht, ← hD, Nat.add_assoc]
      rw [hD] at LD
      obtain ⟨Q, hQ⟩ : ∃ Q, dbl f = Q := ⟨_, rfl⟩
      rw [hQ] at FI LD
      have HD := Lib.hid hDl
      clear W h31 hf0 hP hD hDl hQ ht htl
      go_enter Tryz.func120, Tryz.ntmps120
      go_wp2_with fail
      refine (LD.out _).mono ?_
      rintro e w1 ⟨rfl, rfl⟩
      have RS := Lib.hid (run_f64bits D)
      rcases (by have := HX.out.1; omega : s = 0 ∨ s = 1) with rfl | rfl
      · have r9 := run_f64bits D
        have WW : Hid (widenQ v = D) := by rw [Hid, WQ.out]; try omega
        go_wp2_with fail
        go_ret
        exact ⟨by rw [WW.out]; try rfl, rfl⟩
      · have CS := Lib.hid (fun w => math_Copysign (D := D) (by exact HD.out) w)
        obtain ⟨R, hR⟩ : ∃ R, 9223372036854775808 + D = R := ⟨_, rfl⟩
        rw [hR] at CS
        have WW : Hid (widenQ v = R) := by rw [Hid, ← hR, WQ.out]; try omega
        have r9 := run_f64bits R
        clear hR
        go_wp2_with fail
        refine (CS.out _).mono ?_
        rintro e w1 ⟨rfl, rfl⟩
        go_wp2_with fail
        go_ret
        exact ⟨by rw [WW.out]; try rfl, rfl⟩

  have x0 : ((x : Int) == 0) = false := by simp; omega
  have x0' : ((x : Int) = 0) = False := eq_false (by omega)
  have hP := dbl_pos (n := f + 1024) (t := 10) (by omega) (by rw [Nat.log2_eq_iff (by omega)]; constructor <;> omega) (by omega)
  rw [show (52 : Nat) - 10 = 42 from rfl, show (2 : Nat) ^ 42 = 4398046511104 by decide, half_m] at hP
  have LD := Lib.hid (fun w => math_Ldexp hP ((x : Int) - 25) (x + 1008) (by omega) (by omega) (by omega) w)
  have AD : ∀ w, (binOp .add 132 (.float .f64 (dbl f)) (.float .f64 4652218415073722368)).run Tryz.prog w = .ok (.float .f64 (dbl (f + 1024))) w := fun w => run_float_arith w .add _ .f64 _ _ _ (by
    have := add_dbl ⟨f, hf1⟩
    rw [show dbl 1024 = 4652218415073722368 by decide +kernel] at this
    exact this)
  have KS : IntKind.i64.wrap ((x : Int) - 25) = (x : Int) - 25 := IntWalk.i64_in _ (by omega)
  obtain ⟨D, hD⟩ : ∃ D, (x + 1008) * 4503599627370496 + f * 4398046511104 = D := ⟨_, rfl⟩
  have hDl : D < 9223372036854775808 := by have := hP.m_lt; omega
  have WQ : Hid (widenQ v = s * 9223372036854775808 + D) := by
    rw [Hid, W.out, if_neg (by omega), if_neg (by omega), if_neg h0, ← hD]
    rw [Nat.add_assoc]
  rw [hD] at LD
  obtain ⟨Q, hQ⟩ : ∃ Q, dbl f = Q := ⟨_, rfl⟩
  obtain ⟨Q2, hQ2⟩ : ∃ Q2, dbl (f + 1024) = Q2 := ⟨_, rfl⟩
  rw [hQ] at FI AD
  rw [hQ2] at AD LD
  have HD := Lib.hid hDl
  have hxi : (x : Int) ≤ 31 := by omega
  clear W h31 h0 hP hD hDl hQ hQ2
  go_enter Tryz.func120, Tryz.ntmps120
  go_wp2_with fail
  refine (LD.out _).mono ?_
  rintro e w1 ⟨rfl, rfl⟩
  have RS := Lib.hid (run_f64bits D)
  rcases (by have := HX.out.1; omega : s = 0 ∨ s = 1) with rfl | rfl
  · have r9 := run_f64bits D
    have WW : Hid (widenQ v = D) := by rw [Hid, WQ.out]; try omega
    go_wp2_with fail
    go_ret
    exact ⟨by rw [WW.out]; try rfl, rfl⟩
  · have CS := Lib.hid (fun w => math_Copysign (D := D) (by exact HD.out) w)
    obtain ⟨R, hR⟩ : ∃ R, 9223372036854775808 + D = R := ⟨_, rfl⟩
    rw [hR] at CS
    have WW : Hid (widenQ v = R) := by rw [Hid, ← hR, WQ.out]; try omega
    have r9 := run_f64bits R
    clear hR
    go_wp2_with fail
    refine (CS.out _).mono ?_
    rintro e w1 ⟨rfl, rfl⟩
    go_wp2_with fail
    go_ret
    exact ⟨by rw [WW.out]; try rfl, rfl⟩

end Go.Proofs.YtebcnkelbicbnaaGreatDoor
