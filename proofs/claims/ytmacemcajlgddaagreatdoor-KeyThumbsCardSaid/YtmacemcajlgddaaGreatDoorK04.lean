/- squeezed. Walks: the references' IsNaN, Narr -/
import Derived.Test.YtmacemcajlgddaaGreatDoorK03
import Derived.Laws.BitsAllLaws
import Derived.Lib.ValidU
import Derived.Lib.Bytealg
import Derived.Shelf.Unicode.DecodeSlow
set_option linter.unusedVariables false
set_option linter.unusedSimpArgs false
set_option maxRecDepth 100000
set_option maxHeartbeats 3200000
namespace Go.Proofs.YtmacemcajlgddaaGreatDoor
open Go.RowKit
theorem and_mod (a k : Nat) (ha : a < 2 ^ 64) (hk : k < 64) : bits .and .u64 (a : Int) ((2 ^ k - 1 : Nat) : Int) = ((a % 2 ^ k : Nat) : Int) := by
 rw [u64_and_nat a (2 ^ k - 1) (by simpa using ha) ?_, Nat.and_two_pow_sub_one_eq_mod];have : 2 ^ k < 2 ^ 64 := Nat.pow_lt_pow_right (by omega) hk
 omega
theorem or_add (a k b : Nat) (hb : b < 2 ^ k) (h : a * 2 ^ k + b < 2 ^ 64) : bits .or .u64 ((a * 2 ^ k : Nat) : Int) (b : Int) = ((a * 2 ^ k + b : Nat) : Int) := by
 rw [u64_or_nat _ _ (by omega) (by omega), Nat.mul_comm, Nat.two_pow_add_eq_or_of_lt hb]
theorem or_low (b k : Nat) (hb : b < 2 ^ k) (hk : k < 64) : bits .or .u64 (b : Int) ((2 ^ k : Nat) : Int) = ((b + 2 ^ k : Nat) : Int) := by
 have h1 : 2 ^ k < 2 ^ 64 := Nat.pow_lt_pow_right (by omega) hk;rw [u64_or_nat _ _ (by omega) (by omega), Nat.or_comm];have := Nat.two_pow_add_eq_or_of_lt hb 1;rw [Nat.mul_one] at this;rw [← this, Nat.add_comm]
theorem pow_mask (k : Nat) (hk : k < 64) : IntKind.u64.wrap (IntKind.u64.wrap ((2 : Int) ^ k) - 1) = ((2 ^ k - 1 : Nat) : Int) := by
 have h1 : 2 ^ k < 2 ^ 64 := Nat.pow_lt_pow_right (by omega) hk;have h2 : 0 < 2 ^ k := Nat.two_pow_pos k;have e : (2 : Int) ^ k = ((2 ^ k : Nat) : Int) := by rw [Int.natCast_pow]; rfl
 simp only [Nat.reducePow] at h1
 have e1 : IntKind.u64.wrap ((2 ^ k : Nat) : Int) = ((2 ^ k : Nat) : Int) := IntWalk.u64_in _ (by omega);rw [e, e1, IntWalk.u64_in _ (by omega)]
 omega
theorem ref_IsNaN (n : Nat) (hn : n < 18446744073709551616) (w : World) :
  Calls Tryz.prog 105 #[.int .u64 (n : Int)] w fun e w' => e = .returned (.bool (isNaN n)) ∧ w = w' := by
 have A1 := and_mod (n / 2 ^ 52) 11 (by omega) (by omega);have A2 := and_mod n 52 (by omega) (by omega)
 have E : Hid (isNaN n = (((n / 2 ^ 52 % 2 ^ 11 : Nat) : Int) == 2047 && ((n % 2 ^ 52 : Nat) : Int) != 0)) := by
  rw [Hid, isNaN, Bool.eq_iff_iff]
  simp only [Bool.and_eq_true, beq_iff_eq, bne_iff_ne]
  omega
 simp only [Nat.reducePow, Nat.reduceSub] at A1 A2 E
 rw [Int.natCast_ediv] at A1;have HN := Hh hn;have HA1 := Hh A1;have HA2 := Hh A2;clear hn A1 A2;go_enter Tryz.func105, Tryz.ntmps105
 go_wp2_with fail
 all_goals
  go_ret
  refine ⟨?_, rfl⟩
  have A1 := HA1.out;have A2 := HA2.out;have E' := E.out;show Ending.returned (Value.bool _) = _
  clear E HA1 HA2 HN
  simp_all
theorem ref_Narrow16 (n : Nat) (hn : n < 18446744073709551616) (w : World) :
  Calls Tryz.prog 106 #[.int .u64 (n : Int), .int .i64 5, .int .i64 10] w
   fun e w' => (∃ v : Nat, e = .returned (.tuple #[.int .u64 (v : Int), .bool (narrow n 5 10).isSome]) ∧ ∀ x, narrow n 5 10 = some x → v = x) ∧ w = w' := by
 have A1 := and_mod (n / 2 ^ 52) 11 (by omega) (by omega);have A2 := and_mod n 52 (by omega) (by omega)
 simp only [Nat.reducePow, Nat.reduceSub] at A1 A2
 rw [Int.natCast_ediv] at A1;obtain ⟨ex, hex⟩ : ∃ ex, n / 4503599627370496 % 2048 = ex := ⟨_, rfl⟩
 obtain ⟨mx, hmx⟩ : ∃ mx, n % 4503599627370496 = mx := ⟨_, rfl⟩
 obtain ⟨sg, hsg⟩ : ∃ sg, n / 9223372036854775808 = sg := ⟨_, rfl⟩
 have hs1 : sg ≤ 1 := by omega
 have E : Hid (narrow n 5 10 = if ex = 2047 then (if mx = 0 then some (sg * 32768 + 31744) else none) else if ex = 0 then (if mx = 0 then some (sg * 32768) else none)
   else if 1023 + 31 ≤ ex + 15 then none else if 1023 < ex + 15 then (if mx % 4398046511104 = 0 then some (sg * 32768 + (ex + 15 - 1023) * 1024 + mx / 4398046511104) else none)
   else if 52 < 43 + (1023 - ex - 15) then none else if (mx + 4503599627370496) % 2 ^ (43 + (1023 - ex - 15)) = 0 then some (sg * 32768 + (mx + 4503599627370496) / 2 ^ (43 + (1023 - ex - 15))) else none) := by
  rw [Hid, narrow]
  simp only [Nat.reducePow, Nat.reduceSub, Nat.reduceAdd, Nat.reduceMul, hex, hmx, hsg]
 rw [hex] at A1;rw [hmx] at A2;have he1 : ex < 2048 := by omega
 have hm1 : mx < 4503599627370496 := by omega
 have A1' : bits .and .u64 ((n : Int) / 4503599627370496) 2047 = (ex : Int) := A1;have A2' : bits .and .u64 (n : Int) 4503599627370495 = (mx : Int) := A2;have K1 : IntKind.i64.wrap (ex : Int) = (ex : Int) := IntWalk.i64_in _ (by omega)
 have KS : Hid (IntKind.u64.wrap ((n : Int) / 9223372036854775808 * 32768) = ((sg * 2 ^ 15 : Nat) : Int)) := by
  rw [Hid, IntWalk.u64_in _ (by omega)]
  omega
 clear hn hex hmx hsg A1 A2;go_enter Tryz.func106, Tryz.ntmps106
 go_wp2_with fail
 ·have h1 : ex = 2047 := by
   have h : ((ex : Int) == 2047) = true := by assumption
   rw [beq_iff_eq] at h
   omega
  go_ret2
  have hor := or_add sg 15 31744 (by omega) (by omega)
  refine ⟨⟨sg * 32768 + 31744, ?_, ?_⟩, rfl⟩
  ·show Ending.returned (Value.tuple #[Value.int .u64 _, Value.bool _]) = _
   rw [KS.out, E.out, if_pos h1];rw [show (31744 : Int) = ((31744 : Nat) : Int) from rfl, hor]
   by_cases h : mx = 0 <;> simp [h]
  ·intro x hx
   rw [E.out, if_pos h1] at hx
   split at hx
   ·injection hx
   ·cases hx
 ·have h1 : ¬ ex = 2047 := by
   have h : ((ex : Int) == 2047) = false := by assumption
   rw [beq_eq_false_iff_ne] at h
   omega
  have h2 : ex = 0 := by
   have h : ((ex : Int) == 0) = true := by assumption
   rw [beq_iff_eq] at h
   omega
  go_ret2
  refine ⟨⟨sg * 32768, ?_, ?_⟩, rfl⟩
  ·show Ending.returned (Value.tuple #[Value.int .u64 _, Value.bool _]) = _
   rw [KS.out, E.out, if_neg h1, if_pos h2]
   by_cases h : mx = 0 <;> simp [h]
  ·intro x hx
   rw [E.out, if_neg h1, if_pos h2] at hx
   split at hx
   ·injection hx
   ·cases hx
 all_goals
  have h1 : ¬ ex = 2047 := by
   have h : ((ex : Int) == 2047) = false := by assumption
   rw [beq_eq_false_iff_ne] at h
   omega
  have h2 : ¬ ex = 0 := by
   have h : ((ex : Int) == 0) = false := by assumption
   rw [beq_eq_false_iff_ne] at h
   omega
  rw [if_neg h1, if_neg h2] at E
 ·have h3 : 1023 + 31 ≤ ex + 15 := by omega
  go_ret2
  refine ⟨⟨0, ?_, ?_⟩, rfl⟩
  ·rw [E.out, if_pos h3];rfl
  ·intro x hx
   rw [E.out, if_pos h3] at hx
   cases hx
 ·have h3 : ¬ 1023 + 31 ≤ ex + 15 := by omega
  have h4 : 1023 < ex + 15 := by omega
  obtain ⟨q, hq⟩ : ∃ q, ex + 15 - 1023 = q := ⟨_, rfl⟩
  have hqi : ((ex : Int) - 1023 + 15) * 1024 = ((q * 1024 : Nat) : Int) := by omega
  have hmi : (mx : Int) / 4398046511104 = ((mx / 4398046511104 : Nat) : Int) := by omega
  have ha := and_mod mx 42 (by omega) (by omega)
  simp only [Nat.reducePow, Nat.reduceSub] at ha
  have ho1 := or_add sg 15 (q * 1024) (by omega) (by omega);have ho2 := or_add (sg * 2 ^ 5 + q) 10 (mx / 4398046511104) (by omega) (by omega);rw [show (sg * 2 ^ 5 + q) * 2 ^ 10 = sg * 2 ^ 15 + q * 1024 by omega] at ho2;go_ret2
  refine ⟨⟨sg * 32768 + q * 1024 + mx / 4398046511104, ?_, ?_⟩, rfl⟩
  ·show Ending.returned (Value.tuple #[Value.int .u64 _, Value.bool _]) = _
   rw [KS.out, E.out, if_neg h3, if_pos h4, hqi, hmi, ho1, ho2];have ha' : bits .and .u64 (mx : Int) 4398046511103 = ((mx % 4398046511104 : Nat) : Int) := ha;rw [ha']
   by_cases h : mx % 4398046511104 = 0
   ·rw [if_pos h, h]; rfl
   ·rw [if_neg h];have : (((mx % 4398046511104 : Nat) : Int) == 0) = false := by rw [beq_eq_false_iff_ne]; omega
    rw [this]; rfl
  ·intro x hx
   rw [E.out, if_neg h3, if_pos h4, hq] at hx
   split at hx
   ·injection hx
   ·cases hx
 ·have h5 : 52 < 43 + (1023 - ex - 15) := by omega
  have h3 : ¬ 1023 + 31 ≤ ex + 15 := by omega
  have h4 : ¬ 1023 < ex + 15 := by omega
  go_ret2
  refine ⟨⟨0, ?_, ?_⟩, rfl⟩
  ·rw [E.out, if_neg h3, if_neg h4, if_pos h5];rfl
  ·intro x hx
   rw [E.out, if_neg h3, if_neg h4, if_pos h5] at hx
   cases hx
 ·have h3 : ¬ 1023 + 31 ≤ ex + 15 := by omega
  have h4 : ¬ 1023 < ex + 15 := by omega
  have h5 : ¬ 52 < 43 + (1023 - ex - 15) := by omega
  obtain ⟨sh, hsh⟩ : ∃ sh, 43 + (1023 - ex - 15) = sh := ⟨_, rfl⟩
  have hsi : (43 - ((ex : Int) - 1023 + 15)).toNat = sh := by omega
  obtain ⟨full, hfull⟩ : ∃ full, mx + 4503599627370496 = full := ⟨_, rfl⟩
  have hof : bits .or .u64 (mx : Int) 4503599627370496 = (full : Int) := by
   have := or_low mx 52 (by omega) (by omega)
   simp only [Nat.reducePow] at this
   rw [← hfull]
   exact this
  have hw : IntKind.u64.wrap (IntKind.u64.wrap ((2 : Int) ^ sh) - 1) = ((2 ^ sh - 1 : Nat) : Int) := pow_mask sh (by omega)
  have hdv : (full : Int) / 2 ^ sh = ((full / 2 ^ sh : Nat) : Int) := by
   rw [Int.natCast_ediv, Int.natCast_pow]; rfl
  have hlt : full / 2 ^ sh < 2 ^ 15 := by
   apply Nat.div_lt_of_lt_mul
   have : 2 ^ 43 ≤ 2 ^ sh := Nat.pow_le_pow_right (by omega) (by omega);have h2 : 2 ^ 43 * 2 ^ 15 ≤ 2 ^ sh * 2 ^ 15 := Nat.mul_le_mul_right _ this
   simp only [Nat.reducePow, Nat.reduceMul] at h2 ⊢
   omega
  have ho := or_add sg 15 (full / 2 ^ sh) hlt (by simp only [Nat.reducePow] at hlt ⊢; omega);have ha := and_mod full sh (by omega) (by omega);go_ret2
  refine ⟨⟨sg * 32768 + full / 2 ^ sh, ?_, ?_⟩, rfl⟩
  ·show Ending.returned (Value.tuple #[Value.int .u64 _, Value.bool _]) = _
   rw [KS.out, E.out, if_neg h3, if_neg h4, if_neg h5, hsi, hof, hw, ha, hdv, ho, hsh, hfull]
   by_cases h : full % 2 ^ sh = 0
   ·rw [if_pos h, h]; rfl
   ·rw [if_neg h];have : (((full % 2 ^ sh : Nat) : Int) == 0) = false := by rw [beq_eq_false_iff_ne]; omega
    rw [this]; rfl
  ·intro x hx
   rw [E.out, if_neg h3, if_neg h4, if_neg h5, hsh, hfull] at hx
   split at hx
   ·injection hx
   ·cases hx
theorem ref_Narrow32 (n : Nat) (hn : n < 18446744073709551616) (w : World) :
  Calls Tryz.prog 106 #[.int .u64 (n : Int), .int .i64 8, .int .i64 23] w
   fun e w' => (∃ v : Nat, e = .returned (.tuple #[.int .u64 (v : Int), .bool (narrow n 8 23).isSome]) ∧ ∀ x, narrow n 8 23 = some x → v = x) ∧ w = w' := by
 have A1 := and_mod (n / 2 ^ 52) 11 (by omega) (by omega);have A2 := and_mod n 52 (by omega) (by omega)
 simp only [Nat.reducePow, Nat.reduceSub] at A1 A2
 rw [Int.natCast_ediv] at A1;obtain ⟨ex, hex⟩ : ∃ ex, n / 4503599627370496 % 2048 = ex := ⟨_, rfl⟩
 obtain ⟨mx, hmx⟩ : ∃ mx, n % 4503599627370496 = mx := ⟨_, rfl⟩
 obtain ⟨sg, hsg⟩ : ∃ sg, n / 9223372036854775808 = sg := ⟨_, rfl⟩
 have hs1 : sg ≤ 1 := by omega
 have E : Hid (narrow n 8 23 = if ex = 2047 then (if mx = 0 then some (sg * 2147483648 + 2139095040) else none) else if ex = 0 then (if mx = 0 then some (sg * 2147483648) else none)
   else if 1023 + 255 ≤ ex + 127 then none else if 1023 < ex + 127 then (if mx % 536870912 = 0 then some (sg * 2147483648 + (ex + 127 - 1023) * 8388608 + mx / 536870912) else none)
   else if 52 < 30 + (1023 - ex - 127) then none else if (mx + 4503599627370496) % 2 ^ (30 + (1023 - ex - 127)) = 0 then some (sg * 2147483648 + (mx + 4503599627370496) / 2 ^ (30 + (1023 - ex - 127))) else none) := by
  rw [Hid, narrow]
  simp only [Nat.reducePow, Nat.reduceSub, Nat.reduceAdd, Nat.reduceMul, hex, hmx, hsg]
 rw [hex] at A1;rw [hmx] at A2;have he1 : ex < 2048 := by omega
 have hm1 : mx < 4503599627370496 := by omega
 have A1' : bits .and .u64 ((n : Int) / 4503599627370496) 2047 = (ex : Int) := A1;have A2' : bits .and .u64 (n : Int) 4503599627370495 = (mx : Int) := A2;have K1 : IntKind.i64.wrap (ex : Int) = (ex : Int) := IntWalk.i64_in _ (by omega)
 have KS : Hid (IntKind.u64.wrap ((n : Int) / 9223372036854775808 * 2147483648) = ((sg * 2 ^ 31 : Nat) : Int)) := by
  rw [Hid, IntWalk.u64_in _ (by omega)]
  omega
 clear hn hex hmx hsg A1 A2;go_enter Tryz.func106, Tryz.ntmps106
 go_wp2_with fail
 ·have h1 : ex = 2047 := by
   have h : ((ex : Int) == 2047) = true := by assumption
   rw [beq_iff_eq] at h
   omega
  go_ret2
  have hor := or_add sg 31 2139095040 (by omega) (by omega)
  refine ⟨⟨sg * 2147483648 + 2139095040, ?_, ?_⟩, rfl⟩
  ·show Ending.returned (Value.tuple #[Value.int .u64 _, Value.bool _]) = _
   rw [KS.out, E.out, if_pos h1];rw [show (2139095040 : Int) = ((2139095040 : Nat) : Int) from rfl, hor]
   by_cases h : mx = 0 <;> simp [h]
  ·intro x hx
   rw [E.out, if_pos h1] at hx
   split at hx
   ·injection hx
   ·cases hx
 ·have h1 : ¬ ex = 2047 := by
   have h : ((ex : Int) == 2047) = false := by assumption
   rw [beq_eq_false_iff_ne] at h
   omega
  have h2 : ex = 0 := by
   have h : ((ex : Int) == 0) = true := by assumption
   rw [beq_iff_eq] at h
   omega
  go_ret2
  refine ⟨⟨sg * 2147483648, ?_, ?_⟩, rfl⟩
  ·show Ending.returned (Value.tuple #[Value.int .u64 _, Value.bool _]) = _
   rw [KS.out, E.out, if_neg h1, if_pos h2]
   by_cases h : mx = 0 <;> simp [h]
  ·intro x hx
   rw [E.out, if_neg h1, if_pos h2] at hx
   split at hx
   ·injection hx
   ·cases hx
 all_goals
  have h1 : ¬ ex = 2047 := by
   have h : ((ex : Int) == 2047) = false := by assumption
   rw [beq_eq_false_iff_ne] at h
   omega
  have h2 : ¬ ex = 0 := by
   have h : ((ex : Int) == 0) = false := by assumption
   rw [beq_eq_false_iff_ne] at h
   omega
  rw [if_neg h1, if_neg h2] at E
 ·have h3 : 1023 + 255 ≤ ex + 127 := by omega
  go_ret2
  refine ⟨⟨0, ?_, ?_⟩, rfl⟩
  ·rw [E.out, if_pos h3];rfl
  ·intro x hx
   rw [E.out, if_pos h3] at hx
   cases hx
 ·have h3 : ¬ 1023 + 255 ≤ ex + 127 := by omega
  have h4 : 1023 < ex + 127 := by omega
  obtain ⟨q, hq⟩ : ∃ q, ex + 127 - 1023 = q := ⟨_, rfl⟩
  have hqi : ((ex : Int) - 1023 + 127) * 8388608 = ((q * 8388608 : Nat) : Int) := by omega
  have hmi : (mx : Int) / 536870912 = ((mx / 536870912 : Nat) : Int) := by omega
  have ha := and_mod mx 29 (by omega) (by omega)
  simp only [Nat.reducePow, Nat.reduceSub] at ha
  have ho1 := or_add sg 31 (q * 8388608) (by omega) (by omega);have ho2 := or_add (sg * 2 ^ 8 + q) 23 (mx / 536870912) (by omega) (by omega);rw [show (sg * 2 ^ 8 + q) * 2 ^ 23 = sg * 2 ^ 31 + q * 8388608 by omega] at ho2;go_ret2
  refine ⟨⟨sg * 2147483648 + q * 8388608 + mx / 536870912, ?_, ?_⟩, rfl⟩
  ·show Ending.returned (Value.tuple #[Value.int .u64 _, Value.bool _]) = _
   rw [KS.out, E.out, if_neg h3, if_pos h4, hqi, hmi, ho1, ho2];have ha' : bits .and .u64 (mx : Int) 536870911 = ((mx % 536870912 : Nat) : Int) := ha;rw [ha']
   by_cases h : mx % 536870912 = 0
   ·rw [if_pos h, h]; rfl
   ·rw [if_neg h];have : (((mx % 536870912 : Nat) : Int) == 0) = false := by rw [beq_eq_false_iff_ne]; omega
    rw [this]; rfl
  ·intro x hx
   rw [E.out, if_neg h3, if_pos h4, hq] at hx
   split at hx
   ·injection hx
   ·cases hx
 ·have h5 : 52 < 30 + (1023 - ex - 127) := by omega
  have h3 : ¬ 1023 + 255 ≤ ex + 127 := by omega
  have h4 : ¬ 1023 < ex + 127 := by omega
  go_ret2
  refine ⟨⟨0, ?_, ?_⟩, rfl⟩
  ·rw [E.out, if_neg h3, if_neg h4, if_pos h5];rfl
  ·intro x hx
   rw [E.out, if_neg h3, if_neg h4, if_pos h5] at hx
   cases hx
 ·have h3 : ¬ 1023 + 255 ≤ ex + 127 := by omega
  have h4 : ¬ 1023 < ex + 127 := by omega
  have h5 : ¬ 52 < 30 + (1023 - ex - 127) := by omega
  obtain ⟨sh, hsh⟩ : ∃ sh, 30 + (1023 - ex - 127) = sh := ⟨_, rfl⟩
  have hsi : (30 - ((ex : Int) - 1023 + 127)).toNat = sh := by omega
  obtain ⟨full, hfull⟩ : ∃ full, mx + 4503599627370496 = full := ⟨_, rfl⟩
  have hof : bits .or .u64 (mx : Int) 4503599627370496 = (full : Int) := by
   have := or_low mx 52 (by omega) (by omega)
   simp only [Nat.reducePow] at this
   rw [← hfull]
   exact this
  have hw : IntKind.u64.wrap (IntKind.u64.wrap ((2 : Int) ^ sh) - 1) = ((2 ^ sh - 1 : Nat) : Int) := pow_mask sh (by omega)
  have hdv : (full : Int) / 2 ^ sh = ((full / 2 ^ sh : Nat) : Int) := by
   rw [Int.natCast_ediv, Int.natCast_pow]; rfl
  have hlt : full / 2 ^ sh < 2 ^ 31 := by
   apply Nat.div_lt_of_lt_mul
   have : 2 ^ 30 ≤ 2 ^ sh := Nat.pow_le_pow_right (by omega) (by omega);have h2 : 2 ^ 30 * 2 ^ 31 ≤ 2 ^ sh * 2 ^ 31 := Nat.mul_le_mul_right _ this
   simp only [Nat.reducePow, Nat.reduceMul] at h2 ⊢
   omega
  have ho := or_add sg 31 (full / 2 ^ sh) hlt (by simp only [Nat.reducePow] at hlt ⊢; omega);have ha := and_mod full sh (by omega) (by omega);go_ret2
  refine ⟨⟨sg * 2147483648 + full / 2 ^ sh, ?_, ?_⟩, rfl⟩
  ·show Ending.returned (Value.tuple #[Value.int .u64 _, Value.bool _]) = _
   rw [KS.out, E.out, if_neg h3, if_neg h4, if_neg h5, hsi, hof, hw, ha, hdv, ho, hsh, hfull]
   by_cases h : full % 2 ^ sh = 0
   ·rw [if_pos h, h]; rfl
   ·rw [if_neg h];have : (((full % 2 ^ sh : Nat) : Int) == 0) = false := by rw [beq_eq_false_iff_ne]; omega
    rw [this]; rfl
  ·intro x hx
   rw [E.out, if_neg h3, if_neg h4, if_neg h5, hsh, hfull] at hx
   split at hx
   ·injection hx
   ·cases hx
theorem ref_float (n : Nat) (hn : n < 18446744073709551616) (w : World) :
  Calls Tryz.prog 79 #[.int .u64 (n : Int)] w fun e w' => ∃ r, e = .returned r ∧ Fresh w (floatB n) r w' := by
 have I := Hh (ref_IsNaN n hn w);have N1 := Hh (ref_Narrow16 n hn w);have N2 := Hh (ref_Narrow32 n hn w);have HN := Hh hn;clear hn
 cases hN : isNaN n with
 | true =>
  rw [hN] at I;have E : Hid (floatB n = [u8 249, u8 126, u8 0]) := by rw [Hid, floatB, if_pos hN]
  clear hN;go_enter Tryz.func79, Tryz.ntmps79
  go_wp2_with fail
  refine I.out.mono ?_
  rintro e w' ⟨rfl, rfl⟩
  go_wp2_with fail
  go_ret
  refine ⟨_, rfl, ?_⟩
  rw [E.out]
  exact Fresh.lit w _ _ 3 rfl (by simp) rfl
 | false =>
  rw [hN] at I
  cases h1 : narrow n 5 10 with
  | some v =>
   have E : Hid (floatB n = [u8 249, u8 (v / 256), u8 v]) := by rw [Hid, floatB, if_neg (by simp [hN]), h1]
   rw [h1] at N1;clear hN h1;go_enter Tryz.func79, Tryz.ntmps79
   go_wp2_with fail
   refine I.out.mono ?_
   rintro e w' ⟨rfl, rfl⟩
   go_wp2_with fail
   refine N1.out.mono ?_
   rintro e w' ⟨⟨v', rfl, hv⟩, rfl⟩
   obtain rfl := hv v rfl;clear hv;go_wp2_with fail
   go_ret
   refine ⟨_, rfl, ?_⟩
   rw [E.out]
   refine Fresh.lit w _ _ 3 rfl (by simp) ?_
   simp only [List.map_cons, List.map_nil, byteV_u8]
   simp
  | none =>
   rw [h1] at N1
   cases h2 : narrow n 8 23 with
   | some v =>
    have E : Hid (floatB n = [u8 250, u8 (v / 16777216), u8 (v / 65536), u8 (v / 256), u8 v]) := by rw [Hid, floatB, if_neg (by simp [hN]), h1, h2]
    rw [h2] at N2;clear hN h1 h2;go_enter Tryz.func79, Tryz.ntmps79
    go_wp2_with fail
    refine I.out.mono ?_
    rintro e w' ⟨rfl, rfl⟩
    go_wp2_with fail
    refine N1.out.mono ?_
    rintro e w' ⟨⟨v', rfl, _⟩, rfl⟩
    go_wp2_with fail
    refine N2.out.mono ?_
    rintro e w' ⟨⟨v'', rfl, hv⟩, rfl⟩
    obtain rfl := hv v rfl;clear hv;go_wp2_with fail
    go_ret
    refine ⟨_, rfl, ?_⟩
    rw [E.out]
    refine Fresh.lit w _ _ 5 rfl (by simp) ?_
    simp only [List.map_cons, List.map_nil, byteV_u8]
    simp
   | none =>
    have E : Hid (floatB n = u8 251 :: tailB n 8 8) := by
     rw [Hid, floatB, if_neg (by simp [hN]), h1, h2]
     simp [tailB, be8, List.range_succ]
    rw [h2] at N2;clear hN h1 h2;have hO : OwnB (w.alloc (.cells #[.int .u8 251] 5)) w.heap.size (.slice (some ⟨w.heap.size, 0, none⟩) 1 1) [u8 251] := OwnB.lit w _ _ _ 1 rfl rfl (Nat.le_refl _) (by simp);have hb2 := below_box w (.cells #[.int .u8 251] 5);go_enter Tryz.func79, Tryz.ntmps79
    go_wp2_with fail
    refine I.out.mono ?_
    rintro e w' ⟨rfl, rfl⟩
    go_wp2_with fail
    refine N1.out.mono ?_
    rintro e w' ⟨⟨v', rfl, _⟩, rfl⟩
    go_wp2_with fail
    refine N2.out.mono ?_
    rintro e w' ⟨⟨v'', rfl, _⟩, rfl⟩
    go_wp2_with fail
    go_loopw [7, 8] (fun v7 v8 wr => ∃ (j : Nat) (VA : Option Addr) (vc : Nat), j ≤ 8 ∧ v8 = .int .i64 (7 - (j : Int)) ∧ v7 = .slice VA (1 + j) vc ∧ OwnB wr w.heap.size (.slice VA (1 + j) vc) (u8 251 :: tailB n 8 j) ∧ Below w.heap.size w wr) (fun _ v8 _ => (intOf v8 + 1).toNat)
    case atStart => exact ⟨0, _, _, by omega, by go_num, rfl, hO, hb2⟩
    case round =>
     obtain ⟨j, VA, vc, hj, rfl, rfl, hOr, hbr⟩ := hrel
     by_cases hlt : j < 8
     ·have hge : (0 : Int) ≤ 7 - (j : Int) := by omega
      have hcell : (#[.int .u8 ((n : Int) / 2 ^ (8 * (7 - j)) % 256)] : Array Value).toList = [tailF n 8 j].map byteV := by
       simp only [List.map_cons, List.map_nil, tailF, byteV_u8]
       rw [show 8 - 1 - j = 7 - j by omega]
       simp
      have hb3 := hbr.alloc hbr.size (.cells #[.int .u8 ((n : Int) / 2 ^ (8 * (7 - j)) % 256)] 5);have hO3 := hOr.alloc (.cells #[.int .u8 ((n : Int) / 2 ^ (8 * (7 - j)) % 256)] 5);have HC := Hh hcell;clear hcell;go_wp2_with (at_builtin; refine stop_in ?_)
      refine wpList_app_bytes rfl (.tmp 47) (.tmp 54) rfl w.heap.size _ _ rfl hO3 _ 1 _ [tailF n 8 j] rfl rfl (Src.new _ _ _ _ rfl _ HC.out) (by simp [tailB_len]; omega) hb3.size fun v' w7 hO7 hg7 hat7 => ?_
      have hl7 : (u8 251 :: tailB n 8 j) ++ [tailF n 8 j] = u8 251 :: tailB n 8 (j + 1) := by rw [tailB_succ]; rfl
      obtain ⟨VA', vc', rfl, _⟩ := hO7.form;have hll : ((u8 251 :: tailB n 8 j) ++ [tailF n 8 j]).length = 1 + (j + 1) := by simp [tailB_len]; omega
      rw [hll] at hO7;rw [hll];rw [hl7] at hO7;have hb7 := hb3.grown hg7 hb3.size (fun q hq => (hO3.lt q hq).1);clear hl7 hll hg7 hat7 hO3 hOr hb3 hbr;go_wp2_with fail
      go_roundw
      case rel => exact ⟨j + 1, VA', vc', by omega, by rw [show ((j + 1 : Nat) : Int) = (j : Int) + 1 by omega, show (7 : Int) - ((j : Int) + 1) = 7 - j - 1 by omega], rfl, hO7, hb7⟩
      case measure => simp [intOf]; omega
     ·have hjs : j = 8 := by omega
      subst hjs;go_wp2_with fail
      go_ret
      rw [E.out]
      exact ⟨_, rfl, hOr, hbr⟩
def notNumber : Nat := 9221120237041090560
def isPlain (x : Itm) : Bool := x.kind == 0 || x.kind == 1 || x.kind == 2 || x.kind == 3 || x.kind == 7 || x.kind == 8
def okPlain (x : Itm) : Bool :=
 if x.kind = 0 ∨ x.kind = 1 then x.bytes.isEmpty && x.items.isEmpty
 else if x.kind = 2 then x.n == 0 && x.items.isEmpty
 else if x.kind = 3 then x.n == 0 && x.items.isEmpty && Lib.validD x.bytes
 else if x.kind = 7 then x.bytes.isEmpty && x.items.isEmpty && (decide (x.n < 24) || decide (32 ≤ x.n) && decide (x.n < 256))
 else if x.kind = 8 then x.bytes.isEmpty && x.items.isEmpty && (!isNaN x.n || x.n == notNumber)
 else false
def spendP (x : Itm) : Nat :=
 if x.kind = 8 then (floatB x.n).length else if x.kind = 7 then (if 24 ≤ x.n then 2 else 1) else (headB x.kind.toNat (numP x)).length + x.bytes.length
def ascP : List Itm → Bool
 | a :: b :: c :: l => decide (Lib.compareBytes (encB a) (encB c) < 0) && ascP (c :: l)
 | _ => true
theorem ascP_drop (l : List Itm) (j : Nat) (h2 : 2 ≤ j) (h : j < l.length) :
  ascP (l.drop (j - 2)) = (decide (Lib.compareBytes (encB (l[j - 2]'(by omega))) (encB l[j]) < 0) && ascP (l.drop j)) := by
 have e1 : l.drop (j - 2) = l[j - 2]'(by omega) :: l.drop (j - 1) := by
  rw [List.drop_eq_getElem_cons (by omega)];rw [show j - 2 + 1 = j - 1 by omega]
 have e2 : l.drop (j - 1) = l[j - 1]'(by omega) :: l.drop j := by
  rw [List.drop_eq_getElem_cons (by omega)];rw [show j - 1 + 1 = j by omega]
 have e3 : l.drop j = l[j] :: l.drop (j + 1) := List.drop_eq_getElem_cons h;rw [e1, e2, e3, ascP]
theorem ascP_end (l : List Itm) (j : Nat) (h2 : 2 ≤ j) (h : l.length ≤ j) : ascP (l.drop (j - 2)) = true := by
 have hl : (l.drop (j - 2)).length ≤ 2 := by rw [List.length_drop]; omega
 match l.drop (j - 2), hl with
 | [], _ => rfl
 | [_], _ => rfl
 | [_, _], _ => rfl
 | _ :: _ :: _ :: _, h => simp at h
def frameOk (x : Itm) (lv : Nat) : Bool :=
 decide (4 ≤ x.kind ∧ x.kind ≤ 6 ∧ lv < 8 ∧ x.bytes.length = 0 ∧ (x.kind = 6 → x.items.length = 1) ∧ (x.kind ≠ 6 → x.n = 0) ∧ (x.kind = 5 → x.items.length % 2 = 0))
mutual
def chk : Itm → Nat → Nat → Nat → Option (Nat × Nat)
 | .mk k n bs l, lv, i, s =>
  if 256 < i + 1 ∨ 4096 < bs.length ∨ 256 < l.length then none
  else if isPlain (.mk k n bs l) = true then (if okPlain (.mk k n bs l) = true ∧ s + spendP (.mk k n bs l) ≤ 4096 then some (i + 1, s + spendP (.mk k n bs l)) else none)
  else if frameOk (.mk k n bs l) lv = false then none
  else if 4096 < s + spendP (.mk k n bs l) then none
  else match chkL l (lv + 1) (i + 1) (s + spendP (.mk k n bs l)) with
   | none => none
   | some p => if k = 5 ∧ ascP l = false then none else some p
def chkL : List Itm → Nat → Nat → Nat → Option (Nat × Nat)
 | [], _, i, s => some (i, s)
 | x :: l, lv, i, s => match chk x lv i s with
  | none => none
  | some p => chkL l lv p.1 p.2
end
theorem chk_eq (x : Itm) (lv i s : Nat) : chk x lv i s =
  if 256 < i + 1 ∨ 4096 < x.bytes.length ∨ 256 < x.items.length then none
  else if isPlain x = true then (if okPlain x = true ∧ s + spendP x ≤ 4096 then some (i + 1, s + spendP x) else none)
  else if frameOk x lv = false then none
  else if 4096 < s + spendP x then none
  else match chkL x.items (lv + 1) (i + 1) (s + spendP x) with
   | none => none
   | some p => if x.kind = 5 ∧ ascP x.items = false then none else some p := by
 cases x
 rw [chk];rfl
theorem isPlain_iff (x : Itm) : isPlain x = true ↔ x.kind = 0 ∨ x.kind = 1 ∨ x.kind = 2 ∨ x.kind = 3 ∨ x.kind = 7 ∨ x.kind = 8 := by
 simp [isPlain]
 omega
theorem spend_enc (x : Itm) (h : x.items = []) (h8 : x.kind = 8 ∨ x.kind = 7 → x.bytes = []) : spendP x = (encB x).length := by
 rw [encB_eq, spendP]
 by_cases h1 : x.kind = 8
 ·rw [if_pos h1, if_pos h1]
 rw [if_neg h1, if_neg h1]
 by_cases h2 : x.kind = 7
 ·rw [if_pos h2]
  by_cases h3 : 24 ≤ x.n
  ·rw [if_pos h3, if_pos ⟨h2, h3⟩]; rfl
  ·have hn : numP x = x.n := by simp [numP, h2]
   rw [if_neg h3, if_neg (by omega), h8 (.inr h2), h, encL, hn, headB, if_pos (by omega)];rfl
 ·rw [if_neg h2, if_neg (by omega), h, encL]
  simp
theorem spend_mid (x : Itm) (h8 : x.kind ≠ 8) (h7 : x.kind ≠ 7) : spendP x = (headB x.kind.toNat (numP x)).length + x.bytes.length := by
 rw [spendP, if_neg h8, if_neg h7]
theorem frameOk_spec {x : Itm} {lv : Nat} (h : frameOk x lv = true) : 4 ≤ x.kind ∧ x.kind ≤ 6 ∧ lv < 8 ∧ x.bytes.length = 0 ∧ (x.kind = 6 → x.items.length = 1) ∧ (x.kind ≠ 6 → x.n = 0) ∧ (x.kind = 5 → x.items.length % 2 = 0) :=
 of_decide_eq_true h
theorem okPlain_items {x : Itm} (hp : isPlain x = true) (ho : okPlain x = true) : x.items = [] ∧ (x.kind = 8 ∨ x.kind = 7 → x.bytes = []) := by
 rw [isPlain_iff] at hp
 unfold okPlain at ho
 rcases hp with h | h | h | h | h | h <;> simp [h] at ho ⊢ <;> simp [ho]
mutual
theorem chk_spec : ∀ (x : Itm) (lv i s : Nat) (p : Nat × Nat), chk x lv i s = some p → Kinds x ∧ p = (i + cnt x, s + (encB x).length) ∧ p.1 ≤ 256 ∧ p.2 ≤ 4096
 | .mk k n bs l, lv, i, s, p, h => by
  rw [chk] at h
  split at h
  ·cases h
  rename_i h0
  split at h
  ·rename_i hp
   split at h
   ·rename_i ho
    obtain ⟨hi, hb⟩ := okPlain_items hp ho.1;have hk := (isPlain_iff _).1 hp;have hs := spend_enc (.mk k n bs l) hi hb
    simp only [Itm.items, Itm.kind] at hi hk
    subst hi;injection h with h
    subst h;rw [← hs]
    refine ⟨?_, ?_, ?_, ?_⟩
    ·rw [Kinds, KindsL]; exact ⟨by omega, trivial⟩
    ·rw [cnt, cntL]
    ·simp only; omega
    ·exact ho.2
   ·cases h
  rename_i hp
  split at h
  ·cases h
  rename_i hf
  split at h
  ·cases h
  rename_i h4
  have hf' := frameOk_spec (by simpa using hf)
  simp only [Itm.kind, Itm.bytes, Itm.items, List.length_eq_zero_iff] at hf'
  split at h
  ·cases h
  rename_i q hq
  split at h
  ·cases h
  injection h with h
  subst h;obtain ⟨hk, hq', h1, h2⟩ := chkL_spec l _ _ _ _ hq (by omega) (by omega);have hsp := spend_mid (.mk k n bs l) (by simp only [Itm.kind]; omega) (by simp only [Itm.kind]; omega)
  simp only [Itm.kind, Itm.bytes] at hsp
  rw [hf'.2.2.2.1] at hsp
  refine ⟨by rw [Kinds]; exact ⟨by omega, hk⟩, ?_, h1, h2⟩
  rw [hq', cnt, encB, if_neg (by omega), if_neg (by omega), hf'.2.2.2.1, hsp]
  simp only [List.length_append, List.length_nil, Prod.mk.injEq]
  omega
theorem chkL_spec : ∀ (l : List Itm) (lv i s : Nat) (p : Nat × Nat), chkL l lv i s = some p → i ≤ 256 → s ≤ 4096 → KindsL l ∧ p = (i + cntL l, s + (encL l).length) ∧ p.1 ≤ 256 ∧ p.2 ≤ 4096
 | [], lv, i, s, p, h, hi, hs => by
  rw [chkL] at h;injection h with h
  subst h;rw [KindsL, cntL, encL]
  exact ⟨trivial, rfl, hi, hs⟩
 | x :: l, lv, i, s, p, h, hi, hs => by
  rw [chkL] at h
  split at h
  ·cases h
  rename_i q hq
  obtain ⟨hk, hq', h1, h2⟩ := chk_spec x _ _ _ _ hq;obtain ⟨hkl, hp, h3, h4⟩ := chkL_spec l _ _ _ _ h h1 h2
  refine ⟨by rw [KindsL]; exact ⟨hk, hkl⟩, ?_, h3, h4⟩
  rw [hp, hq', cntL, encL]
  simp
  omega
end
def validP (x : Itm) : Bool := (chk x 0 0 0).isSome
theorem validP_spec {x : Itm} (h : validP x = true) : Kinds x ∧ cnt x ≤ 256 ∧ (encB x).length ≤ 4096 := by
 obtain ⟨p, hp⟩ := Option.isSome_iff_exists.1 h;obtain ⟨hk, he, h1, h2⟩ := chk_spec _ _ _ _ _ hp;subst he
 simp only at h1 h2
 exact ⟨hk, by omega, by omega⟩
mutual
def Modest : Itm → Prop
 | .mk _ _ bs l => bs.length ≤ 1099511627776 ∧ l.length ≤ 1099511627776 ∧ ModestL l
def ModestL : List Itm → Prop
 | [] => True
 | x :: l => Modest x ∧ ModestL l
end
theorem Modest.parts {x : Itm} (h : Modest x) : x.bytes.length ≤ 1099511627776 ∧ x.items.length ≤ 1099511627776 ∧ ModestL x.items := by cases x; rw [Modest] at h; exact h
theorem ModestL.get : ∀ {l : List Itm}, ModestL l → ∀ (k : Nat) (hk : k < l.length), Modest l[k]
 | [], _, k, hk => by simp at hk
 | x :: l, h, 0, hk => by rw [ModestL] at h; exact h.1
 | x :: l, h, k + 1, hk => by rw [ModestL] at h; exact h.2.get k (by simpa using hk)
abbrev zeroItm : Itm := .mk 0 0 [] []
mutual
theorem chk_modest : ∀ (x : Itm) (lv i s : Nat) (p : Nat × Nat), chk x lv i s = some p → Modest x
 | .mk k n bs l, lv, i, s, p, h => by
  rw [chk] at h
  split at h
  ·cases h
  rename_i h0
  rw [Modest]
  refine ⟨by omega, by omega, ?_⟩
  split at h
  ·rename_i h1
   split at h
   ·rename_i h2
    rw [show l = [] from (okPlain_items h1 h2.1).1, ModestL];trivial
   ·cases h
  split at h
  ·cases h
  split at h
  ·cases h
  split at h
  ·cases h
  ·rename_i q hq
   exact chkL_modest l _ _ _ _ hq
theorem chkL_modest : ∀ (l : List Itm) (lv i s : Nat) (p : Nat × Nat), chkL l lv i s = some p → ModestL l
 | [], _, _, _, _, _ => by rw [ModestL]; trivial
 | x :: l, lv, i, s, p, h => by
  rw [chkL] at h
  split at h
  ·cases h
  ·rename_i q hq
   rw [ModestL]
   exact ⟨chk_modest x _ _ _ _ hq, chkL_modest l _ _ _ _ h⟩
end
theorem validP_modest {x : Itm} (h : validP x = true) : Modest x := by
 obtain ⟨p, hp⟩ := Option.isSome_iff_exists.1 h
 exact chk_modest _ _ _ _ _ hp
def intP (n : Int) : Itm := if n < 0 then .mk 1 (-1 - n).toNat [] [] else .mk 0 n.toNat [] []
structure Ad where
 ba : Option Addr
 bc : Nat
 ia : Option Addr
 ic : Nat
def Tabs (H : Snap) : Prop := ∀ w, Holds w H → Lib.Utf8Tabs 2 3 w
theorem Tabs.mono {H K : Snap} (h : Tabs H) (hl : H.le K) : Tabs K := fun w hw => h w (hw.mono hl)
def nodeOk (x : Itm) (lv : Nat) : Bool := if isPlain x = true then okPlain x else frameOk x lv
mutual
def Good : Itm → Nat → Prop
 | .mk k n bs l, lv => nodeOk (.mk k n bs l) lv = true ∧ GoodL l (lv + 1) ∧ (k = 5 → ascP l = true)
def GoodL : List Itm → Nat → Prop
 | [], _ => True
 | x :: l, lv => Good x lv ∧ GoodL l lv
end
theorem Good.node {x : Itm} {lv : Nat} (h : Good x lv) : nodeOk x lv = true := by cases x; rw [Good] at h; exact h.1
theorem Good.items {x : Itm} {lv : Nat} (h : Good x lv) : GoodL x.items (lv + 1) := by cases x; rw [Good] at h; exact h.2.1
theorem Good.asc {x : Itm} {lv : Nat} (h : Good x lv) (h5 : x.kind = 5) : ascP x.items = true := by cases x; rw [Good] at h; exact h.2.2 h5
theorem Good.of {x : Itm} {lv : Nat} (h1 : nodeOk x lv = true) (h2 : GoodL x.items (lv + 1)) (h3 : x.kind = 5 → ascP x.items = true) : Good x lv := by cases x; rw [Good]; exact ⟨h1, h2, h3⟩
theorem GoodL.get : ∀ {l : List Itm} {lv : Nat}, GoodL l lv → ∀ x ∈ l, Good x lv
 | [], _, _, x, hx => by cases hx
 | y :: l, lv, h, x, hx => by
  rw [GoodL] at h
  rcases List.mem_cons.1 hx with rfl | hx
  ·exact h.1
  ·exact h.2.get x hx
theorem nodeOk_cases {x : Itm} {lv : Nat} (h : nodeOk x lv = true) : (isPlain x = true ∧ okPlain x = true) ∨ (isPlain x = false ∧ frameOk x lv = true) := by
 unfold nodeOk at h
 cases hp : isPlain x with
 | true => rw [if_pos hp] at h; exact .inl ⟨rfl, h⟩
 | false => rw [if_neg (by simp [hp])] at h; exact .inr ⟨rfl, h⟩
theorem nodeOk_kind {x : Itm} {lv : Nat} (h : nodeOk x lv = true) : 0 ≤ x.kind ∧ x.kind ≤ 8 := by
 rcases nodeOk_cases h with ⟨h1, _⟩ | ⟨_, h1⟩
 ·rw [isPlain_iff] at h1; omega
 ·have := frameOk_spec h1; omega
theorem frameOk_le {x : Itm} {lv lv' : Nat} (h : frameOk x lv = true) (hl : lv' ≤ lv) : frameOk x lv' = true := by
 obtain ⟨h1, h2, h3, h4⟩ := frameOk_spec h
 exact decide_eq_true ⟨h1, h2, by omega, h4⟩
theorem nodeOk_le {x : Itm} {lv lv' : Nat} (h : nodeOk x lv = true) (hl : lv' ≤ lv) : nodeOk x lv' = true := by
 rcases nodeOk_cases h with ⟨h1, h2⟩ | ⟨h1, h2⟩
 ·rw [nodeOk, if_pos h1]; exact h2
 ·rw [nodeOk, if_neg (by simp [h1])]; exact frameOk_le h2 hl
mutual
theorem Good.le : ∀ {x : Itm} {lv lv' : Nat}, Good x lv → lv' ≤ lv → Good x lv'
 | .mk k n bs l, lv, lv', h, hl => by
  rw [Good] at h ⊢
  exact ⟨nodeOk_le h.1 hl, GoodL.le h.2.1 (by omega), h.2.2⟩
theorem GoodL.le : ∀ {l : List Itm} {lv lv' : Nat}, GoodL l lv → lv' ≤ lv → GoodL l lv'
 | [], _, _, _, _ => by rw [GoodL]; trivial
 | x :: l, lv, lv', h, hl => by
  rw [GoodL] at h ⊢
  exact ⟨Good.le h.1 hl, GoodL.le h.2 hl⟩
end
theorem node_plain {x : Itm} {lv : Nat} (h : nodeOk x lv = true) (hp : isPlain x = true) : x.items = [] ∧ (x.kind = 8 ∨ x.kind = 7 → x.bytes = []) := by
 rcases nodeOk_cases h with ⟨_, h2⟩ | ⟨h1, _⟩
 ·exact okPlain_items hp h2
 ·rw [hp] at h1; cases h1
theorem node_enc {x : Itm} {lv : Nat} (h : nodeOk x lv = true) : (encB x).length = spendP x + (encL x.items).length := by
 cases hp : isPlain x with
 | true =>
  obtain ⟨h1, h2⟩ := node_plain h hp;rw [← spend_enc x h1 h2, h1, encL]; simp
 | false =>
  rcases nodeOk_cases h with ⟨h1, _⟩ | ⟨_, h2⟩
  ·rw [hp] at h1; cases h1
  ·have hf := frameOk_spec h2;rw [encB_eq, if_neg (by omega), if_neg (by omega), spend_mid x (by omega) (by omega)]
   simp; omega
theorem spend_bytes {x : Itm} {lv : Nat} (h : nodeOk x lv = true) : x.bytes.length ≤ spendP x := by
 by_cases h8 : x.kind = 8
 ·have := (node_plain h ((isPlain_iff x).2 (by omega))).2 (by omega);rw [this]; simp
 by_cases h7 : x.kind = 7
 ·have := (node_plain h ((isPlain_iff x).2 (by omega))).2 (by omega);rw [this]; simp
 rw [spend_mid x h8 h7]; omega
theorem cntL_len : ∀ l : List Itm, l.length ≤ cntL l
 | [] => by simp [cntL]
 | x :: l => by
  have := cntL_len l;have h : 0 < cnt x := by cases x; rw [cnt]; omega
  rw [cntL]; simp; omega
theorem cnt_eq (x : Itm) : cnt x = cntL x.items + 1 := by cases x; rw [cnt]; rfl
mutual
theorem chk_good : ∀ (x : Itm) (lv i s : Nat) (p : Nat × Nat), chk x lv i s = some p → Good x lv
 | .mk k n bs l, lv, i, s, p, h => by
  rw [chk] at h
  split at h
  ·cases h
  split at h
  ·rename_i hp
   split at h
   ·rename_i ho
    have hi := (okPlain_items hp ho.1).1;have hk := (isPlain_iff _).1 hp
    simp only [Itm.items, Itm.kind] at hi hk
    subst hi;rw [Good, GoodL]
    exact ⟨by rw [nodeOk, if_pos hp]; exact ho.1, trivial, fun h => by omega⟩
   ·cases h
  rename_i hp
  split at h
  ·cases h
  rename_i hf
  split at h
  ·cases h
  split at h
  ·cases h
  rename_i q hq
  split at h
  ·cases h
  rename_i ha
  rw [Good]
  refine ⟨by rw [nodeOk, if_neg hp]; simpa using hf, chkL_good l _ _ _ _ hq, fun h5 => ?_⟩
  cases hs : ascP l with
  | true => rfl
  | false => exact absurd ⟨h5, hs⟩ ha
theorem chkL_good : ∀ (l : List Itm) (lv i s : Nat) (p : Nat × Nat), chkL l lv i s = some p → GoodL l lv
 | [], _, _, _, _, _ => by rw [GoodL]; trivial
 | x :: l, lv, i, s, p, h => by
  rw [chkL] at h
  split at h
  ·cases h
  rename_i q hq
  rw [GoodL]
  exact ⟨chk_good x _ _ _ _ hq, chkL_good l _ _ _ _ h⟩
end
mutual
theorem good_chk : ∀ (x : Itm) (lv i s : Nat), Good x lv → i + cnt x ≤ 256 → s + (encB x).length ≤ 4096 → chk x lv i s = some (i + cnt x, s + (encB x).length)
 | .mk k n bs l, lv, i, s, h, hi, hs => by
  have hn := h.node;have hit := h.items;have has := h.asc;have hsp := node_enc hn;have hby := spend_bytes hn;have hc := cnt_eq (.mk k n bs l);have hl := cntL_len l
  simp only [Itm.items, Itm.bytes, Itm.kind] at *
  rw [chk, if_neg (by omega)]
  rcases nodeOk_cases hn with ⟨h1, h2⟩ | ⟨h1, h2⟩
  ·have h0 := (okPlain_items h1 h2).1
   simp only [Itm.items] at h0
   subst h0;rw [encL] at hsp;rw [cntL] at hc
   simp only [List.length_nil] at hsp
   rw [if_pos h1, if_pos ⟨h2, by omega⟩, hc, hsp];congr 2
  ·rw [if_neg (by simp [h1]), if_neg (by simp [h2]), if_neg (by omega), goodL_chk l (lv + 1) (i + 1) _ hit (by omega) (by omega)]
   simp only
   rw [if_neg (by rintro ⟨h5, ha⟩; rw [has h5] at ha; cases ha)];congr 2 <;> omega
theorem goodL_chk : ∀ (l : List Itm) (lv i s : Nat), GoodL l lv → i + cntL l ≤ 256 → s + (encL l).length ≤ 4096 → chkL l lv i s = some (i + cntL l, s + (encL l).length)
 | [], lv, i, s, _, _, _ => by rw [chkL, cntL, encL]; rfl
 | x :: l, lv, i, s, h, hi, hs => by
  rw [GoodL] at h;rw [cntL] at hi ⊢;rw [encL] at hs ⊢
  simp only [List.length_append] at hs ⊢
  rw [chkL, good_chk x lv i s h.1 (by omega) (by omega)]
  simp only
  rw [goodL_chk l lv _ _ h.2 (by omega) (by omega)];congr 2 <;> omega
end
theorem validP_iff (x : Itm) : validP x = true ↔ Good x 0 ∧ cnt x ≤ 256 ∧ (encB x).length ≤ 4096 := by
 constructor
 ·intro h
  obtain ⟨p, hp⟩ := Option.isSome_iff_exists.1 h;have := validP_spec h
  exact ⟨chk_good _ _ _ _ _ hp, this.2.1, this.2.2⟩
 ·rintro ⟨h1, h2, h3⟩
  rw [validP, good_chk x 0 0 0 h1 (by omega) (by omega)];rfl
mutual
def Small : Itm → Prop
 | .mk _ _ bs l => bs.length ≤ 4096 ∧ SmallL l
def SmallL : List Itm → Prop
 | [] => True
 | x :: l => Small x ∧ SmallL l
end
def nodeR (x : Itm) (d m : Nat) : Bool := nodeOk x d && decide (x.bytes.length ≤ 4096) && decide (x.items.length ≤ m)
mutual
def leftP : Itm → Nat → Nat → Option Nat
 | .mk k n bs l, c, d =>
  if c < 1 then none
  else if nodeR (.mk k n bs l) d (c - 1) = false then none
  else match leftL l (c - 1) (d + 1) with
   | none => none
   | some r => if k = 5 ∧ ascP l = false then none else some r
def leftL : List Itm → Nat → Nat → Option Nat
 | [], c, _ => some c
 | x :: l, c, d => match leftP x c d with
  | none => none
  | some r => leftL l r d
end
theorem leftP_eq (x : Itm) (c d : Nat) : leftP x c d =
  if c < 1 then none
  else if nodeR x d (c - 1) = false then none
  else match leftL x.items (c - 1) (d + 1) with
   | none => none
   | some r => if x.kind = 5 ∧ ascP x.items = false then none else some r := by
 cases x
 rw [leftP];rfl
theorem nodeR_spec {x : Itm} {d m : Nat} (h : nodeR x d m = true) : nodeOk x d = true ∧ x.bytes.length ≤ 4096 ∧ x.items.length ≤ m := by
 simpa [nodeR, and_assoc] using h
mutual
theorem left_spec : ∀ (x : Itm) (c d r : Nat), leftP x c d = some r → Good x d ∧ Small x ∧ r + cnt x = c
 | .mk k n bs l, c, d, r, h => by
  rw [leftP] at h
  split at h
  ·cases h
  split at h
  ·cases h
  rename_i hn
  obtain ⟨h1, h2, h3⟩ := nodeR_spec (by simpa using hn)
  split at h
  ·cases h
  rename_i q hq
  split at h
  ·cases h
  rename_i ha
  injection h with h
  subst h;obtain ⟨g1, g2, g3⟩ := leftL_spec l _ _ _ hq;rw [Good, Small, cnt]
  refine ⟨⟨h1, g1, fun h5 => ?_⟩, ⟨h2, g2⟩, by omega⟩
  cases hs : ascP l with
  | true => rfl
  | false => exact absurd ⟨h5, hs⟩ ha
theorem leftL_spec : ∀ (l : List Itm) (c d r : Nat), leftL l c d = some r → GoodL l d ∧ SmallL l ∧ r + cntL l = c
 | [], c, d, r, h => by
  rw [leftL] at h;injection h with h
  subst h;rw [GoodL, SmallL, cntL]
  exact ⟨trivial, trivial, rfl⟩
 | x :: l, c, d, r, h => by
  rw [leftL] at h
  split at h
  ·cases h
  rename_i q hq
  obtain ⟨h1, h2, h3⟩ := left_spec x _ _ _ hq;obtain ⟨g1, g2, g3⟩ := leftL_spec l _ _ _ h;rw [GoodL, SmallL, cntL]
  exact ⟨⟨h1, g1⟩, ⟨h2, g2⟩, by omega⟩
end
mutual
theorem good_left : ∀ (x : Itm) (c d : Nat), Good x d → Small x → cnt x ≤ c → leftP x c d = some (c - cnt x)
 | .mk k n bs l, c, d, h, hs, hc => by
  have hn := h.node;have hit := h.items;have has := h.asc;have hcn := cnt_eq (.mk k n bs l);have hl := cntL_len l;rw [Small] at hs
  simp only [Itm.items, Itm.bytes, Itm.kind] at *
  have hr : nodeR (.mk k n bs l) d (c - 1) = true := by
   have e2 : l.length ≤ c - 1 := by omega
   simp [nodeR, hn, Itm.bytes, Itm.items, hs.1, e2]
  rw [leftP, if_neg (by omega), if_neg (by simp [hr]), goodL_left l (c - 1) (d + 1) hit hs.2 (by omega)]
  simp only
  rw [if_neg (by rintro ⟨h5, ha⟩; rw [has h5] at ha; cases ha)];congr 1; omega
theorem goodL_left : ∀ (l : List Itm) (c d : Nat), GoodL l d → SmallL l → cntL l ≤ c → leftL l c d = some (c - cntL l)
 | [], c, d, _, _, _ => by rw [leftL, cntL]; rfl
 | x :: l, c, d, h, hs, hc => by
  rw [GoodL] at h;rw [SmallL] at hs;rw [cntL] at hc ⊢;rw [leftL, good_left x c d h.1 hs.1 (by omega)]
  simp only
  rw [goodL_left l _ d h.2 hs.2 (by omega)];congr 1; omega
end
mutual
theorem Good.small : ∀ {x : Itm} {lv : Nat}, Good x lv → (encB x).length ≤ 4096 → Small x
 | .mk k n bs l, lv, h, hl => by
  have h1 := node_enc h.node;have h2 := spend_bytes h.node;have h3 := h.items
  simp only [Itm.items, Itm.bytes] at *
  rw [Small]
  exact ⟨by omega, GoodL.small h3 (by omega)⟩
theorem GoodL.small : ∀ {l : List Itm} {lv : Nat}, GoodL l lv → (encL l).length ≤ 4096 → SmallL l
 | [], _, _, _ => by rw [SmallL]; trivial
 | x :: l, lv, h, hl => by
  rw [GoodL] at h;rw [encL] at hl
  simp only [List.length_append] at hl
  rw [SmallL]
  exact ⟨Good.small h.1 (by omega), GoodL.small h.2 (by omega)⟩
end
theorem spend_le {x : Itm} {lv : Nat} (h : nodeOk x lv = true) : spendP x ≤ x.bytes.length + 9 := by
 unfold spendP
 split
 ·have := floatB_length x.n; omega
 split
 ·split <;> omega
 ·have := (headB_le x.kind.toNat (numP x)).2; omega
mutual
theorem Good.bytes : ∀ {x : Itm} {lv : Nat}, Good x lv → Small x → (encB x).length ≤ cnt x * 4105
 | .mk k n bs l, lv, h, hs => by
  have h1 := node_enc h.node;have h2 := spend_le h.node;have h3 := h.items;have h4 := cnt_eq (.mk k n bs l);rw [Small] at hs
  simp only [Itm.items, Itm.bytes] at *
  have := GoodL.bytes h3 hs.2
  omega
theorem GoodL.bytes : ∀ {l : List Itm} {lv : Nat}, GoodL l lv → SmallL l → (encL l).length ≤ cntL l * 4105
 | [], _, _, _ => by rw [encL, cntL]; simp
 | x :: l, lv, h, hs => by
  rw [GoodL] at h;rw [SmallL] at hs;rw [encL, cntL];have h1 := Good.bytes h.1 hs.1;have h2 := GoodL.bytes h.2 hs.2
  simp only [List.length_append]
  omega
end
def validR (x : Itm) : Bool := (leftP x 256 0).isSome && decide ((encB x).length ≤ 4096)
theorem validR_eq (x : Itm) : validR x = validP x := by
 rw [Bool.eq_iff_iff, validP_iff];constructor
 ·intro h
  simp only [validR, Bool.and_eq_true, decide_eq_true_eq] at h
  obtain ⟨r, hr⟩ := Option.isSome_iff_exists.1 h.1;obtain ⟨h1, h2, h3⟩ := left_spec _ _ _ _ hr
  exact ⟨h1, by omega, h.2⟩
 ·rintro ⟨h1, h2, h3⟩
  simp only [validR, Bool.and_eq_true, decide_eq_true_eq]
  rw [good_left x 256 0 h1 (h1.small h3) h2]
  exact ⟨rfl, h3⟩
end Go.Proofs.YtmacemcajlgddaaGreatDoor
