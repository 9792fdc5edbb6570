/- squeezed. Walks: the references' IsNaN, Narrow, float. Walks: the references' float. -/
import Derived.Test.YtlebpackbfcfeaaDoorJ05
import Derived.Test.YtlebpackbfcfeaaDoorJ00
import Derived.Laws.BitsAllLaws
set_option linter.unusedVariables false
set_option linter.unusedSimpArgs false
namespace Go.Proofs.YtlebpackbfcfeaaDoor
open Go.RowKit

theorem and_mod (a k : Nat) (ha : a < 2 ^ 64) (hk : k < 64) : bits .and .u64 (a : Int) ((2 ^ k - 1 : Nat) : Int) = ((a % 2 ^ k : Nat) : Int) := by
 rw [u64_and_nat a (2 ^ k - 1) (by simpa using ha) ?_, Nat.and_two_pow_sub_one_eq_mod]
 have : 2 ^ k < 2 ^ 64 := Nat.pow_lt_pow_right (by omega) hk
 omega

theorem or_add (a k b : Nat) (hb : b < 2 ^ k) (h : a * 2 ^ k + b < 2 ^ 64) : bits .or .u64 ((a * 2 ^ k : Nat) : Int) (b : Int) = ((a * 2 ^ k + b : Nat) : Int) := by
 rw [u64_or_nat _ _ (by omega) (by omega), Nat.mul_comm, Nat.two_pow_add_eq_or_of_lt hb]
theorem or_low (b k : Nat) (hb : b < 2 ^ k) (hk : k < 64) : bits .or .u64 (b : Int) ((2 ^ k : Nat) : Int) = ((b + 2 ^ k : Nat) : Int) := by
 have h1 : 2 ^ k < 2 ^ 64 := Nat.pow_lt_pow_right (by omega) hk
 rw [u64_or_nat _ _ (by omega) (by omega), Nat.or_comm]
 have := Nat.two_pow_add_eq_or_of_lt hb 1
 rw [Nat.mul_one] at this
 rw [← this, Nat.add_comm]
theorem pow_mask (k : Nat) (hk : k < 64) : IntKind.u64.wrap (IntKind.u64.wrap ((2 : Int) ^ k) - 1) = ((2 ^ k - 1 : Nat) : Int) := by
 have h1 : 2 ^ k < 2 ^ 64 := Nat.pow_lt_pow_right (by omega) hk
 have h2 : 0 < 2 ^ k := Nat.two_pow_pos k
 have e : (2 : Int) ^ k = ((2 ^ k : Nat) : Int) := by rw [Int.natCast_pow]; rfl
 simp only [Nat.reducePow] at h1
 have e1 : IntKind.u64.wrap ((2 ^ k : Nat) : Int) = ((2 ^ k : Nat) : Int) := IntWalk.u64_in _ (by omega)
 rw [e, e1, IntWalk.u64_in _ (by omega)]
 omega
set_option maxRecDepth 100000 in
theorem ref_IsNaN (n : Nat) (hn : n < 18446744073709551616) (w : World) :
   Calls Tryd.prog 75 #[.int .u64 (n : Int)] w fun e w' => e = .returned (.bool (isNaN n)) ∧ w = w' := by
 have A1 := and_mod (n / 2 ^ 52) 11 (by omega) (by omega)
 have A2 := and_mod n 52 (by omega) (by omega)
 have E : Hid (isNaN n = (((n / 2 ^ 52 % 2 ^ 11 : Nat) : Int) == 2047 && ((n % 2 ^ 52 : Nat) : Int) != 0)) := by
   rw [Hid, isNaN, Bool.eq_iff_iff]
   simp only [Bool.and_eq_true, beq_iff_eq, bne_iff_ne]
   omega
 simp only [Nat.reducePow, Nat.reduceSub] at A1 A2 E
 rw [Int.natCast_ediv] at A1
 have HN := Lib.hid hn
 have HA1 := Lib.hid A1
 have HA2 := Lib.hid A2
 clear hn A1 A2
 go_enter Tryd.func75, Tryd.ntmps75
 go_wp2_with fail
 all_goals
   go_ret
   refine ⟨?_, rfl⟩
   have A1 := HA1.out
   have A2 := HA2.out
   have E' := E.out
   show Ending.returned (Value.bool _) = _
   clear E HA1 HA2 HN
   simp_all

set_option maxRecDepth 100000 in
set_option maxHeartbeats 3200000 in
theorem ref_Narrow16 (n : Nat) (hn : n < 18446744073709551616) (w : World) :
   Calls Tryd.prog 76 #[.int .u64 (n : Int), .int .i64 5, .int .i64 10] w
     fun e w' => (∃ v : Nat, e = .returned (.tuple #[.int .u64 (v : Int), .bool (narrow n 5 10).isSome]) ∧ ∀ x, narrow n 5 10 = some x → v = x) ∧ w = w' := by
 have A1 := and_mod (n / 2 ^ 52) 11 (by omega) (by omega)
 have A2 := and_mod n 52 (by omega) (by omega)
 simp only [Nat.reducePow, Nat.reduceSub] at A1 A2
 rw [Int.natCast_ediv] at A1
 obtain ⟨ex, hex⟩ : ∃ ex, n / 4503599627370496 % 2048 = ex := ⟨_, rfl⟩
 obtain ⟨mx, hmx⟩ : ∃ mx, n % 4503599627370496 = mx := ⟨_, rfl⟩
 obtain ⟨sg, hsg⟩ : ∃ sg, n / 9223372036854775808 = sg := ⟨_, rfl⟩
 have hs1 : sg ≤ 1 := by omega
 have E : Hid (narrow n 5 10 = if ex = 2047 then (if mx = 0 then some (sg * 32768 + 31744) else none) else if ex = 0 then (if mx = 0 then some (sg * 32768) else none)
     else if 1023 + 31 ≤ ex + 15 then none else if 1023 < ex + 15 then (if mx % 4398046511104 = 0 then some (sg * 32768 + (ex + 15 - 1023) * 1024 + mx / 4398046511104) else none)
     else if 52 < 43 + (1023 - ex - 15) then none else if (mx + 4503599627370496) % 2 ^ (43 + (1023 - ex - 15)) = 0 then some (sg * 32768 + (mx + 4503599627370496) / 2 ^ (43 + (1023 - ex - 15))) else none) := by
   rw [Hid, narrow]
   simp only [Nat.reducePow, Nat.reduceSub, Nat.reduceAdd, Nat.reduceMul, hex, hmx, hsg]
 rw [hex] at A1
 rw [hmx] at A2
 have he1 : ex < 2048 := by omega
 have hm1 : mx < 4503599627370496 := by omega
 have A1' : bits .and .u64 ((n : Int) / 4503599627370496) 2047 = (ex : Int) := A1
 have A2' : bits .and .u64 (n : Int) 4503599627370495 = (mx : Int) := A2
 have K1 : IntKind.i64.wrap (ex : Int) = (ex : Int) := IntWalk.i64_in _ (by omega)
 have KS : Hid (IntKind.u64.wrap ((n : Int) / 9223372036854775808 * 32768) = ((sg * 2 ^ 15 : Nat) : Int)) := by
   rw [Hid, IntWalk.u64_in _ (by omega)]
   omega
 clear hn hex hmx hsg A1 A2
 go_enter Tryd.func76, Tryd.ntmps76
 go_wp2_with fail
 · have h1 : ex = 2047 := by
     have h : ((ex : Int) == 2047) = true := by assumption
     rw [beq_iff_eq] at h
     omega
   go_ret2
   have hor := or_add sg 15 31744 (by omega) (by omega)
   refine ⟨⟨sg * 32768 + 31744, ?_, ?_⟩, rfl⟩
   · show Ending.returned (Value.tuple #[Value.int .u64 _, Value.bool _]) = _
     rw [KS.out, E.out, if_pos h1]
     rw [show (31744 : Int) = ((31744 : Nat) : Int) from rfl, hor]
     by_cases h : mx = 0 <;> simp [h]
   · intro x hx
     rw [E.out, if_pos h1] at hx
     split at hx
     · injection hx
     · cases hx
 · have h1 : ¬ ex = 2047 := by
     have h : ((ex : Int) == 2047) = false := by assumption
     rw [beq_eq_false_iff_ne] at h
     omega
   have h2 : ex = 0 := by
     have h : ((ex : Int) == 0) = true := by assumption
     rw [beq_iff_eq] at h
     omega
   go_ret2
   refine ⟨⟨sg * 32768, ?_, ?_⟩, rfl⟩
   · show Ending.returned (Value.tuple #[Value.int .u64 _, Value.bool _]) = _
     rw [KS.out, E.out, if_neg h1, if_pos h2]
     by_cases h : mx = 0 <;> simp [h]
   · intro x hx
     rw [E.out, if_neg h1, if_pos h2] at hx
     split at hx
     · injection hx
     · cases hx
 all_goals
   have h1 : ¬ ex = 2047 := by
     have h : ((ex : Int) == 2047) = false := by assumption
     rw [beq_eq_false_iff_ne] at h
     omega
   have h2 : ¬ ex = 0 := by
     have h : ((ex : Int) == 0) = false := by assumption
     rw [beq_eq_false_iff_ne] at h
     omega
   rw [if_neg h1, if_neg h2] at E
 · have h3 : 1023 + 31 ≤ ex + 15 := by omega
   go_ret2
   refine ⟨⟨0, ?_, ?_⟩, rfl⟩
   · rw [E.out, if_pos h3]
     rfl
   · intro x hx
     rw [E.out, if_pos h3] at hx
     cases hx
 · have h3 : ¬ 1023 + 31 ≤ ex + 15 := by omega
   have h4 : 1023 < ex + 15 := by omega
   obtain ⟨q, hq⟩ : ∃ q, ex + 15 - 1023 = q := ⟨_, rfl⟩
   have hqi : ((ex : Int) - 1023 + 15) * 1024 = ((q * 1024 : Nat) : Int) := by omega
   have hmi : (mx : Int) / 4398046511104 = ((mx / 4398046511104 : Nat) : Int) := by omega
   have ha := and_mod mx 42 (by omega) (by omega)
   simp only [Nat.reducePow, Nat.reduceSub] at ha
   have ho1 := or_add sg 15 (q * 1024) (by omega) (by omega)
   have ho2 := or_add (sg * 2 ^ 5 + q) 10 (mx / 4398046511104) (by omega) (by omega)
   rw [show (sg * 2 ^ 5 + q) * 2 ^ 10 = sg * 2 ^ 15 + q * 1024 by omega] at ho2
   go_ret2
   refine ⟨⟨sg * 32768 + q * 1024 + mx / 4398046511104, ?_, ?_⟩, rfl⟩
   · show Ending.returned (Value.tuple #[Value.int .u64 _, Value.bool _]) = _
     rw [KS.out, E.out, if_neg h3, if_pos h4, hqi, hmi, ho1, ho2]
     have ha' : bits .and .u64 (mx : Int) 4398046511103 = ((mx % 4398046511104 : Nat) : Int) := ha
     rw [ha']
     by_cases h : mx % 4398046511104 = 0
     · rw [if_pos h, h]; rfl
     · rw [if_neg h]
       have : (((mx % 4398046511104 : Nat) : Int) == 0) = false := by rw [beq_eq_false_iff_ne]; omega
       rw [this]; rfl
   · intro x hx
     rw [E.out, if_neg h3, if_pos h4, hq] at hx
     split at hx
     · injection hx
     · cases hx
 · have h5 : 52 < 43 + (1023 - ex - 15) := by omega
   have h3 : ¬ 1023 + 31 ≤ ex + 15 := by omega
   have h4 : ¬ 1023 < ex + 15 := by omega
   go_ret2
   refine ⟨⟨0, ?_, ?_⟩, rfl⟩
   · rw [E.out, if_neg h3, if_neg h4, if_pos h5]
     rfl
   · intro x hx
     rw [E.out, if_neg h3, if_neg h4, if_pos h5] at hx
     cases hx
 · have h3 : ¬ 1023 + 31 ≤ ex + 15 := by omega
   have h4 : ¬ 1023 < ex + 15 := by omega
   have h5 : ¬ 52 < 43 + (1023 - ex - 15) := by omega
   obtain ⟨sh, hsh⟩ : ∃ sh, 43 + (1023 - ex - 15) = sh := ⟨_, rfl⟩
   have hsi : (43 - ((ex : Int) - 1023 + 15)).toNat = sh := by omega
   obtain ⟨full, hfull⟩ : ∃ full, mx + 4503599627370496 = full := ⟨_, rfl⟩
   have hof : bits .or .u64 (mx : Int) 4503599627370496 = (full : Int) := by
     have := or_low mx 52 (by omega) (by omega)
     simp only [Nat.reducePow] at this
     rw [← hfull]
     exact this
   have hw : IntKind.u64.wrap (IntKind.u64.wrap ((2 : Int) ^ sh) - 1) = ((2 ^ sh - 1 : Nat) : Int) := pow_mask sh (by omega)
   have hdv : (full : Int) / 2 ^ sh = ((full / 2 ^ sh : Nat) : Int) := by
     rw [Int.natCast_ediv, Int.natCast_pow]; rfl
   have hlt : full / 2 ^ sh < 2 ^ 15 := by
     apply Nat.div_lt_of_lt_mul
     have : 2 ^ 43 ≤ 2 ^ sh := Nat.pow_le_pow_right (by omega) (by omega)
     have h2 : 2 ^ 43 * 2 ^ 15 ≤ 2 ^ sh * 2 ^ 15 := Nat.mul_le_mul_right _ this
     simp only [Nat.reducePow, Nat.reduceMul] at h2 ⊢
     omega
   have ho := or_add sg 15 (full / 2 ^ sh) hlt (by simp only [Nat.reducePow] at hlt ⊢; omega)
   have ha := and_mod full sh (by omega) (by omega)
   go_ret2
   refine ⟨⟨sg * 32768 + full / 2 ^ sh, ?_, ?_⟩, rfl⟩
   · show Ending.returned (Value.tuple #[Value.int .u64 _, Value.bool _]) = _
     rw [KS.out, E.out, if_neg h3, if_neg h4, if_neg h5, hsi, hof, hw, ha, hdv, ho, hsh, hfull]
     by_cases h : full % 2 ^ sh = 0
     · rw [if_pos h, h]; rfl
     · rw [if_neg h]
       have : (((full % 2 ^ sh : Nat) : Int) == 0) = false := by rw [beq_eq_false_iff_ne]; omega
       rw [this]; rfl
   · intro x hx
     rw [E.out, if_neg h3, if_neg h4, if_neg h5, hsh, hfull] at hx
     split at hx
     · injection hx
     · cases hx
set_option maxRecDepth 100000 in
set_option maxHeartbeats 3200000 in
theorem ref_Narrow32 (n : Nat) (hn : n < 18446744073709551616) (w : World) :
   Calls Tryd.prog 76 #[.int .u64 (n : Int), .int .i64 8, .int .i64 23] w
     fun e w' => (∃ v : Nat, e = .returned (.tuple #[.int .u64 (v : Int), .bool (narrow n 8 23).isSome]) ∧ ∀ x, narrow n 8 23 = some x → v = x) ∧ w = w' := by
 have A1 := and_mod (n / 2 ^ 52) 11 (by omega) (by omega)
 have A2 := and_mod n 52 (by omega) (by omega)
 simp only [Nat.reducePow, Nat.reduceSub] at A1 A2
 rw [Int.natCast_ediv] at A1
 obtain ⟨ex, hex⟩ : ∃ ex, n / 4503599627370496 % 2048 = ex := ⟨_, rfl⟩
 obtain ⟨mx, hmx⟩ : ∃ mx, n % 4503599627370496 = mx := ⟨_, rfl⟩
 obtain ⟨sg, hsg⟩ : ∃ sg, n / 9223372036854775808 = sg := ⟨_, rfl⟩
 have hs1 : sg ≤ 1 := by omega
 have E : Hid (narrow n 8 23 = if ex = 2047 then (if mx = 0 then some (sg * 2147483648 + 2139095040) else none) else if ex = 0 then (if mx = 0 then some (sg * 2147483648) else none)
     else if 1023 + 255 ≤ ex + 127 then none else if 1023 < ex + 127 then (if mx % 536870912 = 0 then some (sg * 2147483648 + (ex + 127 - 1023) * 8388608 + mx / 536870912) else none)
     else if 52 < 30 + (1023 - ex - 127) then none else if (mx + 4503599627370496) % 2 ^ (30 + (1023 - ex - 127)) = 0 then some (sg * 2147483648 + (mx + 4503599627370496) / 2 ^ (30 + (1023 - ex - 127))) else none) := by
   rw [Hid, narrow]
   simp only [Nat.reducePow, Nat.reduceSub, Nat.reduceAdd, Nat.reduceMul, hex, hmx, hsg]
 rw [hex] at A1
 rw [hmx] at A2
 have he1 : ex < 2048 := by omega
 have hm1 : mx < 4503599627370496 := by omega
 have A1' : bits .and .u64 ((n : Int) / 4503599627370496) 2047 = (ex : Int) := A1
 have A2' : bits .and .u64 (n : Int) 4503599627370495 = (mx : Int) := A2
 have K1 : IntKind.i64.wrap (ex : Int) = (ex : Int) := IntWalk.i64_in _ (by omega)
 have KS : Hid (IntKind.u64.wrap ((n : Int) / 9223372036854775808 * 2147483648) = ((sg * 2 ^ 31 : Nat) : Int)) := by
   rw [Hid, IntWalk.u64_in _ (by omega)]
   omega
 clear hn hex hmx hsg A1 A2
 go_enter Tryd.func76, Tryd.ntmps76
 go_wp2_with fail
 · have h1 : ex = 2047 := by
     have h : ((ex : Int) == 2047) = true := by assumption
     rw [beq_iff_eq] at h
     omega
   go_ret2
   have hor := or_add sg 31 2139095040 (by omega) (by omega)
   refine ⟨⟨sg * 2147483648 + 2139095040, ?_, ?_⟩, rfl⟩
   · show Ending.returned (Value.tuple #[Value.int .u64 _, Value.bool _]) = _
     rw [KS.out, E.out, if_pos h1]
     rw [show (2139095040 : Int) = ((2139095040 : Nat) : Int) from rfl, hor]
     by_cases h : mx = 0 <;> simp [h]
   · intro x hx
     rw [E.out, if_pos h1] at hx
     split at hx
     · injection hx
     · cases hx
 · have h1 : ¬ ex = 2047 := by
     have h : ((ex : Int) == 2047) = false := by assumption
     rw [beq_eq_false_iff_ne] at h
     omega
   have h2 : ex = 0 := by
     have h : ((ex : Int) == 0) = true := by assumption
     rw [beq_iff_eq] at h
     omega
   go_ret2
   refine ⟨⟨sg * 2147483648, ?_, ?_⟩, rfl⟩
   · show Ending.returned (Value.tuple #[Value.int .u64 _, Value.bool _]) = _
     rw [KS.out, E.out, if_neg h1, if_pos h2]
     by_cases h : mx = 0 <;> simp [h]
   · intro x hx
     rw [E.out, if_neg h1, if_pos h2] at hx
     split at hx
     · injection hx
     · cases hx
 all_goals
   have h1 : ¬ ex = 2047 := by
     have h : ((ex : Int) == 2047) = false := by assumption
     rw [beq_eq_false_iff_ne] at h
     omega
   have h2 : ¬ ex = 0 := by
     have h : ((ex : Int) == 0) = false := by assumption
     rw [beq_eq_false_iff_ne] at h
     omega
   rw [if_neg h1, if_neg h2] at E
 · have h3 : 1023 + 255 ≤ ex + 127 := by omega
   go_ret2
   refine ⟨⟨0, ?_, ?_⟩, rfl⟩
   · rw [E.out, if_pos h3]
     rfl
   · intro x hx
     rw [E.out, if_pos h3] at hx
     cases hx
 · have h3 : ¬ 1023 + 255 ≤ ex + 127 := by omega
   have h4 : 1023 < ex + 127 := by omega
   obtain ⟨q, hq⟩ : ∃ q, ex + 127 - 1023 = q := ⟨_, rfl⟩
   have hqi : ((ex : Int) - 1023 + 127) * 8388608 = ((q * 8388608 : Nat) : Int) := by omega
   have hmi : (mx : Int) / 536870912 = ((mx / 536870912 : Nat) : Int) := by omega
   have ha := and_mod mx 29 (by omega) (by omega)
   simp only [Nat.reducePow, Nat.reduceSub] at ha
   have ho1 := or_add sg 31 (q * 8388608) (by omega) (by omega)
   have ho2 := or_add (sg * 2 ^ 8 + q) 23 (mx / 536870912) (by omega) (by omega)
   rw [show (sg * 2 ^ 8 + q) * 2 ^ 23 = sg * 2 ^ 31 + q * 8388608 by omega] at ho2
   go_ret2
   refine ⟨⟨sg * 2147483648 + q * 8388608 + mx / 536870912, ?_, ?_⟩, rfl⟩
   · show Ending.returned (Value.tuple #[Value.int .u64 _, Value.bool _]) = _
     rw [KS.out, E.out, if_neg h3, if_pos h4, hqi, hmi, ho1, ho2]
     have ha' : bits .and .u64 (mx : Int) 536870911 = ((mx % 536870912 : Nat) : Int) := ha
     rw [ha']
     by_cases h : mx % 536870912 = 0
     · rw [if_pos h, h]; rfl
     · rw [if_neg h]
       have : (((mx % 536870912 : Nat) : Int) == 0) = false := by rw [beq_eq_false_iff_ne]; omega
       rw [this]; rfl
   · intro x hx
     rw [E.out, if_neg h3, if_pos h4, hq] at hx
     split at hx
     · injection hx
     · cases hx
 · have h5 : 52 < 30 + (1023 - ex - 127) := by omega
   have h3 : ¬ 1023 + 255 ≤ ex + 127 := by omega
   have h4 : ¬ 1023 < ex + 127 := by omega
   go_ret2
   refine ⟨⟨0, ?_, ?_⟩, rfl⟩
   · rw [E.out, if_neg h3, if_neg h4, if_pos h5]
     rfl
   · intro x hx
     rw [E.out, if_neg h3, if_neg h4, if_pos h5] at hx
     cases hx
 · have h3 : ¬ 1023 + 255 ≤ ex + 127 := by omega
   have h4 : ¬ 1023 < ex + 127 := by omega
   have h5 : ¬ 52 < 30 + (1023 - ex - 127) := by omega
   obtain ⟨sh, hsh⟩ : ∃ sh, 30 + (1023 - ex - 127) = sh := ⟨_, rfl⟩
   have hsi : (30 - ((ex : Int) - 1023 + 127)).toNat = sh := by omega
   obtain ⟨full, hfull⟩ : ∃ full, mx + 4503599627370496 = full := ⟨_, rfl⟩
   have hof : bits .or .u64 (mx : Int) 4503599627370496 = (full : Int) := by
     have := or_low mx 52 (by omega) (by omega)
     simp only [Nat.reducePow] at this
     rw [← hfull]
     exact this
   have hw : IntKind.u64.wrap (IntKind.u64.wrap ((2 : Int) ^ sh) - 1) = ((2 ^ sh - 1 : Nat) : Int) := pow_mask sh (by omega)
   have hdv : (full : Int) / 2 ^ sh = ((full / 2 ^ sh : Nat) : Int) := by
     rw [Int.natCast_ediv, Int.natCast_pow]; rfl
   have hlt : full / 2 ^ sh < 2 ^ 31 := by
     apply Nat.div_lt_of_lt_mul
     have : 2 ^ 30 ≤ 2 ^ sh := Nat.pow_le_pow_right (by omega) (by omega)
     have h2 : 2 ^ 30 * 2 ^ 31 ≤ 2 ^ sh * 2 ^ 31 := Nat.mul_le_mul_right _ this
     simp only [Nat.reducePow, Nat.reduceMul] at h2 ⊢
     omega
   have ho := or_add sg 31 (full / 2 ^ sh) hlt (by simp only [Nat.reducePow] at hlt ⊢; omega)
   have ha := and_mod full sh (by omega) (by omega)
   go_ret2
   refine ⟨⟨sg * 2147483648 + full / 2 ^ sh, ?_, ?_⟩, rfl⟩
   · show Ending.returned (Value.tuple #[Value.int .u64 _, Value.bool _]) = _
     rw [KS.out, E.out, if_neg h3, if_neg h4, if_neg h5, hsi, hof, hw, ha, hdv, ho, hsh, hfull]
     by_cases h : full % 2 ^ sh = 0
     · rw [if_pos h, h]; rfl
     · rw [if_neg h]
       have : (((full % 2 ^ sh : Nat) : Int) == 0) = false := by rw [beq_eq_false_iff_ne]; omega
       rw [this]; rfl
   · intro x hx
     rw [E.out, if_neg h3, if_neg h4, if_neg h5, hsh, hfull] at hx
     split at hx
     · injection hx
     · cases hx
end Go.Proofs.YtlebpackbfcfeaaDoor
namespace Go.Proofs.YtlebpackbfcfeaaDoor
open Go.RowKit

set_option maxRecDepth 100000 in
set_option maxHeartbeats 3200000 in
theorem ref_float (n : Nat) (hn : n < 18446744073709551616) (w : World) :
   Calls Tryd.prog 66 #[.int .u64 (n : Int)] w fun e w' => ∃ r, e = .returned r ∧ Fresh w (floatB n) r w' := by
 have I := Lib.hid (ref_IsNaN n hn w)
 have N1 := Lib.hid (ref_Narrow16 n hn w)
 have N2 := Lib.hid (ref_Narrow32 n hn w)
 have HN := Lib.hid hn
 clear hn
 cases hN : isNaN n with
 | true =>
   rw [hN] at I
   have E : Hid (floatB n = [u8 249, u8 126, u8 0]) := by rw [Hid, floatB, if_pos hN]
   clear hN
   go_enter Tryd.func66, Tryd.ntmps66
   go_wp2_with fail
   refine I.out.mono ?_
   rintro e w' ⟨rfl, rfl⟩
   go_wp2_with fail
   go_ret
   refine ⟨_, rfl, ?_⟩
   rw [E.out]
   exact Fresh.lit w _ _ 3 rfl (by simp) rfl
 | false =>
   rw [hN] at I
   cases h1 : narrow n 5 10 with
   | some v =>
     have E : Hid (floatB n = [u8 249, u8 (v / 256), u8 v]) := by rw [Hid, floatB, if_neg (by simp [hN]), h1]
     rw [h1] at N1
     clear hN h1
     go_enter Tryd.func66, Tryd.ntmps66
     go_wp2_with fail
     refine I.out.mono ?_
     rintro e w' ⟨rfl, rfl⟩
     go_wp2_with fail
     refine N1.out.mono ?_
     rintro e w' ⟨⟨v', rfl, hv⟩, rfl⟩
     obtain rfl := hv v rfl
     clear hv
     go_wp2_with fail
     go_ret
     refine ⟨_, rfl, ?_⟩
     rw [E.out]
     refine Fresh.lit w _ _ 3 rfl (by simp) ?_
     simp only [List.map_cons, List.map_nil, byteV_u8]
     simp
   | none =>
     rw [h1] at N1
     cases h2 : narrow n 8 23 with
     | some v =>
       have E : Hid (floatB n = [u8 250, u8 (v / 16777216), u8 (v / 65536), u8 (v / 256), u8 v]) := by rw [Hid, floatB, if_neg (by simp [hN]), h1, h2]
       rw [h2] at N2
       clear hN h1 h2
       go_enter Tryd.func66, Tryd.ntmps66
       go_wp2_with fail
       refine I.out.mono ?_
       rintro e w' ⟨rfl, rfl⟩
       go_wp2_with fail
       refine N1.out.mono ?_
       rintro e w' ⟨⟨v', rfl, _⟩, rfl⟩
       go_wp2_with fail
       refine N2.out.mono ?_
       rintro e w' ⟨⟨v'', rfl, hv⟩, rfl⟩
       obtain rfl := hv v rfl
       clear hv
       go_wp2_with fail
       go_ret
       refine ⟨_, rfl, ?_⟩
       rw [E.out]
       refine Fresh.lit w _ _ 5 rfl (by simp) ?_
       simp only [List.map_cons, List.map_nil, byteV_u8]
       simp
     | none =>
       have E : Hid (floatB n = u8 251 :: tailB n 8 8) := by
         rw [Hid, floatB, if_neg (by simp [hN]), h1, h2]
         simp [tailB, be8, List.range_succ]
       rw [h2] at N2
       clear hN h1 h2
       have hO : OwnB (w.alloc (.cells #[.int .u8 251] 5)) w.heap.size (.slice (some ⟨w.heap.size, 0, none⟩) 1 1) [u8 251] := OwnB.lit w _ _ _ 1 rfl rfl (Nat.le_refl _) (by simp)
       have hb2 := below_box w (.cells #[.int .u8 251] 5)
       go_enter Tryd.func66, Tryd.ntmps66
       go_wp2_with fail
       refine I.out.mono ?_
       rintro e w' ⟨rfl, rfl⟩
       go_wp2_with fail
       refine N1.out.mono ?_
       rintro e w' ⟨⟨v', rfl, _⟩, rfl⟩
       go_wp2_with fail
       refine N2.out.mono ?_
       rintro e w' ⟨⟨v'', rfl, _⟩, rfl⟩
       go_wp2_with fail
       go_loopw [7, 8] (fun v7 v8 wr => ∃ (j : Nat) (VA : Option Addr) (vc : Nat), j ≤ 8 ∧ v8 = .int .i64 (7 - (j : Int)) ∧ v7 = .slice VA (1 + j) vc ∧ OwnB wr w.heap.size (.slice VA (1 + j) vc) (u8 251 :: tailB n 8 j) ∧ Below w.heap.size w wr) (fun _ v8 _ => (intOf v8 + 1).toNat)
       case atStart => exact ⟨0, _, _, by omega, by go_num, rfl, hO, hb2⟩
       case round =>
         obtain ⟨j, VA, vc, hj, rfl, rfl, hOr, hbr⟩ := hrel
         by_cases hlt : j < 8
         · have hge : (0 : Int) ≤ 7 - (j : Int) := by omega
           have hcell : (#[.int .u8 ((n : Int) / 2 ^ (8 * (7 - j)) % 256)] : Array Value).toList = [tailF n 8 j].map byteV := by
             simp only [List.map_cons, List.map_nil, tailF, byteV_u8]
             rw [show 8 - 1 - j = 7 - j by omega]
             simp
           have hb3 := hbr.alloc hbr.size (.cells #[.int .u8 ((n : Int) / 2 ^ (8 * (7 - j)) % 256)] 5)
           have hO3 := hOr.alloc (.cells #[.int .u8 ((n : Int) / 2 ^ (8 * (7 - j)) % 256)] 5)
           have HC := Lib.hid hcell
           clear hcell
           go_wp2_with (at_builtin; refine stop_in ?_)
           unfold Stopped
           refine wpList_app_bytes rfl (.tmp 47) (.tmp 54) rfl w.heap.size _ _ rfl hO3 _ 1 _ [tailF n 8 j] rfl rfl (Src.new _ _ _ _ rfl _ HC.out) (by simp [tailB_len]; omega) hb3.size fun v' w7 hO7 hg7 hat7 => ?_
           have hl7 : (u8 251 :: tailB n 8 j) ++ [tailF n 8 j] = u8 251 :: tailB n 8 (j + 1) := by rw [tailB_succ]; rfl
           obtain ⟨VA', vc', rfl, _⟩ := hO7.form
           have hll : ((u8 251 :: tailB n 8 j) ++ [tailF n 8 j]).length = 1 + (j + 1) := by simp [tailB_len]; omega
           rw [hll] at hO7
           rw [hll]
           rw [hl7] at hO7
           have hb7 := hb3.grown hg7 hb3.size (fun q hq => (hO3.lt q hq).1)
           clear hl7 hll hg7 hat7 hO3 hOr hb3 hbr
           go_wp2_with fail
           go_roundw
           case rel => exact ⟨j + 1, VA', vc', by omega, by rw [show ((j + 1 : Nat) : Int) = (j : Int) + 1 by omega, show (7 : Int) - ((j : Int) + 1) = 7 - j - 1 by omega], rfl, hO7, hb7⟩
           case measure => simp [intOf]; omega
         · have hjs : j = 8 := by omega
           subst hjs
           go_wp2_with fail
           go_ret
           rw [E.out]
           exact ⟨_, rfl, hOr, hbr⟩
end Go.Proofs.YtlebpackbfcfeaaDoor
