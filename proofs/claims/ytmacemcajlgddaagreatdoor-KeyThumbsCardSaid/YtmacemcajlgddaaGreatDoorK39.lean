/- squeezed. Comparing numbers of several words -/
import Derived.Test.YtmacemcajlgddaaGreatDoorK34
import Derived.Test.YtmacemcajlgddaaGreatDoorK35
import Derived.Lib.Mul64
import Derived.Laws.Bits64
import Derived.Laws.Externs
set_option linter.unusedVariables false
set_option linter.unusedSimpArgs false
set_option maxRecDepth 100000
set_option maxHeartbeats 1600000
namespace Go.Proofs.YtmacemcajlgddaaGreatDoor
theorem num_cmp : ∀ (k : Nat) (x y : List Nat), W64 x → W64 y → k < x.length → k < y.length → x.drop (k + 1) = y.drop (k + 1) → getN x k ≠ getN y k → (num x < num y ↔ getN x k < getN y k)
 | _, [], _, _, _, h, _, _, _ => by simp at h
 | _, _ :: _, [], _, _, _, h, _, _ => by simp at h
 | 0, a :: x, b :: y, hx, hy, _, _, hd, hne => by
  have e : x = y := by simpa using hd
  have h1 : a < 18446744073709551616 := hx a (by simp);have h2 : b < 18446744073709551616 := hy b (by simp);subst e;have e1 : num (a :: x) = a + 18446744073709551616 * num x := rfl;have e2 : num (b :: x) = b + 18446744073709551616 * num x := rfl;have e3 : getN (a :: x) 0 = a := rfl;have e4 : getN (b :: x) 0 = b := rfl;rw [e1, e2, e3, e4]
  omega
 | k + 1, a :: x, b :: y, hx, hy, hkx, hky, hd, hne => by
  have g1 : getN (a :: x) (k + 1) = getN x k := rfl;have g2 : getN (b :: y) (k + 1) = getN y k := rfl;rw [g1, g2] at hne ⊢;have hx' : W64 x := fun c hc => hx c (by simp [hc])
  have hy' : W64 y := fun c hc => hy c (by simp [hc])
  have i1 := num_cmp k x y hx' hy' (by simpa using hkx) (by simpa using hky) (by simpa using hd) hne;have i2 := num_cmp k y x hy' hx' (by simpa using hky) (by simpa using hkx) (by simpa using hd.symm) (Ne.symm hne);have h1 : a < 18446744073709551616 := hx a (by simp);have h2 : b < 18446744073709551616 := hy b (by simp);have e1 : num (a :: x) = a + 18446744073709551616 * num x := rfl;have e2 : num (b :: y) = b + 18446744073709551616 * num y := rfl;rw [e1, e2]
  omega
theorem pow_le_of {a k n B : Nat} (h : k ≤ n) (hn : a ^ n < B) (hk : 0 < k) : a ^ k < B := by
 rcases Nat.eq_zero_or_pos a with h0 | h0
 ·subst h0;rw [Nat.zero_pow (show 0 < n by omega)] at hn;rw [Nat.zero_pow hk]
  exact hn
 ·exact Nat.lt_of_le_of_lt (Nat.pow_le_pow_right h0 h) hn
theorem list4n {α : Type} {l : List α} (h : l.length = 4) : ∃ a b c d, l = [a, b, c, d] := by
 match l, h with
 | [a, b, c, d], _ => exact ⟨a, b, c, d, rfl⟩
end Go.Proofs.YtmacemcajlgddaaGreatDoor
namespace Go.Proofs.YtmacemcajlgddaaGreatDoor
theorem root_bnd {p n N : Nat} (hn : n = 2 ∨ n = 3) (hp : p < 1000) (h : N ^ n ≤ p * 18446744073709551616 ^ n) : N < 32 * 18446744073709551616 := by
 apply Nat.lt_of_not_le
 intro hN
 have h1 := Nat.pow_le_pow_left hN n;have h2 : (32 * 18446744073709551616) ^ n = 32 ^ n * 18446744073709551616 ^ n := Nat.mul_pow _ _ _
 have h3 : p * 18446744073709551616 ^ n < 32 ^ n * 18446744073709551616 ^ n := by
  apply Nat.mul_lt_mul_of_pos_right
  ·rcases hn with rfl | rfl <;> omega
  ·exact Nat.pow_pos (by decide)
 omega
theorem pow_small {n N : Nat} (hn : n = 2 ∨ n = 3) (h : N ≤ 34 * 18446744073709551616) : N ^ n < 18446744073709551616 ^ 4 := by
 have h1 := Nat.pow_le_pow_left h n;have h2 : (34 * 18446744073709551616) ^ n < 18446744073709551616 ^ 4 := by rcases hn with rfl | rfl <;> decide
 omega
theorem root_low {p n N : Nat} (hp : 1 ≤ p) (h : p * 18446744073709551616 ^ n < N ^ n) : 18446744073709551616 < N := by
 apply Nat.lt_of_not_le
 intro hN
 have h1 := Nat.pow_le_pow_left hN n;have h2 : 1 * 18446744073709551616 ^ n ≤ p * 18446744073709551616 ^ n := Nat.mul_le_mul_right _ hp
 omega
theorem frac_of {n p c N : Nat} (hn : n = 2 ∨ n = 3) (hc : c < 18446744073709551616) (hf : isFrac n p c = true) (h1 : N ^ n ≤ p * 18446744073709551616 ^ n) (h2 : p * 18446744073709551616 ^ n < (N + 1) ^ n) : N % 18446744073709551616 = c := by
 unfold isFrac at hf
 rw [List.any_eq_true] at hf;obtain ⟨w, _, hw⟩ := hf
 simp only [Bool.and_eq_true, decide_eq_true_eq] at hw
 have e := root_unique (by omega) h1 h2 hw.1 hw.2;rw [e]
 omega
end Go.Proofs.YtmacemcajlgddaaGreatDoor
namespace Go.Proofs.YtmacemcajlgddaaGreatDoor
def stepP (l : List Nat) (p : Nat) : List Nat := if l.all (fun q => p % q != 0) then l ++ [p] else l
def uptoP : Nat → List Nat
 | 0 => []
 | k + 1 => stepP (uptoP k) (k + 2)
theorem stepP_len (l : List Nat) (p : Nat) : l.length ≤ (stepP l p).length ∧ (stepP l p).length ≤ l.length + 1 := by
 unfold stepP
 split <;> simp
theorem uptoP_mono (a : Nat) : ∀ d, (uptoP a).length ≤ (uptoP (a + d)).length
 | 0 => Nat.le_refl _
 | d + 1 => Nat.le_trans (uptoP_mono a d) (stepP_len _ _).1
theorem uptoP_309 : (uptoP 309).length = 63 := by kernel_rfl
theorem uptoP_310 : uptoP 310 = primesN.take 64 := by kernel_rfl
theorem uptoP_go {k : Nat} (h : (uptoP k).length < 64) : k ≤ 309 := by
 apply Nat.le_of_not_lt
 intro hk
 have h1 := uptoP_mono 310 (k - 310);rw [show 310 + (k - 310) = k by omega, uptoP_310] at h1;have h2 : (primesN.take 64).length = 64 := rfl
 omega
theorem uptoP_stop {k : Nat} (h1 : k ≤ 310) (h2 : ¬ (uptoP k).length < 64) : uptoP k = primesN.take 64 := by
 have h3 : k = 310 := by
  rcases Nat.lt_or_ge k 310 with h | h
  ·have h4 := uptoP_mono k (309 - k);rw [show k + (309 - k) = 309 by omega, uptoP_309] at h4
   omega
  ·omega
 rw [h3, uptoP_310]
theorem uptoP_pos : ∀ k, ∀ q ∈ uptoP k, 2 ≤ q ∧ q ≤ k + 1
 | 0, q, h => by simp [uptoP] at h
 | k + 1, q, h => by
  have ih := uptoP_pos k q;rw [uptoP, stepP] at h
  split at h
  ·rw [List.mem_append] at h
   rcases h with h | h
   ·have := ih h; omega
   ·simp at h; omega
  ·have := ih h; omega
theorem all_take_succ {α : Type} (f : α → Bool) (l : List α) (j : Nat) (hj : j < l.length) : (l.take (j + 1)).all f = ((l.take j).all f && f l[j]) := by
 rw [List.take_succ_eq_append_getElem hj, List.all_append]
 simp
theorem stepP_yes {l : List Nat} {p : Nat} (h : l.all (fun q => p % q != 0) = true) : stepP l p = l ++ [p] := if_pos h
theorem stepP_no {l : List Nat} {p : Nat} (h : l.all (fun q => p % q != 0) = false) : stepP l p = l := if_neg (by rw [h]; decide)
end Go.Proofs.YtmacemcajlgddaaGreatDoor
namespace Go.Proofs.YtmacemcajlgddaaGreatDoor
open Go.RowKit
theorem and_mask32 (x : Nat) (hx : x < 18446744073709551616) : bits .and .u64 (x : Int) 4294967295 = ((x % 4294967296 : Nat) : Int) := by
 have h1 : (BitVec.ofInt 64 (x : Int)).toNat = x := by
  rw [BitVec.ofInt_natCast, BitVec.toNat_ofNat]; exact Nat.mod_eq_of_lt (by omega)
 have h2 : (BitVec.ofInt 64 (4294967295 : Int)).toNat = 4294967295 := by decide
 show IntKind.u64.wrap ((BitVec.ofInt 64 (x : Int) &&& BitVec.ofInt 64 4294967295).toNat : Int) = _
 have h3 : x &&& 4294967295 = x % 4294967296 := by
  have := Nat.and_two_pow_sub_one_eq_mod x 32
  simpa using this
 rw [BitVec.toNat_and, h1, h2, h3, IntKind.wrap_u64]
 omega
theorem wrap64_in (n : Nat) (h : n < 18446744073709551616) : IntKind.u64.wrap (n : Int) = (n : Int) := IntWalk.u64_in _ (by omega)
theorem bits_Mul64 (x y : Nat) (hx : x < 18446744073709551616) (hy : y < 18446744073709551616) (w : World) :
  Calls Tryz.prog 129 #[.int .u64 (x : Int), .int .u64 (y : Int)] w fun e w' =>
   e = .returned (.tuple #[.int .u64 ((x * y / 18446744073709551616 : Nat) : Int), .int .u64 ((x * y % 18446744073709551616 : Nat) : Int)]) ∧ w = w' := by
 obtain ⟨l1, l2, l3, l4⟩ := Lib.mul64_hi x y hx hy;have A1 : bits .and .u64 (x : Int) 4294967295 = ((x % 4294967296 : Nat) : Int) := and_mask32 x hx;have A2 : bits .and .u64 (y : Int) 4294967295 = ((y % 4294967296 : Nat) : Int) := and_mask32 y hy;have D1 : (x : Int) / 4294967296 = ((x / 4294967296 : Nat) : Int) := by omega
 have D2 : (y : Int) / 4294967296 = ((y / 4294967296 : Nat) : Int) := by omega
 have hlo : IntKind.u64.wrap ((x : Int) * (y : Int)) = ((x * y % 18446744073709551616 : Nat) : Int) := by rw [IntKind.wrap_u64, ← Int.natCast_mul]; omega
 have hm1 := Lib.half_mul_le (a := x / 4294967296) (b := y % 4294967296) (by omega) (by omega);have hm2 := Lib.half_mul_le (a := x % 4294967296) (b := y / 4294967296) (by omega) (by omega);have hm3 := Lib.half_mul_le (a := x / 4294967296) (b := y / 4294967296) (by omega) (by omega);obtain ⟨lo, hlon⟩ : ∃ n, x * y % 18446744073709551616 = n := ⟨_, rfl⟩
 obtain ⟨hi, hhin⟩ : ∃ n, x * y / 18446744073709551616 = n := ⟨_, rfl⟩
 have hhi : hi < 18446744073709551616 := by
  rw [← hhin];have := Nat.mul_le_mul (show x ≤ 18446744073709551615 by omega) (show y ≤ 18446744073709551615 by omega)
  omega
 rw [hlon] at hlo;rw [hlon, hhin];rw [hhin] at l4;obtain ⟨x0, hx0⟩ : ∃ n, x % 4294967296 = n := ⟨_, rfl⟩
 obtain ⟨x1, hx1⟩ : ∃ n, x / 4294967296 = n := ⟨_, rfl⟩
 obtain ⟨y0, hy0⟩ : ∃ n, y % 4294967296 = n := ⟨_, rfl⟩
 obtain ⟨y1, hy1⟩ : ∃ n, y / 4294967296 = n := ⟨_, rfl⟩
 rw [hx0] at A1 l1 l2 l3 l4 hm2;rw [hx1] at D1 l2 l3 l4 hm1 hm3;rw [hy0] at A2 l1 l2 l3 l4 hm1;rw [hy1] at D2 l3 l4 hm2 hm3;obtain ⟨w0, hw0⟩ : ∃ n, x0 * y0 = n := ⟨_, rfl⟩
 obtain ⟨p1, hp1⟩ : ∃ n, x1 * y0 = n := ⟨_, rfl⟩
 obtain ⟨p2, hp2⟩ : ∃ n, x0 * y1 = n := ⟨_, rfl⟩
 obtain ⟨p3, hp3⟩ : ∃ n, x1 * y1 = n := ⟨_, rfl⟩
 rw [hw0] at l1 l2 l3 l4;rw [hp1] at l2 l3 l4 hm1;rw [hp2] at l3 l4 hm2;rw [hp3] at l4 hm3;have M0 : IntKind.u64.wrap ((x0 : Int) * (y0 : Int)) = (w0 : Int) := by rw [← Int.natCast_mul, hw0]; exact wrap64_in _ l1
 have M1 : IntKind.u64.wrap ((x1 : Int) * (y0 : Int)) = (p1 : Int) := by rw [← Int.natCast_mul, hp1]; exact wrap64_in _ (by omega)
 have M2 : IntKind.u64.wrap ((x0 : Int) * (y1 : Int)) = (p2 : Int) := by rw [← Int.natCast_mul, hp2]; exact wrap64_in _ (by omega)
 have M3 : IntKind.u64.wrap ((x1 : Int) * (y1 : Int)) = (p3 : Int) := by rw [← Int.natCast_mul, hp3]; exact wrap64_in _ (by omega)
 clear hx0 hx1 hy0 hy1 hw0 hp1 hp2 hp3 hm1 hm2 hlon hhin;obtain ⟨q0, hq0⟩ : ∃ n, w0 / 4294967296 = n := ⟨_, rfl⟩
 have D3 : (w0 : Int) / 4294967296 = (q0 : Int) := by omega
 rw [hq0] at l2 l3 l4;obtain ⟨t, ht⟩ : ∃ n, p1 + q0 = n := ⟨_, rfl⟩
 rw [ht] at l2 l3 l4;have S1 : IntKind.u64.wrap ((p1 : Int) + (q0 : Int)) = (t : Int) := by rw [← Int.natCast_add, ht]; exact wrap64_in _ l2
 have A3 := and_mask32 t l2;obtain ⟨w1, hw1⟩ : ∃ n, t % 4294967296 = n := ⟨_, rfl⟩
 obtain ⟨w2, hw2⟩ : ∃ n, t / 4294967296 = n := ⟨_, rfl⟩
 have D4 : (t : Int) / 4294967296 = (w2 : Int) := by omega
 rw [hw1] at A3 l3 l4;rw [hw2] at l4;obtain ⟨v, hv⟩ : ∃ n, w1 + p2 = n := ⟨_, rfl⟩
 rw [hv] at l3 l4;have S2 : IntKind.u64.wrap ((w1 : Int) + (p2 : Int)) = (v : Int) := by rw [← Int.natCast_add, hv]; exact wrap64_in _ l3
 obtain ⟨q1, hq1⟩ : ∃ n, v / 4294967296 = n := ⟨_, rfl⟩
 have D5 : (v : Int) / 4294967296 = (q1 : Int) := by omega
 rw [hq1] at l4;obtain ⟨p4, hp4⟩ : ∃ n, p3 + w2 = n := ⟨_, rfl⟩
 rw [hp4] at l4;have S3 : IntKind.u64.wrap ((p3 : Int) + (w2 : Int)) = (p4 : Int) := by rw [← Int.natCast_add, hp4]; exact wrap64_in _ (by omega)
 have S4 : IntKind.u64.wrap ((p4 : Int) + (q1 : Int)) = (hi : Int) := by rw [← Int.natCast_add, l4]; exact wrap64_in _ hhi
 clear hq0 ht hw1 hw2 hv hq1 hp4 l1 l2 l3 l4 hm3 hhi hx hy;go_enter Tryz.func129, Tryz.ntmps129
 go_wp2_with fail
 go_ret2
 exact ⟨rfl, rfl⟩
open Extern.MathBitsCarry in
theorem run_add64 (x y c : Nat) (hc : c ≤ 1) (w : World) : (callFunc 103 #[.int .u64 (x : Int), .int .u64 (y : Int), .int .u64 (c : Int)]).run Tryz.prog w =
  .ok (.value (.tuple #[.int .u64 (((x + y + c) % 18446744073709551616 : Nat) : Int), .int .u64 (((x + y + c) / 18446744073709551616 : Nat) : Int)])) w := by
 rw [run_callFunc_extern Tryz.func103 (by kernel_rfl) (by kernel_rfl) (by kernel_rfl) (e := fun args => do
  let (x, y, c) ← three "Add64" args
  pure (pair ((x + y + c) % m64) ((x + y + c) / m64))) (by kernel_rfl)]
 rcases (show c = 0 ∨ c = 1 by omega) with rfl | rfl
 ·rfl
 ·rfl
open Extern.MathBitsCarry in
theorem run_sub64 (x y c : Nat) (hc : c ≤ 1) (w : World) : (callFunc 102 #[.int .u64 (x : Int), .int .u64 (y : Int), .int .u64 (c : Int)]).run Tryz.prog w =
  .ok (.value (.tuple #[.int .u64 (((x + 18446744073709551616 - y - c) % 18446744073709551616 : Nat) : Int), .int .u64 ((if x < y + c then 1 else 0 : Nat) : Int)])) w := by
 rw [run_callFunc_extern Tryz.func102 (by kernel_rfl) (by kernel_rfl) (by kernel_rfl) (e := fun args => do
  let (x, y, b) ← three "Sub64" args
  pure (pair ((x + m64 - y - b) % m64) (if x < y + b then 1 else 0))) (by kernel_rfl)]
 rcases (show c = 0 ∨ c = 1 by omega) with rfl | rfl
 ·rfl
 ·rfl
end Go.Proofs.YtmacemcajlgddaaGreatDoor
