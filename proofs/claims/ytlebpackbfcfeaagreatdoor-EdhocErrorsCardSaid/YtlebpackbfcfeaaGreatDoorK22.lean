/- squeezed. Walks: the program's widen. Walks: -/
import Derived.Test.YtlebpackbfcfeaaGreatDoorK21
import Derived.Test.YtlebpackbfcfeaaGreatDoorK20
import Derived.Test.YtlebpackbfcfeaaGreatDoorK07
import Derived.Test.YtlebpackbfcfeaaGreatDoorK00
import Derived.Test.YtlebpackbfcfeaaGreatDoorK03
import Derived.BigQuiet
import Derived.OwnWalk
set_option linter.unusedVariables false
set_option linter.unusedSimpArgs false
set_option maxRecDepth 100000
set_option maxHeartbeats 6400000
namespace Go.Proofs.YtlebpackbfcfeaaGreatDoor
open Go.RowKit
theorem math_Ldexp {D e m : Nat} (h : Pos D e m) (k : Int) (q : Nat) (hk : -1000 ≤ k ∧ k ≤ 1000) (hq : (e : Int) + k = (q : Int)) (hq2 : 2 ≤ q ∧ q ≤ 2045) (w : World) :
  Calls Tryz.prog 97 #[.float .f64 D, .int .i64 k] w fun e w' => e = .returned (.float .f64 (q * 4503599627370496 + m)) ∧ w' = w := by
 have L := Hh (fun w => math_ldexp h k q hk hq hq2 w);clear h hk hq hq2;go_enter Tryz.func97, Tryz.ntmps97
 go_wp2_with fail
 refine (L.out _).mono ?_
 rintro e w1 ⟨rfl, rfl⟩
 go_wp2_with fail
 go_ret
 exact ⟨rfl, rfl⟩
theorem math_ldexp0 (k : Int) (w : World) : Calls Tryz.prog 100 #[.float .f64 0, .int .i64 k] w fun e w' => e = .returned (.float .f64 0) ∧ w' = w := by
 have o0 : (FloatKind.f64.format.order 0 0 == some .eq) = true := by decide +kernel
 go_enter Tryz.func100, Tryz.ntmps100
 go_wp2_with fail
 go_ret
 exact ⟨rfl, rfl⟩
theorem math_Ldexp0 (k : Int) (w : World) : Calls Tryz.prog 97 #[.float .f64 0, .int .i64 k] w fun e w' => e = .returned (.float .f64 0) ∧ w' = w := by
 have L := Hh (fun w => math_ldexp0 k w);go_enter Tryz.func97, Tryz.ntmps97
 go_wp2_with fail
 refine (L.out _).mono ?_
 rintro e w1 ⟨rfl, rfl⟩
 go_wp2_with fail
 go_ret
 exact ⟨rfl, rfl⟩
theorem u64_or_sign {D : Nat} (h : D < 9223372036854775808) : bits .or .u64 (D : Int) 9223372036854775808 = ((9223372036854775808 + D : Nat) : Int) := by
 have h1 := Nat.shiftLeft_add_eq_or_of_lt (show D < 2 ^ 63 by simpa using h) 1;rw [Nat.shiftLeft_eq] at h1;have := u64_or_nat D 9223372036854775808 (by omega) (by omega);rw [show ((9223372036854775808 : Nat) : Int) = 9223372036854775808 from rfl] at this;rw [this, Nat.or_comm]
 simp only [Nat.reducePow, Nat.one_mul] at h1
 rw [← h1]
theorem math_Copysign {D : Nat} (h : D < 9223372036854775808) (w : World) : Calls Tryz.prog 98 #[.float .f64 D, .float .f64 13830554455654793216] w fun e w' => e = .returned (.float .f64 (9223372036854775808 + D)) ∧ w' = w := by
 have r1 := run_f64bits D;have r2 : ∀ w, (callFunc 82 #[.float .f64 13830554455654793216]).run Tryz.prog w = .ok (.value (.int .u64 13830554455654793216)) w := run_f64bits 13830554455654793216;have K1 := u64_andNot_sign h;have K2 : bits .and .u64 13830554455654793216 9223372036854775808 = 9223372036854775808 := by decide +kernel
 have K3 := u64_or_sign h;obtain ⟨R, hR⟩ : ∃ R, 9223372036854775808 + D = R := ⟨_, rfl⟩
 rw [hR] at K3;rw [hR];have r3 := run_f64frombits R;clear h hR;go_enter Tryz.func98, Tryz.ntmps98
 go_wp2_with fail
 go_ret
 exact ⟨rfl, rfl⟩
def widenQ (v : Nat) : Nat := if v / 1024 % 32 = 31 ∧ v % 1024 ≠ 0 then notNumber else widen5 v
theorem u16_and {v k : Nat} (hv : v < 65536) (hk : k ≤ 16) : bits .and .u16 (v : Int) ((2 ^ k - 1 : Nat) : Int) = ((v % 2 ^ k : Nat) : Int) := by
 have : 2 ^ k ≤ 2 ^ 16 := Nat.pow_le_pow_right (by omega) hk;rw [u16_and_nat v (2 ^ k - 1) (by omega) (by omega), Nat.and_two_pow_sub_one_eq_mod]
theorem dbl_pos {n t : Nat} (h0 : n ≠ 0) (ht : n.log2 = t) (hn : n < 2048) : Pos (dbl n) (1023 + t) (n * 2 ^ (52 - t) - 4503599627370496) := by
 subst ht;have a1 : 2 ^ n.log2 ≤ n := Nat.log2_self_le h0;have a2 : n < 2 ^ (n.log2 + 1) := Nat.lt_log2_self;have a3 : n.log2 < 11 := (Nat.log2_lt h0).2 (by simpa using hn);have b := sub_full a1 a2 (by omega)
 exact ⟨by rw [dbl, if_neg h0], by omega, by omega, by omega⟩
theorem half_m (f : Nat) : (f + 1024) * 4398046511104 - 4503599627370496 = f * 4398046511104 := by omega
def WidenQ (w : World) (v : Nat) (e : Ending) (w' : World) : Prop := e = .returned (.int .u64 (widenQ v : Int)) ∧ w' = w
theorem cbor_widen (v : Nat) (hv : v < 65536) (w : World) : Calls Tryz.prog 93 #[.int .u16 (v : Int)] w (WidenQ w v) := by
 have A1 : bits .and .u16 (v : Int) 1023 = ((v % 1024 : Nat) : Int) := u16_and (k := 10) hv (by omega);obtain ⟨u, hu⟩ : ∃ u, v / 1024 = u := ⟨_, rfl⟩
 have A2 : bits .and .u16 (u : Int) 31 = ((u % 32 : Nat) : Int) := u16_and (k := 5) (by omega) (by omega);have hur : u % 32 = v / 1024 % 32 := by rw [hu]
 rw [hur] at A2;obtain ⟨s, hs⟩ : ∃ s, v / 32768 = s := ⟨_, rfl⟩
 obtain ⟨x, hx⟩ : ∃ x, v / 1024 % 32 = x := ⟨_, rfl⟩
 obtain ⟨f, hf⟩ : ∃ f, v % 1024 = f := ⟨_, rfl⟩
 have hs1 : s ≤ 1 := by omega
 have hx1 : x ≤ 31 := by omega
 have hf1 : f < 1024 := by omega
 have W := Hh (show widenQ v = (if x = 31 ∧ f ≠ 0 then notNumber else if x = 31 then s * 9223372036854775808 + 9218868437227405312 + f * 4398046511104
  else if x = 0 then (if f = 0 then s * 9223372036854775808 else s * 9223372036854775808 + (999 + f.log2) * 4503599627370496 + (f * 2 ^ (52 - f.log2) - 4503599627370496))
  else s * 9223372036854775808 + (x + 1008) * 4503599627370496 + f * 4398046511104) by rw [widenQ, widen5, hs, hx, hf])
 rw [hf] at A1;rw [hx] at A2;have S1 : (v : Int) / 32768 = (s : Int) := by omega
 have S2 : (v : Int) / 1024 = (u : Int) := by omega
 have FI : floatOfInt .f64 (f : Int) = dbl f := of_int_dbl ⟨f, hf1⟩;have HX := Hh (And.intro hs1 (And.intro hx1 hf1));have hs15 : (v : Int) / 32768 = (s : Int) := S1;have hsi : (s : Int) ≤ 1 := by omega
 clear hs hx hf hv hu hur
 by_cases h31 : x = 31
 ·subst h31
  by_cases hf0 : f = 0
  ·subst hf0;have FI0 : floatOfInt .f64 0 = 0 := of_int_dbl 0;have WQ : Hid (widenQ v = s * 9223372036854775808 + 9218868437227405312) := by rw [Hid, W.out, if_neg (by simp), if_pos rfl]; try omega
   have IF := Hh (fun w => math_Inf w);clear FI W;go_enter Tryz.func93, Tryz.ntmps93
   go_wp2_with fail
   refine (IF.out _).mono ?_
   rintro e w1 ⟨rfl, rfl⟩
   obtain ⟨D, hD⟩ : ∃ D, 9218868437227405312 = D := ⟨_, rfl⟩
   rw [hD] at WQ;rw [hD];have HD := Hh hD;clear hD;have RS := Hh (run_f64bits D)
   rcases (by have := HX.out.1; omega : s = 0 ∨ s = 1) with rfl | rfl
   ·have r9 := run_f64bits D;have WW : Hid (widenQ v = D) := by rw [Hid, WQ.out]; try omega
    go_wp2_with fail
    go_ret
    exact ⟨by rw [WW.out]; try rfl, rfl⟩
   ·have CS := Hh (fun w => math_Copysign (D := D) (by rw [← HD.out]; omega) w);obtain ⟨R, hR⟩ : ∃ R, 9223372036854775808 + D = R := ⟨_, rfl⟩
    rw [hR] at CS;have WW : Hid (widenQ v = R) := by rw [Hid, ← hR, WQ.out]; try omega
    have r9 := run_f64bits R;clear hR;go_wp2_with fail
    refine (CS.out _).mono ?_
    rintro e w1 ⟨rfl, rfl⟩
    go_wp2_with fail
    go_ret
    exact ⟨by rw [WW.out]; try rfl, rfl⟩
  ·have f0 : ((f : Int) != 0) = true := by simp; omega
   have f0' : ((f : Int) = 0) = False := eq_false (by omega);have WW : Hid (widenQ v = notNumber) := by rw [Hid, W.out, if_pos ⟨rfl, hf0⟩]
   clear W hf0;go_enter Tryz.func93, Tryz.ntmps93
   go_wp2_with fail
   go_ret
   exact ⟨by rw [WW.out]; try rfl, rfl⟩
 have x31 : ((x : Int) == 31) = false := by simp; omega
 have x31' : ((x : Int) = 31) = False := eq_false (by omega)
 by_cases h0 : x = 0
 ·subst h0
  by_cases hf0 : f = 0
  ·subst hf0;have FI0 : floatOfInt .f64 0 = 0 := of_int_dbl 0;have WQ : Hid (widenQ v = s * 9223372036854775808 + 0) := by rw [Hid, Nat.add_zero, W.out, if_neg (by omega), if_neg (by omega), if_pos rfl, if_pos rfl]
   have LD := Hh (fun w => math_Ldexp0 (-24) w);clear FI W h31;go_enter Tryz.func93, Tryz.ntmps93
   go_wp2_with fail
   refine (LD.out _).mono ?_
   rintro e w1 ⟨rfl, rfl⟩
   obtain ⟨D, hD⟩ : ∃ D : Nat, 0 = D := ⟨_, rfl⟩
   rw [hD] at WQ;have HD := Hh hD;rw [show (Value.float FloatKind.f64 0) = Value.float FloatKind.f64 D by rw [hD]];clear hD;have RS := Hh (run_f64bits D)
   rcases (by have := HX.out.1; omega : s = 0 ∨ s = 1) with rfl | rfl
   ·have r9 := run_f64bits D;have WW : Hid (widenQ v = D) := by rw [Hid, WQ.out]; try omega
    go_wp2_with fail
    go_ret
    exact ⟨by rw [WW.out]; try rfl, rfl⟩
   ·have CS := Hh (fun w => math_Copysign (D := D) (by rw [← HD.out]; omega) w);obtain ⟨R, hR⟩ : ∃ R, 9223372036854775808 + D = R := ⟨_, rfl⟩
    rw [hR] at CS;have WW : Hid (widenQ v = R) := by rw [Hid, ← hR, WQ.out]; try omega
    have r9 := run_f64bits R;clear hR;go_wp2_with fail
    refine (CS.out _).mono ?_
    rintro e w1 ⟨rfl, rfl⟩
    go_wp2_with fail
    go_ret
    exact ⟨by rw [WW.out]; try rfl, rfl⟩
  ·obtain ⟨t, ht⟩ : ∃ t, f.log2 = t := ⟨_, rfl⟩
   have hP := dbl_pos hf0 ht (by omega);have htl : t < 10 := by rw [← ht]; exact (Nat.log2_lt hf0).2 (by simpa using hf1)
   have LD := Hh (fun w => math_Ldexp hP (-24) (999 + t) (by omega) (by omega) (by omega) w);obtain ⟨D, hD⟩ : ∃ D, (999 + t) * 4503599627370496 + (f * 2 ^ (52 - t) - 4503599627370496) = D := ⟨_, rfl⟩
   have hDl : D < 9223372036854775808 := by have := hP.m_lt; omega
   have WQ : Hid (widenQ v = s * 9223372036854775808 + D) := by rw [Hid, W.out, if_neg (by omega), if_neg (by omega), if_pos rfl, if_neg hf0, ht, ← hD, Nat.add_assoc]
   rw [hD] at LD;obtain ⟨Q, hQ⟩ : ∃ Q, dbl f = Q := ⟨_, rfl⟩
   rw [hQ] at FI LD;have HD := Hh hDl;clear W h31 hf0 hP hD hDl hQ ht htl;go_enter Tryz.func93, Tryz.ntmps93
   go_wp2_with fail
   refine (LD.out _).mono ?_
   rintro e w1 ⟨rfl, rfl⟩
   have RS := Hh (run_f64bits D)
   rcases (by have := HX.out.1; omega : s = 0 ∨ s = 1) with rfl | rfl
   ·have r9 := run_f64bits D;have WW : Hid (widenQ v = D) := by rw [Hid, WQ.out]; try omega
    go_wp2_with fail
    go_ret
    exact ⟨by rw [WW.out]; try rfl, rfl⟩
   ·have CS := Hh (fun w => math_Copysign (D := D) (by exact HD.out) w);obtain ⟨R, hR⟩ : ∃ R, 9223372036854775808 + D = R := ⟨_, rfl⟩
    rw [hR] at CS;have WW : Hid (widenQ v = R) := by rw [Hid, ← hR, WQ.out]; try omega
    have r9 := run_f64bits R;clear hR;go_wp2_with fail
    refine (CS.out _).mono ?_
    rintro e w1 ⟨rfl, rfl⟩
    go_wp2_with fail
    go_ret
    exact ⟨by rw [WW.out]; try rfl, rfl⟩
 have x0 : ((x : Int) == 0) = false := by simp; omega
 have x0' : ((x : Int) = 0) = False := eq_false (by omega);have hP := dbl_pos (n := f + 1024) (t := 10) (by omega) (by rw [Nat.log2_eq_iff (by omega)]; constructor <;> omega) (by omega);rw [show (52 : Nat) - 10 = 42 from rfl, show (2 : Nat) ^ 42 = 4398046511104 by decide, half_m] at hP;have LD := Hh (fun w => math_Ldexp hP ((x : Int) - 25) (x + 1008) (by omega) (by omega) (by omega) w)
 have AD : ∀ w, (binOp .add 124 (.float .f64 (dbl f)) (.float .f64 4652218415073722368)).run Tryz.prog w = .ok (.float .f64 (dbl (f + 1024))) w := fun w => run_float_arith w .add _ .f64 _ _ _ (by
  have := add_dbl ⟨f, hf1⟩;rw [show dbl 1024 = 4652218415073722368 by decide +kernel] at this
  exact this)
 have KS : IntKind.i64.wrap ((x : Int) - 25) = (x : Int) - 25 := IntWalk.i64_in _ (by omega);obtain ⟨D, hD⟩ : ∃ D, (x + 1008) * 4503599627370496 + f * 4398046511104 = D := ⟨_, rfl⟩
 have hDl : D < 9223372036854775808 := by have := hP.m_lt; omega
 have WQ : Hid (widenQ v = s * 9223372036854775808 + D) := by
  rw [Hid, W.out, if_neg (by omega), if_neg (by omega), if_neg h0, ← hD];rw [Nat.add_assoc]
 rw [hD] at LD;obtain ⟨Q, hQ⟩ : ∃ Q, dbl f = Q := ⟨_, rfl⟩
 obtain ⟨Q2, hQ2⟩ : ∃ Q2, dbl (f + 1024) = Q2 := ⟨_, rfl⟩
 rw [hQ] at FI AD;rw [hQ2] at AD LD;have HD := Hh hDl;have hxi : (x : Int) ≤ 31 := by omega
 clear W h31 h0 hP hD hDl hQ hQ2;go_enter Tryz.func93, Tryz.ntmps93
 go_wp2_with fail
 refine (LD.out _).mono ?_
 rintro e w1 ⟨rfl, rfl⟩
 have RS := Hh (run_f64bits D)
 rcases (by have := HX.out.1; omega : s = 0 ∨ s = 1) with rfl | rfl
 ·have r9 := run_f64bits D;have WW : Hid (widenQ v = D) := by rw [Hid, WQ.out]; try omega
  go_wp2_with fail
  go_ret
  exact ⟨by rw [WW.out]; try rfl, rfl⟩
 ·have CS := Hh (fun w => math_Copysign (D := D) (by exact HD.out) w);obtain ⟨R, hR⟩ : ∃ R, 9223372036854775808 + D = R := ⟨_, rfl⟩
  rw [hR] at CS;have WW : Hid (widenQ v = R) := by rw [Hid, ← hR, WQ.out]; try omega
  have r9 := run_f64bits R;clear hR;go_wp2_with fail
  refine (CS.out _).mono ?_
  rintro e w1 ⟨rfl, rfl⟩
  go_wp2_with fail
  go_ret
  exact ⟨by rw [WW.out]; try rfl, rfl⟩
abbrev psrC (A : Option Addr) (n c p cnt : Nat) : Array Value := #[.slice A n c, .int .i64 (p : Int), .int .i64 (cnt : Int)]
structure Psr (T : TypeId) (w : World) (g : Nat) (H : Snap) (A : Option Addr) (c : Nat) (l : List UInt8) (p cnt : Nat) : Prop where
 blk : Blk w g T (psrC A l.length c p cnt)
 bytes : IsBytes H A c l
 holds : Holds w H
 apart : H g = none
 le : p ≤ l.length
 small : l.length ≤ 4096
 cnt_le : cnt ≤ 256
theorem grown_drewN {w0 w : World} {r : Option Nat} (h : w0.grownBy w r) : ∀ q, w0.grownBy (w.drewN q) r
 | 0 => h
 | q + 1 => grown_drew (grown_drewN h q)
def NumSaid (T : TypeId) (w : World) (g : Nat) (A : Option Addr) (c : Nat) (l : List UInt8) (p cnt z : Nat) (e : Ending) (w' : World) : Prop :=
 (l.length < p + z ∧ e = .returned (.tuple #[.int .u64 0, .bool false]) ∧ Blk w' g T (psrC A l.length c p cnt) ∧ w.grownBy w' (some g)) ∨
 (p + z ≤ l.length ∧ e = .returned (.tuple #[.int .u64 (beN ((l.drop p).take z) : Int), .bool true]) ∧ Blk w' g T (psrC A l.length c (p + z) cnt) ∧ w.grownBy w' (some g))
theorem or_byte (x c : Nat) (hc : c < 256) : x * 256 ||| c = x * 256 + c := by
 have h := Nat.shiftLeft_add_eq_or_of_lt (show c < 2 ^ 8 by omega) x;rw [Nat.shiftLeft_eq] at h
 exact h.symm
theorem u64_or_byte (x c : Nat) (hx : x * 256 < 18446744073709551616) (hc : c < 256) : bits .or .u64 ((x : Int) * 256) (c : Int) = ((x * 256 + c : Nat) : Int) := by
 rw [show ((x : Int) * 256) = ((x * 256 : Nat) : Int) by omega, u64_or_nat _ _ hx (by omega), or_byte x c hc]
theorem beN_take (l : List UInt8) (k : Nat) (hk : k < l.length) : beN (l.take (k + 1)) = beN (l.take k) * 256 + l[k].toNat := by
 rw [List.take_succ_eq_append_getElem hk, beN_snoc]
theorem beN_take_lt (l : List UInt8) (k : Nat) (hk : k < 8) : beN (l.take k) * 256 < 18446744073709551616 := by
 have h := beN_lt (l.take k);have h2 : (l.take k).length ≤ 7 := by rw [List.length_take]; omega
 have h3 : (256 : Nat) ^ (l.take k).length ≤ 256 ^ 7 := Nat.pow_le_pow_right (by omega) h2;have h4 : (256 : Nat) ^ 7 = 72057594037927936 := by decide
 omega
theorem size_int1 : (Tryz.prog.info? 3).map (·.size) = some 1 := by kernel_rfl
theorem p_number {w : World} {g : Nat} {H : Snap} {A : Option Addr} {c : Nat} {l : List UInt8} {p cnt : Nat} (hP : Psr 116 w g H A c l p cnt) (z : Nat) (hz1 : 1 ≤ z) (hz8 : z ≤ 8) :
  Calls Tryz.prog 92 #[.pointer (some ⟨g, 0, none⟩), .int .i64 (z : Int)] w (NumSaid 116 w g A c l p cnt z) := by
 have hB := hP.blk;have c0 := hB.cell 0 rfl;have c1 := hB.cell 1 rfl;have HP := Hh hP;have hpl := hP.le;have hsm := hP.small;have hcl := hP.bytes.le;have hcm := hP.bytes.max;have HZ := Hh (And.intro hz1 hz8);have hzi : (z : Int) ≤ 8 := by omega
 have hpi : (p : Int) ≤ (l.length : Int) := by omega
 have hli : (l.length : Int) ≤ 4096 := by omega
 have K0 : IntKind.i64.wrap ((l.length : Int) - (p : Int)) = (l.length : Int) - (p : Int) := IntWalk.i64_in _ (by omega)
 by_cases hlt : l.length < p + z
 ·have z0 : (l.length : Int) - (p : Int) < (z : Int) := by omega
  have HL := Hh hlt;clear hz1 hz8 hpl hsm hcl hcm hP hlt;go_enter Tryz.func92, Tryz.ntmps92
  go_wp2_with fail
  go_big_quiet (fail)
  go_wp2_with fail
  go_ret2
  exact .inl ⟨HL.out, rfl, hB, grown_drewN (grown_refl w _) _⟩
 ·have z0 : ¬ ((l.length : Int) - (p : Int) < (z : Int)) := by omega
  have z0b : decide ((l.length : Int) - (p : Int) < (z : Int)) = false := decide_eq_false z0;have K1 : IntKind.i64.wrap ((p : Int) + (z : Int)) = (p : Int) + (z : Int) := IntWalk.i64_in _ (by omega);have hle2 : (p : Int) ≤ (p : Int) + (z : Int) := by omega
  have hle3 : (p : Int) + (z : Int) ≤ (c : Int) := by omega
  have hle4 : (p : Int) ≤ (c : Int) := by omega
  have hp0 : (0 : Int) ≤ (p : Int) := by omega
  have hcp : (c = p) = False := eq_false (by omega);obtain ⟨b, off, rfl, hcell⟩ := hP.bytes.at_ (by omega);have HC := Hh hcell;have HH := Hh hP.holds;have HL := Hh (Nat.not_lt.1 hlt);clear hz1 hz8 hpl hsm hcl hcm hP hcell hlt;go_enter Tryz.func92, Tryz.ntmps92
  go_wp2_with fail
  go_big_quiet (fail)
  obtain ⟨w1, hw1⟩ : ∃ W, w.drewN nq = W := ⟨_, rfl⟩
  have hB1 : Blk w1 g 116 (psrC (some ⟨b, off, none⟩) l.length c p cnt) := hw1 ▸ hB;have hG1 : w.grownBy w1 (some g) := hw1 ▸ grown_drewN (grown_refl w _) _;have hH1 : Holds w1 H := hw1 ▸ HH.out;rw [hw1];clear hw1 c0 c1;have c0 := hB1.cell 0 rfl;have c1 := hB1.cell 1 rfl;go_wp2_with fail
  go_big_quiet (fail)
  go_wp2_with fail
  obtain ⟨W, hW⟩ : ∃ W, w1.drewN nq = W := ⟨_, rfl⟩
  have hBW : Blk W g 116 (psrC (some ⟨b, off, none⟩) l.length c p cnt) := hW ▸ hB1;have hGW : w.grownBy W (some g) := hW ▸ grown_drewN hG1 _;have hHW : Holds W H := hW ▸ hH1;rw [hW];clear hW c0 c1 hB hB1 hG1 hH1;have E : Hid ((l.drop p).length = l.length - p) := List.length_drop;go_loopw [6, 8, 37] (fun v6 v8 v37 wr => wr = W ∧ ∃ k : Nat, k ≤ z ∧ v37 = .int .i64 (k : Int) ∧ v6 = .int .u64 (beN ((l.drop p).take k) : Int)) (fun _ _ v37 _ => z - (intOf v37).toNat)
  case atStart => exact ⟨rfl, 0, Nat.zero_le _, rfl, rfl⟩
  case round =>
   obtain ⟨rfl, k, hk, rfl, rfl⟩ := hrel
   by_cases hkz : k < z
   ·have hkl : p + k < l.length := by have := HL.out; omega
    have hkz2 : (k : Int) < (z : Int) := by omega
    have hkd : k < (l.drop p).length := by have := E.out; omega
    have q0 := hHW.cell (HC.out (p + k) hkl);rw [← Nat.add_assoc] at q0;have ex : (l.drop p)[k] = l[p + k] := by rw [List.getElem_drop]
    have hX := beN_take_lt (l.drop p) k (by have := HZ.out; omega);have hS := beN_take (l.drop p) k hkd;rw [ex] at hS;obtain ⟨X, hXX⟩ : ∃ X, beN ((l.drop p).take k) = X := ⟨_, rfl⟩
    obtain ⟨ch, hch⟩ : ∃ ch, l[p + k] = ch := ⟨_, rfl⟩
    rw [hXX] at hX hS ⊢;rw [hch] at hS q0;have lc := ch.toNat_lt;have K2 : IntKind.u64.wrap ((X : Int) * 256) = (X : Int) * 256 := by rw [IntKind.wrap_u64]; omega
    have K3 : bits .or .u64 ((X : Int) * 256) (ch.toNat : Int) = ((X * 256 + ch.toNat : Nat) : Int) := u64_or_byte X _ hX lc;have HS := Hh hS;have hk1 : (k : Int) + 1 ≤ 9223372036854775807 := by have := HZ.out; omega
    clear hX hS hXX hch ex hkd;go_wp2_with fail
    go_roundw
    case rel => exact ⟨by trivial, k + 1, by omega, by go_num, by rw [HS.out, Int.natCast_add, Int.natCast_mul]; rfl⟩
    case measure => simp [intOf]; omega
   ·have hkk : k = z := by omega
    subst hkk;have hnl : ¬ ((k : Int) < (k : Int)) := by omega
    have c1 := hBW.cell 1 rfl;obtain ⟨X, hXX⟩ : ∃ X, beN ((l.drop p).take k) = X := ⟨_, rfl⟩
    rw [hXX];have HX := Hh hXX;clear hXX;go_wp2_with (with_reducible refine stop_store ?_)
    refine wpList_store_cell rfl _ _ _ rfl rfl g 1 (.int .i64 ((p : Int) + (k : Int))) rfl rfl _ _ hBW size_int1 (by simp) rfl fun w2 hB2 hG2 => ?_
    have hG3 := grown_step hGW hG2 (.inl rfl)
    have hB3 : Blk w2 g 116 (psrC (some ⟨b, off, none⟩) l.length c (p + k) cnt) := by
     have e : ((p + k : Nat) : Int) = (p : Int) + (k : Int) := by omega
     rw [psrC, e]
     exact hB2
    clear hB2 hG2 hBW hGW c1;go_wp2_with fail
    go_ret2
    exact .inr ⟨HL.out, by rw [HX.out]; rfl, hB3, hG3⟩
def HeadSaid (T : TypeId) (w : World) (g : Nat) (A : Option Addr) (c : Nat) (l : List UInt8) (p cnt : Nat) (e : Ending) (w' : World) : Prop :=
 match headP (l.drop p) with
 | .error q => e = .returned (.tuple #[.int .u8 0, .int .u64 0, .int .i64 (q : Int)]) ∧ (∃ p', p' ≤ l.length ∧ Blk w' g T (psrC A l.length c p' cnt)) ∧ w.grownBy w' (some g)
 | .ok (f, n, k) => e = .returned (.tuple #[.int .u8 (f : Int), .int .u64 (n : Int), .int .i64 0]) ∧ Blk w' g T (psrC A l.length c (p + k) cnt) ∧ w.grownBy w' (some g)
theorem HeadSaid.err {T : TypeId} {w w' : World} {g : Nat} {A : Option Addr} {c : Nat} {l : List UInt8} {p cnt : Nat} {e : Ending} {q : Nat} (h : headP (l.drop p) = .error q) (he : e = .returned (.tuple #[.int .u8 0, .int .u64 0, .int .i64 (q : Int)]))
  (p' : Nat) (hp : p' ≤ l.length) (hb : Blk w' g T (psrC A l.length c p' cnt)) (hg : w.grownBy w' (some g)) : HeadSaid T w g A c l p cnt e w' := by
 rw [HeadSaid, h]; exact ⟨he, ⟨p', hp, hb⟩, hg⟩
theorem HeadSaid.ok {T : TypeId} {w w' : World} {g : Nat} {A : Option Addr} {c : Nat} {l : List UInt8} {p cnt : Nat} {e : Ending} {f n k : Nat} (h : headP (l.drop p) = .ok (f, n, k)) (he : e = .returned (.tuple #[.int .u8 (f : Int), .int .u64 (n : Int), .int .i64 0]))
  (hb : Blk w' g T (psrC A l.length c (p + k) cnt)) (hg : w.grownBy w' (some g)) : HeadSaid T w g A c l p cnt e w' := by
 rw [HeadSaid, h]; exact ⟨he, hb, hg⟩
theorem and31 : ∀ X : Fin 256, bits .and .u8 ((X.val : Nat) : Int) 31 = ((X.val % 32 : Nat) : Int) := by decide
theorem drop_cons {l : List UInt8} {p : Nat} (hp : p < l.length) : l.drop p = l[p] :: l.drop (p + 1) := List.drop_eq_getElem_cons hp
theorem p_head {w : World} {g : Nat} {H : Snap} {A : Option Addr} {c : Nat} {l : List UInt8} {p cnt : Nat} (hP : Psr 116 w g H A c l p cnt) :
  Calls Tryz.prog 87 #[.pointer (some ⟨g, 0, none⟩)] w (HeadSaid 116 w g A c l p cnt) := by
 have hB := hP.blk;have c0 := hB.cell 0 rfl;have c1 := hB.cell 1 rfl;have hpl := hP.le;have hsm := hP.small;have hcl := hP.bytes.le;have hcm := hP.bytes.max;have HP := Hh hP
 by_cases hlt : p = l.length
 ·have E : Hid (headP (l.drop p) = .error 2) := by rw [Hid, hlt, List.drop_length]; rfl
  have z0 : ((p : Int) == (l.length : Int)) = true := by simp [hlt]
  have HL := Hh hpl;clear hpl hsm hcl hcm hP hlt;go_enter Tryz.func87, Tryz.ntmps87
  go_wp2_with fail
  go_big_quiet (fail)
  go_wp2_with fail
  go_ret3
  exact HeadSaid.err E.out rfl p HL.out hB (grown_drewN (grown_refl w _) _)
 ·have z0 : ((p : Int) == (l.length : Int)) = false := by simp; omega
  have hp2 : p < l.length := by omega
  have hpi : (p : Int) < (l.length : Int) := by omega
  have hp0 : (0 : Int) ≤ (p : Int) := by omega
  have hpm : (p : Int) + 1 ≤ 9223372036854775807 := by omega
  obtain ⟨b, off, rfl, hcell⟩ := hP.bytes.at_ (by omega);have HC := Hh hcell;have HH := Hh hP.holds;have q0 := hP.holds.cell (hcell p hp2);have ED := Hh (drop_cons hp2);obtain ⟨ch, hch⟩ : ∃ ch, l[p] = ch := ⟨_, rfl⟩
  rw [hch] at q0 ED;have lc := ch.toNat_lt;have KA := and31 ⟨ch.toNat, lc⟩
  simp only at KA
  obtain ⟨low, hlow⟩ : ∃ low, ch.toNat % 32 = low := ⟨_, rfl⟩
  rw [hlow] at KA;have HLOW := Hh hlow;have hl32 : low < 32 := by omega
  have HL := Hh (And.intro hp2 (And.intro hsm (And.intro hcl hcm)))
  have EH : Hid (headP (l.drop p) = if 27 < low then .error 3 else if low < 24 then .ok (ch.toNat, low, 1) else if (l.drop (p + 1)).length < 2 ^ (low - 24) then .error 2
    else if ch.toNat / 32 < 7 ∧ (headB 0 (beN ((l.drop (p + 1)).take (2 ^ (low - 24))))).length ≠ 1 + 2 ^ (low - 24) then .error 4
    else .ok (ch.toNat, beN ((l.drop (p + 1)).take (2 ^ (low - 24))), 1 + 2 ^ (low - 24))) := by rw [Hid, ED.out, headP, hlow]
  clear hpl hsm hcl hcm hP hlt hcell hch hlow hp2 ED lc;go_enter Tryz.func87, Tryz.ntmps87
  go_wp2_with fail
  go_big_quiet (fail)
  obtain ⟨w1, hw1⟩ : ∃ W, w.drewN nq = W := ⟨_, rfl⟩
  have hB1 : Blk w1 g 116 (psrC (some ⟨b, off, none⟩) l.length c p cnt) := hw1 ▸ hB;have hG1 : w.grownBy w1 (some g) := hw1 ▸ grown_drewN (grown_refl w _) _;have hH1 : Holds w1 H := hw1 ▸ HH.out;have q1 : w1.cell? ⟨b, off + p, none⟩ = some (byteV ch) := hw1 ▸ q0;rw [hw1];clear hw1 c0 c1 q0 hB;have c0 := hB1.cell 0 rfl;have c1 := hB1.cell 1 rfl;go_upto_region 3 with fail
  go_big_quiet (fail)
  obtain ⟨w2, hw2⟩ : ∃ W, w1.drewN nq = W := ⟨_, rfl⟩
  have hB2 : Blk w2 g 116 (psrC (some ⟨b, off, none⟩) l.length c p cnt) := hw2 ▸ hB1;have hG2 : w.grownBy w2 (some g) := hw2 ▸ grown_drewN hG1 _;have hH2 : Holds w2 H := hw2 ▸ hH1;rw [hw2];clear hw2 c0 c1 hB1 hG1 hH1 q1;have c1 := hB2.cell 1 rfl
  by_cases h27 : 27 < low
  ·have z27 : (27 : Int) < (low : Int) := by omega
   have E : Hid (headP (l.drop p) = .error 3) := by rw [Hid, EH.out, if_pos h27]
   go_wp2_with fail
   go_ret3
   exact HeadSaid.err E.out rfl p (Nat.le_of_lt HL.out.1) hB2 hG2
  have z27 : ¬ ((27 : Int) < (low : Int)) := by omega
  have E1 : Hid (headP (l.drop p) = if low < 24 then .ok (ch.toNat, low, 1) else if (l.drop (p + 1)).length < 2 ^ (low - 24) then .error 2
    else if ch.toNat / 32 < 7 ∧ (headB 0 (beN ((l.drop (p + 1)).take (2 ^ (low - 24))))).length ≠ 1 + 2 ^ (low - 24) then .error 4
    else .ok (ch.toNat, beN ((l.drop (p + 1)).take (2 ^ (low - 24))), 1 + 2 ^ (low - 24))) := by rw [Hid, EH.out, if_neg h27]
  clear EH;have K1 : IntKind.i64.wrap ((p : Int) + 1) = (p : Int) + 1 := IntWalk.i64_in _ (by omega);go_wp2_with (with_reducible refine stop_store ?_)
  refine wpList_store_cell rfl _ _ _ rfl rfl g 1 (.int .i64 ((p : Int) + 1)) rfl rfl _ _ hB2 size_int1 (by simp) rfl fun w3 hB3 hG3' => ?_
  have hG3 := grown_step hG2 hG3' (.inl rfl);have hB3 : Blk w3 g 116 (psrC (some ⟨b, off, none⟩) l.length c (p + 1) cnt) := hB3;have hH3 : Holds w3 H := hH2.grown hG3' (by rintro q ⟨⟩; exact HP.out.apart);clear hB2 hG2 hG3' c1 hH2 K1
  by_cases h24 : low < 24
  ·have z24 : (low : Int) < 24 := by omega
   have E : Hid (headP (l.drop p) = .ok (ch.toNat, low, 1)) := by rw [Hid, E1.out, if_pos h24]
   have KU : IntKind.u64.wrap (low : Int) = (low : Int) := by rw [IntKind.wrap_u64]; omega
   go_wp2_with fail
   go_ret3
   exact HeadSaid.ok E.out rfl hB3 hG3
  have z24 : ¬ ((low : Int) < 24) := by omega
  have E2 : Hid (headP (l.drop p) = if (l.drop (p + 1)).length < 2 ^ (low - 24) then .error 2
    else if ch.toNat / 32 < 7 ∧ (headB 0 (beN ((l.drop (p + 1)).take (2 ^ (low - 24))))).length ≠ 1 + 2 ^ (low - 24) then .error 4
    else .ok (ch.toNat, beN ((l.drop (p + 1)).take (2 ^ (low - 24))), 1 + 2 ^ (low - 24))) := by rw [Hid, E1.out, if_neg h24]
  clear E1;have hP3 : Psr 116 w3 g H (some ⟨b, off, none⟩) c l (p + 1) cnt := ⟨hB3, HP.out.bytes, hH3, HP.out.apart, HL.out.1, HP.out.small, HP.out.cnt_le⟩
  rcases (by omega : low = 24 ∨ low = 25 ∨ low = 26 ∨ low = 27) with rfl | rfl | rfl | rfl
  ·have NM := Hh (p_number hP3 1 (by omega) (by omega))
   simp only [Nat.reduceSub, Nat.reducePow, Nat.reduceAdd] at E2
   clear h27 h24 z27 z24 hl32 hP3;go_wp2_with fail
   refine NM.out.mono ?_
   rintro e w4 (⟨hs, rfl, hB4, hG4⟩ | ⟨hs, rfl, hB4, hG4⟩)
   ·have E : Hid (headP (l.drop p) = .error 2) := by rw [Hid, E2.out, if_pos (by rw [List.length_drop]; have := HL.out.1; omega)]
    have hG5 := grown_step hG3 hG4 (.inl rfl);clear NM hs;go_wp2_with fail
    go_ret3
    exact HeadSaid.err E.out rfl (p + 1) HL.out.1 hB4 hG5
   ·have E3 : Hid (headP (l.drop p) = if ch.toNat / 32 < 7 ∧ (headB 0 (beN ((l.drop (p + 1)).take 1))).length ≠ 2 then .error 4 else .ok (ch.toNat, beN ((l.drop (p + 1)).take 1), 2)) := by
     rw [Hid, E2.out, if_neg (by rw [List.length_drop]; have := HL.out.1; omega)]
    have hG5 := grown_step hG3 hG4 (.inl rfl);have hnb := beN_lt ((l.drop (p + 1)).take 1);have hnl : ((l.drop (p + 1)).take 1).length = 1 := by rw [List.length_take, List.length_drop]; omega
    rw [hnl] at hnb
    simp only [Nat.reducePow] at hnb
    obtain ⟨n, hn⟩ : ∃ n, beN ((l.drop (p + 1)).take 1) = n := ⟨_, rfl⟩
    rw [hn] at E3 hnb ⊢;have HD := Hh (fun w => cbor_head 0 (n : Int) w (by omega) (by omega) (by omega) (by omega));have HS := Hh hs;have hB5 : Blk w4 g 116 (psrC (some ⟨b, off, none⟩) l.length c (p + 2) cnt) := hB4;clear NM hs E2 hn hnl hnb hB4 hG4
    by_cases h7 : ch.toNat / 32 < 7
    ·have z7 : (ch.toNat : Int) / 32 < 7 := by omega
     have E4 : Hid (headP (l.drop p) = if (headB 0 n).length ≠ 2 then .error 4 else .ok (ch.toNat, n, 2)) := by
      rw [Hid, E3.out]
      by_cases h : (headB 0 n).length = 2 <;> simp [h, h7]
     clear E3 h7;go_wp2_with fail
     refine (HD.out _).mono ?_
     rintro e w5 ⟨r, rfl, hf⟩
     have hB6 := hB5.below hf.2;have hG6 := grown_below hG5 hf.2;obtain ⟨RA, rc, rfl, _⟩ := hf.own.form;obtain ⟨hn, hhn⟩ : ∃ hn, (headB (0 : Int).toNat (n : Int).toNat).length = hn := ⟨_, rfl⟩
     rw [hhn];have E5 : Hid (headP (l.drop p) = if hn ≠ 2 then .error 4 else .ok (ch.toNat, n, 2)) := by rw [Hid, E4.out, ← hhn]; rfl
     clear hf HD E4 hhn hB5 hG5
     by_cases hq : hn = 2
     ·subst hq;have E : Hid (headP (l.drop p) = .ok (ch.toNat, n, 2)) := by rw [Hid, E5.out, if_neg (by simp)]
      clear E5;go_wp2_with fail
      go_ret3
      exact HeadSaid.ok E.out rfl hB6 hG6
     ·have zq : ((hn : Int) == 2) = false := by simp; omega
      have zq2 : ((hn : Int) = 2) = False := eq_false (by omega);have E : Hid (headP (l.drop p) = .error 4) := by rw [Hid, E5.out, if_pos hq]
      clear E5 hq z0 hpm hpi hp0 KA;go_wp2_with fail
      go_ret3
      exact HeadSaid.err E.out rfl (p + 2) (by have := HS.out; omega) hB6 hG6
    ·have z7 : ¬ ((ch.toNat : Int) / 32 < 7) := by omega
     have z7b : decide ((ch.toNat : Int) / 32 < 7) = false := decide_eq_false z7;have E : Hid (headP (l.drop p) = .ok (ch.toNat, n, 2)) := by rw [Hid, E3.out, if_neg (fun h => h7 h.1)]
     clear E3 h7 HD z7 z0;go_wp2_with fail
     go_ret3
     exact HeadSaid.ok E.out rfl hB5 hG5
  ·have NM := Hh (p_number hP3 2 (by omega) (by omega))
   simp only [Nat.reduceSub, Nat.reducePow, Nat.reduceAdd] at E2
   clear h27 h24 z27 z24 hl32 hP3;go_wp2_with fail
   refine NM.out.mono ?_
   rintro e w4 (⟨hs, rfl, hB4, hG4⟩ | ⟨hs, rfl, hB4, hG4⟩)
   ·have E : Hid (headP (l.drop p) = .error 2) := by rw [Hid, E2.out, if_pos (by rw [List.length_drop]; have := HL.out.1; omega)]
    have hG5 := grown_step hG3 hG4 (.inl rfl);clear NM hs;go_wp2_with fail
    go_ret3
    exact HeadSaid.err E.out rfl (p + 1) HL.out.1 hB4 hG5
   ·have E3 : Hid (headP (l.drop p) = if ch.toNat / 32 < 7 ∧ (headB 0 (beN ((l.drop (p + 1)).take 2))).length ≠ 3 then .error 4 else .ok (ch.toNat, beN ((l.drop (p + 1)).take 2), 3)) := by
     rw [Hid, E2.out, if_neg (by rw [List.length_drop]; have := HL.out.1; omega)]
    have hG5 := grown_step hG3 hG4 (.inl rfl);have hnb := beN_lt ((l.drop (p + 1)).take 2);have hnl : ((l.drop (p + 1)).take 2).length = 2 := by rw [List.length_take, List.length_drop]; omega
    rw [hnl] at hnb
    simp only [Nat.reducePow] at hnb
    obtain ⟨n, hn⟩ : ∃ n, beN ((l.drop (p + 1)).take 2) = n := ⟨_, rfl⟩
    rw [hn] at E3 hnb ⊢;have HD := Hh (fun w => cbor_head 0 (n : Int) w (by omega) (by omega) (by omega) (by omega));have HS := Hh hs;have hB5 : Blk w4 g 116 (psrC (some ⟨b, off, none⟩) l.length c (p + 3) cnt) := hB4;clear NM hs E2 hn hnl hnb hB4 hG4
    by_cases h7 : ch.toNat / 32 < 7
    ·have z7 : (ch.toNat : Int) / 32 < 7 := by omega
     have E4 : Hid (headP (l.drop p) = if (headB 0 n).length ≠ 3 then .error 4 else .ok (ch.toNat, n, 3)) := by
      rw [Hid, E3.out]
      by_cases h : (headB 0 n).length = 3 <;> simp [h, h7]
     clear E3 h7;go_wp2_with fail
     refine (HD.out _).mono ?_
     rintro e w5 ⟨r, rfl, hf⟩
     have hB6 := hB5.below hf.2;have hG6 := grown_below hG5 hf.2;obtain ⟨RA, rc, rfl, _⟩ := hf.own.form;obtain ⟨hn, hhn⟩ : ∃ hn, (headB (0 : Int).toNat (n : Int).toNat).length = hn := ⟨_, rfl⟩
     rw [hhn];have E5 : Hid (headP (l.drop p) = if hn ≠ 3 then .error 4 else .ok (ch.toNat, n, 3)) := by rw [Hid, E4.out, ← hhn]; rfl
     clear hf HD E4 hhn hB5 hG5
     by_cases hq : hn = 3
     ·subst hq;have E : Hid (headP (l.drop p) = .ok (ch.toNat, n, 3)) := by rw [Hid, E5.out, if_neg (by simp)]
      clear E5;go_wp2_with fail
      go_ret3
      exact HeadSaid.ok E.out rfl hB6 hG6
     ·have zq : ((hn : Int) == 3) = false := by simp; omega
      have zq2 : ((hn : Int) = 3) = False := eq_false (by omega);have E : Hid (headP (l.drop p) = .error 4) := by rw [Hid, E5.out, if_pos hq]
      clear E5 hq z0 hpm hpi hp0 KA;go_wp2_with fail
      go_ret3
      exact HeadSaid.err E.out rfl (p + 3) (by have := HS.out; omega) hB6 hG6
    ·have z7 : ¬ ((ch.toNat : Int) / 32 < 7) := by omega
     have z7b : decide ((ch.toNat : Int) / 32 < 7) = false := decide_eq_false z7;have E : Hid (headP (l.drop p) = .ok (ch.toNat, n, 3)) := by rw [Hid, E3.out, if_neg (fun h => h7 h.1)]
     clear E3 h7 HD z7 z0;go_wp2_with fail
     go_ret3
     exact HeadSaid.ok E.out rfl hB5 hG5
  ·have NM := Hh (p_number hP3 4 (by omega) (by omega))
   simp only [Nat.reduceSub, Nat.reducePow, Nat.reduceAdd] at E2
   clear h27 h24 z27 z24 hl32 hP3;go_wp2_with fail
   refine NM.out.mono ?_
   rintro e w4 (⟨hs, rfl, hB4, hG4⟩ | ⟨hs, rfl, hB4, hG4⟩)
   ·have E : Hid (headP (l.drop p) = .error 2) := by rw [Hid, E2.out, if_pos (by rw [List.length_drop]; have := HL.out.1; omega)]
    have hG5 := grown_step hG3 hG4 (.inl rfl);clear NM hs;go_wp2_with fail
    go_ret3
    exact HeadSaid.err E.out rfl (p + 1) HL.out.1 hB4 hG5
   ·have E3 : Hid (headP (l.drop p) = if ch.toNat / 32 < 7 ∧ (headB 0 (beN ((l.drop (p + 1)).take 4))).length ≠ 5 then .error 4 else .ok (ch.toNat, beN ((l.drop (p + 1)).take 4), 5)) := by
     rw [Hid, E2.out, if_neg (by rw [List.length_drop]; have := HL.out.1; omega)]
    have hG5 := grown_step hG3 hG4 (.inl rfl);have hnb := beN_lt ((l.drop (p + 1)).take 4);have hnl : ((l.drop (p + 1)).take 4).length = 4 := by rw [List.length_take, List.length_drop]; omega
    rw [hnl] at hnb
    simp only [Nat.reducePow] at hnb
    obtain ⟨n, hn⟩ : ∃ n, beN ((l.drop (p + 1)).take 4) = n := ⟨_, rfl⟩
    rw [hn] at E3 hnb ⊢;have HD := Hh (fun w => cbor_head 0 (n : Int) w (by omega) (by omega) (by omega) (by omega));have HS := Hh hs;have hB5 : Blk w4 g 116 (psrC (some ⟨b, off, none⟩) l.length c (p + 5) cnt) := hB4;clear NM hs E2 hn hnl hnb hB4 hG4
    by_cases h7 : ch.toNat / 32 < 7
    ·have z7 : (ch.toNat : Int) / 32 < 7 := by omega
     have E4 : Hid (headP (l.drop p) = if (headB 0 n).length ≠ 5 then .error 4 else .ok (ch.toNat, n, 5)) := by
      rw [Hid, E3.out]
      by_cases h : (headB 0 n).length = 5 <;> simp [h, h7]
     clear E3 h7;go_wp2_with fail
     refine (HD.out _).mono ?_
     rintro e w5 ⟨r, rfl, hf⟩
     have hB6 := hB5.below hf.2;have hG6 := grown_below hG5 hf.2;obtain ⟨RA, rc, rfl, _⟩ := hf.own.form;obtain ⟨hn, hhn⟩ : ∃ hn, (headB (0 : Int).toNat (n : Int).toNat).length = hn := ⟨_, rfl⟩
     rw [hhn];have E5 : Hid (headP (l.drop p) = if hn ≠ 5 then .error 4 else .ok (ch.toNat, n, 5)) := by rw [Hid, E4.out, ← hhn]; rfl
     clear hf HD E4 hhn hB5 hG5
     by_cases hq : hn = 5
     ·subst hq;have E : Hid (headP (l.drop p) = .ok (ch.toNat, n, 5)) := by rw [Hid, E5.out, if_neg (by simp)]
      clear E5;go_wp2_with fail
      go_ret3
      exact HeadSaid.ok E.out rfl hB6 hG6
     ·have zq : ((hn : Int) == 5) = false := by simp; omega
      have zq2 : ((hn : Int) = 5) = False := eq_false (by omega);have E : Hid (headP (l.drop p) = .error 4) := by rw [Hid, E5.out, if_pos hq]
      clear E5 hq z0 hpm hpi hp0 KA;go_wp2_with fail
      go_ret3
      exact HeadSaid.err E.out rfl (p + 5) (by have := HS.out; omega) hB6 hG6
    ·have z7 : ¬ ((ch.toNat : Int) / 32 < 7) := by omega
     have z7b : decide ((ch.toNat : Int) / 32 < 7) = false := decide_eq_false z7;have E : Hid (headP (l.drop p) = .ok (ch.toNat, n, 5)) := by rw [Hid, E3.out, if_neg (fun h => h7 h.1)]
     clear E3 h7 HD z7 z0;go_wp2_with fail
     go_ret3
     exact HeadSaid.ok E.out rfl hB5 hG5
  ·have NM := Hh (p_number hP3 8 (by omega) (by omega))
   simp only [Nat.reduceSub, Nat.reducePow, Nat.reduceAdd] at E2
   clear h27 h24 z27 z24 hl32 hP3;go_wp2_with fail
   refine NM.out.mono ?_
   rintro e w4 (⟨hs, rfl, hB4, hG4⟩ | ⟨hs, rfl, hB4, hG4⟩)
   ·have E : Hid (headP (l.drop p) = .error 2) := by rw [Hid, E2.out, if_pos (by rw [List.length_drop]; have := HL.out.1; omega)]
    have hG5 := grown_step hG3 hG4 (.inl rfl);clear NM hs;go_wp2_with fail
    go_ret3
    exact HeadSaid.err E.out rfl (p + 1) HL.out.1 hB4 hG5
   ·have E3 : Hid (headP (l.drop p) = if ch.toNat / 32 < 7 ∧ (headB 0 (beN ((l.drop (p + 1)).take 8))).length ≠ 9 then .error 4 else .ok (ch.toNat, beN ((l.drop (p + 1)).take 8), 9)) := by
     rw [Hid, E2.out, if_neg (by rw [List.length_drop]; have := HL.out.1; omega)]
    have hG5 := grown_step hG3 hG4 (.inl rfl);have hnb := beN_lt ((l.drop (p + 1)).take 8);have hnl : ((l.drop (p + 1)).take 8).length = 8 := by rw [List.length_take, List.length_drop]; omega
    rw [hnl] at hnb
    simp only [Nat.reducePow] at hnb
    obtain ⟨n, hn⟩ : ∃ n, beN ((l.drop (p + 1)).take 8) = n := ⟨_, rfl⟩
    rw [hn] at E3 hnb ⊢;have HD := Hh (fun w => cbor_head 0 (n : Int) w (by omega) (by omega) (by omega) (by omega));have HS := Hh hs;have hB5 : Blk w4 g 116 (psrC (some ⟨b, off, none⟩) l.length c (p + 9) cnt) := hB4;clear NM hs E2 hn hnl hnb hB4 hG4
    by_cases h7 : ch.toNat / 32 < 7
    ·have z7 : (ch.toNat : Int) / 32 < 7 := by omega
     have E4 : Hid (headP (l.drop p) = if (headB 0 n).length ≠ 9 then .error 4 else .ok (ch.toNat, n, 9)) := by
      rw [Hid, E3.out]
      by_cases h : (headB 0 n).length = 9 <;> simp [h, h7]
     clear E3 h7;go_wp2_with fail
     refine (HD.out _).mono ?_
     rintro e w5 ⟨r, rfl, hf⟩
     have hB6 := hB5.below hf.2;have hG6 := grown_below hG5 hf.2;obtain ⟨RA, rc, rfl, _⟩ := hf.own.form;obtain ⟨hn, hhn⟩ : ∃ hn, (headB (0 : Int).toNat (n : Int).toNat).length = hn := ⟨_, rfl⟩
     rw [hhn];have E5 : Hid (headP (l.drop p) = if hn ≠ 9 then .error 4 else .ok (ch.toNat, n, 9)) := by rw [Hid, E4.out, ← hhn]; rfl
     clear hf HD E4 hhn hB5 hG5
     by_cases hq : hn = 9
     ·subst hq;have E : Hid (headP (l.drop p) = .ok (ch.toNat, n, 9)) := by rw [Hid, E5.out, if_neg (by simp)]
      clear E5;go_wp2_with fail
      go_ret3
      exact HeadSaid.ok E.out rfl hB6 hG6
     ·have zq : ((hn : Int) == 9) = false := by simp; omega
      have zq2 : ((hn : Int) = 9) = False := eq_false (by omega);have E : Hid (headP (l.drop p) = .error 4) := by rw [Hid, E5.out, if_pos hq]
      clear E5 hq z0 hpm hpi hp0 KA;go_wp2_with fail
      go_ret3
      exact HeadSaid.err E.out rfl (p + 9) (by have := HS.out; omega) hB6 hG6
    ·have z7 : ¬ ((ch.toNat : Int) / 32 < 7) := by omega
     have z7b : decide ((ch.toNat : Int) / 32 < 7) = false := decide_eq_false z7;have E : Hid (headP (l.drop p) = .ok (ch.toNat, n, 9)) := by rw [Hid, E3.out, if_neg (fun h => h7 h.1)]
     clear E3 h7 HD z7 z0;go_wp2_with fail
     go_ret3
     exact HeadSaid.ok E.out rfl hB5 hG5
end Go.Proofs.YtlebpackbfcfeaaGreatDoor
