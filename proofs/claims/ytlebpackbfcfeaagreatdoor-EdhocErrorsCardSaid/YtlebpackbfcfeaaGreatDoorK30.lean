/- squeezed. Walks: the reference's Decode, by  -/
import Derived.Test.YtlebpackbfcfeaaGreatDoorK29
import Derived.Test.YtlebpackbfcfeaaGreatDoorK02
import Derived.Test.YtlebpackbfcfeaaGreatDoorK20
import Derived.Test.YtlebpackbfcfeaaGreatDoorK22
set_option linter.unusedVariables false
set_option linter.unusedSimpArgs false
set_option maxRecDepth 100000
set_option maxHeartbeats 6400000
namespace Go.Proofs.YtlebpackbfcfeaaGreatDoor
open Go.RowKit
theorem ref_Decode_of (hI : ∀ d, RItem d) {H : Snap} (hTab : Tabs H) (w : World) (hH : Holds w H) {A : Option Addr} {n c : Nat} {l : List UInt8} (hn : n = l.length) (hl : IsBytes H A c l) :
  Calls Tryz.prog 40 #[.slice A n c] w (DecodeOut w H l) := by
 have hT := Blk.new w 31 #[.int .i64 0, .int .u64 0, .slice none 0 0, .slice none 0 0];have hG := (Grows.refl hH).alloc zeroO;have hT0 : Blk (w.alloc zeroO) w.heap.size 31 #[.int .i64 0, .int .u64 0, .slice none 0 0, .slice none 0 0] := hT;have hn0 : H w.heap.size = none := hH.none_of_ge (by omega);clear hT;have hHN := Hh hn;have C := fun w1 h1 => Hh (ref_Prefix_of hI hTab w1 h1 hn hl)
 clear hn
 by_cases hbig : 4096 < n
 ·have b1 : decide ((n : Int) > 4096) = true := by rw [decide_eq_true_eq]; omega
  have b2 : decide ((4096 : Int) < n) = true := by rw [decide_eq_true_eq]; omega
  have hd : decodeP l = .error 8 := by have := hHN.out; rw [decodeP, if_pos (by omega)]
  have hd' := Hh hd;clear hd C;go_enter Tryz.func40, Tryz.ntmps40
  go_wp2_with (with_reducible refine stop_store ?_)
  unfold Stopped
  generalize w.alloc zeroO = w1 at hT0 hG ⊢
  refine stI hT0 fun w7 hT7 hg7 => ?_
  have hG7 := hG.grownOwn hn0 (by omega) hg7;go_wp2_with fail
  refine ret_row_tmp rfl rfl hT7 rfl rfl size_item rfl ?_
  unfold DecodeOut
  rw [hd'.out]
  exact ⟨rfl, hG7.below⟩
 ·have b1 : decide ((n : Int) > 4096) = false := by rw [decide_eq_false_iff_not]; omega
  have b2 : decide ((4096 : Int) < n) = false := by rw [decide_eq_false_iff_not]; omega
  have hbig' := Hh hbig;clear hbig;go_enter Tryz.func40, Tryz.ntmps40
  go_wp2_with fail
  have hz1 : w.heap.size < (w.alloc zeroO).heap.size := hT0.lt
  generalize w.alloc zeroO = w1 at hT0 hG hz1 ⊢
  refine (C w1 hG.holds).out.mono ?_
  rintro e w3 hout
  unfold PrefixOut at hout
  cases hr : prefixP l with
  | err q =>
   rw [hr] at hout;obtain ⟨rfl, hb⟩ := hout;have hr' := Hh hr;have hd' := Hh (show decodeP l = .error q by have := hHN.out; have := hbig'.out; rw [decodeP, if_neg (by omega), hr]);clear hr;have hT3 := hT0.below hb;obtain ⟨H', hH'⟩ : ∃ H', H' = H := ⟨_, rfl⟩
   have hG3 : Grows w H w3 H' := by rw [hH']; exact hG.trans (Grows.of_below hG.holds hb)
   have hk0 : H' w.heap.size = none := by rw [hH']; exact hn0
   clear hH';have hq0 : ((q : Int) != 0) = true := by rw [bne_iff_ne]; have := parse_err _ _ _ _ hr'.out; omega
   have hq0' : ((q : Int) = 0) = False := eq_false (by have := parse_err _ _ _ _ hr'.out; omega);go_wp2_with (with_reducible refine stop_store ?_)
   unfold Stopped
   have hz3 : w.heap.size < w3.heap.size := hT3.lt;have hN := Blk.new w3 31 #[.int .i64 0, .int .u64 0, .slice none 0 0, .slice none 0 0];have hT4 : Blk (w3.alloc zeroO) w.heap.size 31 #[.int .i64 0, .int .u64 0, .slice none 0 0, .slice none 0 0] := hT3.alloc _;have hG4 := hG3.alloc zeroO;have hk3 : H' w3.heap.size = none := hG3.holds.none_of_ge (by omega);have hN' : Blk (w3.alloc zeroO) w3.heap.size 31 #[.int .i64 0, .int .u64 0, .slice none 0 0, .slice none 0 0] := hN;clear hN hT3
   generalize w3.alloc zeroO = w4 at hN' hT4 hG4 ⊢
   refine stI hN' fun w5 hT5 hg5 => ?_
   have hT6 := hT4.gr hg5 (by omega);have hG6 := hG4.grownOwn hk3 (by omega) hg5;clear hT4 hG4 hN';go_wp2_with (with_reducible refine stop_store ?_)
   refine stI hT6 fun w7 hT7 hg7 => ?_
   have hG7 := hG6.grownOwn hk0 (by omega) hg7;go_wp2_with fail
   refine ret_row_tmp rfl rfl hT7 rfl rfl size_item rfl ?_
   unfold DecodeOut
   rw [hd'.out]
   exact ⟨rfl, hG7.below⟩
  | ok x k cc =>
   rw [hr] at hout;obtain ⟨ja, jb, jc, jd, H', rfl, hg, hi⟩ := hout;have hr' := Hh hr;clear hr;have hT3 := hT0.below hg.below;have hG3 : Grows w H w3 H' := hG.trans hg;have hk0 : H' w.heap.size = none := hg.none hn0 hT0.lt
   by_cases hk : k < n
   ·have hd' := Hh (show decodeP l = .error 9 by have := hHN.out; have := hbig'.out; rw [decodeP, if_neg (by omega), hr'.out]; simp only; rw [if_pos (by omega)]);have k1 : decide ((k : Int) < n) = true := by rw [decide_eq_true_eq]; omega
    have k2 : (k < n) = True := eq_true hk;clear hk;go_wp2_with (with_reducible refine stop_store ?_)
    unfold Stopped
    have hz3 : w.heap.size < w3.heap.size := hT3.lt;have hN := Blk.new w3 31 #[.int .i64 0, .int .u64 0, .slice none 0 0, .slice none 0 0];have hT4 : Blk (w3.alloc zeroO) w.heap.size 31 #[.int .i64 0, .int .u64 0, .slice none 0 0, .slice none 0 0] := hT3.alloc _;have hG4 := hG3.alloc zeroO;have hk3 : H' w3.heap.size = none := hG3.holds.none_of_ge (by omega);have hN' : Blk (w3.alloc zeroO) w3.heap.size 31 #[.int .i64 0, .int .u64 0, .slice none 0 0, .slice none 0 0] := hN;clear hN hT3
    generalize w3.alloc zeroO = w4 at hN' hT4 hG4 ⊢
    refine stI hN' fun w5 hT5 hg5 => ?_
    have hT6 := hT4.gr hg5 (by omega);have hG6 := hG4.grownOwn hk3 (by omega) hg5;clear hT4 hG4 hN';go_wp2_with (with_reducible refine stop_store ?_)
    refine stI hT6 fun w7 hT7 hg7 => ?_
    have hG7 := hG6.grownOwn hk0 (by omega) hg7;go_wp2_with fail
    refine ret_row_tmp rfl rfl hT7 rfl rfl size_item rfl ?_
    unfold DecodeOut
    rw [hd'.out]
    exact ⟨rfl, hG7.below⟩
   ·have hd' := Hh (show decodeP l = .ok x by have := hHN.out; have := hbig'.out; rw [decodeP, if_neg (by omega), hr'.out]; simp only; rw [if_neg (by omega)]);have k1 : decide ((k : Int) < n) = false := by rw [decide_eq_false_iff_not]; omega
    have k2 : (k < n) = False := eq_false hk;clear hk;go_wp2_with (with_reducible refine stop_store ?_)
    unfold Stopped
    have hz3 : w.heap.size < w3.heap.size := hT3.lt;have hN := Blk.new w3 31 #[.int .i64 0, .int .u64 0, .slice none 0 0, .slice none 0 0];have hT4 : Blk (w3.alloc zeroO) w.heap.size 31 #[.int .i64 0, .int .u64 0, .slice none 0 0, .slice none 0 0] := hT3.alloc _;have hG4 := hG3.alloc zeroO;have hk3 : H' w3.heap.size = none := hG3.holds.none_of_ge (by omega);have hN' : Blk (w3.alloc zeroO) w3.heap.size 31 #[.int .i64 0, .int .u64 0, .slice none 0 0, .slice none 0 0] := hN;clear hN hT3
    generalize w3.alloc zeroO = w4 at hN' hT4 hG4 ⊢
    refine stI hN' fun w5 hT5 hg5 => ?_
    have hT6 := hT4.gr hg5 (by omega);have hG6 := hG4.grownOwn hk3 (by omega) hg5;clear hT4 hG4 hN';have c0 := hT5.cell 0 rfl;have c1 := hT5.cell 1 rfl;have c2 := hT5.cell 2 rfl;have c3 := hT5.cell 3 rfl;go_wp2_with (with_reducible refine stop_store ?_)
    refine stI hT6 fun w7 hT7 hg7 => ?_
    have hG7 := hG6.grownOwn hk0 (by omega) hg7;go_wp2_with fail
    refine ret_row_tmp rfl rfl hT7 rfl rfl size_item rfl ?_
    unfold DecodeOut
    rw [hd'.out]
    exact ⟨ja, jb, jc, jd, H', rfl, hG7, hi⟩
theorem i64_and31 : ∀ X : Fin 64, bits .and .i64 ((X.val : Nat) : Int) 31 = ((X.val % 32 : Nat) : Int) := by decide
theorem i64_and255 : ∀ X : Fin 512, bits .and .i64 ((X.val : Nat) : Int) 255 = ((X.val % 256 : Nat) : Int) := by decide +kernel
theorem or_sgn {s e : Nat} (hs : s ≤ 1) (he : e < 9223372036854775808) : bits .or .u64 ((s * 9223372036854775808 : Nat) : Int) (e : Int) = ((s * 9223372036854775808 + e : Nat) : Int) := or_add s 63 e he (by simp only [Nat.reducePow]; omega)
theorem or_fld {s y m : Nat} (hs : s ≤ 1) (hy : y < 2048) (hm : m < 4503599627370496) : bits .or .u64 ((s * 9223372036854775808 + y * 4503599627370496 : Nat) : Int) (m : Int) = ((s * 9223372036854775808 + y * 4503599627370496 + m : Nat) : Int) := by
 have h := or_add (s * 2048 + y) 52 m hm (by simp only [Nat.reducePow]; omega);rw [show (s * 2048 + y) * 2 ^ 52 = s * 9223372036854775808 + y * 4503599627370496 by simp only [Nat.reducePow]; omega] at h
 exact h
theorem or_fld2 {S s y m : Nat} {Y : Int} (hS : s * 9223372036854775808 = S) (hs : s ≤ 1) (hy : y < 2048) (hm : m < 4503599627370496) (hY : Y = ((y * 4503599627370496 : Nat) : Int)) :
  bits .or .u64 (bits .or .u64 (S : Int) Y) (m : Int) = ((S + y * 4503599627370496 + m : Nat) : Int) := by
 rw [hY, ← hS, or_sgn hs (by omega), or_fld hs hy hm]
theorem sub_and {m k : Nat} (h0 : m ≠ 0) (hk : k = m.log2) (hm : m < 8388608) : bits .and .u64 (IntKind.u64.wrap ((m : Int) * (2 : Int) ^ (52 - k))) 4503599627370495 = ((m * 2 ^ (52 - k) - 4503599627370496 : Nat) : Int) ∧ m * 2 ^ (52 - k) - 4503599627370496 < 4503599627370496 := by
 subst hk;have hl : m.log2 ≤ 52 := by have := (Nat.log2_lt h0).2 (show m < 2 ^ 23 by omega); omega
 obtain ⟨a, b⟩ := sub_full (Nat.log2_self_le h0) Nat.lt_log2_self hl;have e : (m : Int) * (2 : Int) ^ (52 - m.log2) = ((m * 2 ^ (52 - m.log2) : Nat) : Int) := by rw [Int.natCast_mul, Int.natCast_pow]; rfl
 rw [e];obtain ⟨F, hF⟩ : ∃ F, m * 2 ^ (52 - m.log2) = F := ⟨_, rfl⟩
 rw [hF] at a b ⊢;rw [IntWalk.u64_in _ (by omega)];have h := and_mod F 52 (by omega) (by omega)
 exact ⟨by rw [show (4503599627370495 : Int) = ((2 ^ 52 - 1 : Nat) : Int) from rfl, h]; simp only [Nat.reducePow]; omega, by omega⟩
theorem ref_WidenV5 (v : Nat) (hv : v < 65536) (w : World) :
  Calls Tryz.prog 51 #[.int .u64 (v : Int), .int .i64 5, .int .i64 10] w fun e w' => e = .returned (.int .u64 (widen5 v : Int)) ∧ w' = w := by
 have A1 : bits .and .u64 (v : Int) 1023 = ((v % 1024 : Nat) : Int) := and_mod v 10 (by omega) (by omega);obtain ⟨u, hu⟩ : ∃ u, v / 1024 = u := ⟨_, rfl⟩
 have A2 : bits .and .i64 (u : Int) 31 = ((u % 32 : Nat) : Int) := i64_and31 ⟨u, by omega⟩;have hur : u % 32 = v / 1024 % 32 := by rw [hu]
 rw [hur] at A2;obtain ⟨s, hs⟩ : ∃ s, v / 32768 = s := ⟨_, rfl⟩
 obtain ⟨x, hx⟩ : ∃ x, v / 1024 % 32 = x := ⟨_, rfl⟩
 obtain ⟨m, hm⟩ : ∃ m, v % 1024 = m := ⟨_, rfl⟩
 have hs1 : s ≤ 1 := by omega
 have hx1 : x ≤ 31 := by omega
 have hm1 : m < 1024 := by omega
 have W := Hh (show widen5 v = (if x = 31 then s * 9223372036854775808 + 9218868437227405312 + m * 4398046511104
  else if x = 0 then (if m = 0 then s * 9223372036854775808 else s * 9223372036854775808 + (999 + m.log2) * 4503599627370496 + (m * 2 ^ (52 - m.log2) - 4503599627370496))
  else s * 9223372036854775808 + (x + 1008) * 4503599627370496 + m * 4398046511104) by rw [widen5, hs, hx, hm])
 rw [hm] at A1;rw [hx] at A2;have S1 : (v : Int) / 32768 = (s : Int) := by omega
 have S2 : (v : Int) / 1024 = (u : Int) := by omega
 have K1 : IntKind.i64.wrap (u : Int) = (u : Int) := IntWalk.i64_in _ (by omega);have HX := Hh (And.intro hs1 (And.intro hx1 hm1));obtain ⟨S, hS⟩ : ∃ S, s * 9223372036854775808 = S := ⟨_, rfl⟩
 have KS : IntKind.u64.wrap ((s : Int) * 9223372036854775808) = (S : Int) := by rw [IntWalk.u64_in _ (by omega)]; omega
 rw [hS] at W;have HS := Hh hS;have HXU := Hh (show s ≤ 1 ∧ x ≤ 31 ∧ m < 1024 from ⟨hs1, hx1, hm1⟩);clear hs hx hm hv hu hur hS HX
 by_cases h31 : x = 31
 ·subst h31;obtain ⟨M, hM⟩ : ∃ M, m * 4398046511104 = M := ⟨_, rfl⟩
  have KM : IntKind.u64.wrap ((m : Int) * 4398046511104) = (M : Int) := by rw [IntWalk.u64_in _ (by omega)]; omega
  have O2 : Hid (bits .or .u64 (bits .or .u64 (S : Int) 9218868437227405312) (M : Int) = ((S + 2047 * 4503599627370496 + M : Nat) : Int)) := or_fld2 (s := s) HS.out hs1 (by omega) (by omega) rfl;have WW : Hid (widen5 v = S + 2047 * 4503599627370496 + M) := by rw [Hid, W.out, if_pos rfl, hM]
  clear W hs1 hx1 hm1 hM;go_enter Tryz.func51, Tryz.ntmps51
  go_wp2_with fail
  go_ret
  exact ⟨by rw [WW.out, ← O2.out]; rfl, rfl⟩
 have x31 : ((x : Int) == 31) = false := by simp; omega
 have x31' : ((x : Int) = 31) = False := eq_false (by omega)
 by_cases h0 : x = 0
 ·subst h0
  by_cases hm0 : m = 0
  ·subst hm0;have WW : Hid (widen5 v = S) := by rw [Hid, W.out, if_neg (by omega), if_pos rfl, if_pos rfl]
   clear W hs1 hx1 hm1;go_enter Tryz.func51, Tryz.ntmps51
   go_wp2_with fail
   go_ret
   exact ⟨by rw [WW.out]; try rfl, rfl⟩
  ·have m0 : ((m : Int) == 0) = false := by simp; omega
   have m0' : ((m : Int) = 0) = False := eq_false (by omega);have hlog : m.log2 ≤ 9 := by have := (Nat.log2_lt hm0).2 (show m < 2 ^ 10 by omega); omega
   have WW : Hid (widen5 v = S + (999 + m.log2) * 4503599627370496 + (m * 2 ^ (52 - m.log2) - 4503599627370496)) := by rw [Hid, W.out, if_neg (by omega), if_pos rfl, if_neg hm0]
   have HM := Hh (And.intro hm0 (And.intro hm1 hlog));clear W hs1 hx1 hm1 hm0 hlog;go_enter Tryz.func51, Tryz.ntmps51
   go_wp2_with fail
   go_loop [12] (fun v12 => ∃ k : Nat, k ≤ m.log2 ∧ v12 = .int .i64 (k : Int)) (fun v12 => m.log2 - (intOf v12).toNat)
   case atStart => exact ⟨0, Nat.zero_le _, rfl⟩
   case round =>
    obtain ⟨k, hk, rfl⟩ := hrel;have hk9 : (k : Int) ≤ 9 := by have := HM.out.2.2; omega
    have hk2 : (0 : Int) ≤ (k : Int) + 1 := by omega
    have hk3 : ((k : Int) + 1).toNat = k + 1 := by omega
    have hcast : (m : Int) / (2 : Int) ^ (k + 1) = ((m / 2 ^ (k + 1) : Nat) : Int) := by rw [Int.natCast_ediv, Int.natCast_pow]; rfl
    have HK := Hh hk;clear hk
    by_cases hkl : k < m.log2
    ·have ht : (0 : Int) < (m : Int) / (2 : Int) ^ (k + 1) := by
      rw [hcast];have h1 : 2 ^ (k + 1) ≤ m := Nat.le_trans (Nat.pow_le_pow_right (by omega) hkl) (Nat.log2_self_le HM.out.1);have := Nat.div_pos h1 (Nat.two_pow_pos _)
      omega
     clear hcast;have HKL := Hh hkl;clear hkl;go_wp2_with fail
     go_round
     case rel => exact ⟨k + 1, HKL.out, by go_num⟩
     case measure => have := HKL.out; simp [intOf]; omega
    ·have hke : k = m.log2 := by have := HK.out; omega
     have ht : ¬ ((0 : Int) < (m : Int) / (2 : Int) ^ (k + 1)) := by
      rw [hcast];have : m < 2 ^ (k + 1) := by rw [hke]; exact Nat.lt_log2_self
      rw [Nat.div_eq_of_lt this]; simp
     clear hcast;have HKE := Hh hke;clear hkl hke;go_wp2_with fail
     go_ret
     obtain ⟨B1, B2⟩ := sub_and HM.out.1 HKE.out (by have := HM.out.2.1; omega);have O3 := or_fld2 (S := S) (s := s) (y := 999 + k) (Y := ((k : Int) + 1 - 15 - 10 + 1023) * 4503599627370496) HS.out HXU.out.1 (by omega) B2 (by omega);rw [← B1] at O3
     refine ⟨?_, rfl⟩
     rw [WW.out, ← HKE.out, ← O3];rfl
 ·have x0 : ((x : Int) == 0) = false := by simp; omega
  have x0' : ((x : Int) = 0) = False := eq_false (by omega);obtain ⟨M, hM⟩ : ∃ M, m * 4398046511104 = M := ⟨_, rfl⟩
  have KM : IntKind.u64.wrap ((m : Int) * 4398046511104) = (M : Int) := by rw [IntWalk.u64_in _ (by omega)]; omega
  have O2 : Hid (bits .or .u64 (bits .or .u64 (S : Int) (((x : Int) - 15 + 1023) * 4503599627370496)) (M : Int) = ((S + (x + 1008) * 4503599627370496 + M : Nat) : Int)) := or_fld2 (s := s) HS.out hs1 (by omega) (by omega) (by omega);have WW : Hid (widen5 v = S + (x + 1008) * 4503599627370496 + M) := by rw [Hid, W.out, if_neg h31, if_neg h0, hM]
  have hxi : (x : Int) ≤ 31 := by omega
  clear W hs1 hx1 hm1 hM h31 h0;go_enter Tryz.func51, Tryz.ntmps51
  go_wp2_with fail
  go_ret
  refine ⟨?_, rfl⟩
  rw [WW.out, ← O2.out];rfl
theorem ref_WidenV8 (v : Nat) (hv : v < 4294967296) (w : World) :
  Calls Tryz.prog 51 #[.int .u64 (v : Int), .int .i64 8, .int .i64 23] w fun e w' => e = .returned (.int .u64 (widen8 v : Int)) ∧ w' = w := by
 have A1 : bits .and .u64 (v : Int) 8388607 = ((v % 8388608 : Nat) : Int) := and_mod v 23 (by omega) (by omega);obtain ⟨u, hu⟩ : ∃ u, v / 8388608 = u := ⟨_, rfl⟩
 have A2 : bits .and .i64 (u : Int) 255 = ((u % 256 : Nat) : Int) := i64_and255 ⟨u, by omega⟩;have hur : u % 256 = v / 8388608 % 256 := by rw [hu]
 rw [hur] at A2;obtain ⟨s, hs⟩ : ∃ s, v / 2147483648 = s := ⟨_, rfl⟩
 obtain ⟨x, hx⟩ : ∃ x, v / 8388608 % 256 = x := ⟨_, rfl⟩
 obtain ⟨m, hm⟩ : ∃ m, v % 8388608 = m := ⟨_, rfl⟩
 have hs1 : s ≤ 1 := by omega
 have hx1 : x ≤ 255 := by omega
 have hm1 : m < 8388608 := by omega
 have W := Hh (show widen8 v = (if x = 255 then s * 9223372036854775808 + 9218868437227405312 + m * 536870912
  else if x = 0 then (if m = 0 then s * 9223372036854775808 else s * 9223372036854775808 + (874 + m.log2) * 4503599627370496 + (m * 2 ^ (52 - m.log2) - 4503599627370496))
  else s * 9223372036854775808 + (x + 896) * 4503599627370496 + m * 536870912) by rw [widen8, hs, hx, hm])
 rw [hm] at A1;rw [hx] at A2;have S1 : (v : Int) / 2147483648 = (s : Int) := by omega
 have S2 : (v : Int) / 8388608 = (u : Int) := by omega
 have K1 : IntKind.i64.wrap (u : Int) = (u : Int) := IntWalk.i64_in _ (by omega);have HX := Hh (And.intro hs1 (And.intro hx1 hm1));obtain ⟨S, hS⟩ : ∃ S, s * 9223372036854775808 = S := ⟨_, rfl⟩
 have KS : IntKind.u64.wrap ((s : Int) * 9223372036854775808) = (S : Int) := by rw [IntWalk.u64_in _ (by omega)]; omega
 rw [hS] at W;have HS := Hh hS;have HXU := Hh (show s ≤ 1 ∧ x ≤ 255 ∧ m < 8388608 from ⟨hs1, hx1, hm1⟩);clear hs hx hm hv hu hur hS HX
 by_cases h31 : x = 255
 ·subst h31;obtain ⟨M, hM⟩ : ∃ M, m * 536870912 = M := ⟨_, rfl⟩
  have KM : IntKind.u64.wrap ((m : Int) * 536870912) = (M : Int) := by rw [IntWalk.u64_in _ (by omega)]; omega
  have O2 : Hid (bits .or .u64 (bits .or .u64 (S : Int) 9218868437227405312) (M : Int) = ((S + 2047 * 4503599627370496 + M : Nat) : Int)) := or_fld2 (s := s) HS.out hs1 (by omega) (by omega) rfl;have WW : Hid (widen8 v = S + 2047 * 4503599627370496 + M) := by rw [Hid, W.out, if_pos rfl, hM]
  clear W hs1 hx1 hm1 hM;go_enter Tryz.func51, Tryz.ntmps51
  go_wp2_with fail
  go_ret
  exact ⟨by rw [WW.out, ← O2.out]; rfl, rfl⟩
 have x31 : ((x : Int) == 255) = false := by simp; omega
 have x31' : ((x : Int) = 255) = False := eq_false (by omega)
 by_cases h0 : x = 0
 ·subst h0
  by_cases hm0 : m = 0
  ·subst hm0;have WW : Hid (widen8 v = S) := by rw [Hid, W.out, if_neg (by omega), if_pos rfl, if_pos rfl]
   clear W hs1 hx1 hm1;go_enter Tryz.func51, Tryz.ntmps51
   go_wp2_with fail
   go_ret
   exact ⟨by rw [WW.out]; try rfl, rfl⟩
  ·have m0 : ((m : Int) == 0) = false := by simp; omega
   have m0' : ((m : Int) = 0) = False := eq_false (by omega);have hlog : m.log2 ≤ 22 := by have := (Nat.log2_lt hm0).2 (show m < 2 ^ 23 by omega); omega
   have WW : Hid (widen8 v = S + (874 + m.log2) * 4503599627370496 + (m * 2 ^ (52 - m.log2) - 4503599627370496)) := by rw [Hid, W.out, if_neg (by omega), if_pos rfl, if_neg hm0]
   have HM := Hh (And.intro hm0 (And.intro hm1 hlog));clear W hs1 hx1 hm1 hm0 hlog;go_enter Tryz.func51, Tryz.ntmps51
   go_wp2_with fail
   go_loop [12] (fun v12 => ∃ k : Nat, k ≤ m.log2 ∧ v12 = .int .i64 (k : Int)) (fun v12 => m.log2 - (intOf v12).toNat)
   case atStart => exact ⟨0, Nat.zero_le _, rfl⟩
   case round =>
    obtain ⟨k, hk, rfl⟩ := hrel;have hk9 : (k : Int) ≤ 22 := by have := HM.out.2.2; omega
    have hk2 : (0 : Int) ≤ (k : Int) + 1 := by omega
    have hk3 : ((k : Int) + 1).toNat = k + 1 := by omega
    have hcast : (m : Int) / (2 : Int) ^ (k + 1) = ((m / 2 ^ (k + 1) : Nat) : Int) := by rw [Int.natCast_ediv, Int.natCast_pow]; rfl
    have HK := Hh hk;clear hk
    by_cases hkl : k < m.log2
    ·have ht : (0 : Int) < (m : Int) / (2 : Int) ^ (k + 1) := by
      rw [hcast];have h1 : 2 ^ (k + 1) ≤ m := Nat.le_trans (Nat.pow_le_pow_right (by omega) hkl) (Nat.log2_self_le HM.out.1);have := Nat.div_pos h1 (Nat.two_pow_pos _)
      omega
     clear hcast;have HKL := Hh hkl;clear hkl;go_wp2_with fail
     go_round
     case rel => exact ⟨k + 1, HKL.out, by go_num⟩
     case measure => have := HKL.out; simp [intOf]; omega
    ·have hke : k = m.log2 := by have := HK.out; omega
     have ht : ¬ ((0 : Int) < (m : Int) / (2 : Int) ^ (k + 1)) := by
      rw [hcast];have : m < 2 ^ (k + 1) := by rw [hke]; exact Nat.lt_log2_self
      rw [Nat.div_eq_of_lt this]; simp
     clear hcast;have HKE := Hh hke;clear hkl hke;go_wp2_with fail
     go_ret
     obtain ⟨B1, B2⟩ := sub_and HM.out.1 HKE.out (by have := HM.out.2.1; omega);have O3 := or_fld2 (S := S) (s := s) (y := 874 + k) (Y := ((k : Int) + 1 - 127 - 23 + 1023) * 4503599627370496) HS.out HXU.out.1 (by omega) B2 (by omega);rw [← B1] at O3
     refine ⟨?_, rfl⟩
     rw [WW.out, ← HKE.out, ← O3];rfl
 ·have x0 : ((x : Int) == 0) = false := by simp; omega
  have x0' : ((x : Int) = 0) = False := eq_false (by omega);obtain ⟨M, hM⟩ : ∃ M, m * 536870912 = M := ⟨_, rfl⟩
  have KM : IntKind.u64.wrap ((m : Int) * 536870912) = (M : Int) := by rw [IntWalk.u64_in _ (by omega)]; omega
  have O2 : Hid (bits .or .u64 (bits .or .u64 (S : Int) (((x : Int) - 127 + 1023) * 4503599627370496)) (M : Int) = ((S + (x + 896) * 4503599627370496 + M : Nat) : Int)) := or_fld2 (s := s) HS.out hs1 (by omega) (by omega) (by omega);have WW : Hid (widen8 v = S + (x + 896) * 4503599627370496 + M) := by rw [Hid, W.out, if_neg h31, if_neg h0, hM]
  have hxi : (x : Int) ≤ 255 := by omega
  clear W hs1 hx1 hm1 hM h31 h0;go_enter Tryz.func51, Tryz.ntmps51
  go_wp2_with fail
  go_ret
  refine ⟨?_, rfl⟩
  rw [WW.out, ← O2.out];rfl
theorem r_number {w : World} {g : Nat} {H : Snap} {A : Option Addr} {c : Nat} {l : List UInt8} {p cnt : Nat} (hP : Psr 97 w g H A c l p cnt) (z : Nat) (hz1 : 1 ≤ z) (hz8 : z ≤ 8) :
  Calls Tryz.prog 75 #[.pointer (some ⟨g, 0, none⟩), .int .i64 (z : Int)] w (NumSaid 97 w g A c l p cnt z) := by
 have hB := hP.blk;have c0 := hB.cell 0 rfl;have c1 := hB.cell 1 rfl;have HP := Hh hP;have hpl := hP.le;have hsm := hP.small;have hcl := hP.bytes.le;have hcm := hP.bytes.max;have HZ := Hh (And.intro hz1 hz8);have hzi : (z : Int) ≤ 8 := by omega
 have hpi : (p : Int) ≤ (l.length : Int) := by omega
 have hli : (l.length : Int) ≤ 4096 := by omega
 have K0 : IntKind.i64.wrap ((l.length : Int) - (p : Int)) = (l.length : Int) - (p : Int) := IntWalk.i64_in _ (by omega)
 by_cases hlt : l.length < p + z
 ·have z0 : (l.length : Int) - (p : Int) < (z : Int) := by omega
  have HL := Hh hlt;clear hz1 hz8 hpl hsm hcl hcm hP hlt;go_enter Tryz.func75, Tryz.ntmps75
  go_wp2_with fail
  go_big_quiet (fail)
  go_wp2_with fail
  go_ret2
  exact .inl ⟨HL.out, rfl, hB, grown_drewN (grown_refl w _) _⟩
 ·have z0 : ¬ ((l.length : Int) - (p : Int) < (z : Int)) := by omega
  have z0b : decide ((l.length : Int) - (p : Int) < (z : Int)) = false := decide_eq_false z0;obtain ⟨b, off, rfl, hcell⟩ := hP.bytes.at_ (by omega);have HC := Hh hcell;have HH := Hh hP.holds;have HL := Hh (And.intro (Nat.not_lt.1 hlt) (And.intro hsm hcl));clear hz1 hz8 hpl hsm hcl hcm hP hcell hlt;go_enter Tryz.func75, Tryz.ntmps75
  go_wp2_with fail
  go_big_quiet (fail)
  obtain ⟨W, hW⟩ : ∃ W, w.drewN nq = W := ⟨_, rfl⟩
  have hBW : Blk W g 97 (psrC (some ⟨b, off, none⟩) l.length c p cnt) := hW ▸ hB;have hGW : w.grownBy W (some g) := hW ▸ grown_drewN (grown_refl w _) _;have hHW : Holds W H := hW ▸ HH.out;rw [hW];clear hW c0 c1 hB K0;go_wp2_with fail
  have E : Hid ((l.drop p).length = l.length - p) := List.length_drop;go_loopw [6, 20] (fun v6 v20 wr => ∃ k : Nat, k ≤ z ∧ v20 = .int .i64 (k : Int) ∧ v6 = .int .u64 (beN ((l.drop p).take k) : Int) ∧ Blk wr g 97 (psrC (some ⟨b, off, none⟩) l.length c (p + k) cnt) ∧ w.grownBy wr (some g) ∧ Holds wr H) (fun _ v20 _ => z - (intOf v20).toNat)
  case atStart => exact ⟨0, Nat.zero_le _, rfl, rfl, hBW, hGW, hHW⟩
  case round =>
   clear hBW hGW hHW;obtain ⟨k, hk, rfl, rfl, hBr, hGr, hHr⟩ := hrel
   by_cases hkz : k < z
   ·have hkl : p + k < l.length := by have := HL.out.1; omega
    have hkz2 : (k : Int) < (z : Int) := by omega
    have hkd : k < (l.drop p).length := by have := E.out; omega
    have q0 := hHr.cell (HC.out (p + k) hkl);have ex : (l.drop p)[k] = l[p + k] := by rw [List.getElem_drop]
    have hX := beN_take_lt (l.drop p) k (by have := HZ.out; omega);have hS := beN_take (l.drop p) k hkd;rw [ex] at hS;obtain ⟨X, hXX⟩ : ∃ X, beN ((l.drop p).take k) = X := ⟨_, rfl⟩
    obtain ⟨ch, hch⟩ : ∃ ch, l[p + k] = ch := ⟨_, rfl⟩
    rw [hXX] at hX hS ⊢;rw [hch] at hS q0;obtain ⟨P, hPP⟩ : ∃ P, p + k = P := ⟨_, rfl⟩
    rw [hPP] at q0 hBr hkl;have lc := ch.toNat_lt;have K2 : IntKind.u64.wrap ((X : Int) * 256) = (X : Int) * 256 := by rw [IntKind.wrap_u64]; omega
    have K3 : bits .or .u64 ((X : Int) * 256) (ch.toNat : Int) = ((X * 256 + ch.toNat : Nat) : Int) := u64_or_byte X _ hX lc;have HS := Hh hS;have HPP := Hh hPP;have hPi : (P : Int) < (l.length : Int) := by omega
    have hP0 : (0 : Int) ≤ (P : Int) := by omega
    have K4 : IntKind.i64.wrap ((P : Int) + 1) = (P : Int) + 1 := IntWalk.i64_in _ (by omega);have hk1 : (k : Int) + 1 ≤ 9223372036854775807 := by have := HZ.out; omega
    have c0 := hBr.cell 0 rfl;have c1 := hBr.cell 1 rfl;clear hX hS hXX hch ex hkd hPP hkl;go_wp2_with fail
    go_big_quiet (fail)
    obtain ⟨W2, hW2⟩ : ∃ W2, wr.drewN nq = W2 := ⟨_, rfl⟩
    have hB2 : Blk W2 g 97 (psrC (some ⟨b, off, none⟩) l.length c P cnt) := hW2 ▸ hBr;have hG2 : w.grownBy W2 (some g) := hW2 ▸ grown_drewN hGr _;have hH2 : Holds W2 H := hW2 ▸ hHr;rw [hW2];clear hW2 c0 c1 hBr hGr hHr q0;have c1 := hB2.cell 1 rfl;go_wp2_with (with_reducible refine stop_store ?_)
    refine wpList_store_cell rfl _ _ _ rfl rfl g 1 (.int .i64 ((P : Int) + 1)) rfl rfl _ _ hB2 size_int1 (by simp) rfl fun w3 hB3 hG3 => ?_
    have hG4 := grown_step hG2 hG3 (.inl rfl);have hH3 : Holds w3 H := hH2.grown hG3 (by rintro q ⟨⟩; exact HP.out.apart)
    have hB4 : Blk w3 g 97 (psrC (some ⟨b, off, none⟩) l.length c (p + (k + 1)) cnt) := by
     have e : ((p + (k + 1) : Nat) : Int) = (P : Int) + 1 := by have := HPP.out; omega
     rw [psrC, e]
     exact hB3
    clear hB3 hG3 hB2 hG2 hH2 c1 K4;go_wp2_with fail
    go_roundw
    case rel => exact ⟨k + 1, by omega, by go_num, by rw [HS.out, Int.natCast_add, Int.natCast_mul]; rfl, hB4, hG4, hH3⟩
    case measure => simp [intOf]; omega
   ·have hkk : k = z := by omega
    subst hkk;have hnl : ¬ ((k : Int) < (k : Int)) := by omega
    obtain ⟨X, hXX⟩ : ∃ X, beN ((l.drop p).take k) = X := ⟨_, rfl⟩
    rw [hXX];have HX := Hh hXX;clear hXX;go_wp2_with fail
    go_ret2
    exact .inr ⟨HL.out.1, by rw [HX.out]; rfl, hBr, hGr⟩
end Go.Proofs.YtlebpackbfcfeaaGreatDoor
