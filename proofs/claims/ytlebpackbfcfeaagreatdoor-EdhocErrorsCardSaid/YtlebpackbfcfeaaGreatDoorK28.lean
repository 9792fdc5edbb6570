/- squeezed. Walks: the program's Decode. -/
import Derived.Test.YtlebpackbfcfeaaGreatDoorK27
set_option linter.unusedVariables false
set_option linter.unusedSimpArgs false
set_option maxRecDepth 100000
set_option maxHeartbeats 6400000
namespace Go.Proofs.YtlebpackbfcfeaaGreatDoor
open Go.RowKit
def DecodeOut (w : World) (H : Snap) (l : List UInt8) (e : Ending) (w' : World) : Prop :=
 match decodeP l with
 | .error q => e = .returned (.tuple #[zeroV, .int .i64 (q : Int)]) ∧ Below w.heap.size w w'
 | .ok x => ∃ ja jb jc jd H', e = .returned (.tuple #[itemV x ja jb jc jd, .int .i64 0]) ∧ Grows w H w' H' ∧ IsItem H' ja jb jc jd x
theorem cbor_Decode {H : Snap} (hTab : Tabs H) (w : World) (hH : Holds w H) {A : Option Addr} {n c : Nat} {l : List UInt8} (hn : n = l.length) (hl : IsBytes H A c l) :
  Calls Tryz.prog 37 #[.slice A n c] w (DecodeOut w H l) := by
 have hT := Blk.new w 31 #[.int .i64 0, .int .u64 0, .slice none 0 0, .slice none 0 0];have hG := (Grows.refl hH).alloc zeroO;have hT0 : Blk (w.alloc zeroO) w.heap.size 31 #[.int .i64 0, .int .u64 0, .slice none 0 0, .slice none 0 0] := hT;have hn0 : H w.heap.size = none := hH.none_of_ge (by omega);clear hT;have hHN := Hh hn;have C := fun w1 h1 => Hh (cbor_Prefix hTab w1 h1 hn hl)
 clear hn
 by_cases hbig : 4096 < n
 ·have b1 : decide ((n : Int) > 4096) = true := by rw [decide_eq_true_eq]; omega
  have b2 : decide ((4096 : Int) < n) = true := by rw [decide_eq_true_eq]; omega
  have hd : decodeP l = .error 8 := by have := hHN.out; rw [decodeP, if_pos (by omega)]
  have hd' := Hh hd;clear hd C;go_enter Tryz.func37, Tryz.ntmps37
  go_wp2_with (with_reducible refine stop_store ?_)
  unfold Stopped
  generalize w.alloc zeroO = w1 at hT0 hG ⊢
  refine stI hT0 fun w7 hT7 hg7 => ?_
  have hG7 := hG.grownOwn hn0 (by omega) hg7;go_wp2_with fail
  refine ret_row_tmp rfl rfl hT7 rfl rfl size_item rfl ?_
  unfold DecodeOut
  rw [hd'.out]
  exact ⟨rfl, hG7.below⟩
 ·have b1 : decide ((n : Int) > 4096) = false := by rw [decide_eq_false_iff_not]; omega
  have b2 : decide ((4096 : Int) < n) = false := by rw [decide_eq_false_iff_not]; omega
  have hbig' := Hh hbig;clear hbig;go_enter Tryz.func37, Tryz.ntmps37
  go_wp2_with fail
  have hz1 : w.heap.size < (w.alloc zeroO).heap.size := hT0.lt
  generalize w.alloc zeroO = w1 at hT0 hG hz1 ⊢
  refine (C w1 hG.holds).out.mono ?_
  rintro e w3 hout
  unfold PrefixOut at hout
  cases hr : prefixP l with
  | err q =>
   rw [hr] at hout;obtain ⟨rfl, hb⟩ := hout;have hr' := Hh hr;have hd' := Hh (show decodeP l = .error q by have := hHN.out; have := hbig'.out; rw [decodeP, if_neg (by omega), hr]);clear hr;have hT3 := hT0.below hb;obtain ⟨H', hH'⟩ : ∃ H', H' = H := ⟨_, rfl⟩
   have hG3 : Grows w H w3 H' := by rw [hH']; exact hG.trans (Grows.of_below hG.holds hb)
   have hk0 : H' w.heap.size = none := by rw [hH']; exact hn0
   clear hH';have hq0 : ((q : Int) != 0) = true := by rw [bne_iff_ne]; have := parse_err _ _ _ _ hr'.out; omega
   have hq0' : ((q : Int) = 0) = False := eq_false (by have := parse_err _ _ _ _ hr'.out; omega);go_wp2_with (with_reducible refine stop_store ?_)
   unfold Stopped
   have hz3 : w.heap.size < w3.heap.size := hT3.lt;have hN := Blk.new w3 31 #[.int .i64 0, .int .u64 0, .slice none 0 0, .slice none 0 0];have hT4 : Blk (w3.alloc zeroO) w.heap.size 31 #[.int .i64 0, .int .u64 0, .slice none 0 0, .slice none 0 0] := hT3.alloc _;have hG4 := hG3.alloc zeroO;have hk3 : H' w3.heap.size = none := hG3.holds.none_of_ge (by omega);have hN' : Blk (w3.alloc zeroO) w3.heap.size 31 #[.int .i64 0, .int .u64 0, .slice none 0 0, .slice none 0 0] := hN;clear hN hT3
   generalize w3.alloc zeroO = w4 at hN' hT4 hG4 ⊢
   refine stI hN' fun w5 hT5 hg5 => ?_
   have hT6 := hT4.gr hg5 (by omega);have hG6 := hG4.grownOwn hk3 (by omega) hg5;clear hT4 hG4 hN';go_wp2_with (with_reducible refine stop_store ?_)
   refine stI hT6 fun w7 hT7 hg7 => ?_
   have hG7 := hG6.grownOwn hk0 (by omega) hg7;go_wp2_with fail
   refine ret_row_tmp rfl rfl hT7 rfl rfl size_item rfl ?_
   unfold DecodeOut
   rw [hd'.out]
   exact ⟨rfl, hG7.below⟩
  | ok x k cc =>
   rw [hr] at hout;obtain ⟨ja, jb, jc, jd, H', rfl, hg, hi⟩ := hout;have hr' := Hh hr;clear hr;have hT3 := hT0.below hg.below;have hG3 : Grows w H w3 H' := hG.trans hg;have hk0 : H' w.heap.size = none := hg.none hn0 hT0.lt
   by_cases hk : k < n
   ·have hd' := Hh (show decodeP l = .error 9 by have := hHN.out; have := hbig'.out; rw [decodeP, if_neg (by omega), hr'.out]; simp only; rw [if_pos (by omega)]);have k1 : decide ((k : Int) < n) = true := by rw [decide_eq_true_eq]; omega
    have k2 : (k < n) = True := eq_true hk;clear hk;go_wp2_with (with_reducible refine stop_store ?_)
    unfold Stopped
    have hz3 : w.heap.size < w3.heap.size := hT3.lt;have hN := Blk.new w3 31 #[.int .i64 0, .int .u64 0, .slice none 0 0, .slice none 0 0];have hT4 : Blk (w3.alloc zeroO) w.heap.size 31 #[.int .i64 0, .int .u64 0, .slice none 0 0, .slice none 0 0] := hT3.alloc _;have hG4 := hG3.alloc zeroO;have hk3 : H' w3.heap.size = none := hG3.holds.none_of_ge (by omega);have hN' : Blk (w3.alloc zeroO) w3.heap.size 31 #[.int .i64 0, .int .u64 0, .slice none 0 0, .slice none 0 0] := hN;clear hN hT3
    generalize w3.alloc zeroO = w4 at hN' hT4 hG4 ⊢
    refine stI hN' fun w5 hT5 hg5 => ?_
    have hT6 := hT4.gr hg5 (by omega);have hG6 := hG4.grownOwn hk3 (by omega) hg5;clear hT4 hG4 hN';go_wp2_with (with_reducible refine stop_store ?_)
    refine stI hT6 fun w7 hT7 hg7 => ?_
    have hG7 := hG6.grownOwn hk0 (by omega) hg7;go_wp2_with fail
    refine ret_row_tmp rfl rfl hT7 rfl rfl size_item rfl ?_
    unfold DecodeOut
    rw [hd'.out]
    exact ⟨rfl, hG7.below⟩
   ·have hd' := Hh (show decodeP l = .ok x by have := hHN.out; have := hbig'.out; rw [decodeP, if_neg (by omega), hr'.out]; simp only; rw [if_neg (by omega)]);have k1 : decide ((k : Int) < n) = false := by rw [decide_eq_false_iff_not]; omega
    have k2 : (k < n) = False := eq_false hk;clear hk;go_wp2_with (with_reducible refine stop_store ?_)
    unfold Stopped
    have hz3 : w.heap.size < w3.heap.size := hT3.lt;have hN := Blk.new w3 31 #[.int .i64 0, .int .u64 0, .slice none 0 0, .slice none 0 0];have hT4 : Blk (w3.alloc zeroO) w.heap.size 31 #[.int .i64 0, .int .u64 0, .slice none 0 0, .slice none 0 0] := hT3.alloc _;have hG4 := hG3.alloc zeroO;have hk3 : H' w3.heap.size = none := hG3.holds.none_of_ge (by omega);have hN' : Blk (w3.alloc zeroO) w3.heap.size 31 #[.int .i64 0, .int .u64 0, .slice none 0 0, .slice none 0 0] := hN;clear hN hT3
    generalize w3.alloc zeroO = w4 at hN' hT4 hG4 ⊢
    refine stI hN' fun w5 hT5 hg5 => ?_
    have hT6 := hT4.gr hg5 (by omega);have hG6 := hG4.grownOwn hk3 (by omega) hg5;clear hT4 hG4 hN';have c0 := hT5.cell 0 rfl;have c1 := hT5.cell 1 rfl;have c2 := hT5.cell 2 rfl;have c3 := hT5.cell 3 rfl;go_wp2_with (with_reducible refine stop_store ?_)
    refine stI hT6 fun w7 hT7 hg7 => ?_
    have hG7 := hG6.grownOwn hk0 (by omega) hg7;go_wp2_with fail
    refine ret_row_tmp rfl rfl hT7 rfl rfl size_item rfl ?_
    unfold DecodeOut
    rw [hd'.out]
    exact ⟨ja, jb, jc, jd, H', rfl, hG7, hi⟩
end Go.Proofs.YtlebpackbfcfeaaGreatDoor
