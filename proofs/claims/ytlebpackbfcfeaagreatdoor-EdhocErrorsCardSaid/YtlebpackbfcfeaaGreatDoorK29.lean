/- squeezed. Walks: the reference's Prefix, by  -/
import Derived.Test.YtlebpackbfcfeaaGreatDoorK28
set_option linter.unusedVariables false
set_option linter.unusedSimpArgs false
set_option maxRecDepth 100000
set_option maxHeartbeats 6400000
namespace Go.Proofs.YtlebpackbfcfeaaGreatDoor
open Go.RowKit
def RItem (d : Nat) : Prop := ∀ (w : World) (H : Snap) (g : Nat) (A : Option Addr) (c : Nat) (l : List UInt8) (p cnt lv : Nat), Tabs H → lv + d = 8 → Psr 97 w g H A c l p cnt →
 Calls Tryz.prog 61 #[.pointer (some ⟨g, 0, none⟩), .int .i64 (lv : Int)] w (ItemOut 97 w H g A c l p (parse d (l.drop p) cnt))
theorem ref_Prefix_of (hI : ∀ d, RItem d) {H : Snap} (hTab : Tabs H) (w : World) (hH : Holds w H) {A : Option Addr} {n c : Nat} {l : List UInt8} (hn : n = l.length) (hl : IsBytes H A c l) :
  Calls Tryz.prog 38 #[.slice A n c] w (PrefixOut w H l) := by
 have hlm := hl.le;have hcm := hl.max;obtain ⟨m, hm⟩ : ∃ m, min n 4096 = m := ⟨_, rfl⟩
 have hmi : min (n : Int) 4096 = (m : Int) := by omega
 have m1 : (m : Int) ≤ (c : Int) := by omega
 have m0 : (0 : Int) ≤ (m : Int) := by omega
 have hml : (l.take 4096).length = m := by rw [List.length_take]; omega
 have hHN := Hh (And.intro hn (And.intro hm hml));clear hn hm hml hlm;go_enter Tryz.func38, Tryz.ntmps38
 go_wp2_with fail
 have e1 : (w.alloc zeroO).heap.size = w.heap.size + 1 := by go_simp
 have hT := (Blk.new w 31 #[.int .i64 0, .int .u64 0, .slice none 0 0, .slice none 0 0]).alloc (.cells #[.slice A m c, .int .i64 0, .int .i64 0] 97);have hB := Blk.new (w.alloc zeroO) 97 #[.slice A m c, .int .i64 0, .int .i64 0];have hG2 := ((Grows.refl hH).alloc zeroO).alloc (.cells #[.slice A m c, .int .i64 0, .int .i64 0] 97);rw [e1] at hB;have hB2 : Blk ((w.alloc zeroO).alloc (.cells #[.slice A m c, .int .i64 0, .int .i64 0] 97)) (w.heap.size + 1) 97 #[.slice A m c, .int .i64 0, .int .i64 0] := hB;have hT2 : Blk ((w.alloc zeroO).alloc (.cells #[.slice A m c, .int .i64 0, .int .i64 0] 97)) w.heap.size 31 #[.int .i64 0, .int .u64 0, .slice none 0 0, .slice none 0 0] := hT;clear hT hB
 generalize (w.alloc zeroO).alloc (.cells #[.slice A m c, .int .i64 0, .int .i64 0] 97) = w2 at hB2 hG2 hT2 ⊢
 have hz1 : w.heap.size + 1 < w2.heap.size := hB2.lt;have hn0 : H w.heap.size = none := hH.none_of_ge (by omega);have hn1 : H (w.heap.size + 1) = none := hH.none_of_ge (by omega)
 have hPs : Psr 97 w2 (w.heap.size + 1) H A c (l.take 4096) 0 0 :=
  ⟨by obtain ⟨_, _, hml⟩ := hHN.out; rw [hml]; exact hB2, hl.take 4096, hG2.holds, hn1, by omega, by rw [List.length_take]; omega, by omega⟩
 have C0 : (Calls Tryz.prog 61 #[.pointer (some ⟨w.heap.size + 1, 0, none⟩), .int .i64 0] w2 (ItemOut 97 w2 H (w.heap.size + 1) A c (l.take 4096) 0 (prefixP l))) :=
  (hI 8 w2 H (w.heap.size + 1) A c (l.take 4096) 0 0 0 hTab (by omega) hPs)
 have C := Hh C0;clear hPs C0
 refine C.out.mono ?_
 rintro e w3 hout
 clear C
 cases hr : prefixP l with
 | err q =>
  rw [hr, ItemOut] at hout;obtain ⟨rfl, H', p', cnt', hd⟩ := hout;have hr' := Hh hr;clear hr;have hT3 := hT2.rdg hd (by omega);have hG3 := hG2.trans_but hd.grows (by omega);go_wp2_with (with_reducible refine stop_store ?_)
  unfold Stopped
  have hz3 : w.heap.size + 1 < w3.heap.size := hd.psr.gt;have hN := Blk.new w3 31 #[.int .i64 0, .int .u64 0, .slice none 0 0, .slice none 0 0];have hT4 : Blk (w3.alloc zeroO) w.heap.size 31 #[.int .i64 0, .int .u64 0, .slice none 0 0, .slice none 0 0] := hT3.alloc _;have hG4 := hG3.alloc zeroO;have hk3 : H' w3.heap.size = none := hG3.holds.none_of_ge (by omega);have hk0 : H' w.heap.size = none := hd.hid hn0 hT2.lt;have hN' : Blk (w3.alloc zeroO) w3.heap.size 31 #[.int .i64 0, .int .u64 0, .slice none 0 0, .slice none 0 0] := hN;clear hN hT3
  generalize w3.alloc zeroO = w4 at hN' hT4 hG4 ⊢
  refine stI hN' fun w5 hT5 hg5 => ?_
  have hT6 := hT4.gr hg5 (by omega);have hG6 := hG4.grownOwn hk3 (by omega) hg5;clear hT4 hG4 hN';have hq0 : ((q : Int) != 0) = true := by rw [bne_iff_ne]; have := parse_err _ _ _ _ hr'.out; omega
  have hq0' : ((q : Int) = 0) = False := eq_false (by have := parse_err _ _ _ _ hr'.out; omega);go_wp2_with (with_reducible refine stop_store ?_)
  refine stI hT6 fun w7 hT7 hg7 => ?_
  have hG7 := hG6.grownOwn hk0 (by omega) hg7;go_wp2_with fail
  refine ret_row_tmp2 rfl rfl hT7 rfl rfl size_item rfl ?_
  unfold PrefixOut
  rw [hr'.out]
  exact ⟨rfl, hG7.below⟩
 | ok x k cc =>
  rw [hr, ItemOut, Nat.zero_add] at hout;obtain ⟨ja, jb, jc, jd, H', rfl, hd, hi⟩ := hout;have hr' := Hh hr;clear hr;have hT3 := hT2.rdg hd (by omega);have hG3 := hG2.trans_but hd.grows (by omega)
  have hB3 : Blk w3 (w.heap.size + 1) 97 #[.slice A m c, .int .i64 (k : Int), .int .i64 (cc : Int)] := by
   have := hd.psr.blk; obtain ⟨_, _, hml⟩ := hHN.out; rw [hml] at this; exact this
  go_wp2_with (with_reducible refine stop_store ?_)
  unfold Stopped
  have hz3 : w.heap.size + 1 < w3.heap.size := hd.psr.gt;have hN := Blk.new w3 31 #[.int .i64 0, .int .u64 0, .slice none 0 0, .slice none 0 0];have hT4 : Blk (w3.alloc zeroO) w.heap.size 31 #[.int .i64 0, .int .u64 0, .slice none 0 0, .slice none 0 0] := hT3.alloc _;have hB4 : Blk (w3.alloc zeroO) (w.heap.size + 1) 97 #[.slice A m c, .int .i64 (k : Int), .int .i64 (cc : Int)] := hB3.alloc _;have hG4 := hG3.alloc zeroO;have hk3 : H' w3.heap.size = none := hG3.holds.none_of_ge (by omega);have hk0 : H' w.heap.size = none := hd.hid hn0 hT2.lt;have hN' : Blk (w3.alloc zeroO) w3.heap.size 31 #[.int .i64 0, .int .u64 0, .slice none 0 0, .slice none 0 0] := hN;clear hN hT3 hB3
  generalize w3.alloc zeroO = w4 at hN' hT4 hG4 hB4 ⊢
  refine stI hN' fun w5 hT5 hg5 => ?_
  have hT6 := hT4.gr hg5 (by omega);have hB6 := hB4.gr hg5 (by omega);have hG6 := hG4.grownOwn hk3 (by omega) hg5;clear hT4 hG4 hN' hB4;go_upto_region 5 with fail
  have hT6 := hT6.drew;have hT5 := hT5.drew;have hB6 := hB6.drew;have hG6 := hG6.drew
  refine wp_region_ways 7 (fun w' => w'.cell? ⟨w3.heap.size, 0, none⟩ = some (.int .i64 x.kind) ∧ w'.cell? ⟨w3.heap.size, 1, none⟩ = some (.int .u64 x.n) ∧ w'.cell? ⟨w3.heap.size, 2, none⟩ = some (.slice ja x.bytes.length jb) ∧ w'.cell? ⟨w3.heap.size, 3, none⟩ = some (.slice jc x.items.length jd) ∧ w'.cell? ⟨w.heap.size + 1, 1, none⟩ = some (.int .i64 (k : Int))) (by kernel_rfl) (⟨hT5.cell 0 rfl, hT5.cell 1 rfl, hT5.cell 2 rfl, hT5.cell 3 rfl, hB6.cell 1 rfl⟩) (fun hHeld => ?_)
  refine Tk 0 rfl hHeld ?_
  refine Tk 1 rfl hHeld ?_
  refine Tk 2 rfl hHeld ?_
  refine Tk 3 rfl hHeld ?_
  refine Tk 4 rfl hHeld ?_
  refine To 5 rfl fun K hK => ?_
  refine wp_store_item _ _ _ rfl _ _ rfl rfl _ _ hT6 size_item rfl (one4 _ _ _ _ rfl rfl rfl rfl) fun w7 hT7 hg7 => ?_
  have hT5 := hT5.gr hg7 (by omega);have hB6 := hB6.gr hg7 (by omega);have hG7 := hG6.grownOwn hk0 (by omega) hg7;go_simp
  refine hK.out _ _ (fun _ => ?_) (fun hHeld => ?_)
  ·exact ⟨hT5.cell 0 rfl, hT5.cell 1 rfl, hT5.cell 2 rfl, hT5.cell 3 rfl, hB6.cell 1 rfl⟩
  clear hK K;have hHeld := hHeld (by decide)
  try simp only [Act.put, zz1, zz2, zz3, zz4, zz5, zz6]
  refine Tk 6 rfl hHeld ?_
  refine To 7 rfl fun K hK => ?_
  go_simp
  refine hK.out _ _ (fun h => absurd rfl h) (fun _ => ?_)
  clear hK K
  try simp only [Act.put, zz1, zz2, zz3, zz4, zz5, zz6]
  refine Ways.done (by kernel_rfl) ?_
  go_wp2_with fail
  refine ret_row_tmp2 rfl rfl hT7 rfl rfl size_item rfl ?_
  unfold PrefixOut
  rw [hr'.out]
  exact ⟨ja, jb, jc, jd, H', rfl, hG7, hi⟩
end Go.Proofs.YtlebpackbfcfeaaGreatDoor
