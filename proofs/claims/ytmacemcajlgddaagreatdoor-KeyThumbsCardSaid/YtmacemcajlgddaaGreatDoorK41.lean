/- squeezed. SHA-256: numbers of four words: po -/
import Derived.Test.YtmacemcajlgddaaGreatDoorK40
set_option linter.unusedVariables false
set_option linter.unusedSimpArgs false
set_option maxRecDepth 100000
set_option maxHeartbeats 3200000
namespace Go.Proofs.YtmacemcajlgddaaGreatDoor
open Go.RowKit
theorem sha_power {x : List Nat} (hx : x.length = 4) (hxw : W64 x) (n : Nat) (hn : n ≤ 1000) (hp : num x ^ n < 18446744073709551616 ^ 4) (w : World) :
  Calls Tryz.prog 67 #[.agg (rowN x), .int .i64 (n : Int)] w fun e w' => ∃ z, e = .returned (.agg (rowN z)) ∧ z.length = 4 ∧ W64 z ∧ num z = num x ^ n ∧ Below w.heap.size w w' := by
 have hX0 := Blk.new w 101 (rowN x);have hR0 := Blk.new (w.alloc (.cells (rowN x) 101)) 101 (rowN [0, 0, 0, 0]);have hZ0 := Blk.new ((w.alloc (.cells (rowN x) 101)).alloc (.cells (rowN [0, 0, 0, 0]) 101)) 101 (rowN [1, 0, 0, 0]);replace hX0 := (hX0.alloc (.cells (rowN [0, 0, 0, 0]) 101)).alloc (.cells (rowN [1, 0, 0, 0]) 101);replace hR0 := hR0.alloc (.cells (rowN [1, 0, 0, 0]) 101)
 simp only [size_alloc] at hR0 hZ0
 have hb0 := below_box w (.cells (rowN x) 101);have hb1 := hb0.alloc hb0.size (.cells (rowN [0, 0, 0, 0]) 101);have hb2 := hb1.alloc hb1.size (.cells (rowN [1, 0, 0, 0]) 101);have HX := Hh (And.intro hx hxw);have HP := Hh (And.intro hp hn);clear hx hxw hp hb0 hb1 hn;go_enter Tryz.func67, Tryz.ntmps67
 go_wp2_with fail
 go_loopw [8] (fun v8 wr => ∃ (k : Nat) (zs : List Nat), v8 = .int .i64 (k : Int) ∧ k ≤ n ∧ zs.length = 4 ∧ W64 zs ∧ num zs = num x ^ k ∧
   Blk wr (w.heap.size + 1 + 1) 101 (rowN zs) ∧ Blk wr w.heap.size 101 (rowN x) ∧ Blk wr (w.heap.size + 1) 101 (rowN [0, 0, 0, 0]) ∧ Below w.heap.size w wr) (fun v8 _ => (n - intOf v8).toNat)
 case atStart => exact ⟨0, [1, 0, 0, 0], rfl, by omega, rfl, by simp [W64], by simp [num], hZ0, hX0, hR0, hb2⟩
 case round =>
  clear hZ0 hX0 hR0 hb2;obtain ⟨k, zs, rfl, hkn, hzl, hzw, hQ, hZ, hX, hR, hb⟩ := hrel;obtain ⟨x0, x1, x2, x3, hx4⟩ := list4n HX.out.1;obtain ⟨z0, z1, z2, z3, hz4⟩ := list4n hzl;have HX4 := Hh hx4;have HZ4 := Hh hz4;have HZ := Hh (And.intro hzl (And.intro hzw hQ));have hX' := hX;have hZ' := hZ;rw [hx4] at hX';rw [hz4] at hZ';clear hx4 hz4 hzl hzw hQ;have c0 : wr.cell? ⟨w.heap.size + 1 + 1, 0, none⟩ = some (.int .u64 (z0 : Int)) := hZ'.cell 0 rfl;have c1 : wr.cell? ⟨w.heap.size + 1 + 1, 1, none⟩ = some (.int .u64 (z1 : Int)) := hZ'.cell 1 rfl;have c2 : wr.cell? ⟨w.heap.size + 1 + 1, 2, none⟩ = some (.int .u64 (z2 : Int)) := hZ'.cell 2 rfl;have c3 : wr.cell? ⟨w.heap.size + 1 + 1, 3, none⟩ = some (.int .u64 (z3 : Int)) := hZ'.cell 3 rfl;have d0 : wr.cell? ⟨w.heap.size, 0, none⟩ = some (.int .u64 (x0 : Int)) := hX'.cell 0 rfl;have d1 : wr.cell? ⟨w.heap.size, 1, none⟩ = some (.int .u64 (x1 : Int)) := hX'.cell 1 rfl
  have d2 : wr.cell? ⟨w.heap.size, 2, none⟩ = some (.int .u64 (x2 : Int)) := hX'.cell 2 rfl;have d3 : wr.cell? ⟨w.heap.size, 3, none⟩ = some (.int .u64 (x3 : Int)) := hX'.cell 3 rfl;clear hX' hZ'
  by_cases hlt : (k : Int) < (n : Int)
  ·have T : Hid (Calls Tryz.prog 101 #[.agg #[.int .u64 (z0 : Int), .int .u64 (z1 : Int), .int .u64 (z2 : Int), .int .u64 (z3 : Int)], .agg #[.int .u64 (x0 : Int), .int .u64 (x1 : Int), .int .u64 (x2 : Int), .int .u64 (x3 : Int)]] wr fun e w' => e = .returned (.agg (rowN (mulRows zs x [0, 0, 0, 0]))) ∧ Below wr.heap.size wr w') := by
    have h := sha_times HZ.out.1 HX.out.1 HZ.out.2.1 HX.out.2 wr;rw [HZ4.out, HX4.out] at h ⊢
    exact h
   have HLT := Hh hlt;have hk1 : IntKind.i64.wrap ((k : Int) + 1) = (k : Int) + 1 := IntWalk.i64_in _ (by have := HP.out.2; omega);clear hkn;go_wp2_with fail
   refine T.out.mono ?_
   rintro e w2 ⟨rfl, hb2⟩
   have hZ2 := hZ.below hb2;have hX2 := hX.below hb2;have hR2 := hR.below hb2;have hbb := hb.trans (hb2.mono hb.size);clear c0 c1 c2 c3 d0 d1 d2 d3 hZ hX hR hb hb2 T;go_wp2_with (with_reducible refine stop_store ?_)
   refine wpList_store_item rfl _ _ _ rfl rfl (w.heap.size + 1 + 1) (rowN (mulRows zs x [0, 0, 0, 0])) rfl rfl _ _ hZ2 (by rw [rowN_size, (mulRows4 HZ.out.1 HX.out.1).1]; exact size_w4) (by rw [rowN_size, rowN_size, HZ.out.1, (mulRows4 HZ.out.1 HX.out.1).1]) (rowN_one _) fun w9 hZ9 hg9 => ?_
   have hX9 := hX2.grown hg9 (by intro hc; injection hc; omega);have hR9 := hR2.grown hg9 (by intro hc; injection hc; omega);have hb9 := hbb.grown hg9 hbb.size (by rintro q ⟨⟩; omega)
   have HN : Hid ((mulRows zs x [0, 0, 0, 0]).length = 4 ∧ W64 (mulRows zs x [0, 0, 0, 0]) ∧ num (mulRows zs x [0, 0, 0, 0]) = num x ^ (k + 1)) := by
    have h := mulRows4 HZ.out.1 HX.out.1
    refine ⟨h.1, h.2.1, ?_⟩
    have e : num zs * num x = num x ^ (k + 1) := by rw [HZ.out.2.2, Nat.pow_succ]
    rw [← e]
    exact h.2.2 (by rw [e]; exact pow_le_of (by have := HLT.out; omega) HP.out.1 (by omega))
   clear hX2 hR2 hbb hZ2 hg9;go_wp2_with fail
   go_roundw
   case rel => exact ⟨k + 1, _, by go_num, by have := HLT.out; omega, HN.out.1, HN.out.2.1, HN.out.2.2, hZ9, hX9, hR9, hb9⟩
   case measure => have := HLT.out; simp [intOf]; omega
  ·have hE : k = n := by omega
   have HE := Hh hE;clear hE hkn;go_wp2_with (with_reducible refine stop_store ?_)
   refine wpList_store_item rfl _ _ _ rfl rfl (w.heap.size + 1) (rowN [z0, z1, z2, z3]) rfl rfl _ _ hR size_w4 rfl (rowN_one _) fun wz hRz hgz => ?_
   have hbz := hb.grown hgz hb.size (by rintro q ⟨⟩; omega);clear c0 c1 c2 c3 d0 d1 d2 d3;go_wp2_with fail
   refine ret_row rfl rfl hRz rfl rfl size_w4 rfl ?_
   exact ⟨zs, by rw [HZ4.out], HZ.out.1, HZ.out.2.1, by rw [HZ.out.2.2, HE.out], hbz⟩
theorem sha_less {x y : List Nat} (hx : x.length = 4) (hy : y.length = 4) (hxw : W64 x) (hyw : W64 y) (w : World) :
  Calls Tryz.prog 68 #[.agg (rowN x), .agg (rowN y)] w fun e w' => e = .returned (.bool (decide (num x < num y))) ∧ Below w.heap.size w w' := by
 have hX0 := Blk.new w 101 (rowN x);have hY0 := Blk.new (w.alloc (.cells (rowN x) 101)) 101 (rowN y);replace hX0 := hX0.alloc (.cells (rowN y) 101)
 simp only [size_alloc] at hY0
 have hb0 := below_box w (.cells (rowN x) 101);have hb1 := hb0.alloc hb0.size (.cells (rowN y) 101);have HL := Hh (And.intro hx hy);have HW := Hh (And.intro hxw hyw);have HD0 : x.drop 4 = y.drop 4 := by rw [List.drop_of_length_le (by omega), List.drop_of_length_le (by omega)]
 have HD := Hh HD0;clear hx hy hxw hyw hb0 HD0;go_enter Tryz.func68, Tryz.ntmps68
 go_wp2_with fail
 go_loopw [5] (fun v5 wr => ∃ k : Nat, v5 = .int .i64 ((k : Int) - 1) ∧ k ≤ 4 ∧ x.drop k = y.drop k ∧ Blk wr w.heap.size 101 (rowN x) ∧ Blk wr (w.heap.size + 1) 101 (rowN y) ∧ Below w.heap.size w wr) (fun v5 _ => (intOf v5 + 1).toNat)
 case atStart => exact ⟨4, by rw [show ((4 : Nat) : Int) - 1 = 3 by omega], by omega, HD.out, hX0, hY0, hb1⟩
 case round =>
  clear hX0 hY0 hb1 HD;obtain ⟨k, rfl, hk4, hQ, hX, hY, hb⟩ := hrel;have HQ := Hh hQ;clear hQ
  by_cases h0 : k = 0
  ·subst h0
   have HE : Hid (num x = num y) := by
    have h := HQ.out;rw [List.drop_zero, List.drop_zero] at h;rw [Hid, h]
   rw [show ((0 : Nat) : Int) - 1 = -1 by omega];go_wp2_with fail
   go_ret
   refine ⟨?_, hb⟩
   have : decide (num x < num y) = false := decide_eq_false (by have := HE.out; omega);rw [this];rfl
  ·obtain ⟨i, hi⟩ : ∃ i : Nat, k = i + 1 := ⟨k - 1, by omega⟩
   subst hi;rw [show ((i + 1 : Nat) : Int) - 1 = (i : Int) by omega];have hi4 : (i : Int) < 4 := by omega
   have cx := hX.drew.cell i (rowN_get _ _ (by have := HL.out; omega));have cy := hY.drew.cell i (rowN_get _ _ (by have := HL.out; omega))
   by_cases hne : getN x i = getN y i
   ·obtain ⟨xi, hxi⟩ : ∃ n, getN x i = n := ⟨_, rfl⟩
    have HN := Hh (And.intro hxi (hne.symm.trans hxi));rw [hxi] at cx;rw [← hne, hxi] at cy
    have HDr : Hid (x.drop i = y.drop i) := by
     have e1 := drop_getN (l := x) (i := i) (by have := HL.out; omega);have e2 := drop_getN (l := y) (i := i) (by have := HL.out; omega);rw [Hid, e1, e2, HN.out.1, HN.out.2, HQ.out]
    have HK := Hh hk4;have hi1 : IntKind.i64.wrap ((i : Int) - 1) = (i : Int) - 1 := IntWalk.i64_in _ (by omega);clear hne hxi h0 hk4;go_upto_region 4 with fail
    refine wp_region_ways 7 (fun wx => wx.cell? ⟨w.heap.size, i, none⟩ = some (.int .u64 (xi : Int)) ∧ wx.cell? ⟨w.heap.size + 1, i, none⟩ = some (.int .u64 (xi : Int))) (by kernel_rfl) (⟨cx, cy⟩) (fun hHeld => ?_)
    refine TkS 0 rfl hHeld ?_
    refine TkS 1 rfl hHeld ?_
    refine TkS 2 rfl hHeld ?_
    refine TkS 3 rfl hHeld ?_
    refine TkS 4 rfl hHeld ?_
    refine TkS 5 rfl hHeld ?_
    refine TkS 6 rfl hHeld ?_
    refine Ways.done (by kernel_rfl) ?_
    clear hHeld;have hX2 := hX.drew;have hY2 := hY.drew;have hb2 := hb.drew;clear cx cy hX hY hb;go_wp2_with fail
    go_roundw
    case rel => exact ⟨i, rfl, by have := HK.out; omega, HDr.out, hX2, hY2, hb2⟩
    case measure => simp [intOf]
   ·have HC := Hh (num_cmp i x y HW.out.1 HW.out.2 (by have := HL.out; omega) (by have := HL.out; omega) HQ.out hne);obtain ⟨xi, hxi⟩ : ∃ n, getN x i = n := ⟨_, rfl⟩
    obtain ⟨yi, hyi⟩ : ∃ n, getN y i = n := ⟨_, rfl⟩
    rw [hxi, hyi] at hne HC;rw [hxi] at cx;rw [hyi] at cy;have hne1 : ((xi : Int) != (yi : Int)) = true := by rw [bne_iff_ne]; omega
    have hne2 : ((xi : Int) = (yi : Int)) = False := eq_false (by omega)
    have E : Hid (decide (num x < num y) = decide (xi < yi)) := by
     rw [Hid, Bool.eq_iff_iff, decide_eq_true_eq, decide_eq_true_eq, HC.out]
    clear hne hxi hyi h0;go_upto_region 4 with fail
    refine wp_region_ways 7 (fun wx => wx.cell? ⟨w.heap.size, i, none⟩ = some (.int .u64 (xi : Int)) ∧ wx.cell? ⟨w.heap.size + 1, i, none⟩ = some (.int .u64 (yi : Int))) (by kernel_rfl) (⟨cx, cy⟩) (fun hHeld => ?_)
    refine TkS 0 rfl hHeld ?_
    refine TkS 1 rfl hHeld ?_
    refine TkS 2 rfl hHeld ?_
    refine TkS 3 rfl hHeld ?_
    refine TkS 4 rfl hHeld ?_
    refine TkS 5 rfl hHeld ?_
    refine TkS 6 rfl hHeld ?_
    refine Ways.done (by kernel_rfl) ?_
    clear hHeld;go_upto_region 5 with fail
    refine wp_region_ways 8 (fun wx => wx.cell? ⟨w.heap.size, i, none⟩ = some (.int .u64 (xi : Int)) ∧ wx.cell? ⟨w.heap.size + 1, i, none⟩ = some (.int .u64 (yi : Int))) (by kernel_rfl) (⟨cx, cy⟩) (fun hHeld => ?_)
    refine TkS 0 rfl hHeld ?_
    refine TkS 1 rfl hHeld ?_
    refine TkS 2 rfl hHeld ?_
    refine TkS 3 rfl hHeld ?_
    refine TkS 4 rfl hHeld ?_
    refine TkS 5 rfl hHeld ?_
    refine TkS 6 rfl hHeld ?_
    refine TkS 7 rfl hHeld ?_
    refine Ways.done (by kernel_rfl) ?_
    clear hHeld;go_wp2_with fail
    go_ret
    exact ⟨by rw [E.out]; rfl, hb.drew.drew⟩
end Go.Proofs.YtmacemcajlgddaaGreatDoor
