/- squeezed. SHA-256: numbers of four words: th -/
import Derived.Test.YtmacemcajlgddaaGreatDoorK39
import Derived.Test.YtmacemcajlgddaaGreatDoorK01
import Derived.Deep.Cut
set_option linter.unusedVariables false
set_option linter.unusedSimpArgs false
set_option maxRecDepth 100000
set_option maxHeartbeats 3200000
namespace Go.Proofs.YtmacemcajlgddaaGreatDoor
open Go.RowKit
def rowN (l : List Nat) : Array Value := (l.map fun n : Nat => Value.int .u64 (n : Int)).toArray
theorem rowN_size (l : List Nat) : (rowN l).size = l.length := by simp [rowN]
theorem rowN_get (l : List Nat) (i : Nat) (h : i < l.length) : (rowN l)[i]? = some (.int .u64 (getN l i : Int)) := by
 simp [rowN, getN, h]
theorem rowN_set (l : List Nat) (i n : Nat) : (rowN l).setIfInBounds i (.int .u64 (n : Int)) = rowN (l.set i n) := by
 simp [rowN, List.map_set]
theorem rowN_one (l : List Nat) : (rowN l).all (·.oneCell') = true := by simp [rowN, Value.oneCell']
theorem run_add64_0 (x y : Nat) (w : World) : (callFunc 103 #[.int .u64 (x : Int), .int .u64 (y : Int), .int .u64 0]).run Tryz.prog w =
  .ok (.value (.tuple #[.int .u64 (((x + y) % 18446744073709551616 : Nat) : Int), .int .u64 (((x + y) / 18446744073709551616 : Nat) : Int)])) w := run_add64 x y 0 (by omega) w
theorem size_w4 : (Tryz.prog.info? 101).map (·.size) = some 4 := by kernel_rfl
theorem size_u64c : (Tryz.prog.info? 49).map (·.size) = some 1 := by kernel_rfl
theorem sha_times {x y : List Nat} (hx : x.length = 4) (hy : y.length = 4) (hxw : W64 x) (hyw : W64 y) (w : World) :
  Calls Tryz.prog 101 #[.agg (rowN x), .agg (rowN y)] w fun e w' => e = .returned (.agg (rowN (mulRows x y [0, 0, 0, 0]))) ∧ Below w.heap.size w w' := by
 have hX0 := Blk.new w 101 (rowN x);have hY0 := Blk.new (w.alloc (.cells (rowN x) 101)) 101 (rowN y);have HL := Hh (And.intro hx hy);have HW := Hh (And.intro hxw hyw);clear hx hy hxw hyw;have hZ0 := Blk.new (((w.alloc (.cells (rowN x) 101)).alloc (.cells (rowN y) 101)).alloc (.cells (rowN [0, 0, 0, 0]) 101)) 101 (rowN [0, 0, 0, 0]);have hR0 := (Blk.new ((w.alloc (.cells (rowN x) 101)).alloc (.cells (rowN y) 101)) 101 (rowN [0, 0, 0, 0])).alloc (.cells (rowN [0, 0, 0, 0]) 101);replace hX0 := ((hX0.alloc (.cells (rowN y) 101)).alloc (.cells (rowN [0, 0, 0, 0]) 101)).alloc (.cells (rowN [0, 0, 0, 0]) 101);replace hY0 := (hY0.alloc (.cells (rowN [0, 0, 0, 0]) 101)).alloc (.cells (rowN [0, 0, 0, 0]) 101)
 simp only [size_alloc] at hY0 hR0 hZ0
 have hb0 := below_box w (.cells (rowN x) 101);have hb1 := hb0.alloc hb0.size (.cells (rowN y) 101);have hb2 := hb1.alloc hb1.size (.cells (rowN [0, 0, 0, 0]) 101);have hb3 := hb2.alloc hb2.size (.cells (rowN [0, 0, 0, 0]) 101);clear hb0 hb1 hb2;go_enter Tryz.func101, Tryz.ntmps101
 go_wp2_with fail
 go_loopw [12] (fun v12 wr => ∃ (i : Nat) (zs : List Nat), v12 = .int .i64 (i : Int) ∧ i ≤ 4 ∧ zs.length = 4 ∧ W64 zs ∧ zs.take i ++ mulRows (x.drop i) y (zs.drop i) = mulRows x y [0, 0, 0, 0] ∧
   Blk wr (w.heap.size + 1 + 1 + 1) 101 (rowN zs) ∧ Blk wr w.heap.size 101 (rowN x) ∧ Blk wr (w.heap.size + 1) 101 (rowN y) ∧ Blk wr (w.heap.size + 1 + 1) 101 (rowN [0, 0, 0, 0]) ∧ Below w.heap.size w wr) (fun v12 _ => (4 - intOf v12).toNat)
 case atStart => exact ⟨0, [0, 0, 0, 0], rfl, by omega, rfl, by simp [W64], rfl, hZ0, hX0, hY0, hR0, hb3⟩
 case round =>
  clear hZ0 hX0 hY0 hR0 hb3;obtain ⟨i, zs, rfl, hi4, hzl, hzw, hQ, hZ, hX, hY, hR, hb⟩ := hrel;have HZ := Hh (And.intro hzl (And.intro hzw hQ));clear hzl hzw hQ
  by_cases hlt : (i : Int) < 4
  ·have HI := Hh hlt;have hi1 : IntKind.i64.wrap ((i : Int) + ((0 : Nat) : Int)) = (i : Int) := by rw [show (i : Int) + ((0 : Nat) : Int) = (i : Int) by omega]; exact IntWalk.i64_in _ (by omega)
   go_wp2_with fail
   go_loopw [7, 8] (fun v7 v8 wx => ∃ (j c : Nat) (zt : List Nat), v8 = .int .i64 (j : Int) ∧ v7 = .int .u64 (c : Int) ∧ c < 18446744073709551616 ∧ i + j ≤ 4 ∧ zt.length = 4 ∧ W64 zt ∧ zt.take (i + j) ++ mulRow (getN x i) (y.drop j) (zt.drop (i + j)) c = zs.take i ++ mulRow (getN x i) y (zs.drop i) 0 ∧
     Blk wx (w.heap.size + 1 + 1 + 1) 101 (rowN zt) ∧ Blk wx w.heap.size 101 (rowN x) ∧ Blk wx (w.heap.size + 1) 101 (rowN y) ∧ Blk wx (w.heap.size + 1 + 1) 101 (rowN [0, 0, 0, 0]) ∧ Below w.heap.size w wx) (fun _ v8 _ => (4 - (i : Int) - intOf v8).toNat)
   case atStart => exact ⟨0, 0, zs, rfl, rfl, by omega, by omega, HZ.out.1, HZ.out.2.1, by simp, hZ, hX, hY, hR, hb⟩
   case round =>
    clear hZ hX hY hR hb;obtain ⟨j, c, zt, rfl, rfl, hc, hij, hzl, hzw, hQ, hZ, hX, hY, hR, hb⟩ := hrel;obtain ⟨k, hk⟩ : ∃ k, i + j = k := ⟨_, rfl⟩
    have Wk : IntKind.i64.wrap ((i : Int) + (j : Int)) = (k : Int) := by rw [← hk, Int.natCast_add]; exact IntWalk.i64_in _ (by omega)
    by_cases hkt : (k : Int) < 4
    ·have cx := hX.drew.cell i (rowN_get _ _ (by have := HL.out; omega));have cy := hY.drew.cell j (rowN_get _ _ (by have := HL.out; omega));have cz := hZ.drew.cell k (rowN_get _ _ (by omega));have hij4 : (i : Int) < 4 ∧ (j : Int) < 4 := by omega
     obtain ⟨hii, hjj⟩ := hij4;obtain ⟨xi, hxi⟩ : ∃ n, getN x i = n := ⟨_, rfl⟩
     obtain ⟨yj, hyj⟩ : ∃ n, getN y j = n := ⟨_, rfl⟩
     obtain ⟨zk, hzk⟩ : ∃ n, getN zt k = n := ⟨_, rfl⟩
     have hxb : xi < 18446744073709551616 := by rw [← hxi]; exact getN_lt HW.out.1 i
     have hyb : yj < 18446744073709551616 := by rw [← hyj]; exact getN_lt HW.out.2 j
     have hzb : zk < 18446744073709551616 := by rw [← hzk]; exact getN_lt hzw k
     rw [hxi] at cx;rw [hyj] at cy;rw [hzk] at cz;have M := Hh (fun w => bits_Mul64 xi yj hxb hyb w);obtain ⟨s1, s2, s3, s4⟩ := mul_step hxb hyb hzb hc;have H5 := Hh (And.intro hk (And.intro hzl (And.intro hzw (And.intro hQ (And.intro hxi (And.intro hyj hzk))))));have HC := Hh hc;clear hc hk hzl hzw hQ hxi hyj hzk hxb hyb hzb;have A1 := run_add64_0 (xi * yj % 18446744073709551616) c;have A2 := run_add64_0 zk ((xi * yj % 18446744073709551616 + c) % 18446744073709551616);obtain ⟨p0, hp0⟩ : ∃ n, xi * yj / 18446744073709551616 = n := ⟨_, rfl⟩
     obtain ⟨p1, hp1⟩ : ∃ n, xi * yj % 18446744073709551616 = n := ⟨_, rfl⟩
     rw [hp0] at s1 s2;rw [hp1] at s1 s2 s3 A1 A2;obtain ⟨l0, hl0⟩ : ∃ n, (p1 + c) % 18446744073709551616 = n := ⟨_, rfl⟩
     obtain ⟨l1, hl1⟩ : ∃ n, (p1 + c) / 18446744073709551616 = n := ⟨_, rfl⟩
     rw [hl0] at s2 s3 A1 A2;rw [hl1] at s1 s2 A1;obtain ⟨q0, hq0⟩ : ∃ n, (zk + l0) % 18446744073709551616 = n := ⟨_, rfl⟩
     obtain ⟨q1, hq1⟩ : ∃ n, (zk + l0) / 18446744073709551616 = n := ⟨_, rfl⟩
     rw [hq0] at s3 A2;rw [hq1] at s2 A2;obtain ⟨r0, hr0⟩ : ∃ n, p0 + l1 = n := ⟨_, rfl⟩
     obtain ⟨r1, hr1⟩ : ∃ n, r0 + q1 = n := ⟨_, rfl⟩
     rw [hr0] at s1 s2;rw [hr1] at s2;have B1 : IntKind.u64.wrap ((p0 : Int) + (l1 : Int)) = (r0 : Int) := by rw [← Int.natCast_add, hr0]; exact wrap64_in _ s1
     have B2 : IntKind.u64.wrap ((r0 : Int) + (q1 : Int)) = (r1 : Int) := by rw [← Int.natCast_add, hr1]; exact wrap64_in _ (by omega)
     have HP := Hh (And.intro hp0 hp1);have HS := Hh (And.intro s2 (And.intro s3 s4));clear s1 s2 s3 s4 hp0 hp1 hl0 hl1 hq0 hq1 hr0 hr1;go_upto_region 9 with fail
     refine wp_region_ways 12 (fun wx => wx.cell? ⟨w.heap.size, i, none⟩ = some (.int .u64 (xi : Int)) ∧ wx.cell? ⟨w.heap.size + 1, j, none⟩ = some (.int .u64 (yj : Int))) (by kernel_rfl) (⟨cx, cy⟩) (fun hHeld => ?_)
     refine TkS 0 rfl hHeld ?_
     refine TkS 1 rfl hHeld ?_
     refine TkS 2 rfl hHeld ?_
     refine TkS 3 rfl hHeld ?_
     refine TkS 4 rfl hHeld ?_
     refine TkS 5 rfl hHeld ?_
     refine To 6 rfl fun K hK => ?_
     go_simp
     refine (M.out _).mono ?_
     rintro e w5 ⟨rfl, rfl⟩
     rw [HP.out.1, HP.out.2];clear hHeld
     refine hK.out _ _ (fun _ => ?_) (fun hHeld => ?_)
     ·exact ⟨cx, cy⟩
     clear hK K;replace hHeld := hHeld (by decide)
     try simp only [Act.put, zz1, zz2, zz3, zz4, zz5, zz6]
     refine TkS 7 rfl hHeld ?_
     refine TkS 8 rfl hHeld ?_
     refine TkS 9 rfl hHeld ?_
     refine TkS 10 rfl hHeld ?_
     refine TkS 11 rfl hHeld ?_
     refine Ways.done (by kernel_rfl) ?_
     clear hHeld;go_wp2_with (with_reducible refine stop_store ?_)
     refine wpList_store_cell rfl _ _ _ rfl rfl (w.heap.size + 1 + 1 + 1) k (.int .u64 (q0 : Int)) rfl rfl _ _ hZ size_u64c (by rw [rowN_size, H5.out.2.1]; omega) rfl fun w9 hZ9 hg9 => ?_
     rw [rowN_set] at hZ9;have hX9 := hX.drew.grown hg9 (by intro hc; injection hc; omega);have hY9 := hY.drew.grown hg9 (by intro hc; injection hc; omega);have hR9 := hR.drew.grown hg9 (by intro hc; injection hc; omega);have hb9 := hb.drew.grown hg9 hb.size (by rintro q ⟨⟩; omega);have hq : q0 < 18446744073709551616 := by rw [HS.out.2.1]; exact Nat.mod_lt _ (by decide)
     have hr : r1 < 18446744073709551616 := by rw [HS.out.1]; exact HS.out.2.2
     have HN : Hid ((zt.set k q0).length = 4 ∧ W64 (zt.set k q0) ∧ (zt.set k q0).take (k + 1) ++ mulRow (getN x i) (y.drop (j + 1)) ((zt.set k q0).drop (k + 1)) r1 = zs.take i ++ mulRow (getN x i) y (zs.drop i) 0) := by
      obtain ⟨e1, e2, e3, e4, e5, e6, e7⟩ := H5.out
      refine ⟨by rw [List.length_set]; exact e2, e3.set k hq, ?_⟩
      rw [← e4, e1, HS.out.1, HS.out.2.1, ← e5, ← e6, ← e7]
      exact times_inner (by omega) (by have := HL.out; omega)
     have HR := Hh hr;clear hg9 hX hY hR hb hZ cx cy cz A1 A2 hq hr M HS;go_wp2_with fail
     go_roundw
     case rel => exact ⟨j + 1, r1, zt.set k q0, by go_num, rfl, HR.out, by have := H5.out.1; omega, HN.out.1, HN.out.2.1, by rw [show i + (j + 1) = k + 1 by have := H5.out.1; omega]; exact HN.out.2.2, hZ9, hX9, hY9, hR9, hb9⟩
     case measure => have := H5.out.1; simp [intOf]; omega
    ·have hE : i + j = 4 := by omega
     have hzt : zt = zs.take i ++ mulRow (getN x i) y (zs.drop i) 0 := by
      rw [← hQ, hE, List.take_of_length_le (l := zt) (by omega), List.drop_of_length_le (l := zt) (by omega), mulRow_nil, List.append_nil]
     have HQ := Hh ((times_outer (by have := HL.out; have := HI.out; omega) (by have := HZ.out.1; have := HI.out; omega) (by have := HL.out; omega) hzt).trans HZ.out.2.2);have HZT := Hh (And.intro hzl hzw);clear hzt hE hzl hzw hQ hk;go_wp2_with fail
     go_roundw
     case rel => exact ⟨i + 1, zt, by go_num, by have := HI.out; omega, HZT.out.1, HZT.out.2, HQ.out, hZ, hX, hY, hR, hb⟩
     case measure => have := HI.out; simp [intOf]; omega
  ·obtain rfl : i = 4 := by omega
   rw [show ((4 : Nat) : Int) = 4 from rfl] at hlt ⊢
   have hzs : zs = mulRows x y [0, 0, 0, 0] := by
    obtain ⟨e1, e2, e3⟩ := HZ.out;have := HL.out;rw [← e3, List.take_of_length_le (l := zs) (by omega), List.drop_of_length_le (l := x) (by omega), List.drop_of_length_le (l := zs) (by omega), mulRows_nil, List.append_nil]
   have HZS := Hh hzs;obtain ⟨z0, z1, z2, z3, hz4⟩ : ∃ a b c d, zs = [a, b, c, d] := list4n HZ.out.1;have HZ4 := Hh hz4;rw [hz4] at hZ;clear hzs hz4;have c0 : wr.cell? ⟨w.heap.size + 1 + 1 + 1, 0, none⟩ = some (.int .u64 (z0 : Int)) := hZ.cell 0 rfl;have c1 : wr.cell? ⟨w.heap.size + 1 + 1 + 1, 1, none⟩ = some (.int .u64 (z1 : Int)) := hZ.cell 1 rfl;have c2 : wr.cell? ⟨w.heap.size + 1 + 1 + 1, 2, none⟩ = some (.int .u64 (z2 : Int)) := hZ.cell 2 rfl;have c3 : wr.cell? ⟨w.heap.size + 1 + 1 + 1, 3, none⟩ = some (.int .u64 (z3 : Int)) := hZ.cell 3 rfl;go_wp2_with (with_reducible refine stop_store ?_)
   refine wpList_store_item rfl _ _ _ rfl rfl (w.heap.size + 1 + 1) (rowN [z0, z1, z2, z3]) rfl rfl _ _ hR size_w4 rfl (rowN_one _) fun wz hRz hgz => ?_
   have hbz := hb.grown hgz hb.size (by rintro q ⟨⟩; omega);clear c0 c1 c2 c3;go_wp2_with fail
   refine ret_row rfl rfl hRz rfl rfl size_w4 rfl ?_
   exact ⟨by rw [← HZ4.out, HZS.out], hbz⟩
end Go.Proofs.YtmacemcajlgddaaGreatDoor
