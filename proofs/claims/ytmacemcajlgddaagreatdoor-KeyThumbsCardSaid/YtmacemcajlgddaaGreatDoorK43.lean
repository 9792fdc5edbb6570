/- squeezed. SHA-256: numbers of four words: su -/
import Derived.Test.YtmacemcajlgddaaGreatDoorK42
import Derived.Test.YtmacemcajlgddaaGreatDoorK01
set_option linter.unusedVariables false
set_option linter.unusedSimpArgs false
set_option maxRecDepth 100000
set_option maxHeartbeats 3200000
namespace Go.Proofs.YtmacemcajlgddaaGreatDoor
open Go.RowKit
theorem stop_fop {P : Program} {ops : Array Oper} {Q : Exit → Act → World → Prop} {rest : List Oper} {a : Act} {w : World} {dst : Option Tmp} {op : BinOp} {x y : Operand} {t2 : TypeId} {T : TypeId} {pos : String} {af : Array Edge} {g : Option (Nat × Bool)}
  (h : Stopped (wpList P ops Q (⟨dst, .binOp op 102 x y t2, T, pos, af, g⟩ :: rest) a w)) : wpList P ops Q (⟨dst, .binOp op 102 x y t2, T, pos, af, g⟩ :: rest) a w := h
theorem stop_fconv {P : Program} {ops : Array Oper} {Q : Exit → Act → World → Prop} {rest : List Oper} {a : Act} {w : World} {dst : Option Tmp} {x : Operand} {T : TypeId} {pos : String} {af : Array Edge} {g : Option (Nat × Bool)}
  (h : Stopped (wpList P ops Q (⟨dst, .convert 102 49 x, T, pos, af, g⟩ :: rest) a w)) : wpList P ops Q (⟨dst, .convert 102 49 x, T, pos, af, g⟩ :: rest) a w := h
theorem Blk.or {w w' : World} {g : Nat} {t : TypeId} {cs : Array Value} (h : Blk w g t cs) (hw : w' = w ∨ w' = w.drew) : Blk w' g t cs := by
 rcases hw with rfl | rfl
 ·exact h
 ·exact h.drew
theorem below_or {B : Nat} {w0 w w' : World} (h : Below B w0 w) (hw : w' = w ∨ w' = w.drew) : Below B w0 w' := by
 rcases hw with rfl | rfl
 ·exact h
 ·exact h.drew
theorem wide_float {x : List Nat} (hx : x.length = 4) (w : World) :
  Calls Tryz.prog 66 #[.agg (rowN x)] w fun e w' => (∃ f, e = .returned (.float .f64 f)) ∧ Below w.heap.size w w' := by
 have hX0 := Blk.new w 101 (rowN x);have hb0 := below_box w (.cells (rowN x) 101);have HL := Hh hx;clear hx;go_enter Tryz.func66, Tryz.ntmps66
 go_wp2_with fail
 go_loopw [3, 4] (fun v3 v4 wr => ∃ (k f : Nat), v4 = .int .i64 ((k : Int) - 1) ∧ k ≤ 4 ∧ v3 = .float .f64 f ∧ Blk wr w.heap.size 101 (rowN x) ∧ Below w.heap.size w wr) (fun _ v4 _ => (intOf v4 + 1).toNat)
 case atStart => exact ⟨4, 0, by rw [show ((4 : Nat) : Int) - 1 = 3 by omega], by omega, rfl, hX0, hb0⟩
 case round =>
  clear hX0 hb0;obtain ⟨k, f, rfl, hk4, rfl, hX, hb⟩ := hrel
  by_cases h0 : k = 0
  ·subst h0;rw [show ((0 : Nat) : Int) - 1 = -1 by omega];go_wp2_with fail
   go_ret
   exact ⟨⟨f, rfl⟩, hb⟩
  ·obtain ⟨i, hi⟩ : ∃ i : Nat, k = i + 1 := ⟨k - 1, by omega⟩
   subst hi;rw [show ((i + 1 : Nat) : Int) - 1 = (i : Int) by omega];have hi4 : (i : Int) < 4 := by omega
   have hi1 : IntKind.i64.wrap ((i : Int) - 1) = (i : Int) - 1 := IntWalk.i64_in _ (by omega);have HK := Hh hk4;clear h0 hk4;go_wp2_with (with_reducible refine stop_fop ?_)
   refine wpList_fop rfl _ _ _ _ _ rfl (by simp) _ _ rfl rfl fun r w1 hw1 => ?_
   have hX1 := hX.or hw1;have hb1 := below_or hb hw1;have cx := hX1.cell i (rowN_get _ _ (by have := HL.out; omega));clear hX hb hw1;go_wp2_with (with_reducible refine stop_fop ?_)
   refine wpList_fop rfl _ _ _ _ _ rfl (by simp) _ _ rfl rfl fun r2 w2 hw2 => ?_
   have hX2 := hX1.or hw2;have hb2 := below_or hb1 hw2;clear hX1 hb1 hw2 cx;go_wp2_with fail
   go_roundw
   case rel => exact ⟨i, r2, rfl, by have := HK.out; omega, rfl, hX2, hb2⟩
   case measure => simp [intOf]
theorem run_sub64_0 (x y : Nat) (w : World) : (callFunc 102 #[.int .u64 (x : Int), .int .u64 (y : Int), .int .u64 0]).run Tryz.prog w =
  .ok (.value (.tuple #[.int .u64 (((x + 18446744073709551616 - y) % 18446744073709551616 : Nat) : Int), .int .u64 ((if x < y then 1 else 0 : Nat) : Int)])) w := run_sub64 x y 0 (by omega) w
theorem sha_raise (x0 x1 x2 x3 d : Nat) (h0 : x0 < 18446744073709551616) (hd : d < 18446744073709551616) (h1 : x1 + 1 < 18446744073709551616) (w : World) :
  Calls Tryz.prog 71 #[.agg (rowN [x0, x1, x2, x3]), .int .u64 (d : Int)] w fun e w' => e = .returned (.agg (rowN [(x0 + d) % 18446744073709551616, x1 + (x0 + d) / 18446744073709551616, x2, x3])) ∧ Below w.heap.size w w' := by
 have hX0 := (Blk.new w 101 (rowN [x0, x1, x2, x3])).alloc (.cells #[.int .u64 0, .int .u64 0, .int .u64 0, .int .u64 0] 101);have hR0 := Blk.new (w.alloc (.cells (rowN [x0, x1, x2, x3]) 101)) 101 #[.int .u64 0, .int .u64 0, .int .u64 0, .int .u64 0];rw [size_alloc] at hR0;have hb0 := below_box w (.cells (rowN [x0, x1, x2, x3]) 101);have hb1 := hb0.alloc hb0.size (.cells #[.int .u64 0, .int .u64 0, .int .u64 0, .int .u64 0] 101);have A := run_add64_0 x0 d;obtain ⟨s0, hs0⟩ : ∃ n, (x0 + d) % 18446744073709551616 = n := ⟨_, rfl⟩
 obtain ⟨c, hc⟩ : ∃ n, (x0 + d) / 18446744073709551616 = n := ⟨_, rfl⟩
 have B : IntKind.u64.wrap ((x1 : Int) + (c : Int)) = ((x1 + (x0 + d) / 18446744073709551616 : Nat) : Int) := by rw [hc, ← Int.natCast_add]; exact wrap64_in _ (by omega)
 obtain ⟨s1, hs1⟩ : ∃ n, x1 + (x0 + d) / 18446744073709551616 = n := ⟨_, rfl⟩
 rw [hs0, hs1];rw [hs0, hc] at A;rw [hs1] at B;clear hs0 hs1 hc hb0;have c0 : ((w.alloc (.cells (rowN [x0, x1, x2, x3]) 101)).alloc (.cells #[.int .u64 0, .int .u64 0, .int .u64 0, .int .u64 0] 101)).cell? ⟨w.heap.size, 0, none⟩ = some (.int .u64 (x0 : Int)) := hX0.cell 0 rfl;go_enter Tryz.func71, Tryz.ntmps71
 go_wp2_with (with_reducible refine stop_store ?_)
 refine wpList_store_cell rfl _ _ _ rfl rfl w.heap.size 0 (.int .u64 (s0 : Int)) rfl rfl _ _ hX0 size_u64c (by rw [rowN_size]; simp) rfl fun w2 hX2 hg2 => ?_
 rw [rowN_set] at hX2;replace hX2 : Blk w2 w.heap.size 101 (rowN [s0, x1, x2, x3]) := hX2;have hR2 := hR0.grown hg2 (by intro hc; injection hc; omega);have hb2 := hb1.grown hg2 hb1.size (by rintro q ⟨⟩; omega);have c1 : w2.cell? ⟨w.heap.size, 1, none⟩ = some (.int .u64 (x1 : Int)) := hX2.cell 1 rfl;clear hX0 hR0 hb1 hg2 c0 A;go_wp2_with (with_reducible refine stop_store ?_)
 refine wpList_store_cell rfl _ _ _ rfl rfl w.heap.size 1 (.int .u64 (s1 : Int)) rfl rfl _ _ hX2 size_u64c (by rw [rowN_size]; simp) rfl fun w3 hX3 hg3 => ?_
 rw [rowN_set] at hX3;replace hX3 : Blk w3 w.heap.size 101 (rowN [s0, s1, x2, x3]) := hX3;have hR3 := hR2.grown hg3 (by intro hc; injection hc; omega);have hb3 := hb2.grown hg3 hb2.size (by rintro q ⟨⟩; omega);clear hX2 hR2 hb2 hg3 c1 B;have e0 : w3.cell? ⟨w.heap.size, 0, none⟩ = some (.int .u64 (s0 : Int)) := hX3.cell 0 rfl;have e1 : w3.cell? ⟨w.heap.size, 1, none⟩ = some (.int .u64 (s1 : Int)) := hX3.cell 1 rfl;have e2 : w3.cell? ⟨w.heap.size, 2, none⟩ = some (.int .u64 (x2 : Int)) := hX3.cell 2 rfl;have e3 : w3.cell? ⟨w.heap.size, 3, none⟩ = some (.int .u64 (x3 : Int)) := hX3.cell 3 rfl;go_wp2_with (with_reducible refine stop_store ?_)
 refine wpList_store_item rfl _ _ _ rfl rfl (w.heap.size + 1) (rowN [s0, s1, x2, x3]) rfl rfl _ _ hR3 size_w4 rfl (rowN_one _) fun wz hRz hgz => ?_
 have hbz := hb3.grown hgz hb3.size (by rintro q ⟨⟩; omega);clear e0 e1 e2 e3;go_wp2_with fail
 refine ret_row rfl rfl hRz rfl rfl size_w4 rfl ?_
 exact ⟨rfl, hbz⟩
theorem sha_lower (x0 x1 x2 x3 d : Nat) (h1 : x1 < 18446744073709551616) (h2 : 1 ≤ x1) (w : World) :
  Calls Tryz.prog 69 #[.agg (rowN [x0, x1, x2, x3]), .int .u64 (d : Int)] w fun e w' => e = .returned (.agg (rowN [(x0 + 18446744073709551616 - d) % 18446744073709551616, x1 - (if x0 < d then 1 else 0), x2, x3])) ∧ Below w.heap.size w w' := by
 have hX0 := (Blk.new w 101 (rowN [x0, x1, x2, x3])).alloc (.cells #[.int .u64 0, .int .u64 0, .int .u64 0, .int .u64 0] 101);have hR0 := Blk.new (w.alloc (.cells (rowN [x0, x1, x2, x3]) 101)) 101 #[.int .u64 0, .int .u64 0, .int .u64 0, .int .u64 0];rw [size_alloc] at hR0;have hb0 := below_box w (.cells (rowN [x0, x1, x2, x3]) 101);have hb1 := hb0.alloc hb0.size (.cells #[.int .u64 0, .int .u64 0, .int .u64 0, .int .u64 0] 101);have A := run_sub64_0 x0 d;obtain ⟨s0, hs0⟩ : ∃ n, (x0 + 18446744073709551616 - d) % 18446744073709551616 = n := ⟨_, rfl⟩
 obtain ⟨c, hc⟩ : ∃ n, (if x0 < d then 1 else 0) = n := ⟨_, rfl⟩
 have B : IntKind.u64.wrap ((x1 : Int) - (c : Int)) = ((x1 - (if x0 < d then 1 else 0) : Nat) : Int) := by
  have hc1 : c ≤ 1 := by rw [← hc]; split <;> omega
  rw [hc, show (x1 : Int) - (c : Int) = ((x1 - c : Nat) : Int) by omega]
  exact wrap64_in _ (by omega)
 obtain ⟨s1, hs1⟩ : ∃ n, x1 - (if x0 < d then 1 else 0) = n := ⟨_, rfl⟩
 rw [hs0, hs1];rw [hs0, hc] at A;rw [hs1] at B;clear hs0 hs1 hc hb0;have c0 : ((w.alloc (.cells (rowN [x0, x1, x2, x3]) 101)).alloc (.cells #[.int .u64 0, .int .u64 0, .int .u64 0, .int .u64 0] 101)).cell? ⟨w.heap.size, 0, none⟩ = some (.int .u64 (x0 : Int)) := hX0.cell 0 rfl;go_enter Tryz.func69, Tryz.ntmps69
 go_wp2_with (with_reducible refine stop_store ?_)
 refine wpList_store_cell rfl _ _ _ rfl rfl w.heap.size 0 (.int .u64 (s0 : Int)) rfl rfl _ _ hX0 size_u64c (by rw [rowN_size]; simp) rfl fun w2 hX2 hg2 => ?_
 rw [rowN_set] at hX2;replace hX2 : Blk w2 w.heap.size 101 (rowN [s0, x1, x2, x3]) := hX2;have hR2 := hR0.grown hg2 (by intro hc; injection hc; omega);have hb2 := hb1.grown hg2 hb1.size (by rintro q ⟨⟩; omega);have c1 : w2.cell? ⟨w.heap.size, 1, none⟩ = some (.int .u64 (x1 : Int)) := hX2.cell 1 rfl;clear hX0 hR0 hb1 hg2 c0 A;go_wp2_with (with_reducible refine stop_store ?_)
 refine wpList_store_cell rfl _ _ _ rfl rfl w.heap.size 1 (.int .u64 (s1 : Int)) rfl rfl _ _ hX2 size_u64c (by rw [rowN_size]; simp) rfl fun w3 hX3 hg3 => ?_
 rw [rowN_set] at hX3;replace hX3 : Blk w3 w.heap.size 101 (rowN [s0, s1, x2, x3]) := hX3;have hR3 := hR2.grown hg3 (by intro hc; injection hc; omega);have hb3 := hb2.grown hg3 hb2.size (by rintro q ⟨⟩; omega);clear hX2 hR2 hb2 hg3 c1 B;have e0 : w3.cell? ⟨w.heap.size, 0, none⟩ = some (.int .u64 (s0 : Int)) := hX3.cell 0 rfl;have e1 : w3.cell? ⟨w.heap.size, 1, none⟩ = some (.int .u64 (s1 : Int)) := hX3.cell 1 rfl;have e2 : w3.cell? ⟨w.heap.size, 2, none⟩ = some (.int .u64 (x2 : Int)) := hX3.cell 2 rfl;have e3 : w3.cell? ⟨w.heap.size, 3, none⟩ = some (.int .u64 (x3 : Int)) := hX3.cell 3 rfl;go_wp2_with (with_reducible refine stop_store ?_)
 refine wpList_store_item rfl _ _ _ rfl rfl (w.heap.size + 1) (rowN [s0, s1, x2, x3]) rfl rfl _ _ hR3 size_w4 rfl (rowN_one _) fun wz hRz hgz => ?_
 have hbz := hb3.grown hgz hb3.size (by rintro q ⟨⟩; omega);clear e0 e1 e2 e3;go_wp2_with fail
 refine ret_row rfl rfl hRz rfl rfl size_w4 rfl ?_
 exact ⟨rfl, hbz⟩
theorem sha_minus {x y : List Nat} (hx : x.length = 4) (hy : y.length = 4) (w : World) :
  Calls Tryz.prog 70 #[.agg (rowN x), .agg (rowN y)] w fun e w' => ∃ z, e = .returned (.agg (rowN z)) ∧ z.length = 4 ∧ Below w.heap.size w w' := by
 have hX0 := ((Blk.new w 101 (rowN x)).alloc (.cells (rowN y) 101)).alloc (.cells #[.int .u64 0, .int .u64 0, .int .u64 0, .int .u64 0] 101);have hY0 := (Blk.new (w.alloc (.cells (rowN x) 101)) 101 (rowN y)).alloc (.cells #[.int .u64 0, .int .u64 0, .int .u64 0, .int .u64 0] 101);have hR0 := Blk.new ((w.alloc (.cells (rowN x) 101)).alloc (.cells (rowN y) 101)) 101 #[.int .u64 0, .int .u64 0, .int .u64 0, .int .u64 0]
 simp only [size_alloc] at hY0 hR0
 have hb0 := below_box w (.cells (rowN x) 101);have hb1 := hb0.alloc hb0.size (.cells (rowN y) 101);have hb2 := hb1.alloc hb1.size (.cells #[.int .u64 0, .int .u64 0, .int .u64 0, .int .u64 0] 101);have HL := Hh (And.intro hx hy);have HX0 := Hh hx;clear hx hy hb0 hb1;go_enter Tryz.func70, Tryz.ntmps70
 go_wp2_with fail
 go_loopw [5, 7] (fun v5 v7 wr => ∃ (k c : Nat) (xs : List Nat), v7 = .int .i64 (k : Int) ∧ v5 = .int .u64 (c : Int) ∧ c ≤ 1 ∧ k ≤ 4 ∧ xs.length = 4 ∧
   Blk wr w.heap.size 101 (rowN xs) ∧ Blk wr (w.heap.size + 1) 101 (rowN y) ∧ Blk wr (w.heap.size + 1 + 1) 101 #[.int .u64 0, .int .u64 0, .int .u64 0, .int .u64 0] ∧ Below w.heap.size w wr) (fun _ v7 _ => (4 - intOf v7).toNat)
 case atStart => exact ⟨0, 0, x, rfl, rfl, by omega, by omega, HX0.out, hX0, hY0, hR0, hb2⟩
 case round =>
  clear hX0 hY0 hR0 hb2 HX0;obtain ⟨k, c, xs, rfl, rfl, hc, hk4, hxl, hX, hY, hR, hb⟩ := hrel
  by_cases hlt : (k : Int) < 4
  ·have cx := hX.drew.cell k (rowN_get _ _ (by omega));have cy := hY.drew.cell k (rowN_get _ _ (by have := HL.out; omega));obtain ⟨xk, hxk⟩ : ∃ n, getN xs k = n := ⟨_, rfl⟩
   obtain ⟨yk, hyk⟩ : ∃ n, getN y k = n := ⟨_, rfl⟩
   rw [hxk] at cx;rw [hyk] at cy;have A := run_sub64 xk yk c hc;obtain ⟨q0, hq0⟩ : ∃ n, (xk + 18446744073709551616 - yk - c) % 18446744073709551616 = n := ⟨_, rfl⟩
   obtain ⟨q1, hq1⟩ : ∃ n, (if xk < yk + c then 1 else 0) = n := ⟨_, rfl⟩
   have HQ : Hid (q1 ≤ 1) := by rw [Hid, ← hq1]; split <;> omega
   rw [hq0, hq1] at A;have HXL := Hh hxl;have HLT := Hh hlt;have hXd := hX.drew;clear hxk hyk hq0 hq1 hc hxl hk4;go_upto_region 5 with fail
   refine wp_region_waysZ 13 (fun wx => wx.cell? ⟨w.heap.size, k, none⟩ = some (.int .u64 (xk : Int)) ∧ wx.cell? ⟨w.heap.size + 1, k, none⟩ = some (.int .u64 (yk : Int))) (by kernel_rfl) (⟨cx, cy⟩) (fun hHeld => ?_)
   refine Zk 0 rfl hHeld ?_
   refine Zk 1 rfl hHeld ?_
   refine Zk 2 rfl hHeld ?_
   refine Zk 3 rfl hHeld ?_
   refine Zk 4 rfl hHeld ?_
   refine Zk 5 rfl hHeld ?_
   refine Zk 6 rfl hHeld ?_
   refine Zk 7 rfl hHeld ?_
   refine Zo 8 rfl fun K hK => ?_
   go_simp
   refine hK.out _ _ (fun _ => ?_) (fun hHeld => ?_)
   ·exact ⟨cx, cy⟩
   clear hK K;have hHeld := hHeld (by decide)
   try simp only [Act.put, zz1, zz2, zz3, zz4, zz5, zz6]
   refine Zk 9 rfl hHeld ?_
   refine Zk 10 rfl hHeld ?_
   refine ZkT 11 rfl (fun _ => hHeld) ?_
   refine Zk 12 rfl hHeld ?_
   refine Zo 13 rfl fun K hK => ?_
   rw [if_pos (by rfl)]
   refine wp_store_cell _ _ _ rfl w.heap.size k (.int .u64 (q0 : Int)) rfl rfl _ _ hXd size_u64c (by rw [rowN_size, HXL.out]; have := HLT.out; omega) rfl fun w9 hX9 hg9 => ?_
   refine hK.out _ _ (fun h => absurd h (by decide)) (fun _ => ?_)
   clear hK K
   try simp only [Act.put, zz1, zz2, zz3, zz4, zz5, zz6]
   refine ZkT 14 rfl (fun h => absurd h (by decide)) ?_
   refine WaysZ.done (by kernel_rfl) ?_
   rw [rowN_set] at hX9;have hY9 := hY.drew.grown hg9 (by intro hc; injection hc; omega);have hR9 := hR.drew.grown hg9 (by intro hc; injection hc; omega);have hb9 := hb.drew.grown hg9 hb.size (by rintro q ⟨⟩; exact Nat.le_refl _);clear hX hY hR hb hXd cx cy A hg9 hHeld;go_wp2_with fail
   go_roundw
   case rel => exact ⟨k + 1, q1, xs.set k q0, by go_num, rfl, HQ.out, by have := HLT.out; omega, by rw [List.length_set]; exact HXL.out, hX9, hY9, hR9, hb9⟩
   case measure => have := HLT.out; simp [intOf]; omega
  ·obtain rfl : k = 4 := by omega
   rw [show ((4 : Nat) : Int) = 4 from rfl] at hlt ⊢;obtain ⟨z0, z1, z2, z3, rfl⟩ := list4n hxl;have c0 : wr.cell? ⟨w.heap.size, 0, none⟩ = some (.int .u64 (z0 : Int)) := hX.cell 0 rfl;have c1 : wr.cell? ⟨w.heap.size, 1, none⟩ = some (.int .u64 (z1 : Int)) := hX.cell 1 rfl;have c2 : wr.cell? ⟨w.heap.size, 2, none⟩ = some (.int .u64 (z2 : Int)) := hX.cell 2 rfl;have c3 : wr.cell? ⟨w.heap.size, 3, none⟩ = some (.int .u64 (z3 : Int)) := hX.cell 3 rfl;clear hc hk4 hxl;go_wp2_with (with_reducible refine stop_store ?_)
   refine wpList_store_item rfl _ _ _ rfl rfl (w.heap.size + 1 + 1) (rowN [z0, z1, z2, z3]) rfl rfl _ _ hR size_w4 rfl (rowN_one _) fun wz hRz hgz => ?_
   have hbz := hb.grown hgz hb.size (by rintro q ⟨⟩; omega);clear c0 c1 c2 c3;go_wp2_with fail
   refine ret_row rfl rfl hRz rfl rfl size_w4 rfl ?_
   exact ⟨_, rfl, rfl, hbz⟩
end Go.Proofs.YtmacemcajlgddaaGreatDoor
