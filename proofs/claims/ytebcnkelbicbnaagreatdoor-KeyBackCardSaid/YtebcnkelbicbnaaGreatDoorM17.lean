/- Walks: cbor.checker.spend. Walks: cbor.ascending. Walks: cbor.checker.item, cbor.Valid. -/
import Derived.Test.YtebcnkelbicbnaaGreatDoorM08
import Derived.Test.YtebcnkelbicbnaaGreatDoorM02
import Derived.Test.YtebcnkelbicbnaaGreatDoorM01
set_option linter.unusedVariables false
set_option linter.unusedSimpArgs false
namespace Go.Proofs.YtebcnkelbicbnaaGreatDoor
open Go.RowKit

/-- The checker's struct lies in block g. -/
abbrev Chk (w : World) (g : Nat) (i s : Int) : Prop := Blk w g 87 #[.int .i64 i, .int .i64 s]

set_option maxRecDepth 100000 in
set_option maxHeartbeats 1600000 in
theorem spend_float {H : Snap} {x : Itm} {ba : Option Addr} {bc : Nat} {ia : Option Addr} {ic : Nat} (hx : IsItem H ba bc ia ic x) (w : World) (g : Nat) (i s : Int) (hc : Chk w g i s) (h8 : x.kind = 8) (hs0 : 0 ≤ s) (hs1 : s ≤ 1099511627776) :
    Calls Tryz.prog 73 #[.pointer (some ⟨g, 0, none⟩), itemV x ba bc ia ic] w fun e w' => e = .returned (.bool (decide (s + spendP x ≤ 4096))) ∧ Chk w' g i (s + spendP x) ∧ w.grownBy w' (some g) := by
  have hfl := floatB_length x.n
  have E : Hid (spendP x = (floatB x.n).length) := by simp [Hid, spendP, h8]
  obtain ⟨_, _, hn, _⟩ := hx.bounds
  have HN : U64 x.n := ⟨by omega, by omega⟩
  have hlt := hc.lt
  have hB := Blk.new w 26 #[.int .i64 8, .int .u64 x.n, .slice ba x.bytes.length bc, .slice ia x.items.length ic]
  have hC := hc.alloc (.cells #[.int .i64 8, .int .u64 x.n, .slice ba x.bytes.length bc, .slice ia x.items.length ic] 26)
  clear hx hn
  go_enter Tryz.func73, Tryz.ntmps73
  go_wp2_with fail
  refine wp_region_ways 11 (fun w' => w'.cell? ⟨g, 1, none⟩ = some (.int .i64 s) ∧ w'.cell? ⟨w.heap.size, 1, none⟩ = some (.int .u64 x.n)) (by kernel_rfl) (⟨hC.cell 1 rfl, hB.cell 1 rfl⟩) (fun hHeld => ?_)
  refine Ways.take (i := 0) (v := ?_) rfl (by kernel_rfl) (fun _ _ _ h => h) (Or.inl ⟨by rfl, ?_⟩) hHeld ?_
  rotate_left
  · (intro w hSw; (try dsimp only at hSw); go_simp; try with_reducible rfl)
  try simp only [Act.put, List.setIfInBounds_toArray, List.set_cons_zero, List.set_cons_succ]
  refine Ways.take (i := 1) (v := ?_) rfl (by kernel_rfl) (fun _ _ _ h => h) (Or.inl ⟨by rfl, ?_⟩) hHeld ?_
  rotate_left
  · (intro w hSw; (try dsimp only at hSw); go_simp; try with_reducible rfl)
  try simp only [Act.put, List.setIfInBounds_toArray, List.set_cons_zero, List.set_cons_succ]
  refine Ways.take (i := 2) (v := ?_) rfl (by kernel_rfl) (fun _ _ _ h => h) (Or.inl ⟨by rfl, ?_⟩) hHeld ?_
  rotate_left
  · (intro w hSw; (try dsimp only at hSw); go_simp; try with_reducible rfl)
  try simp only [Act.put, List.setIfInBounds_toArray, List.set_cons_zero, List.set_cons_succ]
  refine Ways.take (i := 3) (v := ?_) rfl (by kernel_rfl) (fun _ _ _ h => h) (Or.inl ⟨by rfl, ?_⟩) hHeld ?_
  rotate_left
  · (intro w hSw; (try dsimp only at hSw); go_simp; try with_reducible rfl)
  try simp only [Act.put, List.setIfInBounds_toArray, List.set_cons_zero, List.set_cons_succ]
  refine Ways.take (i := 4) (v := ?_) rfl (by kernel_rfl) (fun _ _ _ h => h) (Or.inl ⟨by rfl, ?_⟩) hHeld ?_
  rotate_left
  · (intro w hSw; (try dsimp only at hSw); go_simp; try with_reducible rfl)
  try simp only [Act.put, List.setIfInBounds_toArray, List.set_cons_zero, List.set_cons_succ]
  refine Ways.take (i := 5) (v := ?_) rfl (by kernel_rfl) (fun _ _ _ h => h) (Or.inl ⟨by rfl, ?_⟩) hHeld ?_
  rotate_left
  · (intro w hSw; (try dsimp only at hSw); go_simp; try with_reducible rfl)
  try simp only [Act.put, List.setIfInBounds_toArray, List.set_cons_zero, List.set_cons_succ]
  refine Ways.one (i := 6) rfl (by kernel_rfl) (fun K hK => ?_)
  go_simp
  refine (cbor_float _ _ HN.1 HN.2).mono ?_
  rintro e w1 ⟨r, rfl, hf⟩
  obtain ⟨A, c, rfl, _, _, _⟩ := hf.own.form
  have hC1 := hC.drew.below hf.2
  refine hK.out _ _ (fun _ => ?_) (fun hHeld => ?_)
  · exact ⟨hC1.cell 1 rfl, (hB.drew.below hf.2).cell 1 rfl⟩
  clear hK K
  have hHeld := hHeld (by decide)
  try simp only [Act.put, List.setIfInBounds_toArray, List.set_cons_zero, List.set_cons_succ]
  refine Ways.take (i := 7) (v := ?_) rfl (by kernel_rfl) (fun _ _ _ h => h) (Or.inl ⟨by rfl, ?_⟩) hHeld ?_
  rotate_left
  · (intro w hSw; (try dsimp only at hSw); go_simp; try with_reducible rfl)
  try simp only [Act.put, List.setIfInBounds_toArray, List.set_cons_zero, List.set_cons_succ]
  refine Ways.take (i := 8) (v := ?_) rfl (by kernel_rfl) (fun _ _ _ h => h) (Or.inl ⟨by rfl, ?_⟩) hHeld ?_
  rotate_left
  · (intro w hSw; (try dsimp only at hSw); go_simp; try with_reducible rfl)
  try simp only [Act.put, List.setIfInBounds_toArray, List.set_cons_zero, List.set_cons_succ]
  refine Ways.take (i := 9) (v := ?_) rfl (by kernel_rfl) (fun _ _ _ h => h) (Or.inl ⟨by rfl, ?_⟩) hHeld ?_
  rotate_left
  · (intro w hSw; (try dsimp only at hSw); go_simp; try with_reducible rfl)
  try simp only [Act.put, List.setIfInBounds_toArray, List.set_cons_zero, List.set_cons_succ]
  refine Ways.take (i := 10) (v := ?_) rfl (by kernel_rfl) (fun _ _ _ h => h) (Or.inl ⟨by rfl, ?_⟩) hHeld ?_
  rotate_left
  · (intro w hSw; (try dsimp only at hSw); go_simp; try with_reducible rfl)
  try simp only [Act.put, List.setIfInBounds_toArray, List.set_cons_zero, List.set_cons_succ]
  refine Ways.one (i := 11) rfl (by kernel_rfl) (fun K hK => ?_)
  have d1 := hC1.cell 1 rfl
  have d2 := hC1.frozen 1
  go_simp
  refine hK.out _ _ (fun h => absurd rfl h) (fun _ => ?_)
  clear hK K
  try simp only [Act.put, List.setIfInBounds_toArray, List.set_cons_zero, List.set_cons_succ]
  refine Ways.done (by kernel_rfl) ?_
  all_goals
    have hw : Hid (IntKind.i64.wrap (s + ((floatB x.n).length : Int)) = s + (spendP x : Int)) := by rw [Hid, E.out]; exact IntWalk.i64_in _ (by omega)
    have R : Chk (w1.setCell ⟨g, 1, none⟩ (.int .i64 (s + (spendP x : Int)))) g i (s + (spendP x : Int)) ∧ w.grownBy (w1.setCell ⟨g, 1, none⟩ (.int .i64 (s + (spendP x : Int)))) (some g) :=
      ⟨(hC.drew.below hf.2).set_ 1 _, grown_set (grown_below (grown_drew (grown_alloc (grown_refl w _) _)) hf.2) (.inl rfl) _⟩
    rw [hw.out]
    have e1 := R.1.cell 1 rfl
    clear d1 d2
    go_wp2
    go_ret
    exact ⟨rfl, R⟩

set_option maxRecDepth 100000 in
set_option maxHeartbeats 1600000 in
theorem spend_simple {x : Itm} {ba : Option Addr} {bc : Nat} {ia : Option Addr} {ic : Nat} (w : World) (g : Nat) (i s : Int) (hc : Chk w g i s) (h7 : x.kind = 7) (hs0 : 0 ≤ s) (hs1 : s ≤ 1099511627776) :
    Calls Tryz.prog 73 #[.pointer (some ⟨g, 0, none⟩), itemV x ba bc ia ic] w fun e w' => e = .returned (.bool (decide (s + spendP x ≤ 4096))) ∧ Chk w' g i (s + spendP x) ∧ w.grownBy w' (some g) := by
  have hlt := hc.lt
  have c1 := hc.cell 1 rfl
  have f1 := hc.frozen 1
  by_cases h24 : (24 : Int) ≤ (x.n : Int)
  · have E : Hid ((spendP x : Int) = 2) := by
      have : 24 ≤ x.n := by omega
      simp [Hid, spendP, h7, this]
    have d1 := (hc.set_ 1 (.int .i64 (s + 1))).cell 1 rfl
    have g1 := (hc.set_ 1 (.int .i64 (s + 1))).frozen 1
    go_enter Tryz.func73, Tryz.ntmps73
    go_wp2
    go_ret
    have e : s + 1 + 1 = s + (spendP x : Int) := by rw [E.out]; omega
    rw [← e]
    exact ⟨rfl, ((hc.set_ 1 _).set_ 1 _).alloc _, grown_alloc (grown_set (grown_set (grown_refl w _) (.inl rfl) _) (.inl rfl) _) _⟩
  · have E : Hid ((spendP x : Int) = 1) := by
      have : ¬ 24 ≤ x.n := by omega
      simp [Hid, spendP, h7, this]
    have d1 := (hc.set_ 1 (.int .i64 (s + 1))).cell 1 rfl
    go_enter Tryz.func73, Tryz.ntmps73
    go_wp2
    go_ret
    have e : s + 1 = s + (spendP x : Int) := by rw [E.out]
    rw [← e]
    exact ⟨rfl, (hc.set_ 1 _).alloc _, grown_alloc (grown_set (grown_refl w _) (.inl rfl) _) _⟩

set_option maxRecDepth 100000 in
set_option maxHeartbeats 3200000 in
theorem spend_more {H : Snap} {x : Itm} {ba : Option Addr} {bc : Nat} {ia : Option Addr} {ic : Nat} (hx : IsItem H ba bc ia ic x) (w : World) (g : Nat) (i s : Int) (hc : Chk w g i s) (h0 : 0 ≤ x.kind) (h7 : x.kind < 7) (hs0 : 0 ≤ s) (hs1 : s ≤ 1099511627776) (hbl : x.bytes.length ≤ 1099511627776) :
    Calls Tryz.prog 73 #[.pointer (some ⟨g, 0, none⟩), itemV x ba bc ia ic] w fun e w' => e = .returned (.bool (decide (s + spendP x ≤ 4096))) ∧ Chk w' g i (s + spendP x) ∧ w.grownBy w' (some g) := by
  have hlt := hc.lt
  have hN0 : (numP x : Int) < 18446744073709551616 := by
    have := hx.bounds
    unfold numP
    repeat' split
    all_goals omega
  have HN : U64 (numP x) := ⟨by omega, hN0⟩
  have hb9 := headB_le x.kind.toNat (numP x)
  have E : Hid (spendP x = (headB x.kind.toNat (numP x)).length + x.bytes.length) := by rw [Hid, spendP, if_neg (by omega), if_neg (by omega)]
  have b7 : (x.kind == 7) = false := by simp; omega
  have b8 : (x.kind == 8) = false := by simp; omega
  have hB := Blk.new w 26 #[.int .i64 x.kind, .int .u64 x.n, .slice ba x.bytes.length bc, .slice ia x.items.length ic]
  have hC := hc.alloc (.cells #[.int .i64 x.kind, .int .u64 x.n, .slice ba x.bytes.length bc, .slice ia x.items.length ic] 26)
  clear hN0
  go_enter Tryz.func73, Tryz.ntmps73
  go_wp2_with fail
  refine wp_region_ways 17 (fun w' => w'.cell? ⟨g, 1, none⟩ = some (.int .i64 s) ∧ w'.cell? ⟨w.heap.size, 0, none⟩ = some (.int .i64 x.kind) ∧ w'.cell? ⟨w.heap.size, 1, none⟩ = some (.int .u64 x.n) ∧ w'.cell? ⟨w.heap.size, 2, none⟩ = some (.slice ba x.bytes.length bc) ∧ w'.cell? ⟨w.heap.size, 3, none⟩ = some (.slice ia x.items.length ic)) (by kernel_rfl) (⟨hC.cell 1 rfl, hB.cell 0 rfl, hB.cell 1 rfl, hB.cell 2 rfl, hB.cell 3 rfl⟩) (fun hHeld => ?_)
  refine Ways.take (i := 0) (v := ?_) rfl (by kernel_rfl) (fun _ _ _ h => h) (Or.inl ⟨by rfl, ?_⟩) hHeld ?_
  rotate_left
  · (intro w hSw; (try dsimp only at hSw); go_simp; try with_reducible rfl)
  try simp only [Act.put, List.setIfInBounds_toArray, List.set_cons_zero, List.set_cons_succ]
  refine Ways.take (i := 1) (v := ?_) rfl (by kernel_rfl) (fun _ _ _ h => h) (Or.inl ⟨by rfl, ?_⟩) hHeld ?_
  rotate_left
  · (intro w hSw; (try dsimp only at hSw); go_simp; try with_reducible rfl)
  try simp only [Act.put, List.setIfInBounds_toArray, List.set_cons_zero, List.set_cons_succ]
  refine Ways.take (i := 2) (v := ?_) rfl (by kernel_rfl) (fun _ _ _ h => h) (Or.inl ⟨by rfl, ?_⟩) hHeld ?_
  rotate_left
  · (intro w hSw; (try dsimp only at hSw); go_simp; try with_reducible rfl)
  try simp only [Act.put, List.setIfInBounds_toArray, List.set_cons_zero, List.set_cons_succ]
  refine Ways.take (i := 3) (v := ?_) rfl (by kernel_rfl) (fun _ _ _ h => h) (Or.inl ⟨by rfl, ?_⟩) hHeld ?_
  rotate_left
  · (intro w hSw; (try dsimp only at hSw); go_simp; try with_reducible rfl)
  try simp only [Act.put, List.setIfInBounds_toArray, List.set_cons_zero, List.set_cons_succ]
  refine Ways.take (i := 4) (v := ?_) rfl (by kernel_rfl) (fun _ _ _ h => h) (Or.inl ⟨by rfl, ?_⟩) hHeld ?_
  rotate_left
  · (intro w hSw; (try dsimp only at hSw); go_simp; try with_reducible rfl)
  try simp only [Act.put, List.setIfInBounds_toArray, List.set_cons_zero, List.set_cons_succ]
  refine Ways.take (i := 10) (v := ?_) rfl (by kernel_rfl) (fun _ _ _ h => h) (Or.inl ⟨by rfl, ?_⟩) hHeld ?_
  rotate_left
  · (intro w hSw; (try dsimp only at hSw); go_simp; try with_reducible rfl)
  try simp only [Act.put, List.setIfInBounds_toArray, List.set_cons_zero, List.set_cons_succ]
  refine Ways.take (i := 11) (v := ?_) rfl (by kernel_rfl) (fun _ _ _ h => h) (Or.inl ⟨by rfl, ?_⟩) hHeld ?_
  rotate_left
  · (intro w hSw; (try dsimp only at hSw); go_simp; try with_reducible rfl)
  try simp only [Act.put, List.setIfInBounds_toArray, List.set_cons_zero, List.set_cons_succ]
  refine Ways.take (i := 12) (v := ?_) rfl (by kernel_rfl) (fun _ _ _ h => h) (Or.inl ⟨by rfl, ?_⟩) hHeld ?_
  rotate_left
  · (intro w hSw; (try dsimp only at hSw); go_simp; try with_reducible rfl)
  try simp only [Act.put, List.setIfInBounds_toArray, List.set_cons_zero, List.set_cons_succ]
  refine Ways.one (i := 5) rfl (by kernel_rfl) (fun K hK => ?_)
  go_simp
  refine (cbor_major hx.arg _ (by omega) (by omega)).mono ?_
  rintro e w1 ⟨rfl, hm⟩
  have hB1 := hB.drew.below hm
  have hC1 := hC.drew.below hm
  refine hK.out _ _ (fun _ => ?_) (fun hHeld => ?_)
  · exact ⟨hC1.cell 1 rfl, hB1.cell 0 rfl, hB1.cell 1 rfl, hB1.cell 2 rfl, hB1.cell 3 rfl⟩
  clear hK K
  have hHeld := hHeld (by decide)
  try simp only [Act.put, List.setIfInBounds_toArray, List.set_cons_zero, List.set_cons_succ]
  refine Ways.take (i := 6) (v := ?_) rfl (by kernel_rfl) (fun _ _ _ h => h) (Or.inl ⟨by rfl, ?_⟩) hHeld ?_
  rotate_left
  · (intro w hSw; (try dsimp only at hSw); go_simp; try with_reducible rfl)
  try simp only [Act.put, List.setIfInBounds_toArray, List.set_cons_zero, List.set_cons_succ]
  refine Ways.take (i := 7) (v := ?_) rfl (by kernel_rfl) (fun _ _ _ h => h) (Or.inl ⟨by rfl, ?_⟩) hHeld ?_
  rotate_left
  · (intro w hSw; (try dsimp only at hSw); go_simp; try with_reducible rfl)
  try simp only [Act.put, List.setIfInBounds_toArray, List.set_cons_zero, List.set_cons_succ]
  refine Ways.one (i := 8) rfl (by kernel_rfl) (fun K hK => ?_)
  go_simp
  refine (cbor_head _ _ _ (by omega) (by omega) (by omega) HN.2).mono ?_
  rintro e w2 ⟨r, rfl, hf⟩
  obtain ⟨A, c, rfl, _, _, _⟩ := hf.own.form
  have hB2 := hB1.below hf.2
  have hC2 := hC1.below hf.2
  refine hK.out _ _ (fun _ => ?_) (fun hHeld => ?_)
  · exact ⟨hC2.cell 1 rfl, hB2.cell 0 rfl, hB2.cell 1 rfl, hB2.cell 2 rfl, hB2.cell 3 rfl⟩
  clear hK K
  have hHeld := hHeld (by decide)
  try simp only [Act.put, List.setIfInBounds_toArray, List.set_cons_zero, List.set_cons_succ]
  refine Ways.take (i := 9) (v := ?_) rfl (by kernel_rfl) (fun _ _ _ h => h) (Or.inl ⟨by rfl, ?_⟩) hHeld ?_
  rotate_left
  · (intro w hSw; (try dsimp only at hSw); go_simp; try with_reducible rfl)
  try simp only [Act.put, List.setIfInBounds_toArray, List.set_cons_zero, List.set_cons_succ]
  refine Ways.take (i := 13) (v := ?_) rfl (by kernel_rfl) (fun _ _ _ h => h) (Or.inl ⟨by rfl, ?_⟩) hHeld ?_
  rotate_left
  · (intro w hSw; (try dsimp only at hSw); go_simp; try with_reducible rfl)
  try simp only [Act.put, List.setIfInBounds_toArray, List.set_cons_zero, List.set_cons_succ]
  refine Ways.take (i := 14) (v := ?_) rfl (by kernel_rfl) (fun _ _ _ h => h) (Or.inl ⟨by rfl, ?_⟩) hHeld ?_
  rotate_left
  · (intro w hSw; (try dsimp only at hSw); go_simp; try with_reducible rfl)
  try simp only [Act.put, List.setIfInBounds_toArray, List.set_cons_zero, List.set_cons_succ]
  refine Ways.take (i := 15) (v := ?_) rfl (by kernel_rfl) (fun _ _ _ h => h) (Or.inl ⟨by rfl, ?_⟩) hHeld ?_
  rotate_left
  · (intro w hSw; (try dsimp only at hSw); go_simp; try with_reducible rfl)
  try simp only [Act.put, List.setIfInBounds_toArray, List.set_cons_zero, List.set_cons_succ]
  refine Ways.take (i := 16) (v := ?_) rfl (by kernel_rfl) (fun _ _ _ h => h) (Or.inl ⟨by rfl, ?_⟩) hHeld ?_
  rotate_left
  · (intro w hSw; (try dsimp only at hSw); go_simp; try with_reducible rfl)
  try simp only [Act.put, List.setIfInBounds_toArray, List.set_cons_zero, List.set_cons_succ]
  refine Ways.one (i := 17) rfl (by kernel_rfl) (fun K hK => ?_)
  have d1 := hC2.cell 1 rfl
  have d2 := hC2.frozen 1
  go_simp
  refine hK.out _ _ (fun h => absurd rfl h) (fun _ => ?_)
  clear hK K
  try simp only [Act.put, List.setIfInBounds_toArray, List.set_cons_zero, List.set_cons_succ]
  refine Ways.done (by kernel_rfl) ?_
  have hw : Hid (IntKind.i64.wrap (s + IntKind.i64.wrap (((headB x.kind.toNat (numP x)).length : Int) + (x.bytes.length : Int))) = s + (spendP x : Int)) := by
    rw [Hid, E.out, IntWalk.i64_in (((headB x.kind.toNat (numP x)).length : Int) + (x.bytes.length : Int)) (by omega), IntWalk.i64_in _ (by omega)]
    omega
  have R : Chk (w2.setCell ⟨g, 1, none⟩ (.int .i64 (s + (spendP x : Int)))) g i (s + (spendP x : Int)) ∧ w.grownBy (w2.setCell ⟨g, 1, none⟩ (.int .i64 (s + (spendP x : Int)))) (some g) :=
    ⟨hC2.set_ 1 _, grown_set (grown_below (grown_below (grown_drew (grown_alloc (grown_refl w _) _)) hm) hf.2) (.inl rfl) _⟩
  rw [Int.toNat_natCast] at *
  rw [hw.out]
  have e1 := R.1.cell 1 rfl
  clear d1 d2
  go_wp2
  go_ret
  exact ⟨rfl, R⟩

theorem cbor_spend {H : Snap} {k n : Int} {ba : Option Addr} {bl bc : Nat} {ia : Option Addr} {il ic : Nat} {x : Itm} (hx : ItemA H k n ba bl bc ia il ic x) (w : World) (g : Nat) (i s : Int) (hc : Chk w g i s)
    (h0 : 0 ≤ x.kind) (h8 : x.kind ≤ 8) (hs0 : 0 ≤ s) (hs1 : s ≤ 1099511627776) (hbl : x.bytes.length ≤ 1099511627776) :
    Calls Tryz.prog 73 #[.pointer (some ⟨g, 0, none⟩), .agg #[.int .i64 k, .int .u64 n, .slice ba bl bc, .slice ia il ic]] w
      fun e w' => e = .returned (.bool (decide (s + spendP x ≤ 4096))) ∧ Chk w' g i (s + spendP x) ∧ w.grownBy w' (some g) := by
  obtain ⟨rfl, rfl, rfl, rfl, hx⟩ := hx
  by_cases h : x.kind = 8
  · exact spend_float hx w g i s hc h hs0 hs1
  by_cases h7 : x.kind = 7
  · exact spend_simple w g i s hc h7 hs0 hs1
  · exact spend_more hx w g i s hc h0 (by omega) hs0 hs1 hbl
end Go.Proofs.YtebcnkelbicbnaaGreatDoor
namespace Go.Proofs.YtebcnkelbicbnaaGreatDoor
open Go.RowKit

set_option maxRecDepth 100000 in
set_option maxHeartbeats 3200000 in
theorem cbor_ascending {H : Snap} (l : List Itm) (b off : Nat) (A : Option Addr) (ic : Nat) (w : World) (hA : 0 < l.length → A = some ⟨b, off, none⟩ ∧ IsElems H b off l) (hH : Holds w H) (hk : KindsL l)
    (hlen : ∀ k (h : k < l.length), (encB l[k]).length ≤ 1099511627776) (n : Nat) (hn : n = l.length) (hnn : n ≤ 1099511627776) :
    Calls Tryz.prog 74 #[.slice A n ic] w fun e w' => e = .returned (.bool (ascP l)) ∧ Below w.heap.size w w' := by
  obtain ⟨ans, hans⟩ : ∃ b, ascP l = b := ⟨_, rfl⟩
  rw [hans]
  have HAns := Lib.hid hans
  have HNn := Lib.hid hn
  have HLen := Lib.hid hlen
  have HAA := Lib.hid hA
  clear hans hn hlen hA
  go_enter Tryz.func74, Tryz.ntmps74
  go_wp2
  go_loopw [3] (fun i wr => ∃ j : Nat, 2 ≤ j ∧ i = .int .i64 j ∧ j ≤ n + 2 ∧ ascP (l.drop (j - 2)) = ans ∧ Below w.heap.size w wr) (fun i _ => (n + 2 - intOf i).toNat)
  case atStart => exact ⟨2, Nat.le_refl _, rfl, by omega, by simpa using HAns.out, Below.refl _ _⟩
  case round =>
    obtain ⟨j, h2, rfl, hj, hasc, hb⟩ := hrel
    by_cases hlt : j < n
    · have hn := HNn.out
      obtain ⟨hA, hel⟩ := HAA.out (by omega)
      have hstep := ascP_drop l j h2 (by omega)
      obtain ⟨y1, y2, y3, y4, p0, p1, p2, p3, hy⟩ := hel.get (j - 2) (by omega)
      obtain ⟨z1, z2, z3, z4, q0, q1, q2, q3, hz⟩ := hel.get j (by omega)
      have hky := hk.get (j - 2) (by omega)
      have hkz := hk.get j (by omega)
      have hly := HLen.out (j - 2) (by omega)
      have hlz := HLen.out j (by omega)
      generalize l[j - 2]'(by omega) = y at *
      generalize l[j]'(by omega) = z at *
      have hi0 : (0 : Int) ≤ (j : Int) - 2 := by omega
      have hi1 : (j : Int) - 2 < (n : Int) := by omega
      have hi3 : (2 : Int) ≤ (j : Int) := by omega
      have hi2 : (j : Int) < (n : Int) := by omega
      subst hA
      have HST := Lib.hid hstep
      have HASC := Lib.hid hasc
      have HSZ : Hid (w.heap.size ≤ wr.heap.size) := hb.size
      have hHr : Holds wr H := hH.below hb (Nat.le_refl _)
      have hH0 : Holds wr.drew H := hHr.drew
      have hw1 : IntKind.i64.wrap ((j : Int) - 2) = (j : Int) - 2 := IntWalk.i64_in _ (by omega)
      have hw2 : ((j : Int) - 2).toNat = j - 2 := by omega
      clear hstep hasc hn hel
      go_wp2_with fail
      refine wp_region_ways 12 (fun w' => w'.cell? ⟨b, off + (j - 2) * 4, none⟩ = some (.int .i64 y.kind) ∧ w'.cell? ⟨b, off + (j - 2) * 4 + 1, none⟩ = some (.int .u64 y.n) ∧ w'.cell? ⟨b, off + (j - 2) * 4 + 2, none⟩ = some (.slice y1 y.bytes.length y2) ∧ w'.cell? ⟨b, off + (j - 2) * 4 + 3, none⟩ = some (.slice y3 y.items.length y4) ∧ w'.cell? ⟨b, off + j * 4, none⟩ = some (.int .i64 z.kind) ∧ w'.cell? ⟨b, off + j * 4 + 1, none⟩ = some (.int .u64 z.n) ∧ w'.cell? ⟨b, off + j * 4 + 2, none⟩ = some (.slice z1 z.bytes.length z2) ∧ w'.cell? ⟨b, off + j * 4 + 3, none⟩ = some (.slice z3 z.items.length z4)) (by kernel_rfl) (⟨hHr.cell p0, hHr.cell p1, hHr.cell p2, hHr.cell p3, hHr.cell q0, hHr.cell q1, hHr.cell q2, hHr.cell q3⟩) (fun hHeld => ?_)
      refine Ways.take (i := 0) (v := ?_) rfl (by kernel_rfl) (fun _ _ _ h => h) (Or.inl ⟨by rfl, ?_⟩) hHeld ?_
      rotate_left
      · (intro w hSw; (try dsimp only at hSw); go_simp; try with_reducible rfl)
      try simp only [Act.put, List.setIfInBounds_toArray, List.set_cons_zero, List.set_cons_succ]
      refine Ways.take (i := 1) (v := ?_) rfl (by kernel_rfl) (fun _ _ _ h => h) (Or.inl ⟨by rfl, ?_⟩) hHeld ?_
      rotate_left
      · (intro w hSw; (try dsimp only at hSw); go_simp; try with_reducible rfl)
      try simp only [Act.put, List.setIfInBounds_toArray, List.set_cons_zero, List.set_cons_succ]
      refine Ways.take (i := 2) (v := ?_) rfl (by kernel_rfl) (fun _ _ _ h => h) (Or.inl ⟨by rfl, ?_⟩) hHeld ?_
      rotate_left
      · (intro w hSw; (try dsimp only at hSw); go_simp; try with_reducible rfl)
      try simp only [Act.put, List.setIfInBounds_toArray, List.set_cons_zero, List.set_cons_succ]
      refine Ways.take (i := 3) (v := ?_) rfl (by kernel_rfl) (fun _ _ _ h => h) (Or.inl ⟨by rfl, ?_⟩) hHeld ?_
      rotate_left
      · (intro w hSw; (try dsimp only at hSw); go_simp; try with_reducible rfl)
      try simp only [Act.put, List.setIfInBounds_toArray, List.set_cons_zero, List.set_cons_succ]
      refine Ways.take (i := 4) (v := ?_) rfl (by kernel_rfl) (fun _ _ _ h => h) (Or.inl ⟨by rfl, ?_⟩) hHeld ?_
      rotate_left
      · (intro w hSw; (try dsimp only at hSw); go_simp; try with_reducible rfl)
      try simp only [Act.put, List.setIfInBounds_toArray, List.set_cons_zero, List.set_cons_succ]
      refine Ways.take (i := 6) (v := ?_) rfl (by kernel_rfl) (fun _ _ _ h => h) (Or.inl ⟨by rfl, ?_⟩) hHeld ?_
      rotate_left
      · (intro w hSw; (try dsimp only at hSw); go_simp; try with_reducible rfl)
      try simp only [Act.put, List.setIfInBounds_toArray, List.set_cons_zero, List.set_cons_succ]
      refine Ways.take (i := 7) (v := ?_) rfl (by kernel_rfl) (fun _ _ _ h => h) (Or.inl ⟨by rfl, ?_⟩) hHeld ?_
      rotate_left
      · (intro w hSw; (try dsimp only at hSw); go_simp; try with_reducible rfl)
      try simp only [Act.put, List.setIfInBounds_toArray, List.set_cons_zero, List.set_cons_succ]
      refine Ways.take (i := 8) (v := ?_) rfl (by kernel_rfl) (fun _ _ _ h => h) (Or.inl ⟨by rfl, ?_⟩) hHeld ?_
      rotate_left
      · (intro w hSw; (try dsimp only at hSw); go_simp; try with_reducible rfl)
      try simp only [Act.put, List.setIfInBounds_toArray, List.set_cons_zero, List.set_cons_succ]
      refine Ways.take (i := 9) (v := ?_) rfl (by kernel_rfl) (fun _ _ _ h => h) (Or.inl ⟨by rfl, ?_⟩) hHeld ?_
      rotate_left
      · (intro w hSw; (try dsimp only at hSw); go_simp; try with_reducible rfl)
      try simp only [Act.put, List.setIfInBounds_toArray, List.set_cons_zero, List.set_cons_succ]
      refine Ways.one (i := 5) rfl (by kernel_rfl) (fun K hK => ?_)
      go_simp
      refine (cbor_add y H _ _ _ _ _ _ _ _ _ w.heap.size (.slice none 0 0) [] hky hy.arg hH0 (OwnB.nil _ _) HSZ.out (by simp [Value.ownBlock]) (by simpa using hly)).mono ?_
      rintro e w1 ⟨r1, rfl, ho1, hg1, ha1⟩
      obtain ⟨A1, c1, rfl, _, _, hs1⟩ := ho1.form
      have hb1 := grown_none hg1
      have hH1 : Holds w1 H := hH0.below hb1 (Nat.le_refl _)
      have hz1 := hb1.size
      simp only [List.nil_append] at ho1 hs1
      refine hK.out _ _ (fun _ => ?_) (fun hHeld => ?_)
      · exact ⟨hH1.cell p0, hH1.cell p1, hH1.cell p2, hH1.cell p3, hH1.cell q0, hH1.cell q1, hH1.cell q2, hH1.cell q3⟩
      clear hK K
      have hHeld := hHeld (by decide)
      try simp only [Act.put, List.setIfInBounds_toArray, List.set_cons_zero, List.set_cons_succ]
      refine Ways.one (i := 10) rfl (by kernel_rfl) (fun K hK => ?_)
      go_simp
      refine (cbor_add z H _ _ _ _ _ _ _ _ _ w.heap.size (.slice none 0 0) [] hkz hz.arg hH1 (OwnB.nil _ _) (Nat.le_trans HSZ.out hz1) (by simp [Value.ownBlock]) (by simpa using hlz)).mono ?_
      rintro e w2 ⟨r2, rfl, ho2, hg2, ha2⟩
      obtain ⟨A2, c2, rfl, _, _, hs2⟩ := ho2.form
      have hb2 := grown_none hg2
      have hH2 : Holds w2 H := hH1.below hb2 (Nat.le_refl _)
      simp only [List.nil_append] at ho2 hs2
      refine hK.out _ _ (fun _ => ?_) (fun hHeld => ?_)
      · exact ⟨hH2.cell p0, hH2.cell p1, hH2.cell p2, hH2.cell p3, hH2.cell q0, hH2.cell q1, hH2.cell q2, hH2.cell q3⟩
      clear hK K
      have hHeld := hHeld (by decide)
      try simp only [Act.put, List.setIfInBounds_toArray, List.set_cons_zero, List.set_cons_succ]
      refine Ways.one (i := 11) rfl (by kernel_rfl) (fun K hK => ?_)
      go_simp
      refine (bytes_Compare _ _ _ (encB y) (encB z) _ _ _ _ (by simp) (by simp) (hs1.below hb2) hs2).mono ?_
      rintro e w3 ⟨rfl, rfl⟩
      refine hK.out _ _ (fun _ => ?_) (fun hHeld => ?_)
      · exact ⟨hH2.cell p0, hH2.cell p1, hH2.cell p2, hH2.cell p3, hH2.cell q0, hH2.cell q1, hH2.cell q2, hH2.cell q3⟩
      clear hK K
      have hHeld := hHeld (by decide)
      try simp only [Act.put, List.setIfInBounds_toArray, List.set_cons_zero, List.set_cons_succ]
      refine Ways.one (i := 12) rfl (by kernel_rfl) (fun K hK => ?_)
      go_simp
      refine hK.out _ _ (fun h => absurd rfl h) (fun _ => ?_)
      clear hK K
      try simp only [Act.put, List.setIfInBounds_toArray, List.set_cons_zero, List.set_cons_succ]
      refine Ways.done (by kernel_rfl) ?_
      have hbw := hb.drew.trans ((hb1.trans (hb2.mono hz1)).mono HSZ.out)
      have hcmp := Lib.hid (And.intro HST.out HASC.out)
      clear HST HASC p0 p1 p2 p3 q0 q1 q2 q3 hHeld ho1 ho2 hg1 hg2 ha1 ha2 hs1 hs2
      generalize hcv : Lib.compareBytes (encB y) (encB z) = cv at *
      by_cases hc : (0 : Int) ≤ cv
      · have ha : ans = false := by
          obtain ⟨h1, h2⟩ := hcmp.out
          rw [← h2, h1]
          have : ¬ cv < 0 := by omega
          simp [this]
        have HAF := Lib.hid ha
        clear ha
        go_wp2
        go_ret
        exact ⟨(by rw [HAF.out]; rfl), hbw⟩
      · have ha : ascP (l.drop j) = ans := by
          obtain ⟨h1, h2⟩ := hcmp.out
          rw [← h2, h1]
          have : cv < 0 := by omega
          simp [this]
        have HAF := Lib.hid ha
        clear ha
        go_wp2
        go_roundw
        case rel => exact ⟨j + 2, by omega, by go_num, by omega, HAF.out, hbw⟩
        case measure => simp [intOf]; omega
    · have hn := HNn.out
      have hend := Lib.hid (ascP_end l j h2 (by omega))
      have HASC := Lib.hid hasc
      clear hasc hn
      go_wp2
      go_ret
      exact ⟨(by rw [← HASC.out, hend.out]; rfl), hb⟩
end Go.Proofs.YtebcnkelbicbnaaGreatDoor
namespace Go.Proofs.YtebcnkelbicbnaaGreatDoor
open Go.RowKit

/-- What the checker's method does with an item. -/
def Counts (w : World) (g : Nat) (o : Option (Nat × Nat)) (e : Ending) (w' : World) : Prop :=
  e = .returned (.bool o.isSome) ∧ w.grownBy w' (some g) ∧ ∃ i s : Int, Chk w' g i s ∧ ∀ p, o = some p → i = (p.1 : Int) ∧ s = (p.2 : Int)

def ItemSaid (x : Itm) : Prop := ∀ (H : Snap) (k n : Int) (ba : Option Addr) (bl bc : Nat) (ia : Option Addr) (il ic : Nat) (w : World) (g i s lv : Nat),
  Tabs H → ItemA H k n ba bl bc ia il ic x → Holds w H → H g = none → Chk w g i s → i ≤ 256 → s ≤ 4096 → lv ≤ 8 →
  Calls Tryz.prog 57 #[.pointer (some ⟨g, 0, none⟩), .agg #[.int .i64 k, .int .u64 n, .slice ba bl bc, .slice ia il ic], .int .i64 (lv : Int)] w (Counts w g (chk x lv i s))

set_option maxRecDepth 100000 in
set_option maxHeartbeats 1600000 in
theorem item_many (x : Itm) (i s lv : Nat) (h : 256 < i + 1 ∨ 4096 < x.bytes.length ∨ 256 < x.items.length) {H : Snap} {ba : Option Addr} {bc : Nat} {ia : Option Addr} {ic : Nat} (hx : IsItem H ba bc ia ic x) (w : World) (g : Nat)
    (hc : Chk w g i s) (hi : i ≤ 256) : Calls Tryz.prog 57 #[.pointer (some ⟨g, 0, none⟩), itemV x ba bc ia ic, .int .i64 (lv : Int)] w (Counts w g (chk x lv i s)) := by
  have E : Hid (chk x lv i s = none) := by rw [Hid, chk_eq, if_pos h]
  obtain ⟨_, _, _, hb1, hb2, hi1, hi2⟩ := hx.bounds
  have hb : x.bytes.length ≤ 9223372036854775807 := by omega
  have hil : x.items.length ≤ 9223372036854775807 := by omega
  have hlt := hc.lt
  have c0 := hc.cell 0 rfl
  have f0 := hc.frozen 0
  have c00 := (hc.set_ 0 (.int .i64 ((i : Int) + 1))).cell 0 rfl
  have R := Lib.hid (And.intro ((hc.set_ 0 (.int .i64 ((i : Int) + 1))).alloc (.cells #[.int .i64 x.kind, .int .u64 x.n, .slice ba x.bytes.length bc, .slice ia x.items.length ic] 26))
    (grown_alloc (grown_set (grown_refl w (some g)) (.inl (rfl : (⟨g, 0, none⟩ : Addr).block = g)) (.int .i64 ((i : Int) + 1))) (.cells #[.int .i64 x.kind, .int .u64 x.n, .slice ba x.bytes.length bc, .slice ia x.items.length ic] 26)))
  have HH := Lib.hid h
  clear hx hb1 hb2 hi1 hi2 h
  go_enter Tryz.func57, Tryz.ntmps57
  go_wp2_with fail
  all_goals first
    | (go_ret; exact ⟨by rw [E.out]; rfl, R.out.2, _, _, R.out.1, by rw [E.out]; intro p hp; cases hp⟩)
    | (exfalso; have := HH.out; omega)

/-- The world behind the count, with the item in its box. -/
abbrev boxed (w : World) (g : Nat) (i : Int) (x : Itm) (ba : Option Addr) (bc : Nat) (ia : Option Addr) (ic : Nat) : World :=
  (w.setCell ⟨g, 0, none⟩ (.int .i64 i)).alloc (.cells #[.int .i64 x.kind, .int .u64 x.n, .slice ba x.bytes.length bc, .slice ia x.items.length ic] 26)

set_option maxRecDepth 100000 in
set_option maxHeartbeats 1600000 in
theorem item_plain (x : Itm) (i s lv : Nat) (h1 : i + 1 ≤ 256) (h2 : x.bytes.length ≤ 4096) (h3 : x.items.length ≤ 256) (hp : isPlain x = true) {H : Snap} (hT : Tabs H) {ba : Option Addr} {bc : Nat} {ia : Option Addr} {ic : Nat} (hx : IsItem H ba bc ia ic x)
    (w : World) (hH : Holds w H) (g : Nat) (hg : H g = none) (hc : Chk w g i s) (hs : s ≤ 4096) :
    Calls Tryz.prog 57 #[.pointer (some ⟨g, 0, none⟩), itemV x ba bc ia ic, .int .i64 (lv : Int)] w (Counts w g (chk x lv i s)) := by
  have E : Hid (chk x lv i s = if okPlain x = true ∧ s + spendP x ≤ 4096 then some (i + 1, s + spendP x) else none) := by rw [Hid, chk_eq, if_neg (by omega), if_pos hp]
  have hk := (isPlain_iff x).1 hp
  have hk0 : 0 ≤ x.kind := by omega
  have hk8 : x.kind ≤ 8 := by omega
  have hlt := hc.lt
  have c0 := hc.cell 0 rfl
  have f0 := hc.frozen 0
  have c00 := (hc.set_ 0 (.int .i64 ((i : Int) + 1))).cell 0 rfl
  have hC1 : Chk (boxed w g ((i : Int) + 1) x ba bc ia ic) g ((i : Int) + 1) s := (hc.set_ 0 _).alloc _
  have hB1 : Blk (boxed w g ((i : Int) + 1) x ba bc ia ic) w.heap.size 26 #[.int .i64 x.kind, .int .u64 x.n, .slice ba x.bytes.length bc, .slice ia x.items.length ic] := by
    have := Blk.new (w.setCell ⟨g, 0, none⟩ (.int .i64 ((i : Int) + 1))) 26 #[.int .i64 x.kind, .int .u64 x.n, .slice ba x.bytes.length bc, .slice ia x.items.length ic]
    rwa [show (w.setCell ⟨g, 0, none⟩ (.int .i64 ((i : Int) + 1))).heap.size = w.heap.size by simp [World.setCell]] at this
  have hG1 : w.grownBy (boxed w g ((i : Int) + 1) x ba bc ia ic) (some g) := grown_alloc (grown_set (grown_refl w (some g)) (.inl rfl) _) _
  have hH1 : Holds (boxed w g ((i : Int) + 1) x ba bc ia ic) H := (hH.setCell hg _).alloc _
  clear hk
  have hxa := hx.arg
  clear hx
  go_enter Tryz.func57, Tryz.ntmps57
  go_wp2_with fail
  refine (cbor_plain hT hxa _ hH1).mono ?_
  rintro e w2 ⟨rfl, hb2⟩
  have hC2 := hC1.below hb2
  have hB2 := hB1.below hb2
  have hG2 := grown_below hG1 hb2
  have b0 := hB2.cell 0 rfl
  have b1 := hB2.cell 1 rfl
  have b2 := hB2.cell 2 rfl
  have b3 := hB2.cell 3 rfl
  by_cases ho : okPlain x = true
  · go_wp2_with fail
    refine (cbor_spend hxa w2 g ((i : Int) + 1) s hC2 hk0 hk8 (by omega) (by omega) (by omega)).mono ?_
    rintro e w3 ⟨rfl, hC3, hG3⟩
    have R := Lib.hid (And.intro (grown_step hG2 hG3 (.inl rfl)) hC3)
    clear c0 f0 c00 hC1 hB1 hG1 hH1 hC2 hB2 hG2 b0 b1 b2 b3 hC3 hG3
    go_wp2_with fail
    go_ret
    refine ⟨?_, R.out.1, _, _, R.out.2, ?_⟩
    · rw [E.out]
      by_cases hle : s + spendP x ≤ 4096
      · rw [if_pos ⟨ho, hle⟩, show decide ((s : Int) + (spendP x : Int) ≤ 4096) = true by simp; omega]
        rfl
      · rw [if_neg (fun h => hle h.2), show decide ((s : Int) + (spendP x : Int) ≤ 4096) = false by simp; omega]
        rfl
    · intro p hp
      rw [E.out] at hp
      split at hp
      · injection hp with hp
        subst hp
        exact ⟨by simp, by simp⟩
      · cases hp
  · have ho' : okPlain x = false := by simpa using ho
    clear ho
    have R := Lib.hid (And.intro hG2 hC2)
    clear c0 f0 c00 hC1 hB1 hG1 hH1 hC2 hB2 hG2 b0 b1 b2 b3
    go_wp2_with fail
    go_ret
    have e0 : chk x lv i s = none := by rw [E.out, if_neg (fun h => by rw [ho'] at h; cases h.1)]
    exact ⟨by rw [e0]; rfl, R.out.1, _, _, R.out.2, by rw [e0]; intro p hp; cases hp⟩

set_option maxRecDepth 100000 in
set_option maxHeartbeats 1600000 in
theorem item_frame (x : Itm) (i s lv : Nat) (h1 : i + 1 ≤ 256) (h2 : x.bytes.length ≤ 4096) (h3 : x.items.length ≤ 256) (hp : isPlain x = false) (hf : frameOk x lv = false) {H : Snap} (hT : Tabs H) {ba : Option Addr} {bc : Nat} {ia : Option Addr} {ic : Nat} (hx : IsItem H ba bc ia ic x)
    (w : World) (hH : Holds w H) (g : Nat) (hg : H g = none) (hc : Chk w g i s) (hs : s ≤ 4096) (hlv : lv ≤ 8) :
    Calls Tryz.prog 57 #[.pointer (some ⟨g, 0, none⟩), itemV x ba bc ia ic, .int .i64 (lv : Int)] w (Counts w g (chk x lv i s)) := by
  have E : Hid (chk x lv i s = none) := by rw [Hid, chk_eq, if_neg (by omega), if_neg (by simp [hp]), if_pos hf]
  have hlt := hc.lt
  have c0 := hc.cell 0 rfl
  have f0 := hc.frozen 0
  have c00 := (hc.set_ 0 (.int .i64 ((i : Int) + 1))).cell 0 rfl
  have hC1 : Chk (boxed w g ((i : Int) + 1) x ba bc ia ic) g ((i : Int) + 1) s := (hc.set_ 0 _).alloc _
  have hB1 : Blk (boxed w g ((i : Int) + 1) x ba bc ia ic) w.heap.size 26 #[.int .i64 x.kind, .int .u64 x.n, .slice ba x.bytes.length bc, .slice ia x.items.length ic] := by
    have := Blk.new (w.setCell ⟨g, 0, none⟩ (.int .i64 ((i : Int) + 1))) 26 #[.int .i64 x.kind, .int .u64 x.n, .slice ba x.bytes.length bc, .slice ia x.items.length ic]
    rwa [show (w.setCell ⟨g, 0, none⟩ (.int .i64 ((i : Int) + 1))).heap.size = w.heap.size by simp [World.setCell]] at this
  have hG1 : w.grownBy (boxed w g ((i : Int) + 1) x ba bc ia ic) (some g) := grown_alloc (grown_set (grown_refl w (some g)) (.inl rfl) _) _
  have hH1 : Holds (boxed w g ((i : Int) + 1) x ba bc ia ic) H := (hH.setCell hg _).alloc _
  have hxa := hx.arg
  have HF := Lib.hid hf
  clear hx hf
  go_enter Tryz.func57, Tryz.ntmps57
  go_wp2_with fail
  refine (cbor_plain hT hxa _ hH1).mono ?_
  rintro e w2 ⟨rfl, hb2⟩
  have hC2 := hC1.below hb2
  have hB2 := hB1.below hb2
  have R := Lib.hid (And.intro (grown_below hG1 hb2) hC2)
  have b0 := hB2.cell 0 rfl
  have b1 := hB2.cell 1 rfl
  have b2 := hB2.cell 2 rfl
  have b3 := hB2.cell 3 rfl
  clear c0 f0 c00 hC1 hB1 hG1 hH1 hC2 hB2 hb2
  go_wp2_with fail
  all_goals first
    | (go_ret; exact ⟨by rw [E.out]; rfl, R.out.1, _, _, R.out.2, by rw [E.out]; intro p hp; cases hp⟩)
    | skip
  all_goals try simp only [beq_eq_false_iff_ne, ne_eq] at *
  all_goals exact absurd (show _ ∧ _ ∧ _ ∧ _ ∧ _ ∧ _ ∧ _ from ⟨by omega, by omega, by omega, by omega, fun _ => by omega, fun _ => by omega, fun _ => by omega⟩) (of_decide_eq_false HF.out)
end Go.Proofs.YtebcnkelbicbnaaGreatDoor
