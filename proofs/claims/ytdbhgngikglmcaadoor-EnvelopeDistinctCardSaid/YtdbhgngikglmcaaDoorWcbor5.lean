/- Walks: cbor.checker.spend. -/
import Derived.Test.YtdbhgngikglmcaaDoorWcbor4
import Derived.Test.YtdbhgngikglmcaaDoorJmem
set_option linter.unusedVariables false
set_option linter.unusedSimpArgs false
namespace Go.Proofs.YtdbhgngikglmcaaDoor
open Go.RowKit

/-- The checker's struct lies in block g. -/
abbrev Chk (w : World) (g : Nat) (i s : Int) : Prop := Blk w g 94 #[.int .i64 i, .int .i64 s]

set_option maxRecDepth 100000 in
set_option maxHeartbeats 1600000 in
theorem spend_float {H : Snap} {x : Itm} {ba : Option Addr} {bc : Nat} {ia : Option Addr} {ic : Nat} (hx : IsItem H ba bc ia ic x) (w : World) (g : Nat) (i s : Int) (hc : Chk w g i s) (h8 : x.kind = 8) (hs0 : 0 ≤ s) (hs1 : s ≤ 1099511627776) :
    Calls Tryd.prog 73 #[.pointer (some ⟨g, 0, none⟩), itemV x ba bc ia ic] w fun e w' => e = .returned (.bool (decide (s + spendP x ≤ 4096))) ∧ Chk w' g i (s + spendP x) ∧ w.grownBy w' (some g) := by
  have hfl := floatB_length x.n
  have E : Hid (spendP x = (floatB x.n).length) := by simp [Hid, spendP, h8]
  obtain ⟨_, _, hn, _⟩ := hx.bounds
  have HN : U64 x.n := ⟨by omega, by omega⟩
  have hlt := hc.lt
  have hB := Blk.new w 26 #[.int .i64 8, .int .u64 x.n, .slice ba x.bytes.length bc, .slice ia x.items.length ic]
  have hC := hc.alloc (.cells #[.int .i64 8, .int .u64 x.n, .slice ba x.bytes.length bc, .slice ia x.items.length ic] 26)
  clear hx hn
  go_enter Tryd.func73, Tryd.ntmps73
  go_wp2_with fail
  refine wp_region_ways 11 (fun w' => w'.cell? ⟨g, 1, none⟩ = some (.int .i64 s) ∧ w'.cell? ⟨w.heap.size, 1, none⟩ = some (.int .u64 x.n)) (by kernel_rfl) (⟨hC.cell 1 rfl, hB.cell 1 rfl⟩) (fun hHeld => ?_)
  refine Ways.take (i := 0) (v := ?_) rfl (by kernel_rfl) (fun _ _ _ h => h) (Or.inl ⟨by rfl, ?_⟩) hHeld ?_
  rotate_left
  · (intro w hSw; (try dsimp only at hSw); go_simp; try with_reducible rfl)
  try simp only [Act.put, List.setIfInBounds_toArray, List.set_cons_zero, List.set_cons_succ]
  refine Ways.take (i := 1) (v := ?_) rfl (by kernel_rfl) (fun _ _ _ h => h) (Or.inl ⟨by rfl, ?_⟩) hHeld ?_
  rotate_left
  · (intro w hSw; (try dsimp only at hSw); go_simp; try with_reducible rfl)
  try simp only [Act.put, List.setIfInBounds_toArray, List.set_cons_zero, List.set_cons_succ]
  refine Ways.take (i := 2) (v := ?_) rfl (by kernel_rfl) (fun _ _ _ h => h) (Or.inl ⟨by rfl, ?_⟩) hHeld ?_
  rotate_left
  · (intro w hSw; (try dsimp only at hSw); go_simp; try with_reducible rfl)
  try simp only [Act.put, List.setIfInBounds_toArray, List.set_cons_zero, List.set_cons_succ]
  refine Ways.take (i := 3) (v := ?_) rfl (by kernel_rfl) (fun _ _ _ h => h) (Or.inl ⟨by rfl, ?_⟩) hHeld ?_
  rotate_left
  · (intro w hSw; (try dsimp only at hSw); go_simp; try with_reducible rfl)
  try simp only [Act.put, List.setIfInBounds_toArray, List.set_cons_zero, List.set_cons_succ]
  refine Ways.take (i := 4) (v := ?_) rfl (by kernel_rfl) (fun _ _ _ h => h) (Or.inl ⟨by rfl, ?_⟩) hHeld ?_
  rotate_left
  · (intro w hSw; (try dsimp only at hSw); go_simp; try with_reducible rfl)
  try simp only [Act.put, List.setIfInBounds_toArray, List.set_cons_zero, List.set_cons_succ]
  refine Ways.take (i := 5) (v := ?_) rfl (by kernel_rfl) (fun _ _ _ h => h) (Or.inl ⟨by rfl, ?_⟩) hHeld ?_
  rotate_left
  · (intro w hSw; (try dsimp only at hSw); go_simp; try with_reducible rfl)
  try simp only [Act.put, List.setIfInBounds_toArray, List.set_cons_zero, List.set_cons_succ]
  refine Ways.one (i := 6) rfl (by kernel_rfl) (fun K hK => ?_)
  go_simp
  refine (cbor_float _ _ HN.1 HN.2).mono ?_
  rintro e w1 ⟨r, rfl, hf⟩
  obtain ⟨A, c, rfl, _, _, _⟩ := hf.own.form
  have hC1 := hC.drew.below hf.2
  refine hK.out _ _ (fun _ => ?_) (fun hHeld => ?_)
  · exact ⟨hC1.cell 1 rfl, (hB.drew.below hf.2).cell 1 rfl⟩
  clear hK K
  have hHeld := hHeld (by decide)
  try simp only [Act.put, List.setIfInBounds_toArray, List.set_cons_zero, List.set_cons_succ]
  refine Ways.take (i := 7) (v := ?_) rfl (by kernel_rfl) (fun _ _ _ h => h) (Or.inl ⟨by rfl, ?_⟩) hHeld ?_
  rotate_left
  · (intro w hSw; (try dsimp only at hSw); go_simp; try with_reducible rfl)
  try simp only [Act.put, List.setIfInBounds_toArray, List.set_cons_zero, List.set_cons_succ]
  refine Ways.take (i := 8) (v := ?_) rfl (by kernel_rfl) (fun _ _ _ h => h) (Or.inl ⟨by rfl, ?_⟩) hHeld ?_
  rotate_left
  · (intro w hSw; (try dsimp only at hSw); go_simp; try with_reducible rfl)
  try simp only [Act.put, List.setIfInBounds_toArray, List.set_cons_zero, List.set_cons_succ]
  refine Ways.take (i := 9) (v := ?_) rfl (by kernel_rfl) (fun _ _ _ h => h) (Or.inl ⟨by rfl, ?_⟩) hHeld ?_
  rotate_left
  · (intro w hSw; (try dsimp only at hSw); go_simp; try with_reducible rfl)
  try simp only [Act.put, List.setIfInBounds_toArray, List.set_cons_zero, List.set_cons_succ]
  refine Ways.take (i := 10) (v := ?_) rfl (by kernel_rfl) (fun _ _ _ h => h) (Or.inl ⟨by rfl, ?_⟩) hHeld ?_
  rotate_left
  · (intro w hSw; (try dsimp only at hSw); go_simp; try with_reducible rfl)
  try simp only [Act.put, List.setIfInBounds_toArray, List.set_cons_zero, List.set_cons_succ]
  refine Ways.one (i := 11) rfl (by kernel_rfl) (fun K hK => ?_)
  have d1 := hC1.cell 1 rfl
  have d2 := hC1.frozen 1
  go_simp
  refine hK.out _ _ (fun h => absurd rfl h) (fun _ => ?_)
  clear hK K
  try simp only [Act.put, List.setIfInBounds_toArray, List.set_cons_zero, List.set_cons_succ]
  refine Ways.done (by kernel_rfl) ?_
  all_goals
    have hw : Hid (IntKind.i64.wrap (s + ((floatB x.n).length : Int)) = s + (spendP x : Int)) := by rw [Hid, E.out]; exact IntWalk.i64_in _ (by omega)
    have R : Chk (w1.setCell ⟨g, 1, none⟩ (.int .i64 (s + (spendP x : Int)))) g i (s + (spendP x : Int)) ∧ w.grownBy (w1.setCell ⟨g, 1, none⟩ (.int .i64 (s + (spendP x : Int)))) (some g) :=
      ⟨(hC.drew.below hf.2).set_ 1 _, grown_set (grown_below (grown_drew (grown_alloc (grown_refl w _) _)) hf.2) (.inl rfl) _⟩
    rw [hw.out]
    have e1 := R.1.cell 1 rfl
    clear d1 d2
    go_wp2
    go_ret
    exact ⟨rfl, R⟩

set_option maxRecDepth 100000 in
set_option maxHeartbeats 1600000 in
theorem spend_simple {x : Itm} {ba : Option Addr} {bc : Nat} {ia : Option Addr} {ic : Nat} (w : World) (g : Nat) (i s : Int) (hc : Chk w g i s) (h7 : x.kind = 7) (hs0 : 0 ≤ s) (hs1 : s ≤ 1099511627776) :
    Calls Tryd.prog 73 #[.pointer (some ⟨g, 0, none⟩), itemV x ba bc ia ic] w fun e w' => e = .returned (.bool (decide (s + spendP x ≤ 4096))) ∧ Chk w' g i (s + spendP x) ∧ w.grownBy w' (some g) := by
  have hlt := hc.lt
  have c1 := hc.cell 1 rfl
  have f1 := hc.frozen 1
  by_cases h24 : (24 : Int) ≤ (x.n : Int)
  · have E : Hid ((spendP x : Int) = 2) := by
      have : 24 ≤ x.n := by omega
      simp [Hid, spendP, h7, this]
    have d1 := (hc.set_ 1 (.int .i64 (s + 1))).cell 1 rfl
    have g1 := (hc.set_ 1 (.int .i64 (s + 1))).frozen 1
    go_enter Tryd.func73, Tryd.ntmps73
    go_wp2
    go_ret
    have e : s + 1 + 1 = s + (spendP x : Int) := by rw [E.out]; omega
    rw [← e]
    exact ⟨rfl, ((hc.set_ 1 _).set_ 1 _).alloc _, grown_alloc (grown_set (grown_set (grown_refl w _) (.inl rfl) _) (.inl rfl) _) _⟩
  · have E : Hid ((spendP x : Int) = 1) := by
      have : ¬ 24 ≤ x.n := by omega
      simp [Hid, spendP, h7, this]
    have d1 := (hc.set_ 1 (.int .i64 (s + 1))).cell 1 rfl
    go_enter Tryd.func73, Tryd.ntmps73
    go_wp2
    go_ret
    have e : s + 1 = s + (spendP x : Int) := by rw [E.out]
    rw [← e]
    exact ⟨rfl, (hc.set_ 1 _).alloc _, grown_alloc (grown_set (grown_refl w _) (.inl rfl) _) _⟩

set_option maxRecDepth 100000 in
set_option maxHeartbeats 3200000 in
theorem spend_more {H : Snap} {x : Itm} {ba : Option Addr} {bc : Nat} {ia : Option Addr} {ic : Nat} (hx : IsItem H ba bc ia ic x) (w : World) (g : Nat) (i s : Int) (hc : Chk w g i s) (h0 : 0 ≤ x.kind) (h7 : x.kind < 7) (hs0 : 0 ≤ s) (hs1 : s ≤ 1099511627776) (hbl : x.bytes.length ≤ 1099511627776) :
    Calls Tryd.prog 73 #[.pointer (some ⟨g, 0, none⟩), itemV x ba bc ia ic] w fun e w' => e = .returned (.bool (decide (s + spendP x ≤ 4096))) ∧ Chk w' g i (s + spendP x) ∧ w.grownBy w' (some g) := by
  have hlt := hc.lt
  have hN0 : (numP x : Int) < 18446744073709551616 := by
    have := hx.bounds
    unfold numP
    repeat' split
    all_goals omega
  have HN : U64 (numP x) := ⟨by omega, hN0⟩
  have hb9 := headB_le x.kind.toNat (numP x)
  have E : Hid (spendP x = (headB x.kind.toNat (numP x)).length + x.bytes.length) := by rw [Hid, spendP, if_neg (by omega), if_neg (by omega)]
  have b7 : (x.kind == 7) = false := by simp; omega
  have b8 : (x.kind == 8) = false := by simp; omega
  have hB := Blk.new w 26 #[.int .i64 x.kind, .int .u64 x.n, .slice ba x.bytes.length bc, .slice ia x.items.length ic]
  have hC := hc.alloc (.cells #[.int .i64 x.kind, .int .u64 x.n, .slice ba x.bytes.length bc, .slice ia x.items.length ic] 26)
  clear hN0
  go_enter Tryd.func73, Tryd.ntmps73
  go_wp2_with fail
  refine wp_region_ways 17 (fun w' => w'.cell? ⟨g, 1, none⟩ = some (.int .i64 s) ∧ w'.cell? ⟨w.heap.size, 0, none⟩ = some (.int .i64 x.kind) ∧ w'.cell? ⟨w.heap.size, 1, none⟩ = some (.int .u64 x.n) ∧ w'.cell? ⟨w.heap.size, 2, none⟩ = some (.slice ba x.bytes.length bc) ∧ w'.cell? ⟨w.heap.size, 3, none⟩ = some (.slice ia x.items.length ic)) (by kernel_rfl) (⟨hC.cell 1 rfl, hB.cell 0 rfl, hB.cell 1 rfl, hB.cell 2 rfl, hB.cell 3 rfl⟩) (fun hHeld => ?_)
  refine Ways.take (i := 0) (v := ?_) rfl (by kernel_rfl) (fun _ _ _ h => h) (Or.inl ⟨by rfl, ?_⟩) hHeld ?_
  rotate_left
  · (intro w hSw; (try dsimp only at hSw); go_simp; try with_reducible rfl)
  try simp only [Act.put, List.setIfInBounds_toArray, List.set_cons_zero, List.set_cons_succ]
  refine Ways.take (i := 1) (v := ?_) rfl (by kernel_rfl) (fun _ _ _ h => h) (Or.inl ⟨by rfl, ?_⟩) hHeld ?_
  rotate_left
  · (intro w hSw; (try dsimp only at hSw); go_simp; try with_reducible rfl)
  try simp only [Act.put, List.setIfInBounds_toArray, List.set_cons_zero, List.set_cons_succ]
  refine Ways.take (i := 2) (v := ?_) rfl (by kernel_rfl) (fun _ _ _ h => h) (Or.inl ⟨by rfl, ?_⟩) hHeld ?_
  rotate_left
  · (intro w hSw; (try dsimp only at hSw); go_simp; try with_reducible rfl)
  try simp only [Act.put, List.setIfInBounds_toArray, List.set_cons_zero, List.set_cons_succ]
  refine Ways.take (i := 3) (v := ?_) rfl (by kernel_rfl) (fun _ _ _ h => h) (Or.inl ⟨by rfl, ?_⟩) hHeld ?_
  rotate_left
  · (intro w hSw; (try dsimp only at hSw); go_simp; try with_reducible rfl)
  try simp only [Act.put, List.setIfInBounds_toArray, List.set_cons_zero, List.set_cons_succ]
  refine Ways.take (i := 4) (v := ?_) rfl (by kernel_rfl) (fun _ _ _ h => h) (Or.inl ⟨by rfl, ?_⟩) hHeld ?_
  rotate_left
  · (intro w hSw; (try dsimp only at hSw); go_simp; try with_reducible rfl)
  try simp only [Act.put, List.setIfInBounds_toArray, List.set_cons_zero, List.set_cons_succ]
  refine Ways.take (i := 10) (v := ?_) rfl (by kernel_rfl) (fun _ _ _ h => h) (Or.inl ⟨by rfl, ?_⟩) hHeld ?_
  rotate_left
  · (intro w hSw; (try dsimp only at hSw); go_simp; try with_reducible rfl)
  try simp only [Act.put, List.setIfInBounds_toArray, List.set_cons_zero, List.set_cons_succ]
  refine Ways.take (i := 11) (v := ?_) rfl (by kernel_rfl) (fun _ _ _ h => h) (Or.inl ⟨by rfl, ?_⟩) hHeld ?_
  rotate_left
  · (intro w hSw; (try dsimp only at hSw); go_simp; try with_reducible rfl)
  try simp only [Act.put, List.setIfInBounds_toArray, List.set_cons_zero, List.set_cons_succ]
  refine Ways.take (i := 12) (v := ?_) rfl (by kernel_rfl) (fun _ _ _ h => h) (Or.inl ⟨by rfl, ?_⟩) hHeld ?_
  rotate_left
  · (intro w hSw; (try dsimp only at hSw); go_simp; try with_reducible rfl)
  try simp only [Act.put, List.setIfInBounds_toArray, List.set_cons_zero, List.set_cons_succ]
  refine Ways.one (i := 5) rfl (by kernel_rfl) (fun K hK => ?_)
  go_simp
  refine (cbor_major hx.arg _ (by omega) (by omega)).mono ?_
  rintro e w1 ⟨rfl, hm⟩
  have hB1 := hB.drew.below hm
  have hC1 := hC.drew.below hm
  refine hK.out _ _ (fun _ => ?_) (fun hHeld => ?_)
  · exact ⟨hC1.cell 1 rfl, hB1.cell 0 rfl, hB1.cell 1 rfl, hB1.cell 2 rfl, hB1.cell 3 rfl⟩
  clear hK K
  have hHeld := hHeld (by decide)
  try simp only [Act.put, List.setIfInBounds_toArray, List.set_cons_zero, List.set_cons_succ]
  refine Ways.take (i := 6) (v := ?_) rfl (by kernel_rfl) (fun _ _ _ h => h) (Or.inl ⟨by rfl, ?_⟩) hHeld ?_
  rotate_left
  · (intro w hSw; (try dsimp only at hSw); go_simp; try with_reducible rfl)
  try simp only [Act.put, List.setIfInBounds_toArray, List.set_cons_zero, List.set_cons_succ]
  refine Ways.take (i := 7) (v := ?_) rfl (by kernel_rfl) (fun _ _ _ h => h) (Or.inl ⟨by rfl, ?_⟩) hHeld ?_
  rotate_left
  · (intro w hSw; (try dsimp only at hSw); go_simp; try with_reducible rfl)
  try simp only [Act.put, List.setIfInBounds_toArray, List.set_cons_zero, List.set_cons_succ]
  refine Ways.one (i := 8) rfl (by kernel_rfl) (fun K hK => ?_)
  go_simp
  refine (cbor_head _ _ _ (by omega) (by omega) (by omega) HN.2).mono ?_
  rintro e w2 ⟨r, rfl, hf⟩
  obtain ⟨A, c, rfl, _, _, _⟩ := hf.own.form
  have hB2 := hB1.below hf.2
  have hC2 := hC1.below hf.2
  refine hK.out _ _ (fun _ => ?_) (fun hHeld => ?_)
  · exact ⟨hC2.cell 1 rfl, hB2.cell 0 rfl, hB2.cell 1 rfl, hB2.cell 2 rfl, hB2.cell 3 rfl⟩
  clear hK K
  have hHeld := hHeld (by decide)
  try simp only [Act.put, List.setIfInBounds_toArray, List.set_cons_zero, List.set_cons_succ]
  refine Ways.take (i := 9) (v := ?_) rfl (by kernel_rfl) (fun _ _ _ h => h) (Or.inl ⟨by rfl, ?_⟩) hHeld ?_
  rotate_left
  · (intro w hSw; (try dsimp only at hSw); go_simp; try with_reducible rfl)
  try simp only [Act.put, List.setIfInBounds_toArray, List.set_cons_zero, List.set_cons_succ]
  refine Ways.take (i := 13) (v := ?_) rfl (by kernel_rfl) (fun _ _ _ h => h) (Or.inl ⟨by rfl, ?_⟩) hHeld ?_
  rotate_left
  · (intro w hSw; (try dsimp only at hSw); go_simp; try with_reducible rfl)
  try simp only [Act.put, List.setIfInBounds_toArray, List.set_cons_zero, List.set_cons_succ]
  refine Ways.take (i := 14) (v := ?_) rfl (by kernel_rfl) (fun _ _ _ h => h) (Or.inl ⟨by rfl, ?_⟩) hHeld ?_
  rotate_left
  · (intro w hSw; (try dsimp only at hSw); go_simp; try with_reducible rfl)
  try simp only [Act.put, List.setIfInBounds_toArray, List.set_cons_zero, List.set_cons_succ]
  refine Ways.take (i := 15) (v := ?_) rfl (by kernel_rfl) (fun _ _ _ h => h) (Or.inl ⟨by rfl, ?_⟩) hHeld ?_
  rotate_left
  · (intro w hSw; (try dsimp only at hSw); go_simp; try with_reducible rfl)
  try simp only [Act.put, List.setIfInBounds_toArray, List.set_cons_zero, List.set_cons_succ]
  refine Ways.take (i := 16) (v := ?_) rfl (by kernel_rfl) (fun _ _ _ h => h) (Or.inl ⟨by rfl, ?_⟩) hHeld ?_
  rotate_left
  · (intro w hSw; (try dsimp only at hSw); go_simp; try with_reducible rfl)
  try simp only [Act.put, List.setIfInBounds_toArray, List.set_cons_zero, List.set_cons_succ]
  refine Ways.one (i := 17) rfl (by kernel_rfl) (fun K hK => ?_)
  have d1 := hC2.cell 1 rfl
  have d2 := hC2.frozen 1
  go_simp
  refine hK.out _ _ (fun h => absurd rfl h) (fun _ => ?_)
  clear hK K
  try simp only [Act.put, List.setIfInBounds_toArray, List.set_cons_zero, List.set_cons_succ]
  refine Ways.done (by kernel_rfl) ?_
  have hw : Hid (IntKind.i64.wrap (s + IntKind.i64.wrap (((headB x.kind.toNat (numP x)).length : Int) + (x.bytes.length : Int))) = s + (spendP x : Int)) := by
    rw [Hid, E.out, IntWalk.i64_in (((headB x.kind.toNat (numP x)).length : Int) + (x.bytes.length : Int)) (by omega), IntWalk.i64_in _ (by omega)]
    omega
  have R : Chk (w2.setCell ⟨g, 1, none⟩ (.int .i64 (s + (spendP x : Int)))) g i (s + (spendP x : Int)) ∧ w.grownBy (w2.setCell ⟨g, 1, none⟩ (.int .i64 (s + (spendP x : Int)))) (some g) :=
    ⟨hC2.set_ 1 _, grown_set (grown_below (grown_below (grown_drew (grown_alloc (grown_refl w _) _)) hm) hf.2) (.inl rfl) _⟩
  rw [Int.toNat_natCast] at *
  rw [hw.out]
  have e1 := R.1.cell 1 rfl
  clear d1 d2
  go_wp2
  go_ret
  exact ⟨rfl, R⟩

theorem cbor_spend {H : Snap} {k n : Int} {ba : Option Addr} {bl bc : Nat} {ia : Option Addr} {il ic : Nat} {x : Itm} (hx : ItemA H k n ba bl bc ia il ic x) (w : World) (g : Nat) (i s : Int) (hc : Chk w g i s)
    (h0 : 0 ≤ x.kind) (h8 : x.kind ≤ 8) (hs0 : 0 ≤ s) (hs1 : s ≤ 1099511627776) (hbl : x.bytes.length ≤ 1099511627776) :
    Calls Tryd.prog 73 #[.pointer (some ⟨g, 0, none⟩), .agg #[.int .i64 k, .int .u64 n, .slice ba bl bc, .slice ia il ic]] w
      fun e w' => e = .returned (.bool (decide (s + spendP x ≤ 4096))) ∧ Chk w' g i (s + spendP x) ∧ w.grownBy w' (some g) := by
  obtain ⟨rfl, rfl, rfl, rfl, hx⟩ := hx
  by_cases h : x.kind = 8
  · exact spend_float hx w g i s hc h hs0 hs1
  by_cases h7 : x.kind = 7
  · exact spend_simple w g i s hc h7 hs0 hs1
  · exact spend_more hx w g i s hc h0 (by omega) hs0 hs1 hbl
end Go.Proofs.YtdbhgngikglmcaaDoor
