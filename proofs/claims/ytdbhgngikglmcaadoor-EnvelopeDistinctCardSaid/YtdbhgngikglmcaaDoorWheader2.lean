/- Walks: header.find. -/
import Derived.Test.YtdbhgngikglmcaaDoorWheader1
import Derived.Deep.DeepCutAuto
set_option linter.unusedVariables false
set_option linter.unusedSimpArgs false
namespace Go.Proofs.YtdbhgngikglmcaaDoor
open Go.RowKit

set_option maxRecDepth 100000 in
set_option maxHeartbeats 6400000 in
theorem header_find {H : Snap} (hTab : Tabs H) {p u : Itm} {a b : Ad} (hp : IsItem H a.ba a.bc a.ia a.ic p) (hu : IsItem H b.ba b.bc b.ia b.ic u) (n : Int) (hn1 : -9223372036854775808 ≤ n) (hn2 : n ≤ 9223372036854775807) (w : World) (hH : Holds w H) :
    Calls Tryd.prog 54 #[.agg (hdrC p a u b), .int .i64 n] w
      fun e w' => ∃ v, e = .returned (.tuple #[v, .bool (findH p u n).isSome]) ∧ Gives w H ((findH p u n).getD zeroItm) v w' := by
  have hB := (Blk.new w 28 (hdrC p a u b)).alloc zeroO
  have hT := Blk.new (w.alloc (.cells (hdrC p a u b) 28)) 26 #[.int .i64 0, .int .u64 0, .slice none 0 0, .slice none 0 0]
  simp only [size_alloc] at hT
  have hG := (((Grows.refl hH).alloc (.cells (hdrC p a u b) 28)).alloc zeroO).drew
  have hTn : H (w.heap.size + 1) = none := hH.none_of_ge (by omega)
  have hle := Snap.le.refl H
  go_enter Tryd.func54, Tryd.ntmps54
  go_upto_region 1 with fail
  go_cut [6, 7] (fun s6 s7 wx => ∃ N ra rb rc rd Hx, s6 = .pointer (some ⟨N, 0, none⟩) ∧ s7 = .bool (findP p (intP n)).isSome ∧ Blk wx N 26 #[.int .i64 ((findP p (intP n)).getD zeroItm).kind, .int .u64 ((findP p (intP n)).getD zeroItm).n, .slice ra ((findP p (intP n)).getD zeroItm).bytes.length rb, .slice rc ((findP p (intP n)).getD zeroItm).items.length rd] ∧
    Blk wx w.heap.size 28 (hdrC p a u b) ∧ Blk wx (w.heap.size + 1) 26 #[.int .i64 0, .int .u64 0, .slice none 0 0, .slice none 0 0] ∧ Grows w H wx Hx ∧ H.le Hx ∧ Hx (w.heap.size + 1) = none ∧ IsItem Hx ra rb rc rd ((findP p (intP n)).getD zeroItm))
  case first =>
    have hB := hB.drew
    have hT := hT.drew
    have hT0 := hT.lt
    refine wp_region_ways 10 (fun w' => w'.cell? ⟨w.heap.size, 0, none⟩ = some (.int .i64 p.kind) ∧ w'.cell? ⟨w.heap.size, 1, none⟩ = some (.int .u64 p.n) ∧ w'.cell? ⟨w.heap.size, 2, none⟩ = some (.slice a.ba p.bytes.length a.bc) ∧ w'.cell? ⟨w.heap.size, 3, none⟩ = some (.slice a.ia p.items.length a.ic)) (by kernel_rfl) (⟨hB.cell 0 rfl, hB.cell 1 rfl, hB.cell 2 rfl, hB.cell 3 rfl⟩) (fun hHeld => ?_)
    refine Ways.take (i := 0) (v := ?_) rfl (by kernel_rfl) (fun _ _ _ h => h) (Or.inl ⟨by rfl, ?_⟩) hHeld ?_
    rotate_left
    · (intro w hSw; (try dsimp only at hSw); go_simp; try with_reducible rfl)
    try simp only [Act.put, List.setIfInBounds_toArray, List.set_cons_zero, List.set_cons_succ]
    refine Ways.take (i := 1) (v := ?_) rfl (by kernel_rfl) (fun _ _ _ h => h) (Or.inl ⟨by rfl, ?_⟩) hHeld ?_
    rotate_left
    · (intro w hSw; (try dsimp only at hSw); go_simp; try with_reducible rfl)
    try simp only [Act.put, List.setIfInBounds_toArray, List.set_cons_zero, List.set_cons_succ]
    refine Ways.take (i := 2) (v := ?_) rfl (by kernel_rfl) (fun _ _ _ h => h) (Or.inl ⟨by rfl, ?_⟩) hHeld ?_
    rotate_left
    · (intro w hSw; (try dsimp only at hSw); go_simp; try with_reducible rfl)
    try simp only [Act.put, List.setIfInBounds_toArray, List.set_cons_zero, List.set_cons_succ]
    refine Ways.two (i := 3) (j := 8) rfl rfl (by kernel_rfl) (fun K hK => ?_) (fun K hK => ?_)
    · go_simp
      refine (cbor_Int n hn1 hn2 _ hG.holds).mono ?_
      rintro e w2 ⟨v2, rfl, hv2⟩
      have hB := hB.below hv2.below
      have hT := hT.below hv2.below
      try have hN := hN.below hv2.below
      obtain ⟨ka, kb, kc, kd, H2, rfl, hG2, hi2⟩ := hv2
      have hTn := hG2.none hTn hT0
      have hT0 := hT.lt
      have hle := hle.trans hG2.le
      have hG := hG.trans hG2
      try have hNn := hG2.none hNn hN0
      try have hN0 := hN.lt
      refine hK.out _ _ (fun _ => ?_) (fun hHeld => ?_)
      · exact ⟨hB.cell 0 rfl, hB.cell 1 rfl, hB.cell 2 rfl, hB.cell 3 rfl⟩
      clear hK K
      have hHeld := hHeld (by decide)
      try simp only [Act.put, List.setIfInBounds_toArray, List.set_cons_zero, List.set_cons_succ]
      refine Ways.two (i := 4) (j := 8) rfl rfl (by kernel_rfl) (fun K hK => ?_) (fun K hK => ?_)
      · go_simp
        refine (cbor_Find (hTab.mono hle) (hp.mono hle).arg hi2.arg _ hG.holds).mono ?_
        rintro e w3 ⟨v3, rfl, hv3⟩
        have hB := hB.below hv3.below
        have hT := hT.below hv3.below
        try have hN := hN.below hv3.below
        obtain ⟨ra, rb, rc, rd, H3, rfl, hG3, hi3⟩ := hv3
        have hTn := hG3.none hTn hT0
        have hT0 := hT.lt
        have hle := hle.trans hG3.le
        have hG := hG.trans hG3
        try have hNn := hG3.none hNn hN0
        try have hN0 := hN.lt
        refine hK.out _ _ (fun _ => ?_) (fun hHeld => ?_)
        · exact ⟨hB.cell 0 rfl, hB.cell 1 rfl, hB.cell 2 rfl, hB.cell 3 rfl⟩
        clear hK K
        have hHeld := hHeld (by decide)
        try simp only [Act.put, List.setIfInBounds_toArray, List.set_cons_zero, List.set_cons_succ]
        refine Ways.take (i := 5) (v := ?_) rfl (by kernel_rfl) (fun _ _ _ h => h) (Or.inl ⟨by rfl, ?_⟩) hHeld ?_
        rotate_left
        · (intro w hSw; (try dsimp only at hSw); go_simp; try with_reducible rfl)
        try simp only [Act.put, List.setIfInBounds_toArray, List.set_cons_zero, List.set_cons_succ]
        refine Ways.take (i := 6) (v := ?_) rfl (by kernel_rfl) (fun _ _ _ h => h) (Or.inl ⟨by rfl, ?_⟩) hHeld ?_
        rotate_left
        · (intro w hSw; (try dsimp only at hSw); go_simp; try with_reducible rfl)
        try simp only [Act.put, List.setIfInBounds_toArray, List.set_cons_zero, List.set_cons_succ]
        refine Ways.take (i := 7) (v := ?_) rfl (by kernel_rfl) (fun _ _ _ h => h) (Or.inl ⟨by rfl, ?_⟩) hHeld ?_
        rotate_left
        · (intro w hSw; (try dsimp only at hSw); go_simp; try with_reducible rfl)
        try simp only [Act.put, List.setIfInBounds_toArray, List.set_cons_zero, List.set_cons_succ]
        refine Ways.one (i := 8) rfl (by kernel_rfl) (fun K hK => ?_)
        go_simp
        have hN := hG.newBlk 26 #[.int .i64 0, .int .u64 0, .slice none 0 0, .slice none 0 0]
        try simp only [drew_heap, size_alloc] at hN
        have hNn := hG.hidden (Nat.le_refl _)
        try simp only [drew_heap, size_alloc] at hNn
        have hz1 := hT0
        have hz2 := hG.size
        have hB := hB.alloc zeroO
        have hT := hT.alloc zeroO
        have hG := hG.alloc zeroO
        have hT0 := hT.lt
        have hN0 := hN.lt
        refine hK.out _ _ (fun _ => ?_) (fun hHeld => ?_)
        · exact ⟨hB.cell 0 rfl, hB.cell 1 rfl, hB.cell 2 rfl, hB.cell 3 rfl⟩
        clear hK K
        have hHeld := hHeld (by decide)
        try simp only [Act.put, List.setIfInBounds_toArray, List.set_cons_zero, List.set_cons_succ]
        refine Ways.one (i := 9) rfl (by kernel_rfl) (fun K hK => ?_)
        rw [if_pos (by rfl)]
        refine wp_store_item _ _ _ rfl _ _ rfl rfl _ _ hN size_item rfl (one4 _ _ _ _ rfl rfl rfl rfl) fun w5 hN5 hg5 => ?_
        have hB := hB.grown hg5 (by first | (simp; done) | (simp; omega))
        have hT := hT.grown hg5 (by first | (simp; done) | (simp; omega))
        have hG := hG.grownOwn hNn (by first | exact hz2 | omega) hg5
        refine hK.out _ _ (fun _ => ?_) (fun hHeld => ?_)
        · exact ⟨hB.cell 0 rfl, hB.cell 1 rfl, hB.cell 2 rfl, hB.cell 3 rfl⟩
        clear hK K
        have hHeld := hHeld (by decide)
        try simp only [Act.put, List.setIfInBounds_toArray, List.set_cons_zero, List.set_cons_succ]
        refine Ways.one (i := 10) rfl (by kernel_rfl) (fun K hK => ?_)
        go_simp
        refine hK.out _ _ (fun h => absurd rfl h) (fun _ => ?_)
        clear hK K
        try simp only [Act.put, List.setIfInBounds_toArray, List.set_cons_zero, List.set_cons_succ]
        refine Ways.done (by kernel_rfl) ?_
        go_wp2_with fail
        go_meet
        exact ⟨_, ra, rb, rc, rd, _, rfl, rfl, hN5, hB, hT, hG, hle, hTn, hi3⟩
      · go_simp
        have hN := hG.newBlk 26 #[.int .i64 0, .int .u64 0, .slice none 0 0, .slice none 0 0]
        try simp only [drew_heap, size_alloc] at hN
        have hNn := hG.hidden (Nat.le_refl _)
        try simp only [drew_heap, size_alloc] at hNn
        have hz1 := hT0
        have hz2 := hG.size
        have hB := hB.alloc zeroO
        have hT := hT.alloc zeroO
        have hG := hG.alloc zeroO
        have hT0 := hT.lt
        have hN0 := hN.lt
        refine hK.out _ _ (fun _ => ?_) (fun hHeld => ?_)
        · exact ⟨hB.cell 0 rfl, hB.cell 1 rfl, hB.cell 2 rfl, hB.cell 3 rfl⟩
        clear hK K
        have hHeld := hHeld (by decide)
        try simp only [Act.put, List.setIfInBounds_toArray, List.set_cons_zero, List.set_cons_succ]
        refine Ways.one (i := 4) rfl (by kernel_rfl) (fun K hK => ?_)
        go_simp
        refine (cbor_Find (hTab.mono hle) (hp.mono hle).arg hi2.arg _ hG.holds).mono ?_
        rintro e w3 ⟨v3, rfl, hv3⟩
        have hB := hB.below hv3.below
        have hT := hT.below hv3.below
        try have hN := hN.below hv3.below
        obtain ⟨ra, rb, rc, rd, H3, rfl, hG3, hi3⟩ := hv3
        have hTn := hG3.none hTn hT0
        have hT0 := hT.lt
        have hle := hle.trans hG3.le
        have hG := hG.trans hG3
        try have hNn := hG3.none hNn hN0
        try have hN0 := hN.lt
        refine hK.out _ _ (fun _ => ?_) (fun hHeld => ?_)
        · exact ⟨hB.cell 0 rfl, hB.cell 1 rfl, hB.cell 2 rfl, hB.cell 3 rfl⟩
        clear hK K
        have hHeld := hHeld (by decide)
        try simp only [Act.put, List.setIfInBounds_toArray, List.set_cons_zero, List.set_cons_succ]
        refine Ways.take (i := 5) (v := ?_) rfl (by kernel_rfl) (fun _ _ _ h => h) (Or.inl ⟨by rfl, ?_⟩) hHeld ?_
        rotate_left
        · (intro w hSw; (try dsimp only at hSw); go_simp; try with_reducible rfl)
        try simp only [Act.put, List.setIfInBounds_toArray, List.set_cons_zero, List.set_cons_succ]
        refine Ways.take (i := 6) (v := ?_) rfl (by kernel_rfl) (fun _ _ _ h => h) (Or.inl ⟨by rfl, ?_⟩) hHeld ?_
        rotate_left
        · (intro w hSw; (try dsimp only at hSw); go_simp; try with_reducible rfl)
        try simp only [Act.put, List.setIfInBounds_toArray, List.set_cons_zero, List.set_cons_succ]
        refine Ways.take (i := 7) (v := ?_) rfl (by kernel_rfl) (fun _ _ _ h => h) (Or.inl ⟨by rfl, ?_⟩) hHeld ?_
        rotate_left
        · (intro w hSw; (try dsimp only at hSw); go_simp; try with_reducible rfl)
        try simp only [Act.put, List.setIfInBounds_toArray, List.set_cons_zero, List.set_cons_succ]
        refine Ways.one (i := 9) rfl (by kernel_rfl) (fun K hK => ?_)
        rw [if_pos (by rfl)]
        refine wp_store_item _ _ _ rfl _ _ rfl rfl _ _ hN size_item rfl (one4 _ _ _ _ rfl rfl rfl rfl) fun w5 hN5 hg5 => ?_
        have hB := hB.grown hg5 (by first | (simp; done) | (simp; omega))
        have hT := hT.grown hg5 (by first | (simp; done) | (simp; omega))
        have hG := hG.grownOwn hNn (by first | exact hz2 | omega) hg5
        refine hK.out _ _ (fun _ => ?_) (fun hHeld => ?_)
        · exact ⟨hB.cell 0 rfl, hB.cell 1 rfl, hB.cell 2 rfl, hB.cell 3 rfl⟩
        clear hK K
        have hHeld := hHeld (by decide)
        try simp only [Act.put, List.setIfInBounds_toArray, List.set_cons_zero, List.set_cons_succ]
        refine Ways.one (i := 10) rfl (by kernel_rfl) (fun K hK => ?_)
        go_simp
        refine hK.out _ _ (fun h => absurd rfl h) (fun _ => ?_)
        clear hK K
        try simp only [Act.put, List.setIfInBounds_toArray, List.set_cons_zero, List.set_cons_succ]
        refine Ways.done (by kernel_rfl) ?_
        go_wp2_with fail
        go_meet
        exact ⟨_, ra, rb, rc, rd, _, rfl, rfl, hN5, hB, hT, hG, hle, hTn, hi3⟩
    · go_simp
      have hN := hG.newBlk 26 #[.int .i64 0, .int .u64 0, .slice none 0 0, .slice none 0 0]
      try simp only [drew_heap, size_alloc] at hN
      have hNn := hG.hidden (Nat.le_refl _)
      try simp only [drew_heap, size_alloc] at hNn
      have hz1 := hT0
      have hz2 := hG.size
      have hB := hB.alloc zeroO
      have hT := hT.alloc zeroO
      have hG := hG.alloc zeroO
      have hT0 := hT.lt
      have hN0 := hN.lt
      refine hK.out _ _ (fun _ => ?_) (fun hHeld => ?_)
      · exact ⟨hB.cell 0 rfl, hB.cell 1 rfl, hB.cell 2 rfl, hB.cell 3 rfl⟩
      clear hK K
      have hHeld := hHeld (by decide)
      try simp only [Act.put, List.setIfInBounds_toArray, List.set_cons_zero, List.set_cons_succ]
      refine Ways.one (i := 3) rfl (by kernel_rfl) (fun K hK => ?_)
      go_simp
      refine (cbor_Int n hn1 hn2 _ hG.holds).mono ?_
      rintro e w2 ⟨v2, rfl, hv2⟩
      have hB := hB.below hv2.below
      have hT := hT.below hv2.below
      try have hN := hN.below hv2.below
      obtain ⟨ka, kb, kc, kd, H2, rfl, hG2, hi2⟩ := hv2
      have hTn := hG2.none hTn hT0
      have hT0 := hT.lt
      have hle := hle.trans hG2.le
      have hG := hG.trans hG2
      try have hNn := hG2.none hNn hN0
      try have hN0 := hN.lt
      refine hK.out _ _ (fun _ => ?_) (fun hHeld => ?_)
      · exact ⟨hB.cell 0 rfl, hB.cell 1 rfl, hB.cell 2 rfl, hB.cell 3 rfl⟩
      clear hK K
      have hHeld := hHeld (by decide)
      try simp only [Act.put, List.setIfInBounds_toArray, List.set_cons_zero, List.set_cons_succ]
      refine Ways.one (i := 4) rfl (by kernel_rfl) (fun K hK => ?_)
      go_simp
      refine (cbor_Find (hTab.mono hle) (hp.mono hle).arg hi2.arg _ hG.holds).mono ?_
      rintro e w3 ⟨v3, rfl, hv3⟩
      have hB := hB.below hv3.below
      have hT := hT.below hv3.below
      try have hN := hN.below hv3.below
      obtain ⟨ra, rb, rc, rd, H3, rfl, hG3, hi3⟩ := hv3
      have hTn := hG3.none hTn hT0
      have hT0 := hT.lt
      have hle := hle.trans hG3.le
      have hG := hG.trans hG3
      try have hNn := hG3.none hNn hN0
      try have hN0 := hN.lt
      refine hK.out _ _ (fun _ => ?_) (fun hHeld => ?_)
      · exact ⟨hB.cell 0 rfl, hB.cell 1 rfl, hB.cell 2 rfl, hB.cell 3 rfl⟩
      clear hK K
      have hHeld := hHeld (by decide)
      try simp only [Act.put, List.setIfInBounds_toArray, List.set_cons_zero, List.set_cons_succ]
      refine Ways.take (i := 5) (v := ?_) rfl (by kernel_rfl) (fun _ _ _ h => h) (Or.inl ⟨by rfl, ?_⟩) hHeld ?_
      rotate_left
      · (intro w hSw; (try dsimp only at hSw); go_simp; try with_reducible rfl)
      try simp only [Act.put, List.setIfInBounds_toArray, List.set_cons_zero, List.set_cons_succ]
      refine Ways.take (i := 6) (v := ?_) rfl (by kernel_rfl) (fun _ _ _ h => h) (Or.inl ⟨by rfl, ?_⟩) hHeld ?_
      rotate_left
      · (intro w hSw; (try dsimp only at hSw); go_simp; try with_reducible rfl)
      try simp only [Act.put, List.setIfInBounds_toArray, List.set_cons_zero, List.set_cons_succ]
      refine Ways.take (i := 7) (v := ?_) rfl (by kernel_rfl) (fun _ _ _ h => h) (Or.inl ⟨by rfl, ?_⟩) hHeld ?_
      rotate_left
      · (intro w hSw; (try dsimp only at hSw); go_simp; try with_reducible rfl)
      try simp only [Act.put, List.setIfInBounds_toArray, List.set_cons_zero, List.set_cons_succ]
      refine Ways.one (i := 9) rfl (by kernel_rfl) (fun K hK => ?_)
      rw [if_pos (by rfl)]
      refine wp_store_item _ _ _ rfl _ _ rfl rfl _ _ hN size_item rfl (one4 _ _ _ _ rfl rfl rfl rfl) fun w5 hN5 hg5 => ?_
      have hB := hB.grown hg5 (by first | (simp; done) | (simp; omega))
      have hT := hT.grown hg5 (by first | (simp; done) | (simp; omega))
      have hG := hG.grownOwn hNn (by first | exact hz2 | omega) hg5
      refine hK.out _ _ (fun _ => ?_) (fun hHeld => ?_)
      · exact ⟨hB.cell 0 rfl, hB.cell 1 rfl, hB.cell 2 rfl, hB.cell 3 rfl⟩
      clear hK K
      have hHeld := hHeld (by decide)
      try simp only [Act.put, List.setIfInBounds_toArray, List.set_cons_zero, List.set_cons_succ]
      refine Ways.one (i := 10) rfl (by kernel_rfl) (fun K hK => ?_)
      go_simp
      refine hK.out _ _ (fun h => absurd rfl h) (fun _ => ?_)
      clear hK K
      try simp only [Act.put, List.setIfInBounds_toArray, List.set_cons_zero, List.set_cons_succ]
      refine Ways.done (by kernel_rfl) ?_
      go_wp2_with fail
      go_meet
      exact ⟨_, ra, rb, rc, rd, _, rfl, rfl, hN5, hB, hT, hG, hle, hTn, hi3⟩
  case rest =>
    obtain ⟨N, ra, rb, rc, rd, Hx, rfl, rfl, hN, hB, hT, hG, hle, hTn, hi⟩ := hcut
    have hT0 := hT.lt
    cases hf : findP p (intP n) with
    | some x =>
      have E : Hid (findH p u n = some x) := by rw [Hid, findH, hf]
      rw [hf] at hN hi
      simp only [Option.getD_some] at hN hi
      have n0 := hN.cell 0 rfl
      have n1 := hN.cell 1 rfl
      have n2 := hN.cell 2 rfl
      have n3 := hN.cell 3 rfl
      clear hf
      go_wp2_with (with_reducible refine stop_store ?_)
      unfold Stopped
      refine wpList_store_item rfl _ _ _ rfl rfl _ _ rfl rfl _ _ hT size_item rfl (one4 _ _ _ _ rfl rfl rfl rfl) fun w6 hJ2 hg6 => ?_
      go_wp2_with fail
      refine ret_row_tmp rfl rfl hJ2 rfl rfl size_item rfl ?_
      rw [E.out]
      exact ⟨_, rfl, ra, rb, rc, rd, Hx, rfl, hG.grownOwn hTn (by omega) hg6, hi⟩
    | none =>
      have E : Hid (findH p u n = findP u (intP n)) := by rw [Hid, findH, hf]
      clear hN hi hf
      have hB := hB.drew
      have hT := hT.drew
      have hG := hG.drew
      have hT0 := hT.lt
      go_upto_region 4 with fail
      refine wp_region_ways 8 (fun w' => w'.cell? ⟨w.heap.size, 4, none⟩ = some (.int .i64 u.kind) ∧ w'.cell? ⟨w.heap.size, 5, none⟩ = some (.int .u64 u.n) ∧ w'.cell? ⟨w.heap.size, 6, none⟩ = some (.slice b.ba u.bytes.length b.bc) ∧ w'.cell? ⟨w.heap.size, 7, none⟩ = some (.slice b.ia u.items.length b.ic)) (by kernel_rfl) (⟨hB.cell 4 rfl, hB.cell 5 rfl, hB.cell 6 rfl, hB.cell 7 rfl⟩) (fun hHeld => ?_)
      refine Ways.take (i := 0) (v := ?_) rfl (by kernel_rfl) (fun _ _ _ h => h) (Or.inl ⟨by rfl, ?_⟩) hHeld ?_
      rotate_left
      · (intro w hSw; (try dsimp only at hSw); go_simp; try with_reducible rfl)
      try simp only [Act.put, List.setIfInBounds_toArray, List.set_cons_zero, List.set_cons_succ]
      refine Ways.take (i := 1) (v := ?_) rfl (by kernel_rfl) (fun _ _ _ h => h) (Or.inl ⟨by rfl, ?_⟩) hHeld ?_
      rotate_left
      · (intro w hSw; (try dsimp only at hSw); go_simp; try with_reducible rfl)
      try simp only [Act.put, List.setIfInBounds_toArray, List.set_cons_zero, List.set_cons_succ]
      refine Ways.take (i := 2) (v := ?_) rfl (by kernel_rfl) (fun _ _ _ h => h) (Or.inl ⟨by rfl, ?_⟩) hHeld ?_
      rotate_left
      · (intro w hSw; (try dsimp only at hSw); go_simp; try with_reducible rfl)
      try simp only [Act.put, List.setIfInBounds_toArray, List.set_cons_zero, List.set_cons_succ]
      refine Ways.one (i := 3) rfl (by kernel_rfl) (fun K hK => ?_)
      go_simp
      refine (cbor_Int n hn1 hn2 _ hG.holds).mono ?_
      rintro e w7 ⟨v7, rfl, hv7⟩
      have hB := hB.below hv7.below
      have hT := hT.below hv7.below
      obtain ⟨sa, sb, sc, sd, H7, rfl, hG7, hi7⟩ := hv7
      have hTn := hG7.none hTn hT0
      have hT0 := hT.lt
      have hle := hle.trans hG7.le
      have hG := hG.trans hG7
      refine hK.out _ _ (fun _ => ?_) (fun hHeld => ?_)
      · exact ⟨hB.cell 4 rfl, hB.cell 5 rfl, hB.cell 6 rfl, hB.cell 7 rfl⟩
      clear hK K
      have hHeld := hHeld (by decide)
      try simp only [Act.put, List.setIfInBounds_toArray, List.set_cons_zero, List.set_cons_succ]
      refine Ways.one (i := 4) rfl (by kernel_rfl) (fun K hK => ?_)
      go_simp
      refine (cbor_Find (hTab.mono hle) (hu.mono hle).arg hi7.arg _ hG.holds).mono ?_
      rintro e w8 ⟨v8, rfl, hv8⟩
      have hB := hB.below hv8.below
      have hT := hT.below hv8.below
      obtain ⟨ta, tb, tc, td, H8, rfl, hG8, hi8⟩ := hv8
      have hTn := hG8.none hTn hT0
      have hT0 := hT.lt
      have hle := hle.trans hG8.le
      have hG := hG.trans hG8
      refine hK.out _ _ (fun _ => ?_) (fun hHeld => ?_)
      · exact ⟨hB.cell 4 rfl, hB.cell 5 rfl, hB.cell 6 rfl, hB.cell 7 rfl⟩
      clear hK K
      have hHeld := hHeld (by decide)
      try simp only [Act.put, List.setIfInBounds_toArray, List.set_cons_zero, List.set_cons_succ]
      refine Ways.take (i := 5) (v := ?_) rfl (by kernel_rfl) (fun _ _ _ h => h) (Or.inl ⟨by rfl, ?_⟩) hHeld ?_
      rotate_left
      · (intro w hSw; (try dsimp only at hSw); go_simp; try with_reducible rfl)
      try simp only [Act.put, List.setIfInBounds_toArray, List.set_cons_zero, List.set_cons_succ]
      refine Ways.take (i := 6) (v := ?_) rfl (by kernel_rfl) (fun _ _ _ h => h) (Or.inl ⟨by rfl, ?_⟩) hHeld ?_
      rotate_left
      · (intro w hSw; (try dsimp only at hSw); go_simp; try with_reducible rfl)
      try simp only [Act.put, List.setIfInBounds_toArray, List.set_cons_zero, List.set_cons_succ]
      refine Ways.one (i := 7) rfl (by kernel_rfl) (fun K hK => ?_)
      rw [if_pos (by rfl)]
      refine wp_store_item _ _ _ rfl (w.heap.size + 1) _ rfl rfl _ _ hT size_item rfl (one4 _ _ _ _ rfl rfl rfl rfl) fun w9 hT9 hg9 => ?_
      have hB := hB.grown hg9 (by simp)
      have hG := hG.grownOwn hTn (by omega) hg9
      refine hK.out _ _ (fun _ => ?_) (fun hHeld => ?_)
      · exact ⟨hB.cell 4 rfl, hB.cell 5 rfl, hB.cell 6 rfl, hB.cell 7 rfl⟩
      clear hK K
      have hHeld := hHeld (by decide)
      try simp only [Act.put, List.setIfInBounds_toArray, List.set_cons_zero, List.set_cons_succ]
      refine Ways.one (i := 8) rfl (by kernel_rfl) (fun K hK => ?_)
      go_simp
      refine hK.out _ _ (fun h => absurd rfl h) (fun _ => ?_)
      clear hK K
      try simp only [Act.put, List.setIfInBounds_toArray, List.set_cons_zero, List.set_cons_succ]
      refine Ways.done (by kernel_rfl) ?_
      go_wp2_with fail
      refine ret_row_tmp rfl rfl hT9 rfl rfl size_item rfl ?_
      rw [E.out]
      exact ⟨_, rfl, ta, tb, tc, td, _, rfl, hG, hi8⟩
end Go.Proofs.YtdbhgngikglmcaaDoor
