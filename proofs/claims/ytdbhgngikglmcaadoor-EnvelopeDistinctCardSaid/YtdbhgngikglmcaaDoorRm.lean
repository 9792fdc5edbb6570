/- Walks: the references' validity of headers. -/
import Derived.Test.YtdbhgngikglmcaaDoorRl
import Derived.Test.YtdbhgngikglmcaaDoorJpure
set_option linter.unusedVariables false
set_option linter.unusedSimpArgs false
namespace Go.Proofs.YtdbhgngikglmcaaDoor
open Go.RowKit

theorem pairsOkR_step (m l : List Itm) (k : Nat) (hk : k + 1 < l.length) : pairsOkR m (l.drop k) = (labelP l[k] && valueP l[k] l[k + 1] m && pairsOkR m (l.drop (k + 2))) := by
  rw [List.drop_eq_getElem_cons (show k < l.length by omega), List.drop_eq_getElem_cons hk, pairsOkR]
theorem keysR_step (p l : List Itm) (k : Nat) (hk : k + 1 < l.length) : keysR p (l.drop k) = (!((atL l[k] p).isSome || sameB l[k] (intP 2)) && keysR p (l.drop (k + 2))) := by
  rw [List.drop_eq_getElem_cons (show k < l.length by omega), List.drop_eq_getElem_cons hk, keysR]
theorem pairsOkR_end (m l : List Itm) (k : Nat) (hk : l.length ≤ k) : pairsOkR m (l.drop k) = true := by
  rw [List.drop_eq_nil_of_le hk, pairsOkR]; intro _ _ _ h; cases h
theorem keysR_end (p l : List Itm) (k : Nat) (hk : l.length ≤ k) : keysR p (l.drop k) = true := by
  rw [List.drop_eq_nil_of_le hk, keysR]; intro _ _ _ h; cases h

set_option maxRecDepth 100000 in
set_option maxHeartbeats 25600000 in
theorem ref12_Valid {H : Snap} (hTab : Tabs H) {p u : Itm} {a b : Ad} (hp : IsItem H a.ba a.bc a.ia a.ic p) (hu : IsItem H b.ba b.bc b.ia b.ic u) (w : World) (hH : Holds w H) :
    Calls Tryd.prog 40 #[.agg (hdrC p a u b)] w fun e w' => e = .returned (.bool (validHR p u)) ∧ Below w.heap.size w w' := by
  have HP := Lib.hid hp
  have HU := Lib.hid hu
  have hB := (Blk.new w 28 (hdrC p a u b)).drew
  have hb := (below_box w (.cells (hdrC p a u b) 28)).drew
  have hHx : Holds (w.alloc (.cells (hdrC p a u b) 28)).drew H := (hH.alloc _).drew
  go_enter Tryd.func40, Tryd.ntmps40
  go_upto_region 1 with fail
  go_cut [3, 4] (fun s3 s4 wx => ∃ g1 g2, s3 = .pointer (some ⟨g1, 0, none⟩) ∧ s4 = .pointer (some ⟨g2, 0, none⟩) ∧ Blk wx g1 26 #[.int .i64 p.kind, .int .u64 p.n, .slice a.ba p.bytes.length a.bc, .slice a.ia p.items.length a.ic] ∧
    Blk wx g2 26 #[.int .i64 u.kind, .int .u64 u.n, .slice b.ba u.bytes.length b.bc, .slice b.ia u.items.length b.ic] ∧ Blk wx w.heap.size 28 (hdrC p a u b) ∧ Below w.heap.size w wx)
  case first =>
    refine wp_region_ways 7 (fun w' => w'.cell? ⟨w.heap.size, 0, none⟩ = some (.int .i64 p.kind) ∧ w'.cell? ⟨w.heap.size, 1, none⟩ = some (.int .u64 p.n) ∧ w'.cell? ⟨w.heap.size, 2, none⟩ = some (.slice a.ba p.bytes.length a.bc) ∧ w'.cell? ⟨w.heap.size, 3, none⟩ = some (.slice a.ia p.items.length a.ic) ∧ w'.cell? ⟨w.heap.size, 4, none⟩ = some (.int .i64 u.kind) ∧ w'.cell? ⟨w.heap.size, 5, none⟩ = some (.int .u64 u.n) ∧ w'.cell? ⟨w.heap.size, 6, none⟩ = some (.slice b.ba u.bytes.length b.bc) ∧ w'.cell? ⟨w.heap.size, 7, none⟩ = some (.slice b.ia u.items.length b.ic)) (by kernel_rfl) (⟨hB.cell 0 rfl, hB.cell 1 rfl, hB.cell 2 rfl, hB.cell 3 rfl, hB.cell 4 rfl, hB.cell 5 rfl, hB.cell 6 rfl, hB.cell 7 rfl⟩) (fun hHeld => ?_)
    refine Ways.take (i := 0) (v := ?_) rfl (by kernel_rfl) (fun _ _ _ h => h) (Or.inl ⟨by rfl, ?_⟩) hHeld ?_
    rotate_left
    · (intro w hSw; (try dsimp only at hSw); go_simp; try with_reducible rfl)
    try simp only [Act.put, List.setIfInBounds_toArray, List.set_cons_zero, List.set_cons_succ]
    refine Ways.take (i := 1) (v := ?_) rfl (by kernel_rfl) (fun _ _ _ h => h) (Or.inl ⟨by rfl, ?_⟩) hHeld ?_
    rotate_left
    · (intro w hSw; (try dsimp only at hSw); go_simp; try with_reducible rfl)
    try simp only [Act.put, List.setIfInBounds_toArray, List.set_cons_zero, List.set_cons_succ]
    refine Ways.take (i := 2) (v := ?_) rfl (by kernel_rfl) (fun _ _ _ h => h) (Or.inl ⟨by rfl, ?_⟩) hHeld ?_
    rotate_left
    · (intro w hSw; (try dsimp only at hSw); go_simp; try with_reducible rfl)
    try simp only [Act.put, List.setIfInBounds_toArray, List.set_cons_zero, List.set_cons_succ]
    refine Ways.take (i := 3) (v := ?_) rfl (by kernel_rfl) (fun _ _ _ h => h) (Or.inl ⟨by rfl, ?_⟩) hHeld ?_
    rotate_left
    · (intro w hSw; (try dsimp only at hSw); go_simp; try with_reducible rfl)
    try simp only [Act.put, List.setIfInBounds_toArray, List.set_cons_zero, List.set_cons_succ]
    refine Ways.two (i := 4) (j := 5) rfl rfl (by kernel_rfl) (fun K hK => ?_) (fun K hK => ?_)
    · go_simp
      have hP := below_newBlk hb 26 #[.int .i64 0, .int .u64 0, .slice none 0 0, .slice none 0 0]
      try simp only [drew_heap, size_alloc] at hP
      have hB := hB.alloc zeroO
      try have hQ := hQ.alloc zeroO
      have hb := hb.alloc hb.size zeroO
      refine hK.out _ _ (fun _ => ?_) (fun hHeld => ?_)
      · exact ⟨hB.cell 0 rfl, hB.cell 1 rfl, hB.cell 2 rfl, hB.cell 3 rfl, hB.cell 4 rfl, hB.cell 5 rfl, hB.cell 6 rfl, hB.cell 7 rfl⟩
      clear hK K
      have hHeld := hHeld (by decide)
      try simp only [Act.put, List.setIfInBounds_toArray, List.set_cons_zero, List.set_cons_succ]
      refine Ways.one (i := 5) rfl (by kernel_rfl) (fun K hK => ?_)
      go_simp
      have hQ := below_newBlk hb 26 #[.int .i64 0, .int .u64 0, .slice none 0 0, .slice none 0 0]
      try simp only [drew_heap, size_alloc] at hQ
      have hB := hB.alloc zeroO
      try have hP := hP.alloc zeroO
      have hb := hb.alloc hb.size zeroO
      refine hK.out _ _ (fun _ => ?_) (fun hHeld => ?_)
      · exact ⟨hB.cell 0 rfl, hB.cell 1 rfl, hB.cell 2 rfl, hB.cell 3 rfl, hB.cell 4 rfl, hB.cell 5 rfl, hB.cell 6 rfl, hB.cell 7 rfl⟩
      clear hK K
      have hHeld := hHeld (by decide)
      try simp only [Act.put, List.setIfInBounds_toArray, List.set_cons_zero, List.set_cons_succ]
      refine Ways.one (i := 6) rfl (by kernel_rfl) (fun K hK => ?_)
      rw [if_pos (by rfl)]
      refine wp_store_item _ _ _ rfl _ _ rfl rfl _ _ hP size_item rfl (one4 _ _ _ _ rfl rfl rfl rfl) fun w5 hP hg5 => ?_
      have hB := hB.grown hg5 (by first | (simp; done) | (simp; omega))
      have hQ := hQ.grown hg5 (by first | (simp; done) | (simp; omega))
      have hb := hb.grown hg5 hb.size (by rintro q ⟨⟩; omega)
      refine hK.out _ _ (fun _ => ?_) (fun hHeld => ?_)
      · exact ⟨hB.cell 0 rfl, hB.cell 1 rfl, hB.cell 2 rfl, hB.cell 3 rfl, hB.cell 4 rfl, hB.cell 5 rfl, hB.cell 6 rfl, hB.cell 7 rfl⟩
      clear hK K
      have hHeld := hHeld (by decide)
      try simp only [Act.put, List.setIfInBounds_toArray, List.set_cons_zero, List.set_cons_succ]
      refine Ways.one (i := 7) rfl (by kernel_rfl) (fun K hK => ?_)
      rw [if_pos (by rfl)]
      refine wp_store_item _ _ _ rfl _ _ rfl rfl _ _ hQ size_item rfl (one4 _ _ _ _ rfl rfl rfl rfl) fun w6 hQ hg6 => ?_
      have hB := hB.grown hg6 (by first | (simp; done) | (simp; omega))
      have hP := hP.grown hg6 (by first | (simp; done) | (simp; omega))
      have hb := hb.grown hg6 hb.size (by rintro q ⟨⟩; omega)
      refine hK.out _ _ (fun h => absurd rfl h) (fun _ => ?_)
      clear hK K
      try simp only [Act.put, List.setIfInBounds_toArray, List.set_cons_zero, List.set_cons_succ]
      refine Ways.done (by kernel_rfl) ?_
      go_wp2_with fail
      go_meet
      exact ⟨_, _, rfl, rfl, hP, hQ, hB, hb⟩
    · go_simp
      have hQ := below_newBlk hb 26 #[.int .i64 0, .int .u64 0, .slice none 0 0, .slice none 0 0]
      try simp only [drew_heap, size_alloc] at hQ
      have hB := hB.alloc zeroO
      try have hP := hP.alloc zeroO
      have hb := hb.alloc hb.size zeroO
      refine hK.out _ _ (fun _ => ?_) (fun hHeld => ?_)
      · exact ⟨hB.cell 0 rfl, hB.cell 1 rfl, hB.cell 2 rfl, hB.cell 3 rfl, hB.cell 4 rfl, hB.cell 5 rfl, hB.cell 6 rfl, hB.cell 7 rfl⟩
      clear hK K
      have hHeld := hHeld (by decide)
      try simp only [Act.put, List.setIfInBounds_toArray, List.set_cons_zero, List.set_cons_succ]
      refine Ways.one (i := 4) rfl (by kernel_rfl) (fun K hK => ?_)
      go_simp
      have hP := below_newBlk hb 26 #[.int .i64 0, .int .u64 0, .slice none 0 0, .slice none 0 0]
      try simp only [drew_heap, size_alloc] at hP
      have hB := hB.alloc zeroO
      try have hQ := hQ.alloc zeroO
      have hb := hb.alloc hb.size zeroO
      refine hK.out _ _ (fun _ => ?_) (fun hHeld => ?_)
      · exact ⟨hB.cell 0 rfl, hB.cell 1 rfl, hB.cell 2 rfl, hB.cell 3 rfl, hB.cell 4 rfl, hB.cell 5 rfl, hB.cell 6 rfl, hB.cell 7 rfl⟩
      clear hK K
      have hHeld := hHeld (by decide)
      try simp only [Act.put, List.setIfInBounds_toArray, List.set_cons_zero, List.set_cons_succ]
      refine Ways.one (i := 6) rfl (by kernel_rfl) (fun K hK => ?_)
      rw [if_pos (by rfl)]
      refine wp_store_item _ _ _ rfl _ _ rfl rfl _ _ hP size_item rfl (one4 _ _ _ _ rfl rfl rfl rfl) fun w5 hP hg5 => ?_
      have hB := hB.grown hg5 (by first | (simp; done) | (simp; omega))
      have hQ := hQ.grown hg5 (by first | (simp; done) | (simp; omega))
      have hb := hb.grown hg5 hb.size (by rintro q ⟨⟩; omega)
      refine hK.out _ _ (fun _ => ?_) (fun hHeld => ?_)
      · exact ⟨hB.cell 0 rfl, hB.cell 1 rfl, hB.cell 2 rfl, hB.cell 3 rfl, hB.cell 4 rfl, hB.cell 5 rfl, hB.cell 6 rfl, hB.cell 7 rfl⟩
      clear hK K
      have hHeld := hHeld (by decide)
      try simp only [Act.put, List.setIfInBounds_toArray, List.set_cons_zero, List.set_cons_succ]
      refine Ways.one (i := 7) rfl (by kernel_rfl) (fun K hK => ?_)
      rw [if_pos (by rfl)]
      refine wp_store_item _ _ _ rfl _ _ rfl rfl _ _ hQ size_item rfl (one4 _ _ _ _ rfl rfl rfl rfl) fun w6 hQ hg6 => ?_
      have hB := hB.grown hg6 (by first | (simp; done) | (simp; omega))
      have hP := hP.grown hg6 (by first | (simp; done) | (simp; omega))
      have hb := hb.grown hg6 hb.size (by rintro q ⟨⟩; omega)
      refine hK.out _ _ (fun h => absurd rfl h) (fun _ => ?_)
      clear hK K
      try simp only [Act.put, List.setIfInBounds_toArray, List.set_cons_zero, List.set_cons_succ]
      refine Ways.done (by kernel_rfl) ?_
      go_wp2_with fail
      go_meet
      exact ⟨_, _, rfl, rfl, hP, hQ, hB, hb⟩
  case rest =>
    clear hB hb hHx
    obtain ⟨g1, g2, rfl, rfl, hP, hQ, hB, hb⟩ := hcut
    have VP := Lib.hid (fun (w1 : World) (h : Holds w1 H) => ref_Valid hTab HP.out.arg w1 h)
    have VU := Lib.hid (fun (w1 : World) (h : Holds w1 H) => ref_Valid hTab HU.out.arg w1 h)
    have a0 := hP.cell 0 rfl
    have a1 := hP.cell 1 rfl
    have a2 := hP.cell 2 rfl
    have a3 := hP.cell 3 rfl
    have d0 := hQ.cell 0 rfl
    have d1 := hQ.cell 1 rfl
    have d2 := hQ.cell 2 rfl
    have d3 := hQ.cell 3 rfl
    clear hp hu
    by_cases h1 : p.kind = 5
    case neg =>
      have E : Hid (validHR p u = false) := by rw [Hid, validHR]; simp [h1]
      have b1 : (p.kind != 5) = true := by simp [h1]
      have p1 : (p.kind = 5) = False := eq_false h1
      clear h1
      go_wp2_with fail
      go_ret
      exact ⟨by rw [E.out]; rfl, hb⟩
    by_cases h2 : u.kind = 5
    case neg =>
      have E : Hid (validHR p u = false) := by rw [Hid, validHR]; simp [h2]
      have b1 : (p.kind != 5) = false := by simp [h1]
      have p1 : (p.kind = 5) = True := eq_true h1
      have b2 : (u.kind != 5) = true := by simp [h2]
      have p2 : (u.kind = 5) = False := eq_false h2
      clear h1 h2
      go_wp2_with fail
      go_ret
      exact ⟨by rw [E.out]; rfl, hb⟩
    have b1 : (p.kind != 5) = false := by simp [h1]
    have p1 : (p.kind = 5) = True := eq_true h1
    have b2 : (u.kind != 5) = false := by simp [h2]
    have p2 : (u.kind = 5) = True := eq_true h2
    have HK1 := Lib.hid h1
    have HK2 := Lib.hid h2
    clear h1 h2
    cases hv1 : validP p with
    | false =>
      have E : Hid (validHR p u = false) := by rw [Hid, validHR]; simp [hv1]
      rw [hv1] at VP
      clear hv1
      go_wp2_with fail
      refine (VP.out _ (hH.below hb (Nat.le_refl _))).mono ?_
      rintro e w1 ⟨rfl, hb1⟩
      have hbz := hb.trans (hb1.mono hb.size)
      go_wp2_with fail
      go_ret
      exact ⟨by rw [E.out]; rfl, hbz⟩
    | true =>
    rw [hv1] at VP
    have HV1 := Lib.hid hv1
    clear hv1
    go_wp2_with fail
    refine (VP.out _ (hH.below hb (Nat.le_refl _))).mono ?_
    rintro e w1 ⟨rfl, hb1⟩
    have hP := hP.below hb1
    have hQ := hQ.below hb1
    have hB := hB.below hb1
    have hb := hb.trans (hb1.mono hb.size)
    have a0 := hP.cell 0 rfl
    have a1 := hP.cell 1 rfl
    have a2 := hP.cell 2 rfl
    have a3 := hP.cell 3 rfl
    have d0 := hQ.cell 0 rfl
    have d1 := hQ.cell 1 rfl
    have d2 := hQ.cell 2 rfl
    have d3 := hQ.cell 3 rfl
    clear hb1
    cases hv2 : validP u with
    | false =>
      have E : Hid (validHR p u = false) := by rw [Hid, validHR]; simp [hv2]
      rw [hv2] at VU
      clear hv2
      go_wp2_with fail
      refine (VU.out _ (hH.below hb (Nat.le_refl _))).mono ?_
      rintro e w2 ⟨rfl, hb2⟩
      have hbz := hb.trans (hb2.mono hb.size)
      go_wp2_with fail
      go_ret
      exact ⟨by rw [E.out]; rfl, hbz⟩
    | true =>
    rw [hv2] at VU
    have HV2 := Lib.hid hv2
    have E : Hid (validHR p u = (pairsOkR p.items p.items && pairsOkR u.items u.items && keysR p.items u.items && (!(findR p u 5).isSome || !(findR p u 6).isSome))) := by
      rw [Hid, validHR, HV1.out, hv2, HK1.out, HK2.out]; simp
    have HEP := Lib.hid (validP_even HV1.out HK1.out)
    have HEU := Lib.hid (validP_even hv2 HK2.out)
    have HMP := Lib.hid (validP_modest HV1.out)
    have HMU := Lib.hid (validP_modest hv2)
    clear hv2
    go_wp2_with fail
    refine (VU.out _ (hH.below hb (Nat.le_refl _))).mono ?_
    rintro e w2 ⟨rfl, hb2⟩
    have hP := hP.below hb2
    have hQ := hQ.below hb2
    have hB := hB.below hb2
    have hb := hb.trans (hb2.mono hb.size)
    have a0 := hP.cell 0 rfl
    have a1 := hP.cell 1 rfl
    have a2 := hP.cell 2 rfl
    have a3 := hP.cell 3 rfl
    have d0 := hQ.cell 0 rfl
    have d1 := hQ.cell 1 rfl
    have d2 := hQ.cell 2 rfl
    have d3 := hQ.cell 3 rfl
    have hI := Blk.new w2 26 (hdrC p a u b)
    have hP := hP.alloc (.cells (hdrC p a u b) 26)
    have hQ := hQ.alloc (.cells (hdrC p a u b) 26)
    have hB := hB.alloc (.cells (hdrC p a u b) 26)
    have hb := hb.alloc hb.size (.cells (hdrC p a u b) 26)
    clear hb2
    go_wp2_with fail
    go_loopw [41] (fun v41 wr => ∃ j : Nat, j ≤ 2 ∧ v41 = .int .i64 j ∧ (1 ≤ j → pairsOkR p.items p.items = true) ∧ (2 ≤ j → pairsOkR u.items u.items = true) ∧ Below w.heap.size w wr ∧ Blk wr w.heap.size 28 (hdrC p a u b) ∧ Blk wr g1 26 #[.int .i64 p.kind, .int .u64 p.n, .slice a.ba p.bytes.length a.bc, .slice a.ia p.items.length a.ic] ∧ Blk wr g2 26 #[.int .i64 u.kind, .int .u64 u.n, .slice b.ba u.bytes.length b.bc, .slice b.ia u.items.length b.ic] ∧ Blk wr w2.heap.size 26 (hdrC p a u b)) (fun v41 _ => 2 - (intOf v41).toNat)
    case atStart => exact ⟨0, by omega, rfl, by omega, by omega, hb, hB, hP, hQ, hI⟩
    case round =>
      obtain ⟨j, hj, rfl, hop, hou, hbr, hBr, hPr, hQr, hIr⟩ := hrel
      have HOP := Lib.hid hop
      have HOU := Lib.hid hou
      clear hop hou a0 a1 a2 a3 d0 d1 d2 d3
      by_cases hlt : j < 2
      · have hm : ∃ (m : Itm) (ma : Option Addr) (mb : Nat) (mc : Option Addr) (md : Nat), (j = 0 → m = p) ∧ (j = 1 → m = u) ∧ m.items.length % 2 = 0 ∧ Modest m ∧ IsItem H ma mb mc md m ∧ wr.cell? ⟨w2.heap.size, j * 4, none⟩ = some (.int .i64 m.kind) ∧ wr.cell? ⟨w2.heap.size, j * 4 + 1, none⟩ = some (.int .u64 m.n) ∧
            wr.cell? ⟨w2.heap.size, j * 4 + 2, none⟩ = some (.slice ma m.bytes.length mb) ∧ wr.cell? ⟨w2.heap.size, j * 4 + 3, none⟩ = some (.slice mc m.items.length md) := by
          rcases (by omega : j = 0 ∨ j = 1) with rfl | rfl
          · exact ⟨p, a.ba, a.bc, a.ia, a.ic, fun _ => rfl, by omega, HEP.out, HMP.out, HP.out, hIr.cell _ rfl, hIr.cell _ rfl, hIr.cell _ rfl, hIr.cell _ rfl⟩
          · exact ⟨u, b.ba, b.bc, b.ia, b.ic, by omega, fun _ => rfl, HEU.out, HMU.out, HU.out, hIr.cell _ rfl, hIr.cell _ rfl, hIr.cell _ rfl, hIr.cell _ rfl⟩
        obtain ⟨m, ma, mb, mc, md, hm0, hm1, hme, hmm, hmi, e0, e1, e2, e3⟩ := hm
        have BAD : Hid (pairsOkR m.items m.items = false → validHR p u = false) := by
          intro h
          rcases (by omega : j = 0 ∨ j = 1) with rfl | rfl
          · rw [hm0 rfl] at h; rw [E.out, h]; rfl
          · rw [hm1 rfl] at h; rw [E.out, h]; simp
        have GOOD : Hid (pairsOkR m.items m.items = true → (1 ≤ j + 1 → pairsOkR p.items p.items = true) ∧ (2 ≤ j + 1 → pairsOkR u.items u.items = true)) := by
          intro h
          rcases (by omega : j = 0 ∨ j = 1) with rfl | rfl
          · rw [hm0 rfl] at h; exact ⟨fun _ => h, by omega⟩
          · rw [hm1 rfl] at h; exact ⟨fun _ => HOP.out (by omega), fun _ => h⟩
        have HMI := Lib.hid hmi
        have HMM := Lib.hid hmm
        have HME := Lib.hid hme
        have hml := hmm.parts.2.1
        have hT := Blk.new wr 26 #[.int .i64 m.kind, .int .u64 m.n, .slice ma m.bytes.length mb, .slice mc m.items.length md]
        have hbr := hbr.alloc hbr.size (itemO m ma mb mc md)
        have hBr := hBr.alloc (itemO m ma mb mc md)
        have hPr := hPr.alloc (itemO m ma mb mc md)
        have hQr := hQr.alloc (itemO m ma mb mc md)
        have hIr := hIr.alloc (itemO m ma mb mc md)
        clear hm0 hm1 hme hmm hmi
        obtain ⟨wo, hwo⟩ : ∃ wo : World, wo = wr := ⟨_, rfl⟩
        subst hwo
        go_wp2_with fail
        go_loopw [7] (fun v7 wr => ∃ i : Nat, i ≤ m.items.length ∧ i % 2 = 0 ∧ v7 = .int .i64 i ∧ pairsOkR m.items (m.items.drop i) = pairsOkR m.items m.items ∧ Below w.heap.size w wr ∧ Blk wr w.heap.size 28 (hdrC p a u b) ∧ Blk wr g1 26 #[.int .i64 p.kind, .int .u64 p.n, .slice a.ba p.bytes.length a.bc, .slice a.ia p.items.length a.ic] ∧ Blk wr g2 26 #[.int .i64 u.kind, .int .u64 u.n, .slice b.ba u.bytes.length b.bc, .slice b.ia u.items.length b.ic] ∧ Blk wr w2.heap.size 26 (hdrC p a u b) ∧
          Blk wr wo.heap.size 26 #[.int .i64 m.kind, .int .u64 m.n, .slice ma m.bytes.length mb, .slice mc m.items.length md]) (fun v7 _ => m.items.length - (intOf v7).toNat)
        case atStart => exact ⟨0, by omega, rfl, rfl, rfl, hbr, hBr, hPr, hQr, hIr, hT⟩
        case round =>
          obtain ⟨i, hi, hie, rfl, hs, hbs, hBs, hPs, hQs, hIs, hTs⟩ := hrel
          have HS := Lib.hid hs
          have HIE := Lib.hid hie
          have f3 := hTs.cell 3 rfl
          clear hs hie hbr hBr hPr hQr hIr hT e0 e1 e2 e3
          by_cases hlt2 : i < m.items.length
          · have hme := HME.out
            have hie := HIE.out
            have hlt3 : i + 1 < m.items.length := by omega
            have hHr : Holds wr H := hH.below hbs (Nat.le_refl _)
            obtain ⟨ib, io, hia, hel⟩ := HMI.out.items (by omega)
            obtain ⟨y1, y2, y3, y4, q0, q1, q2, q3, hey⟩ := hel.get i hlt2
            obtain ⟨z1, z2, z3, z4, s0, s1, s2, s3, hez⟩ := hel.get (i + 1) hlt3
            have hst := Lib.hid (HS.out.symm.trans (pairsOkR_step m.items m.items i hlt3))
            have hmy := HMM.out.parts.2.2.get i hlt2
            have hmz := HMM.out.parts.2.2.get (i + 1) hlt3
            have hi1 : ((i : Int) + 1).toNat = i + 1 := by omega
            have hi2 : (i : Int) + 1 < m.items.length := by omega
            have hi3 : (i : Int) < m.items.length := by omega
            have hi4 : IntKind.i64.wrap ((i : Int) + 1) = (i : Int) + 1 := IntWalk.i64_in _ (by omega)
            have hi5 : (0 : Int) ≤ (i : Int) + 1 := by omega
            generalize m.items[i]'hlt2 = y at *
            generalize m.items[i + 1]'hlt3 = z at *
            subst hia
            have LB := Lib.hid (fun w1 : World => ref_labelP hey.arg w1)
            have VL := Lib.hid (fun (w1 : World) (h : Holds w1 H) => ref_value (a := ⟨y1, y2, y3, y4⟩) (b := ⟨z1, z2, z3, z4⟩) (c := ⟨ma, mb, some ⟨ib, io, none⟩, md⟩) hmy hmz HMM.out hey hez HMI.out w1 h)
            have hHx := hHr.drew
            have hbx := hbs.drew
            have hBx := hBs.drew
            have hPx := hPs.drew
            have hQx := hQs.drew
            have hIx := hIs.drew
            have hTx := hTs.drew
            clear hel hmy hmz hey hez hHr hBs hPs hQs hIs hme hie
            cases hlab : labelP y with
            | false =>
              rw [hlab] at LB hst
              have EN : Hid (validHR p u = false) := BAD.out (by rw [hst.out]; rfl)
              clear hlab
              go_upto_region 10 with fail
              refine wp_region_ways 22 (fun w' => w'.cell? ⟨wo.heap.size, 0, none⟩ = some (.int .i64 m.kind) ∧ w'.cell? ⟨wo.heap.size, 1, none⟩ = some (.int .u64 m.n) ∧ w'.cell? ⟨wo.heap.size, 2, none⟩ = some (.slice ma m.bytes.length mb) ∧ w'.cell? ⟨wo.heap.size, 3, none⟩ = some (.slice (some ⟨ib, io, none⟩) m.items.length md) ∧ w'.cell? ⟨ib, io + i * 4, none⟩ = some (.int .i64 y.kind) ∧ w'.cell? ⟨ib, io + i * 4 + 1, none⟩ = some (.int .u64 y.n) ∧ w'.cell? ⟨ib, io + i * 4 + 2, none⟩ = some (.slice y1 y.bytes.length y2) ∧ w'.cell? ⟨ib, io + i * 4 + 3, none⟩ = some (.slice y3 y.items.length y4) ∧ w'.cell? ⟨ib, io + (i + 1) * 4, none⟩ = some (.int .i64 z.kind) ∧ w'.cell? ⟨ib, io + (i + 1) * 4 + 1, none⟩ = some (.int .u64 z.n) ∧ w'.cell? ⟨ib, io + (i + 1) * 4 + 2, none⟩ = some (.slice z1 z.bytes.length z2) ∧ w'.cell? ⟨ib, io + (i + 1) * 4 + 3, none⟩ = some (.slice z3 z.items.length z4)) (by kernel_rfl) (⟨hTx.cell 0 rfl, hTx.cell 1 rfl, hTx.cell 2 rfl, hTx.cell 3 rfl, hHx.cell q0, hHx.cell q1, hHx.cell q2, hHx.cell q3, hHx.cell s0, hHx.cell s1, hHx.cell s2, hHx.cell s3⟩) (fun hHeld => ?_)
              refine Ways.take (i := 0) (v := ?_) rfl (by kernel_rfl) (fun _ _ _ h => h) (Or.inl ⟨by rfl, ?_⟩) hHeld ?_
              rotate_left
              · (intro w hSw; (try dsimp only at hSw); go_simp; try with_reducible rfl)
              try simp only [Act.put, List.setIfInBounds_toArray, List.set_cons_zero, List.set_cons_succ]
              refine Ways.take (i := 1) (v := ?_) rfl (by kernel_rfl) (fun _ _ _ h => h) (Or.inl ⟨by rfl, ?_⟩) hHeld ?_
              rotate_left
              · (intro w hSw; (try dsimp only at hSw); go_simp; try with_reducible rfl)
              try simp only [Act.put, List.setIfInBounds_toArray, List.set_cons_zero, List.set_cons_succ]
              refine Ways.take (i := 2) (v := ?_) rfl (by kernel_rfl) (fun _ _ _ h => h) (Or.inl ⟨by rfl, ?_⟩) hHeld ?_
              rotate_left
              · (intro w hSw; (try dsimp only at hSw); go_simp; try with_reducible rfl)
              try simp only [Act.put, List.setIfInBounds_toArray, List.set_cons_zero, List.set_cons_succ]
              refine Ways.take (i := 3) (v := ?_) rfl (by kernel_rfl) (fun _ _ _ h => h) (Or.inl ⟨by rfl, ?_⟩) hHeld ?_
              rotate_left
              · (intro w hSw; (try dsimp only at hSw); go_simp; try with_reducible rfl)
              try simp only [Act.put, List.setIfInBounds_toArray, List.set_cons_zero, List.set_cons_succ]
              refine Ways.take (i := 4) (v := ?_) rfl (by kernel_rfl) (fun _ _ _ h => h) (Or.inl ⟨by rfl, ?_⟩) hHeld ?_
              rotate_left
              · (intro w hSw; (try dsimp only at hSw); go_simp; try with_reducible rfl)
              try simp only [Act.put, List.setIfInBounds_toArray, List.set_cons_zero, List.set_cons_succ]
              refine Ways.one (i := 5) rfl (by kernel_rfl) (fun K hK => ?_)
              go_simp
              refine (LB.out _).mono ?_
              rintro e w5 ⟨rfl, hb5⟩
              have hbx := hbx.trans (hb5.mono hbx.size)
              have hTx := hTx.below hb5
              have hHx := hHx.below hb5 (Nat.le_refl _)
              refine hK.out _ _ (fun _ => ?_) (fun hHeld => ?_)
              · exact ⟨hTx.cell 0 rfl, hTx.cell 1 rfl, hTx.cell 2 rfl, hTx.cell 3 rfl, hHx.cell q0, hHx.cell q1, hHx.cell q2, hHx.cell q3, hHx.cell s0, hHx.cell s1, hHx.cell s2, hHx.cell s3⟩
              clear hK K
              have hHeld := hHeld (by decide)
              try simp only [Act.put, List.setIfInBounds_toArray, List.set_cons_zero, List.set_cons_succ]
              refine Ways.take (i := 6) (v := ?_) rfl (by kernel_rfl) (fun _ _ _ h => h) (Or.inl ⟨by rfl, ?_⟩) hHeld ?_
              rotate_left
              · (intro w hSw; (try dsimp only at hSw); go_simp; try with_reducible rfl)
              try simp only [Act.put, List.setIfInBounds_toArray, List.set_cons_zero, List.set_cons_succ]
              refine Ways.take (i := 7) (v := ?_) rfl (by kernel_rfl) (fun _ _ _ h => h) (Or.inl ⟨by rfl, ?_⟩) hHeld ?_
              rotate_left
              · (intro w hSw; (try dsimp only at hSw); go_simp; try with_reducible rfl)
              try simp only [Act.put, List.setIfInBounds_toArray, List.set_cons_zero, List.set_cons_succ]
              refine Ways.take (i := 8) (v := undef) rfl (by kernel_rfl) (fun _ _ _ h => h) (Or.inr ⟨?_, rfl⟩) hHeld ?_
              · kernel_rfl
              try simp only [Act.put, List.setIfInBounds_toArray, List.set_cons_zero, List.set_cons_succ]
              refine Ways.take (i := 9) (v := undef) rfl (by kernel_rfl) (fun _ _ _ h => h) (Or.inr ⟨?_, rfl⟩) hHeld ?_
              · kernel_rfl
              try simp only [Act.put, List.setIfInBounds_toArray, List.set_cons_zero, List.set_cons_succ]
              refine Ways.take (i := 10) (v := undef) rfl (by kernel_rfl) (fun _ _ _ h => h) (Or.inr ⟨?_, rfl⟩) hHeld ?_
              · kernel_rfl
              try simp only [Act.put, List.setIfInBounds_toArray, List.set_cons_zero, List.set_cons_succ]
              refine Ways.take (i := 11) (v := undef) rfl (by kernel_rfl) (fun _ _ _ h => h) (Or.inr ⟨?_, rfl⟩) hHeld ?_
              · kernel_rfl
              try simp only [Act.put, List.setIfInBounds_toArray, List.set_cons_zero, List.set_cons_succ]
              refine Ways.take (i := 12) (v := undef) rfl (by kernel_rfl) (fun _ _ _ h => h) (Or.inr ⟨?_, rfl⟩) hHeld ?_
              · kernel_rfl
              try simp only [Act.put, List.setIfInBounds_toArray, List.set_cons_zero, List.set_cons_succ]
              refine Ways.take (i := 13) (v := undef) rfl (by kernel_rfl) (fun _ _ _ h => h) (Or.inr ⟨?_, rfl⟩) hHeld ?_
              · kernel_rfl
              try simp only [Act.put, List.setIfInBounds_toArray, List.set_cons_zero, List.set_cons_succ]
              refine Ways.take (i := 14) (v := undef) rfl (by kernel_rfl) (fun _ _ _ h => h) (Or.inr ⟨?_, rfl⟩) hHeld ?_
              · kernel_rfl
              try simp only [Act.put, List.setIfInBounds_toArray, List.set_cons_zero, List.set_cons_succ]
              refine Ways.take (i := 15) (v := undef) rfl (by kernel_rfl) (fun _ _ _ h => h) (Or.inr ⟨?_, rfl⟩) hHeld ?_
              · kernel_rfl
              try simp only [Act.put, List.setIfInBounds_toArray, List.set_cons_zero, List.set_cons_succ]
              refine Ways.take (i := 16) (v := undef) rfl (by kernel_rfl) (fun _ _ _ h => h) (Or.inr ⟨?_, rfl⟩) hHeld ?_
              · kernel_rfl
              try simp only [Act.put, List.setIfInBounds_toArray, List.set_cons_zero, List.set_cons_succ]
              refine Ways.take (i := 17) (v := undef) rfl (by kernel_rfl) (fun _ _ _ h => h) (Or.inr ⟨?_, rfl⟩) hHeld ?_
              · kernel_rfl
              try simp only [Act.put, List.setIfInBounds_toArray, List.set_cons_zero, List.set_cons_succ]
              refine Ways.take (i := 18) (v := undef) rfl (by kernel_rfl) (fun _ _ _ h => h) (Or.inr ⟨?_, rfl⟩) hHeld ?_
              · kernel_rfl
              try simp only [Act.put, List.setIfInBounds_toArray, List.set_cons_zero, List.set_cons_succ]
              refine Ways.take (i := 19) (v := undef) rfl (by kernel_rfl) (fun _ _ _ h => h) (Or.inr ⟨?_, rfl⟩) hHeld ?_
              · kernel_rfl
              try simp only [Act.put, List.setIfInBounds_toArray, List.set_cons_zero, List.set_cons_succ]
              refine Ways.take (i := 20) (v := undef) rfl (by kernel_rfl) (fun _ _ _ h => h) (Or.inr ⟨?_, rfl⟩) hHeld ?_
              · kernel_rfl
              try simp only [Act.put, List.setIfInBounds_toArray, List.set_cons_zero, List.set_cons_succ]
              refine Ways.take (i := 21) (v := undef) rfl (by kernel_rfl) (fun _ _ _ h => h) (Or.inr ⟨?_, rfl⟩) hHeld ?_
              · kernel_rfl
              try simp only [Act.put, List.setIfInBounds_toArray, List.set_cons_zero, List.set_cons_succ]
              refine Ways.one (i := 22) rfl (by kernel_rfl) (fun K hK => ?_)
              go_simp
              refine hK.out _ _ (fun h => absurd rfl h) (fun _ => ?_)
              clear hK K
              try simp only [Act.put, List.setIfInBounds_toArray, List.set_cons_zero, List.set_cons_succ]
              refine Ways.done (by kernel_rfl) ?_
              clear hHeld
              go_wp2_with fail
              go_ret
              exact ⟨by rw [EN.out]; rfl, hbx⟩
            | true =>
              rw [hlab] at LB hst
              clear hlab
              go_upto_region 10 with fail
              refine wp_region_ways 22 (fun w' => w'.cell? ⟨wo.heap.size, 0, none⟩ = some (.int .i64 m.kind) ∧ w'.cell? ⟨wo.heap.size, 1, none⟩ = some (.int .u64 m.n) ∧ w'.cell? ⟨wo.heap.size, 2, none⟩ = some (.slice ma m.bytes.length mb) ∧ w'.cell? ⟨wo.heap.size, 3, none⟩ = some (.slice (some ⟨ib, io, none⟩) m.items.length md) ∧ w'.cell? ⟨ib, io + i * 4, none⟩ = some (.int .i64 y.kind) ∧ w'.cell? ⟨ib, io + i * 4 + 1, none⟩ = some (.int .u64 y.n) ∧ w'.cell? ⟨ib, io + i * 4 + 2, none⟩ = some (.slice y1 y.bytes.length y2) ∧ w'.cell? ⟨ib, io + i * 4 + 3, none⟩ = some (.slice y3 y.items.length y4) ∧ w'.cell? ⟨ib, io + (i + 1) * 4, none⟩ = some (.int .i64 z.kind) ∧ w'.cell? ⟨ib, io + (i + 1) * 4 + 1, none⟩ = some (.int .u64 z.n) ∧ w'.cell? ⟨ib, io + (i + 1) * 4 + 2, none⟩ = some (.slice z1 z.bytes.length z2) ∧ w'.cell? ⟨ib, io + (i + 1) * 4 + 3, none⟩ = some (.slice z3 z.items.length z4)) (by kernel_rfl) (⟨hTx.cell 0 rfl, hTx.cell 1 rfl, hTx.cell 2 rfl, hTx.cell 3 rfl, hHx.cell q0, hHx.cell q1, hHx.cell q2, hHx.cell q3, hHx.cell s0, hHx.cell s1, hHx.cell s2, hHx.cell s3⟩) (fun hHeld => ?_)
              refine Ways.take (i := 0) (v := ?_) rfl (by kernel_rfl) (fun _ _ _ h => h) (Or.inl ⟨by rfl, ?_⟩) hHeld ?_
              rotate_left
              · (intro w hSw; (try dsimp only at hSw); go_simp; try with_reducible rfl)
              try simp only [Act.put, List.setIfInBounds_toArray, List.set_cons_zero, List.set_cons_succ]
              refine Ways.take (i := 1) (v := ?_) rfl (by kernel_rfl) (fun _ _ _ h => h) (Or.inl ⟨by rfl, ?_⟩) hHeld ?_
              rotate_left
              · (intro w hSw; (try dsimp only at hSw); go_simp; try with_reducible rfl)
              try simp only [Act.put, List.setIfInBounds_toArray, List.set_cons_zero, List.set_cons_succ]
              refine Ways.take (i := 2) (v := ?_) rfl (by kernel_rfl) (fun _ _ _ h => h) (Or.inl ⟨by rfl, ?_⟩) hHeld ?_
              rotate_left
              · (intro w hSw; (try dsimp only at hSw); go_simp; try with_reducible rfl)
              try simp only [Act.put, List.setIfInBounds_toArray, List.set_cons_zero, List.set_cons_succ]
              refine Ways.take (i := 3) (v := ?_) rfl (by kernel_rfl) (fun _ _ _ h => h) (Or.inl ⟨by rfl, ?_⟩) hHeld ?_
              rotate_left
              · (intro w hSw; (try dsimp only at hSw); go_simp; try with_reducible rfl)
              try simp only [Act.put, List.setIfInBounds_toArray, List.set_cons_zero, List.set_cons_succ]
              refine Ways.take (i := 4) (v := ?_) rfl (by kernel_rfl) (fun _ _ _ h => h) (Or.inl ⟨by rfl, ?_⟩) hHeld ?_
              rotate_left
              · (intro w hSw; (try dsimp only at hSw); go_simp; try with_reducible rfl)
              try simp only [Act.put, List.setIfInBounds_toArray, List.set_cons_zero, List.set_cons_succ]
              refine Ways.one (i := 5) rfl (by kernel_rfl) (fun K hK => ?_)
              go_simp
              refine (LB.out _).mono ?_
              rintro e w5 ⟨rfl, hb5⟩
              have hbx := hbx.trans (hb5.mono hbx.size)
              have hTx := hTx.below hb5
              have hBx := hBx.below hb5
              have hPx := hPx.below hb5
              have hQx := hQx.below hb5
              have hIx := hIx.below hb5
              have hHx := hHx.below hb5 (Nat.le_refl _)
              refine hK.out _ _ (fun _ => ?_) (fun hHeld => ?_)
              · exact ⟨hTx.cell 0 rfl, hTx.cell 1 rfl, hTx.cell 2 rfl, hTx.cell 3 rfl, hHx.cell q0, hHx.cell q1, hHx.cell q2, hHx.cell q3, hHx.cell s0, hHx.cell s1, hHx.cell s2, hHx.cell s3⟩
              clear hK K
              have hHeld := hHeld (by decide)
              try simp only [Act.put, List.setIfInBounds_toArray, List.set_cons_zero, List.set_cons_succ]
              refine Ways.take (i := 6) (v := ?_) rfl (by kernel_rfl) (fun _ _ _ h => h) (Or.inl ⟨by rfl, ?_⟩) hHeld ?_
              rotate_left
              · (intro w hSw; (try dsimp only at hSw); go_simp; try with_reducible rfl)
              try simp only [Act.put, List.setIfInBounds_toArray, List.set_cons_zero, List.set_cons_succ]
              refine Ways.take (i := 7) (v := ?_) rfl (by kernel_rfl) (fun _ _ _ h => h) (Or.inl ⟨by rfl, ?_⟩) hHeld ?_
              rotate_left
              · (intro w hSw; (try dsimp only at hSw); go_simp; try with_reducible rfl)
              try simp only [Act.put, List.setIfInBounds_toArray, List.set_cons_zero, List.set_cons_succ]
              refine Ways.take (i := 8) (v := ?_) rfl (by kernel_rfl) (fun _ _ _ h => h) (Or.inl ⟨?_, ?_⟩) hHeld ?_
              rotate_left
              · kernel_rfl
              · (intro w hSw; (try dsimp only at hSw); go_simp; try with_reducible rfl)
              try simp only [Act.put, List.setIfInBounds_toArray, List.set_cons_zero, List.set_cons_succ]
              refine Ways.take (i := 9) (v := ?_) rfl (by kernel_rfl) (fun _ _ _ h => h) (Or.inl ⟨?_, ?_⟩) hHeld ?_
              rotate_left
              · kernel_rfl
              · (intro w hSw; (try dsimp only at hSw); go_simp; try with_reducible rfl)
              try simp only [Act.put, List.setIfInBounds_toArray, List.set_cons_zero, List.set_cons_succ]
              refine Ways.take (i := 10) (v := ?_) rfl (by kernel_rfl) (fun _ _ _ h => h) (Or.inl ⟨?_, ?_⟩) hHeld ?_
              rotate_left
              · kernel_rfl
              · (intro w hSw; (try dsimp only at hSw); go_simp; try with_reducible rfl)
              try simp only [Act.put, List.setIfInBounds_toArray, List.set_cons_zero, List.set_cons_succ]
              refine Ways.take (i := 11) (v := ?_) rfl (by kernel_rfl) (fun _ _ _ h => h) (Or.inl ⟨?_, ?_⟩) hHeld ?_
              rotate_left
              · kernel_rfl
              · (intro w hSw; (try dsimp only at hSw); go_simp; try with_reducible rfl)
              try simp only [Act.put, List.setIfInBounds_toArray, List.set_cons_zero, List.set_cons_succ]
              refine Ways.take (i := 12) (v := ?_) rfl (by kernel_rfl) (fun _ _ _ h => h) (Or.inl ⟨?_, ?_⟩) hHeld ?_
              rotate_left
              · kernel_rfl
              · (intro w hSw; (try dsimp only at hSw); go_simp; try with_reducible rfl)
              try simp only [Act.put, List.setIfInBounds_toArray, List.set_cons_zero, List.set_cons_succ]
              refine Ways.take (i := 13) (v := ?_) rfl (by kernel_rfl) (fun _ _ _ h => h) (Or.inl ⟨?_, ?_⟩) hHeld ?_
              rotate_left
              · kernel_rfl
              · (intro w hSw; (try dsimp only at hSw); go_simp; try with_reducible rfl)
              try simp only [Act.put, List.setIfInBounds_toArray, List.set_cons_zero, List.set_cons_succ]
              refine Ways.take (i := 14) (v := ?_) rfl (by kernel_rfl) (fun _ _ _ h => h) (Or.inl ⟨?_, ?_⟩) hHeld ?_
              rotate_left
              · kernel_rfl
              · (intro w hSw; (try dsimp only at hSw); go_simp; try with_reducible rfl)
              try simp only [Act.put, List.setIfInBounds_toArray, List.set_cons_zero, List.set_cons_succ]
              refine Ways.take (i := 15) (v := ?_) rfl (by kernel_rfl) (fun _ _ _ h => h) (Or.inl ⟨?_, ?_⟩) hHeld ?_
              rotate_left
              · kernel_rfl
              · (intro w hSw; (try dsimp only at hSw); go_simp; try with_reducible rfl)
              try simp only [Act.put, List.setIfInBounds_toArray, List.set_cons_zero, List.set_cons_succ]
              refine Ways.take (i := 16) (v := ?_) rfl (by kernel_rfl) (fun _ _ _ h => h) (Or.inl ⟨?_, ?_⟩) hHeld ?_
              rotate_left
              · kernel_rfl
              · (intro w hSw; (try dsimp only at hSw); go_simp; try with_reducible rfl)
              try simp only [Act.put, List.setIfInBounds_toArray, List.set_cons_zero, List.set_cons_succ]
              refine Ways.take (i := 17) (v := ?_) rfl (by kernel_rfl) (fun _ _ _ h => h) (Or.inl ⟨?_, ?_⟩) hHeld ?_
              rotate_left
              · kernel_rfl
              · (intro w hSw; (try dsimp only at hSw); go_simp; try with_reducible rfl)
              try simp only [Act.put, List.setIfInBounds_toArray, List.set_cons_zero, List.set_cons_succ]
              refine Ways.take (i := 18) (v := ?_) rfl (by kernel_rfl) (fun _ _ _ h => h) (Or.inl ⟨?_, ?_⟩) hHeld ?_
              rotate_left
              · kernel_rfl
              · (intro w hSw; (try dsimp only at hSw); go_simp; try with_reducible rfl)
              try simp only [Act.put, List.setIfInBounds_toArray, List.set_cons_zero, List.set_cons_succ]
              refine Ways.take (i := 19) (v := ?_) rfl (by kernel_rfl) (fun _ _ _ h => h) (Or.inl ⟨?_, ?_⟩) hHeld ?_
              rotate_left
              · kernel_rfl
              · (intro w hSw; (try dsimp only at hSw); go_simp; try with_reducible rfl)
              try simp only [Act.put, List.setIfInBounds_toArray, List.set_cons_zero, List.set_cons_succ]
              refine Ways.one (i := 20) rfl (by kernel_rfl) (fun K hK => ?_)
              go_simp
              refine (VL.out _ hHx).mono ?_
              rintro e w6 ⟨rfl, hb6⟩
              have hbx := hbx.trans (hb6.mono hbx.size)
              have hTx := hTx.below hb6
              have hBx := hBx.below hb6
              have hPx := hPx.below hb6
              have hQx := hQx.below hb6
              have hIx := hIx.below hb6
              have hHx := hHx.below hb6 (Nat.le_refl _)
              refine hK.out _ _ (fun _ => ?_) (fun hHeld => ?_)
              · exact ⟨hTx.cell 0 rfl, hTx.cell 1 rfl, hTx.cell 2 rfl, hTx.cell 3 rfl, hHx.cell q0, hHx.cell q1, hHx.cell q2, hHx.cell q3, hHx.cell s0, hHx.cell s1, hHx.cell s2, hHx.cell s3⟩
              clear hK K
              have hHeld := hHeld (by decide)
              try simp only [Act.put, List.setIfInBounds_toArray, List.set_cons_zero, List.set_cons_succ]
              refine Ways.take (i := 21) (v := ?_) rfl (by kernel_rfl) (fun _ _ _ h => h) (Or.inl ⟨?_, ?_⟩) hHeld ?_
              rotate_left
              · kernel_rfl
              · (intro w hSw; (try dsimp only at hSw); go_simp; try with_reducible rfl)
              try simp only [Act.put, List.setIfInBounds_toArray, List.set_cons_zero, List.set_cons_succ]
              refine Ways.one (i := 22) rfl (by kernel_rfl) (fun K hK => ?_)
              go_simp
              refine hK.out _ _ (fun h => absurd rfl h) (fun _ => ?_)
              clear hK K
              try simp only [Act.put, List.setIfInBounds_toArray, List.set_cons_zero, List.set_cons_succ]
              refine Ways.done (by kernel_rfl) ?_
              clear hHeld
              cases hval : valueP y z m.items with
              | false =>
                rw [hval] at hst
                have EN : Hid (validHR p u = false) := BAD.out (by rw [hst.out]; rfl)
                clear hval
                go_wp2_with fail
                go_ret
                exact ⟨by rw [EN.out]; rfl, hbx⟩
              | true =>
                rw [hval] at hst
                have EN : Hid (pairsOkR m.items (m.items.drop (i + 2)) = pairsOkR m.items m.items) := by rw [Hid, hst.out]; rfl
                have hi6 : (i + 2) % 2 = 0 := by have := HIE.out; omega
                clear hval hHx
                go_wp2_with fail
                go_roundw
                case rel => exact ⟨i + 2, by omega, hi6, by omega, EN.out⟩
                case measure => simp [intOf]; omega
          · have EN := GOOD.out (by rw [← HS.out]; exact pairsOkR_end _ _ _ (by omega))
            have HEN := Lib.hid EN
            clear EN
            go_wp2_with fail
            go_roundw
            case rel => exact ⟨j + 1, by omega, by go_num, HEN.out.1, HEN.out.2, hbs, hBs, hPs, hQs, hIs⟩
            case measure => simp [intOf]; omega
      · have hjn : ¬ (j : Int) < 2 := by omega
        have E2 : Hid (validHR p u = (keysR p.items u.items && (!(findR p u 5).isSome || !(findR p u 6).isSome))) := by
          rw [Hid, E.out, HOP.out (by omega), HOU.out (by omega)]; rfl
        clear hIr
        have d3 := hQr.cell 3 rfl
        go_wp2_with fail
        go_loopw [8] (fun v8 wr => ∃ i : Nat, i ≤ u.items.length ∧ i % 2 = 0 ∧ v8 = .int .i64 i ∧ keysR p.items (u.items.drop i) = keysR p.items u.items ∧ Below w.heap.size w wr ∧ Blk wr w.heap.size 28 (hdrC p a u b) ∧ Blk wr g1 26 #[.int .i64 p.kind, .int .u64 p.n, .slice a.ba p.bytes.length a.bc, .slice a.ia p.items.length a.ic] ∧ Blk wr g2 26 #[.int .i64 u.kind, .int .u64 u.n, .slice b.ba u.bytes.length b.bc, .slice b.ia u.items.length b.ic]) (fun v8 _ => u.items.length - (intOf v8).toNat)
        case atStart => exact ⟨0, by omega, rfl, rfl, rfl, hbr, hBr, hPr, hQr⟩
        case round =>
          obtain ⟨i, hi, hie, rfl, hs, hbs, hBs, hPs, hQs⟩ := hrel
          have HS := Lib.hid hs
          have HIE := Lib.hid hie
          have f3 := hQs.cell 3 rfl
          have hml := HMU.out.parts.2.1
          clear hs hie d3 hbr hBr hPr hQr
          by_cases hlt2 : i < u.items.length
          · have hme := HEU.out
            have hie := HIE.out
            have hlt3 : i + 1 < u.items.length := by omega
            have hHr : Holds wr H := hH.below hbs (Nat.le_refl _)
            obtain ⟨ib, io, hia, hel⟩ := HU.out.items (by omega)
            obtain ⟨y1, y2, y3, y4, q0, q1, q2, q3, hey⟩ := hel.get i hlt2
            have hst := Lib.hid (HS.out.symm.trans (keysR_step p.items u.items i hlt3))
            have hmy := HMU.out.parts.2.2.get i hlt2
            have hi3 : (i : Int) < u.items.length := by omega
            generalize u.items[i]'hlt2 = y at *
            have AT := Lib.hid (fun (w1 : World) (h : Holds w1 H) => ref_at HMP.out hmy HP.out.arg hey.arg w1 h)
            have SM := Lib.hid (fun (w1 : World) (H1 : Snap) (hl : H.le H1) (xa : Option Addr) (xb : Nat) (xc : Option Addr) (xd : Nat) (hi1 : IsItem H1 xa xb xc xd (intP 2)) (h : Holds w1 H1) => ref_Same y (intP 2) H1 _ _ y1 _ y2 y3 _ y4 _ _ xa _ xb xc _ xd w1 hmy (modest_int 2) (hey.mono hl).arg hi1.arg h)
            have HIA := Lib.hid hia
            clear hia
            have hQ3 : ∀ {wq : World}, Blk wq g2 26 #[.int .i64 u.kind, .int .u64 u.n, .slice b.ba u.bytes.length b.bc, .slice b.ia u.items.length b.ic] → wq.cell? ⟨g2, 3, none⟩ = some (.slice (some ⟨ib, io, none⟩) u.items.length b.ic) := fun h => by rw [h.cell 3 rfl]; show some (Value.slice b.ia _ _) = _; rw [HIA.out]
            have hHx := hHr.drew
            have hbx := hbs.drew
            have hBx := hBs.drew
            have hPx := hPs.drew
            have hQx := hQs.drew
            clear hel hmy hey hme hie hBs hPs hQs hbs hHr
            go_upto_region 16 with fail
            clear f3
            go_cut [10] (fun s10 wx => s10 = .bool (atL y p.items).isSome ∧ Below w.heap.size w wx ∧ Blk wx w.heap.size 28 (hdrC p a u b) ∧ Blk wx g1 26 #[.int .i64 p.kind, .int .u64 p.n, .slice a.ba p.bytes.length a.bc, .slice a.ia p.items.length a.ic] ∧ Blk wx g2 26 #[.int .i64 u.kind, .int .u64 u.n, .slice b.ba u.bytes.length b.bc, .slice b.ia u.items.length b.ic])
            case first =>
              refine wp_region_ways 12 (fun w' => w'.cell? ⟨g1, 0, none⟩ = some (.int .i64 p.kind) ∧ w'.cell? ⟨g1, 1, none⟩ = some (.int .u64 p.n) ∧ w'.cell? ⟨g1, 2, none⟩ = some (.slice a.ba p.bytes.length a.bc) ∧ w'.cell? ⟨g1, 3, none⟩ = some (.slice a.ia p.items.length a.ic) ∧ w'.cell? ⟨g2, 3, none⟩ = some (.slice (some ⟨ib, io, none⟩) u.items.length b.ic) ∧ w'.cell? ⟨ib, io + i * 4, none⟩ = some (.int .i64 y.kind) ∧ w'.cell? ⟨ib, io + i * 4 + 1, none⟩ = some (.int .u64 y.n) ∧ w'.cell? ⟨ib, io + i * 4 + 2, none⟩ = some (.slice y1 y.bytes.length y2) ∧ w'.cell? ⟨ib, io + i * 4 + 3, none⟩ = some (.slice y3 y.items.length y4)) (by kernel_rfl) (⟨hPx.cell 0 rfl, hPx.cell 1 rfl, hPx.cell 2 rfl, hPx.cell 3 rfl, hQ3 hQx, hHx.cell q0, hHx.cell q1, hHx.cell q2, hHx.cell q3⟩) (fun hHeld => ?_)
              refine Ways.take (i := 0) (v := ?_) rfl (by kernel_rfl) (fun _ _ _ h => h) (Or.inl ⟨by rfl, ?_⟩) hHeld ?_
              rotate_left
              · (intro w hSw; (try dsimp only at hSw); go_simp; try with_reducible rfl)
              try simp only [Act.put, List.setIfInBounds_toArray, List.set_cons_zero, List.set_cons_succ]
              refine Ways.take (i := 1) (v := ?_) rfl (by kernel_rfl) (fun _ _ _ h => h) (Or.inl ⟨by rfl, ?_⟩) hHeld ?_
              rotate_left
              · (intro w hSw; (try dsimp only at hSw); go_simp; try with_reducible rfl)
              try simp only [Act.put, List.setIfInBounds_toArray, List.set_cons_zero, List.set_cons_succ]
              refine Ways.take (i := 2) (v := ?_) rfl (by kernel_rfl) (fun _ _ _ h => h) (Or.inl ⟨by rfl, ?_⟩) hHeld ?_
              rotate_left
              · (intro w hSw; (try dsimp only at hSw); go_simp; try with_reducible rfl)
              try simp only [Act.put, List.setIfInBounds_toArray, List.set_cons_zero, List.set_cons_succ]
              refine Ways.take (i := 3) (v := ?_) rfl (by kernel_rfl) (fun _ _ _ h => h) (Or.inl ⟨by rfl, ?_⟩) hHeld ?_
              rotate_left
              · (intro w hSw; (try dsimp only at hSw); go_simp; try with_reducible rfl)
              try simp only [Act.put, List.setIfInBounds_toArray, List.set_cons_zero, List.set_cons_succ]
              refine Ways.take (i := 4) (v := ?_) rfl (by kernel_rfl) (fun _ _ _ h => h) (Or.inl ⟨by rfl, ?_⟩) hHeld ?_
              rotate_left
              · (intro w hSw; (try dsimp only at hSw); go_simp; try with_reducible rfl)
              try simp only [Act.put, List.setIfInBounds_toArray, List.set_cons_zero, List.set_cons_succ]
              refine Ways.take (i := 5) (v := ?_) rfl (by kernel_rfl) (fun _ _ _ h => h) (Or.inl ⟨by rfl, ?_⟩) hHeld ?_
              rotate_left
              · (intro w hSw; (try dsimp only at hSw); go_simp; try with_reducible rfl)
              try simp only [Act.put, List.setIfInBounds_toArray, List.set_cons_zero, List.set_cons_succ]
              refine Ways.two (i := 6) (j := 10) rfl rfl (by kernel_rfl) (fun K hK => ?_) (fun K hK => ?_)
              · go_simp
                refine (AT.out _ hHx).mono ?_
                rintro e w5 ⟨⟨ra, rb, rc, rd, rfl, _⟩, hb5⟩
                have hPx := hPx.below hb5
                have hQx := hQx.below hb5
                have hBx := hBx.below hb5
                try have hN := hN.below hb5
                have hHx := hHx.below hb5 (Nat.le_refl _)
                have hbx := hbx.trans (hb5.mono hbx.size)
                refine hK.out _ _ (fun _ => ?_) (fun hHeld => ?_)
                · exact ⟨hPx.cell 0 rfl, hPx.cell 1 rfl, hPx.cell 2 rfl, hPx.cell 3 rfl, hQ3 hQx, hHx.cell q0, hHx.cell q1, hHx.cell q2, hHx.cell q3⟩
                clear hK K
                have hHeld := hHeld (by decide)
                try simp only [Act.put, List.setIfInBounds_toArray, List.set_cons_zero, List.set_cons_succ]
                refine Ways.take (i := 7) (v := ?_) rfl (by kernel_rfl) (fun _ _ _ h => h) (Or.inl ⟨by rfl, ?_⟩) hHeld ?_
                rotate_left
                · (intro w hSw; (try dsimp only at hSw); go_simp; try with_reducible rfl)
                try simp only [Act.put, List.setIfInBounds_toArray, List.set_cons_zero, List.set_cons_succ]
                refine Ways.take (i := 8) (v := ?_) rfl (by kernel_rfl) (fun _ _ _ h => h) (Or.inl ⟨by rfl, ?_⟩) hHeld ?_
                rotate_left
                · (intro w hSw; (try dsimp only at hSw); go_simp; try with_reducible rfl)
                try simp only [Act.put, List.setIfInBounds_toArray, List.set_cons_zero, List.set_cons_succ]
                refine Ways.take (i := 9) (v := ?_) rfl (by kernel_rfl) (fun _ _ _ h => h) (Or.inl ⟨by rfl, ?_⟩) hHeld ?_
                rotate_left
                · (intro w hSw; (try dsimp only at hSw); go_simp; try with_reducible rfl)
                try simp only [Act.put, List.setIfInBounds_toArray, List.set_cons_zero, List.set_cons_succ]
                refine Ways.one (i := 10) rfl (by kernel_rfl) (fun K hK => ?_)
                go_simp
                have hN := below_newBlk hbx 26 #[.int .i64 0, .int .u64 0, .slice none 0 0, .slice none 0 0]
                have hl1 := hPx.lt
                have hl2 := hQx.lt
                have hl3 := hBx.lt
                have hl4 := hbx.size
                try simp only [drew_heap, size_alloc] at hN hl1 hl2 hl3 hl4
                have hPx := hPx.alloc zeroO
                have hQx := hQx.alloc zeroO
                have hBx := hBx.alloc zeroO
                have hHx := hHx.alloc zeroO
                have hbx := hbx.alloc hbx.size zeroO
                refine hK.out _ _ (fun _ => ?_) (fun hHeld => ?_)
                · exact ⟨hPx.cell 0 rfl, hPx.cell 1 rfl, hPx.cell 2 rfl, hPx.cell 3 rfl, hQ3 hQx, hHx.cell q0, hHx.cell q1, hHx.cell q2, hHx.cell q3⟩
                clear hK K
                have hHeld := hHeld (by decide)
                try simp only [Act.put, List.setIfInBounds_toArray, List.set_cons_zero, List.set_cons_succ]
                refine Ways.one (i := 11) rfl (by kernel_rfl) (fun K hK => ?_)
                rw [if_pos (by rfl)]
                refine wp_store_item _ _ _ rfl _ _ rfl rfl _ _ hN size_item rfl (one4 _ _ _ _ rfl rfl rfl rfl) fun w6 hN6 hg6 => ?_
                have hHx : Holds _ H := hH.below (hbx.grown hg6 hbx.size (by rintro q ⟨⟩; omega)) (Nat.le_refl _)
                have hPx := hPx.grown hg6 (by first | (simp; done) | (simp; omega))
                have hQx := hQx.grown hg6 (by first | (simp; done) | (simp; omega))
                have hBx := hBx.grown hg6 (by first | (simp; done) | (simp; omega))
                have hbx := hbx.grown hg6 hbx.size (by rintro q ⟨⟩; omega)
                refine hK.out _ _ (fun _ => ?_) (fun hHeld => ?_)
                · exact ⟨hPx.cell 0 rfl, hPx.cell 1 rfl, hPx.cell 2 rfl, hPx.cell 3 rfl, hQ3 hQx, hHx.cell q0, hHx.cell q1, hHx.cell q2, hHx.cell q3⟩
                clear hK K
                have hHeld := hHeld (by decide)
                try simp only [Act.put, List.setIfInBounds_toArray, List.set_cons_zero, List.set_cons_succ]
                refine Ways.one (i := 12) rfl (by kernel_rfl) (fun K hK => ?_)
                go_simp
                refine hK.out _ _ (fun h => absurd rfl h) (fun _ => ?_)
                clear hK K
                try simp only [Act.put, List.setIfInBounds_toArray, List.set_cons_zero, List.set_cons_succ]
                refine Ways.done (by kernel_rfl) ?_
                go_wp2_with fail
                go_meet
                exact ⟨rfl, hbx, hBx, hPx, hQx⟩
              · go_simp
                have hN := below_newBlk hbx 26 #[.int .i64 0, .int .u64 0, .slice none 0 0, .slice none 0 0]
                have hl1 := hPx.lt
                have hl2 := hQx.lt
                have hl3 := hBx.lt
                have hl4 := hbx.size
                try simp only [drew_heap, size_alloc] at hN hl1 hl2 hl3 hl4
                have hPx := hPx.alloc zeroO
                have hQx := hQx.alloc zeroO
                have hBx := hBx.alloc zeroO
                have hHx := hHx.alloc zeroO
                have hbx := hbx.alloc hbx.size zeroO
                refine hK.out _ _ (fun _ => ?_) (fun hHeld => ?_)
                · exact ⟨hPx.cell 0 rfl, hPx.cell 1 rfl, hPx.cell 2 rfl, hPx.cell 3 rfl, hQ3 hQx, hHx.cell q0, hHx.cell q1, hHx.cell q2, hHx.cell q3⟩
                clear hK K
                have hHeld := hHeld (by decide)
                try simp only [Act.put, List.setIfInBounds_toArray, List.set_cons_zero, List.set_cons_succ]
                refine Ways.one (i := 6) rfl (by kernel_rfl) (fun K hK => ?_)
                go_simp
                refine (AT.out _ hHx).mono ?_
                rintro e w5 ⟨⟨ra, rb, rc, rd, rfl, _⟩, hb5⟩
                have hPx := hPx.below hb5
                have hQx := hQx.below hb5
                have hBx := hBx.below hb5
                try have hN := hN.below hb5
                have hHx := hHx.below hb5 (Nat.le_refl _)
                have hbx := hbx.trans (hb5.mono hbx.size)
                refine hK.out _ _ (fun _ => ?_) (fun hHeld => ?_)
                · exact ⟨hPx.cell 0 rfl, hPx.cell 1 rfl, hPx.cell 2 rfl, hPx.cell 3 rfl, hQ3 hQx, hHx.cell q0, hHx.cell q1, hHx.cell q2, hHx.cell q3⟩
                clear hK K
                have hHeld := hHeld (by decide)
                try simp only [Act.put, List.setIfInBounds_toArray, List.set_cons_zero, List.set_cons_succ]
                refine Ways.take (i := 7) (v := ?_) rfl (by kernel_rfl) (fun _ _ _ h => h) (Or.inl ⟨by rfl, ?_⟩) hHeld ?_
                rotate_left
                · (intro w hSw; (try dsimp only at hSw); go_simp; try with_reducible rfl)
                try simp only [Act.put, List.setIfInBounds_toArray, List.set_cons_zero, List.set_cons_succ]
                refine Ways.take (i := 8) (v := ?_) rfl (by kernel_rfl) (fun _ _ _ h => h) (Or.inl ⟨by rfl, ?_⟩) hHeld ?_
                rotate_left
                · (intro w hSw; (try dsimp only at hSw); go_simp; try with_reducible rfl)
                try simp only [Act.put, List.setIfInBounds_toArray, List.set_cons_zero, List.set_cons_succ]
                refine Ways.take (i := 9) (v := ?_) rfl (by kernel_rfl) (fun _ _ _ h => h) (Or.inl ⟨by rfl, ?_⟩) hHeld ?_
                rotate_left
                · (intro w hSw; (try dsimp only at hSw); go_simp; try with_reducible rfl)
                try simp only [Act.put, List.setIfInBounds_toArray, List.set_cons_zero, List.set_cons_succ]
                refine Ways.one (i := 11) rfl (by kernel_rfl) (fun K hK => ?_)
                rw [if_pos (by rfl)]
                refine wp_store_item _ _ _ rfl _ _ rfl rfl _ _ hN size_item rfl (one4 _ _ _ _ rfl rfl rfl rfl) fun w6 hN6 hg6 => ?_
                have hHx : Holds _ H := hH.below (hbx.grown hg6 hbx.size (by rintro q ⟨⟩; omega)) (Nat.le_refl _)
                have hPx := hPx.grown hg6 (by first | (simp; done) | (simp; omega))
                have hQx := hQx.grown hg6 (by first | (simp; done) | (simp; omega))
                have hBx := hBx.grown hg6 (by first | (simp; done) | (simp; omega))
                have hbx := hbx.grown hg6 hbx.size (by rintro q ⟨⟩; omega)
                refine hK.out _ _ (fun _ => ?_) (fun hHeld => ?_)
                · exact ⟨hPx.cell 0 rfl, hPx.cell 1 rfl, hPx.cell 2 rfl, hPx.cell 3 rfl, hQ3 hQx, hHx.cell q0, hHx.cell q1, hHx.cell q2, hHx.cell q3⟩
                clear hK K
                have hHeld := hHeld (by decide)
                try simp only [Act.put, List.setIfInBounds_toArray, List.set_cons_zero, List.set_cons_succ]
                refine Ways.one (i := 12) rfl (by kernel_rfl) (fun K hK => ?_)
                go_simp
                refine hK.out _ _ (fun h => absurd rfl h) (fun _ => ?_)
                clear hK K
                try simp only [Act.put, List.setIfInBounds_toArray, List.set_cons_zero, List.set_cons_succ]
                refine Ways.done (by kernel_rfl) ?_
                go_wp2_with fail
                go_meet
                exact ⟨rfl, hbx, hBx, hPx, hQx⟩
            case rest =>
              clear hHx hbx hBx hPx hQx
              obtain ⟨rfl, hbx, hBx, hPx, hQx⟩ := hcut
              have hHx : Holds wc.drew H := (hH.below hbx (Nat.le_refl _)).drew
              have hPx := hPx.drew
              have hQx := hQx.drew
              have hBx := hBx.drew
              have hbx := hbx.drew
              cases hat : (atL y p.items).isSome with
              | true =>
                rw [hat] at hst
                have EN : Hid (validHR p u = false) := by rw [Hid, E2.out, hst.out]; rfl
                clear hat
                go_upto_region 17 with fail
                refine wp_region_ways 9 (fun w' => w'.cell? ⟨g2, 3, none⟩ = some (.slice (some ⟨ib, io, none⟩) u.items.length b.ic) ∧ w'.cell? ⟨ib, io + i * 4, none⟩ = some (.int .i64 y.kind) ∧ w'.cell? ⟨ib, io + i * 4 + 1, none⟩ = some (.int .u64 y.n) ∧ w'.cell? ⟨ib, io + i * 4 + 2, none⟩ = some (.slice y1 y.bytes.length y2) ∧ w'.cell? ⟨ib, io + i * 4 + 3, none⟩ = some (.slice y3 y.items.length y4)) (by kernel_rfl) (⟨hQ3 hQx, hHx.cell q0, hHx.cell q1, hHx.cell q2, hHx.cell q3⟩) (fun hHeld => ?_)
                refine Ways.take (i := 0) (v := ?_) rfl (by kernel_rfl) (fun _ _ _ h => h) (Or.inl ⟨by rfl, ?_⟩) hHeld ?_
                rotate_left
                · (intro w hSw; (try dsimp only at hSw); go_simp; try with_reducible rfl)
                try simp only [Act.put, List.setIfInBounds_toArray, List.set_cons_zero, List.set_cons_succ]
                refine Ways.take (i := 1) (v := ?_) rfl (by kernel_rfl) (fun _ _ _ h => h) (Or.inl ⟨by rfl, ?_⟩) hHeld ?_
                rotate_left
                · (intro w hSw; (try dsimp only at hSw); go_simp; try with_reducible rfl)
                try simp only [Act.put, List.setIfInBounds_toArray, List.set_cons_zero, List.set_cons_succ]
                refine Ways.take (i := 2) (v := undef) rfl (by kernel_rfl) (fun _ _ _ h => h) (Or.inr ⟨?_, rfl⟩) hHeld ?_
                · kernel_rfl
                try simp only [Act.put, List.setIfInBounds_toArray, List.set_cons_zero, List.set_cons_succ]
                refine Ways.take (i := 3) (v := undef) rfl (by kernel_rfl) (fun _ _ _ h => h) (Or.inr ⟨?_, rfl⟩) hHeld ?_
                · kernel_rfl
                try simp only [Act.put, List.setIfInBounds_toArray, List.set_cons_zero, List.set_cons_succ]
                refine Ways.take (i := 4) (v := undef) rfl (by kernel_rfl) (fun _ _ _ h => h) (Or.inr ⟨?_, rfl⟩) hHeld ?_
                · kernel_rfl
                try simp only [Act.put, List.setIfInBounds_toArray, List.set_cons_zero, List.set_cons_succ]
                refine Ways.take (i := 5) (v := undef) rfl (by kernel_rfl) (fun _ _ _ h => h) (Or.inr ⟨?_, rfl⟩) hHeld ?_
                · kernel_rfl
                try simp only [Act.put, List.setIfInBounds_toArray, List.set_cons_zero, List.set_cons_succ]
                refine Ways.take (i := 6) (v := undef) rfl (by kernel_rfl) (fun _ _ _ h => h) (Or.inr ⟨?_, rfl⟩) hHeld ?_
                · kernel_rfl
                try simp only [Act.put, List.setIfInBounds_toArray, List.set_cons_zero, List.set_cons_succ]
                refine Ways.take (i := 7) (v := undef) rfl (by kernel_rfl) (fun _ _ _ h => h) (Or.inr ⟨?_, rfl⟩) hHeld ?_
                · kernel_rfl
                try simp only [Act.put, List.setIfInBounds_toArray, List.set_cons_zero, List.set_cons_succ]
                refine Ways.take (i := 8) (v := undef) rfl (by kernel_rfl) (fun _ _ _ h => h) (Or.inr ⟨?_, rfl⟩) hHeld ?_
                · kernel_rfl
                try simp only [Act.put, List.setIfInBounds_toArray, List.set_cons_zero, List.set_cons_succ]
                refine Ways.one (i := 9) rfl (by kernel_rfl) (fun K hK => ?_)
                go_simp
                refine hK.out _ _ (fun h => absurd rfl h) (fun _ => ?_)
                clear hK K
                try simp only [Act.put, List.setIfInBounds_toArray, List.set_cons_zero, List.set_cons_succ]
                refine Ways.done (by kernel_rfl) ?_
                clear hHeld
                go_wp2_with fail
                go_ret
                exact ⟨by rw [EN.out]; rfl, hbx⟩
              | false =>
                rw [hat] at hst
                clear hat
                go_upto_region 17 with fail
                refine wp_region_ways 9 (fun w' => w'.cell? ⟨g2, 3, none⟩ = some (.slice (some ⟨ib, io, none⟩) u.items.length b.ic) ∧ w'.cell? ⟨ib, io + i * 4, none⟩ = some (.int .i64 y.kind) ∧ w'.cell? ⟨ib, io + i * 4 + 1, none⟩ = some (.int .u64 y.n) ∧ w'.cell? ⟨ib, io + i * 4 + 2, none⟩ = some (.slice y1 y.bytes.length y2) ∧ w'.cell? ⟨ib, io + i * 4 + 3, none⟩ = some (.slice y3 y.items.length y4)) (by kernel_rfl) (⟨hQ3 hQx, hHx.cell q0, hHx.cell q1, hHx.cell q2, hHx.cell q3⟩) (fun hHeld => ?_)
                refine Ways.take (i := 0) (v := ?_) rfl (by kernel_rfl) (fun _ _ _ h => h) (Or.inl ⟨by rfl, ?_⟩) hHeld ?_
                rotate_left
                · (intro w hSw; (try dsimp only at hSw); go_simp; try with_reducible rfl)
                try simp only [Act.put, List.setIfInBounds_toArray, List.set_cons_zero, List.set_cons_succ]
                refine Ways.take (i := 1) (v := ?_) rfl (by kernel_rfl) (fun _ _ _ h => h) (Or.inl ⟨by rfl, ?_⟩) hHeld ?_
                rotate_left
                · (intro w hSw; (try dsimp only at hSw); go_simp; try with_reducible rfl)
                try simp only [Act.put, List.setIfInBounds_toArray, List.set_cons_zero, List.set_cons_succ]
                refine Ways.take (i := 2) (v := ?_) rfl (by kernel_rfl) (fun _ _ _ h => h) (Or.inl ⟨?_, ?_⟩) hHeld ?_
                rotate_left
                · kernel_rfl
                · (intro w hSw; (try dsimp only at hSw); go_simp; try with_reducible rfl)
                try simp only [Act.put, List.setIfInBounds_toArray, List.set_cons_zero, List.set_cons_succ]
                refine Ways.take (i := 3) (v := ?_) rfl (by kernel_rfl) (fun _ _ _ h => h) (Or.inl ⟨?_, ?_⟩) hHeld ?_
                rotate_left
                · kernel_rfl
                · (intro w hSw; (try dsimp only at hSw); go_simp; try with_reducible rfl)
                try simp only [Act.put, List.setIfInBounds_toArray, List.set_cons_zero, List.set_cons_succ]
                refine Ways.take (i := 4) (v := ?_) rfl (by kernel_rfl) (fun _ _ _ h => h) (Or.inl ⟨?_, ?_⟩) hHeld ?_
                rotate_left
                · kernel_rfl
                · (intro w hSw; (try dsimp only at hSw); go_simp; try with_reducible rfl)
                try simp only [Act.put, List.setIfInBounds_toArray, List.set_cons_zero, List.set_cons_succ]
                refine Ways.take (i := 5) (v := ?_) rfl (by kernel_rfl) (fun _ _ _ h => h) (Or.inl ⟨?_, ?_⟩) hHeld ?_
                rotate_left
                · kernel_rfl
                · (intro w hSw; (try dsimp only at hSw); go_simp; try with_reducible rfl)
                try simp only [Act.put, List.setIfInBounds_toArray, List.set_cons_zero, List.set_cons_succ]
                refine Ways.take (i := 6) (v := ?_) rfl (by kernel_rfl) (fun _ _ _ h => h) (Or.inl ⟨?_, ?_⟩) hHeld ?_
                rotate_left
                · kernel_rfl
                · (intro w hSw; (try dsimp only at hSw); go_simp; try with_reducible rfl)
                try simp only [Act.put, List.setIfInBounds_toArray, List.set_cons_zero, List.set_cons_succ]
                refine Ways.one (i := 7) rfl (by kernel_rfl) (fun K hK => ?_)
                go_simp
                refine (ref_Int 2 (by omega) (by omega) _ hHx).mono ?_
                rintro e w8 ⟨v8, rfl, hv8⟩
                have hPx := hPx.below hv8.below
                have hQx := hQx.below hv8.below
                have hBx := hBx.below hv8.below
                have hHx := hHx.below hv8.below (Nat.le_refl _)
                have hbx := hbx.trans (hv8.below.mono hbx.size)
                obtain ⟨xa, xb, xc, xd, H1, rfl, hG1, hi1⟩ := hv8
                refine hK.out _ _ (fun _ => ?_) (fun hHeld => ?_)
                · exact ⟨hQ3 hQx, hHx.cell q0, hHx.cell q1, hHx.cell q2, hHx.cell q3⟩
                clear hK K
                have hHeld := hHeld (by decide)
                try simp only [Act.put, List.setIfInBounds_toArray, List.set_cons_zero, List.set_cons_succ]
                refine Ways.one (i := 8) rfl (by kernel_rfl) (fun K hK => ?_)
                go_simp
                refine (SM.out _ H1 hG1.le xa xb xc xd hi1 hG1.holds).mono ?_
                rintro e w9 ⟨rfl, hb9⟩
                have hPx := hPx.below hb9
                have hQx := hQx.below hb9
                have hBx := hBx.below hb9
                have hHx := hHx.below hb9 (Nat.le_refl _)
                have hbx := hbx.trans (hb9.mono hbx.size)
                refine hK.out _ _ (fun _ => ?_) (fun hHeld => ?_)
                · exact ⟨hQ3 hQx, hHx.cell q0, hHx.cell q1, hHx.cell q2, hHx.cell q3⟩
                clear hK K
                have hHeld := hHeld (by decide)
                try simp only [Act.put, List.setIfInBounds_toArray, List.set_cons_zero, List.set_cons_succ]
                refine Ways.one (i := 9) rfl (by kernel_rfl) (fun K hK => ?_)
                go_simp
                refine hK.out _ _ (fun h => absurd rfl h) (fun _ => ?_)
                clear hK K
                try simp only [Act.put, List.setIfInBounds_toArray, List.set_cons_zero, List.set_cons_succ]
                refine Ways.done (by kernel_rfl) ?_
                clear hHeld hHx
                cases hsm : sameB y (intP 2) with
                | true =>
                  rw [hsm] at hst
                  have EN : Hid (validHR p u = false) := by rw [Hid, E2.out, hst.out]; rfl
                  clear hsm
                  go_wp2_with fail
                  go_ret
                  exact ⟨by rw [EN.out]; rfl, hbx⟩
                | false =>
                  rw [hsm] at hst
                  have EN : Hid (keysR p.items (u.items.drop (i + 2)) = keysR p.items u.items) := by rw [Hid, hst.out]; rfl
                  have hi6 : (i + 2) % 2 = 0 := by have := HIE.out; omega
                  clear hsm
                  go_wp2_with fail
                  go_roundw
                  case rel => first | exact ⟨i + 2, by omega, hi6, by go_num, EN.out, hbx, hBx, hPx, hQx⟩ | exact ⟨i + 2, by omega, hi6, by omega, EN.out⟩
                  case measure => simp [intOf]; omega
          · have EN : Hid (validHR p u = (!(findR p u 5).isSome || !(findR p u 6).isSome)) := by
              rw [Hid, E2.out, ← HS.out, keysR_end _ _ _ (by omega)]; rfl
            have g0 := hBs.cell 0 rfl
            have g1' := hBs.cell 1 rfl
            have g2' := hBs.cell 2 rfl
            have g3' := hBs.cell 3 rfl
            have g4 := hBs.cell 4 rfl
            have g5 := hBs.cell 5 rfl
            have g6 := hBs.cell 6 rfl
            have g7 := hBs.cell 7 rfl
            have F := Lib.hid (fun (n : Int) (h1 : -9223372036854775808 ≤ n) (h2 : n ≤ 9223372036854775807) (w1 : World) (h : Holds w1 H) => ref_find HMP.out HMU.out HP.out HU.out n h1 h2 w1 h)
            have hnl : ¬ (i : Int) < u.items.length := by omega
            clear hlt2 hPs hQs
            go_wp2_with fail
            refine (F.out 5 (by omega) (by omega) _ (hH.below hbs (Nat.le_refl _))).mono ?_
            rintro e w5 ⟨v5, rfl, hv5⟩
            have hb5 := hbs.trans (hv5.below.mono hbs.size)
            have hB5 := hBs.below hv5.below
            obtain ⟨xa, xb, xc, xd, H5, rfl, hG5, _⟩ := hv5
            have hb6 := hb5.alloc hb5.size (itemO ((findR p u 5).getD zeroItm) xa xb xc xd)
            have hB6 := hB5.alloc (itemO ((findR p u 5).getD zeroItm) xa xb xc xd)
            have g0 := hB6.cell 0 rfl
            have g1' := hB6.cell 1 rfl
            have g2' := hB6.cell 2 rfl
            have g3' := hB6.cell 3 rfl
            have g4 := hB6.cell 4 rfl
            have g5 := hB6.cell 5 rfl
            have g6 := hB6.cell 6 rfl
            have g7 := hB6.cell 7 rfl
            generalize hf5 : findR p u 5 = o5 at *
            generalize o5.getD zeroItm = z5 at *
            clear hb5 hB5 hG5 hbs hBs
            go_wp2_with fail
            refine (F.out 6 (by omega) (by omega) _ (hH.below hb6 (Nat.le_refl _))).mono ?_
            rintro e w7 ⟨v7, rfl, hv7⟩
            have hb7 := hb6.trans (hv7.below.mono hb6.size)
            obtain ⟨ya, yb, yc, yd, H7, rfl, hG7, _⟩ := hv7
            have hb8 := hb7.alloc hb7.size (itemO ((findR p u 6).getD zeroItm) ya yb yc yd)
            generalize hf6 : findR p u 6 = o6 at *
            generalize o6.getD zeroItm = z6 at *
            have EN' : Hid (validHR p u = (!o5.isSome || !o6.isSome)) := EN.out
            generalize o5.isSome = t5 at *
            generalize o6.isSome = t6 at *
            clear hf5 hf6 EN
            cases t5 <;> cases t6
            all_goals
              go_wp2_with fail
              go_ret
              exact ⟨by rw [EN'.out]; rfl, hb8⟩
end Go.Proofs.YtdbhgngikglmcaaDoor
