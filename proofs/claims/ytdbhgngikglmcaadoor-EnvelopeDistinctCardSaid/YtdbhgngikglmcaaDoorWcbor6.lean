/- Walks: cbor.ascending. -/
import Derived.Test.YtdbhgngikglmcaaDoorWcbor5
set_option linter.unusedVariables false
set_option linter.unusedSimpArgs false
namespace Go.Proofs.YtdbhgngikglmcaaDoor
open Go.RowKit

set_option maxRecDepth 100000 in
set_option maxHeartbeats 3200000 in
theorem cbor_ascending {H : Snap} (l : List Itm) (b off : Nat) (A : Option Addr) (ic : Nat) (w : World) (hA : 0 < l.length → A = some ⟨b, off, none⟩ ∧ IsElems H b off l) (hH : Holds w H) (hk : KindsL l)
    (hlen : ∀ k (h : k < l.length), (encB l[k]).length ≤ 1099511627776) (n : Nat) (hn : n = l.length) (hnn : n ≤ 1099511627776) :
    Calls Tryd.prog 74 #[.slice A n ic] w fun e w' => e = .returned (.bool (ascP l)) ∧ Below w.heap.size w w' := by
  obtain ⟨ans, hans⟩ : ∃ b, ascP l = b := ⟨_, rfl⟩
  rw [hans]
  have HAns := Lib.hid hans
  have HNn := Lib.hid hn
  have HLen := Lib.hid hlen
  have HAA := Lib.hid hA
  clear hans hn hlen hA
  go_enter Tryd.func74, Tryd.ntmps74
  go_wp2
  go_loopw [3] (fun i wr => ∃ j : Nat, 2 ≤ j ∧ i = .int .i64 j ∧ j ≤ n + 2 ∧ ascP (l.drop (j - 2)) = ans ∧ Below w.heap.size w wr) (fun i _ => (n + 2 - intOf i).toNat)
  case atStart => exact ⟨2, Nat.le_refl _, rfl, by omega, by simpa using HAns.out, Below.refl _ _⟩
  case round =>
    obtain ⟨j, h2, rfl, hj, hasc, hb⟩ := hrel
    by_cases hlt : j < n
    · have hn := HNn.out
      obtain ⟨hA, hel⟩ := HAA.out (by omega)
      have hstep := ascP_drop l j h2 (by omega)
      obtain ⟨y1, y2, y3, y4, p0, p1, p2, p3, hy⟩ := hel.get (j - 2) (by omega)
      obtain ⟨z1, z2, z3, z4, q0, q1, q2, q3, hz⟩ := hel.get j (by omega)
      have hky := hk.get (j - 2) (by omega)
      have hkz := hk.get j (by omega)
      have hly := HLen.out (j - 2) (by omega)
      have hlz := HLen.out j (by omega)
      generalize l[j - 2]'(by omega) = y at *
      generalize l[j]'(by omega) = z at *
      have hi0 : (0 : Int) ≤ (j : Int) - 2 := by omega
      have hi1 : (j : Int) - 2 < (n : Int) := by omega
      have hi3 : (2 : Int) ≤ (j : Int) := by omega
      have hi2 : (j : Int) < (n : Int) := by omega
      subst hA
      have HST := Lib.hid hstep
      have HASC := Lib.hid hasc
      have HSZ : Hid (w.heap.size ≤ wr.heap.size) := hb.size
      have hHr : Holds wr H := hH.below hb (Nat.le_refl _)
      have hH0 : Holds wr.drew H := hHr.drew
      have hw1 : IntKind.i64.wrap ((j : Int) - 2) = (j : Int) - 2 := IntWalk.i64_in _ (by omega)
      have hw2 : ((j : Int) - 2).toNat = j - 2 := by omega
      clear hstep hasc hn hel
      go_wp2_with fail
      refine wp_region_ways 12 (fun w' => w'.cell? ⟨b, off + (j - 2) * 4, none⟩ = some (.int .i64 y.kind) ∧ w'.cell? ⟨b, off + (j - 2) * 4 + 1, none⟩ = some (.int .u64 y.n) ∧ w'.cell? ⟨b, off + (j - 2) * 4 + 2, none⟩ = some (.slice y1 y.bytes.length y2) ∧ w'.cell? ⟨b, off + (j - 2) * 4 + 3, none⟩ = some (.slice y3 y.items.length y4) ∧ w'.cell? ⟨b, off + j * 4, none⟩ = some (.int .i64 z.kind) ∧ w'.cell? ⟨b, off + j * 4 + 1, none⟩ = some (.int .u64 z.n) ∧ w'.cell? ⟨b, off + j * 4 + 2, none⟩ = some (.slice z1 z.bytes.length z2) ∧ w'.cell? ⟨b, off + j * 4 + 3, none⟩ = some (.slice z3 z.items.length z4)) (by kernel_rfl) (⟨hHr.cell p0, hHr.cell p1, hHr.cell p2, hHr.cell p3, hHr.cell q0, hHr.cell q1, hHr.cell q2, hHr.cell q3⟩) (fun hHeld => ?_)
      refine Ways.take (i := 0) (v := ?_) rfl (by kernel_rfl) (fun _ _ _ h => h) (Or.inl ⟨by rfl, ?_⟩) hHeld ?_
      rotate_left
      · (intro w hSw; (try dsimp only at hSw); go_simp; try with_reducible rfl)
      try simp only [Act.put, List.setIfInBounds_toArray, List.set_cons_zero, List.set_cons_succ]
      refine Ways.take (i := 1) (v := ?_) rfl (by kernel_rfl) (fun _ _ _ h => h) (Or.inl ⟨by rfl, ?_⟩) hHeld ?_
      rotate_left
      · (intro w hSw; (try dsimp only at hSw); go_simp; try with_reducible rfl)
      try simp only [Act.put, List.setIfInBounds_toArray, List.set_cons_zero, List.set_cons_succ]
      refine Ways.take (i := 2) (v := ?_) rfl (by kernel_rfl) (fun _ _ _ h => h) (Or.inl ⟨by rfl, ?_⟩) hHeld ?_
      rotate_left
      · (intro w hSw; (try dsimp only at hSw); go_simp; try with_reducible rfl)
      try simp only [Act.put, List.setIfInBounds_toArray, List.set_cons_zero, List.set_cons_succ]
      refine Ways.take (i := 3) (v := ?_) rfl (by kernel_rfl) (fun _ _ _ h => h) (Or.inl ⟨by rfl, ?_⟩) hHeld ?_
      rotate_left
      · (intro w hSw; (try dsimp only at hSw); go_simp; try with_reducible rfl)
      try simp only [Act.put, List.setIfInBounds_toArray, List.set_cons_zero, List.set_cons_succ]
      refine Ways.take (i := 4) (v := ?_) rfl (by kernel_rfl) (fun _ _ _ h => h) (Or.inl ⟨by rfl, ?_⟩) hHeld ?_
      rotate_left
      · (intro w hSw; (try dsimp only at hSw); go_simp; try with_reducible rfl)
      try simp only [Act.put, List.setIfInBounds_toArray, List.set_cons_zero, List.set_cons_succ]
      refine Ways.take (i := 6) (v := ?_) rfl (by kernel_rfl) (fun _ _ _ h => h) (Or.inl ⟨by rfl, ?_⟩) hHeld ?_
      rotate_left
      · (intro w hSw; (try dsimp only at hSw); go_simp; try with_reducible rfl)
      try simp only [Act.put, List.setIfInBounds_toArray, List.set_cons_zero, List.set_cons_succ]
      refine Ways.take (i := 7) (v := ?_) rfl (by kernel_rfl) (fun _ _ _ h => h) (Or.inl ⟨by rfl, ?_⟩) hHeld ?_
      rotate_left
      · (intro w hSw; (try dsimp only at hSw); go_simp; try with_reducible rfl)
      try simp only [Act.put, List.setIfInBounds_toArray, List.set_cons_zero, List.set_cons_succ]
      refine Ways.take (i := 8) (v := ?_) rfl (by kernel_rfl) (fun _ _ _ h => h) (Or.inl ⟨by rfl, ?_⟩) hHeld ?_
      rotate_left
      · (intro w hSw; (try dsimp only at hSw); go_simp; try with_reducible rfl)
      try simp only [Act.put, List.setIfInBounds_toArray, List.set_cons_zero, List.set_cons_succ]
      refine Ways.take (i := 9) (v := ?_) rfl (by kernel_rfl) (fun _ _ _ h => h) (Or.inl ⟨by rfl, ?_⟩) hHeld ?_
      rotate_left
      · (intro w hSw; (try dsimp only at hSw); go_simp; try with_reducible rfl)
      try simp only [Act.put, List.setIfInBounds_toArray, List.set_cons_zero, List.set_cons_succ]
      refine Ways.one (i := 5) rfl (by kernel_rfl) (fun K hK => ?_)
      go_simp
      refine (cbor_add y H _ _ _ _ _ _ _ _ _ w.heap.size (.slice none 0 0) [] hky hy.arg hH0 (OwnB.nil _ _) HSZ.out (by simp [Value.ownBlock]) (by simpa using hly)).mono ?_
      rintro e w1 ⟨r1, rfl, ho1, hg1, ha1⟩
      obtain ⟨A1, c1, rfl, _, _, hs1⟩ := ho1.form
      have hb1 := grown_none hg1
      have hH1 : Holds w1 H := hH0.below hb1 (Nat.le_refl _)
      have hz1 := hb1.size
      simp only [List.nil_append] at ho1 hs1
      refine hK.out _ _ (fun _ => ?_) (fun hHeld => ?_)
      · exact ⟨hH1.cell p0, hH1.cell p1, hH1.cell p2, hH1.cell p3, hH1.cell q0, hH1.cell q1, hH1.cell q2, hH1.cell q3⟩
      clear hK K
      have hHeld := hHeld (by decide)
      try simp only [Act.put, List.setIfInBounds_toArray, List.set_cons_zero, List.set_cons_succ]
      refine Ways.one (i := 10) rfl (by kernel_rfl) (fun K hK => ?_)
      go_simp
      refine (cbor_add z H _ _ _ _ _ _ _ _ _ w.heap.size (.slice none 0 0) [] hkz hz.arg hH1 (OwnB.nil _ _) (Nat.le_trans HSZ.out hz1) (by simp [Value.ownBlock]) (by simpa using hlz)).mono ?_
      rintro e w2 ⟨r2, rfl, ho2, hg2, ha2⟩
      obtain ⟨A2, c2, rfl, _, _, hs2⟩ := ho2.form
      have hb2 := grown_none hg2
      have hH2 : Holds w2 H := hH1.below hb2 (Nat.le_refl _)
      simp only [List.nil_append] at ho2 hs2
      refine hK.out _ _ (fun _ => ?_) (fun hHeld => ?_)
      · exact ⟨hH2.cell p0, hH2.cell p1, hH2.cell p2, hH2.cell p3, hH2.cell q0, hH2.cell q1, hH2.cell q2, hH2.cell q3⟩
      clear hK K
      have hHeld := hHeld (by decide)
      try simp only [Act.put, List.setIfInBounds_toArray, List.set_cons_zero, List.set_cons_succ]
      refine Ways.one (i := 11) rfl (by kernel_rfl) (fun K hK => ?_)
      go_simp
      refine (bytes_Compare _ _ _ (encB y) (encB z) _ _ _ _ (by simp) (by simp) (hs1.below hb2) hs2).mono ?_
      rintro e w3 ⟨rfl, rfl⟩
      refine hK.out _ _ (fun _ => ?_) (fun hHeld => ?_)
      · exact ⟨hH2.cell p0, hH2.cell p1, hH2.cell p2, hH2.cell p3, hH2.cell q0, hH2.cell q1, hH2.cell q2, hH2.cell q3⟩
      clear hK K
      have hHeld := hHeld (by decide)
      try simp only [Act.put, List.setIfInBounds_toArray, List.set_cons_zero, List.set_cons_succ]
      refine Ways.one (i := 12) rfl (by kernel_rfl) (fun K hK => ?_)
      go_simp
      refine hK.out _ _ (fun h => absurd rfl h) (fun _ => ?_)
      clear hK K
      try simp only [Act.put, List.setIfInBounds_toArray, List.set_cons_zero, List.set_cons_succ]
      refine Ways.done (by kernel_rfl) ?_
      have hbw := hb.drew.trans ((hb1.trans (hb2.mono hz1)).mono HSZ.out)
      have hcmp := Lib.hid (And.intro HST.out HASC.out)
      clear HST HASC p0 p1 p2 p3 q0 q1 q2 q3 hHeld ho1 ho2 hg1 hg2 ha1 ha2 hs1 hs2
      generalize hcv : Lib.compareBytes (encB y) (encB z) = cv at *
      by_cases hc : (0 : Int) ≤ cv
      · have ha : ans = false := by
          obtain ⟨h1, h2⟩ := hcmp.out
          rw [← h2, h1]
          have : ¬ cv < 0 := by omega
          simp [this]
        have HAF := Lib.hid ha
        clear ha
        go_wp2
        go_ret
        exact ⟨(by rw [HAF.out]; rfl), hbw⟩
      · have ha : ascP (l.drop j) = ans := by
          obtain ⟨h1, h2⟩ := hcmp.out
          rw [← h2, h1]
          have : cv < 0 := by omega
          simp [this]
        have HAF := Lib.hid ha
        clear ha
        go_wp2
        go_roundw
        case rel => exact ⟨j + 2, by omega, by go_num, by omega, HAF.out, hbw⟩
        case measure => simp [intOf]; omega
    · have hn := HNn.out
      have hend := Lib.hid (ascP_end l j h2 (by omega))
      have HASC := Lib.hid hasc
      clear hasc hn
      go_wp2
      go_ret
      exact ⟨(by rw [← HASC.out, hend.out]; rfl), hb⟩
end Go.Proofs.YtdbhgngikglmcaaDoor
