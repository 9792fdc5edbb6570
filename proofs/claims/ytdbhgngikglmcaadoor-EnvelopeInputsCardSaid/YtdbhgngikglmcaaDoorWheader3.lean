/- Walks: header.Valid. -/
import Derived.Test.YtdbhgngikglmcaaDoorWheader2
set_option linter.unusedVariables false
set_option linter.unusedSimpArgs false
namespace Go.Proofs.YtdbhgngikglmcaaDoor
open Go.RowKit

set_option maxRecDepth 100000 in
set_option maxHeartbeats 6400000 in
theorem header_Valid {H : Snap} (hTab : Tabs H) {p u : Itm} {a b : Ad} (hp : IsItem H a.ba a.bc a.ia a.ic p) (hu : IsItem H b.ba b.bc b.ia b.ic u) (w : World) (hH : Holds w H) :
    Calls Tryd.prog 34 #[.agg (hdrC p a u b)] w fun e w' => e = .returned (.bool (validH p u)) ∧ Below w.heap.size w w' := by
  have hB := (Blk.new w 28 (hdrC p a u b)).alloc (.cells (hdrC p a u b) 26)
  have hM := Blk.new (w.alloc (.cells (hdrC p a u b) 28)) 26 (hdrC p a u b)
  simp only [size_alloc] at hM
  have hbw : Below w.heap.size w ((w.alloc (.cells (hdrC p a u b) 28)).alloc (.cells (hdrC p a u b) 26)) := (below_box w _).alloc (by simp) _
  have hlt0 : w.heap.size + 1 < ((w.alloc (.cells (hdrC p a u b) 28)).alloc (.cells (hdrC p a u b) 26)).heap.size := by simp
  go_enter Tryd.func34, Tryd.ntmps34
  go_upto_region 2 with fail
  go_loopw [29] (fun vi wr => ∃ j : Nat, j ≤ 2 ∧ vi = .int .i64 j ∧ (1 ≤ j → okMap p = true) ∧ (2 ≤ j → okMap u = true) ∧ Below w.heap.size w wr ∧ Blk wr w.heap.size 28 (hdrC p a u b) ∧ Blk wr (w.heap.size + 1) 26 (hdrC p a u b)) (fun vi _ => 2 - (intOf vi).toNat)
  case atStart => exact ⟨0, by omega, rfl, by omega, by omega, hbw, hB, hM⟩
  case round =>
    obtain ⟨j, hj, rfl, hop, hou, hbr, hBr, hMr⟩ := hrel
    have HOP := Lib.hid hop
    have HOU := Lib.hid hou
    clear hop hou
    by_cases hlt : j < 2
    · have hm : ∃ (m : Itm) (am : Ad), (j = 0 → m = p) ∧ (j = 1 → m = u) ∧ IsItem H am.ba am.bc am.ia am.ic m ∧ wr.cell? ⟨w.heap.size + 1, j * 4, none⟩ = some (.int .i64 m.kind) ∧ wr.cell? ⟨w.heap.size + 1, j * 4 + 1, none⟩ = some (.int .u64 m.n) ∧
          wr.cell? ⟨w.heap.size + 1, j * 4 + 2, none⟩ = some (.slice am.ba m.bytes.length am.bc) ∧ wr.cell? ⟨w.heap.size + 1, j * 4 + 3, none⟩ = some (.slice am.ia m.items.length am.ic) := by
        rcases (by omega : j = 0 ∨ j = 1) with rfl | rfl
        · exact ⟨p, a, fun _ => rfl, by omega, hp, hMr.cell _ rfl, hMr.cell _ rfl, hMr.cell _ rfl, hMr.cell _ rfl⟩
        · exact ⟨u, b, by omega, fun _ => rfl, hu, hMr.cell _ rfl, hMr.cell _ rfl, hMr.cell _ rfl, hMr.cell _ rfl⟩
      obtain ⟨m, am, hm0, hm1, hmi, d0, d1, d2, d3⟩ := hm
      have BAD : Hid (okMap m = false → validH p u = false) := by
        intro h
        rcases (by omega : j = 0 ∨ j = 1) with rfl | rfl
        · rw [hm0 rfl] at h; simp [validH, h]
        · rw [hm1 rfl] at h; simp [validH, h]
      have GOOD : Hid (okMap m = true → (1 ≤ j + 1 → okMap p = true) ∧ (2 ≤ j + 1 → okMap u = true)) := by
        intro h
        rcases (by omega : j = 0 ∨ j = 1) with rfl | rfl
        · rw [hm0 rfl] at h; exact ⟨fun _ => h, by omega⟩
        · rw [hm1 rfl] at h; exact ⟨fun _ => HOP.out (by omega), fun _ => h⟩
      have hT := (Blk.new wr 26 #[.int .i64 m.kind, .int .u64 m.n, .slice am.ba m.bytes.length am.bc, .slice am.ia m.items.length am.ic])
      have hHr : Holds (wr.alloc (itemO m am.ba am.bc am.ia am.ic)) H := (hH.below hbr (Nat.le_refl _)).alloc _
      have V := Lib.hid (cbor_Valid hTab hmi.arg _ hHr)
      have hbr1 := hbr.alloc hbr.size (itemO m am.ba am.bc am.ia am.ic)
      have hBr1 := hBr.alloc (itemO m am.ba am.bc am.ia am.ic)
      have hMr1 := hMr.alloc (itemO m am.ba am.bc am.ia am.ic)
      clear hm0 hm1 hBr hMr
      by_cases h5 : m.kind = 5
      · have k5 : (m.kind != 5) = false := by simp [h5]
        have H5 := Lib.hid h5
        clear h5
        cases hv : validP m with
        | false =>
          have E : Hid (validH p u = false) := BAD.out (by simp [okMap, hv])
          rw [hv] at V
          clear hv
          go_wp2_with fail
          refine V.out.mono ?_
          rintro e w1 ⟨rfl, hb1⟩
          have hb2 := hbr1.trans (hb1.mono hbr1.size)
          go_wp2_with fail
          go_ret
          exact ⟨by rw [E.out]; rfl, hb2⟩
        | true =>
          have heven := validP_even hv H5.out
          have hlen := (validP_items hv).2.1
          have HV := Lib.hid hv
          rw [hv] at V
          clear hv
          go_wp2_with fail
          refine V.out.mono ?_
          rintro e w1 ⟨rfl, hb1⟩
          have hB1 := hBr1.below hb1
          have hM1 := hMr1.below hb1
          have hT1 := hT.below hb1
          have hbw1 := hbr1.trans (hb1.mono hbr1.size)
          have t0 := hT1.cell 0 rfl
          have t1 := hT1.cell 1 rfl
          have t2 := hT1.cell 2 rfl
          have t3 := hT1.cell 3 rfl
          have P := Lib.hid (header_pairs hmi.arg heven (by omega) w1 (hHr.below hb1 (Nat.le_refl _)))
          have HEV := Lib.hid heven
          clear d0 d1 d2 d3 V hBr1 hMr1 hT hHr hbr1 heven
          go_wp2_with fail
          refine P.out.mono ?_
          rintro e w2 ⟨PA, pc, cs, rfl, hsrc, hcs, hb2⟩
          have hB2 := hB1.below hb2
          have hM2 := hM1.below hb2
          have hbw2 := hbw1.trans (hb2.mono hbw1.size)
          clear t0 t1 t2 t3 P hB1 hM1 hT1 hbw1
          go_upto_region 7 with fail
          go_loopw [44] (fun vi wr => ∃ k : Nat, k ≤ m.items.length / 2 ∧ vi = .int .i64 k ∧ permL (m.items.drop (k * 2)) = permL m.items ∧ Below w2.heap.size w2 wr) (fun vi _ => m.items.length / 2 - (intOf vi).toNat)
          case atStart => exact ⟨0, Nat.zero_le _, rfl, by simp, Below.refl _ _⟩
          case round =>
            obtain ⟨k, hk, rfl, hpl, hbx⟩ := hrel
            by_cases hlt2 : k < m.items.length / 2
            · have hev := HEV.out
              have hk0 : k * 2 < m.items.length := by omega
              have hk1 : k * 2 + 1 < m.items.length := by omega
              have hst := permL_step m.items (k * 2) hk1
              rw [hpl] at hst
              obtain ⟨y1, y2, y3, y4, c0, c1, c2, c3, hy⟩ := hcs.get (k * 2) hk0
              obtain ⟨z1, z2, z3, z4, c4, c5, c6, c7, hz⟩ := hcs.get (k * 2 + 1) hk1
              obtain ⟨pb, po, rfl, hpc⟩ := (hsrc.below hbx) (by intro h; subst h; simp at c0)
              have e0 := hpc _ _ c0
              have e1 := hpc _ _ c1
              have e2 := hpc _ _ c2
              have e3 := hpc _ _ c3
              have e4 := hpc _ _ c4
              have e5 := hpc _ _ c5
              have e6 := hpc _ _ c6
              have e7 := hpc _ _ c7
              rw [show po + k * 2 * 4 = po + k * 8 by omega] at e0
              rw [show po + (k * 2 * 4 + 1) = po + k * 8 + 1 by omega] at e1
              rw [show po + (k * 2 * 4 + 2) = po + k * 8 + 2 by omega] at e2
              rw [show po + (k * 2 * 4 + 3) = po + k * 8 + 3 by omega] at e3
              rw [show po + (k * 2 + 1) * 4 = po + k * 8 + 4 by omega] at e4
              rw [show po + ((k * 2 + 1) * 4 + 1) = po + k * 8 + 5 by omega] at e5
              rw [show po + ((k * 2 + 1) * 4 + 2) = po + k * 8 + 6 by omega] at e6
              rw [show po + ((k * 2 + 1) * 4 + 3) = po + k * 8 + 7 by omega] at e7
              have ek : Hid (permL m.items = (permP m.items[k * 2] m.items[k * 2 + 1] && permL (m.items.drop ((k + 1) * 2)))) := by rw [Hid, hst, show (k + 1) * 2 = k * 2 + 2 by omega]
              generalize m.items[k * 2]'hk0 = y at *
              generalize m.items[k * 2 + 1]'hk1 = z at *
              have PM := Lib.hid (header_permitted hy hz (wr.alloc (.cells #[.int .i64 y.kind, .int .u64 y.n, .slice y1 y.bytes.length y2, .slice y3 y.items.length y4, .int .i64 z.kind, .int .u64 z.n, .slice z1 z.bytes.length z2, .slice z3 z.items.length z4] 90)))
              have hlt3 : (k : Int) < (m.items.length / 2 : Nat) := by omega
              clear hpc c0 c1 c2 c3 c4 c5 c6 c7 hst hpl hev hk0 hk1
              go_wp2_with fail
              refine PM.out.mono ?_
              rintro e w3 ⟨rfl, hb3⟩
              have hb3 := (hbx.alloc hbx.size _).trans (hb3.mono (by have := hbx.size; simp; omega))
              clear e0 e1 e2 e3 e4 e5 e6 e7 PM
              cases hpm : permP y z with
              | false =>
                have E : Hid (validH p u = false) := BAD.out (by rw [okMap, ek.out, hpm]; simp)
                have hbz := hbw2.trans (hb3.mono hbw2.size)
                clear hpm
                go_wp2_with fail
                go_ret
                exact ⟨by rw [E.out]; rfl, hbz⟩
              | true =>
                have E : Hid (permL (m.items.drop ((k + 1) * 2)) = permL m.items) := by rw [Hid, ek.out, hpm, Bool.true_and]
                clear hpm
                go_wp2_with fail
                go_roundw
                case rel => exact ⟨k + 1, by omega, by go_num, E.out, hb3⟩
                case measure => simp [intOf]; omega
            · have E : Hid (okMap m = true) := by
                have hev := HEV.out
                rw [List.drop_eq_nil_of_le (by omega)] at hpl
                rw [Hid, okMap, HV.out, ← hpl, H5.out]
                rfl
              have G := Lib.hid (GOOD.out E.out)
              have hBx := hB2.below hbx
              have hMx := hM2.below hbx
              have hbz := hbw2.trans (hbx.mono hbw2.size)
              clear hpl
              go_wp2_with fail
              go_roundw
              case rel => exact ⟨j + 1, by omega, by go_num, G.out.1, G.out.2, hbz, hBx, hMx⟩
              case measure => simp [intOf]; omega
      · have k5 : (m.kind != 5) = true := by simp [h5]
        have E : Hid (validH p u = false) := BAD.out (by simp [okMap, h5])
        clear h5 V
        go_wp2_with fail
        go_ret
        exact ⟨by rw [E.out]; rfl, hbr1⟩
    · have hj2 : j = 2 := by omega
      subst hj2
      have OP := Lib.hid (HOP.out (by omega))
      have OU := Lib.hid (HOU.out (by omega))
      have hvp : validP p = true ∧ p.kind = 5 := by have := OP.out; simp [okMap] at this; exact ⟨this.1.2, this.1.1⟩
      have heven := validP_even hvp.1 hvp.2
      have hlen := (validP_items hvp.1).2.1
      have hHr : Holds wr H := hH.below hbr (Nat.le_refl _)
      have P := Lib.hid (header_pairs hp.arg heven (by omega) wr hHr)
      have HEV := Lib.hid heven
      have t0 := hBr.cell 0 rfl
      have t1 := hBr.cell 1 rfl
      have t2 := hBr.cell 2 rfl
      have t3 := hBr.cell 3 rfl
      have E0 : Hid (validH p u = (keysFree u p.items && !((findP u (intP 2)).isSome || ((findH p u 5).isSome && (findH p u 6).isSome)) && critP p)) := by
        rw [Hid, validH, OP.out, OU.out, Bool.true_and, Bool.true_and]
      clear hvp heven hMr hM hlt0 hbw hB
      go_wp2_with fail
      refine P.out.mono ?_
      rintro e w2 ⟨PA, pc, cs, rfl, hsrc, hcs, hb2⟩
      have hB2 := hBr.below hb2
      have hbw2 := hbr.trans (hb2.mono hbr.size)
      clear t0 t1 t2 t3 P hBr hHr hbr
      go_upto_region 14 with fail
      go_loopw [57] (fun vi wr => ∃ k : Nat, k ≤ p.items.length / 2 ∧ vi = .int .i64 k ∧ keysFree u (p.items.drop (k * 2)) = keysFree u p.items ∧ Below w2.heap.size w2 wr) (fun vi _ => p.items.length / 2 - (intOf vi).toNat)
      case atStart => exact ⟨0, Nat.zero_le _, rfl, by simp, Below.refl _ _⟩
      case round =>
        obtain ⟨k, hk, rfl, hpl, hbx⟩ := hrel
        have hBx := hB2.below hbx
        have hltx := hBx.lt
        have u4 := hBx.cell 4 rfl
        have u5 := hBx.cell 5 rfl
        have u6 := hBx.cell 6 rfl
        have u7 := hBx.cell 7 rfl
        have hHx : Holds wr H := hH.below (hbw2.trans (hbx.mono hbw2.size)) (Nat.le_refl _)
        by_cases hlt2 : k < p.items.length / 2
        · have hev := HEV.out
          have hk0 : k * 2 < p.items.length := by omega
          have hk1 : k * 2 + 1 < p.items.length := by omega
          have hst := keysFree_step u p.items (k * 2) hk1
          rw [hpl] at hst
          obtain ⟨y1, y2, y3, y4, c0, c1, c2, c3, hy⟩ := hcs.get (k * 2) hk0
          obtain ⟨z1, z2, z3, z4, c4, c5, c6, c7, hz⟩ := hcs.get (k * 2 + 1) hk1
          obtain ⟨pb, po, rfl, hpc⟩ := (hsrc.below hbx) (by intro h; subst h; simp at c0)
          have e0 := hpc _ _ c0
          have e1 := hpc _ _ c1
          have e2 := hpc _ _ c2
          have e3 := hpc _ _ c3
          have e4 := hpc _ _ c4
          have e5 := hpc _ _ c5
          have e6 := hpc _ _ c6
          have e7 := hpc _ _ c7
          rw [show po + k * 2 * 4 = po + k * 8 by omega] at e0
          rw [show po + (k * 2 * 4 + 1) = po + k * 8 + 1 by omega] at e1
          rw [show po + (k * 2 * 4 + 2) = po + k * 8 + 2 by omega] at e2
          rw [show po + (k * 2 * 4 + 3) = po + k * 8 + 3 by omega] at e3
          rw [show po + (k * 2 + 1) * 4 = po + k * 8 + 4 by omega] at e4
          rw [show po + ((k * 2 + 1) * 4 + 1) = po + k * 8 + 5 by omega] at e5
          rw [show po + ((k * 2 + 1) * 4 + 2) = po + k * 8 + 6 by omega] at e6
          rw [show po + ((k * 2 + 1) * 4 + 3) = po + k * 8 + 7 by omega] at e7
          have ek : Hid (keysFree u p.items = ((findP u p.items[k * 2]).isNone && keysFree u (p.items.drop ((k + 1) * 2)))) := by rw [Hid, hst, show (k + 1) * 2 = k * 2 + 2 by omega]
          generalize p.items[k * 2]'hk0 = y at *
          generalize p.items[k * 2 + 1]'hk1 = z at *
          have FM := Lib.hid (cbor_Find hTab hu.arg hy.arg (wr.alloc (.cells #[.int .i64 y.kind, .int .u64 y.n, .slice y1 y.bytes.length y2, .slice y3 y.items.length y4, .int .i64 z.kind, .int .u64 z.n, .slice z1 z.bytes.length z2, .slice z3 z.items.length z4] 90)) (hHx.alloc _))
          have hlt3 : (k : Int) < (p.items.length / 2 : Nat) := by omega
          clear hpc c0 c1 c2 c3 c4 c5 c6 c7 hst hpl hev hk0 hk1
          go_wp2_with fail
          refine FM.out.mono ?_
          rintro e w3 ⟨v3, rfl, hv3⟩
          have hb3 := (hbx.alloc hbx.size _).trans (hv3.below.mono (by have := hbx.size; simp; omega))
          obtain ⟨f1, f2, f3, f4, H3, rfl, _, _⟩ := hv3
          clear e0 e1 e2 e3 e4 e5 e6 e7 FM u4 u5 u6 u7
          cases hpm : findP u y with
          | some q =>
            have E : Hid (validH p u = false) := by rw [Hid, E0.out, ek.out, hpm]; simp
            have hbz := hbw2.trans (hb3.mono hbw2.size)
            have hbz2 := hbz.alloc hbz.size (itemO q f1 f2 f3 f4)
            clear hpm
            go_wp2_with fail
            go_ret
            exact ⟨by rw [E.out]; rfl, hbz2⟩
          | none =>
            have E : Hid (keysFree u (p.items.drop ((k + 1) * 2)) = keysFree u p.items) := by rw [Hid, ek.out, hpm]; simp
            have hb4 := hb3.alloc hb3.size (itemO zeroItm f1 f2 f3 f4)
            clear hpm
            go_wp2_with fail
            go_roundw
            case rel => exact ⟨k + 1, by omega, by go_num, E.out, hb4⟩
            case measure => simp [intOf]; omega
        · have E1 : Hid (keysFree u p.items = true) := by
            have hev := HEV.out
            rw [List.drop_eq_nil_of_le (by omega)] at hpl
            rw [Hid, ← hpl]
            rfl
          have t0 := hBx.cell 0 rfl
          have t1 := hBx.cell 1 rfl
          have t2 := hBx.cell 2 rfl
          have t3 := hBx.cell 3 rfl
          have hbz := hbw2.trans (hbx.mono hbw2.size)
          have F5 := Lib.hid (header_find hTab hp hu 5 (by omega) (by omega) wr hHx)
          obtain ⟨b5, hb5⟩ : ∃ b, (findH p u 5).isSome = b := ⟨_, rfl⟩
          rw [hb5] at F5
          have HB5 := Lib.hid hb5
          clear hb5 hpl hsrc hcs hB2 hbx hbw2
          go_wp2_with fail
          refine F5.out.mono ?_
          rintro e w3 ⟨v3, rfl, hv3⟩
          have hb3 := hv3.below
          obtain ⟨f1, f2, f3, f4, H3, rfl, _, _⟩ := hv3
          have hB3 := (hBx.below hb3).alloc (itemO ((findH p u 5).getD zeroItm) f1 f2 f3 f4)
          have hbz3 := (hbz.trans (hb3.mono hbz.size)).alloc (hbz.trans (hb3.mono hbz.size)).size (itemO ((findH p u 5).getD zeroItm) f1 f2 f3 f4)
          have F6 := Lib.hid (header_find hTab hp hu 6 (by omega) (by omega) _ (hH.below hbz3 (Nat.le_refl _)))
          obtain ⟨b6, hb6⟩ : ∃ b, (findH p u 6).isSome = b := ⟨_, rfl⟩
          rw [hb6] at F6
          have HB6 := Lib.hid hb6
          clear hb6 t0 t1 t2 t3 u4 u5 u6 u7 F5 hBx hHx hb3
          have t0 := hB3.cell 0 rfl
          have t1 := hB3.cell 1 rfl
          have t2 := hB3.cell 2 rfl
          have t3 := hB3.cell 3 rfl
          have u4 := hB3.cell 4 rfl
          have u5 := hB3.cell 5 rfl
          have u6 := hB3.cell 6 rfl
          have u7 := hB3.cell 7 rfl
          go_wp2_with fail
          refine F6.out.mono ?_
          rintro e w4 ⟨v4, rfl, hv4⟩
          have hb4 := hv4.below
          obtain ⟨g1, g2, g3, g4, H4, rfl, _, _⟩ := hv4
          have hB4 := (hB3.below hb4).alloc (itemO ((findH p u 6).getD zeroItm) g1 g2 g3 g4)
          have hbz4 := (hbz3.trans (hb4.mono hbz3.size)).alloc (hbz3.trans (hb4.mono hbz3.size)).size (itemO ((findH p u 6).getD zeroItm) g1 g2 g3 g4)
          clear t0 t1 t2 t3 u4 u5 u6 u7 F6 hB3 hb4
          have E2 : Hid (validH p u = (!((findP u (intP 2)).isSome || (b5 && b6)) && critP p)) := by rw [Hid, E0.out, E1.out, Bool.true_and, HB5.out, HB6.out]
          clear E0 E1 hbz hbz3
          go_upto_region 22 with fail
          go_cut [15, 16] (fun s15 s16 wx => ∃ x, s16 = .bool x ∧ (findP u (intP 2)).isSome = x ∧ Blk wx w.heap.size 28 (hdrC p a u b) ∧ Below w.heap.size w wx)
          case first =>
            have hB := hB4.drew
            have hb := hbz4.drew
            have hHc := (hH.below hbz4 (Nat.le_refl _)).drew
            have hle := Snap.le.refl H
            clear hB4 hbz4
            refine wp_region_ways 9 (fun w' => w'.cell? ⟨w.heap.size, 4, none⟩ = some (.int .i64 u.kind) ∧ w'.cell? ⟨w.heap.size, 5, none⟩ = some (.int .u64 u.n) ∧ w'.cell? ⟨w.heap.size, 6, none⟩ = some (.slice b.ba u.bytes.length b.bc) ∧ w'.cell? ⟨w.heap.size, 7, none⟩ = some (.slice b.ia u.items.length b.ic)) (by kernel_rfl) (⟨hB.cell 4 rfl, hB.cell 5 rfl, hB.cell 6 rfl, hB.cell 7 rfl⟩) (fun hHeld => ?_)
            refine Ways.take (i := 0) (v := ?_) rfl (by kernel_rfl) (fun _ _ _ h => h) (Or.inl ⟨by rfl, ?_⟩) hHeld ?_
            rotate_left
            · (intro w hSw; (try dsimp only at hSw); go_simp; try with_reducible rfl)
            try simp only [Act.put, List.setIfInBounds_toArray, List.set_cons_zero, List.set_cons_succ]
            refine Ways.take (i := 1) (v := ?_) rfl (by kernel_rfl) (fun _ _ _ h => h) (Or.inl ⟨by rfl, ?_⟩) hHeld ?_
            rotate_left
            · (intro w hSw; (try dsimp only at hSw); go_simp; try with_reducible rfl)
            try simp only [Act.put, List.setIfInBounds_toArray, List.set_cons_zero, List.set_cons_succ]
            refine Ways.two (i := 2) (j := 7) rfl rfl (by kernel_rfl) (fun K hK => ?_) (fun K hK => ?_)
            · go_simp
              refine (cbor_Int 2 (by omega) (by omega) _ hHc).mono ?_
              rintro e w7 ⟨v7, rfl, hv7⟩
              have hB := hB.below hv7.below
              have hb := hb.trans (hv7.below.mono hb.size)
              try have hN := hN.below hv7.below
              obtain ⟨sa, sb, sc, sd, H7, rfl, hG7, hi7⟩ := hv7
              try have hNn := hG7.none hNn hN0
              try have hN0 := hN.lt
              have hHc := hG7.holds
              have hle := hle.trans hG7.le
              refine hK.out _ _ (fun _ => ?_) (fun hHeld => ?_)
              · exact ⟨hB.cell 4 rfl, hB.cell 5 rfl, hB.cell 6 rfl, hB.cell 7 rfl⟩
              clear hK K
              have hHeld := hHeld (by decide)
              try simp only [Act.put, List.setIfInBounds_toArray, List.set_cons_zero, List.set_cons_succ]
              refine Ways.two (i := 3) (j := 7) rfl rfl (by kernel_rfl) (fun K hK => ?_) (fun K hK => ?_)
              · go_simp
                refine (cbor_Find (hTab.mono hle) (hu.mono hle).arg hi7.arg _ hHc).mono ?_
                rintro e w8 ⟨v8, rfl, hv8⟩
                have hB := hB.below hv8.below
                have hb := hb.trans (hv8.below.mono hb.size)
                try have hN := hN.below hv8.below
                obtain ⟨ra, rb, rc, rd, H8, rfl, hG8, hi8⟩ := hv8
                try have hNn := hG8.none hNn hN0
                try have hN0 := hN.lt
                have hHc := hG8.holds
                have hle := hle.trans hG8.le
                refine hK.out _ _ (fun _ => ?_) (fun hHeld => ?_)
                · exact ⟨hB.cell 4 rfl, hB.cell 5 rfl, hB.cell 6 rfl, hB.cell 7 rfl⟩
                clear hK K
                have hHeld := hHeld (by decide)
                try simp only [Act.put, List.setIfInBounds_toArray, List.set_cons_zero, List.set_cons_succ]
                refine Ways.take (i := 4) (v := ?_) rfl (by kernel_rfl) (fun _ _ _ h => h) (Or.inl ⟨by rfl, ?_⟩) hHeld ?_
                rotate_left
                · (intro w hSw; (try dsimp only at hSw); go_simp; try with_reducible rfl)
                try simp only [Act.put, List.setIfInBounds_toArray, List.set_cons_zero, List.set_cons_succ]
                refine Ways.take (i := 5) (v := ?_) rfl (by kernel_rfl) (fun _ _ _ h => h) (Or.inl ⟨by rfl, ?_⟩) hHeld ?_
                rotate_left
                · (intro w hSw; (try dsimp only at hSw); go_simp; try with_reducible rfl)
                try simp only [Act.put, List.setIfInBounds_toArray, List.set_cons_zero, List.set_cons_succ]
                refine Ways.take (i := 6) (v := ?_) rfl (by kernel_rfl) (fun _ _ _ h => h) (Or.inl ⟨by rfl, ?_⟩) hHeld ?_
                rotate_left
                · (intro w hSw; (try dsimp only at hSw); go_simp; try with_reducible rfl)
                try simp only [Act.put, List.setIfInBounds_toArray, List.set_cons_zero, List.set_cons_succ]
                refine Ways.one (i := 7) rfl (by kernel_rfl) (fun K hK => ?_)
                go_simp
                have hN := below_newBlk hb 26 #[.int .i64 0, .int .u64 0, .slice none 0 0, .slice none 0 0]
                have hNz := hB.lt
                have hNn := hHc.none_of_ge (Nat.le_refl _)
                try simp only [drew_heap, size_alloc] at hN hNz hNn
                have hB := hB.alloc zeroO
                have hb := hb.alloc hb.size zeroO
                have hHc := hHc.alloc zeroO
                have hN0 := hN.lt
                refine hK.out _ _ (fun _ => ?_) (fun hHeld => ?_)
                · exact ⟨hB.cell 4 rfl, hB.cell 5 rfl, hB.cell 6 rfl, hB.cell 7 rfl⟩
                clear hK K
                have hHeld := hHeld (by decide)
                try simp only [Act.put, List.setIfInBounds_toArray, List.set_cons_zero, List.set_cons_succ]
                refine Ways.one (i := 8) rfl (by kernel_rfl) (fun K hK => ?_)
                rw [if_pos (by rfl)]
                refine wp_store_item _ _ _ rfl _ _ rfl rfl _ _ hN size_item rfl (one4 _ _ _ _ rfl rfl rfl rfl) fun w9 hN9 hg9 => ?_
                have hB := hB.grown hg9 (by first | (simp; done) | (simp; omega))
                have hb := hb.grown hg9 hb.size (by rintro q ⟨⟩; first | omega | simp)
                have hHc := hHc.grown hg9 (by rintro q ⟨⟩; exact hNn)
                refine hK.out _ _ (fun _ => ?_) (fun hHeld => ?_)
                · exact ⟨hB.cell 4 rfl, hB.cell 5 rfl, hB.cell 6 rfl, hB.cell 7 rfl⟩
                clear hK K
                have hHeld := hHeld (by decide)
                try simp only [Act.put, List.setIfInBounds_toArray, List.set_cons_zero, List.set_cons_succ]
                refine Ways.one (i := 9) rfl (by kernel_rfl) (fun K hK => ?_)
                go_simp
                refine hK.out _ _ (fun h => absurd rfl h) (fun _ => ?_)
                clear hK K
                try simp only [Act.put, List.setIfInBounds_toArray, List.set_cons_zero, List.set_cons_succ]
                refine Ways.done (by kernel_rfl) ?_
                go_wp2_with fail
                go_meet
                exact ⟨_, rfl, rfl, hB, hb⟩
              · go_simp
                have hN := below_newBlk hb 26 #[.int .i64 0, .int .u64 0, .slice none 0 0, .slice none 0 0]
                have hNz := hB.lt
                have hNn := hHc.none_of_ge (Nat.le_refl _)
                try simp only [drew_heap, size_alloc] at hN hNz hNn
                have hB := hB.alloc zeroO
                have hb := hb.alloc hb.size zeroO
                have hHc := hHc.alloc zeroO
                have hN0 := hN.lt
                refine hK.out _ _ (fun _ => ?_) (fun hHeld => ?_)
                · exact ⟨hB.cell 4 rfl, hB.cell 5 rfl, hB.cell 6 rfl, hB.cell 7 rfl⟩
                clear hK K
                have hHeld := hHeld (by decide)
                try simp only [Act.put, List.setIfInBounds_toArray, List.set_cons_zero, List.set_cons_succ]
                refine Ways.one (i := 3) rfl (by kernel_rfl) (fun K hK => ?_)
                go_simp
                refine (cbor_Find (hTab.mono hle) (hu.mono hle).arg hi7.arg _ hHc).mono ?_
                rintro e w8 ⟨v8, rfl, hv8⟩
                have hB := hB.below hv8.below
                have hb := hb.trans (hv8.below.mono hb.size)
                try have hN := hN.below hv8.below
                obtain ⟨ra, rb, rc, rd, H8, rfl, hG8, hi8⟩ := hv8
                try have hNn := hG8.none hNn hN0
                try have hN0 := hN.lt
                have hHc := hG8.holds
                have hle := hle.trans hG8.le
                refine hK.out _ _ (fun _ => ?_) (fun hHeld => ?_)
                · exact ⟨hB.cell 4 rfl, hB.cell 5 rfl, hB.cell 6 rfl, hB.cell 7 rfl⟩
                clear hK K
                have hHeld := hHeld (by decide)
                try simp only [Act.put, List.setIfInBounds_toArray, List.set_cons_zero, List.set_cons_succ]
                refine Ways.take (i := 4) (v := ?_) rfl (by kernel_rfl) (fun _ _ _ h => h) (Or.inl ⟨by rfl, ?_⟩) hHeld ?_
                rotate_left
                · (intro w hSw; (try dsimp only at hSw); go_simp; try with_reducible rfl)
                try simp only [Act.put, List.setIfInBounds_toArray, List.set_cons_zero, List.set_cons_succ]
                refine Ways.take (i := 5) (v := ?_) rfl (by kernel_rfl) (fun _ _ _ h => h) (Or.inl ⟨by rfl, ?_⟩) hHeld ?_
                rotate_left
                · (intro w hSw; (try dsimp only at hSw); go_simp; try with_reducible rfl)
                try simp only [Act.put, List.setIfInBounds_toArray, List.set_cons_zero, List.set_cons_succ]
                refine Ways.take (i := 6) (v := ?_) rfl (by kernel_rfl) (fun _ _ _ h => h) (Or.inl ⟨by rfl, ?_⟩) hHeld ?_
                rotate_left
                · (intro w hSw; (try dsimp only at hSw); go_simp; try with_reducible rfl)
                try simp only [Act.put, List.setIfInBounds_toArray, List.set_cons_zero, List.set_cons_succ]
                refine Ways.one (i := 8) rfl (by kernel_rfl) (fun K hK => ?_)
                rw [if_pos (by rfl)]
                refine wp_store_item _ _ _ rfl _ _ rfl rfl _ _ hN size_item rfl (one4 _ _ _ _ rfl rfl rfl rfl) fun w9 hN9 hg9 => ?_
                have hB := hB.grown hg9 (by first | (simp; done) | (simp; omega))
                have hb := hb.grown hg9 hb.size (by rintro q ⟨⟩; first | omega | simp)
                have hHc := hHc.grown hg9 (by rintro q ⟨⟩; exact hNn)
                refine hK.out _ _ (fun _ => ?_) (fun hHeld => ?_)
                · exact ⟨hB.cell 4 rfl, hB.cell 5 rfl, hB.cell 6 rfl, hB.cell 7 rfl⟩
                clear hK K
                have hHeld := hHeld (by decide)
                try simp only [Act.put, List.setIfInBounds_toArray, List.set_cons_zero, List.set_cons_succ]
                refine Ways.one (i := 9) rfl (by kernel_rfl) (fun K hK => ?_)
                go_simp
                refine hK.out _ _ (fun h => absurd rfl h) (fun _ => ?_)
                clear hK K
                try simp only [Act.put, List.setIfInBounds_toArray, List.set_cons_zero, List.set_cons_succ]
                refine Ways.done (by kernel_rfl) ?_
                go_wp2_with fail
                go_meet
                exact ⟨_, rfl, rfl, hB, hb⟩
            · go_simp
              have hN := below_newBlk hb 26 #[.int .i64 0, .int .u64 0, .slice none 0 0, .slice none 0 0]
              have hNz := hB.lt
              have hNn := hHc.none_of_ge (Nat.le_refl _)
              try simp only [drew_heap, size_alloc] at hN hNz hNn
              have hB := hB.alloc zeroO
              have hb := hb.alloc hb.size zeroO
              have hHc := hHc.alloc zeroO
              have hN0 := hN.lt
              refine hK.out _ _ (fun _ => ?_) (fun hHeld => ?_)
              · exact ⟨hB.cell 4 rfl, hB.cell 5 rfl, hB.cell 6 rfl, hB.cell 7 rfl⟩
              clear hK K
              have hHeld := hHeld (by decide)
              try simp only [Act.put, List.setIfInBounds_toArray, List.set_cons_zero, List.set_cons_succ]
              refine Ways.one (i := 2) rfl (by kernel_rfl) (fun K hK => ?_)
              go_simp
              refine (cbor_Int 2 (by omega) (by omega) _ hHc).mono ?_
              rintro e w7 ⟨v7, rfl, hv7⟩
              have hB := hB.below hv7.below
              have hb := hb.trans (hv7.below.mono hb.size)
              try have hN := hN.below hv7.below
              obtain ⟨sa, sb, sc, sd, H7, rfl, hG7, hi7⟩ := hv7
              try have hNn := hG7.none hNn hN0
              try have hN0 := hN.lt
              have hHc := hG7.holds
              have hle := hle.trans hG7.le
              refine hK.out _ _ (fun _ => ?_) (fun hHeld => ?_)
              · exact ⟨hB.cell 4 rfl, hB.cell 5 rfl, hB.cell 6 rfl, hB.cell 7 rfl⟩
              clear hK K
              have hHeld := hHeld (by decide)
              try simp only [Act.put, List.setIfInBounds_toArray, List.set_cons_zero, List.set_cons_succ]
              refine Ways.one (i := 3) rfl (by kernel_rfl) (fun K hK => ?_)
              go_simp
              refine (cbor_Find (hTab.mono hle) (hu.mono hle).arg hi7.arg _ hHc).mono ?_
              rintro e w8 ⟨v8, rfl, hv8⟩
              have hB := hB.below hv8.below
              have hb := hb.trans (hv8.below.mono hb.size)
              try have hN := hN.below hv8.below
              obtain ⟨ra, rb, rc, rd, H8, rfl, hG8, hi8⟩ := hv8
              try have hNn := hG8.none hNn hN0
              try have hN0 := hN.lt
              have hHc := hG8.holds
              have hle := hle.trans hG8.le
              refine hK.out _ _ (fun _ => ?_) (fun hHeld => ?_)
              · exact ⟨hB.cell 4 rfl, hB.cell 5 rfl, hB.cell 6 rfl, hB.cell 7 rfl⟩
              clear hK K
              have hHeld := hHeld (by decide)
              try simp only [Act.put, List.setIfInBounds_toArray, List.set_cons_zero, List.set_cons_succ]
              refine Ways.take (i := 4) (v := ?_) rfl (by kernel_rfl) (fun _ _ _ h => h) (Or.inl ⟨by rfl, ?_⟩) hHeld ?_
              rotate_left
              · (intro w hSw; (try dsimp only at hSw); go_simp; try with_reducible rfl)
              try simp only [Act.put, List.setIfInBounds_toArray, List.set_cons_zero, List.set_cons_succ]
              refine Ways.take (i := 5) (v := ?_) rfl (by kernel_rfl) (fun _ _ _ h => h) (Or.inl ⟨by rfl, ?_⟩) hHeld ?_
              rotate_left
              · (intro w hSw; (try dsimp only at hSw); go_simp; try with_reducible rfl)
              try simp only [Act.put, List.setIfInBounds_toArray, List.set_cons_zero, List.set_cons_succ]
              refine Ways.take (i := 6) (v := ?_) rfl (by kernel_rfl) (fun _ _ _ h => h) (Or.inl ⟨by rfl, ?_⟩) hHeld ?_
              rotate_left
              · (intro w hSw; (try dsimp only at hSw); go_simp; try with_reducible rfl)
              try simp only [Act.put, List.setIfInBounds_toArray, List.set_cons_zero, List.set_cons_succ]
              refine Ways.one (i := 8) rfl (by kernel_rfl) (fun K hK => ?_)
              rw [if_pos (by rfl)]
              refine wp_store_item _ _ _ rfl _ _ rfl rfl _ _ hN size_item rfl (one4 _ _ _ _ rfl rfl rfl rfl) fun w9 hN9 hg9 => ?_
              have hB := hB.grown hg9 (by first | (simp; done) | (simp; omega))
              have hb := hb.grown hg9 hb.size (by rintro q ⟨⟩; first | omega | simp)
              have hHc := hHc.grown hg9 (by rintro q ⟨⟩; exact hNn)
              refine hK.out _ _ (fun _ => ?_) (fun hHeld => ?_)
              · exact ⟨hB.cell 4 rfl, hB.cell 5 rfl, hB.cell 6 rfl, hB.cell 7 rfl⟩
              clear hK K
              have hHeld := hHeld (by decide)
              try simp only [Act.put, List.setIfInBounds_toArray, List.set_cons_zero, List.set_cons_succ]
              refine Ways.one (i := 9) rfl (by kernel_rfl) (fun K hK => ?_)
              go_simp
              refine hK.out _ _ (fun h => absurd rfl h) (fun _ => ?_)
              clear hK K
              try simp only [Act.put, List.setIfInBounds_toArray, List.set_cons_zero, List.set_cons_succ]
              refine Ways.done (by kernel_rfl) ?_
              go_wp2_with fail
              go_meet
              exact ⟨_, rfl, rfl, hB, hb⟩
          case rest =>
            obtain ⟨cu, rfl, hcu, hB5, hb5⟩ := hcut
            clear hB4 hbz4
            have EB : Hid ((cu || (b5 && b6)) = true → validH p u = false) := by intro h; rw [E2.out, hcu, h]; rfl
            have EG : Hid ((cu || (b5 && b6)) = false → validH p u = critP p) := by intro h; rw [E2.out, hcu, h]; simp
            clear hcu E2
            by_cases hq : (cu || (b5 && b6)) = true
            · have E := Lib.hid (EB.out hq)
              have hq' : cu = true ∨ (cu = false ∧ b5 = true ∧ b6 = true) := by cases cu <;> cases b5 <;> cases b6 <;> simp_all
              clear hq EB EG
              rcases hq' with rfl | ⟨rfl, rfl, rfl⟩
              all_goals
                go_wp2_with fail
                go_ret
                exact ⟨by rw [E.out]; rfl, hb5⟩
            · have E := Lib.hid (EG.out (by simpa using hq))
              have hq' : cu = false ∧ (b5 = false ∨ (b5 = true ∧ b6 = false)) := by cases cu <;> cases b5 <;> cases b6 <;> simp_all
              clear hq EB EG
              go_upto_region 23 with fail
              go_cut [94] (fun s94 wx => s94 = .bool false ∧ wc = wx)
              case first =>
                obtain ⟨rfl, rfl | ⟨rfl, rfl⟩⟩ := hq'
                all_goals
                  go_wp2_with fail
                  go_meet
                  exact ⟨rfl, rfl⟩
              case rest =>
                obtain ⟨rfl, rfl⟩ := hcut
                clear hq'
                go_upto_region 25 with fail
                go_cut [17, 18] (fun s17 s18 wx => ∃ N ra rb rc rd Hx x, s17 = .pointer (some ⟨N, 0, none⟩) ∧ s18 = .bool x ∧ (findP p (intP 2)).isSome = x ∧ Blk wx N 26 #[.int .i64 ((findP p (intP 2)).getD zeroItm).kind, .int .u64 ((findP p (intP 2)).getD zeroItm).n, .slice ra ((findP p (intP 2)).getD zeroItm).bytes.length rb, .slice rc ((findP p (intP 2)).getD zeroItm).items.length rd] ∧
                  Blk wx w.heap.size 28 (hdrC p a u b) ∧ Below w.heap.size w wx ∧ Holds wx Hx ∧ H.le Hx ∧ IsItem Hx ra rb rc rd ((findP p (intP 2)).getD zeroItm))
                case first =>
                  have hB := hB5.drew
                  have hb := hb5.drew
                  have hHc := (hH.below hb5 (Nat.le_refl _)).drew
                  have hle := Snap.le.refl H
                  clear hB5 hb5
                  refine wp_region_ways 9 (fun w' => w'.cell? ⟨w.heap.size, 0, none⟩ = some (.int .i64 p.kind) ∧ w'.cell? ⟨w.heap.size, 1, none⟩ = some (.int .u64 p.n) ∧ w'.cell? ⟨w.heap.size, 2, none⟩ = some (.slice a.ba p.bytes.length a.bc) ∧ w'.cell? ⟨w.heap.size, 3, none⟩ = some (.slice a.ia p.items.length a.ic)) (by kernel_rfl) (⟨hB.cell 0 rfl, hB.cell 1 rfl, hB.cell 2 rfl, hB.cell 3 rfl⟩) (fun hHeld => ?_)
                  refine Ways.take (i := 0) (v := ?_) rfl (by kernel_rfl) (fun _ _ _ h => h) (Or.inl ⟨by rfl, ?_⟩) hHeld ?_
                  rotate_left
                  · (intro w hSw; (try dsimp only at hSw); go_simp; try with_reducible rfl)
                  try simp only [Act.put, List.setIfInBounds_toArray, List.set_cons_zero, List.set_cons_succ]
                  refine Ways.take (i := 1) (v := ?_) rfl (by kernel_rfl) (fun _ _ _ h => h) (Or.inl ⟨by rfl, ?_⟩) hHeld ?_
                  rotate_left
                  · (intro w hSw; (try dsimp only at hSw); go_simp; try with_reducible rfl)
                  try simp only [Act.put, List.setIfInBounds_toArray, List.set_cons_zero, List.set_cons_succ]
                  refine Ways.two (i := 2) (j := 7) rfl rfl (by kernel_rfl) (fun K hK => ?_) (fun K hK => ?_)
                  · go_simp
                    refine (cbor_Int 2 (by omega) (by omega) _ hHc).mono ?_
                    rintro e w7 ⟨v7, rfl, hv7⟩
                    have hB := hB.below hv7.below
                    have hb := hb.trans (hv7.below.mono hb.size)
                    try have hN := hN.below hv7.below
                    obtain ⟨sa, sb, sc, sd, H7, rfl, hG7, hi7⟩ := hv7
                    try have hNn := hG7.none hNn hN0
                    try have hN0 := hN.lt
                    have hHc := hG7.holds
                    have hle := hle.trans hG7.le
                    refine hK.out _ _ (fun _ => ?_) (fun hHeld => ?_)
                    · exact ⟨hB.cell 0 rfl, hB.cell 1 rfl, hB.cell 2 rfl, hB.cell 3 rfl⟩
                    clear hK K
                    have hHeld := hHeld (by decide)
                    try simp only [Act.put, List.setIfInBounds_toArray, List.set_cons_zero, List.set_cons_succ]
                    refine Ways.two (i := 3) (j := 7) rfl rfl (by kernel_rfl) (fun K hK => ?_) (fun K hK => ?_)
                    · go_simp
                      refine (cbor_Find (hTab.mono hle) (hp.mono hle).arg hi7.arg _ hHc).mono ?_
                      rintro e w8 ⟨v8, rfl, hv8⟩
                      have hB := hB.below hv8.below
                      have hb := hb.trans (hv8.below.mono hb.size)
                      try have hN := hN.below hv8.below
                      obtain ⟨ra, rb, rc, rd, H8, rfl, hG8, hi8⟩ := hv8
                      try have hNn := hG8.none hNn hN0
                      try have hN0 := hN.lt
                      have hHc := hG8.holds
                      have hle := hle.trans hG8.le
                      refine hK.out _ _ (fun _ => ?_) (fun hHeld => ?_)
                      · exact ⟨hB.cell 0 rfl, hB.cell 1 rfl, hB.cell 2 rfl, hB.cell 3 rfl⟩
                      clear hK K
                      have hHeld := hHeld (by decide)
                      try simp only [Act.put, List.setIfInBounds_toArray, List.set_cons_zero, List.set_cons_succ]
                      refine Ways.take (i := 4) (v := ?_) rfl (by kernel_rfl) (fun _ _ _ h => h) (Or.inl ⟨by rfl, ?_⟩) hHeld ?_
                      rotate_left
                      · (intro w hSw; (try dsimp only at hSw); go_simp; try with_reducible rfl)
                      try simp only [Act.put, List.setIfInBounds_toArray, List.set_cons_zero, List.set_cons_succ]
                      refine Ways.take (i := 5) (v := ?_) rfl (by kernel_rfl) (fun _ _ _ h => h) (Or.inl ⟨by rfl, ?_⟩) hHeld ?_
                      rotate_left
                      · (intro w hSw; (try dsimp only at hSw); go_simp; try with_reducible rfl)
                      try simp only [Act.put, List.setIfInBounds_toArray, List.set_cons_zero, List.set_cons_succ]
                      refine Ways.take (i := 6) (v := ?_) rfl (by kernel_rfl) (fun _ _ _ h => h) (Or.inl ⟨by rfl, ?_⟩) hHeld ?_
                      rotate_left
                      · (intro w hSw; (try dsimp only at hSw); go_simp; try with_reducible rfl)
                      try simp only [Act.put, List.setIfInBounds_toArray, List.set_cons_zero, List.set_cons_succ]
                      refine Ways.one (i := 7) rfl (by kernel_rfl) (fun K hK => ?_)
                      go_simp
                      have hN := below_newBlk hb 26 #[.int .i64 0, .int .u64 0, .slice none 0 0, .slice none 0 0]
                      have hNz := hB.lt
                      have hNn := hHc.none_of_ge (Nat.le_refl _)
                      try simp only [drew_heap, size_alloc] at hN hNz hNn
                      have hB := hB.alloc zeroO
                      have hb := hb.alloc hb.size zeroO
                      have hHc := hHc.alloc zeroO
                      have hN0 := hN.lt
                      refine hK.out _ _ (fun _ => ?_) (fun hHeld => ?_)
                      · exact ⟨hB.cell 0 rfl, hB.cell 1 rfl, hB.cell 2 rfl, hB.cell 3 rfl⟩
                      clear hK K
                      have hHeld := hHeld (by decide)
                      try simp only [Act.put, List.setIfInBounds_toArray, List.set_cons_zero, List.set_cons_succ]
                      refine Ways.one (i := 8) rfl (by kernel_rfl) (fun K hK => ?_)
                      rw [if_pos (by rfl)]
                      refine wp_store_item _ _ _ rfl _ _ rfl rfl _ _ hN size_item rfl (one4 _ _ _ _ rfl rfl rfl rfl) fun w9 hN9 hg9 => ?_
                      have hB := hB.grown hg9 (by first | (simp; done) | (simp; omega))
                      have hb := hb.grown hg9 hb.size (by rintro q ⟨⟩; first | omega | simp)
                      have hHc := hHc.grown hg9 (by rintro q ⟨⟩; exact hNn)
                      refine hK.out _ _ (fun _ => ?_) (fun hHeld => ?_)
                      · exact ⟨hB.cell 0 rfl, hB.cell 1 rfl, hB.cell 2 rfl, hB.cell 3 rfl⟩
                      clear hK K
                      have hHeld := hHeld (by decide)
                      try simp only [Act.put, List.setIfInBounds_toArray, List.set_cons_zero, List.set_cons_succ]
                      refine Ways.one (i := 9) rfl (by kernel_rfl) (fun K hK => ?_)
                      go_simp
                      refine hK.out _ _ (fun h => absurd rfl h) (fun _ => ?_)
                      clear hK K
                      try simp only [Act.put, List.setIfInBounds_toArray, List.set_cons_zero, List.set_cons_succ]
                      refine Ways.done (by kernel_rfl) ?_
                      go_wp2_with fail
                      go_meet
                      exact ⟨_, ra, rb, rc, rd, _, _, rfl, rfl, rfl, hN9, hB, hb, hHc, hle, hi8⟩
                    · go_simp
                      have hN := below_newBlk hb 26 #[.int .i64 0, .int .u64 0, .slice none 0 0, .slice none 0 0]
                      have hNz := hB.lt
                      have hNn := hHc.none_of_ge (Nat.le_refl _)
                      try simp only [drew_heap, size_alloc] at hN hNz hNn
                      have hB := hB.alloc zeroO
                      have hb := hb.alloc hb.size zeroO
                      have hHc := hHc.alloc zeroO
                      have hN0 := hN.lt
                      refine hK.out _ _ (fun _ => ?_) (fun hHeld => ?_)
                      · exact ⟨hB.cell 0 rfl, hB.cell 1 rfl, hB.cell 2 rfl, hB.cell 3 rfl⟩
                      clear hK K
                      have hHeld := hHeld (by decide)
                      try simp only [Act.put, List.setIfInBounds_toArray, List.set_cons_zero, List.set_cons_succ]
                      refine Ways.one (i := 3) rfl (by kernel_rfl) (fun K hK => ?_)
                      go_simp
                      refine (cbor_Find (hTab.mono hle) (hp.mono hle).arg hi7.arg _ hHc).mono ?_
                      rintro e w8 ⟨v8, rfl, hv8⟩
                      have hB := hB.below hv8.below
                      have hb := hb.trans (hv8.below.mono hb.size)
                      try have hN := hN.below hv8.below
                      obtain ⟨ra, rb, rc, rd, H8, rfl, hG8, hi8⟩ := hv8
                      try have hNn := hG8.none hNn hN0
                      try have hN0 := hN.lt
                      have hHc := hG8.holds
                      have hle := hle.trans hG8.le
                      refine hK.out _ _ (fun _ => ?_) (fun hHeld => ?_)
                      · exact ⟨hB.cell 0 rfl, hB.cell 1 rfl, hB.cell 2 rfl, hB.cell 3 rfl⟩
                      clear hK K
                      have hHeld := hHeld (by decide)
                      try simp only [Act.put, List.setIfInBounds_toArray, List.set_cons_zero, List.set_cons_succ]
                      refine Ways.take (i := 4) (v := ?_) rfl (by kernel_rfl) (fun _ _ _ h => h) (Or.inl ⟨by rfl, ?_⟩) hHeld ?_
                      rotate_left
                      · (intro w hSw; (try dsimp only at hSw); go_simp; try with_reducible rfl)
                      try simp only [Act.put, List.setIfInBounds_toArray, List.set_cons_zero, List.set_cons_succ]
                      refine Ways.take (i := 5) (v := ?_) rfl (by kernel_rfl) (fun _ _ _ h => h) (Or.inl ⟨by rfl, ?_⟩) hHeld ?_
                      rotate_left
                      · (intro w hSw; (try dsimp only at hSw); go_simp; try with_reducible rfl)
                      try simp only [Act.put, List.setIfInBounds_toArray, List.set_cons_zero, List.set_cons_succ]
                      refine Ways.take (i := 6) (v := ?_) rfl (by kernel_rfl) (fun _ _ _ h => h) (Or.inl ⟨by rfl, ?_⟩) hHeld ?_
                      rotate_left
                      · (intro w hSw; (try dsimp only at hSw); go_simp; try with_reducible rfl)
                      try simp only [Act.put, List.setIfInBounds_toArray, List.set_cons_zero, List.set_cons_succ]
                      refine Ways.one (i := 8) rfl (by kernel_rfl) (fun K hK => ?_)
                      rw [if_pos (by rfl)]
                      refine wp_store_item _ _ _ rfl _ _ rfl rfl _ _ hN size_item rfl (one4 _ _ _ _ rfl rfl rfl rfl) fun w9 hN9 hg9 => ?_
                      have hB := hB.grown hg9 (by first | (simp; done) | (simp; omega))
                      have hb := hb.grown hg9 hb.size (by rintro q ⟨⟩; first | omega | simp)
                      have hHc := hHc.grown hg9 (by rintro q ⟨⟩; exact hNn)
                      refine hK.out _ _ (fun _ => ?_) (fun hHeld => ?_)
                      · exact ⟨hB.cell 0 rfl, hB.cell 1 rfl, hB.cell 2 rfl, hB.cell 3 rfl⟩
                      clear hK K
                      have hHeld := hHeld (by decide)
                      try simp only [Act.put, List.setIfInBounds_toArray, List.set_cons_zero, List.set_cons_succ]
                      refine Ways.one (i := 9) rfl (by kernel_rfl) (fun K hK => ?_)
                      go_simp
                      refine hK.out _ _ (fun h => absurd rfl h) (fun _ => ?_)
                      clear hK K
                      try simp only [Act.put, List.setIfInBounds_toArray, List.set_cons_zero, List.set_cons_succ]
                      refine Ways.done (by kernel_rfl) ?_
                      go_wp2_with fail
                      go_meet
                      exact ⟨_, ra, rb, rc, rd, _, _, rfl, rfl, rfl, hN9, hB, hb, hHc, hle, hi8⟩
                  · go_simp
                    have hN := below_newBlk hb 26 #[.int .i64 0, .int .u64 0, .slice none 0 0, .slice none 0 0]
                    have hNz := hB.lt
                    have hNn := hHc.none_of_ge (Nat.le_refl _)
                    try simp only [drew_heap, size_alloc] at hN hNz hNn
                    have hB := hB.alloc zeroO
                    have hb := hb.alloc hb.size zeroO
                    have hHc := hHc.alloc zeroO
                    have hN0 := hN.lt
                    refine hK.out _ _ (fun _ => ?_) (fun hHeld => ?_)
                    · exact ⟨hB.cell 0 rfl, hB.cell 1 rfl, hB.cell 2 rfl, hB.cell 3 rfl⟩
                    clear hK K
                    have hHeld := hHeld (by decide)
                    try simp only [Act.put, List.setIfInBounds_toArray, List.set_cons_zero, List.set_cons_succ]
                    refine Ways.one (i := 2) rfl (by kernel_rfl) (fun K hK => ?_)
                    go_simp
                    refine (cbor_Int 2 (by omega) (by omega) _ hHc).mono ?_
                    rintro e w7 ⟨v7, rfl, hv7⟩
                    have hB := hB.below hv7.below
                    have hb := hb.trans (hv7.below.mono hb.size)
                    try have hN := hN.below hv7.below
                    obtain ⟨sa, sb, sc, sd, H7, rfl, hG7, hi7⟩ := hv7
                    try have hNn := hG7.none hNn hN0
                    try have hN0 := hN.lt
                    have hHc := hG7.holds
                    have hle := hle.trans hG7.le
                    refine hK.out _ _ (fun _ => ?_) (fun hHeld => ?_)
                    · exact ⟨hB.cell 0 rfl, hB.cell 1 rfl, hB.cell 2 rfl, hB.cell 3 rfl⟩
                    clear hK K
                    have hHeld := hHeld (by decide)
                    try simp only [Act.put, List.setIfInBounds_toArray, List.set_cons_zero, List.set_cons_succ]
                    refine Ways.one (i := 3) rfl (by kernel_rfl) (fun K hK => ?_)
                    go_simp
                    refine (cbor_Find (hTab.mono hle) (hp.mono hle).arg hi7.arg _ hHc).mono ?_
                    rintro e w8 ⟨v8, rfl, hv8⟩
                    have hB := hB.below hv8.below
                    have hb := hb.trans (hv8.below.mono hb.size)
                    try have hN := hN.below hv8.below
                    obtain ⟨ra, rb, rc, rd, H8, rfl, hG8, hi8⟩ := hv8
                    try have hNn := hG8.none hNn hN0
                    try have hN0 := hN.lt
                    have hHc := hG8.holds
                    have hle := hle.trans hG8.le
                    refine hK.out _ _ (fun _ => ?_) (fun hHeld => ?_)
                    · exact ⟨hB.cell 0 rfl, hB.cell 1 rfl, hB.cell 2 rfl, hB.cell 3 rfl⟩
                    clear hK K
                    have hHeld := hHeld (by decide)
                    try simp only [Act.put, List.setIfInBounds_toArray, List.set_cons_zero, List.set_cons_succ]
                    refine Ways.take (i := 4) (v := ?_) rfl (by kernel_rfl) (fun _ _ _ h => h) (Or.inl ⟨by rfl, ?_⟩) hHeld ?_
                    rotate_left
                    · (intro w hSw; (try dsimp only at hSw); go_simp; try with_reducible rfl)
                    try simp only [Act.put, List.setIfInBounds_toArray, List.set_cons_zero, List.set_cons_succ]
                    refine Ways.take (i := 5) (v := ?_) rfl (by kernel_rfl) (fun _ _ _ h => h) (Or.inl ⟨by rfl, ?_⟩) hHeld ?_
                    rotate_left
                    · (intro w hSw; (try dsimp only at hSw); go_simp; try with_reducible rfl)
                    try simp only [Act.put, List.setIfInBounds_toArray, List.set_cons_zero, List.set_cons_succ]
                    refine Ways.take (i := 6) (v := ?_) rfl (by kernel_rfl) (fun _ _ _ h => h) (Or.inl ⟨by rfl, ?_⟩) hHeld ?_
                    rotate_left
                    · (intro w hSw; (try dsimp only at hSw); go_simp; try with_reducible rfl)
                    try simp only [Act.put, List.setIfInBounds_toArray, List.set_cons_zero, List.set_cons_succ]
                    refine Ways.one (i := 8) rfl (by kernel_rfl) (fun K hK => ?_)
                    rw [if_pos (by rfl)]
                    refine wp_store_item _ _ _ rfl _ _ rfl rfl _ _ hN size_item rfl (one4 _ _ _ _ rfl rfl rfl rfl) fun w9 hN9 hg9 => ?_
                    have hB := hB.grown hg9 (by first | (simp; done) | (simp; omega))
                    have hb := hb.grown hg9 hb.size (by rintro q ⟨⟩; first | omega | simp)
                    have hHc := hHc.grown hg9 (by rintro q ⟨⟩; exact hNn)
                    refine hK.out _ _ (fun _ => ?_) (fun hHeld => ?_)
                    · exact ⟨hB.cell 0 rfl, hB.cell 1 rfl, hB.cell 2 rfl, hB.cell 3 rfl⟩
                    clear hK K
                    have hHeld := hHeld (by decide)
                    try simp only [Act.put, List.setIfInBounds_toArray, List.set_cons_zero, List.set_cons_succ]
                    refine Ways.one (i := 9) rfl (by kernel_rfl) (fun K hK => ?_)
                    go_simp
                    refine hK.out _ _ (fun h => absurd rfl h) (fun _ => ?_)
                    clear hK K
                    try simp only [Act.put, List.setIfInBounds_toArray, List.set_cons_zero, List.set_cons_succ]
                    refine Ways.done (by kernel_rfl) ?_
                    go_wp2_with fail
                    go_meet
                    exact ⟨_, ra, rb, rc, rd, _, _, rfl, rfl, rfl, hN9, hB, hb, hHc, hle, hi8⟩
                case rest =>
                  obtain ⟨N, ra, rb, rc, rd, Hx, xx, rfl, rfl, hxx, hN, hB6, hb6, hHx, hlex, hci⟩ := hcut
                  clear hB5 hb5
                  cases hf : findP p (intP 2) with
                  | none =>
                    have E3 : Hid (validH p u = true) := by rw [Hid, E.out, critP, hf]
                    rw [hf] at hxx
                    have hxx : xx = false := hxx.symm
                    subst hxx
                    clear hf hN hci
                    go_wp2_with fail
                    go_ret
                    exact ⟨by rw [E3.out]; rfl, hb6⟩
                  | some c =>
                    have E3 : Hid (validH p u = ((c.items.all fun x => (findP p x).isSome) && c.kind == 4 && decide (0 < c.items.length))) := by rw [Hid, E.out, critP, hf]
                    rw [hf] at hN hci hxx
                    have hxx : xx = true := hxx.symm
                    subst hxx
                    simp only [Option.getD_some] at hN hci
                    have n3 := hN.cell 3 rfl
                    clear hf E
                    go_upto_region 29 with fail
                    go_loopw [107] (fun vi wr => ∃ k : Nat, k ≤ c.items.length ∧ vi = .int .i64 k ∧ ((c.items.take k).all fun x => (findP p x).isSome) = true ∧ Below wc.heap.size wc wr) (fun vi _ => c.items.length - (intOf vi).toNat)
                    case atStart => exact ⟨0, Nat.zero_le _, rfl, by simp, Below.refl _ _⟩
                    case round =>
                      obtain ⟨k, hk, rfl, hall, hbx⟩ := hrel
                      have hBx := hB6.below hbx
                      have hNx := hN.below hbx
                      by_cases hlt : k < c.items.length
                      · obtain ⟨ib, io, hia, hel⟩ := hci.items (by omega)
                        obtain ⟨y1, y2, y3, y4, q0, q1, q2, q3, hy⟩ := hel.get k hlt
                        subst hia
                        have hHr : Holds wr Hx := hHx.below hbx (Nat.le_refl _)
                        have p0 := hHr.cell q0
                        have p1 := hHr.cell q1
                        have p2 := hHr.cell q2
                        have p3 := hHr.cell q3
                        have u0 := hBx.cell 0 rfl
                        have u1 := hBx.cell 1 rfl
                        have u2 := hBx.cell 2 rfl
                        have u3 := hBx.cell 3 rfl
                        have hltx := hBx.lt
                        have hstep : (c.items.all fun x => (findP p x).isSome) = true → (findP p c.items[k]).isSome = true := fun h => List.all_eq_true.1 h _ (List.getElem_mem hlt)
                        have hnext : (findP p c.items[k]).isSome = true → ((c.items.take (k + 1)).all fun x => (findP p x).isSome) = true := fun h => by
                          rw [List.take_succ_eq_append_getElem hlt, List.all_append, hall]
                          simp [h]
                        have HS := Lib.hid hstep
                        have HK : Hid (k + 1 ≤ c.items.length) := hlt
                        have hcb := hci.bounds
                        have hk63 : (k : Int) + 1 ≤ 9223372036854775807 := by omega
                        clear hcb
                        have HN := Lib.hid hnext
                        clear hstep hnext hall
                        generalize c.items[k]'hlt = y at *
                        have FM := Lib.hid (cbor_Find (hTab.mono hlex) (hp.mono hlex).arg hy.arg (wr.alloc (itemO y y1 y2 y3 y4)) (hHr.alloc _))
                        clear q0 q1 q2 q3 hel
                        go_wp2_with fail
                        refine FM.out.mono ?_
                        rintro e w9 ⟨v9, rfl, hv9⟩
                        have hb9 := (hbx.alloc hbx.size _).trans (hv9.below.mono (by have := hbx.size; simp; omega))
                        obtain ⟨f1, f2, f3, f4, H9, rfl, _, _⟩ := hv9
                        clear p0 p1 p2 p3 u0 u1 u2 u3 FM
                        cases hpm : findP p y with
                        | none =>
                          have E : Hid (validH p u = false) := by
                            rw [Hid, E3.out]
                            cases ha : (c.items.all fun x => (findP p x).isSome) with
                            | false => simp
                            | true =>
                              have := HS.out ha
                              rw [hpm] at this
                              cases this
                          have hbz := (hb6.trans (hb9.mono hb6.size))
                          have hbz2 := hbz.alloc hbz.size (itemO zeroItm f1 f2 f3 f4)
                          clear hpm
                          go_wp2_with fail
                          go_ret
                          exact ⟨by rw [E.out]; rfl, hbz2⟩
                        | some q =>
                          have E : Hid (((c.items.take (k + 1)).all fun x => (findP p x).isSome) = true) := HN.out (by rw [hpm]; rfl)
                          have hb10 := hb9.alloc hb9.size (itemO q f1 f2 f3 f4)
                          clear hpm
                          go_wp2_with fail
                          go_roundw
                          case rel => exact ⟨k + 1, HK.out, by go_num, E.out, hb10⟩
                          case measure => have := HK.out; simp [intOf]; omega
                      · have hkl : k = c.items.length := by omega
                        subst hkl
                        rw [List.take_length] at hall
                        have E : Hid (validH p u = (c.kind == 4 && decide (0 < c.items.length))) := by rw [Hid, E3.out, hall, Bool.true_and]
                        have m0 := hNx.cell 0 rfl
                        have m3 := hNx.cell 3 rfl
                        have hbz := hb6.trans (hbx.mono hb6.size)
                        clear hall E3 n3
                        by_cases h4 : c.kind = 4
                        · have k4 : (c.kind == 4) = true := by simp [h4]
                          have E5 : Hid (validH p u = decide (0 < c.items.length)) := by rw [Hid, E.out, k4, Bool.true_and]
                          clear h4 E
                          go_wp2_with fail
                          all_goals
                            go_ret
                            exact ⟨by rw [E5.out]; rfl, hbz⟩
                        · have k4 : (c.kind == 4) = false := by simp [h4]
                          have E5 : Hid (validH p u = false) := by rw [Hid, E.out, k4, Bool.false_and]
                          clear h4 E
                          go_wp2_with fail
                          go_ret
                          exact ⟨by rw [E5.out]; rfl, hbz⟩
end Go.Proofs.YtdbhgngikglmcaaDoor
