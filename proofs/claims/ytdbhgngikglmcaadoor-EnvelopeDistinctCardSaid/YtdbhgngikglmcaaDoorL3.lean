/- Walks: headers, made of numbers or raw. -/
import Derived.Test.YtdbhgngikglmcaaDoorJla
import Derived.Test.YtdbhgngikglmcaaDoorDk8
set_option linter.unusedVariables false
set_option linter.unusedSimpArgs false
namespace Go.Proofs.YtdbhgngikglmcaaDoor
open Go.RowKit

theorem Dealt.toGrows {w w1 w2 : World} {H H1 H2 : Snap} {g : Nat} (h : Grows w H w1 H1) (hd : Dealt w1 H1 w2 H2 g) (hg : w.heap.size ≤ g) : Grows w H w2 H2 :=
  ⟨h.below.grown hd.grows.grown h.size (by rintro q ⟨⟩; exact hg), h.le.trans hd.le, hd.holds, fun b o hb => by
    rcases hd.grows.fresh b o hb with h1 | h1
    · exact h.fresh b o h1
    · exact .inr (Nat.le_trans h.size h1)⟩
def HdrsSaid (w : World) (H : Snap) (e : Ending) (w' : World) : Prop := ∃ (p u : Itm) (a b : Ad) (H' : Snap), e = .returned (.agg (hdrC p a u b)) ∧ Grows w H w' H' ∧ IsItem H' a.ba a.bc a.ia a.ic p ∧ IsItem H' b.ba b.bc b.ia b.ic u

set_option maxRecDepth 100000 in
set_option maxHeartbeats 6400000 in
theorem law13_headers {H : Snap} (hTab : Tabs H) {p u : Itm} {a b : Ad} (hp : IsItem H a.ba a.bc a.ia a.ic p) (hu : IsItem H b.ba b.bc b.ia b.ic u) {A : Option Addr} {c : Nat} {l : List Int} (hl : IsInts H A c l) (w : World) (hH : Holds w H) :
    Calls Tryd.prog 7 #[.agg (hdrC p a u b), .slice A l.length c] w (HdrsSaid w H) := by
  have hB := (Blk.new w 28 (hdrC p a u b)).alloc zeroH
  have hT := Blk.new (w.alloc (.cells (hdrC p a u b) 28)) 28 (hdrC zeroItm ⟨none, 0, none, 0⟩ zeroItm ⟨none, 0, none, 0⟩)
  simp only [size_alloc] at hT
  have hG := ((Grows.refl hH).alloc (.cells (hdrC p a u b) 28)).alloc zeroH
  have hn0 : H (w.heap.size + 1) = none := hH.none_of_ge (by omega)
  obtain ⟨g, hg⟩ : ∃ g, w.heap.size + 1 + 1 = g := ⟨_, rfl⟩
  have NW := Lib.hid (mk_New hl ((w.alloc (.cells (hdrC p a u b) 28)).alloc zeroH))
  have hgz : ((w.alloc (.cells (hdrC p a u b) 28)).alloc zeroH).heap.size = g := by rw [← hg]; simp
  rw [hgz] at NW
  have hgs : w.heap.size + 2 ≤ g := by omega
  have hgH : H g = none := hH.none_of_ge (by omega)
  have hHg := Lib.hid hgz
  clear hgz hg
  go_enter Tryd.func7, Tryd.ntmps7
  go_wp2_with fail
  refine NW.out.mono ?_
  rintro e w1 ⟨rfl, hdk, hb1⟩
  have hb1 : Below ((w.alloc (.cells (hdrC p a u b) 28)).alloc zeroH).heap.size ((w.alloc (.cells (hdrC p a u b) 28)).alloc zeroH) w1 := by rw [hHg.out]; exact hb1
  have hG1 := hG.below_ hb1
  have hB1 := hB.below hb1
  have hT1 := hT.below hb1
  have hD1 : DeckIn w1 g H := ⟨hdk, hG1.holds, hgH⟩
  have N9 := Lib.hid (deck_Next w1 hD1 9 (by omega) (by omega))
  clear hdk hb1 hG hB hT
  go_wp2_with fail
  refine N9.out.mono ?_
  rintro e w2 ⟨q, rfl, hq, hd2⟩
  have BB := hB1.dealt hd2 (by omega)
  have hT2 := hT1.dealt hd2 (by omega)
  have hG2 := Dealt.toGrows hG1 hd2 (by omega)
  clear N9
  by_cases h8 : q = 8
  · subst h8
    have k0 := BB.cell 0 rfl
    have k1 := BB.cell 1 rfl
    have k2 := BB.cell 2 rfl
    have k3 := BB.cell 3 rfl
    have k4 := BB.cell 4 rfl
    have k5 := BB.cell 5 rfl
    have k6 := BB.cell 6 rfl
    have k7 := BB.cell 7 rfl
    go_upto_region 3 with fail
    go_wp2_with (with_reducible refine stop_store ?_)
    unfold Stopped
    refine wpList_store_item rfl _ _ _ rfl rfl _ _ rfl rfl _ _ hT2 size_hdr rfl (hdr_one _ _ _ _) fun w3 hT3 hg3 => ?_
    have hG3 := hG2.grownOwn hn0 (by omega) hg3
    go_wp2_with fail
    refine ret_row rfl rfl hT3 rfl rfl size_hdr rfl ?_
    exact ⟨p, u, a, b, H, rfl, hG3, hp, hu⟩
  · have b8 : ((q : Int) == 8) = false := by rw [beq_eq_false_iff_ne]; omega
    have hR := Blk.new w2 3 #[.int .i64 10, .int .i64 30, .int .i64 5, .int .i64 4, .int .i64 (-8), .int .i64 0]
    have hd3 := hd2.alloc (.cells #[.int .i64 10, .int .i64 30, .int .i64 5, .int .i64 4, .int .i64 (-8), .int .i64 0] 3)
    have hT3 := hT2.alloc (.cells #[.int .i64 10, .int .i64 30, .int .i64 5, .int .i64 4, .int .i64 (-8), .int .i64 0] 3)
    have N6 := Lib.hid (deck_Next _ hd3.deck 6 (by omega) (by omega))
    clear h8
    go_wp2_with fail
    refine N6.out.mono ?_
    rintro e w4 ⟨j, rfl, hj, hd4⟩
    have hR4 := hR.dealt hd4 (by have := hd2.size; have := hD1.deck.lt; omega)
    obtain ⟨v, hc, hP⟩ := hR4.pick isI64 (by kernel_rfl) j (by simp; omega)
    obtain ⟨nn, rfl, hnn⟩ := isI64_spec hP
    have hT4 := hT3.dealt hd4 (by omega)
    have hd5 := hd3.trans hd4
    have hnT5 := hd5.hid hn0 hT1.lt
    have HD := Lib.hid (mk_Headers hTab w4 hd5.deck nn hnn.1 hnn.2)
    clear N6 hR hR4 hP hd2 hd3 hd4 hT2 hT3 BB hB1
    go_wp2_with fail
    refine HD.out.mono ?_
    rintro e w6 ⟨p', u', a', b', H', rfl, hd6, hp', hu', _⟩
    have hT6 := hT4.dealt hd6 (by omega)
    have hn6 := hd6.hid hnT5 hT4.lt
    have hG6 := Dealt.toGrows hG1 (hd5.trans hd6) (by omega)
    clear HD hc hd5 hd6 hT4 hG1 hG2
    go_wp2_with (with_reducible refine stop_store ?_)
    unfold Stopped
    refine wpList_store_item rfl _ _ _ rfl rfl _ _ rfl rfl _ _ hT6 size_hdr rfl (hdr_one _ _ _ _) fun w7 hT7 hg7 => ?_
    have hG7 := hG6.grownOwn hn6 (by omega) hg7
    go_wp2_with fail
    refine ret_row rfl rfl hT7 rfl rfl size_hdr rfl ?_
    exact ⟨p', u', a', b', H', rfl, hG7, hp', hu'⟩
end Go.Proofs.YtdbhgngikglmcaaDoor
