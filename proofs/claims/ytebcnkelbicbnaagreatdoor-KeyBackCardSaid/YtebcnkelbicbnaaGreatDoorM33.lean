/- Walks: the comparison of two valid items by the program; the state of the reading of a key. -/
import Derived.Test.YtebcnkelbicbnaaGreatDoorM32
import Derived.Test.YtebcnkelbicbnaaGreatDoorM18
import Derived.Test.YtebcnkelbicbnaaGreatDoorM02
set_option linter.unusedVariables false
set_option linter.unusedSimpArgs false
namespace Go.Proofs.YtebcnkelbicbnaaGreatDoor
open Go.RowKit

set_option maxRecDepth 100000 in
set_option maxHeartbeats 12800000 in
/-- Cmp of two valid items. -/
theorem cbor_Cmp {H : Snap} (hTab : Tabs H) {x y : Itm} {xa : Option Addr} {xb : Nat} {xc : Option Addr} {xd : Nat} {ya : Option Addr} {yb : Nat} {yc : Option Addr} {yd : Nat} (hx : IsItem H xa xb xc xd x) (hy : IsItem H ya yb yc yd y)
    (hvx : validP x = true) (hvy : validP y = true) (w : World) (hH : Holds w H) :
    Calls Tryz.prog 43 #[itemV x xa xb xc xd, itemV y ya yb yc yd] w fun e w' => e = .returned (.int .i64 (Lib.compareBytes (encB x) (encB y))) ∧ Below w.heap.size w w' := by
  have hX := (Blk.new w 26 #[.int .i64 x.kind, .int .u64 x.n, .slice xa x.bytes.length xb, .slice xc x.items.length xd]).alloc (itemO y ya yb yc yd)
  have hY := Blk.new (w.alloc (itemO x xa xb xc xd)) 26 #[.int .i64 y.kind, .int .u64 y.n, .slice ya y.bytes.length yb, .slice yc y.items.length yd]
  rw [size_alloc] at hY
  have hG := ((Grows.refl hH).alloc (itemO x xa xb xc xd)).alloc (itemO y ya yb yc yd)
  have HV := Lib.hid (And.intro hvx hvy)
  have HX := Lib.hid (And.intro (validP_spec hvx) (validP_spec hvy))
  have HT := Lib.hid hTab
  have HI := Lib.hid (And.intro hx hy)
  have a0 := hX.cell 0 rfl
  have a1 := hX.cell 1 rfl
  have a2 := hX.cell 2 rfl
  have a3 := hX.cell 3 rfl
  clear hvx hvy hTab hx hy hH
  go_enter Tryz.func43, Tryz.ntmps43
  go_wp2_with fail
  refine (cbor_Valid HT.out HI.out.1.arg _ hG.holds).mono ?_
  rintro e w1 ⟨rfl, hb1⟩
  rw [HV.out.1]
  replace hX := hX.below hb1
  replace hY := hY.below hb1
  replace hG := hG.below_ hb1
  clear hb1 a0 a1 a2 a3
  have b0 := hY.cell 0 rfl
  have b1 := hY.cell 1 rfl
  have b2 := hY.cell 2 rfl
  have b3 := hY.cell 3 rfl
  go_wp2_with fail
  refine (cbor_Valid HT.out HI.out.2.arg _ hG.holds).mono ?_
  rintro e w2 ⟨rfl, hb2⟩
  rw [HV.out.2]
  replace hX := hX.below hb2
  replace hY := hY.below hb2
  replace hG := hG.below_ hb2
  clear hb2 b0 b1 b2 b3
  go_upto_region 3 with fail
  replace hX := hX.drew
  replace hY := hY.drew
  replace hG := hG.drew
  refine wp_region_waysZ 5 (fun wx => (wx.cell? ⟨w.heap.size, 0, none⟩ = some (.int .i64 x.kind) ∧ wx.cell? ⟨w.heap.size, 1, none⟩ = some (.int .u64 x.n) ∧ wx.cell? ⟨w.heap.size, 2, none⟩ = some (.slice xa x.bytes.length xb) ∧ wx.cell? ⟨w.heap.size, 3, none⟩ = some (.slice xc x.items.length xd)) ∧ (wx.cell? ⟨w.heap.size + 1, 0, none⟩ = some (.int .i64 y.kind) ∧ wx.cell? ⟨w.heap.size + 1, 1, none⟩ = some (.int .u64 y.n) ∧ wx.cell? ⟨w.heap.size + 1, 2, none⟩ = some (.slice ya y.bytes.length yb) ∧ wx.cell? ⟨w.heap.size + 1, 3, none⟩ = some (.slice yc y.items.length yd))) (by kernel_rfl) (⟨⟨hX.cell 0 rfl, hX.cell 1 rfl, hX.cell 2 rfl, hX.cell 3 rfl⟩, ⟨hY.cell 0 rfl, hY.cell 1 rfl, hY.cell 2 rfl, hY.cell 3 rfl⟩⟩) (fun hHeld => ?_)
  refine WaysZ.take (i := 0) (v := ?_) rfl (by kernel_rfl) (fun _ _ _ h => h) (Or.inl ⟨by rfl, ?_⟩) hHeld ?_
  rotate_left
  · (intro w hSw; (try dsimp only at hSw); go_simp; try with_reducible rfl)
  try simp only [Act.put, List.getElem_toArray, List.getElem_cons_zero, List.getElem_cons_succ, List.setIfInBounds_toArray, List.set_cons_zero, List.set_cons_succ]
  refine WaysZ.take (i := 2) (v := ?_) rfl (by kernel_rfl) (fun _ _ _ h => h) (Or.inl ⟨by rfl, ?_⟩) hHeld ?_
  rotate_left
  · (intro w hSw; (try dsimp only at hSw); go_simp; try with_reducible rfl)
  try simp only [Act.put, List.getElem_toArray, List.getElem_cons_zero, List.getElem_cons_succ, List.setIfInBounds_toArray, List.set_cons_zero, List.set_cons_succ]
  refine WaysZ.one (i := 1) rfl (by kernel_rfl) (fun K hK => ?_)
  go_simp
  refine (cbor_add x H _ _ _ _ _ _ _ _ _ _ (.slice none 0 0) [] HX.out.1.1 HI.out.1.arg hG.holds (OwnB.nil _ _) (Nat.le_refl _) (by simp [Value.ownBlock]) (by have := HX.out.1.2.2; simp; omega)).mono ?_
  rintro e w5 ⟨r5, rfl, hO5, hg5, hjk⟩
  have hb5 := grown_none hg5
  obtain ⟨A5, c5, rfl, hl5, hm5, hs5⟩ := OwnB.form hO5
  replace hX := hX.below hb5
  replace hY := hY.below hb5
  replace hG := hG.below_ hb5
  clear hO5 hg5 hb5 hjk hl5 hm5
  refine hK.out _ _ (fun _ => ?_) (fun hHeld => ?_)
  · exact ⟨⟨hX.cell 0 rfl, hX.cell 1 rfl, hX.cell 2 rfl, hX.cell 3 rfl⟩, ⟨hY.cell 0 rfl, hY.cell 1 rfl, hY.cell 2 rfl, hY.cell 3 rfl⟩⟩
  clear hK K
  have hHeld := hHeld (by decide)
  try simp only [Act.put, List.getElem_toArray, List.getElem_cons_zero, List.getElem_cons_succ, List.setIfInBounds_toArray, List.set_cons_zero, List.set_cons_succ]
  refine WaysZ.one (i := 3) rfl (by kernel_rfl) (fun K hK => ?_)
  go_simp
  refine (cbor_add y H _ _ _ _ _ _ _ _ _ _ (.slice none 0 0) [] HX.out.2.1 HI.out.2.arg hG.holds (OwnB.nil _ _) (Nat.le_refl _) (by simp [Value.ownBlock]) (by have := HX.out.2.2.2; simp; omega)).mono ?_
  rintro e w6 ⟨r6, rfl, hO6, hg6, hjk⟩
  have hb6 := grown_none hg6
  obtain ⟨A6, c6, rfl, hl6, hm6, hs6⟩ := OwnB.form hO6
  replace hX := hX.below hb6
  replace hY := hY.below hb6
  replace hs5 := hs5.below hb6
  replace hG := hG.below_ hb6
  clear hO6 hg6 hb6 hjk hl6 hm6
  refine hK.out _ _ (fun _ => ?_) (fun hHeld => ?_)
  · exact ⟨⟨hX.cell 0 rfl, hX.cell 1 rfl, hX.cell 2 rfl, hX.cell 3 rfl⟩, ⟨hY.cell 0 rfl, hY.cell 1 rfl, hY.cell 2 rfl, hY.cell 3 rfl⟩⟩
  clear hK K
  have hHeld := hHeld (by decide)
  try simp only [Act.put, List.getElem_toArray, List.getElem_cons_zero, List.getElem_cons_succ, List.setIfInBounds_toArray, List.set_cons_zero, List.set_cons_succ]
  refine WaysZ.one (i := 4) rfl (by kernel_rfl) (fun K hK => ?_)
  go_simp
  refine (bytes_Compare _ A5 A6 (encB x) (encB y) _ _ c5 c6 rfl rfl hs5 hs6).mono ?_
  rintro e w7 ⟨rfl, rfl⟩
  refine hK.out _ _ (fun _ => ?_) (fun hHeld => ?_)
  · exact ⟨⟨hX.cell 0 rfl, hX.cell 1 rfl, hX.cell 2 rfl, hX.cell 3 rfl⟩, ⟨hY.cell 0 rfl, hY.cell 1 rfl, hY.cell 2 rfl, hY.cell 3 rfl⟩⟩
  clear hK K
  have hHeld := hHeld (by decide)
  try simp only [Act.put, List.getElem_toArray, List.getElem_cons_zero, List.getElem_cons_succ, List.setIfInBounds_toArray, List.set_cons_zero, List.set_cons_succ]
  refine WaysZ.one (i := 5) rfl (by kernel_rfl) (fun K hK => ?_)
  go_simp
  refine hK.out _ _ (fun h => absurd h (by decide)) (fun _ => ?_)
  clear hK K
  try simp only [Act.put, List.getElem_toArray, List.getElem_cons_zero, List.getElem_cons_succ, List.setIfInBounds_toArray, List.set_cons_zero, List.set_cons_succ]
  refine WaysZ.done (by kernel_rfl) ?_
  clear hHeld
  go_wp2_with fail
  go_ret
  exact ⟨rfl, hG.below⟩
theorem KN.far {W0 w w' : World} {H Hr : Snap} {R K b : Nat} {kc : Array Value} (h : KN W0 H R K kc w Hr) (hg : w.grownBy w' (some b)) (hn : Hr b = none) (hb : W0.heap.size ≤ b) (h1 : b ≠ R) (h2 : b ≠ K) : KN W0 H R K kc w' Hr :=
  ⟨h.grows.grownOwn hn hb hg, h.res.grown hg (fun e => by injection e with e; exact h1 e), h.key.grown hg (fun e => by injection e with e; exact h2 e), h.hR, h.hK, h.neRK, h.wR, h.wK⟩
def ents1 (K : Nat) : List (Int × Value) := [(1, .pointer (some ⟨K, 0, none⟩)), (3, .pointer (some ⟨K, 2, none⟩)), (-1, .pointer (some ⟨K, 1, none⟩))]
def ents2 (K : Nat) : List (Int × Value) := [(2, .pointer (some ⟨K, 3, none⟩)), (-1, .pointer (some ⟨K, 6, none⟩)), (-2, .pointer (some ⟨K, 4, none⟩)), (-4, .pointer (some ⟨K, 5, none⟩))]
/-- The state of the reading: the item's box, the key that is filled, two maps of pointers into it. -/
structure FM (W0 : World) (H : Snap) (R K M1 M2 : Nat) (xc kc : Array Value) (w : World) (Hr : Snap) : Prop where
  kn : KN W0 H R K kc w Hr
  box : Blk w W0.heap.size 26 xc
  m1 : MapIs w M1 (ents1 K)
  m2 : MapIs w M2 (ents2 K)
  n1 : K ≠ M1
  n2 : K ≠ M2
  nb : K ≠ W0.heap.size
section
variable {W0 w w' : World} {H Hr Hs : Snap} {R K M1 M2 : Nat} {xc kc kc' : Array Value}
theorem FM.grow (h : FM W0 H R K M1 M2 xc kc w Hr) (k : Grows w Hr w' Hs) : FM W0 H R K M1 M2 xc kc w' Hs :=
  ⟨h.kn.grow k, h.box.below k.below, h.m1.below k.below, h.m2.below k.below, h.n1, h.n2, h.nb⟩
theorem FM.below (h : FM W0 H R K M1 M2 xc kc w Hr) (k : Below w.heap.size w w') : FM W0 H R K M1 M2 xc kc w' Hr := h.grow (Grows.of_below h.kn.grows.holds k)
theorem FM.alloc (h : FM W0 H R K M1 M2 xc kc w Hr) (o : Obj) : FM W0 H R K M1 M2 xc kc (w.alloc o) Hr := h.below (below_box w o)
theorem FM.set (h : FM W0 H R K M1 M2 xc kc w Hr) (hB : Blk w' K 33 kc') (hg : w.grownBy w' (some K)) : FM W0 H R K M1 M2 xc kc' w' Hr :=
  ⟨h.kn.set hB hg, h.box.grown hg (fun e => by injection e with e; exact h.nb e), h.m1.grown hg (fun e => by injection e with e; exact h.n1 e), h.m2.grown hg (fun e => by injection e with e; exact h.n2 e), h.n1, h.n2, h.nb⟩
end
end Go.Proofs.YtebcnkelbicbnaaGreatDoor
