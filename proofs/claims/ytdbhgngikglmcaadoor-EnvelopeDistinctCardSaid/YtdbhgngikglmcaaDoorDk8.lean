/- Walks: the deck's headers. -/
import Derived.Test.YtdbhgngikglmcaaDoorDk7
import Derived.Test.YtdbhgngikglmcaaDoorJmem
set_option linter.unusedVariables false
set_option linter.unusedSimpArgs false
namespace Go.Proofs.YtdbhgngikglmcaaDoor
open Go.RowKit

/-- Headers on their way. -/
def HState (w : World) (H : Snap) (alg : Int) (g C B : Nat) (wx : World) : Prop := ∃ (p u : Itm) (a b : Ad) (Hx : Snap), Blk wx C 28 (hdrC p a u b) ∧ Blk wx w.heap.size 28 (hdrC zeroItm ⟨none, 0, none, 0⟩ zeroItm ⟨none, 0, none, 0⟩) ∧ Dealt w H wx Hx g ∧ Hx C = none ∧ Hx w.heap.size = none ∧
  IsItem Hx a.ba a.bc a.ia a.ic p ∧ IsItem Hx b.ba b.bc b.ia b.ic u ∧ Modest p ∧ Modest u ∧ (alg = 10 → validH p u = true ∧ szL p ≤ B ∧ szL u ≤ B)
def HdrSaid (w : World) (H : Snap) (g : Nat) (alg : Int) (e : Ending) (w' : World) : Prop := ∃ (p u : Itm) (a b : Ad) (H' : Snap), e = .returned (.agg (hdrC p a u b)) ∧ Dealt w H w' H' g ∧ IsItem H' a.ba a.bc a.ia a.ic p ∧ IsItem H' b.ba b.bc b.ia b.ic u ∧ Modest p ∧ Modest u ∧
  (alg = 10 → validH p u = true ∧ szL p ≤ 2000)
theorem dealt_new {w w' : World} {H H' : Snap} {g : Nat} (_h : Dealt w H w' H' g) (t : TypeId) (cs : Array Value) : Blk (w'.alloc (.cells cs t)) w'.heap.size t cs := Blk.new _ _ _
theorem modest_empty : Modest emptyM := modest_plain _ _ _ (by simp)
theorem sz_empty : szL emptyM = 0 := by simp [szL, Itm.items, encL]
theorem hdr_one (p u : Itm) (a b : Ad) : (hdrC p a u b).all (·.oneCell') = true := by kernel_rfl
theorem modest_intP (n : Int) : Modest (intP n) := modest_int n
theorem crit_mod : Modest (.mk 4 0 [] [intP 98]) ∧ (encB (.mk 4 0 [] [intP 98])).length ≤ 18 := by
  refine ⟨?_, ?_⟩
  · rw [Modest, ModestL, ModestL]; exact ⟨by simp, by simp, modest_int 98, trivial⟩
  · have h1 := encB_len 4 0 [] [intP 98] (by omega) (by omega)
    have h2 := encB_int 98
    simp only [encL, List.length_append, List.length_nil, List.append_nil] at h1
    omega

set_option maxRecDepth 100000 in
set_option maxHeartbeats 25600000 in
theorem mk_Headers {H : Snap} {g : Nat} (hTab : Tabs H) (w : World) (hD : DeckIn w g H) (alg : Int) (ha1 : -1000 ≤ alg) (ha2 : alg ≤ 1000) :
    Calls Tryd.prog 12 #[.pointer (some ⟨g, 0, none⟩), .int .i64 alg] w (HdrSaid w H g alg) := by
  have hgl := hD.deck.lt
  have hT := Blk.new w 28 (hdrC zeroItm ⟨none, 0, none, 0⟩ zeroItm ⟨none, 0, none, 0⟩)
  have hd0 := hD.grows ((Grows.refl hD.holds).alloc zeroH)
  have hnT : H w.heap.size = none := hD.holds.none_of_ge (Nat.le_refl _)
  have hHw := hD.holds
  have HA := Lib.hid (And.intro ha1 ha2)
  clear hD ha1 ha2
  go_enter Tryd.func12, Tryd.ntmps12
  go_wp2_with fail
  refine (ref12_Empty _).mono ?_
  rintro e w1 ⟨rfl, hb1⟩
  have hT := (hT.below hb1).alloc (.cells (hdrC emptyM ⟨none, 0, none, 0⟩ emptyM ⟨none, 0, none, 0⟩) 28)
  have hd := (hd0.grown (Grows.of_below hd0.holds hb1)).alloc (.cells (hdrC emptyM ⟨none, 0, none, 0⟩ emptyM ⟨none, 0, none, 0⟩) 28)
  have hC := Blk.new w1 28 (hdrC emptyM ⟨none, 0, none, 0⟩ emptyM ⟨none, 0, none, 0⟩)
  have hw1 : w.heap.size < w1.heap.size := by have := hb1.size; simp only [size_alloc] at this; omega
  have hnC : H w1.heap.size = none := hHw.none_of_ge (by omega)
  clear hb1 hd0 hHw
  go_upto_if 15 with fail
  go_cut [15] (fun s15 wx => HState w H alg g w1.heap.size 18 wx)
  case first =>
    by_cases ha : alg = 0
    · subst ha
      go_wp2_with fail
      go_meet
      exact ⟨emptyM, emptyM, _, _, H, hC, hT, hd, hnC, hnT, IsItem.plain _ 5 0 (by omega) (by omega), IsItem.plain _ 5 0 (by omega) (by omega), modest_empty, modest_empty, fun h => by cases h⟩
    · have b1 : (alg != 0) = true := by simp [ha]
      have p1 : (alg = 0) = False := eq_false ha
      clear ha
      go_upto_region 3 with fail
      have hC := hC.drew
      have hT := hT.drew
      have hd := hd.drew
      refine wp_region_ways 10 (fun _ => True) (by kernel_rfl) (trivial) (fun hHeld => ?_)
      refine Ways.takeT (i := 1) (v := ?_) rfl (by kernel_rfl) (fun _ _ _ h => h) (Or.inl ⟨by rfl, ?_⟩) ?_
      rotate_left
      · (intro w hSw; go_simp; try with_reducible rfl)
      try simp only [Act.put, List.getElem_toArray, List.getElem_cons_zero, List.getElem_cons_succ, List.setIfInBounds_toArray, List.set_cons_zero, List.set_cons_succ]
      refine Ways.takeT (i := 4) (v := ?_) rfl (by kernel_rfl) (fun _ _ _ h => h) (Or.inl ⟨by rfl, ?_⟩) ?_
      rotate_left
      · (intro w hSw; go_simp; try with_reducible rfl)
      try simp only [Act.put, List.getElem_toArray, List.getElem_cons_zero, List.getElem_cons_succ, List.setIfInBounds_toArray, List.set_cons_zero, List.set_cons_succ]
      refine Ways.two (i := 0) (j := 2) rfl rfl (by kernel_rfl) (fun K hK => ?_) (fun K hK => ?_)
      · have k0 := hC.cell 0 rfl
        have k1 := hC.cell 1 rfl
        have k2 := hC.cell 2 rfl
        have k3 := hC.cell 3 rfl
        have k4 := hC.cell 4 rfl
        have k5 := hC.cell 5 rfl
        have k6 := hC.cell 6 rfl
        have k7 := hC.cell 7 rfl
        go_simp
        refine hK.out _ _ (fun _ => ?_) (fun hHeld => ?_)
        · exact trivial
        clear hK K
        have hHeld := hHeld (by decide)
        try simp only [Act.put, List.getElem_toArray, List.getElem_cons_zero, List.getElem_cons_succ, List.setIfInBounds_toArray, List.set_cons_zero, List.set_cons_succ]
        refine Ways.one (i := 2) rfl (by kernel_rfl) (fun K hK => ?_)
        go_simp
        refine (deck_Next _ hd.deck 4 (by omega) (by omega)).mono ?_
        rintro e w3 ⟨q, rfl, hq, hd3⟩
        have hC := hC.dealt hd3 (by omega)
        have hT := hT.dealt hd3 (by omega)
        have hd := hd.trans hd3
        refine hK.out _ _ (fun _ => ?_) (fun hHeld => ?_)
        · exact trivial
        clear hK K
        have hHeld := hHeld (by decide)
        try simp only [Act.put, List.getElem_toArray, List.getElem_cons_zero, List.getElem_cons_succ, List.setIfInBounds_toArray, List.set_cons_zero, List.set_cons_succ]
        refine Ways.takeT (i := 3) (v := ?_) rfl (by kernel_rfl) (fun _ _ _ h => h) (Or.inl ⟨by rfl, ?_⟩) ?_
        rotate_left
        · (intro w hSw; go_simp; try with_reducible rfl)
        try simp only [Act.put, List.getElem_toArray, List.getElem_cons_zero, List.getElem_cons_succ, List.setIfInBounds_toArray, List.set_cons_zero, List.set_cons_succ]
        refine Ways.one (i := 5) rfl (by kernel_rfl) (fun K hK => ?_)
        go_simp
        refine (ref_Int alg (by have := HA.out; omega) (by have := HA.out; omega) _ hd.holds).mono ?_
        rintro e w4 ⟨v4, rfl, ja, jb, jc, jd, H4, rfl, hG4, hi4⟩
        have hnT := hG4.none hnT hT.lt
        have hnC := hG4.none hnC hC.lt
        have hC := hC.below hG4.below
        have hT := hT.below hG4.below
        have hd := hd.grown hG4
        refine hK.out _ _ (fun _ => ?_) (fun hHeld => ?_)
        · exact trivial
        clear hK K
        have hHeld := hHeld (by decide)
        try simp only [Act.put, List.getElem_toArray, List.getElem_cons_zero, List.getElem_cons_succ, List.setIfInBounds_toArray, List.set_cons_zero, List.set_cons_succ]
        refine Ways.one (i := 6) rfl (by kernel_rfl) (fun K hK => ?_)
        go_simp
        refine (ref12_Put (hTab.mono hd.le) (p := emptyM) (u := emptyM) (a := ⟨none, 0, none, 0⟩) (b := ⟨none, 0, none, 0⟩) (d := ⟨ja, jb, jc, jd⟩) (IsItem.plain _ 5 0 (by omega) (by omega)) (IsItem.plain _ 5 0 (by omega) (by omega)) hi4 _ 1 (by omega) (by omega) _ hd.holds).mono ?_
        rintro e w6 ⟨p', u', val, c, rfl, ⟨a', b', H6, rfl, hG6, hp', hu'⟩, hc0, hmp', hmu', hex⟩
        have hnT := hG6.none hnT hT.lt
        have hnC := hG6.none hnC hC.lt
        have hC := hC.below hG6.below
        have hT := hT.below hG6.below
        have hd := hd.grown hG6
        refine hK.out _ _ (fun _ => ?_) (fun hHeld => ?_)
        · exact trivial
        clear hK K
        have hHeld := hHeld (by decide)
        try simp only [Act.put, List.getElem_toArray, List.getElem_cons_zero, List.getElem_cons_succ, List.setIfInBounds_toArray, List.set_cons_zero, List.set_cons_succ]
        refine Ways.takeT (i := 7) (v := ?_) rfl (by kernel_rfl) (fun _ _ _ h => h) (Or.inl ⟨by rfl, ?_⟩) ?_
        rotate_left
        · (intro w hSw; go_simp; try with_reducible rfl)
        try simp only [Act.put, List.getElem_toArray, List.getElem_cons_zero, List.getElem_cons_succ, List.setIfInBounds_toArray, List.set_cons_zero, List.set_cons_succ]
        refine Ways.takeT (i := 8) (v := ?_) rfl (by kernel_rfl) (fun _ _ _ h => h) (Or.inl ⟨by rfl, ?_⟩) ?_
        rotate_left
        · (intro w hSw; go_simp; try with_reducible rfl)
        try simp only [Act.put, List.getElem_toArray, List.getElem_cons_zero, List.getElem_cons_succ, List.setIfInBounds_toArray, List.set_cons_zero, List.set_cons_succ]
        refine Ways.takeT (i := 9) (v := ?_) rfl (by kernel_rfl) (fun _ _ _ h => h) (Or.inl ⟨by rfl, ?_⟩) ?_
        rotate_left
        · (intro w hSw; go_simp; try with_reducible rfl)
        try simp only [Act.put, List.getElem_toArray, List.getElem_cons_zero, List.getElem_cons_succ, List.setIfInBounds_toArray, List.set_cons_zero, List.set_cons_succ]
        refine Ways.one (i := 10) rfl (by kernel_rfl) (fun K hK => ?_)
        rw [if_pos (by rfl)]
        refine wp_store_item _ _ _ rfl _ _ rfl rfl _ _ hC size_hdr rfl (hdr_one _ _ _ _) fun w7 hC hg7 => ?_
        have hT := hT.grown hg7 (by intro e; injection e with e; omega)
        have hd := hd.grownRow (row := some w1.heap.size) (by rintro q ⟨⟩; exact hnC) (by rintro q ⟨⟩; omega) hgl hg7
        refine hK.out _ _ (fun h => absurd rfl h) (fun _ => ?_)
        clear hK K
        try simp only [Act.put, List.getElem_toArray, List.getElem_cons_zero, List.getElem_cons_succ, List.setIfInBounds_toArray, List.set_cons_zero, List.set_cons_succ]
        refine Ways.done (by kernel_rfl) ?_
        go_wp2_with fail
        go_meet
        refine ⟨p', u', a', b', H6, hC, hT, hd, hnC, hnT, hp', hu', hmp', hmu', fun h10 => ?_⟩
        obtain ⟨hv, hs1, hs2⟩ := hc0 (hex (by first | trivial | rfl) (by first | trivial | rfl) (by first | trivial | rfl) (by rw [h10]))
        have he := encB_int alg
        have he0 := sz_empty
        exact ⟨hv, by omega, by omega⟩
      · go_simp
        refine (deck_Next _ hd.deck 4 (by omega) (by omega)).mono ?_
        rintro e w3 ⟨q, rfl, hq, hd3⟩
        have hC := hC.dealt hd3 (by omega)
        have hT := hT.dealt hd3 (by omega)
        have hd := hd.trans hd3
        refine hK.out _ _ (fun _ => ?_) (fun hHeld => ?_)
        · exact trivial
        clear hK K
        have hHeld := hHeld (by decide)
        try simp only [Act.put, List.getElem_toArray, List.getElem_cons_zero, List.getElem_cons_succ, List.setIfInBounds_toArray, List.set_cons_zero, List.set_cons_succ]
        refine Ways.takeT (i := 3) (v := ?_) rfl (by kernel_rfl) (fun _ _ _ h => h) (Or.inl ⟨by rfl, ?_⟩) ?_
        rotate_left
        · (intro w hSw; go_simp; try with_reducible rfl)
        try simp only [Act.put, List.getElem_toArray, List.getElem_cons_zero, List.getElem_cons_succ, List.setIfInBounds_toArray, List.set_cons_zero, List.set_cons_succ]
        refine Ways.two (i := 0) (j := 5) rfl rfl (by kernel_rfl) (fun K hK => ?_) (fun K hK => ?_)
        · have k0 := hC.cell 0 rfl
          have k1 := hC.cell 1 rfl
          have k2 := hC.cell 2 rfl
          have k3 := hC.cell 3 rfl
          have k4 := hC.cell 4 rfl
          have k5 := hC.cell 5 rfl
          have k6 := hC.cell 6 rfl
          have k7 := hC.cell 7 rfl
          go_simp
          refine hK.out _ _ (fun _ => ?_) (fun hHeld => ?_)
          · exact trivial
          clear hK K
          have hHeld := hHeld (by decide)
          try simp only [Act.put, List.getElem_toArray, List.getElem_cons_zero, List.getElem_cons_succ, List.setIfInBounds_toArray, List.set_cons_zero, List.set_cons_succ]
          refine Ways.one (i := 5) rfl (by kernel_rfl) (fun K hK => ?_)
          go_simp
          refine (ref_Int alg (by have := HA.out; omega) (by have := HA.out; omega) _ hd.holds).mono ?_
          rintro e w4 ⟨v4, rfl, ja, jb, jc, jd, H4, rfl, hG4, hi4⟩
          have hnT := hG4.none hnT hT.lt
          have hnC := hG4.none hnC hC.lt
          have hC := hC.below hG4.below
          have hT := hT.below hG4.below
          have hd := hd.grown hG4
          refine hK.out _ _ (fun _ => ?_) (fun hHeld => ?_)
          · exact trivial
          clear hK K
          have hHeld := hHeld (by decide)
          try simp only [Act.put, List.getElem_toArray, List.getElem_cons_zero, List.getElem_cons_succ, List.setIfInBounds_toArray, List.set_cons_zero, List.set_cons_succ]
          refine Ways.one (i := 6) rfl (by kernel_rfl) (fun K hK => ?_)
          go_simp
          refine (ref12_Put (hTab.mono hd.le) (p := emptyM) (u := emptyM) (a := ⟨none, 0, none, 0⟩) (b := ⟨none, 0, none, 0⟩) (d := ⟨ja, jb, jc, jd⟩) (IsItem.plain _ 5 0 (by omega) (by omega)) (IsItem.plain _ 5 0 (by omega) (by omega)) hi4 _ 1 (by omega) (by omega) _ hd.holds).mono ?_
          rintro e w6 ⟨p', u', val, c, rfl, ⟨a', b', H6, rfl, hG6, hp', hu'⟩, hc0, hmp', hmu', hex⟩
          have hnT := hG6.none hnT hT.lt
          have hnC := hG6.none hnC hC.lt
          have hC := hC.below hG6.below
          have hT := hT.below hG6.below
          have hd := hd.grown hG6
          refine hK.out _ _ (fun _ => ?_) (fun hHeld => ?_)
          · exact trivial
          clear hK K
          have hHeld := hHeld (by decide)
          try simp only [Act.put, List.getElem_toArray, List.getElem_cons_zero, List.getElem_cons_succ, List.setIfInBounds_toArray, List.set_cons_zero, List.set_cons_succ]
          refine Ways.takeT (i := 7) (v := ?_) rfl (by kernel_rfl) (fun _ _ _ h => h) (Or.inl ⟨by rfl, ?_⟩) ?_
          rotate_left
          · (intro w hSw; go_simp; try with_reducible rfl)
          try simp only [Act.put, List.getElem_toArray, List.getElem_cons_zero, List.getElem_cons_succ, List.setIfInBounds_toArray, List.set_cons_zero, List.set_cons_succ]
          refine Ways.takeT (i := 8) (v := ?_) rfl (by kernel_rfl) (fun _ _ _ h => h) (Or.inl ⟨by rfl, ?_⟩) ?_
          rotate_left
          · (intro w hSw; go_simp; try with_reducible rfl)
          try simp only [Act.put, List.getElem_toArray, List.getElem_cons_zero, List.getElem_cons_succ, List.setIfInBounds_toArray, List.set_cons_zero, List.set_cons_succ]
          refine Ways.takeT (i := 9) (v := ?_) rfl (by kernel_rfl) (fun _ _ _ h => h) (Or.inl ⟨by rfl, ?_⟩) ?_
          rotate_left
          · (intro w hSw; go_simp; try with_reducible rfl)
          try simp only [Act.put, List.getElem_toArray, List.getElem_cons_zero, List.getElem_cons_succ, List.setIfInBounds_toArray, List.set_cons_zero, List.set_cons_succ]
          refine Ways.one (i := 10) rfl (by kernel_rfl) (fun K hK => ?_)
          rw [if_pos (by rfl)]
          refine wp_store_item _ _ _ rfl _ _ rfl rfl _ _ hC size_hdr rfl (hdr_one _ _ _ _) fun w7 hC hg7 => ?_
          have hT := hT.grown hg7 (by intro e; injection e with e; omega)
          have hd := hd.grownRow (row := some w1.heap.size) (by rintro q ⟨⟩; exact hnC) (by rintro q ⟨⟩; omega) hgl hg7
          refine hK.out _ _ (fun h => absurd rfl h) (fun _ => ?_)
          clear hK K
          try simp only [Act.put, List.getElem_toArray, List.getElem_cons_zero, List.getElem_cons_succ, List.setIfInBounds_toArray, List.set_cons_zero, List.set_cons_succ]
          refine Ways.done (by kernel_rfl) ?_
          go_wp2_with fail
          go_meet
          refine ⟨p', u', a', b', H6, hC, hT, hd, hnC, hnT, hp', hu', hmp', hmu', fun h10 => ?_⟩
          obtain ⟨hv, hs1, hs2⟩ := hc0 (hex (by first | trivial | rfl) (by first | trivial | rfl) (by first | trivial | rfl) (by rw [h10]))
          have he := encB_int alg
          have he0 := sz_empty
          exact ⟨hv, by omega, by omega⟩
        · go_simp
          refine (ref_Int alg (by have := HA.out; omega) (by have := HA.out; omega) _ hd.holds).mono ?_
          rintro e w4 ⟨v4, rfl, ja, jb, jc, jd, H4, rfl, hG4, hi4⟩
          have hnT := hG4.none hnT hT.lt
          have hnC := hG4.none hnC hC.lt
          have hC := hC.below hG4.below
          have hT := hT.below hG4.below
          have hd := hd.grown hG4
          refine hK.out _ _ (fun _ => ?_) (fun hHeld => ?_)
          · exact trivial
          clear hK K
          have hHeld := hHeld (by decide)
          try simp only [Act.put, List.getElem_toArray, List.getElem_cons_zero, List.getElem_cons_succ, List.setIfInBounds_toArray, List.set_cons_zero, List.set_cons_succ]
          refine Ways.one (i := 0) rfl (by kernel_rfl) (fun K hK => ?_)
          have k0 := hC.cell 0 rfl
          have k1 := hC.cell 1 rfl
          have k2 := hC.cell 2 rfl
          have k3 := hC.cell 3 rfl
          have k4 := hC.cell 4 rfl
          have k5 := hC.cell 5 rfl
          have k6 := hC.cell 6 rfl
          have k7 := hC.cell 7 rfl
          go_simp
          refine hK.out _ _ (fun _ => ?_) (fun hHeld => ?_)
          · exact trivial
          clear hK K
          have hHeld := hHeld (by decide)
          try simp only [Act.put, List.getElem_toArray, List.getElem_cons_zero, List.getElem_cons_succ, List.setIfInBounds_toArray, List.set_cons_zero, List.set_cons_succ]
          refine Ways.one (i := 6) rfl (by kernel_rfl) (fun K hK => ?_)
          go_simp
          refine (ref12_Put (hTab.mono hd.le) (p := emptyM) (u := emptyM) (a := ⟨none, 0, none, 0⟩) (b := ⟨none, 0, none, 0⟩) (d := ⟨ja, jb, jc, jd⟩) (IsItem.plain _ 5 0 (by omega) (by omega)) (IsItem.plain _ 5 0 (by omega) (by omega)) hi4 _ 1 (by omega) (by omega) _ hd.holds).mono ?_
          rintro e w6 ⟨p', u', val, c, rfl, ⟨a', b', H6, rfl, hG6, hp', hu'⟩, hc0, hmp', hmu', hex⟩
          have hnT := hG6.none hnT hT.lt
          have hnC := hG6.none hnC hC.lt
          have hC := hC.below hG6.below
          have hT := hT.below hG6.below
          have hd := hd.grown hG6
          refine hK.out _ _ (fun _ => ?_) (fun hHeld => ?_)
          · exact trivial
          clear hK K
          have hHeld := hHeld (by decide)
          try simp only [Act.put, List.getElem_toArray, List.getElem_cons_zero, List.getElem_cons_succ, List.setIfInBounds_toArray, List.set_cons_zero, List.set_cons_succ]
          refine Ways.takeT (i := 7) (v := ?_) rfl (by kernel_rfl) (fun _ _ _ h => h) (Or.inl ⟨by rfl, ?_⟩) ?_
          rotate_left
          · (intro w hSw; go_simp; try with_reducible rfl)
          try simp only [Act.put, List.getElem_toArray, List.getElem_cons_zero, List.getElem_cons_succ, List.setIfInBounds_toArray, List.set_cons_zero, List.set_cons_succ]
          refine Ways.takeT (i := 8) (v := ?_) rfl (by kernel_rfl) (fun _ _ _ h => h) (Or.inl ⟨by rfl, ?_⟩) ?_
          rotate_left
          · (intro w hSw; go_simp; try with_reducible rfl)
          try simp only [Act.put, List.getElem_toArray, List.getElem_cons_zero, List.getElem_cons_succ, List.setIfInBounds_toArray, List.set_cons_zero, List.set_cons_succ]
          refine Ways.takeT (i := 9) (v := ?_) rfl (by kernel_rfl) (fun _ _ _ h => h) (Or.inl ⟨by rfl, ?_⟩) ?_
          rotate_left
          · (intro w hSw; go_simp; try with_reducible rfl)
          try simp only [Act.put, List.getElem_toArray, List.getElem_cons_zero, List.getElem_cons_succ, List.setIfInBounds_toArray, List.set_cons_zero, List.set_cons_succ]
          refine Ways.one (i := 10) rfl (by kernel_rfl) (fun K hK => ?_)
          rw [if_pos (by rfl)]
          refine wp_store_item _ _ _ rfl _ _ rfl rfl _ _ hC size_hdr rfl (hdr_one _ _ _ _) fun w7 hC hg7 => ?_
          have hT := hT.grown hg7 (by intro e; injection e with e; omega)
          have hd := hd.grownRow (row := some w1.heap.size) (by rintro q ⟨⟩; exact hnC) (by rintro q ⟨⟩; omega) hgl hg7
          refine hK.out _ _ (fun h => absurd rfl h) (fun _ => ?_)
          clear hK K
          try simp only [Act.put, List.getElem_toArray, List.getElem_cons_zero, List.getElem_cons_succ, List.setIfInBounds_toArray, List.set_cons_zero, List.set_cons_succ]
          refine Ways.done (by kernel_rfl) ?_
          go_wp2_with fail
          go_meet
          refine ⟨p', u', a', b', H6, hC, hT, hd, hnC, hnT, hp', hu', hmp', hmu', fun h10 => ?_⟩
          obtain ⟨hv, hs1, hs2⟩ := hc0 (hex (by first | trivial | rfl) (by first | trivial | rfl) (by first | trivial | rfl) (by rw [h10]))
          have he := encB_int alg
          have he0 := sz_empty
          exact ⟨hv, by omega, by omega⟩
  case rest =>
    clear hC hT hd hnC hnT
    obtain ⟨p, u, a, b, Hx, hC, hT, hd, hnC, hnT, hp, hu, hmp, hmu, hK⟩ := hcut
    have N3 := Lib.hid (deck_Next wc hd.deck 3 (by omega) (by omega))
    have HK := Lib.hid hK
    clear hK
    go_wp2_with fail
    refine N3.out.mono ?_
    rintro e w2 ⟨n0, rfl, hn0, hd2⟩
    have hC2 := hC.dealt hd2 (by omega)
    have hT2 := hT.dealt hd2 (by omega)
    have hdd := hd.trans hd2
    have hS0 : HState w H alg g w1.heap.size (18 + 252 * (2 - n0)) w2 := ⟨p, u, a, b, Hx, hC2, hT2, hdd, hnC, hnT, hp, hu, hmp, hmu, fun h => by obtain ⟨x1, x2, x3⟩ := HK.out h; exact ⟨x1, by omega, by omega⟩⟩
    clear N3 hd2 hC hT hd hC2 hT2 hdd hnC hnT hp hu hmp hmu HK
    go_wp2_with fail
    go_loopw [6] (fun v6 wx => ∃ kk : Nat, v6 = .int .i64 (kk : Int) ∧ kk ≤ 2 ∧ HState w H alg g w1.heap.size (18 + 252 * (2 - kk)) wx) (fun v6 _ => (intOf v6).toNat)
    case atStart => exact ⟨n0, rfl, by omega, hS0⟩
    case round =>
      clear hS0 hn0
      obtain ⟨kk, rfl, hk2, p, u, a, b, Hx, hC, hT, hd, hnC, hnT, hp, hu, hmp, hmu, hK⟩ := hrel
      have HK := Lib.hid hK
      have HKK := Lib.hid hk2
      clear hK hk2
      by_cases hlt : (0 : Int) < (kk : Int)
      · -- one more parameter
        have hB := Blk.new wr 3 #[.int .i64 4, .int .i64 6, .int .i64 3, .int .i64 99, .int .i64 (-7)]
        have hd3 := hd.alloc (.cells #[.int .i64 4, .int .i64 6, .int .i64 3, .int .i64 99, .int .i64 (-7)] 3)
        have hC3 := hC.alloc (.cells #[.int .i64 4, .int .i64 6, .int .i64 3, .int .i64 99, .int .i64 (-7)] 3)
        have hT3 := hT.alloc (.cells #[.int .i64 4, .int .i64 6, .int .i64 3, .int .i64 99, .int .i64 (-7)] 3)
        have N5 := Lib.hid (deck_Next _ hd3.deck 5 (by omega) (by omega))
        clear hC hT
        go_wp2_with fail
        refine N5.out.mono ?_
        rintro e w4 ⟨j, rfl, hj, hd4⟩
        have hB4 := hB.dealt hd4 (by have := hd.size; omega)
        obtain ⟨v, hc, hP⟩ := hB4.pick isI64 (by kernel_rfl) j (by simp; omega)
        obtain ⟨nn, rfl, hnn⟩ := isI64_spec hP
        have hC4 := hC3.dealt hd4 (by omega)
        have hT4 := hT3.dealt hd4 (by omega)
        have hd5 := hd3.trans hd4
        have HNN := Lib.hid hnn
        have BY := Lib.hid (mk_Bytes w4 hd5.deck 5 (by omega) (by omega))
        clear N5 hB hB4 hP hd hd3 hd4 hnn hC3 hT3
        go_wp2_with fail
        refine BY.out.mono ?_
        rintro e w5 ⟨A, c5, l5, rfl, hl5, H5, hb5, hd6⟩
        have hC5 := hC4.dealt hd6 (by omega)
        have hT5 := hT4.dealt hd6 (by omega)
        have hnC5 := hd6.hid hnC hC4.lt
        have hnT5 := hd6.hid hnT hT4.lt
        have hd7 := hd5.trans hd6
        have hp5 := hp.mono hd6.le
        have hu5 := hu.mono hd6.le
        have RB := Lib.hid (ref_Bytes (A := A) (c := c5) (l := l5) rfl (by omega) w5 (Src.of_row hb5.row hd6.holds) hd6.holds)
        have HL5 := Lib.hid hl5
        clear BY hd5 hd6 hC4 hT4 hnC hnT hp hu hb5 hl5 hc
        go_wp2_with fail
        refine RB.out.mono ?_
        rintro e w6 ⟨v6, rfl, ja, jb, jc, jd, H6, rfl, hG6, hi6⟩
        obtain ⟨Y, hY⟩ : ∃ Y, Itm.mk 2 0 l5 [] = Y := ⟨_, rfl⟩
        rw [hY] at hi6 ⊢
        have HY := Lib.hid (show Modest Y ∧ (encB Y).length ≤ 243 by
          rw [← hY]
          refine ⟨modest_plain _ _ _ (by have := HL5.out; omega), ?_⟩
          have := encB_len 2 0 l5 [] (by omega) (by omega)
          have := HL5.out
          simp [encL] at *
          omega)
        have hC := (hC5.below hG6.below).alloc (itemO Y ja jb jc jd)
        have hT := (hT5.below hG6.below).alloc (itemO Y ja jb jc jd)
        have hV := Blk.new w6 26 #[.int .i64 Y.kind, .int .u64 Y.n, .slice ja Y.bytes.length jb, .slice jc Y.items.length jd]
        have hnC := hG6.none hnC5 hC5.lt
        have hnT := hG6.none hnT5 hT5.lt
        have hw6 : w1.heap.size < w6.heap.size := by have := hC5.lt; have := hG6.size; omega
        have hd := (hd7.grown hG6).alloc (itemO Y ja jb jc jd)
        have hnV : H6 w6.heap.size = none := hG6.holds.none_of_ge (Nat.le_refl _)
        have hp := hp5.mono hG6.le
        have hu := hu5.mono hG6.le
        clear RB hd7 hC5 hT5 hnC5 hnT5 hp5 hu5 hG6 hY
        go_upto_if 41 with fail
        go_cut [41] (fun s41 wx => ∃ (y : Itm) (c : Ad) (H7 : Snap), H6.le H7 ∧ Blk wx w1.heap.size 28 (hdrC p a u b) ∧ Blk wx w.heap.size 28 (hdrC zeroItm ⟨none, 0, none, 0⟩ zeroItm ⟨none, 0, none, 0⟩) ∧ Blk wx w6.heap.size 26 #[.int .i64 y.kind, .int .u64 y.n, .slice c.ba y.bytes.length c.bc, .slice c.ia y.items.length c.ic] ∧
          Dealt w H wx H7 g ∧ H7 w1.heap.size = none ∧ H7 w.heap.size = none ∧ H7 w6.heap.size = none ∧ IsItem H7 c.ba c.bc c.ia c.ic y ∧ Modest y ∧ (encB y).length ≤ 243)
        case first =>
          by_cases h99 : nn = 99
          · subst h99
            have IT := Lib.hid (item_succ 0 (by omega) item_zero _ _ _ (hTab.mono hd.le) hd.deck)
            go_wp2_with fail
            refine IT.out.mono ?_
            rintro e w7 ⟨v7, y, rfl, ⟨ka, kb, kc, kd, H7, rfl, hd7, hi7⟩, hmy, hly⟩
            have hC7 := hC.dealt hd7 (by omega)
            have hT7 := hT.dealt hd7 (by omega)
            have hV7 := hV.dealt hd7 (by omega)
            have hnC7 := hd7.hid hnC hC.lt
            have hnT7 := hd7.hid hnT hT.lt
            have hnV7 := hd7.hid hnV hV.lt
            have hd8 := hd.trans hd7
            have hle7 := hd7.le
            have HMY := Lib.hid (And.intro hmy hly)
            clear IT hd7 hC hT hV hnC hnT hnV hd hmy hly
            go_wp2_with (with_reducible refine stop_store ?_)
            unfold Stopped
            refine wpList_store_item rfl _ _ _ rfl rfl _ _ rfl rfl _ _ hV7 size_item rfl (one4 _ _ _ _ rfl rfl rfl rfl) fun w8 hV8 hg8 => ?_
            have hC8 := hC7.grown hg8 (by intro e; injection e with e; omega)
            have hT8 := hT7.grown hg8 (by intro e; injection e with e; omega)
            have hd9 := hd8.grownRow (row := some w6.heap.size) (by rintro q ⟨⟩; exact hnV7) (by rintro q ⟨⟩; omega) hgl hg8
            go_wp2_with fail
            go_meet
            exact ⟨y, ⟨ka, kb, kc, kd⟩, H7, hle7, hC8, hT8, hV8, hd9, hnC7, hnT7, hnV7, hi7, HMY.out.1, HMY.out.2⟩
          · have b1 : (nn == 99) = false := by simp [h99]
            have p1 : (nn = 99) = False := eq_false h99
            clear h99
            go_wp2_with fail
            go_meet
            exact ⟨Y, ⟨ja, jb, jc, jd⟩, H6, Snap.le.refl _, hC, hT, hV, hd, hnC, hnT, hnV, hi6, HY.out.1, HY.out.2⟩
        case rest =>
          clear hC hT hV hd hnC hnT hnV hi6
          obtain ⟨y, c, H7, hle7, hC, hT, hV, hd, hnC, hnT, hnV, hy, hmy, hly⟩ := hcut
          have HMY := Lib.hid hly
          have hp := hp.mono hle7
          have hu := hu.mono hle7
          clear hly
          go_upto_region 11 with fail
          go_cut [9, 10] (fun s9 s10 wx => ∃ (N : Nat) (cc : Int) (p' u' : Itm) (a' b' : Ad) (H8 : Snap), s9 = .pointer (some ⟨N, 0, none⟩) ∧ s10 = .int .i64 cc ∧ Blk wx w1.heap.size 28 (hdrC p a u b) ∧ Blk wx w.heap.size 28 (hdrC zeroItm ⟨none, 0, none, 0⟩ zeroItm ⟨none, 0, none, 0⟩) ∧ Blk wx N 28 (hdrC p' a' u' b') ∧
            Dealt w H wx H8 g ∧ H7.le H8 ∧ H8 w1.heap.size = none ∧ H8 w.heap.size = none ∧ IsItem H8 a'.ba a'.bc a'.ia a'.ic p' ∧ IsItem H8 b'.ba b'.bc b'.ia b'.ic u' ∧ Modest p' ∧ Modest u' ∧
            (cc = 0 → validH p' u' = true ∧ szL p' ≤ szL p + 252 ∧ szL u' ≤ szL u + 252))
          case first =>
            have hC := hC.drew
            have hT := hT.drew
            have hV := hV.drew
            have hd := hd.drew
            have hle := Snap.le.refl H7
            refine wp_region_ways 12 (fun w' => w'.cell? ⟨w1.heap.size, 0, none⟩ = some (.int .i64 p.kind) ∧ w'.cell? ⟨w1.heap.size, 1, none⟩ = some (.int .u64 p.n) ∧ w'.cell? ⟨w1.heap.size, 2, none⟩ = some (.slice a.ba p.bytes.length a.bc) ∧ w'.cell? ⟨w1.heap.size, 3, none⟩ = some (.slice a.ia p.items.length a.ic) ∧ w'.cell? ⟨w1.heap.size, 4, none⟩ = some (.int .i64 u.kind) ∧ w'.cell? ⟨w1.heap.size, 5, none⟩ = some (.int .u64 u.n) ∧ w'.cell? ⟨w1.heap.size, 6, none⟩ = some (.slice b.ba u.bytes.length b.bc) ∧ w'.cell? ⟨w1.heap.size, 7, none⟩ = some (.slice b.ia u.items.length b.ic) ∧ w'.cell? ⟨w6.heap.size, 0, none⟩ = some (.int .i64 y.kind) ∧ w'.cell? ⟨w6.heap.size, 1, none⟩ = some (.int .u64 y.n) ∧ w'.cell? ⟨w6.heap.size, 2, none⟩ = some (.slice c.ba y.bytes.length c.bc) ∧ w'.cell? ⟨w6.heap.size, 3, none⟩ = some (.slice c.ia y.items.length c.ic)) (by kernel_rfl) (⟨hC.cell 0 rfl, hC.cell 1 rfl, hC.cell 2 rfl, hC.cell 3 rfl, hC.cell 4 rfl, hC.cell 5 rfl, hC.cell 6 rfl, hC.cell 7 rfl, hV.cell 0 rfl, hV.cell 1 rfl, hV.cell 2 rfl, hV.cell 3 rfl⟩) (fun hHeld => ?_)
            refine Ways.take (i := 0) (v := ?_) rfl (by kernel_rfl) (fun _ _ _ h => h) (Or.inl ⟨by rfl, ?_⟩) hHeld ?_
            rotate_left
            · (intro w hSw; (try dsimp only at hSw); go_simp; try with_reducible rfl)
            try simp only [Act.put, List.getElem_toArray, List.getElem_cons_zero, List.getElem_cons_succ, List.setIfInBounds_toArray, List.set_cons_zero, List.set_cons_succ]
            refine Ways.take (i := 1) (v := ?_) rfl (by kernel_rfl) (fun _ _ _ h => h) (Or.inl ⟨by rfl, ?_⟩) hHeld ?_
            rotate_left
            · (intro w hSw; (try dsimp only at hSw); go_simp; try with_reducible rfl)
            try simp only [Act.put, List.getElem_toArray, List.getElem_cons_zero, List.getElem_cons_succ, List.setIfInBounds_toArray, List.set_cons_zero, List.set_cons_succ]
            refine Ways.take (i := 4) (v := ?_) rfl (by kernel_rfl) (fun _ _ _ h => h) (Or.inl ⟨by rfl, ?_⟩) hHeld ?_
            rotate_left
            · (intro w hSw; (try dsimp only at hSw); go_simp; try with_reducible rfl)
            try simp only [Act.put, List.getElem_toArray, List.getElem_cons_zero, List.getElem_cons_succ, List.setIfInBounds_toArray, List.set_cons_zero, List.set_cons_succ]
            refine Ways.take (i := 5) (v := ?_) rfl (by kernel_rfl) (fun _ _ _ h => h) (Or.inl ⟨by rfl, ?_⟩) hHeld ?_
            rotate_left
            · (intro w hSw; (try dsimp only at hSw); go_simp; try with_reducible rfl)
            try simp only [Act.put, List.getElem_toArray, List.getElem_cons_zero, List.getElem_cons_succ, List.setIfInBounds_toArray, List.set_cons_zero, List.set_cons_succ]
            refine Ways.two (i := 2) (j := 10) rfl rfl (by kernel_rfl) (fun K hK => ?_) (fun K hK => ?_)
            · go_simp
              refine (deck_Next _ hd.deck 2 (by omega) (by omega)).mono ?_
              rintro e w8 ⟨q, rfl, hq, hd8⟩
              try have hN := hN.dealt hd8 (by have := hd.size; omega)
              have hC := hC.dealt hd8 (by omega)
              have hT := hT.dealt hd8 (by omega)
              have hV := hV.dealt hd8 (by omega)
              have hd := hd.trans hd8
              refine hK.out _ _ (fun _ => ?_) (fun hHeld => ?_)
              · exact ⟨hC.cell 0 rfl, hC.cell 1 rfl, hC.cell 2 rfl, hC.cell 3 rfl, hC.cell 4 rfl, hC.cell 5 rfl, hC.cell 6 rfl, hC.cell 7 rfl, hV.cell 0 rfl, hV.cell 1 rfl, hV.cell 2 rfl, hV.cell 3 rfl⟩
              clear hK K
              have hHeld := hHeld (by decide)
              try simp only [Act.put, List.getElem_toArray, List.getElem_cons_zero, List.getElem_cons_succ, List.setIfInBounds_toArray, List.set_cons_zero, List.set_cons_succ]
              refine Ways.take (i := 3) (v := ?_) rfl (by kernel_rfl) (fun _ _ _ h => h) (Or.inl ⟨by rfl, ?_⟩) hHeld ?_
              rotate_left
              · (intro w hSw; (try dsimp only at hSw); go_simp; try with_reducible rfl)
              try simp only [Act.put, List.getElem_toArray, List.getElem_cons_zero, List.getElem_cons_succ, List.setIfInBounds_toArray, List.set_cons_zero, List.set_cons_succ]
              refine Ways.two (i := 6) (j := 10) rfl rfl (by kernel_rfl) (fun K hK => ?_) (fun K hK => ?_)
              · go_simp
                refine (ref12_Put (hTab.mono hd.le) (a := a) (b := b) (d := c) hp hu hy _ nn (by have := HNN.out; omega) (by have := HNN.out; omega) _ hd.holds).mono ?_
                rintro e w9 ⟨p', u', val, cc, rfl, ⟨a', b', H8, rfl, hG8, hp', hu'⟩, hc0, hmp', hmu', hex⟩
                try have hnN := hG8.none hnN hN.lt
                try have hN := hN.below hG8.below
                have hnT := hG8.none hnT hT.lt
                have hnC := hG8.none hnC hC.lt
                have hC := hC.below hG8.below
                have hT := hT.below hG8.below
                have hV := hV.below hG8.below
                have hle := hle.trans hG8.le
                have hd := hd.grown hG8
                refine hK.out _ _ (fun _ => ?_) (fun hHeld => ?_)
                · exact ⟨hC.cell 0 rfl, hC.cell 1 rfl, hC.cell 2 rfl, hC.cell 3 rfl, hC.cell 4 rfl, hC.cell 5 rfl, hC.cell 6 rfl, hC.cell 7 rfl, hV.cell 0 rfl, hV.cell 1 rfl, hV.cell 2 rfl, hV.cell 3 rfl⟩
                clear hK K
                have hHeld := hHeld (by decide)
                try simp only [Act.put, List.getElem_toArray, List.getElem_cons_zero, List.getElem_cons_succ, List.setIfInBounds_toArray, List.set_cons_zero, List.set_cons_succ]
                refine Ways.take (i := 7) (v := ?_) rfl (by kernel_rfl) (fun _ _ _ h => h) (Or.inl ⟨by rfl, ?_⟩) hHeld ?_
                rotate_left
                · (intro w hSw; (try dsimp only at hSw); go_simp; try with_reducible rfl)
                try simp only [Act.put, List.getElem_toArray, List.getElem_cons_zero, List.getElem_cons_succ, List.setIfInBounds_toArray, List.set_cons_zero, List.set_cons_succ]
                refine Ways.take (i := 8) (v := ?_) rfl (by kernel_rfl) (fun _ _ _ h => h) (Or.inl ⟨by rfl, ?_⟩) hHeld ?_
                rotate_left
                · (intro w hSw; (try dsimp only at hSw); go_simp; try with_reducible rfl)
                try simp only [Act.put, List.getElem_toArray, List.getElem_cons_zero, List.getElem_cons_succ, List.setIfInBounds_toArray, List.set_cons_zero, List.set_cons_succ]
                refine Ways.take (i := 9) (v := ?_) rfl (by kernel_rfl) (fun _ _ _ h => h) (Or.inl ⟨by rfl, ?_⟩) hHeld ?_
                rotate_left
                · (intro w hSw; (try dsimp only at hSw); go_simp; try with_reducible rfl)
                try simp only [Act.put, List.getElem_toArray, List.getElem_cons_zero, List.getElem_cons_succ, List.setIfInBounds_toArray, List.set_cons_zero, List.set_cons_succ]
                refine Ways.one (i := 10) rfl (by kernel_rfl) (fun K hK => ?_)
                go_simp
                have hN := dealt_new hd 28 (hdrC zeroItm ⟨none, 0, none, 0⟩ zeroItm ⟨none, 0, none, 0⟩)
                have hnN := hd.holds.none_of_ge (Nat.le_refl _)
                have hCN := hV.lt
                try simp only [drew_heap, size_alloc] at hN hnN hCN
                have hC := hC.alloc zeroH
                have hT := hT.alloc zeroH
                have hV := hV.alloc zeroH
                have hd := hd.alloc zeroH
                refine hK.out _ _ (fun _ => ?_) (fun hHeld => ?_)
                · exact ⟨hC.cell 0 rfl, hC.cell 1 rfl, hC.cell 2 rfl, hC.cell 3 rfl, hC.cell 4 rfl, hC.cell 5 rfl, hC.cell 6 rfl, hC.cell 7 rfl, hV.cell 0 rfl, hV.cell 1 rfl, hV.cell 2 rfl, hV.cell 3 rfl⟩
                clear hK K
                have hHeld := hHeld (by decide)
                try simp only [Act.put, List.getElem_toArray, List.getElem_cons_zero, List.getElem_cons_succ, List.setIfInBounds_toArray, List.set_cons_zero, List.set_cons_succ]
                refine Ways.one (i := 11) rfl (by kernel_rfl) (fun K hK => ?_)
                rw [if_pos (by rfl)]
                refine wp_store_item _ _ _ rfl _ _ rfl rfl _ _ hN size_hdr rfl (hdr_one _ _ _ _) fun w10 hN hg10 => ?_
                have hC := hC.grown hg10 (by intro e; injection e with e; omega)
                have hT := hT.grown hg10 (by intro e; injection e with e; omega)
                have hV := hV.grown hg10 (by intro e; injection e with e; omega)
                have hd := hd.grownRow (by rintro q ⟨⟩; exact hnN) (by rintro q ⟨⟩; omega) hgl hg10
                refine hK.out _ _ (fun _ => ?_) (fun hHeld => ?_)
                · exact ⟨hC.cell 0 rfl, hC.cell 1 rfl, hC.cell 2 rfl, hC.cell 3 rfl, hC.cell 4 rfl, hC.cell 5 rfl, hC.cell 6 rfl, hC.cell 7 rfl, hV.cell 0 rfl, hV.cell 1 rfl, hV.cell 2 rfl, hV.cell 3 rfl⟩
                clear hK K
                have hHeld := hHeld (by decide)
                try simp only [Act.put, List.getElem_toArray, List.getElem_cons_zero, List.getElem_cons_succ, List.setIfInBounds_toArray, List.set_cons_zero, List.set_cons_succ]
                refine Ways.one (i := 12) rfl (by kernel_rfl) (fun K hK => ?_)
                go_simp
                refine hK.out _ _ (fun h => absurd rfl h) (fun _ => ?_)
                clear hK K
                try simp only [Act.put, List.getElem_toArray, List.getElem_cons_zero, List.getElem_cons_succ, List.setIfInBounds_toArray, List.set_cons_zero, List.set_cons_succ]
                refine Ways.done (by kernel_rfl) ?_
                go_wp2_with fail
                go_meet
                exact ⟨_, cc, p', u', a', b', H8, rfl, rfl, hC, hT, hN, hd, hle, hnC, hnT, hp', hu', hmp', hmu', fun h0 => by obtain ⟨x1, x2, x3⟩ := hc0 h0; have := HMY.out; exact ⟨x1, by omega, by omega⟩⟩
              · go_simp
                have hN := dealt_new hd 28 (hdrC zeroItm ⟨none, 0, none, 0⟩ zeroItm ⟨none, 0, none, 0⟩)
                have hnN := hd.holds.none_of_ge (Nat.le_refl _)
                have hCN := hV.lt
                try simp only [drew_heap, size_alloc] at hN hnN hCN
                have hC := hC.alloc zeroH
                have hT := hT.alloc zeroH
                have hV := hV.alloc zeroH
                have hd := hd.alloc zeroH
                refine hK.out _ _ (fun _ => ?_) (fun hHeld => ?_)
                · exact ⟨hC.cell 0 rfl, hC.cell 1 rfl, hC.cell 2 rfl, hC.cell 3 rfl, hC.cell 4 rfl, hC.cell 5 rfl, hC.cell 6 rfl, hC.cell 7 rfl, hV.cell 0 rfl, hV.cell 1 rfl, hV.cell 2 rfl, hV.cell 3 rfl⟩
                clear hK K
                have hHeld := hHeld (by decide)
                try simp only [Act.put, List.getElem_toArray, List.getElem_cons_zero, List.getElem_cons_succ, List.setIfInBounds_toArray, List.set_cons_zero, List.set_cons_succ]
                refine Ways.one (i := 6) rfl (by kernel_rfl) (fun K hK => ?_)
                go_simp
                refine (ref12_Put (hTab.mono hd.le) (a := a) (b := b) (d := c) hp hu hy _ nn (by have := HNN.out; omega) (by have := HNN.out; omega) _ hd.holds).mono ?_
                rintro e w9 ⟨p', u', val, cc, rfl, ⟨a', b', H8, rfl, hG8, hp', hu'⟩, hc0, hmp', hmu', hex⟩
                try have hnN := hG8.none hnN hN.lt
                try have hN := hN.below hG8.below
                have hnT := hG8.none hnT hT.lt
                have hnC := hG8.none hnC hC.lt
                have hC := hC.below hG8.below
                have hT := hT.below hG8.below
                have hV := hV.below hG8.below
                have hle := hle.trans hG8.le
                have hd := hd.grown hG8
                refine hK.out _ _ (fun _ => ?_) (fun hHeld => ?_)
                · exact ⟨hC.cell 0 rfl, hC.cell 1 rfl, hC.cell 2 rfl, hC.cell 3 rfl, hC.cell 4 rfl, hC.cell 5 rfl, hC.cell 6 rfl, hC.cell 7 rfl, hV.cell 0 rfl, hV.cell 1 rfl, hV.cell 2 rfl, hV.cell 3 rfl⟩
                clear hK K
                have hHeld := hHeld (by decide)
                try simp only [Act.put, List.getElem_toArray, List.getElem_cons_zero, List.getElem_cons_succ, List.setIfInBounds_toArray, List.set_cons_zero, List.set_cons_succ]
                refine Ways.take (i := 7) (v := ?_) rfl (by kernel_rfl) (fun _ _ _ h => h) (Or.inl ⟨by rfl, ?_⟩) hHeld ?_
                rotate_left
                · (intro w hSw; (try dsimp only at hSw); go_simp; try with_reducible rfl)
                try simp only [Act.put, List.getElem_toArray, List.getElem_cons_zero, List.getElem_cons_succ, List.setIfInBounds_toArray, List.set_cons_zero, List.set_cons_succ]
                refine Ways.take (i := 8) (v := ?_) rfl (by kernel_rfl) (fun _ _ _ h => h) (Or.inl ⟨by rfl, ?_⟩) hHeld ?_
                rotate_left
                · (intro w hSw; (try dsimp only at hSw); go_simp; try with_reducible rfl)
                try simp only [Act.put, List.getElem_toArray, List.getElem_cons_zero, List.getElem_cons_succ, List.setIfInBounds_toArray, List.set_cons_zero, List.set_cons_succ]
                refine Ways.take (i := 9) (v := ?_) rfl (by kernel_rfl) (fun _ _ _ h => h) (Or.inl ⟨by rfl, ?_⟩) hHeld ?_
                rotate_left
                · (intro w hSw; (try dsimp only at hSw); go_simp; try with_reducible rfl)
                try simp only [Act.put, List.getElem_toArray, List.getElem_cons_zero, List.getElem_cons_succ, List.setIfInBounds_toArray, List.set_cons_zero, List.set_cons_succ]
                refine Ways.one (i := 11) rfl (by kernel_rfl) (fun K hK => ?_)
                rw [if_pos (by rfl)]
                refine wp_store_item _ _ _ rfl _ _ rfl rfl _ _ hN size_hdr rfl (hdr_one _ _ _ _) fun w10 hN hg10 => ?_
                have hC := hC.grown hg10 (by intro e; injection e with e; omega)
                have hT := hT.grown hg10 (by intro e; injection e with e; omega)
                have hV := hV.grown hg10 (by intro e; injection e with e; omega)
                have hd := hd.grownRow (by rintro q ⟨⟩; exact hnN) (by rintro q ⟨⟩; omega) hgl hg10
                refine hK.out _ _ (fun _ => ?_) (fun hHeld => ?_)
                · exact ⟨hC.cell 0 rfl, hC.cell 1 rfl, hC.cell 2 rfl, hC.cell 3 rfl, hC.cell 4 rfl, hC.cell 5 rfl, hC.cell 6 rfl, hC.cell 7 rfl, hV.cell 0 rfl, hV.cell 1 rfl, hV.cell 2 rfl, hV.cell 3 rfl⟩
                clear hK K
                have hHeld := hHeld (by decide)
                try simp only [Act.put, List.getElem_toArray, List.getElem_cons_zero, List.getElem_cons_succ, List.setIfInBounds_toArray, List.set_cons_zero, List.set_cons_succ]
                refine Ways.one (i := 12) rfl (by kernel_rfl) (fun K hK => ?_)
                go_simp
                refine hK.out _ _ (fun h => absurd rfl h) (fun _ => ?_)
                clear hK K
                try simp only [Act.put, List.getElem_toArray, List.getElem_cons_zero, List.getElem_cons_succ, List.setIfInBounds_toArray, List.set_cons_zero, List.set_cons_succ]
                refine Ways.done (by kernel_rfl) ?_
                go_wp2_with fail
                go_meet
                exact ⟨_, cc, p', u', a', b', H8, rfl, rfl, hC, hT, hN, hd, hle, hnC, hnT, hp', hu', hmp', hmu', fun h0 => by obtain ⟨x1, x2, x3⟩ := hc0 h0; have := HMY.out; exact ⟨x1, by omega, by omega⟩⟩
            · go_simp
              have hN := dealt_new hd 28 (hdrC zeroItm ⟨none, 0, none, 0⟩ zeroItm ⟨none, 0, none, 0⟩)
              have hnN := hd.holds.none_of_ge (Nat.le_refl _)
              have hCN := hV.lt
              try simp only [drew_heap, size_alloc] at hN hnN hCN
              have hC := hC.alloc zeroH
              have hT := hT.alloc zeroH
              have hV := hV.alloc zeroH
              have hd := hd.alloc zeroH
              refine hK.out _ _ (fun _ => ?_) (fun hHeld => ?_)
              · exact ⟨hC.cell 0 rfl, hC.cell 1 rfl, hC.cell 2 rfl, hC.cell 3 rfl, hC.cell 4 rfl, hC.cell 5 rfl, hC.cell 6 rfl, hC.cell 7 rfl, hV.cell 0 rfl, hV.cell 1 rfl, hV.cell 2 rfl, hV.cell 3 rfl⟩
              clear hK K
              have hHeld := hHeld (by decide)
              try simp only [Act.put, List.getElem_toArray, List.getElem_cons_zero, List.getElem_cons_succ, List.setIfInBounds_toArray, List.set_cons_zero, List.set_cons_succ]
              refine Ways.one (i := 2) rfl (by kernel_rfl) (fun K hK => ?_)
              go_simp
              refine (deck_Next _ hd.deck 2 (by omega) (by omega)).mono ?_
              rintro e w8 ⟨q, rfl, hq, hd8⟩
              try have hN := hN.dealt hd8 (by have := hd.size; omega)
              have hC := hC.dealt hd8 (by omega)
              have hT := hT.dealt hd8 (by omega)
              have hV := hV.dealt hd8 (by omega)
              have hd := hd.trans hd8
              refine hK.out _ _ (fun _ => ?_) (fun hHeld => ?_)
              · exact ⟨hC.cell 0 rfl, hC.cell 1 rfl, hC.cell 2 rfl, hC.cell 3 rfl, hC.cell 4 rfl, hC.cell 5 rfl, hC.cell 6 rfl, hC.cell 7 rfl, hV.cell 0 rfl, hV.cell 1 rfl, hV.cell 2 rfl, hV.cell 3 rfl⟩
              clear hK K
              have hHeld := hHeld (by decide)
              try simp only [Act.put, List.getElem_toArray, List.getElem_cons_zero, List.getElem_cons_succ, List.setIfInBounds_toArray, List.set_cons_zero, List.set_cons_succ]
              refine Ways.take (i := 3) (v := ?_) rfl (by kernel_rfl) (fun _ _ _ h => h) (Or.inl ⟨by rfl, ?_⟩) hHeld ?_
              rotate_left
              · (intro w hSw; (try dsimp only at hSw); go_simp; try with_reducible rfl)
              try simp only [Act.put, List.getElem_toArray, List.getElem_cons_zero, List.getElem_cons_succ, List.setIfInBounds_toArray, List.set_cons_zero, List.set_cons_succ]
              refine Ways.one (i := 6) rfl (by kernel_rfl) (fun K hK => ?_)
              go_simp
              refine (ref12_Put (hTab.mono hd.le) (a := a) (b := b) (d := c) hp hu hy _ nn (by have := HNN.out; omega) (by have := HNN.out; omega) _ hd.holds).mono ?_
              rintro e w9 ⟨p', u', val, cc, rfl, ⟨a', b', H8, rfl, hG8, hp', hu'⟩, hc0, hmp', hmu', hex⟩
              try have hnN := hG8.none hnN hN.lt
              try have hN := hN.below hG8.below
              have hnT := hG8.none hnT hT.lt
              have hnC := hG8.none hnC hC.lt
              have hC := hC.below hG8.below
              have hT := hT.below hG8.below
              have hV := hV.below hG8.below
              have hle := hle.trans hG8.le
              have hd := hd.grown hG8
              refine hK.out _ _ (fun _ => ?_) (fun hHeld => ?_)
              · exact ⟨hC.cell 0 rfl, hC.cell 1 rfl, hC.cell 2 rfl, hC.cell 3 rfl, hC.cell 4 rfl, hC.cell 5 rfl, hC.cell 6 rfl, hC.cell 7 rfl, hV.cell 0 rfl, hV.cell 1 rfl, hV.cell 2 rfl, hV.cell 3 rfl⟩
              clear hK K
              have hHeld := hHeld (by decide)
              try simp only [Act.put, List.getElem_toArray, List.getElem_cons_zero, List.getElem_cons_succ, List.setIfInBounds_toArray, List.set_cons_zero, List.set_cons_succ]
              refine Ways.take (i := 7) (v := ?_) rfl (by kernel_rfl) (fun _ _ _ h => h) (Or.inl ⟨by rfl, ?_⟩) hHeld ?_
              rotate_left
              · (intro w hSw; (try dsimp only at hSw); go_simp; try with_reducible rfl)
              try simp only [Act.put, List.getElem_toArray, List.getElem_cons_zero, List.getElem_cons_succ, List.setIfInBounds_toArray, List.set_cons_zero, List.set_cons_succ]
              refine Ways.take (i := 8) (v := ?_) rfl (by kernel_rfl) (fun _ _ _ h => h) (Or.inl ⟨by rfl, ?_⟩) hHeld ?_
              rotate_left
              · (intro w hSw; (try dsimp only at hSw); go_simp; try with_reducible rfl)
              try simp only [Act.put, List.getElem_toArray, List.getElem_cons_zero, List.getElem_cons_succ, List.setIfInBounds_toArray, List.set_cons_zero, List.set_cons_succ]
              refine Ways.take (i := 9) (v := ?_) rfl (by kernel_rfl) (fun _ _ _ h => h) (Or.inl ⟨by rfl, ?_⟩) hHeld ?_
              rotate_left
              · (intro w hSw; (try dsimp only at hSw); go_simp; try with_reducible rfl)
              try simp only [Act.put, List.getElem_toArray, List.getElem_cons_zero, List.getElem_cons_succ, List.setIfInBounds_toArray, List.set_cons_zero, List.set_cons_succ]
              refine Ways.one (i := 11) rfl (by kernel_rfl) (fun K hK => ?_)
              rw [if_pos (by rfl)]
              refine wp_store_item _ _ _ rfl _ _ rfl rfl _ _ hN size_hdr rfl (hdr_one _ _ _ _) fun w10 hN hg10 => ?_
              have hC := hC.grown hg10 (by intro e; injection e with e; omega)
              have hT := hT.grown hg10 (by intro e; injection e with e; omega)
              have hV := hV.grown hg10 (by intro e; injection e with e; omega)
              have hd := hd.grownRow (by rintro q ⟨⟩; exact hnN) (by rintro q ⟨⟩; omega) hgl hg10
              refine hK.out _ _ (fun _ => ?_) (fun hHeld => ?_)
              · exact ⟨hC.cell 0 rfl, hC.cell 1 rfl, hC.cell 2 rfl, hC.cell 3 rfl, hC.cell 4 rfl, hC.cell 5 rfl, hC.cell 6 rfl, hC.cell 7 rfl, hV.cell 0 rfl, hV.cell 1 rfl, hV.cell 2 rfl, hV.cell 3 rfl⟩
              clear hK K
              have hHeld := hHeld (by decide)
              try simp only [Act.put, List.getElem_toArray, List.getElem_cons_zero, List.getElem_cons_succ, List.setIfInBounds_toArray, List.set_cons_zero, List.set_cons_succ]
              refine Ways.one (i := 12) rfl (by kernel_rfl) (fun K hK => ?_)
              go_simp
              refine hK.out _ _ (fun h => absurd rfl h) (fun _ => ?_)
              clear hK K
              try simp only [Act.put, List.getElem_toArray, List.getElem_cons_zero, List.getElem_cons_succ, List.setIfInBounds_toArray, List.set_cons_zero, List.set_cons_succ]
              refine Ways.done (by kernel_rfl) ?_
              go_wp2_with fail
              go_meet
              exact ⟨_, cc, p', u', a', b', H8, rfl, rfl, hC, hT, hN, hd, hle, hnC, hnT, hp', hu', hmp', hmu', fun h0 => by obtain ⟨x1, x2, x3⟩ := hc0 h0; have := HMY.out; exact ⟨x1, by omega, by omega⟩⟩
          case rest =>
            clear hC hT hV hd hnC hnT hnV hy hmy
            obtain ⟨N, cc, p', u', a', b', H8, rfl, rfl, hC, hT, hN, hd, hle8, hnC, hnT, hp', hu', hmp', hmu', hc0⟩ := hcut
            have HC0 := Lib.hid hc0
            have hk3 : IntKind.i64.wrap ((kk : Int) - 1) = (kk : Int) - 1 := IntWalk.i64_in _ (by have := HKK.out; omega)
            clear hc0
            by_cases hcc : cc = 0
            · subst hcc
              go_upto_region 13 with fail
              have n0' := hN.cell 0 rfl
              have n1' := hN.cell 1 rfl
              have n2' := hN.cell 2 rfl
              have n3' := hN.cell 3 rfl
              have n4' := hN.cell 4 rfl
              have n5' := hN.cell 5 rfl
              have n6' := hN.cell 6 rfl
              have n7' := hN.cell 7 rfl
              go_wp2_with (with_reducible refine stop_store ?_)
              unfold Stopped
              refine wpList_store_item rfl _ _ _ rfl rfl _ _ rfl rfl _ _ hC size_hdr rfl (hdr_one _ _ _ _) fun w11 hC11 hg11 => ?_
              have hT11 := hT.grown hg11 (by intro e; injection e with e; omega)
              have hd11 := hd.grownRow (row := some w1.heap.size) (by rintro q ⟨⟩; exact hnC) (by rintro q ⟨⟩; omega) hgl hg11
              clear hC hT hN hd n0' n1' n2' n3' n4' n5' n6' n7'
              go_wp2_with fail
              go_roundw
              case rel => exact ⟨kk - 1, by rw [show ((kk - 1 : Nat) : Int) = (kk : Int) - 1 by omega], by have := HKK.out; omega, p', u', a', b', H8, hC11, hT11, hd11, hnC, hnT, hp', hu', hmp', hmu', fun h10 => by obtain ⟨x1, x2, x3⟩ := HC0.out (by first | trivial | rfl); obtain ⟨z1, z2, z3⟩ := HK.out h10; have := HKK.out; exact ⟨x1, by omega, by omega⟩⟩
              case measure => simp [intOf]; omega
            · have b1 : (cc == 0) = false := by simp [hcc]
              have p1 : (cc = 0) = False := eq_false hcc
              have hp8 := hp.mono hle8
              have hu8 := hu.mono hle8
              clear hcc
              go_wp2_with fail
              go_roundw
              case rel => exact ⟨kk - 1, by rw [show ((kk - 1 : Nat) : Int) = (kk : Int) - 1 by omega], by have := HKK.out; omega, p, u, a, b, H8, hC, hT, hd, hnC, hnT, hp8, hu8, hmp, hmu, fun h10 => by obtain ⟨z1, z2, z3⟩ := HK.out h10; have := HKK.out; exact ⟨z1, by omega, by omega⟩⟩
              case measure => simp [intOf]; omega
      · -- the last two
        have HK2 : Hid (alg = 10 → validH p u = true ∧ szL p ≤ 522 ∧ szL u ≤ 522) := fun h => by obtain ⟨x1, x2, x3⟩ := HK.out h; exact ⟨x1, by omega, by omega⟩
        clear HK
        go_upto_region 14 with fail
        go_cut [11, 12] (fun s11 s12 wx => ∃ (N : Nat) (cc : Int) (p' u' : Itm) (a' b' : Ad) (H8 : Snap), s11 = .pointer (some ⟨N, 0, none⟩) ∧ s12 = .int .i64 cc ∧ Blk wx w1.heap.size 28 (hdrC p a u b) ∧ Blk wx w.heap.size 28 (hdrC zeroItm ⟨none, 0, none, 0⟩ zeroItm ⟨none, 0, none, 0⟩) ∧ Blk wx N 28 (hdrC p' a' u' b') ∧
          Dealt w H wx H8 g ∧ Hx.le H8 ∧ H8 w1.heap.size = none ∧ H8 w.heap.size = none ∧ H8 N = none ∧ w1.heap.size < N ∧ IsItem H8 a'.ba a'.bc a'.ia a'.ic p' ∧ IsItem H8 b'.ba b'.bc b'.ia b'.ic u' ∧ Modest p' ∧ Modest u' ∧
          (cc = 0 → validH p' u' = true ∧ szL p' ≤ szL p + 18 ∧ szL u' ≤ szL u + 18))
        case first =>
          have hC := hC.drew
          have hT := hT.drew
          have hd := hd.drew
          have hle := Snap.le.refl Hx
          refine wp_region_ways 8 (fun w' => w'.cell? ⟨w1.heap.size, 0, none⟩ = some (.int .i64 p.kind) ∧ w'.cell? ⟨w1.heap.size, 1, none⟩ = some (.int .u64 p.n) ∧ w'.cell? ⟨w1.heap.size, 2, none⟩ = some (.slice a.ba p.bytes.length a.bc) ∧ w'.cell? ⟨w1.heap.size, 3, none⟩ = some (.slice a.ia p.items.length a.ic) ∧ w'.cell? ⟨w1.heap.size, 4, none⟩ = some (.int .i64 u.kind) ∧ w'.cell? ⟨w1.heap.size, 5, none⟩ = some (.int .u64 u.n) ∧ w'.cell? ⟨w1.heap.size, 6, none⟩ = some (.slice b.ba u.bytes.length b.bc) ∧ w'.cell? ⟨w1.heap.size, 7, none⟩ = some (.slice b.ia u.items.length b.ic)) (by kernel_rfl) (⟨hC.cell 0 rfl, hC.cell 1 rfl, hC.cell 2 rfl, hC.cell 3 rfl, hC.cell 4 rfl, hC.cell 5 rfl, hC.cell 6 rfl, hC.cell 7 rfl⟩) (fun hHeld => ?_)
          refine Ways.take (i := 0) (v := ?_) rfl (by kernel_rfl) (fun _ _ _ h => h) (Or.inl ⟨by rfl, ?_⟩) hHeld ?_
          rotate_left
          · (intro w hSw; (try dsimp only at hSw); go_simp; try with_reducible rfl)
          try simp only [Act.put, List.getElem_toArray, List.getElem_cons_zero, List.getElem_cons_succ, List.setIfInBounds_toArray, List.set_cons_zero, List.set_cons_succ]
          refine Ways.two (i := 1) (j := 6) rfl rfl (by kernel_rfl) (fun K hK => ?_) (fun K hK => ?_)
          · go_simp
            refine (ref_Int 1 (by omega) (by omega) _ hd.holds).mono ?_
            rintro e w4 ⟨v4, rfl, ja, jb, jc, jd, H4, rfl, hG4, hi4⟩
            try have hnN := hG4.none hnN hN.lt
            try have hN := hN.below hG4.below
            have hnT := hG4.none hnT hT.lt
            have hnC := hG4.none hnC hC.lt
            have hC := hC.below hG4.below
            have hT := hT.below hG4.below
            have hle := hle.trans hG4.le
            have hp := hp.mono hG4.le
            have hu := hu.mono hG4.le
            have hd := hd.grown hG4
            refine hK.out _ _ (fun _ => ?_) (fun hHeld => ?_)
            · exact ⟨hC.cell 0 rfl, hC.cell 1 rfl, hC.cell 2 rfl, hC.cell 3 rfl, hC.cell 4 rfl, hC.cell 5 rfl, hC.cell 6 rfl, hC.cell 7 rfl⟩
            clear hK K
            have hHeld := hHeld (by decide)
            try simp only [Act.put, List.getElem_toArray, List.getElem_cons_zero, List.getElem_cons_succ, List.setIfInBounds_toArray, List.set_cons_zero, List.set_cons_succ]
            refine Ways.two (i := 2) (j := 6) rfl rfl (by kernel_rfl) (fun K hK => ?_) (fun K hK => ?_)
            · go_simp
              refine (ref12_Put (hTab.mono hd.le) (a := a) (b := b) (d := ⟨ja, jb, jc, jd⟩) hp hu hi4 true 98 (by omega) (by omega) _ hd.holds).mono ?_
              rintro e w9 ⟨p', u', val, cc, rfl, ⟨a', b', H8, rfl, hG8, hp', hu'⟩, hc0, hmp', hmu', hex⟩
              try have hnN := hG8.none hnN hN.lt
              try have hN := hN.below hG8.below
              have hnT := hG8.none hnT hT.lt
              have hnC := hG8.none hnC hC.lt
              have hC := hC.below hG8.below
              have hT := hT.below hG8.below
              have hle := hle.trans hG8.le
              have hd := hd.grown hG8
              refine hK.out _ _ (fun _ => ?_) (fun hHeld => ?_)
              · exact ⟨hC.cell 0 rfl, hC.cell 1 rfl, hC.cell 2 rfl, hC.cell 3 rfl, hC.cell 4 rfl, hC.cell 5 rfl, hC.cell 6 rfl, hC.cell 7 rfl⟩
              clear hK K
              have hHeld := hHeld (by decide)
              try simp only [Act.put, List.getElem_toArray, List.getElem_cons_zero, List.getElem_cons_succ, List.setIfInBounds_toArray, List.set_cons_zero, List.set_cons_succ]
              refine Ways.take (i := 3) (v := ?_) rfl (by kernel_rfl) (fun _ _ _ h => h) (Or.inl ⟨by rfl, ?_⟩) hHeld ?_
              rotate_left
              · (intro w hSw; (try dsimp only at hSw); go_simp; try with_reducible rfl)
              try simp only [Act.put, List.getElem_toArray, List.getElem_cons_zero, List.getElem_cons_succ, List.setIfInBounds_toArray, List.set_cons_zero, List.set_cons_succ]
              refine Ways.take (i := 4) (v := ?_) rfl (by kernel_rfl) (fun _ _ _ h => h) (Or.inl ⟨by rfl, ?_⟩) hHeld ?_
              rotate_left
              · (intro w hSw; (try dsimp only at hSw); go_simp; try with_reducible rfl)
              try simp only [Act.put, List.getElem_toArray, List.getElem_cons_zero, List.getElem_cons_succ, List.setIfInBounds_toArray, List.set_cons_zero, List.set_cons_succ]
              refine Ways.take (i := 5) (v := ?_) rfl (by kernel_rfl) (fun _ _ _ h => h) (Or.inl ⟨by rfl, ?_⟩) hHeld ?_
              rotate_left
              · (intro w hSw; (try dsimp only at hSw); go_simp; try with_reducible rfl)
              try simp only [Act.put, List.getElem_toArray, List.getElem_cons_zero, List.getElem_cons_succ, List.setIfInBounds_toArray, List.set_cons_zero, List.set_cons_succ]
              refine Ways.one (i := 6) rfl (by kernel_rfl) (fun K hK => ?_)
              go_simp
              have hN := dealt_new hd 28 (hdrC zeroItm ⟨none, 0, none, 0⟩ zeroItm ⟨none, 0, none, 0⟩)
              have hnN := hd.holds.none_of_ge (Nat.le_refl _)
              have hCN := hC.lt
              try simp only [drew_heap, size_alloc] at hN hnN hCN
              have hC := hC.alloc zeroH
              have hT := hT.alloc zeroH
              have hd := hd.alloc zeroH
              refine hK.out _ _ (fun _ => ?_) (fun hHeld => ?_)
              · exact ⟨hC.cell 0 rfl, hC.cell 1 rfl, hC.cell 2 rfl, hC.cell 3 rfl, hC.cell 4 rfl, hC.cell 5 rfl, hC.cell 6 rfl, hC.cell 7 rfl⟩
              clear hK K
              have hHeld := hHeld (by decide)
              try simp only [Act.put, List.getElem_toArray, List.getElem_cons_zero, List.getElem_cons_succ, List.setIfInBounds_toArray, List.set_cons_zero, List.set_cons_succ]
              refine Ways.one (i := 7) rfl (by kernel_rfl) (fun K hK => ?_)
              rw [if_pos (by rfl)]
              refine wp_store_item _ _ _ rfl _ _ rfl rfl _ _ hN size_hdr rfl (hdr_one _ _ _ _) fun w10 hN hg10 => ?_
              have hC := hC.grown hg10 (by intro e; injection e with e; omega)
              have hT := hT.grown hg10 (by intro e; injection e with e; omega)
              have hd := hd.grownRow (by rintro q ⟨⟩; exact hnN) (by rintro q ⟨⟩; omega) hgl hg10
              refine hK.out _ _ (fun _ => ?_) (fun hHeld => ?_)
              · exact ⟨hC.cell 0 rfl, hC.cell 1 rfl, hC.cell 2 rfl, hC.cell 3 rfl, hC.cell 4 rfl, hC.cell 5 rfl, hC.cell 6 rfl, hC.cell 7 rfl⟩
              clear hK K
              have hHeld := hHeld (by decide)
              try simp only [Act.put, List.getElem_toArray, List.getElem_cons_zero, List.getElem_cons_succ, List.setIfInBounds_toArray, List.set_cons_zero, List.set_cons_succ]
              refine Ways.one (i := 8) rfl (by kernel_rfl) (fun K hK => ?_)
              go_simp
              refine hK.out _ _ (fun h => absurd rfl h) (fun _ => ?_)
              clear hK K
              try simp only [Act.put, List.getElem_toArray, List.getElem_cons_zero, List.getElem_cons_succ, List.setIfInBounds_toArray, List.set_cons_zero, List.set_cons_succ]
              refine Ways.done (by kernel_rfl) ?_
              go_wp2_with fail
              go_meet
              exact ⟨_, cc, p', u', a', b', H8, rfl, rfl, hC, hT, hN, hd, hle, hnC, hnT, hnN, hCN, hp', hu', hmp', hmu', fun h0 => by obtain ⟨x1, x2, x3⟩ := hc0 h0; have := encB_int 1; exact ⟨x1, by omega, by omega⟩⟩
            · go_simp
              have hN := dealt_new hd 28 (hdrC zeroItm ⟨none, 0, none, 0⟩ zeroItm ⟨none, 0, none, 0⟩)
              have hnN := hd.holds.none_of_ge (Nat.le_refl _)
              have hCN := hC.lt
              try simp only [drew_heap, size_alloc] at hN hnN hCN
              have hC := hC.alloc zeroH
              have hT := hT.alloc zeroH
              have hd := hd.alloc zeroH
              refine hK.out _ _ (fun _ => ?_) (fun hHeld => ?_)
              · exact ⟨hC.cell 0 rfl, hC.cell 1 rfl, hC.cell 2 rfl, hC.cell 3 rfl, hC.cell 4 rfl, hC.cell 5 rfl, hC.cell 6 rfl, hC.cell 7 rfl⟩
              clear hK K
              have hHeld := hHeld (by decide)
              try simp only [Act.put, List.getElem_toArray, List.getElem_cons_zero, List.getElem_cons_succ, List.setIfInBounds_toArray, List.set_cons_zero, List.set_cons_succ]
              refine Ways.one (i := 2) rfl (by kernel_rfl) (fun K hK => ?_)
              go_simp
              refine (ref12_Put (hTab.mono hd.le) (a := a) (b := b) (d := ⟨ja, jb, jc, jd⟩) hp hu hi4 true 98 (by omega) (by omega) _ hd.holds).mono ?_
              rintro e w9 ⟨p', u', val, cc, rfl, ⟨a', b', H8, rfl, hG8, hp', hu'⟩, hc0, hmp', hmu', hex⟩
              try have hnN := hG8.none hnN hN.lt
              try have hN := hN.below hG8.below
              have hnT := hG8.none hnT hT.lt
              have hnC := hG8.none hnC hC.lt
              have hC := hC.below hG8.below
              have hT := hT.below hG8.below
              have hle := hle.trans hG8.le
              have hd := hd.grown hG8
              refine hK.out _ _ (fun _ => ?_) (fun hHeld => ?_)
              · exact ⟨hC.cell 0 rfl, hC.cell 1 rfl, hC.cell 2 rfl, hC.cell 3 rfl, hC.cell 4 rfl, hC.cell 5 rfl, hC.cell 6 rfl, hC.cell 7 rfl⟩
              clear hK K
              have hHeld := hHeld (by decide)
              try simp only [Act.put, List.getElem_toArray, List.getElem_cons_zero, List.getElem_cons_succ, List.setIfInBounds_toArray, List.set_cons_zero, List.set_cons_succ]
              refine Ways.take (i := 3) (v := ?_) rfl (by kernel_rfl) (fun _ _ _ h => h) (Or.inl ⟨by rfl, ?_⟩) hHeld ?_
              rotate_left
              · (intro w hSw; (try dsimp only at hSw); go_simp; try with_reducible rfl)
              try simp only [Act.put, List.getElem_toArray, List.getElem_cons_zero, List.getElem_cons_succ, List.setIfInBounds_toArray, List.set_cons_zero, List.set_cons_succ]
              refine Ways.take (i := 4) (v := ?_) rfl (by kernel_rfl) (fun _ _ _ h => h) (Or.inl ⟨by rfl, ?_⟩) hHeld ?_
              rotate_left
              · (intro w hSw; (try dsimp only at hSw); go_simp; try with_reducible rfl)
              try simp only [Act.put, List.getElem_toArray, List.getElem_cons_zero, List.getElem_cons_succ, List.setIfInBounds_toArray, List.set_cons_zero, List.set_cons_succ]
              refine Ways.take (i := 5) (v := ?_) rfl (by kernel_rfl) (fun _ _ _ h => h) (Or.inl ⟨by rfl, ?_⟩) hHeld ?_
              rotate_left
              · (intro w hSw; (try dsimp only at hSw); go_simp; try with_reducible rfl)
              try simp only [Act.put, List.getElem_toArray, List.getElem_cons_zero, List.getElem_cons_succ, List.setIfInBounds_toArray, List.set_cons_zero, List.set_cons_succ]
              refine Ways.one (i := 7) rfl (by kernel_rfl) (fun K hK => ?_)
              rw [if_pos (by rfl)]
              refine wp_store_item _ _ _ rfl _ _ rfl rfl _ _ hN size_hdr rfl (hdr_one _ _ _ _) fun w10 hN hg10 => ?_
              have hC := hC.grown hg10 (by intro e; injection e with e; omega)
              have hT := hT.grown hg10 (by intro e; injection e with e; omega)
              have hd := hd.grownRow (by rintro q ⟨⟩; exact hnN) (by rintro q ⟨⟩; omega) hgl hg10
              refine hK.out _ _ (fun _ => ?_) (fun hHeld => ?_)
              · exact ⟨hC.cell 0 rfl, hC.cell 1 rfl, hC.cell 2 rfl, hC.cell 3 rfl, hC.cell 4 rfl, hC.cell 5 rfl, hC.cell 6 rfl, hC.cell 7 rfl⟩
              clear hK K
              have hHeld := hHeld (by decide)
              try simp only [Act.put, List.getElem_toArray, List.getElem_cons_zero, List.getElem_cons_succ, List.setIfInBounds_toArray, List.set_cons_zero, List.set_cons_succ]
              refine Ways.one (i := 8) rfl (by kernel_rfl) (fun K hK => ?_)
              go_simp
              refine hK.out _ _ (fun h => absurd rfl h) (fun _ => ?_)
              clear hK K
              try simp only [Act.put, List.getElem_toArray, List.getElem_cons_zero, List.getElem_cons_succ, List.setIfInBounds_toArray, List.set_cons_zero, List.set_cons_succ]
              refine Ways.done (by kernel_rfl) ?_
              go_wp2_with fail
              go_meet
              exact ⟨_, cc, p', u', a', b', H8, rfl, rfl, hC, hT, hN, hd, hle, hnC, hnT, hnN, hCN, hp', hu', hmp', hmu', fun h0 => by obtain ⟨x1, x2, x3⟩ := hc0 h0; have := encB_int 1; exact ⟨x1, by omega, by omega⟩⟩
          · go_simp
            have hN := dealt_new hd 28 (hdrC zeroItm ⟨none, 0, none, 0⟩ zeroItm ⟨none, 0, none, 0⟩)
            have hnN := hd.holds.none_of_ge (Nat.le_refl _)
            have hCN := hC.lt
            try simp only [drew_heap, size_alloc] at hN hnN hCN
            have hC := hC.alloc zeroH
            have hT := hT.alloc zeroH
            have hd := hd.alloc zeroH
            refine hK.out _ _ (fun _ => ?_) (fun hHeld => ?_)
            · exact ⟨hC.cell 0 rfl, hC.cell 1 rfl, hC.cell 2 rfl, hC.cell 3 rfl, hC.cell 4 rfl, hC.cell 5 rfl, hC.cell 6 rfl, hC.cell 7 rfl⟩
            clear hK K
            have hHeld := hHeld (by decide)
            try simp only [Act.put, List.getElem_toArray, List.getElem_cons_zero, List.getElem_cons_succ, List.setIfInBounds_toArray, List.set_cons_zero, List.set_cons_succ]
            refine Ways.one (i := 1) rfl (by kernel_rfl) (fun K hK => ?_)
            go_simp
            refine (ref_Int 1 (by omega) (by omega) _ hd.holds).mono ?_
            rintro e w4 ⟨v4, rfl, ja, jb, jc, jd, H4, rfl, hG4, hi4⟩
            try have hnN := hG4.none hnN hN.lt
            try have hN := hN.below hG4.below
            have hnT := hG4.none hnT hT.lt
            have hnC := hG4.none hnC hC.lt
            have hC := hC.below hG4.below
            have hT := hT.below hG4.below
            have hle := hle.trans hG4.le
            have hp := hp.mono hG4.le
            have hu := hu.mono hG4.le
            have hd := hd.grown hG4
            refine hK.out _ _ (fun _ => ?_) (fun hHeld => ?_)
            · exact ⟨hC.cell 0 rfl, hC.cell 1 rfl, hC.cell 2 rfl, hC.cell 3 rfl, hC.cell 4 rfl, hC.cell 5 rfl, hC.cell 6 rfl, hC.cell 7 rfl⟩
            clear hK K
            have hHeld := hHeld (by decide)
            try simp only [Act.put, List.getElem_toArray, List.getElem_cons_zero, List.getElem_cons_succ, List.setIfInBounds_toArray, List.set_cons_zero, List.set_cons_succ]
            refine Ways.one (i := 2) rfl (by kernel_rfl) (fun K hK => ?_)
            go_simp
            refine (ref12_Put (hTab.mono hd.le) (a := a) (b := b) (d := ⟨ja, jb, jc, jd⟩) hp hu hi4 true 98 (by omega) (by omega) _ hd.holds).mono ?_
            rintro e w9 ⟨p', u', val, cc, rfl, ⟨a', b', H8, rfl, hG8, hp', hu'⟩, hc0, hmp', hmu', hex⟩
            try have hnN := hG8.none hnN hN.lt
            try have hN := hN.below hG8.below
            have hnT := hG8.none hnT hT.lt
            have hnC := hG8.none hnC hC.lt
            have hC := hC.below hG8.below
            have hT := hT.below hG8.below
            have hle := hle.trans hG8.le
            have hd := hd.grown hG8
            refine hK.out _ _ (fun _ => ?_) (fun hHeld => ?_)
            · exact ⟨hC.cell 0 rfl, hC.cell 1 rfl, hC.cell 2 rfl, hC.cell 3 rfl, hC.cell 4 rfl, hC.cell 5 rfl, hC.cell 6 rfl, hC.cell 7 rfl⟩
            clear hK K
            have hHeld := hHeld (by decide)
            try simp only [Act.put, List.getElem_toArray, List.getElem_cons_zero, List.getElem_cons_succ, List.setIfInBounds_toArray, List.set_cons_zero, List.set_cons_succ]
            refine Ways.take (i := 3) (v := ?_) rfl (by kernel_rfl) (fun _ _ _ h => h) (Or.inl ⟨by rfl, ?_⟩) hHeld ?_
            rotate_left
            · (intro w hSw; (try dsimp only at hSw); go_simp; try with_reducible rfl)
            try simp only [Act.put, List.getElem_toArray, List.getElem_cons_zero, List.getElem_cons_succ, List.setIfInBounds_toArray, List.set_cons_zero, List.set_cons_succ]
            refine Ways.take (i := 4) (v := ?_) rfl (by kernel_rfl) (fun _ _ _ h => h) (Or.inl ⟨by rfl, ?_⟩) hHeld ?_
            rotate_left
            · (intro w hSw; (try dsimp only at hSw); go_simp; try with_reducible rfl)
            try simp only [Act.put, List.getElem_toArray, List.getElem_cons_zero, List.getElem_cons_succ, List.setIfInBounds_toArray, List.set_cons_zero, List.set_cons_succ]
            refine Ways.take (i := 5) (v := ?_) rfl (by kernel_rfl) (fun _ _ _ h => h) (Or.inl ⟨by rfl, ?_⟩) hHeld ?_
            rotate_left
            · (intro w hSw; (try dsimp only at hSw); go_simp; try with_reducible rfl)
            try simp only [Act.put, List.getElem_toArray, List.getElem_cons_zero, List.getElem_cons_succ, List.setIfInBounds_toArray, List.set_cons_zero, List.set_cons_succ]
            refine Ways.one (i := 7) rfl (by kernel_rfl) (fun K hK => ?_)
            rw [if_pos (by rfl)]
            refine wp_store_item _ _ _ rfl _ _ rfl rfl _ _ hN size_hdr rfl (hdr_one _ _ _ _) fun w10 hN hg10 => ?_
            have hC := hC.grown hg10 (by intro e; injection e with e; omega)
            have hT := hT.grown hg10 (by intro e; injection e with e; omega)
            have hd := hd.grownRow (by rintro q ⟨⟩; exact hnN) (by rintro q ⟨⟩; omega) hgl hg10
            refine hK.out _ _ (fun _ => ?_) (fun hHeld => ?_)
            · exact ⟨hC.cell 0 rfl, hC.cell 1 rfl, hC.cell 2 rfl, hC.cell 3 rfl, hC.cell 4 rfl, hC.cell 5 rfl, hC.cell 6 rfl, hC.cell 7 rfl⟩
            clear hK K
            have hHeld := hHeld (by decide)
            try simp only [Act.put, List.getElem_toArray, List.getElem_cons_zero, List.getElem_cons_succ, List.setIfInBounds_toArray, List.set_cons_zero, List.set_cons_succ]
            refine Ways.one (i := 8) rfl (by kernel_rfl) (fun K hK => ?_)
            go_simp
            refine hK.out _ _ (fun h => absurd rfl h) (fun _ => ?_)
            clear hK K
            try simp only [Act.put, List.getElem_toArray, List.getElem_cons_zero, List.getElem_cons_succ, List.setIfInBounds_toArray, List.set_cons_zero, List.set_cons_succ]
            refine Ways.done (by kernel_rfl) ?_
            go_wp2_with fail
            go_meet
            exact ⟨_, cc, p', u', a', b', H8, rfl, rfl, hC, hT, hN, hd, hle, hnC, hnT, hnN, hCN, hp', hu', hmp', hmu', fun h0 => by obtain ⟨x1, x2, x3⟩ := hc0 h0; have := encB_int 1; exact ⟨x1, by omega, by omega⟩⟩
        case rest =>
          clear hC hT hd hnC hnT
          obtain ⟨N, cc, p', u', a', b', H8, rfl, rfl, hC, hT, hN, hd, hle8, hnC, hnT, hnN, hCN, hp', hu', hmp', hmu', hc0⟩ := hcut
          have HC0 := Lib.hid hc0
          have N6 := Lib.hid (deck_Next wc hd.deck 6 (by omega) (by omega))
          have hp := hp.mono hle8
          have hu := hu.mono hle8
          clear hc0 hle8
          go_wp2_with (go_at_call 17; refine stop_in ?_)
          unfold Stopped
          refine N6.out.mono ?_
          rintro e w5 ⟨j, rfl, hj, hd5⟩
          have hC := hC.dealt hd5 (by omega)
          have hT := hT.dealt hd5 (by omega)
          have hN := hN.dealt hd5 (by omega)
          have hd := hd.trans hd5
          clear N6 hd5
          by_cases hgo : j = 5 ∧ cc = 0
          · obtain ⟨rfl, rfl⟩ := hgo
            have HK8 := Lib.hid (HC0.out rfl)
            clear HC0
            go_upto_region 16 with fail
            have n0' := hN.cell 0 rfl
            have n1' := hN.cell 1 rfl
            have n2' := hN.cell 2 rfl
            have n3' := hN.cell 3 rfl
            have n4' := hN.cell 4 rfl
            have n5' := hN.cell 5 rfl
            have n6' := hN.cell 6 rfl
            have n7' := hN.cell 7 rfl
            go_wp2_with (with_reducible refine stop_store ?_)
            unfold Stopped
            refine wpList_store_item rfl _ _ _ rfl rfl _ _ rfl rfl _ _ hC size_hdr rfl (hdr_one _ _ _ _) fun w11 hC11 hg11 => ?_
            have hT11 := hT.grown hg11 (by intro e; injection e with e; omega)
            have hN11 := hN.grown hg11 (by intro e; injection e with e; omega)
            have hd11 := hd.grownRow (row := some w1.heap.size) (by rintro q ⟨⟩; exact hnC) (by rintro q ⟨⟩; omega) hgl hg11
            clear hC hT hN hd n0' n1' n2' n3' n4' n5' n6' n7'
            go_upto_region 17 with fail
            go_cut [12] (fun s12 wx => ∃ (cc : Int) (p9 u9 : Itm) (a9 b9 : Ad) (H9 : Snap), s12 = .int .i64 cc ∧ Blk wx w1.heap.size 28 (hdrC p' a' u' b') ∧ Blk wx w.heap.size 28 (hdrC zeroItm ⟨none, 0, none, 0⟩ zeroItm ⟨none, 0, none, 0⟩) ∧ Blk wx N 28 (hdrC p9 a9 u9 b9) ∧
              Dealt w H wx H9 g ∧ H8.le H9 ∧ H9 w1.heap.size = none ∧ H9 w.heap.size = none ∧ IsItem H9 a9.ba a9.bc a9.ia a9.ic p9 ∧ IsItem H9 b9.ba b9.bc b9.ia b9.ic u9 ∧ Modest p9 ∧ Modest u9 ∧
              (cc = 0 → validH p9 u9 = true ∧ szL p9 ≤ szL p' + 27 ∧ szL u9 ≤ szL u' + 27))
            case first =>
              have hC := hC11.drew
              have hT := hT11.drew
              have hN := hN11.drew
              have hd := hd11.drew
              have hle := Snap.le.refl H8
              refine wp_region_ways 9 (fun w' => w'.cell? ⟨w1.heap.size, 0, none⟩ = some (.int .i64 p'.kind) ∧ w'.cell? ⟨w1.heap.size, 1, none⟩ = some (.int .u64 p'.n) ∧ w'.cell? ⟨w1.heap.size, 2, none⟩ = some (.slice a'.ba p'.bytes.length a'.bc) ∧ w'.cell? ⟨w1.heap.size, 3, none⟩ = some (.slice a'.ia p'.items.length a'.ic) ∧ w'.cell? ⟨w1.heap.size, 4, none⟩ = some (.int .i64 u'.kind) ∧ w'.cell? ⟨w1.heap.size, 5, none⟩ = some (.int .u64 u'.n) ∧ w'.cell? ⟨w1.heap.size, 6, none⟩ = some (.slice b'.ba u'.bytes.length b'.bc) ∧ w'.cell? ⟨w1.heap.size, 7, none⟩ = some (.slice b'.ia u'.items.length b'.ic)) (by kernel_rfl) (⟨hC.cell 0 rfl, hC.cell 1 rfl, hC.cell 2 rfl, hC.cell 3 rfl, hC.cell 4 rfl, hC.cell 5 rfl, hC.cell 6 rfl, hC.cell 7 rfl⟩) (fun hHeld => ?_)
              refine Ways.take (i := 0) (v := ?_) rfl (by kernel_rfl) (fun _ _ _ h => h) (Or.inl ⟨by rfl, ?_⟩) hHeld ?_
              rotate_left
              · (intro w hSw; (try dsimp only at hSw); go_simp; try with_reducible rfl)
              try simp only [Act.put, List.getElem_toArray, List.getElem_cons_zero, List.getElem_cons_succ, List.setIfInBounds_toArray, List.set_cons_zero, List.set_cons_succ]
              refine Ways.one (i := 1) rfl (by kernel_rfl) (fun K hK => ?_)
              go_simp
              refine (ref_Int 98 (by omega) (by omega) _ hd.holds).mono ?_
              rintro e w4 ⟨v4, rfl, ja, jb, jc, jd, H4, rfl, hG4, hi4⟩
              have hnN := hG4.none hnN hN.lt
              have hN := hN.below hG4.below
              have hnT := hG4.none hnT hT.lt
              have hnC := hG4.none hnC hC.lt
              have hC := hC.below hG4.below
              have hT := hT.below hG4.below
              have hle := hle.trans hG4.le
              have hd := hd.grown hG4
              refine hK.out _ _ (fun _ => ?_) (fun hHeld => ?_)
              · exact ⟨hC.cell 0 rfl, hC.cell 1 rfl, hC.cell 2 rfl, hC.cell 3 rfl, hC.cell 4 rfl, hC.cell 5 rfl, hC.cell 6 rfl, hC.cell 7 rfl⟩
              clear hK K
              have hHeld := hHeld (by decide)
              try simp only [Act.put, List.getElem_toArray, List.getElem_cons_zero, List.getElem_cons_succ, List.setIfInBounds_toArray, List.set_cons_zero, List.set_cons_succ]
              refine Ways.one (i := 2) rfl (by kernel_rfl) (fun K hK => ?_)
              go_simp
              have hO := OwnI.lit (w := w4) (ItemsC.one hi4) w4.heap.size (Nat.le_refl _) (by simp)
              have hC := hC.alloc (.cells (itemC (intP 98) ja jb jc jd).toArray 26)
              have hT := hT.alloc (.cells (itemC (intP 98) ja jb jc jd).toArray 26)
              have hwN := hN.lt
              have hN := hN.alloc (.cells (itemC (intP 98) ja jb jc jd).toArray 26)
              have hd := hd.alloc (.cells (itemC (intP 98) ja jb jc jd).toArray 26)
              obtain ⟨H5, hl5, hh5, hf5, hz5, hle1, hle2, hel5⟩ := hO.snap hd.holds (fun q hq => by cases hq; exact hG4.holds.none_of_ge (Nat.le_refl _))
              have hk5 : ∀ q, q < w4.heap.size → H4 q = none → H5 q = none := fun q hq h0 => snap_keep hf5 h0 (fun e => by simp at e; omega)
              have hd := hd.snap (B := w4.heap.size) hl5 hh5 hf5 (fun q hq => by simp at hq; omega) (by omega) hgl
              have hnN := hk5 _ hwN hnN
              have hnT := hk5 _ (by omega) hnT
              have hnC := hk5 _ (by omega) hnC
              have hle := hle.trans hl5
              refine hK.out _ _ (fun _ => ?_) (fun hHeld => ?_)
              · exact ⟨hC.cell 0 rfl, hC.cell 1 rfl, hC.cell 2 rfl, hC.cell 3 rfl, hC.cell 4 rfl, hC.cell 5 rfl, hC.cell 6 rfl, hC.cell 7 rfl⟩
              clear hK K
              have hHeld := hHeld (by decide)
              try simp only [Act.put, List.getElem_toArray, List.getElem_cons_zero, List.getElem_cons_succ, List.setIfInBounds_toArray, List.set_cons_zero, List.set_cons_succ]
              refine Ways.one (i := 3) rfl (by kernel_rfl) (fun K hK => ?_)
              go_simp
              refine (ref_List (l := [intP 98]) ⟨hle1, hle2, hel5⟩ (ModestL.of fun y hy => by rw [List.mem_singleton.1 hy]; exact modest_int 98) (by simp) _ hd.holds).mono ?_
              rintro e w7 ⟨v7, rfl, la, lb, lc, ld, H7, rfl, hG7, hi7⟩
              have hnN := hG7.none hnN hN.lt
              have hN := hN.below hG7.below
              have hnT := hG7.none hnT hT.lt
              have hnC := hG7.none hnC hC.lt
              have hC := hC.below hG7.below
              have hT := hT.below hG7.below
              have hle := hle.trans hG7.le
              have hd := hd.grown hG7
              refine hK.out _ _ (fun _ => ?_) (fun hHeld => ?_)
              · exact ⟨hC.cell 0 rfl, hC.cell 1 rfl, hC.cell 2 rfl, hC.cell 3 rfl, hC.cell 4 rfl, hC.cell 5 rfl, hC.cell 6 rfl, hC.cell 7 rfl⟩
              clear hK K
              have hHeld := hHeld (by decide)
              try simp only [Act.put, List.getElem_toArray, List.getElem_cons_zero, List.getElem_cons_succ, List.setIfInBounds_toArray, List.set_cons_zero, List.set_cons_succ]
              refine Ways.one (i := 4) rfl (by kernel_rfl) (fun K hK => ?_)
              go_simp
              refine (ref12_Put (hTab.mono hd.le) (a := a') (b := b') (d := ⟨la, lb, lc, ld⟩) (hp'.mono hle) (hu'.mono hle) hi7 true 2 (by omega) (by omega) _ hd.holds).mono ?_
              rintro e w9 ⟨p9, u9, val, cc, rfl, ⟨a9, b9, H9, rfl, hG9, hp9, hu9⟩, hc0, hmp9, hmu9, hex⟩
              have hnN := hG9.none hnN hN.lt
              have hN := hN.below hG9.below
              have hnT := hG9.none hnT hT.lt
              have hnC := hG9.none hnC hC.lt
              have hC := hC.below hG9.below
              have hT := hT.below hG9.below
              have hle := hle.trans hG9.le
              have hd := hd.grown hG9
              refine hK.out _ _ (fun _ => ?_) (fun hHeld => ?_)
              · exact ⟨hC.cell 0 rfl, hC.cell 1 rfl, hC.cell 2 rfl, hC.cell 3 rfl, hC.cell 4 rfl, hC.cell 5 rfl, hC.cell 6 rfl, hC.cell 7 rfl⟩
              clear hK K
              have hHeld := hHeld (by decide)
              try simp only [Act.put, List.getElem_toArray, List.getElem_cons_zero, List.getElem_cons_succ, List.setIfInBounds_toArray, List.set_cons_zero, List.set_cons_succ]
              refine Ways.take (i := 5) (v := ?_) rfl (by kernel_rfl) (fun _ _ _ h => h) (Or.inl ⟨by rfl, ?_⟩) hHeld ?_
              rotate_left
              · (intro w hSw; (try dsimp only at hSw); go_simp; try with_reducible rfl)
              try simp only [Act.put, List.getElem_toArray, List.getElem_cons_zero, List.getElem_cons_succ, List.setIfInBounds_toArray, List.set_cons_zero, List.set_cons_succ]
              refine Ways.take (i := 6) (v := ?_) rfl (by kernel_rfl) (fun _ _ _ h => h) (Or.inl ⟨by rfl, ?_⟩) hHeld ?_
              rotate_left
              · (intro w hSw; (try dsimp only at hSw); go_simp; try with_reducible rfl)
              try simp only [Act.put, List.getElem_toArray, List.getElem_cons_zero, List.getElem_cons_succ, List.setIfInBounds_toArray, List.set_cons_zero, List.set_cons_succ]
              refine Ways.take (i := 7) (v := ?_) rfl (by kernel_rfl) (fun _ _ _ h => h) (Or.inl ⟨by rfl, ?_⟩) hHeld ?_
              rotate_left
              · (intro w hSw; (try dsimp only at hSw); go_simp; try with_reducible rfl)
              try simp only [Act.put, List.getElem_toArray, List.getElem_cons_zero, List.getElem_cons_succ, List.setIfInBounds_toArray, List.set_cons_zero, List.set_cons_succ]
              refine Ways.one (i := 8) rfl (by kernel_rfl) (fun K hK => ?_)
              rw [if_pos (by rfl)]
              refine wp_store_item _ _ _ rfl _ _ rfl rfl _ _ hN size_hdr rfl (hdr_one _ _ _ _) fun w10 hN hg10 => ?_
              have hC := hC.grown hg10 (by intro e; injection e with e; omega)
              have hT := hT.grown hg10 (by intro e; injection e with e; omega)
              have hd := hd.grownRow (row := some N) (by rintro q ⟨⟩; exact hnN) (by rintro q ⟨⟩; omega) hgl hg10
              refine hK.out _ _ (fun _ => ?_) (fun hHeld => ?_)
              · exact ⟨hC.cell 0 rfl, hC.cell 1 rfl, hC.cell 2 rfl, hC.cell 3 rfl, hC.cell 4 rfl, hC.cell 5 rfl, hC.cell 6 rfl, hC.cell 7 rfl⟩
              clear hK K
              have hHeld := hHeld (by decide)
              try simp only [Act.put, List.getElem_toArray, List.getElem_cons_zero, List.getElem_cons_succ, List.setIfInBounds_toArray, List.set_cons_zero, List.set_cons_succ]
              refine Ways.one (i := 9) rfl (by kernel_rfl) (fun K hK => ?_)
              go_simp
              refine hK.out _ _ (fun h => absurd rfl h) (fun _ => ?_)
              clear hK K
              try simp only [Act.put, List.getElem_toArray, List.getElem_cons_zero, List.getElem_cons_succ, List.setIfInBounds_toArray, List.set_cons_zero, List.set_cons_succ]
              refine Ways.done (by kernel_rfl) ?_
              go_wp2_with fail
              go_meet
              exact ⟨cc, p9, u9, a9, b9, H9, rfl, hC, hT, hN, hd, hle, hnC, hnT, hp9, hu9, hmp9, hmu9, fun h0 => by obtain ⟨x1, x2, x3⟩ := hc0 h0; have := crit_mod.2; exact ⟨x1, by omega, by omega⟩⟩
            case rest =>
              clear hC11 hT11 hN11 hd11 hnC hnT hnN
              obtain ⟨cc, p9, u9, a9, b9, H9, rfl, hC, hT, hN, hd, hle9, hnC, hnT, hp9, hu9, hmp9, hmu9, hc9⟩ := hcut
              have HC9 := Lib.hid hc9
              have hp' := hp'.mono hle9
              have hu' := hu'.mono hle9
              clear hc9
              by_cases hcc : cc = 0
              · subst hcc
                have HK9 := Lib.hid (HC9.out rfl)
                clear HC9
                go_upto_region 19 with fail
                have n0' := hN.cell 0 rfl
                have n1' := hN.cell 1 rfl
                have n2' := hN.cell 2 rfl
                have n3' := hN.cell 3 rfl
                have n4' := hN.cell 4 rfl
                have n5' := hN.cell 5 rfl
                have n6' := hN.cell 6 rfl
                have n7' := hN.cell 7 rfl
                go_wp2_with (with_reducible refine stop_store ?_)
                unfold Stopped
                refine wpList_store_item rfl _ _ _ rfl rfl _ _ rfl rfl _ _ hC size_hdr rfl (hdr_one _ _ _ _) fun w12 hC hg12 => ?_
                have hT := hT.grown hg12 (by intro e; injection e with e; omega)
                have hd := hd.grownRow (row := some w1.heap.size) (by rintro q ⟨⟩; exact hnC) (by rintro q ⟨⟩; omega) hgl hg12
                clear hN n0' n1' n2' n3' n4' n5' n6' n7'
                have k0' := hC.cell 0 rfl
                have k1' := hC.cell 1 rfl
                have k2' := hC.cell 2 rfl
                have k3' := hC.cell 3 rfl
                have k4' := hC.cell 4 rfl
                have k5' := hC.cell 5 rfl
                have k6' := hC.cell 6 rfl
                have k7' := hC.cell 7 rfl
                go_wp2_with (with_reducible refine stop_store ?_)
                unfold Stopped
                refine wpList_store_item rfl _ _ _ rfl rfl _ _ rfl rfl _ _ hT size_hdr rfl (hdr_one _ _ _ _) fun wz hTz hgz => ?_
                have hdz := hd.grownRow (row := some w.heap.size) (by rintro q ⟨⟩; exact hnT) (by rintro q ⟨⟩; exact Nat.le_refl _) hgl hgz
                go_wp2_with fail
                refine ret_row rfl rfl hTz rfl rfl size_hdr rfl ?_
                exact ⟨p9, u9, a9, b9, H9, rfl, hdz, hp9, hu9, hmp9, hmu9, fun h10 => by obtain ⟨z1, z2, z3⟩ := HK2.out h10; obtain ⟨x1, x2, x3⟩ := HK8.out; obtain ⟨y1, y2, y3⟩ := HK9.out; exact ⟨y1, by omega⟩⟩
              · have b1 : (cc == 0) = false := by simp [hcc]
                have p1 : (cc = 0) = False := eq_false hcc
                clear hcc
                go_upto_region 20 with fail
                have k0' := hC.cell 0 rfl
                have k1' := hC.cell 1 rfl
                have k2' := hC.cell 2 rfl
                have k3' := hC.cell 3 rfl
                have k4' := hC.cell 4 rfl
                have k5' := hC.cell 5 rfl
                have k6' := hC.cell 6 rfl
                have k7' := hC.cell 7 rfl
                go_wp2_with (with_reducible refine stop_store ?_)
                unfold Stopped
                refine wpList_store_item rfl _ _ _ rfl rfl _ _ rfl rfl _ _ hT size_hdr rfl (hdr_one _ _ _ _) fun wz hTz hgz => ?_
                have hdz := hd.grownRow (row := some w.heap.size) (by rintro q ⟨⟩; exact hnT) (by rintro q ⟨⟩; exact Nat.le_refl _) hgl hgz
                go_wp2_with fail
                refine ret_row rfl rfl hTz rfl rfl size_hdr rfl ?_
                exact ⟨p', u', a', b', H9, rfl, hdz, hp', hu', hmp', hmu', fun h10 => by obtain ⟨z1, z2, z3⟩ := HK2.out h10; obtain ⟨x1, x2, x3⟩ := HK8.out; exact ⟨x1, by omega⟩⟩
          · have hb : ((j : Int) == 5) = false ∨ (((j : Int) == 5) = true ∧ (cc == 0) = false) := by
              by_cases h5 : j = 5
              · right; exact ⟨by simp [h5], by have : cc ≠ 0 := fun h => hgo ⟨h5, h⟩; simp [this]⟩
              · left; rw [beq_eq_false_iff_ne]; omega
            clear hgo
            rcases hb with hb | ⟨hb, hb2⟩
            · go_upto_region 20 with fail
              have k0' := hC.cell 0 rfl
              have k1' := hC.cell 1 rfl
              have k2' := hC.cell 2 rfl
              have k3' := hC.cell 3 rfl
              have k4' := hC.cell 4 rfl
              have k5' := hC.cell 5 rfl
              have k6' := hC.cell 6 rfl
              have k7' := hC.cell 7 rfl
              go_wp2_with (with_reducible refine stop_store ?_)
              unfold Stopped
              refine wpList_store_item rfl _ _ _ rfl rfl _ _ rfl rfl _ _ hT size_hdr rfl (hdr_one _ _ _ _) fun wz hTz hgz => ?_
              have hdz := hd.grownRow (row := some w.heap.size) (by rintro q ⟨⟩; exact hnT) (by rintro q ⟨⟩; exact Nat.le_refl _) hgl hgz
              go_wp2_with fail
              refine ret_row rfl rfl hTz rfl rfl size_hdr rfl ?_
              exact ⟨p, u, a, b, H8, rfl, hdz, hp, hu, hmp, hmu, fun h10 => by obtain ⟨z1, z2, z3⟩ := HK2.out h10; exact ⟨z1, by omega⟩⟩
            · go_upto_region 20 with fail
              have k0' := hC.cell 0 rfl
              have k1' := hC.cell 1 rfl
              have k2' := hC.cell 2 rfl
              have k3' := hC.cell 3 rfl
              have k4' := hC.cell 4 rfl
              have k5' := hC.cell 5 rfl
              have k6' := hC.cell 6 rfl
              have k7' := hC.cell 7 rfl
              go_wp2_with (with_reducible refine stop_store ?_)
              unfold Stopped
              refine wpList_store_item rfl _ _ _ rfl rfl _ _ rfl rfl _ _ hT size_hdr rfl (hdr_one _ _ _ _) fun wz hTz hgz => ?_
              have hdz := hd.grownRow (row := some w.heap.size) (by rintro q ⟨⟩; exact hnT) (by rintro q ⟨⟩; exact Nat.le_refl _) hgl hgz
              go_wp2_with fail
              refine ret_row rfl rfl hTz rfl rfl size_hdr rfl ?_
              exact ⟨p, u, a, b, H8, rfl, hdz, hp, hu, hmp, hmu, fun h10 => by obtain ⟨z1, z2, z3⟩ := HK2.out h10; exact ⟨z1, by omega⟩⟩
end Go.Proofs.YtdbhgngikglmcaaDoor
