/- squeezed. Walks: the deck's external data. -/
import Derived.Test.YtlebpackbfcfeaaDoorK42
import Derived.Test.YtlebpackbfcfeaaDoorK12
set_option linter.unusedVariables false
set_option linter.unusedSimpArgs false
set_option maxRecDepth 100000
set_option maxHeartbeats 12800000
namespace Go.Proofs.YtlebpackbfcfeaaDoor
open Go.RowKit
theorem OwnX.dealt {α : Type} {L : Lie α} {t : TypeId} {w w' : World} {H H' : Snap} {g base : Nat} {v : Value} {K : Snap} {l : List α} (h : OwnX L t w base v K l) (hd : Dealt w H w' H' g) (hb : g < base) : OwnX L t w' base v K l := by
 refine h.kept hd.grows.grown ?_
 cases hv : v.ownBlock with
 | none => exact .inl rfl
 | some k => exact .inr (fun e => by injection e with e; have := h.lt k hv; omega)
theorem Dealt.newBlk {w w' : World} {H H' : Snap} {g : Nat} (_h : Dealt w H w' H' g) (t : TypeId) (cs : Array Value) : Blk (w'.alloc (.cells cs t)) w'.heap.size t cs := Blk.new _ _ _
theorem Dealt.gtSize {w w' : World} {H H' : Snap} {g : Nat} (h : Dealt w H w' H' g) : w'.heap.size ≠ g := fun e => by have := h.deck.deck.lt; omega
theorem Ways.three {P : Program} {ops : Array Oper} {Q : Exit → Act → World → Prop} {md : Region.Mode} {S : World → Prop} {z : Nat} {i j l : Nat} {o o' o2 : Oper} {n : Nat} {L : Array Bool} {a : Act} {w : World} (hi : ops[i]? = some o) (hj : ops[j]? = some o') (hl : ops[l]? = some o2) (hr : Region.ready md ops L = [i, j, l])
  (h : ∀ K : Act → World → Prop, Shut (∀ a w, (i ≠ z → S w) → ((i ≠ z → S w) → Ways P md ops Q S z n (L.setIfInBounds i true) a w) → K a w) →
   if Region.wanted o (yielded ops a.tmps) = true then Oper.wp P o a w K Q else K (a.put o.dst undef) w)
  (h' : ∀ K : Act → World → Prop, Shut (∀ a w, (j ≠ z → S w) → ((j ≠ z → S w) → Ways P md ops Q S z n (L.setIfInBounds j true) a w) → K a w) →
   if Region.wanted o' (yielded ops a.tmps) = true then Oper.wp P o' a w K Q else K (a.put o'.dst undef) w)
  (h2 : ∀ K : Act → World → Prop, Shut (∀ a w, (l ≠ z → S w) → ((l ≠ z → S w) → Ways P md ops Q S z n (L.setIfInBounds l true) a w) → K a w) →
   if Region.wanted o2 (yielded ops a.tmps) = true then Oper.wp P o2 a w K Q else K (a.put o2.dst undef) w) : Ways P md ops Q S z (n + 1) L a w := by
 refine ⟨fun h0 => (by rw [hr] at h0; cases h0), fun k hk => ?_⟩
 rw [hr] at hk
 rcases (by simpa using hk : k = i ∨ k = j ∨ k = l) with hk | hk | hk
 ·subst hk
  exact wpOp_step hi fun K hK => h K fun a w hS hW => hK a w ⟨hS, hW hS⟩
 ·subst hk
  exact wpOp_step hj fun K hK => h' K fun a w hS hW => hK a w ⟨hS, hW hS⟩
 ·subst hk
  exact wpOp_step hl fun K hK => h2 K fun a w hS hW => hK a w ⟨hS, hW hS⟩
def tabL (q : Nat) : Int := match q with | 0 => 0 | 1 => 1 | 2 => 5 | 3 => 24 | 4 => 300 | 5 => 65535 | 6 => -1 | 7 => -25 | _ => -65535
theorem tabL_bnd (q : Nat) : -65535 ≤ tabL q ∧ tabL q ≤ 65535 := by unfold tabL; split <;> omega
theorem tab_cell (q : Nat) (hq : q < 9) : (#[.int .i64 0, .int .i64 1, .int .i64 5, .int .i64 24, .int .i64 300, .int .i64 65535, .int .i64 (-1), .int .i64 (-25), .int .i64 (-65535)] : Array Value)[q]? = some (.int .i64 (tabL q)) := by
 rcases (by omega : q = 0 ∨ q = 1 ∨ q = 2 ∨ q = 3 ∨ q = 4 ∨ q = 5 ∨ q = 6 ∨ q = 7 ∨ q = 8) with rfl | rfl | rfl | rfl | rfl | rfl | rfl | rfl | rfl <;> rfl
def ExtsMade (w : World) (H : Snap) (g : Nat) (e : Ending) (w' : World) : Prop :=
 ∃ A c l, e = .returned (.slice A l.length c) ∧ l.length ≤ 100 ∧ (∀ x ∈ l, -65535 ≤ x.label ∧ x.label ≤ 65535 ∧ x.val.length ≤ 600) ∧ ∃ H', IsRow lieE H' A c l ∧ Dealt w H w' H' g
theorem mk2_Ext {H : Snap} {g : Nat} (w : World) (hD : DeckIn w g H) :
  Calls Tryd.prog 10 #[.pointer (some ⟨g, 0, none⟩)] w (ExtsMade w H g) := by
 have hgl := hD.deck.lt
 have NX := Hh (deck_Next w hD 7 (by omega) (by omega))
 clear hD
 go_enter Tryd.func10, Tryd.ntmps10
 go_wp2_with fail
 refine NX.out.mono ?_
 rintro e w1 ⟨r, rfl, hr, hd1⟩
 have K0 : IntKind.i64.wrap ((r : Int) - 3) = (r : Int) - 3 := IntWalk.i64_in _ (by omega)
 have hw1 := Hh hd1.size
 clear NX
 go_wp2_with fail
 go_loopw [3, 4] (fun v3 v4 wr => ∃ (k : Int) (Hr : Snap) (VA : Option Addr) (vc vn : Nat) (l : List Ext), v4 = .int .i64 k ∧ v3 = .slice VA vn vc ∧ vn = l.length ∧ -10 ≤ k ∧ k ≤ 10 ∧ (l.length : Int) + (if 0 ≤ k then k else 0) ≤ 20 ∧ Dealt w H wr Hr g ∧ OwnX lieE 62 wr w.heap.size (.slice VA vn vc) Hr l ∧ (∀ q, (Value.slice VA vn vc).ownBlock = some q → Hr q = none) ∧ (∀ x ∈ l, -65535 ≤ x.label ∧ x.label ≤ 65535 ∧ x.val.length ≤ 600)) (fun _ v4 _ => (intOf v4).toNat)
 case atStart => exact ⟨(r : Int) - 3, H, none, 0, 0, [], rfl, rfl, rfl, by omega, by omega, by split <;> simp <;> omega, hd1, OwnX.nil _ _ _ _ _, by intro q hq; simp [Value.ownBlock] at hq, by simp⟩
 case round =>
  clear hd1 K0 hr
  obtain ⟨k, Hr, VA, vc, vn, l, rfl, rfl, rfl, hk1, hk2, hkl, hdr, hOr, hnr, hall⟩ := hrel
  have HALL := Hh hall
  have HKL := Hh (And.intro hk1 (And.intro hk2 hkl))
  clear hall hk1 hk2 hkl
  by_cases h0 : 0 < k
  ·have h0d : decide (0 < k) = true := decide_eq_true h0
   have KM : IntKind.i64.wrap (k - 1) = k - 1 := IntWalk.i64_in _ (by have := HKL.out; omega)
   have hgr := hdr.deck.deck.lt
   have hol := Hh (show ∀ q, (Value.slice VA l.length vc).ownBlock = some q → w.heap.size ≤ q ∧ q < wr.heap.size from fun q hq => hOr.lt q hq)
   have HNR := Hh hnr
   have HSZ := Hh hdr.size
   clear hnr
   go_upto_region 5 with fail
   have hd0 : Dealt wr.drew Hr wr.drew Hr g := Dealt.refl hdr.deck.drew
   have hdw := hdr.drew
   have hO0 : OwnX lieE 62 wr.drew w.heap.size (.slice VA l.length vc) Hr l := hOr
   clear hdr hOr
   go_cut [5] (fun s5 wx => ∃ (N : Nat) (lb : Int) (hb : Bool), s5 = .pointer (some ⟨N, 0, none⟩) ∧ Blk wx N 62 #[.int .i64 lb, .bool hb, .slice none 0 0] ∧ -65535 ≤ lb ∧ lb ≤ 65535 ∧ Dealt w H wx Hr g ∧ OwnX lieE 62 wx w.heap.size (.slice VA l.length vc) Hr l ∧ wr.heap.size ≤ N ∧ Hr N = none)
   case first =>
    refine wp_region_ways 10 (fun _ => True) (by kernel_rfl) (trivial) (fun hHeld => ?_)
    refine TkT 1 (v := ?_) rfl ?_ ?_
    rotate_left
    ·intro w s; go_simp; try with_reducible rfl
    try simp only [Act.put, zz1, zz2, zz3, zz4, zz5, zz6]
    refine TkT 5 (v := ?_) rfl ?_ ?_
    rotate_left
    ·intro w s; go_simp; try with_reducible rfl
    try simp only [Act.put, zz1, zz2, zz3, zz4, zz5, zz6]
    refine Ways.three (i := 0) (j := 2) (l := 9) rfl rfl rfl (by kernel_rfl) (fun K hK => ?_) (fun K hK => ?_) (fun K hK => ?_)
    ·go_simp
     have hTab := hd0.newBlk 3 #[.int .i64 0, .int .i64 1, .int .i64 5, .int .i64 24, .int .i64 300, .int .i64 65535, .int .i64 (-1), .int .i64 (-25), .int .i64 (-65535)]
     (try have hNa := hNa.alloc (.cells #[.int .i64 0, .int .i64 1, .int .i64 5, .int .i64 24, .int .i64 300, .int .i64 65535, .int .i64 (-1), .int .i64 (-25), .int .i64 (-65535)] 3))
     have hO0 := hO0.alloc (.cells #[.int .i64 0, .int .i64 1, .int .i64 5, .int .i64 24, .int .i64 300, .int .i64 65535, .int .i64 (-1), .int .i64 (-25), .int .i64 (-65535)] 3)
     have hTg := hd0.gtSize
     have hd0 := hd0.alloc (.cells #[.int .i64 0, .int .i64 1, .int .i64 5, .int .i64 24, .int .i64 300, .int .i64 65535, .int .i64 (-1), .int .i64 (-25), .int .i64 (-65535)] 3)
     refine hK.out _ _ (fun _ => ?_) (fun hHeld => ?_)
     ·exact trivial
     clear hK K
     have hHeld := hHeld (by decide)
     try simp only [Act.put, zz1, zz2, zz3, zz4, zz5, zz6]
     refine Ways.two (i := 2) (j := 9) rfl rfl (by kernel_rfl) (fun K hK => ?_) (fun K hK => ?_)
     ·go_simp
      refine (deck_Next _ hd0.deck 9 (by omega) (by omega)).mono ?_
      rintro e w3 ⟨q9, rfl, hq9, hd9⟩
      (try have hTab := hTab.dealt hd9 hTg)
      (try have hNa := hNa.dealt hd9 hNg)
      have hO0 := hO0.dealt hd9 hgl
      have hd0 := hd0.trans hd9
      have tc := tab_cell q9 (by omega)
      have tb := Hh (tabL_bnd q9)
      obtain ⟨lb, hlb⟩ : ∃ lb, tabL q9 = lb := ⟨_, rfl⟩
      rw [hlb] at tc tb
      clear hd9 hlb
      refine hK.out _ _ (fun _ => ?_) (fun hHeld => ?_)
      ·exact trivial
      clear hK K
      have hHeld := hHeld (by decide)
      try simp only [Act.put, zz1, zz2, zz3, zz4, zz5, zz6]
      refine TkT 3 (v := ?_) rfl ?_ ?_
      rotate_left
      ·intro w s; go_simp; try with_reducible rfl
      try simp only [Act.put, zz1, zz2, zz3, zz4, zz5, zz6]
      refine Ways.three (i := 4) (j := 6) (l := 9) rfl rfl rfl (by kernel_rfl) (fun K hK => ?_) (fun K hK => ?_) (fun K hK => ?_)
      ·have t0 := hTab.cell q9 tc
       (try simp only [drew_heap, size_alloc] at t0)
       go_simp
       refine hK.out _ _ (fun _ => ?_) (fun hHeld => ?_)
       ·exact trivial
       clear hK K
       have hHeld := hHeld (by decide)
       try simp only [Act.put, zz1, zz2, zz3, zz4, zz5, zz6]
       refine Ways.two (i := 6) (j := 9) rfl rfl (by kernel_rfl) (fun K hK => ?_) (fun K hK => ?_)
       ·go_simp
        refine (deck_Next _ hd0.deck 2 (by omega) (by omega)).mono ?_
        rintro e w4 ⟨q2, rfl, hq2, hd2⟩
        (try have hTab := hTab.dealt hd2 hTg)
        (try have hNa := hNa.dealt hd2 hNg)
        have hO0 := hO0.dealt hd2 hgl
        have hd0 := hd0.trans hd2
        clear hd2
        refine hK.out _ _ (fun _ => ?_) (fun hHeld => ?_)
        ·exact trivial
        clear hK K
        have hHeld := hHeld (by decide)
        try simp only [Act.put, zz1, zz2, zz3, zz4, zz5, zz6]
        refine TkT 7 (v := ?_) rfl ?_ ?_
        rotate_left
        ·intro w s; go_simp; try with_reducible rfl
        try simp only [Act.put, zz1, zz2, zz3, zz4, zz5, zz6]
        refine TkT 8 (v := ?_) rfl ?_ ?_
        rotate_left
        ·intro w s; go_simp; try with_reducible rfl
        try simp only [Act.put, zz1, zz2, zz3, zz4, zz5, zz6]
        refine To 9 rfl fun K hK => ?_
        go_simp
        have hNa := hd0.newBlk 62 #[.int .i64 0, .bool false, .slice none 0 0]
        have hNg := hd0.gtSize
        have hNw := Hh (And.intro hd0.size (hd0.holds.none_of_ge (Nat.le_refl _)))
        have hO0 := hO0.alloc (.cells #[.int .i64 0, .bool false, .slice none 0 0] 62)
        (try have hTab := hTab.alloc (.cells #[.int .i64 0, .bool false, .slice none 0 0] 62))
        have hd0 := hd0.alloc (.cells #[.int .i64 0, .bool false, .slice none 0 0] 62)
        refine hK.out _ _ (fun _ => ?_) (fun hHeld => ?_)
        ·exact trivial
        clear hK K
        have hHeld := hHeld (by decide)
        try simp only [Act.put, zz1, zz2, zz3, zz4, zz5, zz6]
        refine To 10 rfl fun K hK => ?_
        first | refine wp_store_item _ _ _ rfl _ _ rfl rfl _ _ hNa size_ext rfl (one3 _ _ _ rfl rfl rfl) fun w6 hN6 hg6 => ?_ | (simp only [drew_heap, size_alloc] at hNa hNw; refine wp_store_item _ _ _ rfl _ _ rfl rfl _ _ hNa size_ext rfl (one3 _ _ _ rfl rfl rfl) fun w6 hN6 hg6 => ?_)
        have hd6 := hd0.gb hNw.out.2 hNw.out.1 hgr hg6
        have hO6 := hO0.kl hg6 (fun q hv => Nat.lt_of_lt_of_le (hol.out q hv).2 hNw.out.1)
        go_simp
        refine hK.out _ _ (fun h => absurd rfl h) (fun _ => ?_)
        clear hK K
        try simp only [Act.put, zz1, zz2, zz3, zz4, zz5, zz6]
        refine Ways.done (by kernel_rfl) ?_
        go_wp2_with fail
        go_meet
        exact ⟨_, lb, _, rfl, hN6, tb.out.1, tb.out.2, hdw.trans hd6, hO6, hNw.out.1, hNw.out.2⟩
       ·go_simp
        have hNa := hd0.newBlk 62 #[.int .i64 0, .bool false, .slice none 0 0]
        have hNg := hd0.gtSize
        have hNw := Hh (And.intro hd0.size (hd0.holds.none_of_ge (Nat.le_refl _)))
        have hO0 := hO0.alloc (.cells #[.int .i64 0, .bool false, .slice none 0 0] 62)
        (try have hTab := hTab.alloc (.cells #[.int .i64 0, .bool false, .slice none 0 0] 62))
        have hd0 := hd0.alloc (.cells #[.int .i64 0, .bool false, .slice none 0 0] 62)
        refine hK.out _ _ (fun _ => ?_) (fun hHeld => ?_)
        ·exact trivial
        clear hK K
        have hHeld := hHeld (by decide)
        try simp only [Act.put, zz1, zz2, zz3, zz4, zz5, zz6]
        refine To 6 rfl fun K hK => ?_
        go_simp
        refine (deck_Next _ hd0.deck 2 (by omega) (by omega)).mono ?_
        rintro e w4 ⟨q2, rfl, hq2, hd2⟩
        (try have hTab := hTab.dealt hd2 hTg)
        (try have hNa := hNa.dealt hd2 hNg)
        have hO0 := hO0.dealt hd2 hgl
        have hd0 := hd0.trans hd2
        clear hd2
        refine hK.out _ _ (fun _ => ?_) (fun hHeld => ?_)
        ·exact trivial
        clear hK K
        have hHeld := hHeld (by decide)
        try simp only [Act.put, zz1, zz2, zz3, zz4, zz5, zz6]
        refine TkT 7 (v := ?_) rfl ?_ ?_
        rotate_left
        ·intro w s; go_simp; try with_reducible rfl
        try simp only [Act.put, zz1, zz2, zz3, zz4, zz5, zz6]
        refine TkT 8 (v := ?_) rfl ?_ ?_
        rotate_left
        ·intro w s; go_simp; try with_reducible rfl
        try simp only [Act.put, zz1, zz2, zz3, zz4, zz5, zz6]
        refine To 10 rfl fun K hK => ?_
        first | refine wp_store_item _ _ _ rfl _ _ rfl rfl _ _ hNa size_ext rfl (one3 _ _ _ rfl rfl rfl) fun w6 hN6 hg6 => ?_ | (simp only [drew_heap, size_alloc] at hNa hNw; refine wp_store_item _ _ _ rfl _ _ rfl rfl _ _ hNa size_ext rfl (one3 _ _ _ rfl rfl rfl) fun w6 hN6 hg6 => ?_)
        have hd6 := hd0.gb hNw.out.2 hNw.out.1 hgr hg6
        have hO6 := hO0.kl hg6 (fun q hv => Nat.lt_of_lt_of_le (hol.out q hv).2 hNw.out.1)
        go_simp
        refine hK.out _ _ (fun h => absurd rfl h) (fun _ => ?_)
        clear hK K
        try simp only [Act.put, zz1, zz2, zz3, zz4, zz5, zz6]
        refine Ways.done (by kernel_rfl) ?_
        go_wp2_with fail
        go_meet
        exact ⟨_, lb, _, rfl, hN6, tb.out.1, tb.out.2, hdw.trans hd6, hO6, hNw.out.1, hNw.out.2⟩
      ·go_simp
       refine (deck_Next _ hd0.deck 2 (by omega) (by omega)).mono ?_
       rintro e w4 ⟨q2, rfl, hq2, hd2⟩
       (try have hTab := hTab.dealt hd2 hTg)
       (try have hNa := hNa.dealt hd2 hNg)
       have hO0 := hO0.dealt hd2 hgl
       have hd0 := hd0.trans hd2
       clear hd2
       refine hK.out _ _ (fun _ => ?_) (fun hHeld => ?_)
       ·exact trivial
       clear hK K
       have hHeld := hHeld (by decide)
       try simp only [Act.put, zz1, zz2, zz3, zz4, zz5, zz6]
       refine TkT 7 (v := ?_) rfl ?_ ?_
       rotate_left
       ·intro w s; go_simp; try with_reducible rfl
       try simp only [Act.put, zz1, zz2, zz3, zz4, zz5, zz6]
       refine Ways.two (i := 4) (j := 9) rfl rfl (by kernel_rfl) (fun K hK => ?_) (fun K hK => ?_)
       ·have t0 := hTab.cell q9 tc
        (try simp only [drew_heap, size_alloc] at t0)
        go_simp
        refine hK.out _ _ (fun _ => ?_) (fun hHeld => ?_)
        ·exact trivial
        clear hK K
        have hHeld := hHeld (by decide)
        try simp only [Act.put, zz1, zz2, zz3, zz4, zz5, zz6]
        refine TkT 8 (v := ?_) rfl ?_ ?_
        rotate_left
        ·intro w s; go_simp; try with_reducible rfl
        try simp only [Act.put, zz1, zz2, zz3, zz4, zz5, zz6]
        refine To 9 rfl fun K hK => ?_
        go_simp
        have hNa := hd0.newBlk 62 #[.int .i64 0, .bool false, .slice none 0 0]
        have hNg := hd0.gtSize
        have hNw := Hh (And.intro hd0.size (hd0.holds.none_of_ge (Nat.le_refl _)))
        have hO0 := hO0.alloc (.cells #[.int .i64 0, .bool false, .slice none 0 0] 62)
        (try have hTab := hTab.alloc (.cells #[.int .i64 0, .bool false, .slice none 0 0] 62))
        have hd0 := hd0.alloc (.cells #[.int .i64 0, .bool false, .slice none 0 0] 62)
        refine hK.out _ _ (fun _ => ?_) (fun hHeld => ?_)
        ·exact trivial
        clear hK K
        have hHeld := hHeld (by decide)
        try simp only [Act.put, zz1, zz2, zz3, zz4, zz5, zz6]
        refine To 10 rfl fun K hK => ?_
        first | refine wp_store_item _ _ _ rfl _ _ rfl rfl _ _ hNa size_ext rfl (one3 _ _ _ rfl rfl rfl) fun w6 hN6 hg6 => ?_ | (simp only [drew_heap, size_alloc] at hNa hNw; refine wp_store_item _ _ _ rfl _ _ rfl rfl _ _ hNa size_ext rfl (one3 _ _ _ rfl rfl rfl) fun w6 hN6 hg6 => ?_)
        have hd6 := hd0.gb hNw.out.2 hNw.out.1 hgr hg6
        have hO6 := hO0.kl hg6 (fun q hv => Nat.lt_of_lt_of_le (hol.out q hv).2 hNw.out.1)
        go_simp
        refine hK.out _ _ (fun h => absurd rfl h) (fun _ => ?_)
        clear hK K
        try simp only [Act.put, zz1, zz2, zz3, zz4, zz5, zz6]
        refine Ways.done (by kernel_rfl) ?_
        go_wp2_with fail
        go_meet
        exact ⟨_, lb, _, rfl, hN6, tb.out.1, tb.out.2, hdw.trans hd6, hO6, hNw.out.1, hNw.out.2⟩
       ·go_simp
        have hNa := hd0.newBlk 62 #[.int .i64 0, .bool false, .slice none 0 0]
        have hNg := hd0.gtSize
        have hNw := Hh (And.intro hd0.size (hd0.holds.none_of_ge (Nat.le_refl _)))
        have hO0 := hO0.alloc (.cells #[.int .i64 0, .bool false, .slice none 0 0] 62)
        (try have hTab := hTab.alloc (.cells #[.int .i64 0, .bool false, .slice none 0 0] 62))
        have hd0 := hd0.alloc (.cells #[.int .i64 0, .bool false, .slice none 0 0] 62)
        refine hK.out _ _ (fun _ => ?_) (fun hHeld => ?_)
        ·exact trivial
        clear hK K
        have hHeld := hHeld (by decide)
        try simp only [Act.put, zz1, zz2, zz3, zz4, zz5, zz6]
        refine To 4 rfl fun K hK => ?_
        have t0 := hTab.cell q9 tc
        (try simp only [drew_heap, size_alloc] at t0)
        go_simp
        refine hK.out _ _ (fun _ => ?_) (fun hHeld => ?_)
        ·exact trivial
        clear hK K
        have hHeld := hHeld (by decide)
        try simp only [Act.put, zz1, zz2, zz3, zz4, zz5, zz6]
        refine TkT 8 (v := ?_) rfl ?_ ?_
        rotate_left
        ·intro w s; go_simp; try with_reducible rfl
        try simp only [Act.put, zz1, zz2, zz3, zz4, zz5, zz6]
        refine To 10 rfl fun K hK => ?_
        first | refine wp_store_item _ _ _ rfl _ _ rfl rfl _ _ hNa size_ext rfl (one3 _ _ _ rfl rfl rfl) fun w6 hN6 hg6 => ?_ | (simp only [drew_heap, size_alloc] at hNa hNw; refine wp_store_item _ _ _ rfl _ _ rfl rfl _ _ hNa size_ext rfl (one3 _ _ _ rfl rfl rfl) fun w6 hN6 hg6 => ?_)
        have hd6 := hd0.gb hNw.out.2 hNw.out.1 hgr hg6
        have hO6 := hO0.kl hg6 (fun q hv => Nat.lt_of_lt_of_le (hol.out q hv).2 hNw.out.1)
        go_simp
        refine hK.out _ _ (fun h => absurd rfl h) (fun _ => ?_)
        clear hK K
        try simp only [Act.put, zz1, zz2, zz3, zz4, zz5, zz6]
        refine Ways.done (by kernel_rfl) ?_
        go_wp2_with fail
        go_meet
        exact ⟨_, lb, _, rfl, hN6, tb.out.1, tb.out.2, hdw.trans hd6, hO6, hNw.out.1, hNw.out.2⟩
      ·go_simp
       have hNa := hd0.newBlk 62 #[.int .i64 0, .bool false, .slice none 0 0]
       have hNg := hd0.gtSize
       have hNw := Hh (And.intro hd0.size (hd0.holds.none_of_ge (Nat.le_refl _)))
       have hO0 := hO0.alloc (.cells #[.int .i64 0, .bool false, .slice none 0 0] 62)
       (try have hTab := hTab.alloc (.cells #[.int .i64 0, .bool false, .slice none 0 0] 62))
       have hd0 := hd0.alloc (.cells #[.int .i64 0, .bool false, .slice none 0 0] 62)
       refine hK.out _ _ (fun _ => ?_) (fun hHeld => ?_)
       ·exact trivial
       clear hK K
       have hHeld := hHeld (by decide)
       try simp only [Act.put, zz1, zz2, zz3, zz4, zz5, zz6]
       refine Ways.two (i := 4) (j := 6) rfl rfl (by kernel_rfl) (fun K hK => ?_) (fun K hK => ?_)
       ·have t0 := hTab.cell q9 tc
        (try simp only [drew_heap, size_alloc] at t0)
        go_simp
        refine hK.out _ _ (fun _ => ?_) (fun hHeld => ?_)
        ·exact trivial
        clear hK K
        have hHeld := hHeld (by decide)
        try simp only [Act.put, zz1, zz2, zz3, zz4, zz5, zz6]
        refine To 6 rfl fun K hK => ?_
        go_simp
        refine (deck_Next _ hd0.deck 2 (by omega) (by omega)).mono ?_
        rintro e w4 ⟨q2, rfl, hq2, hd2⟩
        (try have hTab := hTab.dealt hd2 hTg)
        (try have hNa := hNa.dealt hd2 hNg)
        have hO0 := hO0.dealt hd2 hgl
        have hd0 := hd0.trans hd2
        clear hd2
        refine hK.out _ _ (fun _ => ?_) (fun hHeld => ?_)
        ·exact trivial
        clear hK K
        have hHeld := hHeld (by decide)
        try simp only [Act.put, zz1, zz2, zz3, zz4, zz5, zz6]
        refine TkT 7 (v := ?_) rfl ?_ ?_
        rotate_left
        ·intro w s; go_simp; try with_reducible rfl
        try simp only [Act.put, zz1, zz2, zz3, zz4, zz5, zz6]
        refine TkT 8 (v := ?_) rfl ?_ ?_
        rotate_left
        ·intro w s; go_simp; try with_reducible rfl
        try simp only [Act.put, zz1, zz2, zz3, zz4, zz5, zz6]
        refine To 10 rfl fun K hK => ?_
        first | refine wp_store_item _ _ _ rfl _ _ rfl rfl _ _ hNa size_ext rfl (one3 _ _ _ rfl rfl rfl) fun w6 hN6 hg6 => ?_ | (simp only [drew_heap, size_alloc] at hNa hNw; refine wp_store_item _ _ _ rfl _ _ rfl rfl _ _ hNa size_ext rfl (one3 _ _ _ rfl rfl rfl) fun w6 hN6 hg6 => ?_)
        have hd6 := hd0.gb hNw.out.2 hNw.out.1 hgr hg6
        have hO6 := hO0.kl hg6 (fun q hv => Nat.lt_of_lt_of_le (hol.out q hv).2 hNw.out.1)
        go_simp
        refine hK.out _ _ (fun h => absurd rfl h) (fun _ => ?_)
        clear hK K
        try simp only [Act.put, zz1, zz2, zz3, zz4, zz5, zz6]
        refine Ways.done (by kernel_rfl) ?_
        go_wp2_with fail
        go_meet
        exact ⟨_, lb, _, rfl, hN6, tb.out.1, tb.out.2, hdw.trans hd6, hO6, hNw.out.1, hNw.out.2⟩
       ·go_simp
        refine (deck_Next _ hd0.deck 2 (by omega) (by omega)).mono ?_
        rintro e w4 ⟨q2, rfl, hq2, hd2⟩
        (try have hTab := hTab.dealt hd2 hTg)
        (try have hNa := hNa.dealt hd2 hNg)
        have hO0 := hO0.dealt hd2 hgl
        have hd0 := hd0.trans hd2
        clear hd2
        refine hK.out _ _ (fun _ => ?_) (fun hHeld => ?_)
        ·exact trivial
        clear hK K
        have hHeld := hHeld (by decide)
        try simp only [Act.put, zz1, zz2, zz3, zz4, zz5, zz6]
        refine TkT 7 (v := ?_) rfl ?_ ?_
        rotate_left
        ·intro w s; go_simp; try with_reducible rfl
        try simp only [Act.put, zz1, zz2, zz3, zz4, zz5, zz6]
        refine To 4 rfl fun K hK => ?_
        have t0 := hTab.cell q9 tc
        (try simp only [drew_heap, size_alloc] at t0)
        go_simp
        refine hK.out _ _ (fun _ => ?_) (fun hHeld => ?_)
        ·exact trivial
        clear hK K
        have hHeld := hHeld (by decide)
        try simp only [Act.put, zz1, zz2, zz3, zz4, zz5, zz6]
        refine TkT 8 (v := ?_) rfl ?_ ?_
        rotate_left
        ·intro w s; go_simp; try with_reducible rfl
        try simp only [Act.put, zz1, zz2, zz3, zz4, zz5, zz6]
        refine To 10 rfl fun K hK => ?_
        first | refine wp_store_item _ _ _ rfl _ _ rfl rfl _ _ hNa size_ext rfl (one3 _ _ _ rfl rfl rfl) fun w6 hN6 hg6 => ?_ | (simp only [drew_heap, size_alloc] at hNa hNw; refine wp_store_item _ _ _ rfl _ _ rfl rfl _ _ hNa size_ext rfl (one3 _ _ _ rfl rfl rfl) fun w6 hN6 hg6 => ?_)
        have hd6 := hd0.gb hNw.out.2 hNw.out.1 hgr hg6
        have hO6 := hO0.kl hg6 (fun q hv => Nat.lt_of_lt_of_le (hol.out q hv).2 hNw.out.1)
        go_simp
        refine hK.out _ _ (fun h => absurd rfl h) (fun _ => ?_)
        clear hK K
        try simp only [Act.put, zz1, zz2, zz3, zz4, zz5, zz6]
        refine Ways.done (by kernel_rfl) ?_
        go_wp2_with fail
        go_meet
        exact ⟨_, lb, _, rfl, hN6, tb.out.1, tb.out.2, hdw.trans hd6, hO6, hNw.out.1, hNw.out.2⟩
     ·go_simp
      have hNa := hd0.newBlk 62 #[.int .i64 0, .bool false, .slice none 0 0]
      have hNg := hd0.gtSize
      have hNw := Hh (And.intro hd0.size (hd0.holds.none_of_ge (Nat.le_refl _)))
      have hO0 := hO0.alloc (.cells #[.int .i64 0, .bool false, .slice none 0 0] 62)
      (try have hTab := hTab.alloc (.cells #[.int .i64 0, .bool false, .slice none 0 0] 62))
      have hd0 := hd0.alloc (.cells #[.int .i64 0, .bool false, .slice none 0 0] 62)
      refine hK.out _ _ (fun _ => ?_) (fun hHeld => ?_)
      ·exact trivial
      clear hK K
      have hHeld := hHeld (by decide)
      try simp only [Act.put, zz1, zz2, zz3, zz4, zz5, zz6]
      refine To 2 rfl fun K hK => ?_
      go_simp
      refine (deck_Next _ hd0.deck 9 (by omega) (by omega)).mono ?_
      rintro e w3 ⟨q9, rfl, hq9, hd9⟩
      (try have hTab := hTab.dealt hd9 hTg)
      (try have hNa := hNa.dealt hd9 hNg)
      have hO0 := hO0.dealt hd9 hgl
      have hd0 := hd0.trans hd9
      have tc := tab_cell q9 (by omega)
      have tb := Hh (tabL_bnd q9)
      obtain ⟨lb, hlb⟩ : ∃ lb, tabL q9 = lb := ⟨_, rfl⟩
      rw [hlb] at tc tb
      clear hd9 hlb
      refine hK.out _ _ (fun _ => ?_) (fun hHeld => ?_)
      ·exact trivial
      clear hK K
      have hHeld := hHeld (by decide)
      try simp only [Act.put, zz1, zz2, zz3, zz4, zz5, zz6]
      refine TkT 3 (v := ?_) rfl ?_ ?_
      rotate_left
      ·intro w s; go_simp; try with_reducible rfl
      try simp only [Act.put, zz1, zz2, zz3, zz4, zz5, zz6]
      refine Ways.two (i := 4) (j := 6) rfl rfl (by kernel_rfl) (fun K hK => ?_) (fun K hK => ?_)
      ·have t0 := hTab.cell q9 tc
       (try simp only [drew_heap, size_alloc] at t0)
       go_simp
       refine hK.out _ _ (fun _ => ?_) (fun hHeld => ?_)
       ·exact trivial
       clear hK K
       have hHeld := hHeld (by decide)
       try simp only [Act.put, zz1, zz2, zz3, zz4, zz5, zz6]
       refine To 6 rfl fun K hK => ?_
       go_simp
       refine (deck_Next _ hd0.deck 2 (by omega) (by omega)).mono ?_
       rintro e w4 ⟨q2, rfl, hq2, hd2⟩
       (try have hTab := hTab.dealt hd2 hTg)
       (try have hNa := hNa.dealt hd2 hNg)
       have hO0 := hO0.dealt hd2 hgl
       have hd0 := hd0.trans hd2
       clear hd2
       refine hK.out _ _ (fun _ => ?_) (fun hHeld => ?_)
       ·exact trivial
       clear hK K
       have hHeld := hHeld (by decide)
       try simp only [Act.put, zz1, zz2, zz3, zz4, zz5, zz6]
       refine TkT 7 (v := ?_) rfl ?_ ?_
       rotate_left
       ·intro w s; go_simp; try with_reducible rfl
       try simp only [Act.put, zz1, zz2, zz3, zz4, zz5, zz6]
       refine TkT 8 (v := ?_) rfl ?_ ?_
       rotate_left
       ·intro w s; go_simp; try with_reducible rfl
       try simp only [Act.put, zz1, zz2, zz3, zz4, zz5, zz6]
       refine To 10 rfl fun K hK => ?_
       first | refine wp_store_item _ _ _ rfl _ _ rfl rfl _ _ hNa size_ext rfl (one3 _ _ _ rfl rfl rfl) fun w6 hN6 hg6 => ?_ | (simp only [drew_heap, size_alloc] at hNa hNw; refine wp_store_item _ _ _ rfl _ _ rfl rfl _ _ hNa size_ext rfl (one3 _ _ _ rfl rfl rfl) fun w6 hN6 hg6 => ?_)
       have hd6 := hd0.gb hNw.out.2 hNw.out.1 hgr hg6
       have hO6 := hO0.kl hg6 (fun q hv => Nat.lt_of_lt_of_le (hol.out q hv).2 hNw.out.1)
       go_simp
       refine hK.out _ _ (fun h => absurd rfl h) (fun _ => ?_)
       clear hK K
       try simp only [Act.put, zz1, zz2, zz3, zz4, zz5, zz6]
       refine Ways.done (by kernel_rfl) ?_
       go_wp2_with fail
       go_meet
       exact ⟨_, lb, _, rfl, hN6, tb.out.1, tb.out.2, hdw.trans hd6, hO6, hNw.out.1, hNw.out.2⟩
      ·go_simp
       refine (deck_Next _ hd0.deck 2 (by omega) (by omega)).mono ?_
       rintro e w4 ⟨q2, rfl, hq2, hd2⟩
       (try have hTab := hTab.dealt hd2 hTg)
       (try have hNa := hNa.dealt hd2 hNg)
       have hO0 := hO0.dealt hd2 hgl
       have hd0 := hd0.trans hd2
       clear hd2
       refine hK.out _ _ (fun _ => ?_) (fun hHeld => ?_)
       ·exact trivial
       clear hK K
       have hHeld := hHeld (by decide)
       try simp only [Act.put, zz1, zz2, zz3, zz4, zz5, zz6]
       refine TkT 7 (v := ?_) rfl ?_ ?_
       rotate_left
       ·intro w s; go_simp; try with_reducible rfl
       try simp only [Act.put, zz1, zz2, zz3, zz4, zz5, zz6]
       refine To 4 rfl fun K hK => ?_
       have t0 := hTab.cell q9 tc
       (try simp only [drew_heap, size_alloc] at t0)
       go_simp
       refine hK.out _ _ (fun _ => ?_) (fun hHeld => ?_)
       ·exact trivial
       clear hK K
       have hHeld := hHeld (by decide)
       try simp only [Act.put, zz1, zz2, zz3, zz4, zz5, zz6]
       refine TkT 8 (v := ?_) rfl ?_ ?_
       rotate_left
       ·intro w s; go_simp; try with_reducible rfl
       try simp only [Act.put, zz1, zz2, zz3, zz4, zz5, zz6]
       refine To 10 rfl fun K hK => ?_
       first | refine wp_store_item _ _ _ rfl _ _ rfl rfl _ _ hNa size_ext rfl (one3 _ _ _ rfl rfl rfl) fun w6 hN6 hg6 => ?_ | (simp only [drew_heap, size_alloc] at hNa hNw; refine wp_store_item _ _ _ rfl _ _ rfl rfl _ _ hNa size_ext rfl (one3 _ _ _ rfl rfl rfl) fun w6 hN6 hg6 => ?_)
       have hd6 := hd0.gb hNw.out.2 hNw.out.1 hgr hg6
       have hO6 := hO0.kl hg6 (fun q hv => Nat.lt_of_lt_of_le (hol.out q hv).2 hNw.out.1)
       go_simp
       refine hK.out _ _ (fun h => absurd rfl h) (fun _ => ?_)
       clear hK K
       try simp only [Act.put, zz1, zz2, zz3, zz4, zz5, zz6]
       refine Ways.done (by kernel_rfl) ?_
       go_wp2_with fail
       go_meet
       exact ⟨_, lb, _, rfl, hN6, tb.out.1, tb.out.2, hdw.trans hd6, hO6, hNw.out.1, hNw.out.2⟩
    ·go_simp
     refine (deck_Next _ hd0.deck 9 (by omega) (by omega)).mono ?_
     rintro e w3 ⟨q9, rfl, hq9, hd9⟩
     (try have hTab := hTab.dealt hd9 hTg)
     (try have hNa := hNa.dealt hd9 hNg)
     have hO0 := hO0.dealt hd9 hgl
     have hd0 := hd0.trans hd9
     have tc := tab_cell q9 (by omega)
     have tb := Hh (tabL_bnd q9)
     obtain ⟨lb, hlb⟩ : ∃ lb, tabL q9 = lb := ⟨_, rfl⟩
     rw [hlb] at tc tb
     clear hd9 hlb
     refine hK.out _ _ (fun _ => ?_) (fun hHeld => ?_)
     ·exact trivial
     clear hK K
     have hHeld := hHeld (by decide)
     try simp only [Act.put, zz1, zz2, zz3, zz4, zz5, zz6]
     refine Ways.three (i := 0) (j := 6) (l := 9) rfl rfl rfl (by kernel_rfl) (fun K hK => ?_) (fun K hK => ?_) (fun K hK => ?_)
     ·go_simp
      have hTab := hd0.newBlk 3 #[.int .i64 0, .int .i64 1, .int .i64 5, .int .i64 24, .int .i64 300, .int .i64 65535, .int .i64 (-1), .int .i64 (-25), .int .i64 (-65535)]
      (try have hNa := hNa.alloc (.cells #[.int .i64 0, .int .i64 1, .int .i64 5, .int .i64 24, .int .i64 300, .int .i64 65535, .int .i64 (-1), .int .i64 (-25), .int .i64 (-65535)] 3))
      have hO0 := hO0.alloc (.cells #[.int .i64 0, .int .i64 1, .int .i64 5, .int .i64 24, .int .i64 300, .int .i64 65535, .int .i64 (-1), .int .i64 (-25), .int .i64 (-65535)] 3)
      have hTg := hd0.gtSize
      have hd0 := hd0.alloc (.cells #[.int .i64 0, .int .i64 1, .int .i64 5, .int .i64 24, .int .i64 300, .int .i64 65535, .int .i64 (-1), .int .i64 (-25), .int .i64 (-65535)] 3)
      refine hK.out _ _ (fun _ => ?_) (fun hHeld => ?_)
      ·exact trivial
      clear hK K
      have hHeld := hHeld (by decide)
      try simp only [Act.put, zz1, zz2, zz3, zz4, zz5, zz6]
      refine TkT 3 (v := ?_) rfl ?_ ?_
      rotate_left
      ·intro w s; go_simp; try with_reducible rfl
      try simp only [Act.put, zz1, zz2, zz3, zz4, zz5, zz6]
      refine Ways.three (i := 4) (j := 6) (l := 9) rfl rfl rfl (by kernel_rfl) (fun K hK => ?_) (fun K hK => ?_) (fun K hK => ?_)
      ·have t0 := hTab.cell q9 tc
       (try simp only [drew_heap, size_alloc] at t0)
       go_simp
       refine hK.out _ _ (fun _ => ?_) (fun hHeld => ?_)
       ·exact trivial
       clear hK K
       have hHeld := hHeld (by decide)
       try simp only [Act.put, zz1, zz2, zz3, zz4, zz5, zz6]
       refine Ways.two (i := 6) (j := 9) rfl rfl (by kernel_rfl) (fun K hK => ?_) (fun K hK => ?_)
       ·go_simp
        refine (deck_Next _ hd0.deck 2 (by omega) (by omega)).mono ?_
        rintro e w4 ⟨q2, rfl, hq2, hd2⟩
        (try have hTab := hTab.dealt hd2 hTg)
        (try have hNa := hNa.dealt hd2 hNg)
        have hO0 := hO0.dealt hd2 hgl
        have hd0 := hd0.trans hd2
        clear hd2
        refine hK.out _ _ (fun _ => ?_) (fun hHeld => ?_)
        ·exact trivial
        clear hK K
        have hHeld := hHeld (by decide)
        try simp only [Act.put, zz1, zz2, zz3, zz4, zz5, zz6]
        refine TkT 7 (v := ?_) rfl ?_ ?_
        rotate_left
        ·intro w s; go_simp; try with_reducible rfl
        try simp only [Act.put, zz1, zz2, zz3, zz4, zz5, zz6]
        refine TkT 8 (v := ?_) rfl ?_ ?_
        rotate_left
        ·intro w s; go_simp; try with_reducible rfl
        try simp only [Act.put, zz1, zz2, zz3, zz4, zz5, zz6]
        refine To 9 rfl fun K hK => ?_
        go_simp
        have hNa := hd0.newBlk 62 #[.int .i64 0, .bool false, .slice none 0 0]
        have hNg := hd0.gtSize
        have hNw := Hh (And.intro hd0.size (hd0.holds.none_of_ge (Nat.le_refl _)))
        have hO0 := hO0.alloc (.cells #[.int .i64 0, .bool false, .slice none 0 0] 62)
        (try have hTab := hTab.alloc (.cells #[.int .i64 0, .bool false, .slice none 0 0] 62))
        have hd0 := hd0.alloc (.cells #[.int .i64 0, .bool false, .slice none 0 0] 62)
        refine hK.out _ _ (fun _ => ?_) (fun hHeld => ?_)
        ·exact trivial
        clear hK K
        have hHeld := hHeld (by decide)
        try simp only [Act.put, zz1, zz2, zz3, zz4, zz5, zz6]
        refine To 10 rfl fun K hK => ?_
        first | refine wp_store_item _ _ _ rfl _ _ rfl rfl _ _ hNa size_ext rfl (one3 _ _ _ rfl rfl rfl) fun w6 hN6 hg6 => ?_ | (simp only [drew_heap, size_alloc] at hNa hNw; refine wp_store_item _ _ _ rfl _ _ rfl rfl _ _ hNa size_ext rfl (one3 _ _ _ rfl rfl rfl) fun w6 hN6 hg6 => ?_)
        have hd6 := hd0.gb hNw.out.2 hNw.out.1 hgr hg6
        have hO6 := hO0.kl hg6 (fun q hv => Nat.lt_of_lt_of_le (hol.out q hv).2 hNw.out.1)
        go_simp
        refine hK.out _ _ (fun h => absurd rfl h) (fun _ => ?_)
        clear hK K
        try simp only [Act.put, zz1, zz2, zz3, zz4, zz5, zz6]
        refine Ways.done (by kernel_rfl) ?_
        go_wp2_with fail
        go_meet
        exact ⟨_, lb, _, rfl, hN6, tb.out.1, tb.out.2, hdw.trans hd6, hO6, hNw.out.1, hNw.out.2⟩
       ·go_simp
        have hNa := hd0.newBlk 62 #[.int .i64 0, .bool false, .slice none 0 0]
        have hNg := hd0.gtSize
        have hNw := Hh (And.intro hd0.size (hd0.holds.none_of_ge (Nat.le_refl _)))
        have hO0 := hO0.alloc (.cells #[.int .i64 0, .bool false, .slice none 0 0] 62)
        (try have hTab := hTab.alloc (.cells #[.int .i64 0, .bool false, .slice none 0 0] 62))
        have hd0 := hd0.alloc (.cells #[.int .i64 0, .bool false, .slice none 0 0] 62)
        refine hK.out _ _ (fun _ => ?_) (fun hHeld => ?_)
        ·exact trivial
        clear hK K
        have hHeld := hHeld (by decide)
        try simp only [Act.put, zz1, zz2, zz3, zz4, zz5, zz6]
        refine To 6 rfl fun K hK => ?_
        go_simp
        refine (deck_Next _ hd0.deck 2 (by omega) (by omega)).mono ?_
        rintro e w4 ⟨q2, rfl, hq2, hd2⟩
        (try have hTab := hTab.dealt hd2 hTg)
        (try have hNa := hNa.dealt hd2 hNg)
        have hO0 := hO0.dealt hd2 hgl
        have hd0 := hd0.trans hd2
        clear hd2
        refine hK.out _ _ (fun _ => ?_) (fun hHeld => ?_)
        ·exact trivial
        clear hK K
        have hHeld := hHeld (by decide)
        try simp only [Act.put, zz1, zz2, zz3, zz4, zz5, zz6]
        refine TkT 7 (v := ?_) rfl ?_ ?_
        rotate_left
        ·intro w s; go_simp; try with_reducible rfl
        try simp only [Act.put, zz1, zz2, zz3, zz4, zz5, zz6]
        refine TkT 8 (v := ?_) rfl ?_ ?_
        rotate_left
        ·intro w s; go_simp; try with_reducible rfl
        try simp only [Act.put, zz1, zz2, zz3, zz4, zz5, zz6]
        refine To 10 rfl fun K hK => ?_
        first | refine wp_store_item _ _ _ rfl _ _ rfl rfl _ _ hNa size_ext rfl (one3 _ _ _ rfl rfl rfl) fun w6 hN6 hg6 => ?_ | (simp only [drew_heap, size_alloc] at hNa hNw; refine wp_store_item _ _ _ rfl _ _ rfl rfl _ _ hNa size_ext rfl (one3 _ _ _ rfl rfl rfl) fun w6 hN6 hg6 => ?_)
        have hd6 := hd0.gb hNw.out.2 hNw.out.1 hgr hg6
        have hO6 := hO0.kl hg6 (fun q hv => Nat.lt_of_lt_of_le (hol.out q hv).2 hNw.out.1)
        go_simp
        refine hK.out _ _ (fun h => absurd rfl h) (fun _ => ?_)
        clear hK K
        try simp only [Act.put, zz1, zz2, zz3, zz4, zz5, zz6]
        refine Ways.done (by kernel_rfl) ?_
        go_wp2_with fail
        go_meet
        exact ⟨_, lb, _, rfl, hN6, tb.out.1, tb.out.2, hdw.trans hd6, hO6, hNw.out.1, hNw.out.2⟩
      ·go_simp
       refine (deck_Next _ hd0.deck 2 (by omega) (by omega)).mono ?_
       rintro e w4 ⟨q2, rfl, hq2, hd2⟩
       (try have hTab := hTab.dealt hd2 hTg)
       (try have hNa := hNa.dealt hd2 hNg)
       have hO0 := hO0.dealt hd2 hgl
       have hd0 := hd0.trans hd2
       clear hd2
       refine hK.out _ _ (fun _ => ?_) (fun hHeld => ?_)
       ·exact trivial
       clear hK K
       have hHeld := hHeld (by decide)
       try simp only [Act.put, zz1, zz2, zz3, zz4, zz5, zz6]
       refine TkT 7 (v := ?_) rfl ?_ ?_
       rotate_left
       ·intro w s; go_simp; try with_reducible rfl
       try simp only [Act.put, zz1, zz2, zz3, zz4, zz5, zz6]
       refine Ways.two (i := 4) (j := 9) rfl rfl (by kernel_rfl) (fun K hK => ?_) (fun K hK => ?_)
       ·have t0 := hTab.cell q9 tc
        (try simp only [drew_heap, size_alloc] at t0)
        go_simp
        refine hK.out _ _ (fun _ => ?_) (fun hHeld => ?_)
        ·exact trivial
        clear hK K
        have hHeld := hHeld (by decide)
        try simp only [Act.put, zz1, zz2, zz3, zz4, zz5, zz6]
        refine TkT 8 (v := ?_) rfl ?_ ?_
        rotate_left
        ·intro w s; go_simp; try with_reducible rfl
        try simp only [Act.put, zz1, zz2, zz3, zz4, zz5, zz6]
        refine To 9 rfl fun K hK => ?_
        go_simp
        have hNa := hd0.newBlk 62 #[.int .i64 0, .bool false, .slice none 0 0]
        have hNg := hd0.gtSize
        have hNw := Hh (And.intro hd0.size (hd0.holds.none_of_ge (Nat.le_refl _)))
        have hO0 := hO0.alloc (.cells #[.int .i64 0, .bool false, .slice none 0 0] 62)
        (try have hTab := hTab.alloc (.cells #[.int .i64 0, .bool false, .slice none 0 0] 62))
        have hd0 := hd0.alloc (.cells #[.int .i64 0, .bool false, .slice none 0 0] 62)
        refine hK.out _ _ (fun _ => ?_) (fun hHeld => ?_)
        ·exact trivial
        clear hK K
        have hHeld := hHeld (by decide)
        try simp only [Act.put, zz1, zz2, zz3, zz4, zz5, zz6]
        refine To 10 rfl fun K hK => ?_
        first | refine wp_store_item _ _ _ rfl _ _ rfl rfl _ _ hNa size_ext rfl (one3 _ _ _ rfl rfl rfl) fun w6 hN6 hg6 => ?_ | (simp only [drew_heap, size_alloc] at hNa hNw; refine wp_store_item _ _ _ rfl _ _ rfl rfl _ _ hNa size_ext rfl (one3 _ _ _ rfl rfl rfl) fun w6 hN6 hg6 => ?_)
        have hd6 := hd0.gb hNw.out.2 hNw.out.1 hgr hg6
        have hO6 := hO0.kl hg6 (fun q hv => Nat.lt_of_lt_of_le (hol.out q hv).2 hNw.out.1)
        go_simp
        refine hK.out _ _ (fun h => absurd rfl h) (fun _ => ?_)
        clear hK K
        try simp only [Act.put, zz1, zz2, zz3, zz4, zz5, zz6]
        refine Ways.done (by kernel_rfl) ?_
        go_wp2_with fail
        go_meet
        exact ⟨_, lb, _, rfl, hN6, tb.out.1, tb.out.2, hdw.trans hd6, hO6, hNw.out.1, hNw.out.2⟩
       ·go_simp
        have hNa := hd0.newBlk 62 #[.int .i64 0, .bool false, .slice none 0 0]
        have hNg := hd0.gtSize
        have hNw := Hh (And.intro hd0.size (hd0.holds.none_of_ge (Nat.le_refl _)))
        have hO0 := hO0.alloc (.cells #[.int .i64 0, .bool false, .slice none 0 0] 62)
        (try have hTab := hTab.alloc (.cells #[.int .i64 0, .bool false, .slice none 0 0] 62))
        have hd0 := hd0.alloc (.cells #[.int .i64 0, .bool false, .slice none 0 0] 62)
        refine hK.out _ _ (fun _ => ?_) (fun hHeld => ?_)
        ·exact trivial
        clear hK K
        have hHeld := hHeld (by decide)
        try simp only [Act.put, zz1, zz2, zz3, zz4, zz5, zz6]
        refine To 4 rfl fun K hK => ?_
        have t0 := hTab.cell q9 tc
        (try simp only [drew_heap, size_alloc] at t0)
        go_simp
        refine hK.out _ _ (fun _ => ?_) (fun hHeld => ?_)
        ·exact trivial
        clear hK K
        have hHeld := hHeld (by decide)
        try simp only [Act.put, zz1, zz2, zz3, zz4, zz5, zz6]
        refine TkT 8 (v := ?_) rfl ?_ ?_
        rotate_left
        ·intro w s; go_simp; try with_reducible rfl
        try simp only [Act.put, zz1, zz2, zz3, zz4, zz5, zz6]
        refine To 10 rfl fun K hK => ?_
        first | refine wp_store_item _ _ _ rfl _ _ rfl rfl _ _ hNa size_ext rfl (one3 _ _ _ rfl rfl rfl) fun w6 hN6 hg6 => ?_ | (simp only [drew_heap, size_alloc] at hNa hNw; refine wp_store_item _ _ _ rfl _ _ rfl rfl _ _ hNa size_ext rfl (one3 _ _ _ rfl rfl rfl) fun w6 hN6 hg6 => ?_)
        have hd6 := hd0.gb hNw.out.2 hNw.out.1 hgr hg6
        have hO6 := hO0.kl hg6 (fun q hv => Nat.lt_of_lt_of_le (hol.out q hv).2 hNw.out.1)
        go_simp
        refine hK.out _ _ (fun h => absurd rfl h) (fun _ => ?_)
        clear hK K
        try simp only [Act.put, zz1, zz2, zz3, zz4, zz5, zz6]
        refine Ways.done (by kernel_rfl) ?_
        go_wp2_with fail
        go_meet
        exact ⟨_, lb, _, rfl, hN6, tb.out.1, tb.out.2, hdw.trans hd6, hO6, hNw.out.1, hNw.out.2⟩
      ·go_simp
       have hNa := hd0.newBlk 62 #[.int .i64 0, .bool false, .slice none 0 0]
       have hNg := hd0.gtSize
       have hNw := Hh (And.intro hd0.size (hd0.holds.none_of_ge (Nat.le_refl _)))
       have hO0 := hO0.alloc (.cells #[.int .i64 0, .bool false, .slice none 0 0] 62)
       (try have hTab := hTab.alloc (.cells #[.int .i64 0, .bool false, .slice none 0 0] 62))
       have hd0 := hd0.alloc (.cells #[.int .i64 0, .bool false, .slice none 0 0] 62)
       refine hK.out _ _ (fun _ => ?_) (fun hHeld => ?_)
       ·exact trivial
       clear hK K
       have hHeld := hHeld (by decide)
       try simp only [Act.put, zz1, zz2, zz3, zz4, zz5, zz6]
       refine Ways.two (i := 4) (j := 6) rfl rfl (by kernel_rfl) (fun K hK => ?_) (fun K hK => ?_)
       ·have t0 := hTab.cell q9 tc
        (try simp only [drew_heap, size_alloc] at t0)
        go_simp
        refine hK.out _ _ (fun _ => ?_) (fun hHeld => ?_)
        ·exact trivial
        clear hK K
        have hHeld := hHeld (by decide)
        try simp only [Act.put, zz1, zz2, zz3, zz4, zz5, zz6]
        refine To 6 rfl fun K hK => ?_
        go_simp
        refine (deck_Next _ hd0.deck 2 (by omega) (by omega)).mono ?_
        rintro e w4 ⟨q2, rfl, hq2, hd2⟩
        (try have hTab := hTab.dealt hd2 hTg)
        (try have hNa := hNa.dealt hd2 hNg)
        have hO0 := hO0.dealt hd2 hgl
        have hd0 := hd0.trans hd2
        clear hd2
        refine hK.out _ _ (fun _ => ?_) (fun hHeld => ?_)
        ·exact trivial
        clear hK K
        have hHeld := hHeld (by decide)
        try simp only [Act.put, zz1, zz2, zz3, zz4, zz5, zz6]
        refine TkT 7 (v := ?_) rfl ?_ ?_
        rotate_left
        ·intro w s; go_simp; try with_reducible rfl
        try simp only [Act.put, zz1, zz2, zz3, zz4, zz5, zz6]
        refine TkT 8 (v := ?_) rfl ?_ ?_
        rotate_left
        ·intro w s; go_simp; try with_reducible rfl
        try simp only [Act.put, zz1, zz2, zz3, zz4, zz5, zz6]
        refine To 10 rfl fun K hK => ?_
        first | refine wp_store_item _ _ _ rfl _ _ rfl rfl _ _ hNa size_ext rfl (one3 _ _ _ rfl rfl rfl) fun w6 hN6 hg6 => ?_ | (simp only [drew_heap, size_alloc] at hNa hNw; refine wp_store_item _ _ _ rfl _ _ rfl rfl _ _ hNa size_ext rfl (one3 _ _ _ rfl rfl rfl) fun w6 hN6 hg6 => ?_)
        have hd6 := hd0.gb hNw.out.2 hNw.out.1 hgr hg6
        have hO6 := hO0.kl hg6 (fun q hv => Nat.lt_of_lt_of_le (hol.out q hv).2 hNw.out.1)
        go_simp
        refine hK.out _ _ (fun h => absurd rfl h) (fun _ => ?_)
        clear hK K
        try simp only [Act.put, zz1, zz2, zz3, zz4, zz5, zz6]
        refine Ways.done (by kernel_rfl) ?_
        go_wp2_with fail
        go_meet
        exact ⟨_, lb, _, rfl, hN6, tb.out.1, tb.out.2, hdw.trans hd6, hO6, hNw.out.1, hNw.out.2⟩
       ·go_simp
        refine (deck_Next _ hd0.deck 2 (by omega) (by omega)).mono ?_
        rintro e w4 ⟨q2, rfl, hq2, hd2⟩
        (try have hTab := hTab.dealt hd2 hTg)
        (try have hNa := hNa.dealt hd2 hNg)
        have hO0 := hO0.dealt hd2 hgl
        have hd0 := hd0.trans hd2
        clear hd2
        refine hK.out _ _ (fun _ => ?_) (fun hHeld => ?_)
        ·exact trivial
        clear hK K
        have hHeld := hHeld (by decide)
        try simp only [Act.put, zz1, zz2, zz3, zz4, zz5, zz6]
        refine TkT 7 (v := ?_) rfl ?_ ?_
        rotate_left
        ·intro w s; go_simp; try with_reducible rfl
        try simp only [Act.put, zz1, zz2, zz3, zz4, zz5, zz6]
        refine To 4 rfl fun K hK => ?_
        have t0 := hTab.cell q9 tc
        (try simp only [drew_heap, size_alloc] at t0)
        go_simp
        refine hK.out _ _ (fun _ => ?_) (fun hHeld => ?_)
        ·exact trivial
        clear hK K
        have hHeld := hHeld (by decide)
        try simp only [Act.put, zz1, zz2, zz3, zz4, zz5, zz6]
        refine TkT 8 (v := ?_) rfl ?_ ?_
        rotate_left
        ·intro w s; go_simp; try with_reducible rfl
        try simp only [Act.put, zz1, zz2, zz3, zz4, zz5, zz6]
        refine To 10 rfl fun K hK => ?_
        first | refine wp_store_item _ _ _ rfl _ _ rfl rfl _ _ hNa size_ext rfl (one3 _ _ _ rfl rfl rfl) fun w6 hN6 hg6 => ?_ | (simp only [drew_heap, size_alloc] at hNa hNw; refine wp_store_item _ _ _ rfl _ _ rfl rfl _ _ hNa size_ext rfl (one3 _ _ _ rfl rfl rfl) fun w6 hN6 hg6 => ?_)
        have hd6 := hd0.gb hNw.out.2 hNw.out.1 hgr hg6
        have hO6 := hO0.kl hg6 (fun q hv => Nat.lt_of_lt_of_le (hol.out q hv).2 hNw.out.1)
        go_simp
        refine hK.out _ _ (fun h => absurd rfl h) (fun _ => ?_)
        clear hK K
        try simp only [Act.put, zz1, zz2, zz3, zz4, zz5, zz6]
        refine Ways.done (by kernel_rfl) ?_
        go_wp2_with fail
        go_meet
        exact ⟨_, lb, _, rfl, hN6, tb.out.1, tb.out.2, hdw.trans hd6, hO6, hNw.out.1, hNw.out.2⟩
     ·go_simp
      refine (deck_Next _ hd0.deck 2 (by omega) (by omega)).mono ?_
      rintro e w4 ⟨q2, rfl, hq2, hd2⟩
      (try have hTab := hTab.dealt hd2 hTg)
      (try have hNa := hNa.dealt hd2 hNg)
      have hO0 := hO0.dealt hd2 hgl
      have hd0 := hd0.trans hd2
      clear hd2
      refine hK.out _ _ (fun _ => ?_) (fun hHeld => ?_)
      ·exact trivial
      clear hK K
      have hHeld := hHeld (by decide)
      try simp only [Act.put, zz1, zz2, zz3, zz4, zz5, zz6]
      refine TkT 7 (v := ?_) rfl ?_ ?_
      rotate_left
      ·intro w s; go_simp; try with_reducible rfl
      try simp only [Act.put, zz1, zz2, zz3, zz4, zz5, zz6]
      refine Ways.two (i := 0) (j := 9) rfl rfl (by kernel_rfl) (fun K hK => ?_) (fun K hK => ?_)
      ·go_simp
       have hTab := hd0.newBlk 3 #[.int .i64 0, .int .i64 1, .int .i64 5, .int .i64 24, .int .i64 300, .int .i64 65535, .int .i64 (-1), .int .i64 (-25), .int .i64 (-65535)]
       (try have hNa := hNa.alloc (.cells #[.int .i64 0, .int .i64 1, .int .i64 5, .int .i64 24, .int .i64 300, .int .i64 65535, .int .i64 (-1), .int .i64 (-25), .int .i64 (-65535)] 3))
       have hO0 := hO0.alloc (.cells #[.int .i64 0, .int .i64 1, .int .i64 5, .int .i64 24, .int .i64 300, .int .i64 65535, .int .i64 (-1), .int .i64 (-25), .int .i64 (-65535)] 3)
       have hTg := hd0.gtSize
       have hd0 := hd0.alloc (.cells #[.int .i64 0, .int .i64 1, .int .i64 5, .int .i64 24, .int .i64 300, .int .i64 65535, .int .i64 (-1), .int .i64 (-25), .int .i64 (-65535)] 3)
       refine hK.out _ _ (fun _ => ?_) (fun hHeld => ?_)
       ·exact trivial
       clear hK K
       have hHeld := hHeld (by decide)
       try simp only [Act.put, zz1, zz2, zz3, zz4, zz5, zz6]
       refine TkT 3 (v := ?_) rfl ?_ ?_
       rotate_left
       ·intro w s; go_simp; try with_reducible rfl
       try simp only [Act.put, zz1, zz2, zz3, zz4, zz5, zz6]
       refine Ways.two (i := 4) (j := 9) rfl rfl (by kernel_rfl) (fun K hK => ?_) (fun K hK => ?_)
       ·have t0 := hTab.cell q9 tc
        (try simp only [drew_heap, size_alloc] at t0)
        go_simp
        refine hK.out _ _ (fun _ => ?_) (fun hHeld => ?_)
        ·exact trivial
        clear hK K
        have hHeld := hHeld (by decide)
        try simp only [Act.put, zz1, zz2, zz3, zz4, zz5, zz6]
        refine TkT 8 (v := ?_) rfl ?_ ?_
        rotate_left
        ·intro w s; go_simp; try with_reducible rfl
        try simp only [Act.put, zz1, zz2, zz3, zz4, zz5, zz6]
        refine To 9 rfl fun K hK => ?_
        go_simp
        have hNa := hd0.newBlk 62 #[.int .i64 0, .bool false, .slice none 0 0]
        have hNg := hd0.gtSize
        have hNw := Hh (And.intro hd0.size (hd0.holds.none_of_ge (Nat.le_refl _)))
        have hO0 := hO0.alloc (.cells #[.int .i64 0, .bool false, .slice none 0 0] 62)
        (try have hTab := hTab.alloc (.cells #[.int .i64 0, .bool false, .slice none 0 0] 62))
        have hd0 := hd0.alloc (.cells #[.int .i64 0, .bool false, .slice none 0 0] 62)
        refine hK.out _ _ (fun _ => ?_) (fun hHeld => ?_)
        ·exact trivial
        clear hK K
        have hHeld := hHeld (by decide)
        try simp only [Act.put, zz1, zz2, zz3, zz4, zz5, zz6]
        refine To 10 rfl fun K hK => ?_
        first | refine wp_store_item _ _ _ rfl _ _ rfl rfl _ _ hNa size_ext rfl (one3 _ _ _ rfl rfl rfl) fun w6 hN6 hg6 => ?_ | (simp only [drew_heap, size_alloc] at hNa hNw; refine wp_store_item _ _ _ rfl _ _ rfl rfl _ _ hNa size_ext rfl (one3 _ _ _ rfl rfl rfl) fun w6 hN6 hg6 => ?_)
        have hd6 := hd0.gb hNw.out.2 hNw.out.1 hgr hg6
        have hO6 := hO0.kl hg6 (fun q hv => Nat.lt_of_lt_of_le (hol.out q hv).2 hNw.out.1)
        go_simp
        refine hK.out _ _ (fun h => absurd rfl h) (fun _ => ?_)
        clear hK K
        try simp only [Act.put, zz1, zz2, zz3, zz4, zz5, zz6]
        refine Ways.done (by kernel_rfl) ?_
        go_wp2_with fail
        go_meet
        exact ⟨_, lb, _, rfl, hN6, tb.out.1, tb.out.2, hdw.trans hd6, hO6, hNw.out.1, hNw.out.2⟩
       ·go_simp
        have hNa := hd0.newBlk 62 #[.int .i64 0, .bool false, .slice none 0 0]
        have hNg := hd0.gtSize
        have hNw := Hh (And.intro hd0.size (hd0.holds.none_of_ge (Nat.le_refl _)))
        have hO0 := hO0.alloc (.cells #[.int .i64 0, .bool false, .slice none 0 0] 62)
        (try have hTab := hTab.alloc (.cells #[.int .i64 0, .bool false, .slice none 0 0] 62))
        have hd0 := hd0.alloc (.cells #[.int .i64 0, .bool false, .slice none 0 0] 62)
        refine hK.out _ _ (fun _ => ?_) (fun hHeld => ?_)
        ·exact trivial
        clear hK K
        have hHeld := hHeld (by decide)
        try simp only [Act.put, zz1, zz2, zz3, zz4, zz5, zz6]
        refine To 4 rfl fun K hK => ?_
        have t0 := hTab.cell q9 tc
        (try simp only [drew_heap, size_alloc] at t0)
        go_simp
        refine hK.out _ _ (fun _ => ?_) (fun hHeld => ?_)
        ·exact trivial
        clear hK K
        have hHeld := hHeld (by decide)
        try simp only [Act.put, zz1, zz2, zz3, zz4, zz5, zz6]
        refine TkT 8 (v := ?_) rfl ?_ ?_
        rotate_left
        ·intro w s; go_simp; try with_reducible rfl
        try simp only [Act.put, zz1, zz2, zz3, zz4, zz5, zz6]
        refine To 10 rfl fun K hK => ?_
        first | refine wp_store_item _ _ _ rfl _ _ rfl rfl _ _ hNa size_ext rfl (one3 _ _ _ rfl rfl rfl) fun w6 hN6 hg6 => ?_ | (simp only [drew_heap, size_alloc] at hNa hNw; refine wp_store_item _ _ _ rfl _ _ rfl rfl _ _ hNa size_ext rfl (one3 _ _ _ rfl rfl rfl) fun w6 hN6 hg6 => ?_)
        have hd6 := hd0.gb hNw.out.2 hNw.out.1 hgr hg6
        have hO6 := hO0.kl hg6 (fun q hv => Nat.lt_of_lt_of_le (hol.out q hv).2 hNw.out.1)
        go_simp
        refine hK.out _ _ (fun h => absurd rfl h) (fun _ => ?_)
        clear hK K
        try simp only [Act.put, zz1, zz2, zz3, zz4, zz5, zz6]
        refine Ways.done (by kernel_rfl) ?_
        go_wp2_with fail
        go_meet
        exact ⟨_, lb, _, rfl, hN6, tb.out.1, tb.out.2, hdw.trans hd6, hO6, hNw.out.1, hNw.out.2⟩
      ·go_simp
       have hNa := hd0.newBlk 62 #[.int .i64 0, .bool false, .slice none 0 0]
       have hNg := hd0.gtSize
       have hNw := Hh (And.intro hd0.size (hd0.holds.none_of_ge (Nat.le_refl _)))
       have hO0 := hO0.alloc (.cells #[.int .i64 0, .bool false, .slice none 0 0] 62)
       (try have hTab := hTab.alloc (.cells #[.int .i64 0, .bool false, .slice none 0 0] 62))
       have hd0 := hd0.alloc (.cells #[.int .i64 0, .bool false, .slice none 0 0] 62)
       refine hK.out _ _ (fun _ => ?_) (fun hHeld => ?_)
       ·exact trivial
       clear hK K
       have hHeld := hHeld (by decide)
       try simp only [Act.put, zz1, zz2, zz3, zz4, zz5, zz6]
       refine To 0 rfl fun K hK => ?_
       go_simp
       have hTab := hd0.newBlk 3 #[.int .i64 0, .int .i64 1, .int .i64 5, .int .i64 24, .int .i64 300, .int .i64 65535, .int .i64 (-1), .int .i64 (-25), .int .i64 (-65535)]
       (try have hNa := hNa.alloc (.cells #[.int .i64 0, .int .i64 1, .int .i64 5, .int .i64 24, .int .i64 300, .int .i64 65535, .int .i64 (-1), .int .i64 (-25), .int .i64 (-65535)] 3))
       have hO0 := hO0.alloc (.cells #[.int .i64 0, .int .i64 1, .int .i64 5, .int .i64 24, .int .i64 300, .int .i64 65535, .int .i64 (-1), .int .i64 (-25), .int .i64 (-65535)] 3)
       have hTg := hd0.gtSize
       have hd0 := hd0.alloc (.cells #[.int .i64 0, .int .i64 1, .int .i64 5, .int .i64 24, .int .i64 300, .int .i64 65535, .int .i64 (-1), .int .i64 (-25), .int .i64 (-65535)] 3)
       refine hK.out _ _ (fun _ => ?_) (fun hHeld => ?_)
       ·exact trivial
       clear hK K
       have hHeld := hHeld (by decide)
       try simp only [Act.put, zz1, zz2, zz3, zz4, zz5, zz6]
       refine TkT 3 (v := ?_) rfl ?_ ?_
       rotate_left
       ·intro w s; go_simp; try with_reducible rfl
       try simp only [Act.put, zz1, zz2, zz3, zz4, zz5, zz6]
       refine To 4 rfl fun K hK => ?_
       have t0 := hTab.cell q9 tc
       (try simp only [drew_heap, size_alloc] at t0)
       go_simp
       refine hK.out _ _ (fun _ => ?_) (fun hHeld => ?_)
       ·exact trivial
       clear hK K
       have hHeld := hHeld (by decide)
       try simp only [Act.put, zz1, zz2, zz3, zz4, zz5, zz6]
       refine TkT 8 (v := ?_) rfl ?_ ?_
       rotate_left
       ·intro w s; go_simp; try with_reducible rfl
       try simp only [Act.put, zz1, zz2, zz3, zz4, zz5, zz6]
       refine To 10 rfl fun K hK => ?_
       first | refine wp_store_item _ _ _ rfl _ _ rfl rfl _ _ hNa size_ext rfl (one3 _ _ _ rfl rfl rfl) fun w6 hN6 hg6 => ?_ | (simp only [drew_heap, size_alloc] at hNa hNw; refine wp_store_item _ _ _ rfl _ _ rfl rfl _ _ hNa size_ext rfl (one3 _ _ _ rfl rfl rfl) fun w6 hN6 hg6 => ?_)
       have hd6 := hd0.gb hNw.out.2 hNw.out.1 hgr hg6
       have hO6 := hO0.kl hg6 (fun q hv => Nat.lt_of_lt_of_le (hol.out q hv).2 hNw.out.1)
       go_simp
       refine hK.out _ _ (fun h => absurd rfl h) (fun _ => ?_)
       clear hK K
       try simp only [Act.put, zz1, zz2, zz3, zz4, zz5, zz6]
       refine Ways.done (by kernel_rfl) ?_
       go_wp2_with fail
       go_meet
       exact ⟨_, lb, _, rfl, hN6, tb.out.1, tb.out.2, hdw.trans hd6, hO6, hNw.out.1, hNw.out.2⟩
     ·go_simp
      have hNa := hd0.newBlk 62 #[.int .i64 0, .bool false, .slice none 0 0]
      have hNg := hd0.gtSize
      have hNw := Hh (And.intro hd0.size (hd0.holds.none_of_ge (Nat.le_refl _)))
      have hO0 := hO0.alloc (.cells #[.int .i64 0, .bool false, .slice none 0 0] 62)
      (try have hTab := hTab.alloc (.cells #[.int .i64 0, .bool false, .slice none 0 0] 62))
      have hd0 := hd0.alloc (.cells #[.int .i64 0, .bool false, .slice none 0 0] 62)
      refine hK.out _ _ (fun _ => ?_) (fun hHeld => ?_)
      ·exact trivial
      clear hK K
      have hHeld := hHeld (by decide)
      try simp only [Act.put, zz1, zz2, zz3, zz4, zz5, zz6]
      refine Ways.two (i := 0) (j := 6) rfl rfl (by kernel_rfl) (fun K hK => ?_) (fun K hK => ?_)
      ·go_simp
       have hTab := hd0.newBlk 3 #[.int .i64 0, .int .i64 1, .int .i64 5, .int .i64 24, .int .i64 300, .int .i64 65535, .int .i64 (-1), .int .i64 (-25), .int .i64 (-65535)]
       (try have hNa := hNa.alloc (.cells #[.int .i64 0, .int .i64 1, .int .i64 5, .int .i64 24, .int .i64 300, .int .i64 65535, .int .i64 (-1), .int .i64 (-25), .int .i64 (-65535)] 3))
       have hO0 := hO0.alloc (.cells #[.int .i64 0, .int .i64 1, .int .i64 5, .int .i64 24, .int .i64 300, .int .i64 65535, .int .i64 (-1), .int .i64 (-25), .int .i64 (-65535)] 3)
       have hTg := hd0.gtSize
       have hd0 := hd0.alloc (.cells #[.int .i64 0, .int .i64 1, .int .i64 5, .int .i64 24, .int .i64 300, .int .i64 65535, .int .i64 (-1), .int .i64 (-25), .int .i64 (-65535)] 3)
       refine hK.out _ _ (fun _ => ?_) (fun hHeld => ?_)
       ·exact trivial
       clear hK K
       have hHeld := hHeld (by decide)
       try simp only [Act.put, zz1, zz2, zz3, zz4, zz5, zz6]
       refine TkT 3 (v := ?_) rfl ?_ ?_
       rotate_left
       ·intro w s; go_simp; try with_reducible rfl
       try simp only [Act.put, zz1, zz2, zz3, zz4, zz5, zz6]
       refine Ways.two (i := 4) (j := 6) rfl rfl (by kernel_rfl) (fun K hK => ?_) (fun K hK => ?_)
       ·have t0 := hTab.cell q9 tc
        (try simp only [drew_heap, size_alloc] at t0)
        go_simp
        refine hK.out _ _ (fun _ => ?_) (fun hHeld => ?_)
        ·exact trivial
        clear hK K
        have hHeld := hHeld (by decide)
        try simp only [Act.put, zz1, zz2, zz3, zz4, zz5, zz6]
        refine To 6 rfl fun K hK => ?_
        go_simp
        refine (deck_Next _ hd0.deck 2 (by omega) (by omega)).mono ?_
        rintro e w4 ⟨q2, rfl, hq2, hd2⟩
        (try have hTab := hTab.dealt hd2 hTg)
        (try have hNa := hNa.dealt hd2 hNg)
        have hO0 := hO0.dealt hd2 hgl
        have hd0 := hd0.trans hd2
        clear hd2
        refine hK.out _ _ (fun _ => ?_) (fun hHeld => ?_)
        ·exact trivial
        clear hK K
        have hHeld := hHeld (by decide)
        try simp only [Act.put, zz1, zz2, zz3, zz4, zz5, zz6]
        refine TkT 7 (v := ?_) rfl ?_ ?_
        rotate_left
        ·intro w s; go_simp; try with_reducible rfl
        try simp only [Act.put, zz1, zz2, zz3, zz4, zz5, zz6]
        refine TkT 8 (v := ?_) rfl ?_ ?_
        rotate_left
        ·intro w s; go_simp; try with_reducible rfl
        try simp only [Act.put, zz1, zz2, zz3, zz4, zz5, zz6]
        refine To 10 rfl fun K hK => ?_
        first | refine wp_store_item _ _ _ rfl _ _ rfl rfl _ _ hNa size_ext rfl (one3 _ _ _ rfl rfl rfl) fun w6 hN6 hg6 => ?_ | (simp only [drew_heap, size_alloc] at hNa hNw; refine wp_store_item _ _ _ rfl _ _ rfl rfl _ _ hNa size_ext rfl (one3 _ _ _ rfl rfl rfl) fun w6 hN6 hg6 => ?_)
        have hd6 := hd0.gb hNw.out.2 hNw.out.1 hgr hg6
        have hO6 := hO0.kl hg6 (fun q hv => Nat.lt_of_lt_of_le (hol.out q hv).2 hNw.out.1)
        go_simp
        refine hK.out _ _ (fun h => absurd rfl h) (fun _ => ?_)
        clear hK K
        try simp only [Act.put, zz1, zz2, zz3, zz4, zz5, zz6]
        refine Ways.done (by kernel_rfl) ?_
        go_wp2_with fail
        go_meet
        exact ⟨_, lb, _, rfl, hN6, tb.out.1, tb.out.2, hdw.trans hd6, hO6, hNw.out.1, hNw.out.2⟩
       ·go_simp
        refine (deck_Next _ hd0.deck 2 (by omega) (by omega)).mono ?_
        rintro e w4 ⟨q2, rfl, hq2, hd2⟩
        (try have hTab := hTab.dealt hd2 hTg)
        (try have hNa := hNa.dealt hd2 hNg)
        have hO0 := hO0.dealt hd2 hgl
        have hd0 := hd0.trans hd2
        clear hd2
        refine hK.out _ _ (fun _ => ?_) (fun hHeld => ?_)
        ·exact trivial
        clear hK K
        have hHeld := hHeld (by decide)
        try simp only [Act.put, zz1, zz2, zz3, zz4, zz5, zz6]
        refine TkT 7 (v := ?_) rfl ?_ ?_
        rotate_left
        ·intro w s; go_simp; try with_reducible rfl
        try simp only [Act.put, zz1, zz2, zz3, zz4, zz5, zz6]
        refine To 4 rfl fun K hK => ?_
        have t0 := hTab.cell q9 tc
        (try simp only [drew_heap, size_alloc] at t0)
        go_simp
        refine hK.out _ _ (fun _ => ?_) (fun hHeld => ?_)
        ·exact trivial
        clear hK K
        have hHeld := hHeld (by decide)
        try simp only [Act.put, zz1, zz2, zz3, zz4, zz5, zz6]
        refine TkT 8 (v := ?_) rfl ?_ ?_
        rotate_left
        ·intro w s; go_simp; try with_reducible rfl
        try simp only [Act.put, zz1, zz2, zz3, zz4, zz5, zz6]
        refine To 10 rfl fun K hK => ?_
        first | refine wp_store_item _ _ _ rfl _ _ rfl rfl _ _ hNa size_ext rfl (one3 _ _ _ rfl rfl rfl) fun w6 hN6 hg6 => ?_ | (simp only [drew_heap, size_alloc] at hNa hNw; refine wp_store_item _ _ _ rfl _ _ rfl rfl _ _ hNa size_ext rfl (one3 _ _ _ rfl rfl rfl) fun w6 hN6 hg6 => ?_)
        have hd6 := hd0.gb hNw.out.2 hNw.out.1 hgr hg6
        have hO6 := hO0.kl hg6 (fun q hv => Nat.lt_of_lt_of_le (hol.out q hv).2 hNw.out.1)
        go_simp
        refine hK.out _ _ (fun h => absurd rfl h) (fun _ => ?_)
        clear hK K
        try simp only [Act.put, zz1, zz2, zz3, zz4, zz5, zz6]
        refine Ways.done (by kernel_rfl) ?_
        go_wp2_with fail
        go_meet
        exact ⟨_, lb, _, rfl, hN6, tb.out.1, tb.out.2, hdw.trans hd6, hO6, hNw.out.1, hNw.out.2⟩
      ·go_simp
       refine (deck_Next _ hd0.deck 2 (by omega) (by omega)).mono ?_
       rintro e w4 ⟨q2, rfl, hq2, hd2⟩
       (try have hTab := hTab.dealt hd2 hTg)
       (try have hNa := hNa.dealt hd2 hNg)
       have hO0 := hO0.dealt hd2 hgl
       have hd0 := hd0.trans hd2
       clear hd2
       refine hK.out _ _ (fun _ => ?_) (fun hHeld => ?_)
       ·exact trivial
       clear hK K
       have hHeld := hHeld (by decide)
       try simp only [Act.put, zz1, zz2, zz3, zz4, zz5, zz6]
       refine TkT 7 (v := ?_) rfl ?_ ?_
       rotate_left
       ·intro w s; go_simp; try with_reducible rfl
       try simp only [Act.put, zz1, zz2, zz3, zz4, zz5, zz6]
       refine To 0 rfl fun K hK => ?_
       go_simp
       have hTab := hd0.newBlk 3 #[.int .i64 0, .int .i64 1, .int .i64 5, .int .i64 24, .int .i64 300, .int .i64 65535, .int .i64 (-1), .int .i64 (-25), .int .i64 (-65535)]
       (try have hNa := hNa.alloc (.cells #[.int .i64 0, .int .i64 1, .int .i64 5, .int .i64 24, .int .i64 300, .int .i64 65535, .int .i64 (-1), .int .i64 (-25), .int .i64 (-65535)] 3))
       have hO0 := hO0.alloc (.cells #[.int .i64 0, .int .i64 1, .int .i64 5, .int .i64 24, .int .i64 300, .int .i64 65535, .int .i64 (-1), .int .i64 (-25), .int .i64 (-65535)] 3)
       have hTg := hd0.gtSize
       have hd0 := hd0.alloc (.cells #[.int .i64 0, .int .i64 1, .int .i64 5, .int .i64 24, .int .i64 300, .int .i64 65535, .int .i64 (-1), .int .i64 (-25), .int .i64 (-65535)] 3)
       refine hK.out _ _ (fun _ => ?_) (fun hHeld => ?_)
       ·exact trivial
       clear hK K
       have hHeld := hHeld (by decide)
       try simp only [Act.put, zz1, zz2, zz3, zz4, zz5, zz6]
       refine TkT 3 (v := ?_) rfl ?_ ?_
       rotate_left
       ·intro w s; go_simp; try with_reducible rfl
       try simp only [Act.put, zz1, zz2, zz3, zz4, zz5, zz6]
       refine To 4 rfl fun K hK => ?_
       have t0 := hTab.cell q9 tc
       (try simp only [drew_heap, size_alloc] at t0)
       go_simp
       refine hK.out _ _ (fun _ => ?_) (fun hHeld => ?_)
       ·exact trivial
       clear hK K
       have hHeld := hHeld (by decide)
       try simp only [Act.put, zz1, zz2, zz3, zz4, zz5, zz6]
       refine TkT 8 (v := ?_) rfl ?_ ?_
       rotate_left
       ·intro w s; go_simp; try with_reducible rfl
       try simp only [Act.put, zz1, zz2, zz3, zz4, zz5, zz6]
       refine To 10 rfl fun K hK => ?_
       first | refine wp_store_item _ _ _ rfl _ _ rfl rfl _ _ hNa size_ext rfl (one3 _ _ _ rfl rfl rfl) fun w6 hN6 hg6 => ?_ | (simp only [drew_heap, size_alloc] at hNa hNw; refine wp_store_item _ _ _ rfl _ _ rfl rfl _ _ hNa size_ext rfl (one3 _ _ _ rfl rfl rfl) fun w6 hN6 hg6 => ?_)
       have hd6 := hd0.gb hNw.out.2 hNw.out.1 hgr hg6
       have hO6 := hO0.kl hg6 (fun q hv => Nat.lt_of_lt_of_le (hol.out q hv).2 hNw.out.1)
       go_simp
       refine hK.out _ _ (fun h => absurd rfl h) (fun _ => ?_)
       clear hK K
       try simp only [Act.put, zz1, zz2, zz3, zz4, zz5, zz6]
       refine Ways.done (by kernel_rfl) ?_
       go_wp2_with fail
       go_meet
       exact ⟨_, lb, _, rfl, hN6, tb.out.1, tb.out.2, hdw.trans hd6, hO6, hNw.out.1, hNw.out.2⟩
    ·go_simp
     have hNa := hd0.newBlk 62 #[.int .i64 0, .bool false, .slice none 0 0]
     have hNg := hd0.gtSize
     have hNw := Hh (And.intro hd0.size (hd0.holds.none_of_ge (Nat.le_refl _)))
     have hO0 := hO0.alloc (.cells #[.int .i64 0, .bool false, .slice none 0 0] 62)
     (try have hTab := hTab.alloc (.cells #[.int .i64 0, .bool false, .slice none 0 0] 62))
     have hd0 := hd0.alloc (.cells #[.int .i64 0, .bool false, .slice none 0 0] 62)
     refine hK.out _ _ (fun _ => ?_) (fun hHeld => ?_)
     ·exact trivial
     clear hK K
     have hHeld := hHeld (by decide)
     try simp only [Act.put, zz1, zz2, zz3, zz4, zz5, zz6]
     refine Ways.two (i := 0) (j := 2) rfl rfl (by kernel_rfl) (fun K hK => ?_) (fun K hK => ?_)
     ·go_simp
      have hTab := hd0.newBlk 3 #[.int .i64 0, .int .i64 1, .int .i64 5, .int .i64 24, .int .i64 300, .int .i64 65535, .int .i64 (-1), .int .i64 (-25), .int .i64 (-65535)]
      (try have hNa := hNa.alloc (.cells #[.int .i64 0, .int .i64 1, .int .i64 5, .int .i64 24, .int .i64 300, .int .i64 65535, .int .i64 (-1), .int .i64 (-25), .int .i64 (-65535)] 3))
      have hO0 := hO0.alloc (.cells #[.int .i64 0, .int .i64 1, .int .i64 5, .int .i64 24, .int .i64 300, .int .i64 65535, .int .i64 (-1), .int .i64 (-25), .int .i64 (-65535)] 3)
      have hTg := hd0.gtSize
      have hd0 := hd0.alloc (.cells #[.int .i64 0, .int .i64 1, .int .i64 5, .int .i64 24, .int .i64 300, .int .i64 65535, .int .i64 (-1), .int .i64 (-25), .int .i64 (-65535)] 3)
      refine hK.out _ _ (fun _ => ?_) (fun hHeld => ?_)
      ·exact trivial
      clear hK K
      have hHeld := hHeld (by decide)
      try simp only [Act.put, zz1, zz2, zz3, zz4, zz5, zz6]
      refine To 2 rfl fun K hK => ?_
      go_simp
      refine (deck_Next _ hd0.deck 9 (by omega) (by omega)).mono ?_
      rintro e w3 ⟨q9, rfl, hq9, hd9⟩
      (try have hTab := hTab.dealt hd9 hTg)
      (try have hNa := hNa.dealt hd9 hNg)
      have hO0 := hO0.dealt hd9 hgl
      have hd0 := hd0.trans hd9
      have tc := tab_cell q9 (by omega)
      have tb := Hh (tabL_bnd q9)
      obtain ⟨lb, hlb⟩ : ∃ lb, tabL q9 = lb := ⟨_, rfl⟩
      rw [hlb] at tc tb
      clear hd9 hlb
      refine hK.out _ _ (fun _ => ?_) (fun hHeld => ?_)
      ·exact trivial
      clear hK K
      have hHeld := hHeld (by decide)
      try simp only [Act.put, zz1, zz2, zz3, zz4, zz5, zz6]
      refine TkT 3 (v := ?_) rfl ?_ ?_
      rotate_left
      ·intro w s; go_simp; try with_reducible rfl
      try simp only [Act.put, zz1, zz2, zz3, zz4, zz5, zz6]
      refine Ways.two (i := 4) (j := 6) rfl rfl (by kernel_rfl) (fun K hK => ?_) (fun K hK => ?_)
      ·have t0 := hTab.cell q9 tc
       (try simp only [drew_heap, size_alloc] at t0)
       go_simp
       refine hK.out _ _ (fun _ => ?_) (fun hHeld => ?_)
       ·exact trivial
       clear hK K
       have hHeld := hHeld (by decide)
       try simp only [Act.put, zz1, zz2, zz3, zz4, zz5, zz6]
       refine To 6 rfl fun K hK => ?_
       go_simp
       refine (deck_Next _ hd0.deck 2 (by omega) (by omega)).mono ?_
       rintro e w4 ⟨q2, rfl, hq2, hd2⟩
       (try have hTab := hTab.dealt hd2 hTg)
       (try have hNa := hNa.dealt hd2 hNg)
       have hO0 := hO0.dealt hd2 hgl
       have hd0 := hd0.trans hd2
       clear hd2
       refine hK.out _ _ (fun _ => ?_) (fun hHeld => ?_)
       ·exact trivial
       clear hK K
       have hHeld := hHeld (by decide)
       try simp only [Act.put, zz1, zz2, zz3, zz4, zz5, zz6]
       refine TkT 7 (v := ?_) rfl ?_ ?_
       rotate_left
       ·intro w s; go_simp; try with_reducible rfl
       try simp only [Act.put, zz1, zz2, zz3, zz4, zz5, zz6]
       refine TkT 8 (v := ?_) rfl ?_ ?_
       rotate_left
       ·intro w s; go_simp; try with_reducible rfl
       try simp only [Act.put, zz1, zz2, zz3, zz4, zz5, zz6]
       refine To 10 rfl fun K hK => ?_
       first | refine wp_store_item _ _ _ rfl _ _ rfl rfl _ _ hNa size_ext rfl (one3 _ _ _ rfl rfl rfl) fun w6 hN6 hg6 => ?_ | (simp only [drew_heap, size_alloc] at hNa hNw; refine wp_store_item _ _ _ rfl _ _ rfl rfl _ _ hNa size_ext rfl (one3 _ _ _ rfl rfl rfl) fun w6 hN6 hg6 => ?_)
       have hd6 := hd0.gb hNw.out.2 hNw.out.1 hgr hg6
       have hO6 := hO0.kl hg6 (fun q hv => Nat.lt_of_lt_of_le (hol.out q hv).2 hNw.out.1)
       go_simp
       refine hK.out _ _ (fun h => absurd rfl h) (fun _ => ?_)
       clear hK K
       try simp only [Act.put, zz1, zz2, zz3, zz4, zz5, zz6]
       refine Ways.done (by kernel_rfl) ?_
       go_wp2_with fail
       go_meet
       exact ⟨_, lb, _, rfl, hN6, tb.out.1, tb.out.2, hdw.trans hd6, hO6, hNw.out.1, hNw.out.2⟩
      ·go_simp
       refine (deck_Next _ hd0.deck 2 (by omega) (by omega)).mono ?_
       rintro e w4 ⟨q2, rfl, hq2, hd2⟩
       (try have hTab := hTab.dealt hd2 hTg)
       (try have hNa := hNa.dealt hd2 hNg)
       have hO0 := hO0.dealt hd2 hgl
       have hd0 := hd0.trans hd2
       clear hd2
       refine hK.out _ _ (fun _ => ?_) (fun hHeld => ?_)
       ·exact trivial
       clear hK K
       have hHeld := hHeld (by decide)
       try simp only [Act.put, zz1, zz2, zz3, zz4, zz5, zz6]
       refine TkT 7 (v := ?_) rfl ?_ ?_
       rotate_left
       ·intro w s; go_simp; try with_reducible rfl
       try simp only [Act.put, zz1, zz2, zz3, zz4, zz5, zz6]
       refine To 4 rfl fun K hK => ?_
       have t0 := hTab.cell q9 tc
       (try simp only [drew_heap, size_alloc] at t0)
       go_simp
       refine hK.out _ _ (fun _ => ?_) (fun hHeld => ?_)
       ·exact trivial
       clear hK K
       have hHeld := hHeld (by decide)
       try simp only [Act.put, zz1, zz2, zz3, zz4, zz5, zz6]
       refine TkT 8 (v := ?_) rfl ?_ ?_
       rotate_left
       ·intro w s; go_simp; try with_reducible rfl
       try simp only [Act.put, zz1, zz2, zz3, zz4, zz5, zz6]
       refine To 10 rfl fun K hK => ?_
       first | refine wp_store_item _ _ _ rfl _ _ rfl rfl _ _ hNa size_ext rfl (one3 _ _ _ rfl rfl rfl) fun w6 hN6 hg6 => ?_ | (simp only [drew_heap, size_alloc] at hNa hNw; refine wp_store_item _ _ _ rfl _ _ rfl rfl _ _ hNa size_ext rfl (one3 _ _ _ rfl rfl rfl) fun w6 hN6 hg6 => ?_)
       have hd6 := hd0.gb hNw.out.2 hNw.out.1 hgr hg6
       have hO6 := hO0.kl hg6 (fun q hv => Nat.lt_of_lt_of_le (hol.out q hv).2 hNw.out.1)
       go_simp
       refine hK.out _ _ (fun h => absurd rfl h) (fun _ => ?_)
       clear hK K
       try simp only [Act.put, zz1, zz2, zz3, zz4, zz5, zz6]
       refine Ways.done (by kernel_rfl) ?_
       go_wp2_with fail
       go_meet
       exact ⟨_, lb, _, rfl, hN6, tb.out.1, tb.out.2, hdw.trans hd6, hO6, hNw.out.1, hNw.out.2⟩
     ·go_simp
      refine (deck_Next _ hd0.deck 9 (by omega) (by omega)).mono ?_
      rintro e w3 ⟨q9, rfl, hq9, hd9⟩
      (try have hTab := hTab.dealt hd9 hTg)
      (try have hNa := hNa.dealt hd9 hNg)
      have hO0 := hO0.dealt hd9 hgl
      have hd0 := hd0.trans hd9
      have tc := tab_cell q9 (by omega)
      have tb := Hh (tabL_bnd q9)
      obtain ⟨lb, hlb⟩ : ∃ lb, tabL q9 = lb := ⟨_, rfl⟩
      rw [hlb] at tc tb
      clear hd9 hlb
      refine hK.out _ _ (fun _ => ?_) (fun hHeld => ?_)
      ·exact trivial
      clear hK K
      have hHeld := hHeld (by decide)
      try simp only [Act.put, zz1, zz2, zz3, zz4, zz5, zz6]
      refine Ways.two (i := 0) (j := 6) rfl rfl (by kernel_rfl) (fun K hK => ?_) (fun K hK => ?_)
      ·go_simp
       have hTab := hd0.newBlk 3 #[.int .i64 0, .int .i64 1, .int .i64 5, .int .i64 24, .int .i64 300, .int .i64 65535, .int .i64 (-1), .int .i64 (-25), .int .i64 (-65535)]
       (try have hNa := hNa.alloc (.cells #[.int .i64 0, .int .i64 1, .int .i64 5, .int .i64 24, .int .i64 300, .int .i64 65535, .int .i64 (-1), .int .i64 (-25), .int .i64 (-65535)] 3))
       have hO0 := hO0.alloc (.cells #[.int .i64 0, .int .i64 1, .int .i64 5, .int .i64 24, .int .i64 300, .int .i64 65535, .int .i64 (-1), .int .i64 (-25), .int .i64 (-65535)] 3)
       have hTg := hd0.gtSize
       have hd0 := hd0.alloc (.cells #[.int .i64 0, .int .i64 1, .int .i64 5, .int .i64 24, .int .i64 300, .int .i64 65535, .int .i64 (-1), .int .i64 (-25), .int .i64 (-65535)] 3)
       refine hK.out _ _ (fun _ => ?_) (fun hHeld => ?_)
       ·exact trivial
       clear hK K
       have hHeld := hHeld (by decide)
       try simp only [Act.put, zz1, zz2, zz3, zz4, zz5, zz6]
       refine TkT 3 (v := ?_) rfl ?_ ?_
       rotate_left
       ·intro w s; go_simp; try with_reducible rfl
       try simp only [Act.put, zz1, zz2, zz3, zz4, zz5, zz6]
       refine Ways.two (i := 4) (j := 6) rfl rfl (by kernel_rfl) (fun K hK => ?_) (fun K hK => ?_)
       ·have t0 := hTab.cell q9 tc
        (try simp only [drew_heap, size_alloc] at t0)
        go_simp
        refine hK.out _ _ (fun _ => ?_) (fun hHeld => ?_)
        ·exact trivial
        clear hK K
        have hHeld := hHeld (by decide)
        try simp only [Act.put, zz1, zz2, zz3, zz4, zz5, zz6]
        refine To 6 rfl fun K hK => ?_
        go_simp
        refine (deck_Next _ hd0.deck 2 (by omega) (by omega)).mono ?_
        rintro e w4 ⟨q2, rfl, hq2, hd2⟩
        (try have hTab := hTab.dealt hd2 hTg)
        (try have hNa := hNa.dealt hd2 hNg)
        have hO0 := hO0.dealt hd2 hgl
        have hd0 := hd0.trans hd2
        clear hd2
        refine hK.out _ _ (fun _ => ?_) (fun hHeld => ?_)
        ·exact trivial
        clear hK K
        have hHeld := hHeld (by decide)
        try simp only [Act.put, zz1, zz2, zz3, zz4, zz5, zz6]
        refine TkT 7 (v := ?_) rfl ?_ ?_
        rotate_left
        ·intro w s; go_simp; try with_reducible rfl
        try simp only [Act.put, zz1, zz2, zz3, zz4, zz5, zz6]
        refine TkT 8 (v := ?_) rfl ?_ ?_
        rotate_left
        ·intro w s; go_simp; try with_reducible rfl
        try simp only [Act.put, zz1, zz2, zz3, zz4, zz5, zz6]
        refine To 10 rfl fun K hK => ?_
        first | refine wp_store_item _ _ _ rfl _ _ rfl rfl _ _ hNa size_ext rfl (one3 _ _ _ rfl rfl rfl) fun w6 hN6 hg6 => ?_ | (simp only [drew_heap, size_alloc] at hNa hNw; refine wp_store_item _ _ _ rfl _ _ rfl rfl _ _ hNa size_ext rfl (one3 _ _ _ rfl rfl rfl) fun w6 hN6 hg6 => ?_)
        have hd6 := hd0.gb hNw.out.2 hNw.out.1 hgr hg6
        have hO6 := hO0.kl hg6 (fun q hv => Nat.lt_of_lt_of_le (hol.out q hv).2 hNw.out.1)
        go_simp
        refine hK.out _ _ (fun h => absurd rfl h) (fun _ => ?_)
        clear hK K
        try simp only [Act.put, zz1, zz2, zz3, zz4, zz5, zz6]
        refine Ways.done (by kernel_rfl) ?_
        go_wp2_with fail
        go_meet
        exact ⟨_, lb, _, rfl, hN6, tb.out.1, tb.out.2, hdw.trans hd6, hO6, hNw.out.1, hNw.out.2⟩
       ·go_simp
        refine (deck_Next _ hd0.deck 2 (by omega) (by omega)).mono ?_
        rintro e w4 ⟨q2, rfl, hq2, hd2⟩
        (try have hTab := hTab.dealt hd2 hTg)
        (try have hNa := hNa.dealt hd2 hNg)
        have hO0 := hO0.dealt hd2 hgl
        have hd0 := hd0.trans hd2
        clear hd2
        refine hK.out _ _ (fun _ => ?_) (fun hHeld => ?_)
        ·exact trivial
        clear hK K
        have hHeld := hHeld (by decide)
        try simp only [Act.put, zz1, zz2, zz3, zz4, zz5, zz6]
        refine TkT 7 (v := ?_) rfl ?_ ?_
        rotate_left
        ·intro w s; go_simp; try with_reducible rfl
        try simp only [Act.put, zz1, zz2, zz3, zz4, zz5, zz6]
        refine To 4 rfl fun K hK => ?_
        have t0 := hTab.cell q9 tc
        (try simp only [drew_heap, size_alloc] at t0)
        go_simp
        refine hK.out _ _ (fun _ => ?_) (fun hHeld => ?_)
        ·exact trivial
        clear hK K
        have hHeld := hHeld (by decide)
        try simp only [Act.put, zz1, zz2, zz3, zz4, zz5, zz6]
        refine TkT 8 (v := ?_) rfl ?_ ?_
        rotate_left
        ·intro w s; go_simp; try with_reducible rfl
        try simp only [Act.put, zz1, zz2, zz3, zz4, zz5, zz6]
        refine To 10 rfl fun K hK => ?_
        first | refine wp_store_item _ _ _ rfl _ _ rfl rfl _ _ hNa size_ext rfl (one3 _ _ _ rfl rfl rfl) fun w6 hN6 hg6 => ?_ | (simp only [drew_heap, size_alloc] at hNa hNw; refine wp_store_item _ _ _ rfl _ _ rfl rfl _ _ hNa size_ext rfl (one3 _ _ _ rfl rfl rfl) fun w6 hN6 hg6 => ?_)
        have hd6 := hd0.gb hNw.out.2 hNw.out.1 hgr hg6
        have hO6 := hO0.kl hg6 (fun q hv => Nat.lt_of_lt_of_le (hol.out q hv).2 hNw.out.1)
        go_simp
        refine hK.out _ _ (fun h => absurd rfl h) (fun _ => ?_)
        clear hK K
        try simp only [Act.put, zz1, zz2, zz3, zz4, zz5, zz6]
        refine Ways.done (by kernel_rfl) ?_
        go_wp2_with fail
        go_meet
        exact ⟨_, lb, _, rfl, hN6, tb.out.1, tb.out.2, hdw.trans hd6, hO6, hNw.out.1, hNw.out.2⟩
      ·go_simp
       refine (deck_Next _ hd0.deck 2 (by omega) (by omega)).mono ?_
       rintro e w4 ⟨q2, rfl, hq2, hd2⟩
       (try have hTab := hTab.dealt hd2 hTg)
       (try have hNa := hNa.dealt hd2 hNg)
       have hO0 := hO0.dealt hd2 hgl
       have hd0 := hd0.trans hd2
       clear hd2
       refine hK.out _ _ (fun _ => ?_) (fun hHeld => ?_)
       ·exact trivial
       clear hK K
       have hHeld := hHeld (by decide)
       try simp only [Act.put, zz1, zz2, zz3, zz4, zz5, zz6]
       refine TkT 7 (v := ?_) rfl ?_ ?_
       rotate_left
       ·intro w s; go_simp; try with_reducible rfl
       try simp only [Act.put, zz1, zz2, zz3, zz4, zz5, zz6]
       refine To 0 rfl fun K hK => ?_
       go_simp
       have hTab := hd0.newBlk 3 #[.int .i64 0, .int .i64 1, .int .i64 5, .int .i64 24, .int .i64 300, .int .i64 65535, .int .i64 (-1), .int .i64 (-25), .int .i64 (-65535)]
       (try have hNa := hNa.alloc (.cells #[.int .i64 0, .int .i64 1, .int .i64 5, .int .i64 24, .int .i64 300, .int .i64 65535, .int .i64 (-1), .int .i64 (-25), .int .i64 (-65535)] 3))
       have hO0 := hO0.alloc (.cells #[.int .i64 0, .int .i64 1, .int .i64 5, .int .i64 24, .int .i64 300, .int .i64 65535, .int .i64 (-1), .int .i64 (-25), .int .i64 (-65535)] 3)
       have hTg := hd0.gtSize
       have hd0 := hd0.alloc (.cells #[.int .i64 0, .int .i64 1, .int .i64 5, .int .i64 24, .int .i64 300, .int .i64 65535, .int .i64 (-1), .int .i64 (-25), .int .i64 (-65535)] 3)
       refine hK.out _ _ (fun _ => ?_) (fun hHeld => ?_)
       ·exact trivial
       clear hK K
       have hHeld := hHeld (by decide)
       try simp only [Act.put, zz1, zz2, zz3, zz4, zz5, zz6]
       refine TkT 3 (v := ?_) rfl ?_ ?_
       rotate_left
       ·intro w s; go_simp; try with_reducible rfl
       try simp only [Act.put, zz1, zz2, zz3, zz4, zz5, zz6]
       refine To 4 rfl fun K hK => ?_
       have t0 := hTab.cell q9 tc
       (try simp only [drew_heap, size_alloc] at t0)
       go_simp
       refine hK.out _ _ (fun _ => ?_) (fun hHeld => ?_)
       ·exact trivial
       clear hK K
       have hHeld := hHeld (by decide)
       try simp only [Act.put, zz1, zz2, zz3, zz4, zz5, zz6]
       refine TkT 8 (v := ?_) rfl ?_ ?_
       rotate_left
       ·intro w s; go_simp; try with_reducible rfl
       try simp only [Act.put, zz1, zz2, zz3, zz4, zz5, zz6]
       refine To 10 rfl fun K hK => ?_
       first | refine wp_store_item _ _ _ rfl _ _ rfl rfl _ _ hNa size_ext rfl (one3 _ _ _ rfl rfl rfl) fun w6 hN6 hg6 => ?_ | (simp only [drew_heap, size_alloc] at hNa hNw; refine wp_store_item _ _ _ rfl _ _ rfl rfl _ _ hNa size_ext rfl (one3 _ _ _ rfl rfl rfl) fun w6 hN6 hg6 => ?_)
       have hd6 := hd0.gb hNw.out.2 hNw.out.1 hgr hg6
       have hO6 := hO0.kl hg6 (fun q hv => Nat.lt_of_lt_of_le (hol.out q hv).2 hNw.out.1)
       go_simp
       refine hK.out _ _ (fun h => absurd rfl h) (fun _ => ?_)
       clear hK K
       try simp only [Act.put, zz1, zz2, zz3, zz4, zz5, zz6]
       refine Ways.done (by kernel_rfl) ?_
       go_wp2_with fail
       go_meet
       exact ⟨_, lb, _, rfl, hN6, tb.out.1, tb.out.2, hdw.trans hd6, hO6, hNw.out.1, hNw.out.2⟩
   case rest =>
    obtain ⟨N, lb, hb, rfl, hN, hlb1, hlb2, hd2, hO2, hNw, hNn⟩ := hcut
    clear hd0 hO0
    have HLB := Hh (And.intro hlb1 hlb2)
    have b0 := hN.cell 0 rfl
    have b1 := hN.cell 1 rfl
    have b2 := hN.cell 2 rfl
    clear hlb1 hlb2
    have HNW := Hh (show w.heap.size ≤ N by have := HSZ.out; omega)
    cases hb with
    | false =>
     have hd6 := hd2.alloc (.cells #[.int .i64 lb, .bool false, .slice none 0 0] 62)
     have hO6 := hO2.alloc (.cells #[.int .i64 lb, .bool false, .slice none 0 0] 62)
     go_wp2_with (at_builtin; refine stop_in ?_)
     unfold Stopped
     refine OwnX.append rfl (.tmp 27) (.tmp 29) 23 rfl Tryd.underlying23 rfl (by omega) info_ext rfl hO6 _ 1 _ [.int .i64 lb, .bool false, .slice none 0 0] [(⟨lb, false, []⟩ : Ext)] rfl rfl (RowC.one ⟨none, 0, rfl, IsBytes.nil _⟩) (Src.new _ _ _ _ rfl _ rfl) (by have := HKL.out.2.2; simp only [List.length_singleton]; split at this <;> omega) hd6.size fun v' w10 hO10 hg10 hat10 => ?_
     obtain ⟨VA', vc', rfl, _⟩ := hO10.form
     have hn10 := own_hid3 hd6.holds HNR.out hat10
     have hd10 := hd6.grownRow HNR.out (fun q hq => (hol.out q hq).1) hgl hg10
     have hlen : (l ++ [(⟨lb, false, []⟩ : Ext)]).length = l.length + 1 := by rw [List.length_append]; rfl
     have HA2 : Hid (∀ z ∈ l ++ [(⟨lb, false, []⟩ : Ext)], -65535 ≤ z.label ∧ z.label ≤ 65535 ∧ z.val.length ≤ 600) := by
      intro z hz
      rw [List.mem_append, List.mem_singleton] at hz
      rcases hz with hz | rfl
      ·exact HALL.out z hz
      ·exact ⟨HLB.out.1, HLB.out.2, by simp⟩
     obtain ⟨l', hl'⟩ : ∃ l', l ++ [(⟨lb, false, []⟩ : Ext)] = l' := ⟨_, rfl⟩
     rw [hl'] at hO10 hn10 hlen HA2 ⊢
     have HLN := Hh hlen
     have HK0 := Hh h0
     clear hl' hlen hd6 hO6 hg10 hat10 b0 b1 b2
     go_wp2_with fail
     go_roundw
     case rel => exact ⟨k - 1, Hr, VA', vc', _, l', by first | rfl | go_num, rfl, rfl, by have := HKL.out; have := HK0.out; omega, by have := HKL.out; omega, by have h1 := HKL.out.2.2; have h2 := HK0.out; rw [HLN.out]; rw [if_pos (by omega)] at h1; rw [if_pos (by omega)]; omega, hd10, hO10, hn10, HA2.out⟩
     case measure => have := HK0.out; simp [intOf]; omega
    | true =>
     have BY := Hh (mk_Bytes wc hd2.deck 5 (by omega) (by omega))
     go_wp2_with fail
     refine BY.out.mono ?_
     rintro e w3 ⟨YA, yc, yv, rfl, hyl, H3, hyb, hd3⟩
     have HLE := Hh hd3.le
     have hN3 := hN.dealt hd3 (by have := HSZ.out; omega)
     have hNn3 := hd3.hid hNn hN.lt
     have hO3 := (hO2.dealt hd3 hgl).mono hd3.le
     have hon3 := Hh (show ∀ q, (Value.slice VA l.length vc).ownBlock = some q → H3 q = none from fun q hq => hd3.hid (HNR.out q hq) (hO2.lt q hq).2)
     have hd4 := hd2.trans hd3
     have HYL := Hh (show yv.length ≤ 600 by omega)
     clear BY hd3 hd2 hO2 hN hyl b0 b1 b2
     go_wp2_with (with_reducible refine stop_store ?_)
     unfold Stopped
     refine wpList_store_cell rfl _ _ _ rfl rfl N 2 (.slice YA yv.length yc) rfl rfl _ _ hN3 size_bytes (by simp) rfl fun w5 hN5 hg5 => ?_
     have hd5 := hd4.gb hNn3 HNW.out hgl hg5
     have hO5 := hO3.kl hg5 (fun q hv => by have := (hol.out q hv).2; omega)
     have hN5' : Blk w5 N 62 #[.int .i64 lb, .bool true, .slice YA yv.length yc] := hN5
     clear hd4 hO3 hN3 hg5 hN5
     have b0 := hN5'.cell 0 rfl
     have b1 := hN5'.cell 1 rfl
     have b2 := hN5'.cell 2 rfl
     have hd6 := hd5.alloc (.cells #[.int .i64 lb, .bool true, .slice YA yv.length yc] 62)
     have hO6 := hO5.alloc (.cells #[.int .i64 lb, .bool true, .slice YA yv.length yc] 62)
     go_wp2_with (at_builtin; refine stop_in ?_)
     unfold Stopped
     refine OwnX.append rfl (.tmp 27) (.tmp 29) 23 rfl Tryd.underlying23 rfl (by omega) info_ext rfl hO6 _ 1 _ [.int .i64 lb, .bool true, .slice YA yv.length yc] [(⟨lb, true, yv⟩ : Ext)] rfl rfl (RowC.one ⟨YA, yc, rfl, hyb⟩) (Src.new _ _ _ _ rfl _ rfl) (by have := HKL.out.2.2; simp only [List.length_singleton]; split at this <;> omega) hd6.size fun v' w10 hO10 hg10 hat10 => ?_
     obtain ⟨VA', vc', rfl, _⟩ := hO10.form
     have hn10 := own_hid3 hd6.holds hon3.out hat10
     have hd10 := hd6.grownRow hon3.out (fun q hq => (hol.out q hq).1) hgl hg10
     have hlen : (l ++ [(⟨lb, true, yv⟩ : Ext)]).length = l.length + 1 := by rw [List.length_append]; rfl
     have HA2 : Hid (∀ z ∈ l ++ [(⟨lb, true, yv⟩ : Ext)], -65535 ≤ z.label ∧ z.label ≤ 65535 ∧ z.val.length ≤ 600) := by
      intro z hz
      rw [List.mem_append, List.mem_singleton] at hz
      rcases hz with hz | rfl
      ·exact HALL.out z hz
      ·exact ⟨HLB.out.1, HLB.out.2, HYL.out⟩
     obtain ⟨l', hl'⟩ : ∃ l', l ++ [(⟨lb, true, yv⟩ : Ext)] = l' := ⟨_, rfl⟩
     rw [hl'] at hO10 hn10 hlen HA2 ⊢
     have HLN := Hh hlen
     have HK0 := Hh h0
     clear hl' hlen hd6 hO6 hg10 hat10 b0 b1 b2
     go_wp2_with fail
     go_roundw
     case rel => exact ⟨k - 1, H3, VA', vc', _, l', by first | rfl | go_num, rfl, rfl, by have := HKL.out; have := HK0.out; omega, by have := HKL.out; omega, by have h1 := HKL.out.2.2; have h2 := HK0.out; rw [HLN.out]; rw [if_pos (by omega)] at h1; rw [if_pos (by omega)]; omega, hd10, hO10, hn10, HA2.out⟩
     case measure => have := HK0.out; simp [intOf]; omega
  ·have h0d : decide (0 < k) = false := decide_eq_false h0
   obtain ⟨H5, hl5, hh5, hf5, hz5, hir⟩ := hOr.snap hdr.holds (fun q hq => hnr q (own_of hq))
   have hlow : ∀ q, VA.map (·.block) = some q → w.heap.size ≤ q := fun q hq => (hOr.lt q (own_of hq)).1
   have hdz := hdr.snap hl5 hh5 hf5 hlow (Nat.le_refl _) hgl
   have HLN := Hh (show l.length ≤ 100 by have := HKL.out.2.2; split at this <;> omega)
   clear hOr hnr hdr hf5 h0
   go_wp2_with fail
   go_ret
   exact ⟨VA, vc, l, rfl, HLN.out, HALL.out, H5, hir, hdz⟩
end Go.Proofs.YtlebpackbfcfeaaDoor
