/- Walks: cbor.checker.item, cbor.Valid. -/
import Derived.Test.YtdbhgngikglmcaaDoorWcbor6
import Derived.Test.YtdbhgngikglmcaaDoorJpure
set_option linter.unusedVariables false
set_option linter.unusedSimpArgs false
namespace Go.Proofs.YtdbhgngikglmcaaDoor
open Go.RowKit

/-- What the checker's method does with an item. -/
def Counts (w : World) (g : Nat) (o : Option (Nat × Nat)) (e : Ending) (w' : World) : Prop :=
  e = .returned (.bool o.isSome) ∧ w.grownBy w' (some g) ∧ ∃ i s : Int, Chk w' g i s ∧ ∀ p, o = some p → i = (p.1 : Int) ∧ s = (p.2 : Int)

def ItemSaid (x : Itm) : Prop := ∀ (H : Snap) (k n : Int) (ba : Option Addr) (bl bc : Nat) (ia : Option Addr) (il ic : Nat) (w : World) (g i s lv : Nat),
  Tabs H → ItemA H k n ba bl bc ia il ic x → Holds w H → H g = none → Chk w g i s → i ≤ 256 → s ≤ 4096 → lv ≤ 8 →
  Calls Tryd.prog 56 #[.pointer (some ⟨g, 0, none⟩), .agg #[.int .i64 k, .int .u64 n, .slice ba bl bc, .slice ia il ic], .int .i64 (lv : Int)] w (Counts w g (chk x lv i s))

set_option maxRecDepth 100000 in
set_option maxHeartbeats 1600000 in
theorem item_many (x : Itm) (i s lv : Nat) (h : 256 < i + 1 ∨ 4096 < x.bytes.length ∨ 256 < x.items.length) {H : Snap} {ba : Option Addr} {bc : Nat} {ia : Option Addr} {ic : Nat} (hx : IsItem H ba bc ia ic x) (w : World) (g : Nat)
    (hc : Chk w g i s) (hi : i ≤ 256) : Calls Tryd.prog 56 #[.pointer (some ⟨g, 0, none⟩), itemV x ba bc ia ic, .int .i64 (lv : Int)] w (Counts w g (chk x lv i s)) := by
  have E : Hid (chk x lv i s = none) := by rw [Hid, chk_eq, if_pos h]
  obtain ⟨_, _, _, hb1, hb2, hi1, hi2⟩ := hx.bounds
  have hb : x.bytes.length ≤ 9223372036854775807 := by omega
  have hil : x.items.length ≤ 9223372036854775807 := by omega
  have hlt := hc.lt
  have c0 := hc.cell 0 rfl
  have f0 := hc.frozen 0
  have c00 := (hc.set_ 0 (.int .i64 ((i : Int) + 1))).cell 0 rfl
  have R := Lib.hid (And.intro ((hc.set_ 0 (.int .i64 ((i : Int) + 1))).alloc (.cells #[.int .i64 x.kind, .int .u64 x.n, .slice ba x.bytes.length bc, .slice ia x.items.length ic] 26))
    (grown_alloc (grown_set (grown_refl w (some g)) (.inl (rfl : (⟨g, 0, none⟩ : Addr).block = g)) (.int .i64 ((i : Int) + 1))) (.cells #[.int .i64 x.kind, .int .u64 x.n, .slice ba x.bytes.length bc, .slice ia x.items.length ic] 26)))
  have HH := Lib.hid h
  clear hx hb1 hb2 hi1 hi2 h
  go_enter Tryd.func56, Tryd.ntmps56
  go_wp2_with fail
  all_goals first
    | (go_ret; exact ⟨by rw [E.out]; rfl, R.out.2, _, _, R.out.1, by rw [E.out]; intro p hp; cases hp⟩)
    | (exfalso; have := HH.out; omega)

/-- The world behind the count, with the item in its box. -/
abbrev boxed (w : World) (g : Nat) (i : Int) (x : Itm) (ba : Option Addr) (bc : Nat) (ia : Option Addr) (ic : Nat) : World :=
  (w.setCell ⟨g, 0, none⟩ (.int .i64 i)).alloc (.cells #[.int .i64 x.kind, .int .u64 x.n, .slice ba x.bytes.length bc, .slice ia x.items.length ic] 26)

set_option maxRecDepth 100000 in
set_option maxHeartbeats 1600000 in
theorem item_plain (x : Itm) (i s lv : Nat) (h1 : i + 1 ≤ 256) (h2 : x.bytes.length ≤ 4096) (h3 : x.items.length ≤ 256) (hp : isPlain x = true) {H : Snap} (hT : Tabs H) {ba : Option Addr} {bc : Nat} {ia : Option Addr} {ic : Nat} (hx : IsItem H ba bc ia ic x)
    (w : World) (hH : Holds w H) (g : Nat) (hg : H g = none) (hc : Chk w g i s) (hs : s ≤ 4096) :
    Calls Tryd.prog 56 #[.pointer (some ⟨g, 0, none⟩), itemV x ba bc ia ic, .int .i64 (lv : Int)] w (Counts w g (chk x lv i s)) := by
  have E : Hid (chk x lv i s = if okPlain x = true ∧ s + spendP x ≤ 4096 then some (i + 1, s + spendP x) else none) := by rw [Hid, chk_eq, if_neg (by omega), if_pos hp]
  have hk := (isPlain_iff x).1 hp
  have hk0 : 0 ≤ x.kind := by omega
  have hk8 : x.kind ≤ 8 := by omega
  have hlt := hc.lt
  have c0 := hc.cell 0 rfl
  have f0 := hc.frozen 0
  have c00 := (hc.set_ 0 (.int .i64 ((i : Int) + 1))).cell 0 rfl
  have hC1 : Chk (boxed w g ((i : Int) + 1) x ba bc ia ic) g ((i : Int) + 1) s := (hc.set_ 0 _).alloc _
  have hB1 : Blk (boxed w g ((i : Int) + 1) x ba bc ia ic) w.heap.size 26 #[.int .i64 x.kind, .int .u64 x.n, .slice ba x.bytes.length bc, .slice ia x.items.length ic] := by
    have := Blk.new (w.setCell ⟨g, 0, none⟩ (.int .i64 ((i : Int) + 1))) 26 #[.int .i64 x.kind, .int .u64 x.n, .slice ba x.bytes.length bc, .slice ia x.items.length ic]
    rwa [show (w.setCell ⟨g, 0, none⟩ (.int .i64 ((i : Int) + 1))).heap.size = w.heap.size by simp [World.setCell]] at this
  have hG1 : w.grownBy (boxed w g ((i : Int) + 1) x ba bc ia ic) (some g) := grown_alloc (grown_set (grown_refl w (some g)) (.inl rfl) _) _
  have hH1 : Holds (boxed w g ((i : Int) + 1) x ba bc ia ic) H := (hH.setCell hg _).alloc _
  clear hk
  have hxa := hx.arg
  clear hx
  go_enter Tryd.func56, Tryd.ntmps56
  go_wp2_with fail
  refine (cbor_plain hT hxa _ hH1).mono ?_
  rintro e w2 ⟨rfl, hb2⟩
  have hC2 := hC1.below hb2
  have hB2 := hB1.below hb2
  have hG2 := grown_below hG1 hb2
  have b0 := hB2.cell 0 rfl
  have b1 := hB2.cell 1 rfl
  have b2 := hB2.cell 2 rfl
  have b3 := hB2.cell 3 rfl
  by_cases ho : okPlain x = true
  · go_wp2_with fail
    refine (cbor_spend hxa w2 g ((i : Int) + 1) s hC2 hk0 hk8 (by omega) (by omega) (by omega)).mono ?_
    rintro e w3 ⟨rfl, hC3, hG3⟩
    have R := Lib.hid (And.intro (grown_step hG2 hG3 (.inl rfl)) hC3)
    clear c0 f0 c00 hC1 hB1 hG1 hH1 hC2 hB2 hG2 b0 b1 b2 b3 hC3 hG3
    go_wp2_with fail
    go_ret
    refine ⟨?_, R.out.1, _, _, R.out.2, ?_⟩
    · rw [E.out]
      by_cases hle : s + spendP x ≤ 4096
      · rw [if_pos ⟨ho, hle⟩, show decide ((s : Int) + (spendP x : Int) ≤ 4096) = true by simp; omega]
        rfl
      · rw [if_neg (fun h => hle h.2), show decide ((s : Int) + (spendP x : Int) ≤ 4096) = false by simp; omega]
        rfl
    · intro p hp
      rw [E.out] at hp
      split at hp
      · injection hp with hp
        subst hp
        exact ⟨by simp, by simp⟩
      · cases hp
  · have ho' : okPlain x = false := by simpa using ho
    clear ho
    have R := Lib.hid (And.intro hG2 hC2)
    clear c0 f0 c00 hC1 hB1 hG1 hH1 hC2 hB2 hG2 b0 b1 b2 b3
    go_wp2_with fail
    go_ret
    have e0 : chk x lv i s = none := by rw [E.out, if_neg (fun h => by rw [ho'] at h; cases h.1)]
    exact ⟨by rw [e0]; rfl, R.out.1, _, _, R.out.2, by rw [e0]; intro p hp; cases hp⟩

set_option maxRecDepth 100000 in
set_option maxHeartbeats 1600000 in
theorem item_frame (x : Itm) (i s lv : Nat) (h1 : i + 1 ≤ 256) (h2 : x.bytes.length ≤ 4096) (h3 : x.items.length ≤ 256) (hp : isPlain x = false) (hf : frameOk x lv = false) {H : Snap} (hT : Tabs H) {ba : Option Addr} {bc : Nat} {ia : Option Addr} {ic : Nat} (hx : IsItem H ba bc ia ic x)
    (w : World) (hH : Holds w H) (g : Nat) (hg : H g = none) (hc : Chk w g i s) (hs : s ≤ 4096) (hlv : lv ≤ 8) :
    Calls Tryd.prog 56 #[.pointer (some ⟨g, 0, none⟩), itemV x ba bc ia ic, .int .i64 (lv : Int)] w (Counts w g (chk x lv i s)) := by
  have E : Hid (chk x lv i s = none) := by rw [Hid, chk_eq, if_neg (by omega), if_neg (by simp [hp]), if_pos hf]
  have hlt := hc.lt
  have c0 := hc.cell 0 rfl
  have f0 := hc.frozen 0
  have c00 := (hc.set_ 0 (.int .i64 ((i : Int) + 1))).cell 0 rfl
  have hC1 : Chk (boxed w g ((i : Int) + 1) x ba bc ia ic) g ((i : Int) + 1) s := (hc.set_ 0 _).alloc _
  have hB1 : Blk (boxed w g ((i : Int) + 1) x ba bc ia ic) w.heap.size 26 #[.int .i64 x.kind, .int .u64 x.n, .slice ba x.bytes.length bc, .slice ia x.items.length ic] := by
    have := Blk.new (w.setCell ⟨g, 0, none⟩ (.int .i64 ((i : Int) + 1))) 26 #[.int .i64 x.kind, .int .u64 x.n, .slice ba x.bytes.length bc, .slice ia x.items.length ic]
    rwa [show (w.setCell ⟨g, 0, none⟩ (.int .i64 ((i : Int) + 1))).heap.size = w.heap.size by simp [World.setCell]] at this
  have hG1 : w.grownBy (boxed w g ((i : Int) + 1) x ba bc ia ic) (some g) := grown_alloc (grown_set (grown_refl w (some g)) (.inl rfl) _) _
  have hH1 : Holds (boxed w g ((i : Int) + 1) x ba bc ia ic) H := (hH.setCell hg _).alloc _
  have hxa := hx.arg
  have HF := Lib.hid hf
  clear hx hf
  go_enter Tryd.func56, Tryd.ntmps56
  go_wp2_with fail
  refine (cbor_plain hT hxa _ hH1).mono ?_
  rintro e w2 ⟨rfl, hb2⟩
  have hC2 := hC1.below hb2
  have hB2 := hB1.below hb2
  have R := Lib.hid (And.intro (grown_below hG1 hb2) hC2)
  have b0 := hB2.cell 0 rfl
  have b1 := hB2.cell 1 rfl
  have b2 := hB2.cell 2 rfl
  have b3 := hB2.cell 3 rfl
  clear c0 f0 c00 hC1 hB1 hG1 hH1 hC2 hB2 hb2
  go_wp2_with fail
  all_goals first
    | (go_ret; exact ⟨by rw [E.out]; rfl, R.out.1, _, _, R.out.2, by rw [E.out]; intro p hp; cases hp⟩)
    | skip
  all_goals try simp only [beq_eq_false_iff_ne, ne_eq] at *
  all_goals exact absurd (show _ ∧ _ ∧ _ ∧ _ ∧ _ ∧ _ ∧ _ from ⟨by omega, by omega, by omega, by omega, fun _ => by omega, fun _ => by omega, fun _ => by omega⟩) (of_decide_eq_false HF.out)
end Go.Proofs.YtdbhgngikglmcaaDoor
