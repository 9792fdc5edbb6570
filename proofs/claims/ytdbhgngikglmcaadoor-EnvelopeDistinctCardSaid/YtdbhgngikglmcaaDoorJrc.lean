/- Walks: ref12.Empty; short. Walks: the references' List, Copy of headers. -/
import Derived.Test.YtdbhgngikglmcaaDoorJrb
import Derived.Test.YtdbhgngikglmcaaDoorJenv
set_option linter.unusedVariables false
set_option linter.unusedSimpArgs false
namespace Go.Proofs.YtdbhgngikglmcaaDoor
open Go.RowKit

theorem size_hdr : (Tryd.prog.info? 28).map (·.size) = some 8 := by kernel_rfl
set_option maxRecDepth 100000 in
theorem ref12_Empty (w : World) :
    Calls Tryd.prog 16 #[] w fun e w' => e = .returned (.agg (hdrC (.mk 5 0 [] []) ⟨none, 0, none, 0⟩ (.mk 5 0 [] []) ⟨none, 0, none, 0⟩)) ∧ Below w.heap.size w w' := by
  go_enter Tryd.func16, Tryd.ntmps16
  go_wp2_with fail
  refine ret_row rfl rfl (Blk.new _ _ _) rfl rfl size_hdr rfl ?_
  exact ⟨rfl, below_box _ _⟩

set_option maxRecDepth 100000 in
set_option maxHeartbeats 1600000 in
theorem law13_short {H : Snap} {A : Option Addr} {c : Nat} {ls : List (List UInt8)} (hr : IsRows H A c ls) (w : World) (hH : Holds w H) :
    Calls Tryd.prog 5 #[.slice A ls.length c] w fun e w' => e = .returned (.bool (ls.all fun l => decide (l.length ≤ 600))) ∧ w = w' := by
  have hc := hr.max
  have hle := hr.le
  have hl : ls.length ≤ 9223372036854775807 := by omega
  have HR := Lib.hid hr
  clear hr hc hle
  go_enter Tryd.func5, Tryd.ntmps5
  go_wp2_with fail
  go_loop [7] (fun v7 => ∃ k : Nat, k ≤ ls.length ∧ v7 = .int .i64 k ∧ ((ls.drop k).all fun l => decide (l.length ≤ 600)) = (ls.all fun l => decide (l.length ≤ 600))) (fun v7 => ls.length - (intOf v7).toNat)
  case atStart => exact ⟨0, Nat.zero_le _, rfl, rfl⟩
  case round =>
    obtain ⟨k, hk, rfl, hs⟩ := hrel
    have HS := Lib.hid hs
    clear hs
    by_cases hlt : k < ls.length
    · obtain ⟨ib, io, hia, hrow⟩ := HR.out.rows (by omega)
      obtain ⟨Aj, cj, q0, _⟩ := hrow k hlt
      subst hia
      have p0 := hH.cell q0
      have hst : Hid ((ls.all fun l => decide (l.length ≤ 600)) = (decide (ls[k].length ≤ 600) && (ls.drop (k + 1)).all fun l => decide (l.length ≤ 600))) := by rw [Hid, ← HS.out, List.drop_eq_getElem_cons hlt, List.all_cons]
      generalize ls[k]'hlt = x at *
      have SH := Lib.hid (fun w1 : World => mk_Short Aj x.length cj w1)
      clear q0 hrow
      by_cases h6 : x.length ≤ 600
      · have d6 : decide (x.length ≤ 600) = true := decide_eq_true h6
        have EN : Hid (((ls.drop (k + 1)).all fun l => decide (l.length ≤ 600)) = (ls.all fun l => decide (l.length ≤ 600))) := by rw [Hid, hst.out, d6, Bool.true_and]
        rw [d6] at SH
        clear h6 d6
        go_wp2_with fail
        refine (SH.out _).mono ?_
        rintro e w' ⟨rfl, rfl⟩
        go_wp2_with fail
        go_round
        case rel => exact ⟨k + 1, by omega, by go_num, EN.out⟩
        case measure => simp [intOf]; omega
      · have d6 : decide (x.length ≤ 600) = false := decide_eq_false h6
        have EN : Hid ((ls.all fun l => decide (l.length ≤ 600)) = false) := by rw [Hid, hst.out, d6, Bool.false_and]
        rw [d6] at SH
        clear h6 d6
        go_wp2_with fail
        refine (SH.out _).mono ?_
        rintro e w' ⟨rfl, rfl⟩
        go_wp2_with fail
        go_ret
        exact ⟨by rw [EN.out]; rfl, rfl⟩
    · have hkl : k = ls.length := by omega
      subst hkl
      have EN : Hid ((ls.all fun l => decide (l.length ≤ 600)) = true) := by rw [Hid, ← HS.out, List.drop_length]; rfl
      go_wp2_with fail
      go_ret
      exact ⟨by rw [EN.out]; rfl, rfl⟩
end Go.Proofs.YtdbhgngikglmcaaDoor
namespace Go.Proofs.YtdbhgngikglmcaaDoor
open Go.RowKit

/-- A slice of items. -/
structure IsRowI (H : Snap) (A : Option Addr) (c : Nat) (l : List Itm) : Prop where
  le : l.length ≤ c
  max : c ≤ 9223372036854775807
  elems : 0 < l.length → ∃ b off, A = some ⟨b, off, none⟩ ∧ IsElems H b off l
theorem IsRowI.mono {H K : Snap} {A : Option Addr} {c : Nat} {l : List Itm} (h : IsRowI H A c l) (hl : H.le K) : IsRowI K A c l :=
  ⟨h.le, h.max, fun h0 => by obtain ⟨b, off, e, he⟩ := h.elems h0; exact ⟨b, off, e, he.mono hl⟩⟩
theorem IsRowI.item {H : Snap} {A : Option Addr} {c : Nat} {l : List Itm} (h : IsRowI H A c l) (k : Int) (hk : 0 ≤ k ∧ k ≤ 8) (n : Nat) (hn : n < 18446744073709551616) : IsItem H none 0 A c (.mk k n [] l) := by
  rw [IsItem]
  exact ⟨⟨by omega, by omega, hn, h.le, h.max⟩, IsBytes.nil _, h.elems⟩
theorem IsItem.row {H : Snap} {ba : Option Addr} {bc : Nat} {ia : Option Addr} {ic : Nat} {x : Itm} (h : IsItem H ba bc ia ic x) : IsRowI H ia ic x.items := ⟨h.bounds.2.2.2.2.2.1, h.bounds.2.2.2.2.2.2, h.items⟩

set_option maxRecDepth 100000 in
theorem ref_List {H : Snap} {A : Option Addr} {c : Nat} {l : List Itm} (hr : IsRowI H A c l) (hm : ModestL l) (hl : l.length ≤ 1099511627776) (w : World) (hH : Holds w H) :
    Calls Tryd.prog 32 #[.slice A l.length c] w fun e w' => ∃ v, e = .returned v ∧ Gives w H (.mk 4 0 [] l) v w' := by
  have hT := Blk.new w 26 #[.int .i64 0, .int .u64 0, .slice none 0 0, .slice none 0 0]
  have hG := (Grows.refl hH).alloc zeroO
  have C := Lib.hid (ref_Copy (.mk 4 0 [] l) H 4 0 none 0 0 A l.length c _ (by rw [Modest]; exact ⟨by simp, hl, hm⟩) (hr.item 4 (by omega) 0 (by omega)).arg hG.holds)
  have hn0 : H w.heap.size = none := hH.none_of_ge (Nat.le_refl _)
  go_enter Tryd.func32, Tryd.ntmps32
  go_wp2_with fail
  refine C.out.mono ?_
  rintro e w2 ⟨v, rfl, ba, bc, ia, ic, H2, rfl, hG2, hi2⟩
  have hT2 := hT.below hG2.below
  have hGz := hG.trans hG2
  have hn2 := hG2.none hn0 hT.lt
  clear C hG hG2
  go_wp2_with (with_reducible refine stop_store ?_)
  unfold Stopped
  refine wpList_store_item rfl _ _ _ rfl rfl _ _ rfl rfl _ _ hT2 size_item rfl (one4 _ _ _ _ rfl rfl rfl rfl) fun w3 hT3 hg3 => ?_
  have hG3 := hGz.grownOwn hn2 (Nat.le_refl _) hg3
  go_wp2_with fail
  refine ret_row rfl rfl hT3 rfl rfl size_item rfl ?_
  exact ⟨_, rfl, ba, bc, ia, ic, H2, rfl, hG3, hi2⟩

abbrev zeroH : Obj := .cells (hdrC zeroItm ⟨none, 0, none, 0⟩ zeroItm ⟨none, 0, none, 0⟩) 28
/-- Headers in new memory. -/
def GivesH (w : World) (H : Snap) (p u : Itm) (v : Value) (w' : World) : Prop :=
  ∃ (a b : Ad) (H' : Snap), v = .agg (hdrC p a u b) ∧ Grows w H w' H' ∧ IsItem H' a.ba a.bc a.ia a.ic p ∧ IsItem H' b.ba b.bc b.ia b.ic u

set_option maxRecDepth 100000 in
set_option maxHeartbeats 1600000 in
theorem ref12_Copy {H : Snap} {p u : Itm} (hmp : Modest p) (hmu : Modest u) {a b : Ad} (hp : IsItem H a.ba a.bc a.ia a.ic p) (hu : IsItem H b.ba b.bc b.ia b.ic u) (w : World) (hH : Holds w H) :
    Calls Tryd.prog 44 #[.agg (hdrC p a u b)] w fun e w' => ∃ v, e = .returned v ∧ GivesH w H p u v w' := by
  have hB := ((Blk.new w 28 (hdrC p a u b)).alloc zeroH).drew
  have hT := (Blk.new (w.alloc (.cells (hdrC p a u b) 28)) 28 (hdrC zeroItm ⟨none, 0, none, 0⟩ zeroItm ⟨none, 0, none, 0⟩)).drew
  simp only [size_alloc] at hT
  have hG := (((Grows.refl hH).alloc (.cells (hdrC p a u b) 28)).alloc zeroH).drew
  have hn0 : H (w.heap.size + 1) = none := hH.none_of_ge (by omega)
  go_enter Tryd.func44, Tryd.ntmps44
  go_upto_region 1 with fail
  refine wp_region_ways 7 (fun w' => w'.cell? ⟨w.heap.size, 0, none⟩ = some (.int .i64 p.kind) ∧ w'.cell? ⟨w.heap.size, 1, none⟩ = some (.int .u64 p.n) ∧ w'.cell? ⟨w.heap.size, 2, none⟩ = some (.slice a.ba p.bytes.length a.bc) ∧ w'.cell? ⟨w.heap.size, 3, none⟩ = some (.slice a.ia p.items.length a.ic) ∧ w'.cell? ⟨w.heap.size, 4, none⟩ = some (.int .i64 u.kind) ∧ w'.cell? ⟨w.heap.size, 5, none⟩ = some (.int .u64 u.n) ∧ w'.cell? ⟨w.heap.size, 6, none⟩ = some (.slice b.ba u.bytes.length b.bc) ∧ w'.cell? ⟨w.heap.size, 7, none⟩ = some (.slice b.ia u.items.length b.ic)) (by kernel_rfl) (⟨hB.cell 0 rfl, hB.cell 1 rfl, hB.cell 2 rfl, hB.cell 3 rfl, hB.cell 4 rfl, hB.cell 5 rfl, hB.cell 6 rfl, hB.cell 7 rfl⟩) (fun hHeld => ?_)
  refine Ways.take (i := 0) (v := ?_) rfl (by kernel_rfl) (fun _ _ _ h => h) (Or.inl ⟨by rfl, ?_⟩) hHeld ?_
  rotate_left
  · (intro w hSw; (try dsimp only at hSw); go_simp; try with_reducible rfl)
  try simp only [Act.put, List.setIfInBounds_toArray, List.set_cons_zero, List.set_cons_succ]
  refine Ways.take (i := 1) (v := ?_) rfl (by kernel_rfl) (fun _ _ _ h => h) (Or.inl ⟨by rfl, ?_⟩) hHeld ?_
  rotate_left
  · (intro w hSw; (try dsimp only at hSw); go_simp; try with_reducible rfl)
  try simp only [Act.put, List.setIfInBounds_toArray, List.set_cons_zero, List.set_cons_succ]
  refine Ways.take (i := 3) (v := ?_) rfl (by kernel_rfl) (fun _ _ _ h => h) (Or.inl ⟨by rfl, ?_⟩) hHeld ?_
  rotate_left
  · (intro w hSw; (try dsimp only at hSw); go_simp; try with_reducible rfl)
  try simp only [Act.put, List.setIfInBounds_toArray, List.set_cons_zero, List.set_cons_succ]
  refine Ways.take (i := 4) (v := ?_) rfl (by kernel_rfl) (fun _ _ _ h => h) (Or.inl ⟨by rfl, ?_⟩) hHeld ?_
  rotate_left
  · (intro w hSw; (try dsimp only at hSw); go_simp; try with_reducible rfl)
  try simp only [Act.put, List.setIfInBounds_toArray, List.set_cons_zero, List.set_cons_succ]
  refine Ways.one (i := 2) rfl (by kernel_rfl) (fun K hK => ?_)
  go_simp
  refine (ref_Copy p H _ _ _ _ _ _ _ _ _ hmp hp.arg hG.holds).mono ?_
  rintro e w3 ⟨v3, rfl, ka, kb, kc, kd, H3, rfl, hG3, hi3⟩
  have hB := hB.below hG3.below
  have hn0 := hG3.none hn0 hT.lt
  have hT := hT.below hG3.below
  refine hK.out _ _ (fun _ => ?_) (fun hHeld => ?_)
  · exact ⟨hB.cell 0 rfl, hB.cell 1 rfl, hB.cell 2 rfl, hB.cell 3 rfl, hB.cell 4 rfl, hB.cell 5 rfl, hB.cell 6 rfl, hB.cell 7 rfl⟩
  clear hK K
  have hHeld := hHeld (by decide)
  try simp only [Act.put, List.setIfInBounds_toArray, List.set_cons_zero, List.set_cons_succ]
  refine Ways.one (i := 5) rfl (by kernel_rfl) (fun K hK => ?_)
  go_simp
  refine (ref_Copy u H3 _ _ _ _ _ _ _ _ _ hmu (hu.mono hG3.le).arg hG3.holds).mono ?_
  rintro e w4 ⟨v4, rfl, la, lb, lc, ld, H4, rfl, hG4, hi4⟩
  have hB := hB.below hG4.below
  have hn0 := hG4.none hn0 hT.lt
  have hT := hT.below hG4.below
  have hG := (hG.trans hG3).trans hG4
  refine hK.out _ _ (fun _ => ?_) (fun hHeld => ?_)
  · exact ⟨hB.cell 0 rfl, hB.cell 1 rfl, hB.cell 2 rfl, hB.cell 3 rfl, hB.cell 4 rfl, hB.cell 5 rfl, hB.cell 6 rfl, hB.cell 7 rfl⟩
  clear hK K
  have hHeld := hHeld (by decide)
  try simp only [Act.put, List.setIfInBounds_toArray, List.set_cons_zero, List.set_cons_succ]
  refine Ways.take (i := 6) (v := ?_) rfl (by kernel_rfl) (fun _ _ _ h => h) (Or.inl ⟨by rfl, ?_⟩) hHeld ?_
  rotate_left
  · (intro w hSw; (try dsimp only at hSw); go_simp; try with_reducible rfl)
  try simp only [Act.put, List.setIfInBounds_toArray, List.set_cons_zero, List.set_cons_succ]
  refine Ways.one (i := 7) rfl (by kernel_rfl) (fun K hK => ?_)
  rw [if_pos (by rfl)]
  refine wp_store_item _ _ _ rfl _ _ rfl rfl _ _ hT size_hdr rfl (by kernel_rfl) fun w6 hT hg6 => ?_
  refine hK.out _ _ (fun h => absurd rfl h) (fun _ => ?_)
  clear hK K
  try simp only [Act.put, List.setIfInBounds_toArray, List.set_cons_zero, List.set_cons_succ]
  refine Ways.done (by kernel_rfl) ?_
  simp only [List.getElem_toArray, List.getElem_cons_zero, List.getElem_cons_succ, List.set_cons_zero, List.set_cons_succ]
  have hGz := hG.grownOwn hn0 (by omega) hg6
  go_wp2_with fail
  refine ret_row rfl rfl hT rfl rfl size_hdr rfl ?_
  exact ⟨_, rfl, ⟨ka, kb, kc, kd⟩, ⟨la, lb, lc, ld⟩, H4, rfl, hGz, hi3.mono hG4.le, hi4⟩
end Go.Proofs.YtdbhgngikglmcaaDoor
