/- squeezed. Walks: the deck of numbers: Mod, N -/
import Derived.Test.YtmacemcajlgddaaGreatDoorK17
set_option linter.unusedVariables false
set_option linter.unusedSimpArgs false
set_option maxRecDepth 100000
set_option maxHeartbeats 1600000
namespace Go.Proofs.YtmacemcajlgddaaGreatDoor
open Go.RowKit
structure IsInts (H : Snap) (A : Option Addr) (c : Nat) (l : List Int) : Prop where
 le : l.length ≤ c
 max : c ≤ 9223372036854775807
 row : Row H A (l.map (Value.int .i64))
 bnd : ∀ x ∈ l, -9223372036854775808 ≤ x ∧ x ≤ 9223372036854775807
theorem IsInts.mono {H K : Snap} {A : Option Addr} {c : Nat} {l : List Int} (h : IsInts H A c l) (hl : H.le K) : IsInts K A c l := ⟨h.le, h.max, h.row.mono hl, h.bnd⟩
def Deck (w : World) (g : Nat) (H : Snap) : Prop := ∃ (A : Option Addr) (c : Nat) (l : List Int) (k : Nat), Blk w g 43 #[.slice A l.length c, .int .i64 k] ∧ IsInts H A c l ∧ k ≤ l.length
theorem Deck.mono {w : World} {g : Nat} {H K : Snap} (h : Deck w g H) (hl : H.le K) : Deck w g K := by
 obtain ⟨A, c, l, k, h1, h2, h3⟩ := h
 exact ⟨A, c, l, k, h1, h2.mono hl, h3⟩
theorem Deck.below {w w' : World} {g : Nat} {H : Snap} (h : Deck w g H) (hb : Below w.heap.size w w') : Deck w' g H := by
 obtain ⟨A, c, l, k, h1, h2, h3⟩ := h
 exact ⟨A, c, l, k, h1.below hb, h2, h3⟩
theorem Deck.lt {w : World} {g : Nat} {H : Snap} (h : Deck w g H) : g < w.heap.size := by
 obtain ⟨A, c, l, k, h1, h2, h3⟩ := h
 exact h1.lt
def modP (v n : Int) : Int := if v.tmod n < 0 then v.tmod n + n else v.tmod n
theorem modP_bnd (v n : Int) (hn : 0 < n) : 0 ≤ modP v n ∧ modP v n < n := by
 have h1 := Int.tmod_lt_of_pos v hn;have h2 : -n < v.tmod n := by have := Int.tmod_lt_of_pos (-v) hn; rw [Int.neg_tmod] at this; omega
 unfold modP
 split <;> omega
theorem mk_Mod (v n : Int) (hn : 0 < n) (hn2 : n ≤ 1099511627776) (w : World) :
  Calls Tryz.prog 15 #[.int .i64 v, .int .i64 n] w fun e w' => e = .returned (.int .i64 (modP v n)) ∧ w = w' := by
 have h1 := Int.tmod_lt_of_pos v hn;have h2 : -n < v.tmod n := by have := Int.tmod_lt_of_pos (-v) hn; rw [Int.neg_tmod] at this; omega
 have hn0 : (n == 0) = false := by rw [beq_eq_false_iff_ne]; omega
 have hn1 : (n = 0) = False := eq_false (by omega);have K1 : IntKind.i64.wrap (v.tmod n) = v.tmod n := IntWalk.i64_in _ (by omega)
 by_cases h0 : v.tmod n < 0
 ·have E : Hid (modP v n = v.tmod n + n) := by rw [Hid, modP, if_pos h0]
  go_enter Tryz.func15, Tryz.ntmps15
  go_wp2_with fail
  go_ret
  exact ⟨by rw [E.out]; rfl, rfl⟩
 ·have E : Hid (modP v n = v.tmod n) := by rw [Hid, modP, if_neg h0]
  go_enter Tryz.func15, Tryz.ntmps15
  go_wp2_with fail
  go_ret
  exact ⟨by rw [E.out]; rfl, rfl⟩
theorem mk_New {H : Snap} {A : Option Addr} {c : Nat} {l : List Int} (hl : IsInts H A c l) (w : World) :
  Calls Tryz.prog 5 #[.slice A l.length c] w fun e w' => e = .returned (.pointer (some ⟨w.heap.size, 0, none⟩)) ∧ Deck w' w.heap.size H ∧ Below w.heap.size w w' := by
 have hB := Blk.new w 43 #[.slice A l.length c, .int .i64 0];have hb := below_box w (.cells #[.slice A l.length c, .int .i64 0] 43);have HL := Hh hl;clear hl;go_enter Tryz.func5, Tryz.ntmps5
 go_wp2_with fail
 go_ret
 exact ⟨rfl, ⟨A, c, l, 0, hB, HL.out, Nat.zero_le _⟩, hb⟩
theorem size_int : (Tryz.prog.info? 3).map (·.size) = some 1 := by kernel_rfl
theorem mk_Next {H : Snap} {g : Nat} (w : World) (hD : Deck w g H) (hH : Holds w H) (hg : H g = none) (n : Int) (hn : 0 < n) (hn2 : n ≤ 1099511627776) :
  Calls Tryz.prog 17 #[.pointer (some ⟨g, 0, none⟩), .int .i64 n] w fun e w' => ∃ r : Int, e = .returned (.int .i64 r) ∧ 0 ≤ r ∧ r < n ∧ Deck w' g H ∧ w.grownBy w' (some g) := by
 obtain ⟨A, c, l, k, hB, hl, hk⟩ := hD;have hc := hl.max;have hle := hl.le;have HL := Hh hl;have hBx := hB.drew;clear hl;have hkm : (k : Int) + 1 ≤ 9223372036854775807 ∨ l.length ≤ k := by omega
 have HKM := Hh hkm;have HN2 := Hh hn2;clear hc hle hkm hn2;go_enter Tryz.func17, Tryz.ntmps17
 go_upto_region 1 with fail
 refine wp_region_ways 9 (fun w' => w'.cell? ⟨g, 0, none⟩ = some (.slice A l.length c) ∧ w'.cell? ⟨g, 1, none⟩ = some (.int .i64 k)) (by kernel_rfl) (⟨hBx.cell 0 rfl, hBx.cell 1 rfl⟩) (fun hHeld => ?_)
 refine Tk 0 rfl hHeld ?_
 refine Tk 1 rfl hHeld ?_
 refine Tk 2 rfl hHeld ?_
 refine Tk 3 rfl hHeld ?_
 refine Tk 4 rfl hHeld ?_
 refine Tk 5 rfl hHeld ?_
 refine Tk 6 rfl hHeld ?_
 refine Tk 7 rfl hHeld ?_
 refine Tk 8 rfl hHeld ?_
 refine To 9 rfl fun K hK => ?_
 go_simp
 refine hK.out _ _ (fun h => absurd rfl h) (fun _ => ?_)
 clear hK K
 try simp only [Act.put, zz4, zz5, zz6]
 refine Ways.done (by kernel_rfl) ?_
 clear hHeld
 by_cases hlt : k < l.length
 ·have hki : ¬ (l.length : Int) ≤ k := by omega
  have c1 := hBx.cell 1 rfl;have hk1 : (k : Int) + 1 ≤ 9223372036854775807 := by have := HKM.out; omega
  have hw1 : IntKind.i64.wrap ((k : Int) + 1) = (k : Int) + 1 := IntWalk.i64_in _ (by omega);clear hk1;go_wp2_with (with_reducible refine stop_store ?_)
  refine wpList_store_cell rfl _ _ _ rfl rfl g 1 (.int .i64 ((k : Int) + 1)) rfl rfl _ _ hBx size_int (by simp) rfl fun w2 hB2 hG2 => ?_
  obtain ⟨ib, io, rfl, hcell⟩ := HL.out.row (by intro h; rw [List.map_eq_nil_iff] at h; subst h; simp at hlt);have hG2 := grown_step (grown_drew (grown_refl w (some g))) hG2 (.inl rfl);have hH2 : Holds w2 H := hH.grown hG2 (by rintro q ⟨⟩; exact hg);have hx := hcell k (.int .i64 l[k]) (by simp [hlt]);have hB3 : Blk w2 g 43 #[.slice (some ⟨ib, io, none⟩) l.length c, .int .i64 ((k : Int) + 1)] := hB2;have MD := Hh (fun w3 : World => mk_Mod l[k] n hn HN2.out w3);have hbn := modP_bnd l[k] n hn
  generalize l[k]'hlt = x at *
  have hHx := hH2.drew;have hBy := hB3.drew;have hG3 := grown_drew hG2;have hki2 : (k : Int) < l.length := by omega
  have hs1 : IntKind.i64.wrap ((k : Int) + 1 - 1) = (k : Int) := by rw [show (k : Int) + 1 - 1 = k by omega]; exact IntWalk.i64_in _ (by have := HKM.out; omega)
  have hs3 : IntKind.i64.wrap (k : Int) = (k : Int) := IntWalk.i64_in _ (by have := HKM.out; omega);have hk0 : (0 : Int) ≤ k := by omega
  have HBN := Hh hbn;clear hB2 hG2 hH2 c1 hBx hB hcell hbn hki;go_upto_region 4 with fail
  refine wp_region_ways 13 (fun w' => w'.cell? ⟨g, 0, none⟩ = some (.slice (some ⟨ib, io, none⟩) l.length c) ∧ w'.cell? ⟨g, 1, none⟩ = some (.int .i64 ((k : Int) + 1)) ∧ w'.cell? ⟨ib, io + k, none⟩ = some (.int .i64 x)) (by kernel_rfl) (⟨hBy.cell 0 rfl, hBy.cell 1 rfl, hHx.cell hx⟩) (fun hHeld => ?_)
  refine Tk 0 rfl hHeld ?_
  refine Tk 1 rfl hHeld ?_
  refine Tk 2 rfl hHeld ?_
  refine Tk 3 rfl hHeld ?_
  refine Tk 4 rfl hHeld ?_
  refine Tk 5 rfl hHeld ?_
  refine Tk 6 rfl hHeld ?_
  refine Tk 7 rfl hHeld ?_
  refine Tk 8 rfl hHeld ?_
  refine Tk 9 rfl hHeld ?_
  refine Tk 10 rfl hHeld ?_
  refine Tk 11 rfl hHeld ?_
  refine To 12 rfl fun K hK => ?_
  go_simp
  refine (MD.out _).mono ?_
  rintro e w5 ⟨rfl, rfl⟩
  refine hK.out _ _ (fun _ => ?_) (fun hHeld => ?_)
  ·exact ⟨hBy.cell 0 rfl, hBy.cell 1 rfl, hHx.cell hx⟩
  clear hK K;have hHeld := hHeld (by decide)
  try simp only [Act.put, zz4, zz5, zz6]
  refine To 13 rfl fun K hK => ?_
  go_simp
  refine hK.out _ _ (fun h => absurd rfl h) (fun _ => ?_)
  clear hK K
  try simp only [Act.put, zz4, zz5, zz6]
  refine Ways.done (by kernel_rfl) ?_
  clear hHeld;go_wp2_with fail
  go_ret
  exact ⟨_, rfl, HBN.out.1, HBN.out.2, ⟨_, c, l, k + 1, hBy, HL.out, by omega⟩, hG3⟩
 ·have hki : (l.length : Int) ≤ k := by omega
  go_wp2_with fail
  go_ret
  exact ⟨0, rfl, by omega, hn, ⟨A, c, l, k, hBx, HL.out, hk⟩, grown_drew (grown_refl w _)⟩
end Go.Proofs.YtmacemcajlgddaaGreatDoor
