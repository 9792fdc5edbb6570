/- squeezed. Walks: the deck of numbers: Mod, N -/
import Derived.Test.YtgaoknihklmakaaGreatDoorK05
import Derived.ChangeSlices
import Derived.OpenShut
import Derived.Test.YtgaoknihklmakaaGreatDoorK02
import Derived.Test.YtgaoknihklmakaaGreatDoorK04
import Derived.Test.YtgaoknihklmakaaGreatDoorK03
import Derived.Test.YtgaoknihklmakaaGreatDoorK01
import Derived.Test.YtgaoknihklmakaaGreatDoorK00
import Derived.Shelf.Unicode.ValidAny
set_option linter.unusedVariables false
set_option linter.unusedSimpArgs false
set_option maxRecDepth 100000
set_option maxHeartbeats 6400000
namespace Go.Proofs.YtgaoknihklmakaaGreatDoor
open Go.RowKit
structure IsInts (H : Snap) (A : Option Addr) (c : Nat) (l : List Int) : Prop where
 le : l.length ≤ c
 max : c ≤ 9223372036854775807
 row : Row H A (l.map (Value.int .i64))
 bnd : ∀ x ∈ l, -9223372036854775808 ≤ x ∧ x ≤ 9223372036854775807
theorem IsInts.mono {H K : Snap} {A : Option Addr} {c : Nat} {l : List Int} (h : IsInts H A c l) (hl : H.le K) : IsInts K A c l := ⟨h.le, h.max, h.row.mono hl, h.bnd⟩
def Deck (w : World) (g : Nat) (H : Snap) : Prop := ∃ (A : Option Addr) (c : Nat) (l : List Int) (k : Nat), Blk w g 45 #[.slice A l.length c, .int .i64 k] ∧ IsInts H A c l ∧ k ≤ l.length
theorem Deck.mono {w : World} {g : Nat} {H K : Snap} (h : Deck w g H) (hl : H.le K) : Deck w g K := by
 obtain ⟨A, c, l, k, h1, h2, h3⟩ := h
 exact ⟨A, c, l, k, h1, h2.mono hl, h3⟩
theorem Deck.below {w w' : World} {g : Nat} {H : Snap} (h : Deck w g H) (hb : Below w.heap.size w w') : Deck w' g H := by
 obtain ⟨A, c, l, k, h1, h2, h3⟩ := h
 exact ⟨A, c, l, k, h1.below hb, h2, h3⟩
theorem Deck.lt {w : World} {g : Nat} {H : Snap} (h : Deck w g H) : g < w.heap.size := by
 obtain ⟨A, c, l, k, h1, h2, h3⟩ := h
 exact h1.lt
def modP (v n : Int) : Int := if v.tmod n < 0 then v.tmod n + n else v.tmod n
theorem modP_bnd (v n : Int) (hn : 0 < n) : 0 ≤ modP v n ∧ modP v n < n := by
 have h1 := Int.tmod_lt_of_pos v hn;have h2 : -n < v.tmod n := by have := Int.tmod_lt_of_pos (-v) hn; rw [Int.neg_tmod] at this; omega
 unfold modP
 split <;> omega
theorem mk_Mod (v n : Int) (hn : 0 < n) (hn2 : n ≤ 1099511627776) (w : World) :
  Calls Tryz.prog 17 #[.int .i64 v, .int .i64 n] w fun e w' => e = .returned (.int .i64 (modP v n)) ∧ w = w' := by
 have h1 := Int.tmod_lt_of_pos v hn;have h2 : -n < v.tmod n := by have := Int.tmod_lt_of_pos (-v) hn; rw [Int.neg_tmod] at this; omega
 have hn0 : (n == 0) = false := by rw [beq_eq_false_iff_ne]; omega
 have hn1 : (n = 0) = False := eq_false (by omega);have K1 : IntKind.i64.wrap (v.tmod n) = v.tmod n := IntWalk.i64_in _ (by omega)
 by_cases h0 : v.tmod n < 0
 ·have E : Hid (modP v n = v.tmod n + n) := by rw [Hid, modP, if_pos h0]
  go_enter Tryz.func17, Tryz.ntmps17
  go_wp2_with fail
  go_ret
  exact ⟨by rw [E.out]; rfl, rfl⟩
 ·have E : Hid (modP v n = v.tmod n) := by rw [Hid, modP, if_neg h0]
  go_enter Tryz.func17, Tryz.ntmps17
  go_wp2_with fail
  go_ret
  exact ⟨by rw [E.out]; rfl, rfl⟩
theorem mk_New {H : Snap} {A : Option Addr} {c : Nat} {l : List Int} (hl : IsInts H A c l) (w : World) :
  Calls Tryz.prog 6 #[.slice A l.length c] w fun e w' => e = .returned (.pointer (some ⟨w.heap.size, 0, none⟩)) ∧ Deck w' w.heap.size H ∧ Below w.heap.size w w' := by
 have hB := Blk.new w 45 #[.slice A l.length c, .int .i64 0];have hb := below_box w (.cells #[.slice A l.length c, .int .i64 0] 45);have HL := Hh hl;clear hl;go_enter Tryz.func6, Tryz.ntmps6
 go_wp2_with fail
 go_ret
 exact ⟨rfl, ⟨A, c, l, 0, hB, HL.out, Nat.zero_le _⟩, hb⟩
theorem size_int : (Tryz.prog.info? 3).map (·.size) = some 1 := by kernel_rfl
theorem mk_Next {H : Snap} {g : Nat} (w : World) (hD : Deck w g H) (hH : Holds w H) (hg : H g = none) (n : Int) (hn : 0 < n) (hn2 : n ≤ 1099511627776) :
  Calls Tryz.prog 10 #[.pointer (some ⟨g, 0, none⟩), .int .i64 n] w fun e w' => ∃ r : Int, e = .returned (.int .i64 r) ∧ 0 ≤ r ∧ r < n ∧ Deck w' g H ∧ w.grownBy w' (some g) := by
 obtain ⟨A, c, l, k, hB, hl, hk⟩ := hD;have hc := hl.max;have hle := hl.le;have HL := Hh hl;have hBx := hB.drew;clear hl;have hkm : (k : Int) + 1 ≤ 9223372036854775807 ∨ l.length ≤ k := by omega
 have HKM := Hh hkm;have HN2 := Hh hn2;clear hc hle hkm hn2;go_enter Tryz.func10, Tryz.ntmps10
 go_upto_region 1 with fail
 refine wp_region_ways 9 (fun w' => w'.cell? ⟨g, 0, none⟩ = some (.slice A l.length c) ∧ w'.cell? ⟨g, 1, none⟩ = some (.int .i64 k)) (by kernel_rfl) (⟨hBx.cell 0 rfl, hBx.cell 1 rfl⟩) (fun hHeld => ?_)
 refine Tk 0 rfl hHeld ?_
 refine Tk 1 rfl hHeld ?_
 refine Tk 2 rfl hHeld ?_
 refine Tk 3 rfl hHeld ?_
 refine Tk 4 rfl hHeld ?_
 refine Tk 5 rfl hHeld ?_
 refine Tk 6 rfl hHeld ?_
 refine Tk 7 rfl hHeld ?_
 refine Tk 8 rfl hHeld ?_
 refine To 9 rfl fun K hK => ?_
 go_simp
 refine Kz hK ?_
 clear hK K
 refine Wd ?_
 clear hHeld
 by_cases hlt : k < l.length
 ·have hki : ¬ (l.length : Int) ≤ k := by omega
  have c1 := hBx.cell 1 rfl;have hk1 : (k : Int) + 1 ≤ 9223372036854775807 := by have := HKM.out; omega
  have hw1 : IntKind.i64.wrap ((k : Int) + 1) = (k : Int) + 1 := IntWalk.i64_in _ (by omega);clear hk1;go_wp2_with (with_reducible refine stop_store ?_)
  refine wpList_store_cell rfl _ _ _ rfl rfl g 1 (.int .i64 ((k : Int) + 1)) rfl rfl _ _ hBx size_int (by simp) rfl fun w2 hB2 hG2 => ?_
  obtain ⟨ib, io, rfl, hcell⟩ := HL.out.row (by intro h; rw [List.map_eq_nil_iff] at h; subst h; simp at hlt);have hG2 := grown_step (grown_drew (grown_refl w (some g))) hG2 (.inl rfl);have hH2 : Holds w2 H := hH.grown hG2 (by rintro q ⟨⟩; exact hg);have hx := hcell k (.int .i64 l[k]) (by simp [hlt]);have hB3 : Blk w2 g 45 #[.slice (some ⟨ib, io, none⟩) l.length c, .int .i64 ((k : Int) + 1)] := hB2;have MD := Hh (fun w3 : World => mk_Mod l[k] n hn HN2.out w3);have hbn := modP_bnd l[k] n hn
  generalize l[k]'hlt = x at *
  have hHx := hH2.drew;have hBy := hB3.drew;have hG3 := grown_drew hG2;have hki2 : (k : Int) < l.length := by omega
  have hs1 : IntKind.i64.wrap ((k : Int) + 1 - 1) = (k : Int) := by rw [show (k : Int) + 1 - 1 = k by omega]; exact IntWalk.i64_in _ (by have := HKM.out; omega)
  have hs3 : IntKind.i64.wrap (k : Int) = (k : Int) := IntWalk.i64_in _ (by have := HKM.out; omega);have hk0 : (0 : Int) ≤ k := by omega
  have HBN := Hh hbn;clear hB2 hG2 hH2 c1 hBx hB hcell hbn hki;go_upto_region 4 with fail
  refine wp_region_ways 13 (fun w' => w'.cell? ⟨g, 0, none⟩ = some (.slice (some ⟨ib, io, none⟩) l.length c) ∧ w'.cell? ⟨g, 1, none⟩ = some (.int .i64 ((k : Int) + 1)) ∧ w'.cell? ⟨ib, io + k, none⟩ = some (.int .i64 x)) (by kernel_rfl) (⟨hBy.cell 0 rfl, hBy.cell 1 rfl, hHx.cell hx⟩) (fun hHeld => ?_)
  refine Tk 0 rfl hHeld ?_
  refine Tk 1 rfl hHeld ?_
  refine Tk 2 rfl hHeld ?_
  refine Tk 3 rfl hHeld ?_
  refine Tk 4 rfl hHeld ?_
  refine Tk 5 rfl hHeld ?_
  refine Tk 6 rfl hHeld ?_
  refine Tk 7 rfl hHeld ?_
  refine Tk 8 rfl hHeld ?_
  refine Tk 9 rfl hHeld ?_
  refine Tk 10 rfl hHeld ?_
  refine Tk 11 rfl hHeld ?_
  refine To 12 rfl fun K hK => ?_
  go_simp
  refine (MD.out _).mono ?_
  rintro e w5 ⟨rfl, rfl⟩
  refine Ko hK ?_ fun hHeld => ?_
  ·exact ⟨hBy.cell 0 rfl, hBy.cell 1 rfl, hHx.cell hx⟩
  clear hK K
  refine To 13 rfl fun K hK => ?_
  go_simp
  refine Kz hK ?_
  clear hK K
  refine Wd ?_
  clear hHeld;go_wp2_with fail
  go_ret
  exact ⟨_, rfl, HBN.out.1, HBN.out.2, ⟨_, c, l, k + 1, hBy, HL.out, by omega⟩, hG3⟩
 ·have hki : (l.length : Int) ≤ k := by omega
  go_wp2_with fail
  go_ret
  exact ⟨0, rfl, by omega, hn, ⟨A, c, l, k, hBx, HL.out, hk⟩, grown_drew (grown_refl w _)⟩
def heapS (W : World) : Snap := fun b => W.heap[b]?
theorem heapS_cell (W : World) (a : Addr) : (heapS W).cell? a = W.cell? a := rfl
theorem heapS_holds (W : World) : Holds W (heapS W) := fun _ _ h => h
theorem heapS_tabs {W : World} (h : Lib.Utf8Tabs 0 1 W) : Tabs (heapS W) := fun _ hw =>
 ⟨fun c hc => hw.cell (h.1 c hc), fun i hi => ⟨hw.cell (h.2 i hi).1, hw.cell (h.2 i hi).2⟩⟩
theorem wf_i64_bnd {n : Int} (h : (Lit.int .i64 n).wf = true) : -9223372036854775808 ≤ n ∧ n ≤ 9223372036854775807 := by
 simp [Lit.wf, IntKind.min, IntKind.max, IntKind.signed, IntKind.bits] at h
 omega
theorem ints_heap {W : World} {a : Addr} {len cap : Nat} {zs : List Int} (hl : len ≤ cap) (hm : cap ≤ maxLen) (hz : len ≤ zs.length)
  (hc : ∀ i, i < zs.length → W.cell? (a.add i) = some (.int .i64 (zs.getD i 0))) (wf : ∀ n ∈ zs, (Lit.int .i64 n).wf = true) : IsInts (heapS W) (some a) cap (zs.take len) ∧ (zs.take len).length = len := by
 have hlen : (zs.take len).length = len := by rw [List.length_take]; omega
 refine ⟨⟨by rw [hlen]; exact hl, by simpa [maxLen] using hm, fun hne => ?_, fun x hx => wf_i64_bnd (wf x (List.mem_of_mem_take hx))⟩, hlen⟩
 have h0 : 0 < len := by
  rcases Nat.eq_zero_or_pos len with h | h
  ·subst h; simp at hne
  ·exact h
 obtain ⟨b, off, rfl, hcell⟩ := ints_at hc (by omega)
 refine ⟨b, off, rfl, fun j v hj => ?_⟩
 rw [List.getElem?_map] at hj;obtain ⟨x, hx, rfl⟩ := Option.map_eq_some_iff.1 hj;have hjl := (List.getElem?_eq_some_iff.1 hx).1;rw [hlen] at hjl;rw [heapS_cell, hcell j (by omega)];rw [List.getElem?_take, if_pos hjl] at hx
 simp [List.getD, hx]
section
variable {w w' w'' : World} {H H' H'' : Snap} {g : Nat}
theorem GrowsBut.refl (hH : Holds w H) (g : Nat) : GrowsBut w H w H g := ⟨grown_refl w _, Snap.le.refl _, hH, fun _ _ h => .inl h⟩
theorem GrowsBut.trans (h : GrowsBut w H w' H' g) (k : GrowsBut w' H' w'' H'' g) : GrowsBut w H w'' H'' g :=
 ⟨grown_step h.grown k.grown (.inl rfl), h.le.trans k.le, k.holds, fun b o hb => by
  rcases k.fresh b o hb with h1 | h1
  ·exact h.fresh b o h1
  ·exact .inr (Nat.le_trans h.grown.size h1)⟩
theorem Grows.but (h : Grows w H w' H') (g : Nat) : GrowsBut w H w' H' g := ⟨grown_of_below h.below _, h.le, h.holds, h.fresh⟩
theorem GrowsBut.hid (h : GrowsBut w H w' H' g) {k : Nat} (hk : H k = .none) (hl : k < w.heap.size) : H' k = .none := by
 cases hH : H' k with
 | none => rfl
 | some o =>
  rcases h.fresh k o hH with hx | hx
  ·rw [hk] at hx; cases hx
  ·omega
structure DeckIn (w : World) (g : Nat) (H : Snap) : Prop where
 deck : Deck w g H
 holds : Holds w H
 apart : H g = .none
structure Dealt (w : World) (H : Snap) (w' : World) (H' : Snap) (g : Nat) : Prop where
 grows : GrowsBut w H w' H' g
 deck : DeckIn w' g H'
theorem DeckIn.grows (h : DeckIn w g H) (k : Grows w H w' H') : Dealt w H w' H' g :=
 ⟨k.but g, ⟨(h.deck.below k.below).mono k.le, k.holds, k.none h.apart h.deck.lt⟩⟩
theorem DeckIn.alloc (h : DeckIn w g H) (o : Obj) : DeckIn (w.alloc o) g H := (h.grows ((Grows.refl h.holds).alloc o)).deck
theorem Dealt.le (h : Dealt w H w' H' g) : H.le H' := h.grows.le
theorem Dealt.hid (h : Dealt w H w' H' g) {k : Nat} (hk : H k = .none) (hl : k < w.heap.size) : H' k = .none := h.grows.hid hk hl
theorem Blk.dealt {k : Nat} {t : TypeId} {cs : Array Value} (h : Blk w k t cs) (hd : Dealt w H w' H' g) (hk : k ≠ g) : Blk w' k t cs :=
 h.grown hd.grows.grown (by intro e; injection e with e; exact hk e.symm)
end
theorem deck_Next {H : Snap} {g : Nat} (w : World) (hD : DeckIn w g H) (n : Int) (hn : 0 < n) (hn2 : n ≤ 1099511627776) :
  Calls Tryz.prog 10 #[.pointer (some ⟨g, 0, none⟩), .int .i64 n] w fun e w' => ∃ r : Nat, e = .returned (.int .i64 (r : Int)) ∧ (r : Int) < n ∧ Dealt w H w' H g := by
 refine (mk_Next w hD.deck hD.holds hD.apart n hn hn2).mono ?_
 rintro e w' ⟨r, rfl, h0, h1, h2, h3⟩
 obtain ⟨k, rfl⟩ := Int.eq_ofNat_of_zero_le h0;have hH := hD.holds.grown h3 (by rintro q ⟨⟩; exact hD.apart)
 exact ⟨k, rfl, h1, ⟨h3, Snap.le.refl _, hH, fun _ _ h => .inl h⟩, h2, hH, hD.apart⟩
def dbl (n : Nat) : Nat := if n = 0 then 0 else (1023 + n.log2) * 4503599627370496 + (n * 2 ^ (52 - n.log2) - 4503599627370496)
theorem of_int_dbl : ∀ n : Fin 1024, floatOfInt .f64 ((n.val : Nat) : Int) = dbl n.val := by decide +kernel
theorem add_dbl : ∀ n : Fin 1024, floatBits .add .f64 (dbl n.val) (dbl 1024) = some (dbl (n.val + 1024)) := by decide +kernel
theorem mul_one_f {s e m : Nat} (hs : s ≤ 1) (he : 1 ≤ e) (he2 : e ≤ 2046) (hm : m < 4503599627370496) :
  floatBits .mul .f64 4607182418800017408 (s * 9223372036854775808 + e * 4503599627370496 + m) = some (s * 9223372036854775808 + e * 4503599627370496 + m) := by
 have e1 : Ieee.double.signWeight = 9223372036854775808 := rfl;have e2 : Ieee.double.binade = 4503599627370496 := rfl;have e3 : Ieee.double.infRung = 9218868437227405312 := rfl;have e4 : Ieee.double.leastPlace = -1074 := rfl;have e5 : Ieee.double.fractionBits = 52 := rfl;have r1 : Ieee.double.read 4607182418800017408 = .number false 4503599627370496 (-52) := by decide +kernel
 obtain ⟨x, hx⟩ : ∃ x, s * 9223372036854775808 + e * 4503599627370496 + m = x := ⟨_, rfl⟩
 have r2 : Ieee.double.read x = .number (s % 2 == 1) (4503599627370496 + m) (-1074 + ((e - 1 : Nat) : Int)) := by
  unfold Ieee.Format.read
  rw [e1, e2, e3, e4];have a1 : x / 9223372036854775808 = s := by omega
  have a2 : x % 9223372036854775808 = e * 4503599627370496 + m := by omega
  simp only [a1, a2]
  rw [if_neg (by omega), if_pos (by omega)];congr 1
  ·omega
  ·have : (e * 4503599627370496 + m) / 4503599627370496 = e := by omega
   rw [this]
 rw [hx];show ((Ieee.double.read 4607182418800017408).product (Ieee.double.read x)).map Ieee.double.write = some x
 rw [r1, r2]
 simp only [Ieee.Datum.product, Option.map_some, Ieee.Format.write, Bool.false_bne]
 congr 1
 obtain ⟨M, hM⟩ : ∃ M, 4503599627370496 + m = M := ⟨_, rfl⟩
 have hM1 : 4503599627370496 ≤ M := by omega
 have hM2 : M < 9007199254740992 := by omega
 have hl : (4503599627370496 * M).log2 = 104 := by
  refine log2_of ?_ ?_
  ·have : (2 : Nat) ^ 104 = 4503599627370496 * 4503599627370496 := by decide
   rw [this]; exact Nat.mul_le_mul_left _ hM1
  ·have : (2 : Nat) ^ (104 + 1) = 4503599627370496 * 9007199254740992 := by decide
   rw [this]; exact Nat.mul_lt_mul_of_pos_left hM2 (by omega)
 rw [hM]
 unfold Ieee.Format.nearest
 rw [if_neg (by intro h; rcases Nat.mul_eq_zero.1 h with h | h <;> omega), e2, e3, e4, e5, hl];have p1 : max (-52 + (-1074 + ((e - 1 : Nat) : Int)) + ((104 : Nat) : Int) - ((52 : Nat) : Int)) (-1074) = -1074 + ((e - 1 : Nat) : Int) := by omega
 rw [p1];have p2 : (-52 + (-1074 + ((e - 1 : Nat) : Int)) - (-1074 + ((e - 1 : Nat) : Int))).toNat = 0 := by omega
 have p3 : (-1074 + ((e - 1 : Nat) : Int) - (-52 + (-1074 + ((e - 1 : Nat) : Int)))).toNat = 52 := by omega
 have p4 : (-1074 + ((e - 1 : Nat) : Int) - -1074).toNat = e - 1 := by omega
 simp only [p2, p3, p4, Nat.shiftLeft_zero]
 have hq : 4503599627370496 * M = M * 2 ^ 52 := by rw [Nat.mul_comm]
 rw [hq, cut_exact _ M 52 (by rw [← hq, hl]; omega)];clear p1 p2 p3 p4 hl hq r1 r2 e1 e2 e3 e4 e5;obtain ⟨r, hr⟩ : ∃ r, min ((e - 1) * 4503599627370496 + M) 9218868437227405312 = r := ⟨_, rfl⟩
 have hr' : r = (e - 1) * 4503599627370496 + M := by
  rw [← hr]
  exact Nat.min_eq_left (by omega)
 obtain ⟨k, rfl⟩ : ∃ k, e = k + 1 := ⟨e - 1, by omega⟩
 rw [hr, word_d s r hs, hr', ← hx, ← hM, Nat.add_sub_cancel, Nat.succ_mul]
 simp only [Nat.add_assoc]
theorem read_norm {e m : Nat} (he : 1 ≤ e) (he2 : e ≤ 2046) (hm : m < 4503599627370496) : Ieee.double.read (e * 4503599627370496 + m) = .number false (4503599627370496 + m) (-1074 + ((e - 1 : Nat) : Int)) := by
 have e1 : Ieee.double.signWeight = 9223372036854775808 := rfl;have e2 : Ieee.double.binade = 4503599627370496 := rfl;have e3 : Ieee.double.infRung = 9218868437227405312 := rfl;have e4 : Ieee.double.leastPlace = -1074 := rfl;obtain ⟨x, hx⟩ : ∃ x, e * 4503599627370496 + m = x := ⟨_, rfl⟩
 have a1 : x / 9223372036854775808 = 0 := by omega
 have a2 : x % 9223372036854775808 = x := by omega
 rw [hx]
 unfold Ieee.Format.read
 rw [e1, e2, e3, e4]
 simp only [a1, a2]
 rw [if_neg (by omega), if_pos (by omega)];have a3 : x / 4503599627370496 = e := by omega
 have a4 : x % 4503599627370496 = m := by omega
 rw [a3, a4];rfl
theorem cmp_gt {a b : Int} (h : b < a) : compare a b = .gt := by
 show compareOfLessAndEq a b = _
 rw [compareOfLessAndEq, if_neg (by omega), if_neg (by omega)]
theorem cmp_lt {a b : Int} (h : a < b) : compare a b = .lt := by
 show compareOfLessAndEq a b = _
 rw [compareOfLessAndEq, if_pos h]
theorem ord_pos {e m : Nat} (he : 2 ≤ e) (he2 : e ≤ 2045) (hm : m < 4503599627370496) {D : Nat} (hD : D = e * 4503599627370496 + m) :
  FloatKind.f64.format.order D 0 = some .gt ∧ FloatKind.f64.format.order D 9218868437227405311 = some .lt ∧ FloatKind.f64.format.order D 4503599627370496 = some .gt ∧ FloatKind.f64.format.order D D = some .eq := by
 have r := read_norm (show 1 ≤ e by omega) (show e ≤ 2046 by omega) hm;rw [← hD] at r;have z : Ieee.double.read 0 = .number false 0 (-1074) := by decide +kernel
 have mx : Ieee.double.read 9218868437227405311 = .number false 9007199254740991 971 := by decide +kernel
 have mn : Ieee.double.read 4503599627370496 = .number false 4503599627370496 (-1074) := by decide +kernel
 obtain ⟨k, hk⟩ : ∃ k, e - 1 = k := ⟨_, rfl⟩
 rw [hk] at r;have hsh : ∀ a b : Nat, a ≤ a <<< b := fun a b => by rw [Nat.shiftLeft_eq]; exact Nat.le_mul_of_pos_right _ (Nat.two_pow_pos b)
 have hsh2 : ∀ a b : Nat, 1 ≤ b → a * 2 ≤ a <<< b := fun a b hb => by
  rw [Nat.shiftLeft_eq]
  refine Nat.mul_le_mul_left _ ?_
  calc 2 = 2 ^ 1 := rfl
   _ ≤ 2 ^ b := Nat.pow_le_pow_right (by omega) hb
 refine ⟨?_, ?_, ?_, ?_⟩
 ·show (Ieee.double.read D).order (Ieee.double.read 0) = _
  rw [r, z]
  simp only [Ieee.Datum.order, Ieee.signed]
  rw [cmp_gt];have := hsh (4503599627370496 + m) (-1074 + (k : Int) - min (-1074 + (k : Int)) (-1074)).toNat
  simp only [Bool.false_eq_true, if_false, Nat.zero_shiftLeft]
  omega
 ·show (Ieee.double.read D).order (Ieee.double.read 9218868437227405311) = _
  rw [r, mx]
  simp only [Ieee.Datum.order, Ieee.signed]
  rw [cmp_lt];have h1 : min (-1074 + (k : Int)) 971 = -1074 + (k : Int) := by omega
  rw [h1];have h2 : (-1074 + (k : Int) - (-1074 + (k : Int))).toNat = 0 := by omega
  rw [h2];have := hsh2 9007199254740991 (971 - (-1074 + (k : Int))).toNat (by omega)
  simp only [Bool.false_eq_true, if_false, Nat.shiftLeft_zero]
  omega
 ·show (Ieee.double.read D).order (Ieee.double.read 4503599627370496) = _
  rw [r, mn]
  simp only [Ieee.Datum.order, Ieee.signed]
  rw [cmp_gt];have h1 : min (-1074 + (k : Int)) (-1074) = -1074 := by omega
  rw [h1];have h2 : (-1074 - (-1074 : Int)).toNat = 0 := by decide
  have := hsh2 (4503599627370496 + m) (-1074 + (k : Int) - -1074).toNat (by omega);rw [h2]
  simp only [Bool.false_eq_true, if_false, Nat.shiftLeft_zero]
  omega
 ·show (Ieee.double.read D).order (Ieee.double.read D) = _
  rw [r]
  simp only [Ieee.Datum.order]
  congr 1
  show compareOfLessAndEq _ _ = _
  rw [compareOfLessAndEq, if_neg (by omega), if_pos rfl]
structure Pos (D e m : Nat) : Prop where
 eq : D = e * 4503599627370496 + m
 lo : 2 ≤ e
 hi : e ≤ 2045
 m_lt : m < 4503599627370496
theorem Pos.lt {D e m : Nat} (h : Pos D e m) : D < 9223372036854775808 := by have := h.eq; have := h.hi; have := h.m_lt; omega
theorem u64_andNot_sign {D : Nat} (h : D < 9223372036854775808) : bits .andNot .u64 (D : Int) 9223372036854775808 = (D : Int) := by
 have := u64_andNot_nat D 9223372036854775808 (by omega) (by omega);rw [show ((9223372036854775808 : Nat) : Int) = 9223372036854775808 from rfl] at this;rw [this, show 18446744073709551615 - 9223372036854775808 = 2 ^ 63 - 1 by decide, Nat.and_two_pow_sub_one_eq_mod, Nat.mod_eq_of_lt (by simpa using h)]
theorem u64_mantissa {D e m : Nat} (h : Pos D e m) : bits .andNot .u64 (D : Int) 9218868437227405312 = (m : Int) := by
 have hl := h.lt;have := u64_andNot_nat D 9218868437227405312 (by omega) (by omega);rw [show ((9218868437227405312 : Nat) : Int) = 9218868437227405312 from rfl] at this;rw [this, show 18446744073709551615 - 9218868437227405312 = 2 ^ 63 ||| (2 ^ 52 - 1) by decide, Nat.and_or_distrib_left, Nat.and_two_pow_sub_one_eq_mod]
 have h0 : D &&& 2 ^ 63 = 0 := by
  apply Nat.eq_of_testBit_eq
  intro i
  rw [Nat.testBit_and, Nat.testBit_two_pow, Nat.zero_testBit]
  by_cases hi : 63 = i
  ·subst hi;rw [Nat.testBit_lt_two_pow (by simpa using hl)]; rfl
  ·simp [hi]
 have h1 := h.eq;have h2 := h.m_lt;rw [h0, Nat.zero_or]
 simp only [Nat.reducePow]
 omega
theorem u64_expo {q m : Nat} (hq : q ≤ 2046) (hm : m < 4503599627370496) : bits .or .u64 (m : Int) ((q : Int) * 4503599627370496) = ((q * 4503599627370496 + m : Nat) : Int) := by
 have h := Nat.shiftLeft_add_eq_or_of_lt (show m < 2 ^ 52 by simpa using hm) q;rw [Nat.shiftLeft_eq] at h;rw [show ((q : Int) * 4503599627370496) = ((q * 4503599627370496 : Nat) : Int) by omega, u64_or_nat _ _ (by omega) (by omega), Nat.or_comm]
 simp only [Nat.reducePow] at h
 rw [← h]
theorem i64_and_2047 {e : Nat} (h : e ≤ 2046) : bits .and .i64 (e : Int) 2047 = (e : Int) := by
 have hall : ∀ X : Fin 2048, bits .and .i64 ((X.val : Nat) : Int) 2047 = ((X.val : Nat) : Int) := by decide +kernel
 exact hall ⟨e, by omega⟩
theorem math_Abs {D : Nat} (h : D < 9223372036854775808) (w : World) : Calls Tryz.prog 141 #[.float .f64 D] w fun e w' => e = .returned (.float .f64 D) ∧ w' = w := by
 have r1 := run_f64bits D;have r2 := run_f64frombits D;have K := u64_andNot_sign h;clear h;go_enter Tryz.func141, Tryz.ntmps141
 go_wp2_with fail
 go_ret
 exact ⟨rfl, rfl⟩
theorem math_IsInf {D e m : Nat} (h : Pos D e m) (w : World) : Calls Tryz.prog 137 #[.float .f64 D, .int .i64 0] w fun e w' => e = .returned (.bool false) ∧ w' = w := by
 have AB := Hh (fun w => math_Abs h.lt w);have o1 := (ord_pos h.lo h.hi h.m_lt h.eq).2.1;clear h;go_enter Tryz.func137, Tryz.ntmps137
 go_wp2_with fail
 refine (AB.out _).mono ?_
 rintro e w1 ⟨rfl, rfl⟩
 go_wp2_with fail
 go_ret
 exact ⟨by first | rfl | simp [o1], rfl⟩
theorem math_IsNaN {D e m : Nat} (h : Pos D e m) (w : World) : Calls Tryz.prog 138 #[.float .f64 D] w fun e w' => e = .returned (.bool false) ∧ w' = w := by
 have o1 := (ord_pos h.lo h.hi h.m_lt h.eq).2.2.2;clear h;go_enter Tryz.func138, Tryz.ntmps138
 go_wp2_with fail
 go_ret
 exact ⟨by first | rfl | simp [o1], rfl⟩
theorem math_normalize {D e m : Nat} (h : Pos D e m) (w : World) : Calls Tryz.prog 139 #[.float .f64 D] w fun e w' => e = .returned (.tuple #[.float .f64 D, .int .i64 0]) ∧ w' = w := by
 have AB := Hh (fun w => math_Abs h.lt w);have o1 : (FloatKind.f64.format.order D 4503599627370496 == some .lt) = false := by rw [(ord_pos h.lo h.hi h.m_lt h.eq).2.2.1]; rfl
 clear h;go_enter Tryz.func139, Tryz.ntmps139
 go_wp2_with fail
 refine (AB.out _).mono ?_
 rintro e w1 ⟨rfl, rfl⟩
 go_wp2_with fail
 go_ret2
 exact ⟨rfl, rfl⟩
theorem math_Inf (w : World) : Calls Tryz.prog 107 #[.int .i64 1] w fun e w' => e = .returned (.float .f64 9218868437227405312) ∧ w' = w := by
 have r2 : ∀ w, (callFunc 96 #[.int .u64 9218868437227405312]).run Tryz.prog w = .ok (.value (.float .f64 9218868437227405312)) w := run_f64frombits 9218868437227405312;go_enter Tryz.func107, Tryz.ntmps107
 go_wp2_with fail
 go_ret
 exact ⟨rfl, rfl⟩
theorem math_ldexp {D e m : Nat} (h : Pos D e m) (k : Int) (q : Nat) (hk : -1000 ≤ k ∧ k ≤ 1000) (hq : (e : Int) + k = (q : Int)) (hq2 : 2 ≤ q ∧ q ≤ 2045) (w : World) :
  Calls Tryz.prog 131 #[.float .f64 D, .int .i64 k] w fun e w' => e = .returned (.float .f64 (q * 4503599627370496 + m)) ∧ w' = w := by
 obtain ⟨o1, _, _, _⟩ := ord_pos h.lo h.hi h.m_lt h.eq;have o0 : (FloatKind.f64.format.order D 0 == some .eq) = false := by rw [o1]; rfl
 have IN := Hh (fun w => math_IsInf h w);have NA := Hh (fun w => math_IsNaN h w);have NO := Hh (fun w => math_normalize h w);have r1 := run_f64bits D;have hD := h.eq;have hm := h.m_lt;have hlo := h.lo;have hhi := h.hi;have K1 : IntKind.i64.wrap (k + 0) = k := by rw [Int.add_zero]; exact IntWalk.i64_in _ (by omega)
 have K2 : (D : Int) / 4503599627370496 = (e : Int) := by omega
 have K3 : IntKind.i64.wrap (e : Int) = (e : Int) := IntWalk.i64_in _ (by omega);have K4 := i64_and_2047 (show e ≤ 2046 by omega);have K5 : IntKind.i64.wrap ((e : Int) - 1023) = (e : Int) - 1023 := IntWalk.i64_in _ (by omega);obtain ⟨x, hx⟩ : ∃ x : Int, k + ((e : Int) - 1023) = x := ⟨_, rfl⟩
 have K6 : IntKind.i64.wrap (k + ((e : Int) - 1023)) = x := by rw [hx]; exact IntWalk.i64_in _ (by omega)
 have K6b : k + ((e : Int) - 1023) = x := hx;have z1 : ¬ (x < -1075) := by omega
 have z2 : ¬ (1023 < x) := by omega
 have z3 : ¬ (x < -1022) := by omega
 have K7 := u64_mantissa h;have K8 : IntKind.i64.wrap (x + 1023) = (q : Int) := by rw [show x + 1023 = (q : Int) by omega]; exact IntWalk.i64_in _ (by omega)
 have K8b : x + 1023 = (q : Int) := by omega
 have K9 : IntKind.u64.wrap (q : Int) = (q : Int) := by rw [IntKind.wrap_u64]; omega
 have K10 : IntKind.u64.wrap ((q : Int) * 4503599627370496) = (q : Int) * 4503599627370496 := by rw [IntKind.wrap_u64]; omega
 have K11 := u64_expo (show q ≤ 2046 by omega) hm;obtain ⟨R, hR⟩ : ∃ R, q * 4503599627370496 + m = R := ⟨_, rfl⟩
 have hmul : floatBits .mul .f64 4607182418800017408 R = some R := by
  have := mul_one_f (s := 0) (e := q) (m := m) (by omega) (by omega) (by omega) hm;rw [Nat.zero_mul, Nat.zero_add, hR] at this
  exact this
 have r3 := run_f64frombits R;rw [hR] at K11;rw [hR];have r4 : ∀ w, (binOp .mul 143 (.float .f64 4607182418800017408) (.float .f64 R)).run Tryz.prog w = .ok (.float .f64 R) w := fun w => run_float_arith w .mul _ .f64 _ _ R hmul
 obtain ⟨hk1, hk2⟩ := hk;have he1 : (2 : Int) ≤ (e : Int) := by omega
 have he2 : (e : Int) ≤ 2045 := by omega
 have hx1 : -1021 ≤ x := by omega
 have hx2 : x ≤ 1022 := by omega
 have hq1 : (2 : Int) ≤ (q : Int) := by omega
 have hq3 : (q : Int) ≤ 2045 := by omega
 clear h hD hm hlo hhi hq hq2 hx hmul hR o1;go_enter Tryz.func131, Tryz.ntmps131
 go_wp2_with fail
 refine (IN.out _).mono ?_
 rintro e w1 ⟨rfl, rfl⟩
 go_wp2_with fail
 refine (NA.out _).mono ?_
 rintro e w1 ⟨rfl, rfl⟩
 go_wp2_with fail
 refine (NO.out _).mono ?_
 rintro e w1 ⟨rfl, rfl⟩
 go_wp2_with fail
 go_ret
 exact ⟨rfl, rfl⟩
theorem math_Ldexp {D e m : Nat} (h : Pos D e m) (k : Int) (q : Nat) (hk : -1000 ≤ k ∧ k ≤ 1000) (hq : (e : Int) + k = (q : Int)) (hq2 : 2 ≤ q ∧ q ≤ 2045) (w : World) :
  Calls Tryz.prog 108 #[.float .f64 D, .int .i64 k] w fun e w' => e = .returned (.float .f64 (q * 4503599627370496 + m)) ∧ w' = w := by
 have L := Hh (fun w => math_ldexp h k q hk hq hq2 w);clear h hk hq hq2;go_enter Tryz.func108, Tryz.ntmps108
 go_wp2_with fail
 refine (L.out _).mono ?_
 rintro e w1 ⟨rfl, rfl⟩
 go_wp2_with fail
 go_ret
 exact ⟨rfl, rfl⟩
theorem math_ldexp0 (k : Int) (w : World) : Calls Tryz.prog 131 #[.float .f64 0, .int .i64 k] w fun e w' => e = .returned (.float .f64 0) ∧ w' = w := by
 have o0 : (FloatKind.f64.format.order 0 0 == some .eq) = true := by decide +kernel
 go_enter Tryz.func131, Tryz.ntmps131
 go_wp2_with fail
 go_ret
 exact ⟨rfl, rfl⟩
theorem math_Ldexp0 (k : Int) (w : World) : Calls Tryz.prog 108 #[.float .f64 0, .int .i64 k] w fun e w' => e = .returned (.float .f64 0) ∧ w' = w := by
 have L := Hh (fun w => math_ldexp0 k w);go_enter Tryz.func108, Tryz.ntmps108
 go_wp2_with fail
 refine (L.out _).mono ?_
 rintro e w1 ⟨rfl, rfl⟩
 go_wp2_with fail
 go_ret
 exact ⟨rfl, rfl⟩
theorem u64_or_sign {D : Nat} (h : D < 9223372036854775808) : bits .or .u64 (D : Int) 9223372036854775808 = ((9223372036854775808 + D : Nat) : Int) := by
 have h1 := Nat.shiftLeft_add_eq_or_of_lt (show D < 2 ^ 63 by simpa using h) 1;rw [Nat.shiftLeft_eq] at h1;have := u64_or_nat D 9223372036854775808 (by omega) (by omega);rw [show ((9223372036854775808 : Nat) : Int) = 9223372036854775808 from rfl] at this;rw [this, Nat.or_comm]
 simp only [Nat.reducePow, Nat.one_mul] at h1
 rw [← h1]
theorem math_Copysign {D : Nat} (h : D < 9223372036854775808) (w : World) : Calls Tryz.prog 109 #[.float .f64 D, .float .f64 13830554455654793216] w fun e w' => e = .returned (.float .f64 (9223372036854775808 + D)) ∧ w' = w := by
 have r1 := run_f64bits D;have r2 : ∀ w, (callFunc 91 #[.float .f64 13830554455654793216]).run Tryz.prog w = .ok (.value (.int .u64 13830554455654793216)) w := run_f64bits 13830554455654793216;have K1 := u64_andNot_sign h;have K2 : bits .and .u64 13830554455654793216 9223372036854775808 = 9223372036854775808 := by decide +kernel
 have K3 := u64_or_sign h;obtain ⟨R, hR⟩ : ∃ R, 9223372036854775808 + D = R := ⟨_, rfl⟩
 rw [hR] at K3;rw [hR];have r3 := run_f64frombits R;clear h hR;go_enter Tryz.func109, Tryz.ntmps109
 go_wp2_with fail
 go_ret
 exact ⟨rfl, rfl⟩
def widenQ (v : Nat) : Nat := if v / 1024 % 32 = 31 ∧ v % 1024 ≠ 0 then notNumber else widen5 v
theorem u16_and {v k : Nat} (hv : v < 65536) (hk : k ≤ 16) : bits .and .u16 (v : Int) ((2 ^ k - 1 : Nat) : Int) = ((v % 2 ^ k : Nat) : Int) := by
 have : 2 ^ k ≤ 2 ^ 16 := Nat.pow_le_pow_right (by omega) hk;rw [u16_and_nat v (2 ^ k - 1) (by omega) (by omega), Nat.and_two_pow_sub_one_eq_mod]
theorem dbl_pos {n t : Nat} (h0 : n ≠ 0) (ht : n.log2 = t) (hn : n < 2048) : Pos (dbl n) (1023 + t) (n * 2 ^ (52 - t) - 4503599627370496) := by
 subst ht;have a1 : 2 ^ n.log2 ≤ n := Nat.log2_self_le h0;have a2 : n < 2 ^ (n.log2 + 1) := Nat.lt_log2_self;have a3 : n.log2 < 11 := (Nat.log2_lt h0).2 (by simpa using hn);have b := sub_full a1 a2 (by omega)
 exact ⟨by rw [dbl, if_neg h0], by omega, by omega, by omega⟩
theorem half_m (f : Nat) : (f + 1024) * 4398046511104 - 4503599627370496 = f * 4398046511104 := by omega
def WidenQ (w : World) (v : Nat) (e : Ending) (w' : World) : Prop := e = .returned (.int .u64 (widenQ v : Int)) ∧ w' = w
theorem cbor_widen (v : Nat) (hv : v < 65536) (w : World) : Calls Tryz.prog 90 #[.int .u16 (v : Int)] w (WidenQ w v) := by
 have A1 : bits .and .u16 (v : Int) 1023 = ((v % 1024 : Nat) : Int) := u16_and (k := 10) hv (by omega);obtain ⟨u, hu⟩ : ∃ u, v / 1024 = u := ⟨_, rfl⟩
 have A2 : bits .and .u16 (u : Int) 31 = ((u % 32 : Nat) : Int) := u16_and (k := 5) (by omega) (by omega);have hur : u % 32 = v / 1024 % 32 := by rw [hu]
 rw [hur] at A2;obtain ⟨s, hs⟩ : ∃ s, v / 32768 = s := ⟨_, rfl⟩
 obtain ⟨x, hx⟩ : ∃ x, v / 1024 % 32 = x := ⟨_, rfl⟩
 obtain ⟨f, hf⟩ : ∃ f, v % 1024 = f := ⟨_, rfl⟩
 have hs1 : s ≤ 1 := by omega
 have hx1 : x ≤ 31 := by omega
 have hf1 : f < 1024 := by omega
 have W := Hh (show widenQ v = (if x = 31 ∧ f ≠ 0 then notNumber else if x = 31 then s * 9223372036854775808 + 9218868437227405312 + f * 4398046511104
  else if x = 0 then (if f = 0 then s * 9223372036854775808 else s * 9223372036854775808 + (999 + f.log2) * 4503599627370496 + (f * 2 ^ (52 - f.log2) - 4503599627370496))
  else s * 9223372036854775808 + (x + 1008) * 4503599627370496 + f * 4398046511104) by rw [widenQ, widen5, hs, hx, hf])
 rw [hf] at A1;rw [hx] at A2;have S1 : (v : Int) / 32768 = (s : Int) := by omega
 have S2 : (v : Int) / 1024 = (u : Int) := by omega
 have FI : floatOfInt .f64 (f : Int) = dbl f := of_int_dbl ⟨f, hf1⟩;have HX := Hh (And.intro hs1 (And.intro hx1 hf1));have hs15 : (v : Int) / 32768 = (s : Int) := S1;have hsi : (s : Int) ≤ 1 := by omega
 clear hs hx hf hv hu hur
 by_cases h31 : x = 31
 ·subst h31
  by_cases hf0 : f = 0
  ·subst hf0;have FI0 : floatOfInt .f64 0 = 0 := of_int_dbl 0;have WQ : Hid (widenQ v = s * 9223372036854775808 + 9218868437227405312) := by rw [Hid, W.out, if_neg (by simp), if_pos rfl]; try omega
   have IF := Hh (fun w => math_Inf w);clear FI W;go_enter Tryz.func90, Tryz.ntmps90
   go_wp2_with fail
   refine (IF.out _).mono ?_
   rintro e w1 ⟨rfl, rfl⟩
   obtain ⟨D, hD⟩ : ∃ D, 9218868437227405312 = D := ⟨_, rfl⟩
   rw [hD] at WQ;rw [hD];have HD := Hh hD;clear hD;have RS := Hh (run_f64bits D)
   rcases (by have := HX.out.1; omega : s = 0 ∨ s = 1) with rfl | rfl
   ·have r9 := run_f64bits D;have WW : Hid (widenQ v = D) := by rw [Hid, WQ.out]; try omega
    go_wp2_with fail
    go_ret
    exact ⟨by rw [WW.out]; try rfl, rfl⟩
   ·have CS := Hh (fun w => math_Copysign (D := D) (by rw [← HD.out]; omega) w);obtain ⟨R, hR⟩ : ∃ R, 9223372036854775808 + D = R := ⟨_, rfl⟩
    rw [hR] at CS;have WW : Hid (widenQ v = R) := by rw [Hid, ← hR, WQ.out]; try omega
    have r9 := run_f64bits R;clear hR;go_wp2_with fail
    refine (CS.out _).mono ?_
    rintro e w1 ⟨rfl, rfl⟩
    go_wp2_with fail
    go_ret
    exact ⟨by rw [WW.out]; try rfl, rfl⟩
  ·have f0 : ((f : Int) != 0) = true := by simp; omega
   have f0' : ((f : Int) = 0) = False := eq_false (by omega);have WW : Hid (widenQ v = notNumber) := by rw [Hid, W.out, if_pos ⟨rfl, hf0⟩]
   clear W hf0;go_enter Tryz.func90, Tryz.ntmps90
   go_wp2_with fail
   go_ret
   exact ⟨by rw [WW.out]; try rfl, rfl⟩
 have x31 : ((x : Int) == 31) = false := by simp; omega
 have x31' : ((x : Int) = 31) = False := eq_false (by omega)
 by_cases h0 : x = 0
 ·subst h0
  by_cases hf0 : f = 0
  ·subst hf0;have FI0 : floatOfInt .f64 0 = 0 := of_int_dbl 0;have WQ : Hid (widenQ v = s * 9223372036854775808 + 0) := by rw [Hid, Nat.add_zero, W.out, if_neg (by omega), if_neg (by omega), if_pos rfl, if_pos rfl]
   have LD := Hh (fun w => math_Ldexp0 (-24) w);clear FI W h31;go_enter Tryz.func90, Tryz.ntmps90
   go_wp2_with fail
   refine (LD.out _).mono ?_
   rintro e w1 ⟨rfl, rfl⟩
   obtain ⟨D, hD⟩ : ∃ D : Nat, 0 = D := ⟨_, rfl⟩
   rw [hD] at WQ;have HD := Hh hD;rw [show (Value.float FloatKind.f64 0) = Value.float FloatKind.f64 D by rw [hD]];clear hD;have RS := Hh (run_f64bits D)
   rcases (by have := HX.out.1; omega : s = 0 ∨ s = 1) with rfl | rfl
   ·have r9 := run_f64bits D;have WW : Hid (widenQ v = D) := by rw [Hid, WQ.out]; try omega
    go_wp2_with fail
    go_ret
    exact ⟨by rw [WW.out]; try rfl, rfl⟩
   ·have CS := Hh (fun w => math_Copysign (D := D) (by rw [← HD.out]; omega) w);obtain ⟨R, hR⟩ : ∃ R, 9223372036854775808 + D = R := ⟨_, rfl⟩
    rw [hR] at CS;have WW : Hid (widenQ v = R) := by rw [Hid, ← hR, WQ.out]; try omega
    have r9 := run_f64bits R;clear hR;go_wp2_with fail
    refine (CS.out _).mono ?_
    rintro e w1 ⟨rfl, rfl⟩
    go_wp2_with fail
    go_ret
    exact ⟨by rw [WW.out]; try rfl, rfl⟩
  ·obtain ⟨t, ht⟩ : ∃ t, f.log2 = t := ⟨_, rfl⟩
   have hP := dbl_pos hf0 ht (by omega);have htl : t < 10 := by rw [← ht]; exact (Nat.log2_lt hf0).2 (by simpa using hf1)
   have LD := Hh (fun w => math_Ldexp hP (-24) (999 + t) (by omega) (by omega) (by omega) w);obtain ⟨D, hD⟩ : ∃ D, (999 + t) * 4503599627370496 + (f * 2 ^ (52 - t) - 4503599627370496) = D := ⟨_, rfl⟩
   have hDl : D < 9223372036854775808 := by have := hP.m_lt; omega
   have WQ : Hid (widenQ v = s * 9223372036854775808 + D) := by rw [Hid, W.out, if_neg (by omega), if_neg (by omega), if_pos rfl, if_neg hf0, ht, ← hD, Nat.add_assoc]
   rw [hD] at LD;obtain ⟨Q, hQ⟩ : ∃ Q, dbl f = Q := ⟨_, rfl⟩
   rw [hQ] at FI LD;have HD := Hh hDl;clear W h31 hf0 hP hD hDl hQ ht htl;go_enter Tryz.func90, Tryz.ntmps90
   go_wp2_with fail
   refine (LD.out _).mono ?_
   rintro e w1 ⟨rfl, rfl⟩
   have RS := Hh (run_f64bits D)
   rcases (by have := HX.out.1; omega : s = 0 ∨ s = 1) with rfl | rfl
   ·have r9 := run_f64bits D;have WW : Hid (widenQ v = D) := by rw [Hid, WQ.out]; try omega
    go_wp2_with fail
    go_ret
    exact ⟨by rw [WW.out]; try rfl, rfl⟩
   ·have CS := Hh (fun w => math_Copysign (D := D) (by exact HD.out) w);obtain ⟨R, hR⟩ : ∃ R, 9223372036854775808 + D = R := ⟨_, rfl⟩
    rw [hR] at CS;have WW : Hid (widenQ v = R) := by rw [Hid, ← hR, WQ.out]; try omega
    have r9 := run_f64bits R;clear hR;go_wp2_with fail
    refine (CS.out _).mono ?_
    rintro e w1 ⟨rfl, rfl⟩
    go_wp2_with fail
    go_ret
    exact ⟨by rw [WW.out]; try rfl, rfl⟩
 have x0 : ((x : Int) == 0) = false := by simp; omega
 have x0' : ((x : Int) = 0) = False := eq_false (by omega);have hP := dbl_pos (n := f + 1024) (t := 10) (by omega) (by rw [Nat.log2_eq_iff (by omega)]; constructor <;> omega) (by omega);rw [show (52 : Nat) - 10 = 42 from rfl, show (2 : Nat) ^ 42 = 4398046511104 by decide, half_m] at hP;have LD := Hh (fun w => math_Ldexp hP ((x : Int) - 25) (x + 1008) (by omega) (by omega) (by omega) w)
 have AD : ∀ w, (binOp .add 143 (.float .f64 (dbl f)) (.float .f64 4652218415073722368)).run Tryz.prog w = .ok (.float .f64 (dbl (f + 1024))) w := fun w => run_float_arith w .add _ .f64 _ _ _ (by
  have := add_dbl ⟨f, hf1⟩;rw [show dbl 1024 = 4652218415073722368 by decide +kernel] at this
  exact this)
 have KS : IntKind.i64.wrap ((x : Int) - 25) = (x : Int) - 25 := IntWalk.i64_in _ (by omega);obtain ⟨D, hD⟩ : ∃ D, (x + 1008) * 4503599627370496 + f * 4398046511104 = D := ⟨_, rfl⟩
 have hDl : D < 9223372036854775808 := by have := hP.m_lt; omega
 have WQ : Hid (widenQ v = s * 9223372036854775808 + D) := by
  rw [Hid, W.out, if_neg (by omega), if_neg (by omega), if_neg h0, ← hD];rw [Nat.add_assoc]
 rw [hD] at LD;obtain ⟨Q, hQ⟩ : ∃ Q, dbl f = Q := ⟨_, rfl⟩
 obtain ⟨Q2, hQ2⟩ : ∃ Q2, dbl (f + 1024) = Q2 := ⟨_, rfl⟩
 rw [hQ] at FI AD;rw [hQ2] at AD LD;have HD := Hh hDl;have hxi : (x : Int) ≤ 31 := by omega
 clear W h31 h0 hP hD hDl hQ hQ2;go_enter Tryz.func90, Tryz.ntmps90
 go_wp2_with fail
 refine (LD.out _).mono ?_
 rintro e w1 ⟨rfl, rfl⟩
 have RS := Hh (run_f64bits D)
 rcases (by have := HX.out.1; omega : s = 0 ∨ s = 1) with rfl | rfl
 ·have r9 := run_f64bits D;have WW : Hid (widenQ v = D) := by rw [Hid, WQ.out]; try omega
  go_wp2_with fail
  go_ret
  exact ⟨by rw [WW.out]; try rfl, rfl⟩
 ·have CS := Hh (fun w => math_Copysign (D := D) (by exact HD.out) w);obtain ⟨R, hR⟩ : ∃ R, 9223372036854775808 + D = R := ⟨_, rfl⟩
  rw [hR] at CS;have WW : Hid (widenQ v = R) := by rw [Hid, ← hR, WQ.out]; try omega
  have r9 := run_f64bits R;clear hR;go_wp2_with fail
  refine (CS.out _).mono ?_
  rintro e w1 ⟨rfl, rfl⟩
  go_wp2_with fail
  go_ret
  exact ⟨by rw [WW.out]; try rfl, rfl⟩
theorem run_f32frombits (n : Nat) (w : World) : (callFunc 92 #[.int .u32 (n : Int)]).run Tryz.prog w = .ok (.value (.float .f32 n)) w := by
 rw [run_callFunc_extern Tryz.func92 (by kernel_rfl) (by kernel_rfl) (by kernel_rfl) (e := Extern.MathFloatBits.float32frombits) (by kernel_rfl)];rfl
theorem single_nan {r : Nat} (hr : r < 4294967296) (h : r / 8388608 % 256 = 255 ∧ r % 8388608 ≠ 0) : (Ieee.single.read r).isNaN = true := by
 have e1 : Ieee.single.signWeight = 2147483648 := rfl;have e2 : Ieee.single.binade = 8388608 := rfl;have e3 : Ieee.single.infRung = 2139095040 := rfl;obtain ⟨h1, h2⟩ := h
 unfold Ieee.Format.read
 rw [e1, e2, e3]
 simp only [show ¬ r % 2147483648 < 8388608 by omega, show ¬ r % 2147483648 < 2139095040 by omega, show ¬ r % 2147483648 = 2139095040 by omega, if_false]
 rfl
theorem conv_seven (r : Nat) (hr : r < 4294967296) (w : World) : ∃ m w', (convert 144 143 (.float .f32 r)).run Tryz.prog w = .ok (.float .f64 m) w' ∧ (w' = w ∨ w' = w.drew) ∧ m < 18446744073709551616 ∧
  ((r / 8388608 % 256 = 255 ∧ r % 8388608 ≠ 0) → isNaN m = true) ∧ (¬ (r / 8388608 % 256 = 255 ∧ r % 8388608 ≠ 0) → m = widen8 r) := by
 have hs : Tryz.prog.underlying 144 = some (.float .f32) := Tryz.underlying144;have hd : Tryz.prog.underlying 143 = some (.float .f64) := Tryz.underlying143
 by_cases hx : r / 8388608 % 256 = 255 ∧ r % 8388608 ≠ 0
 ·have hn := single_nan hr hx
  cases hq : FloatKind.decode .f32 r with
  | number a b c =>
   have h' : Ieee.single.read r = .number a b c := hq;rw [h'] at hn; cases hn
  | infinity a =>
   have h' : Ieee.single.read r = .infinity a := hq;rw [h'] at hn; cases hn
  | nan a b =>
   have hnan : isNaN ((Question.nanConv .f64 r).cut (w.tape w.drawn (Question.nanConv .f64 r))) = true ∧ ((Question.nanConv .f64 r).cut (w.tape w.drawn (Question.nanConv .f64 r))) < 18446744073709551616 := by
    rw [isNaN_iff];show ((_ % 2 * 2 ^ 63 + 0x7ff0000000000000 + 1 + _ / 2 % (2 ^ 52 - 1)) / 2 ^ 52 % 2048 = 2047 ∧ _) ∧ _
    generalize w.tape w.drawn (Question.nanConv .f64 r) = t
    show ((t % 2 * 2 ^ 63 + 0x7ff0000000000000 + 1 + t / 2 % (2 ^ 52 - 1)) / 2 ^ 52 % 2048 = 2047 ∧ (t % 2 * 2 ^ 63 + 0x7ff0000000000000 + 1 + t / 2 % (2 ^ 52 - 1)) % 2 ^ 52 ≠ 0) ∧ t % 2 * 2 ^ 63 + 0x7ff0000000000000 + 1 + t / 2 % (2 ^ 52 - 1) < 18446744073709551616
    generalize t / 2 = u
    have : t % 2 = 0 ∨ t % 2 = 1 := by omega
    rcases this with h | h <;> rw [h] <;> simp only [Nat.reducePow, Nat.reduceSub, Nat.reduceMul, Nat.reduceAdd, Nat.zero_add] <;> omega
   refine ⟨(Question.nanConv .f64 r).cut (w.tape w.drawn (Question.nanConv .f64 r)), w.drew, ?_, .inr rfl, hnan.2, fun _ => hnan.1, fun h => absurd hx h⟩
   simp [convert, run_underlying hs, run_underlying hd, Conv.floatToFloat, hq, Question.forced]
 ·obtain ⟨h31, hlt⟩ := widen8_nar hr hx;have hw := wide_of h31;have hs' : (Tryz.prog.underlying 144).isSome = true := by rw [hs]; rfl
  exact ⟨widen8 r, w, run_convert_float_float (P := Tryz.prog) (w := w) 144 143 .f32 .f64 r _ hs' hd hw, .inl rfl, hlt, fun h => absurd h hx, fun _ => rfl⟩
abbrev zeroV : Value := .agg #[.int .i64 0, .int .u64 0, .slice none 0 0, .slice none 0 0]
def SevenSaid (w : World) (low n : Nat) (e : Ending) (w' : World) : Prop :=
 Below w.heap.size w w' ∧ match sevenP low n with
  | .error q => e = .returned (.tuple #[zeroV, .int .i64 (q : Int)])
  | .ok x => e = .returned (.tuple #[itemV x none 0 none 0, .int .i64 0])
theorem SevenSaid.err {w w' : World} {low n q : Nat} {e : Ending} (h : sevenP low n = .error q) (he : e = .returned (.tuple #[zeroV, .int .i64 (q : Int)])) (hb : Below w.heap.size w w') : SevenSaid w low n e w' := by
 rw [SevenSaid, h]; exact ⟨hb, he⟩
theorem SevenSaid.ok {w w' : World} {low n : Nat} {x : Itm} {e : Ending} (h : sevenP low n = .ok x) (he : e = .returned (.tuple #[itemV x none 0 none 0, .int .i64 0])) (hb : Below w.heap.size w w') : SevenSaid w low n e w' := by
 rw [SevenSaid, h]; exact ⟨hb, he⟩
theorem sevenP_f (low n : Nat) (h : 25 ≤ low) : sevenP low n = if (isNaN (wideP low n) && wideP low n != notNumber) || (floatB (wideP low n)).length != 1 + 2 ^ (low - 24) then .error 4 else .ok (.mk 8 (wideP low n) [] []) := by
 rw [sevenP, if_neg (by omega), if_neg (by omega)]
theorem widenQ_lt {v : Nat} (hv : v < 65536) : widenQ v < 18446744073709551616 := by
 rw [widenQ]
 split
 ·decide
 ·rename_i h; exact (widen5_nar hv h).2
theorem notNumber_nan : isNaN notNumber = true := by decide +kernel
theorem seven25 {n : Nat} (hn : n < 65536) : sevenP 25 n = if widenQ n = notNumber ∧ n ≠ 32256 then .error 4 else if (floatB (widenQ n)).length ≠ 3 then .error 4 else .ok (.mk 8 (widenQ n) [] []) := by
 rw [sevenP_f 25 n (by omega), show wideP 25 n = widen5 n by rw [wideP, if_pos rfl]]
 by_cases hx : n / 1024 % 32 = 31 ∧ n % 1024 ≠ 0
 ·obtain ⟨q1, q2⟩ := widen5_nan hn hx;have hq : widenQ n = notNumber := by rw [widenQ, if_pos hx]
  rw [hq, q1]
  by_cases h : n = 32256
  ·have h5 := q2.2 h;have L : (floatB notNumber).length = 3 := by rw [floatB_nan notNumber_nan]; rfl
   rw [h5, L]
   simp [h]
  ·have h5 : widen5 n ≠ notNumber := fun h' => h (q2.1 h')
   have b5 : (widen5 n != notNumber) = true := by rw [bne_iff_ne]; exact h5
   rw [b5]
   simp [h]
 ·obtain ⟨q1, q2⟩ := widen5_nar hn hx;have q3 := nar15_notNaN q1;have hq : widenQ n = widen5 n := by rw [widenQ, if_neg hx]
  have hne : widen5 n ≠ notNumber := fun h => by rw [h, notNumber_nan] at q3; cases q3
  rw [hq, q3]
  generalize widen5 n = D at *
  simp [hne]
theorem seven26 {n m : Nat} (hn : n < 4294967296) (h1 : (n / 8388608 % 256 = 255 ∧ n % 8388608 ≠ 0) → isNaN m = true) (h2 : ¬ (n / 8388608 % 256 = 255 ∧ n % 8388608 ≠ 0) → m = widen8 n) :
  sevenP 26 n = if (floatB m).length ≠ 5 then .error 4 else .ok (.mk 8 m [] []) := by
 rw [sevenP_f 26 n (by omega), show wideP 26 n = widen8 n by rw [wideP, if_neg (by omega), if_pos rfl]]
 by_cases hx : n / 8388608 % 256 = 255 ∧ n % 8388608 ≠ 0
 ·have q1 := widen8_nan hn hx;have L1 : (floatB (widen8 n)).length = 3 := by rw [floatB_nan q1]; rfl
  have L2 : (floatB m).length = 3 := by rw [floatB_nan (h1 hx)]; rfl
  rw [L1, L2]
  simp
 ·obtain ⟨q1, q2⟩ := widen8_nar hn hx;have q3 := nar31_notNaN q1;rw [h2 hx, q3]
  generalize widen8 n = D at *
  simp
theorem seven27 {n : Nat} : sevenP 27 n = if (floatB n).length ≠ 9 then .error 4 else .ok (.mk 8 n [] []) := by
 rw [sevenP_f 27 n (by omega), show wideP 27 n = n by rw [wideP, if_neg (by omega), if_neg (by omega)]]
 cases h : isNaN n with
 | true =>
  have L : (floatB n).length = 3 := by rw [floatB_nan h]; rfl
  rw [L]; simp
 | false => simp
theorem cbor_seven (f n : Nat) (hf : f < 256) (hlow : f % 32 ≤ 27) (hn : n < 18446744073709551616) (h25 : f % 32 = 25 → n < 65536) (h26 : f % 32 = 26 → n < 4294967296) (w : World) :
  Calls Tryz.prog 77 #[.int .u8 (f : Int), .int .u64 (n : Int)] w (SevenSaid w (f % 32) n) := by
 have KA := and31 ⟨f, hf⟩
 simp only at KA
 obtain ⟨low, hl⟩ : ∃ low, f % 32 = low := ⟨_, rfl⟩
 rw [hl] at KA hlow h25 h26 ⊢;have hB0 := Blk.new w 75 #[.int .i64 0, .int .u64 0, .slice none 0 0, .slice none 0 0];have hb0 := below_box w zeroO;have HN := Hh hn;have H25 := Hh h25;have H26 := Hh h26;clear hn h25 h26 hl hf
 by_cases h24 : low < 24
 ·have e1 : ((low : Int) == 24) = false := by simp; omega
  have e2 : ((low : Int) == 25) = false := by simp; omega
  have e3 : ((low : Int) == 26) = false := by simp; omega
  have e4 : ((low : Int) == 27) = false := by simp; omega
  have p1 : ((low : Int) = 24) = False := eq_false (by omega);have p2 : ((low : Int) = 25) = False := eq_false (by omega);have p3 : ((low : Int) = 26) = False := eq_false (by omega);have p4 : ((low : Int) = 27) = False := eq_false (by omega);have E : Hid (sevenP low n = .ok (.mk 7 n [] [])) := by rw [Hid, sevenP, if_pos h24]
  clear hlow h24;go_enter Tryz.func77, Tryz.ntmps77
  go_wp2_with (with_reducible refine stop_store ?_)
  refine stI hB0 fun wz hTy hgz => ?_
  have hbz := below_of_grown hb0 hgz (by rintro q ⟨⟩; exact Nat.le_refl _);go_wp2_with fail
  refine ret_row_tmp rfl rfl hTy rfl rfl size_item rfl ?_
  exact SevenSaid.ok E.out rfl hbz
 rcases (by omega : low = 24 ∨ low = 25 ∨ low = 26 ∨ low = 27) with rfl | rfl | rfl | rfl
 ·by_cases h32 : n < 32
  ·have z32 : (n : Int) < 32 := by omega
   have E : Hid (sevenP 24 n = .error 4) := by rw [Hid, sevenP, if_neg (by omega), if_pos rfl, if_pos h32]
   clear h32 hlow h24;go_enter Tryz.func77, Tryz.ntmps77
   go_wp2_with (with_reducible refine stop_store ?_)
   refine stI hB0 fun wz hTy hgz => ?_
   have hbz := below_of_grown hb0 hgz (by rintro q ⟨⟩; exact Nat.le_refl _);go_wp2_with fail
   refine ret_row_tmp rfl rfl hTy rfl rfl size_item rfl ?_
   exact SevenSaid.err E.out rfl hbz
  ·have z32 : ¬ ((n : Int) < 32) := by omega
   have E : Hid (sevenP 24 n = .ok (.mk 7 n [] [])) := by rw [Hid, sevenP, if_neg (by omega), if_pos rfl, if_neg h32]
   clear h32 hlow h24;go_enter Tryz.func77, Tryz.ntmps77
   go_wp2_with (with_reducible refine stop_store ?_)
   refine stI hB0 fun wz hTy hgz => ?_
   have hbz := below_of_grown hb0 hgz (by rintro q ⟨⟩; exact Nat.le_refl _);go_wp2_with fail
   refine ret_row_tmp rfl rfl hTy rfl rfl size_item rfl ?_
   exact SevenSaid.ok E.out rfl hbz
 ·have hn := H25.out rfl;have K1 : IntKind.u16.wrap (n : Int) = (n : Int) := IntWalk.u16_in _ (by omega);have FL := Hh (fun w => cbor_float_nat (widenQ n) (widenQ_lt hn) w);have E0 := Hh (seven25 hn);obtain ⟨D, hD⟩ : ∃ D, widenQ n = D := ⟨_, rfl⟩
  have WD := Hh (show ∀ w, Calls Tryz.prog 90 #[.int .u16 (n : Int)] w fun e w' => e = .returned (.int .u64 (D : Int)) ∧ w' = w from fun w => by
   have h := cbor_widen n hn w
   unfold WidenQ at h
   rw [hD] at h
   exact h)
  rw [hD] at FL E0;clear hn hD hlow h24
  by_cases hc : D = notNumber ∧ n ≠ 32256
  ·have c1 : ((D : Int) == 9221120237041090560) = true := by rw [hc.1]; rfl
   have c2 : ((n : Int) != 32256) = true := by rw [bne_iff_ne]; omega
   have c1' : ((D : Int) = 9221120237041090560) = True := eq_true (by rw [hc.1]; rfl);have c2' : ((n : Int) = 32256) = False := eq_false (by omega);have E : Hid (sevenP 25 n = .error 4) := by rw [Hid, E0.out, if_pos hc]
   clear hc E0 FL;go_enter Tryz.func77, Tryz.ntmps77
   go_wp2_with fail
   refine (WD.out _).mono ?_
   rintro e w1 ⟨rfl, rfl⟩
   go_wp2_with (with_reducible refine stop_store ?_)
   refine stI hB0 fun wz hTy hgz => ?_
   have hbz := below_of_grown hb0 hgz (by rintro q ⟨⟩; exact Nat.le_refl _);go_wp2_with fail
   refine ret_row_tmp rfl rfl hTy rfl rfl size_item rfl ?_
   exact SevenSaid.err E.out rfl hbz
  have E1 : Hid (sevenP 25 n = if (floatB D).length ≠ 3 then .error 4 else .ok (.mk 8 D [] [])) := by rw [Hid, E0.out, if_neg hc]
  clear E0
  by_cases hD : D = notNumber
  ·have hn3 : n = 32256 := Classical.byContradiction fun h => hc ⟨hD, h⟩
   have c1 : ((D : Int) == 9221120237041090560) = true := by rw [hD]; rfl
   have c1' : ((D : Int) = 9221120237041090560) = True := eq_true (by rw [hD]; rfl);have c2 : ((n : Int) != 32256) = false := by rw [hn3]; rfl
   have c2' : ((n : Int) = 32256) = True := eq_true (by rw [hn3]; rfl);clear hc hD hn3;go_enter Tryz.func77, Tryz.ntmps77
   go_wp2_with fail
   refine (WD.out _).mono ?_
   rintro e w1 ⟨rfl, rfl⟩
   go_wp2_with fail
   refine (FL.out _).mono ?_
   rintro e w3 ⟨r, rfl, hfr⟩
   obtain ⟨RA, rc, rfl, _⟩ := hfr.own.form;have hB3 := hB0.below hfr.2;have hb3 := hb0.trans (hfr.2.mono hb0.size);obtain ⟨fl, hfl⟩ : ∃ fl, (floatB D).length = fl := ⟨_, rfl⟩
   rw [hfl] at E1 ⊢;clear hfr hfl FL
   by_cases hq : fl = 3
   ·subst hq;have E : Hid (_ = Except.ok (Itm.mk 8 D [] [])) := E1.out.trans (if_neg (by simp));clear E1;go_wp2_with (with_reducible refine stop_store ?_)
    refine stI hB3 fun wz hTy hgz => ?_
    have hbz := below_of_grown hb3 hgz (by rintro q ⟨⟩; exact Nat.le_refl _);go_wp2_with fail
    refine ret_row_tmp rfl rfl hTy rfl rfl size_item rfl ?_
    exact SevenSaid.ok E.out rfl hbz
   ·have zq : ((fl : Int) == 3) = false := by simp; omega
    have zq2 : ((fl : Int) = 3) = False := eq_false (by omega);have E : Hid (_ = Except.error 4) := E1.out.trans (if_pos hq);clear E1 hq;go_wp2_with (with_reducible refine stop_store ?_)
    refine stI hB3 fun wz hTy hgz => ?_
    have hbz := below_of_grown hb3 hgz (by rintro q ⟨⟩; exact Nat.le_refl _);go_wp2_with fail
    refine ret_row_tmp rfl rfl hTy rfl rfl size_item rfl ?_
    exact SevenSaid.err E.out rfl hbz
  ·have c1 : ((D : Int) == 9221120237041090560) = false := by rw [beq_eq_false_iff_ne]; intro h; exact hD (by show D = 9221120237041090560; omega)
   have c1' : ((D : Int) = 9221120237041090560) = False := eq_false (by intro h; exact hD (by show D = 9221120237041090560; omega));clear hc hD;go_enter Tryz.func77, Tryz.ntmps77
   go_wp2_with fail
   refine (WD.out _).mono ?_
   rintro e w1 ⟨rfl, rfl⟩
   go_wp2_with fail
   refine (FL.out _).mono ?_
   rintro e w3 ⟨r, rfl, hfr⟩
   obtain ⟨RA, rc, rfl, _⟩ := hfr.own.form;have hB3 := hB0.below hfr.2;have hb3 := hb0.trans (hfr.2.mono hb0.size);obtain ⟨fl, hfl⟩ : ∃ fl, (floatB D).length = fl := ⟨_, rfl⟩
   rw [hfl] at E1 ⊢;clear hfr hfl FL
   by_cases hq : fl = 3
   ·subst hq;have E : Hid (_ = Except.ok (Itm.mk 8 D [] [])) := E1.out.trans (if_neg (by simp));clear E1;go_wp2_with (with_reducible refine stop_store ?_)
    refine stI hB3 fun wz hTy hgz => ?_
    have hbz := below_of_grown hb3 hgz (by rintro q ⟨⟩; exact Nat.le_refl _);go_wp2_with fail
    refine ret_row_tmp rfl rfl hTy rfl rfl size_item rfl ?_
    exact SevenSaid.ok E.out rfl hbz
   ·have zq : ((fl : Int) == 3) = false := by simp; omega
    have zq2 : ((fl : Int) = 3) = False := eq_false (by omega);have E : Hid (_ = Except.error 4) := E1.out.trans (if_pos hq);clear E1 hq;go_wp2_with (with_reducible refine stop_store ?_)
    refine stI hB3 fun wz hTy hgz => ?_
    have hbz := below_of_grown hb3 hgz (by rintro q ⟨⟩; exact Nat.le_refl _);go_wp2_with fail
    refine ret_row_tmp rfl rfl hTy rfl rfl size_item rfl ?_
    exact SevenSaid.err E.out rfl hbz
 ·have hn := H26.out rfl;have K1 : IntKind.u32.wrap (n : Int) = (n : Int) := IntWalk.u32_in _ (by omega);have r1 := run_f32frombits n;obtain ⟨W0, hW0⟩ : ∃ W0, w.alloc zeroO = W0 := ⟨_, rfl⟩
  obtain ⟨D, w2, hc2, hw2, hDl, hD1, hD2⟩ := conv_seven n hn W0;have E1 := Hh (seven26 hn hD1 hD2);have r2 := run_f64bits D;have FL := Hh (fun w => cbor_float_nat D hDl w)
  have hb2 : Below w.heap.size w w2 := by
   rw [← hW0] at hw2
   rcases hw2 with rfl | rfl
   ·exact hb0
   ·exact hb0.drew
  have hB2 : Blk w2 w.heap.size 75 #[.int .i64 0, .int .u64 0, .slice none 0 0, .slice none 0 0] := by
   rw [← hW0] at hw2
   rcases hw2 with rfl | rfl
   ·exact hB0
   ·exact hB0.drew
  clear hn hD1 hD2 hw2 hDl hlow h24 hB0 hb0;go_enter Tryz.func77, Tryz.ntmps77
  go_upto_region 13 with fail
  clear hW0;go_wp2_with fail
  refine (FL.out _).mono ?_
  rintro e w3 ⟨r, rfl, hfr⟩
  obtain ⟨RA, rc, rfl, _⟩ := hfr.own.form;have hB3 := hB2.below hfr.2;have hb3 := hb2.trans (hfr.2.mono hb2.size);obtain ⟨fl, hfl⟩ : ∃ fl, (floatB D).length = fl := ⟨_, rfl⟩
  rw [hfl] at E1 ⊢;clear hfr hfl FL
  by_cases hq : fl = 5
  ·subst hq;have E : Hid (_ = Except.ok (Itm.mk 8 D [] [])) := E1.out.trans (if_neg (by simp));clear E1;go_wp2_with (with_reducible refine stop_store ?_)
   refine stI hB3 fun wz hTy hgz => ?_
   have hbz := below_of_grown hb3 hgz (by rintro q ⟨⟩; exact Nat.le_refl _);go_wp2_with fail
   refine ret_row_tmp rfl rfl hTy rfl rfl size_item rfl ?_
   exact SevenSaid.ok E.out rfl hbz
  ·have zq : ((fl : Int) == 5) = false := by simp; omega
   have zq2 : ((fl : Int) = 5) = False := eq_false (by omega);have E : Hid (_ = Except.error 4) := E1.out.trans (if_pos hq);clear E1 hq;go_wp2_with (with_reducible refine stop_store ?_)
   refine stI hB3 fun wz hTy hgz => ?_
   have hbz := below_of_grown hb3 hgz (by rintro q ⟨⟩; exact Nat.le_refl _);go_wp2_with fail
   refine ret_row_tmp rfl rfl hTy rfl rfl size_item rfl ?_
   exact SevenSaid.err E.out rfl hbz
 ·have E1 := Hh (seven27 (n := n));have FL := Hh (fun w => cbor_float_nat n HN.out w);have hb2 := hb0;have hB2 := hB0;clear hlow h24 hB0 hb0;obtain ⟨D, hD⟩ : ∃ D, n = D := ⟨_, rfl⟩
  subst hD;go_enter Tryz.func77, Tryz.ntmps77
  go_wp2_with fail
  refine (FL.out _).mono ?_
  rintro e w3 ⟨r, rfl, hfr⟩
  obtain ⟨RA, rc, rfl, _⟩ := hfr.own.form;have hB3 := hB2.below hfr.2;have hb3 := hb2.trans (hfr.2.mono hb2.size);obtain ⟨fl, hfl⟩ : ∃ fl, (floatB n).length = fl := ⟨_, rfl⟩
  rw [hfl] at E1 ⊢;clear hfr hfl FL
  by_cases hq : fl = 9
  ·subst hq;have E : Hid (_ = Except.ok (Itm.mk 8 n [] [])) := E1.out.trans (if_neg (by simp));clear E1;go_wp2_with (with_reducible refine stop_store ?_)
   refine stI hB3 fun wz hTy hgz => ?_
   have hbz := below_of_grown hb3 hgz (by rintro q ⟨⟩; exact Nat.le_refl _);go_wp2_with fail
   refine ret_row_tmp rfl rfl hTy rfl rfl size_item rfl ?_
   exact SevenSaid.ok E.out rfl hbz
  ·have zq : ((fl : Int) == 9) = false := by simp; omega
   have zq2 : ((fl : Int) = 9) = False := eq_false (by omega);have E : Hid (_ = Except.error 4) := E1.out.trans (if_pos hq);clear E1 hq;go_wp2_with (with_reducible refine stop_store ?_)
   refine stI hB3 fun wz hTy hgz => ?_
   have hbz := below_of_grown hb3 hgz (by rintro q ⟨⟩; exact Nat.le_refl _);go_wp2_with fail
   refine ret_row_tmp rfl rfl hTy rfl rfl size_item rfl ?_
   exact SevenSaid.err E.out rfl hbz
section
variable {T : TypeId} {w w' w'' : World} {H H' H'' : Snap} {g : Nat} {A : Option Addr} {c : Nat} {l : List UInt8} {p cnt p' cnt' : Nat}
theorem Psr.gt (h : Psr T w g H A c l p cnt) : g < w.heap.size := h.blk.lt
structure Rdg (T : TypeId) (w : World) (H : Snap) (w' : World) (H' : Snap) (g : Nat) (A : Option Addr) (c : Nat) (l : List UInt8) (p cnt : Nat) : Prop where
 grows : GrowsBut w H w' H' g
 psr : Psr T w' g H' A c l p cnt
theorem Rdg.refl (h : Psr T w g H A c l p cnt) : Rdg T w H w H g A c l p cnt := ⟨GrowsBut.refl h.holds g, h⟩
theorem Rdg.trans (h : Rdg T w H w' H' g A c l p cnt) (k : Rdg T w' H' w'' H'' g A c l p' cnt') : Rdg T w H w'' H'' g A c l p' cnt' := ⟨h.grows.trans k.grows, k.psr⟩
theorem Psr.grows (h : Psr T w g H A c l p cnt) (k : Grows w H w' H') : Rdg T w H w' H' g A c l p cnt :=
 ⟨k.but g, ⟨h.blk.below k.below, h.bytes.mono k.le, k.holds, k.none h.apart h.gt, h.le, h.small, h.cnt_le⟩⟩
theorem Rdg.grown (h : Rdg T w H w' H' g A c l p cnt) (k : Grows w' H' w'' H'') : Rdg T w H w'' H'' g A c l p cnt := h.trans (h.psr.grows k)
theorem Rdg.alloc (h : Rdg T w H w' H' g A c l p cnt) (o : Obj) : Rdg T w H (w'.alloc o) H' g A c l p cnt := h.grown ((Grows.refl h.psr.holds).alloc o)
theorem Rdg.below_ (h : Rdg T w H w' H' g A c l p cnt) (k : Below w'.heap.size w' w'') : Rdg T w H w'' H' g A c l p cnt := h.grown (Grows.of_below h.psr.holds k)
theorem Rdg.drewN (h : Rdg T w H w' H' g A c l p cnt) (q : Nat) : Rdg T w H (w'.drewN q) H' g A c l p cnt := h.below_ (below_drewNv (Below.refl _ _) q)
theorem Rdg.size (h : Rdg T w H w' H' g A c l p cnt) : w.heap.size ≤ w'.heap.size := h.grows.grown.size
theorem Rdg.hid (h : Rdg T w H w' H' g A c l p cnt) {k : Nat} (hk : H k = .none) (hl : k < w.heap.size) : H' k = .none := h.grows.hid hk hl
theorem Rdg.step (h : Rdg T w H w' H' g A c l p cnt) (hg : w'.grownBy w'' (some g)) (hb : Blk w'' g T (psrC A l.length c p' cnt')) (hp : p' ≤ l.length) (hc : cnt' ≤ 256) : Rdg T w H w'' H' g A c l p' cnt' :=
 ⟨⟨grown_step h.grows.grown hg (.inl rfl), h.grows.le, h.psr.holds.grown hg (by rintro q ⟨⟩; exact h.psr.apart), h.grows.fresh⟩,
  hb, h.psr.bytes, h.psr.holds.grown hg (by rintro q ⟨⟩; exact h.psr.apart), h.psr.apart, hp, h.psr.small, hc⟩
theorem Rdg.grownRow {row : Option Nat} (h : Rdg T w H w' H' g A c l p cnt) (h0 : ∀ k, row = some k → H' k = .none) (hw : ∀ k, row = some k → w.heap.size ≤ k) (hlt : g < w.heap.size) (hg : w'.grownBy w'' row) : Rdg T w H w'' H' g A c l p cnt := by
 have hd := h.psr;have hne : row ≠ some g := fun e => by have := hw g e; omega
 refine ⟨⟨?_, h.grows.le, hd.holds.grown hg h0, h.grows.fresh⟩, hd.blk.grown hg hne, hd.bytes, hd.holds.grown hg h0, hd.apart, hd.le, hd.small, hd.cnt_le⟩
 exact ⟨hg.os.trans h.grows.grown.os, hg.tape.trans h.grows.grown.tape, hg.output.trans h.grows.grown.output, Nat.le_trans h.size hg.size, fun i hi hne' =>
   (hg.block i (Nat.lt_of_lt_of_le hi h.size) (fun e => by have := hw i e.symm; omega)).trans (h.grows.grown.block i hi hne')⟩
theorem Blk.rdg {k : Nat} {t : TypeId} {cs : Array Value} (h : Blk w k t cs) (hd : Rdg T w H w' H' g A c l p cnt) (hk : k ≠ g) : Blk w' k t cs :=
 h.grown hd.grows.grown (by intro e; injection e with e; exact hk e.symm)
theorem OwnI.rdg {base : Nat} {v : Value} {K : Snap} {L : List Itm} (h : OwnI w base v K L) (hd : Rdg T w H w' H' g A c l p cnt) (hb : g < base) : OwnI w' base v K L := by
 refine h.kept hd.grows.grown ?_
 cases hv : v.ownBlock with
 | none => exact .inl rfl
 | some k => exact .inr (fun e => by injection e with e; have := h.lt k hv; omega)
def ItemOut (T : TypeId) (w : World) (H : Snap) (g : Nat) (A : Option Addr) (c : Nat) (l : List UInt8) (p : Nat) (r : PR) (e : Ending) (w' : World) : Prop :=
 match r with
 | .err q => e = .returned (.tuple #[zeroV, .int .i64 (q : Int)]) ∧ (∃ H' p' cnt', Rdg T w H w' H' g A c l p' cnt')
 | .ok x k c' => ∃ ja jb jc jd H', e = .returned (.tuple #[itemV x ja jb jc jd, .int .i64 0]) ∧ Rdg T w H w' H' g A c l (p + k) c' ∧ IsItem H' ja jb jc jd x
theorem ItemOut.err {e : Ending} {r : PR} {q : Nat} (hr : r = .err q) (he : e = .returned (.tuple #[zeroV, .int .i64 (q : Int)])) (h : Rdg T w H w' H' g A c l p' cnt') : ItemOut T w H g A c l p r e w' := by
 rw [hr, ItemOut]; exact ⟨he, H', p', cnt', h⟩
theorem ItemOut.ok {e : Ending} {r : PR} {x : Itm} {k c' : Nat} {ja : Option Addr} {jb : Nat} {jc : Option Addr} {jd : Nat} (hr : r = .ok x k c') (he : e = .returned (.tuple #[itemV x ja jb jc jd, .int .i64 0])) (h : Rdg T w H w' H' g A c l (p + k) c') (hi : IsItem H' ja jb jc jd x) : ItemOut T w H g A c l p r e w' := by
 rw [hr, ItemOut]; exact ⟨ja, jb, jc, jd, H', he, h, hi⟩
end
def PItem (d : Nat) : Prop := ∀ (w : World) (H : Snap) (g : Nat) (A : Option Addr) (c : Nat) (l : List UInt8) (p cnt lv : Nat), Tabs H → lv + d = 8 → Psr 107 w g H A c l p cnt →
 Calls Tryz.prog 58 #[.pointer (some ⟨g, 0, none⟩), .int .i64 (lv : Int)] w (ItemOut 107 w H g A c l p (parse d (l.drop p) cnt))
theorem parse_full (d : Nat) (b : List UInt8) (c : Nat) (h : 256 ≤ c) : parse d b c = .err 8 := by rw [parse.eq_def]; simp only; rw [if_pos h]
theorem parse_head (d : Nat) (b : List UInt8) (c : Nat) (h : ¬ 256 ≤ c) {q : Nat} (hq : headP b = .error q) : parse d b c = .err q := by rw [parse.eq_def]; simp only; rw [if_neg h, hq]
theorem parse_num (d : Nat) (b : List UInt8) (c : Nat) (h : ¬ 256 ≤ c) {f n k : Nat} (hq : headP b = .ok (f, n, k)) (hk : f / 32 ≤ 1) : parse d b c = .ok (.mk (f / 32 : Nat) n [] []) k (c + 1) := by
 rw [parse.eq_def]; simp only; rw [if_neg h, hq]; simp only; rw [if_pos hk]
theorem parse_str (d : Nat) (b : List UInt8) (c : Nat) (h : ¬ 256 ≤ c) {f n k : Nat} (hq : headP b = .ok (f, n, k)) (h1 : ¬ f / 32 ≤ 1) (h3 : f / 32 ≤ 3) : parse d b c =
  (if b.length < k + n then .err 2 else if f / 32 = 3 ∧ Lib.validD ((b.drop k).take n) = false then .err 5 else .ok (.mk (f / 32 : Nat) 0 ((b.drop k).take n) []) (k + n) (c + 1)) := by
 rw [parse.eq_def]; simp only; rw [if_neg h, hq]; simp only; rw [if_neg h1, if_pos h3]
theorem parse_seven (d : Nat) (b : List UInt8) (c : Nat) (h : ¬ 256 ≤ c) {f n k : Nat} (hq : headP b = .ok (f, n, k)) (h7 : f / 32 = 7) : parse d b c =
  (match sevenP (f % 32) n with | .error e => .err e | .ok x => .ok x k (c + 1)) := by
 rw [parse.eq_def]; simp only; rw [if_neg h, hq]; simp only; rw [if_neg (by omega), if_neg (by omega), if_pos h7]
 all_goals (cases sevenP (f % 32) n <;> rfl)
theorem parse_deep (b : List UInt8) (c : Nat) (h : ¬ 256 ≤ c) {f n k : Nat} (hq : headP b = .ok (f, n, k)) (h3 : 4 ≤ f / 32) (h7 : f / 32 ≤ 6) : parse 0 b c = .err 8 := by
 rw [parse.eq_def]; simp only; rw [if_neg h, hq]; simp only; rw [if_neg (by omega), if_neg (by omega), if_neg (by omega)]
theorem parse_tag (d : Nat) (b : List UInt8) (c : Nat) (h : ¬ 256 ≤ c) {f n k : Nat} (hq : headP b = .ok (f, n, k)) (h6 : f / 32 = 6) : parse (d + 1) b c =
  (match parse d (b.drop k) (c + 1) with | .err e => .err e | .ok x k' c' => .ok (.mk 6 n [] [x]) (k + k') c') := by
 rw [parse.eq_def]; simp only; rw [if_neg h, hq]; simp only; rw [if_neg (by omega), if_neg (by omega), if_neg (by omega), if_pos h6]
 all_goals (cases parse d (b.drop k) (c + 1) <;> rfl)
theorem parse_map (d : Nat) (b : List UInt8) (c : Nat) (h : ¬ 256 ≤ c) {f n k : Nat} (hq : headP b = .ok (f, n, k)) (h5 : f / 32 = 5) : parse (d + 1) b c =
  (match mapP (parse d) n (b.drop k) (c + 1) none with | .err e => .err e | .ok l k' c' => .ok (.mk 5 0 [] l) (k + k') c') := by
 rw [parse.eq_def]; simp only; rw [if_neg h, hq]; simp only; rw [if_neg (by omega), if_neg (by omega), if_neg (by omega), if_neg (by omega), if_pos h5]
 all_goals (cases mapP (parse d) n (b.drop k) (c + 1) none <;> rfl)
theorem parse_arr (d : Nat) (b : List UInt8) (c : Nat) (h : ¬ 256 ≤ c) {f n k : Nat} (hq : headP b = .ok (f, n, k)) (h4 : f / 32 = 4) : parse (d + 1) b c =
  (match arrP (parse d) n (b.drop k) (c + 1) with | .err e => .err e | .ok l k' c' => .ok (.mk 4 0 [] l) (k + k') c') := by
 rw [parse.eq_def]; simp only; rw [if_neg h, hq]; simp only; rw [if_neg (by omega), if_neg (by omega), if_neg (by omega), if_neg (by omega), if_neg (by omega)]
 all_goals (cases arrP (parse d) n (b.drop k) (c + 1) <;> rfl)
theorem headP_err {b : List UInt8} {q : Nat} (h : headP b = .error q) : q = 2 ∨ q = 3 ∨ q = 4 := by
 cases b with
 | nil => injection h with h; omega
 | cons f t =>
  simp only [headP] at h
  repeat' split at h
  all_goals first | (injection h with h; omega) | cases h
theorem sevenP_err {low n q : Nat} (h : sevenP low n = .error q) : q = 4 := by
 rw [sevenP] at h
 repeat' split at h
 all_goals first | (injection h with h; omega) | cases h
theorem sevenP_form {low n : Nat} {x : Itm} (h : sevenP low n = .ok x) : ∃ kd m, x = .mk kd m [] [] ∧ (kd = 7 ∨ kd = 8) := by
 rw [sevenP] at h
 split at h
 ·injection h with h; exact ⟨7, n, h.symm, .inl rfl⟩
 split at h
 ·split at h
  ·cases h
  ·injection h with h; exact ⟨7, n, h.symm, .inl rfl⟩
 ·split at h
  ·cases h
  ·injection h with h; exact ⟨8, _, h.symm, .inr rfl⟩
theorem seven_item {H : Snap} {b : List UInt8} {f n k : Nat} {x : Itm} (HS : HeadIs b f n k) (h : sevenP (f % 32) n = .ok x) : IsItem H none 0 none 0 x := by
 have hx : x.n < 18446744073709551616 := by
  have := HS.low
  rcases Nat.lt_or_ge (f % 32) 24 with hl | hl
  ·obtain ⟨s1, s2, s3⟩ := HS.small hl
   exact (seven_spec (low := f % 32) (t := []) (by omega) (fun _ => ⟨s1, rfl⟩) (fun h => by omega) h).2.2.1
  ·obtain ⟨s1, t, s2, s3, s4⟩ := HS.wide hl
   exact (seven_spec (low := f % 32) (t := t) (by omega) (fun h => by omega) (fun _ => ⟨s2, s4⟩) h).2.2.1
 obtain ⟨kd, m, rfl, hk⟩ := sevenP_form h
 exact IsItem.plain _ kd m (by omega) hx
section
variable {d : Nat} {w : World} {H : Snap} {g : Nat} {A : Option Addr} {c : Nat} {l : List UInt8} {p cnt lv : Nat}
theorem p_item_full (hTab : Tabs H) (hlv : lv + d = 8) (hP : Psr 107 w g H A c l p cnt) (hc : cnt = 256) : Calls Tryz.prog 58 #[.pointer (some ⟨g, 0, none⟩), .int .i64 (lv : Int)] w (ItemOut 107 w H g A c l p (parse d (l.drop p) cnt)) := by
 have hgl := hP.gt;have hd0 := (Rdg.refl hP).alloc zeroO;have hT0 := Blk.new w 75 #[.int .i64 0, .int .u64 0, .slice none 0 0, .slice none 0 0];have hn0 : H w.heap.size = none := hP.holds.none_of_ge (Nat.le_refl _);have c2 := hd0.psr.blk.cell 2 rfl;have hc256 : ((cnt : Int) == 256) = true := by simp; omega
 have hc256' : ((cnt : Int) = 256) = True := eq_true (by omega);have E := Hh (parse_full d (l.drop p) cnt (by omega));clear hc;go_enter Tryz.func58, Tryz.ntmps58
 go_wp2_with (with_reducible refine stop_store ?_)
 refine stI hT0 fun wz hTy hgz => ?_
 have hdz := hd0.grownRow (row := some w.heap.size) (by rintro q ⟨⟩; exact hn0) (by rintro q ⟨⟩; exact Nat.le_refl _) hgl hgz;go_wp2_with fail
 refine ret_row_tmp rfl rfl hTy rfl rfl size_item rfl ?_
 exact ItemOut.err (q := 8) E.out rfl hdz
theorem p_item_head (hTab : Tabs H) (hlv : lv + d = 8) (hP : Psr 107 w g H A c l p cnt) (hc : cnt < 256) {q : Nat} (hh : headP (l.drop p) = .error q) : Calls Tryz.prog 58 #[.pointer (some ⟨g, 0, none⟩), .int .i64 (lv : Int)] w (ItemOut 107 w H g A c l p (parse d (l.drop p) cnt)) := by
 have hgl := hP.gt;have hd0 := (Rdg.refl hP).alloc zeroO;have hT0 := Blk.new w 75 #[.int .i64 0, .int .u64 0, .slice none 0 0, .slice none 0 0];have hn0 : H w.heap.size = none := hP.holds.none_of_ge (Nat.le_refl _);have c2 := hd0.psr.blk.cell 2 rfl;have E := Hh (parse_head d (l.drop p) cnt (by omega) hh);have hq0 : ((q : Int) != 0) = true := by rw [bne_iff_ne]; have := headP_err hh; omega
 have hq0' : ((q : Int) = 0) = False := eq_false (by have := headP_err hh; omega);have hc256 : ((cnt : Int) == 256) = false := by simp; omega
 have hc256' : ((cnt : Int) = 256) = False := eq_false (by omega);have KC : IntKind.i64.wrap ((cnt : Int) + 1) = (cnt : Int) + 1 := IntWalk.i64_in _ (by omega);have HC := Hh hc;clear hc;go_enter Tryz.func58, Tryz.ntmps58
 go_wp2_with (with_reducible refine stop_store ?_)
 refine wpList_store_cell rfl _ _ _ rfl rfl g 2 (.int .i64 ((cnt : Int) + 1)) rfl rfl _ _ hd0.psr.blk size_int1 (by simp) rfl fun w2 hB2 hG2 => ?_
 have hd2 : Rdg 107 w H w2 H g A c l p (cnt + 1) := hd0.step hG2 hB2 hP.le (by have := HC.out; omega);have hT2 := hT0.gr hG2 (by omega);have PH := Hh (p_head hd2.psr);clear hd0 hT0 hB2 hG2 c2 KC hc256 hc256';go_wp2_with fail
 refine PH.out.mono ?_
 intro e w3 hs
 rw [HeadSaid, hh] at hs;obtain ⟨rfl, ⟨p', hp', hB3⟩, hG3⟩ := hs;have hd3 : Rdg 107 w H w3 H g A c l p' (cnt + 1) := hd2.step hG3 hB3 hp' (by have := HC.out; omega);have hT3 := hT2.gr hG3 (by omega);clear hd2 hT2 hB3 hG3 PH hh;go_wp2_with (with_reducible refine stop_store ?_)
 refine stI hT3 fun wz hTy hgz => ?_
 have hdz := hd3.grownRow (row := some w.heap.size) (by rintro q ⟨⟩; exact hn0) (by rintro q ⟨⟩; exact Nat.le_refl _) hgl hgz;go_wp2_with fail
 refine ret_row_tmp rfl rfl hTy rfl rfl size_item rfl ?_
 exact ItemOut.err E.out rfl hdz
theorem p_item_0 (hTab : Tabs H) (hlv : lv + d = 8) (hP : Psr 107 w g H A c l p cnt) (hc : cnt < 256) {f n k : Nat} (hh : headP (l.drop p) = .ok (f, n, k)) (hk : f / 32 = 0) : Calls Tryz.prog 58 #[.pointer (some ⟨g, 0, none⟩), .int .i64 (lv : Int)] w (ItemOut 107 w H g A c l p (parse d (l.drop p) cnt)) := by
 have hgl := hP.gt;have hd0 := (Rdg.refl hP).alloc zeroO;have hT0 := Blk.new w 75 #[.int .i64 0, .int .u64 0, .slice none 0 0, .slice none 0 0];have hn0 : H w.heap.size = none := hP.holds.none_of_ge (Nat.le_refl _);have c2 := hd0.psr.blk.cell 2 rfl;have E : Hid (parse d (l.drop p) cnt = .ok (.mk 0 n [] []) k (cnt + 1)) := by rw [Hid, parse_num d (l.drop p) cnt (by omega) hh (by omega), hk]; rfl
 have S : (f : Int) / 32 = 0 := by omega
 have hc256 : ((cnt : Int) == 256) = false := by simp; omega
 have hc256' : ((cnt : Int) = 256) = False := eq_false (by omega);have KC : IntKind.i64.wrap ((cnt : Int) + 1) = (cnt : Int) + 1 := IntWalk.i64_in _ (by omega);have HC := Hh hc;clear hc;go_enter Tryz.func58, Tryz.ntmps58
 go_wp2_with (with_reducible refine stop_store ?_)
 refine wpList_store_cell rfl _ _ _ rfl rfl g 2 (.int .i64 ((cnt : Int) + 1)) rfl rfl _ _ hd0.psr.blk size_int1 (by simp) rfl fun w2 hB2 hG2 => ?_
 have hd2 : Rdg 107 w H w2 H g A c l p (cnt + 1) := hd0.step hG2 hB2 hP.le (by have := HC.out; omega);have hT2 := hT0.gr hG2 (by omega);have PH := Hh (p_head hd2.psr);clear hd0 hT0 hB2 hG2 c2 KC hc256 hc256';go_wp2_with fail
 refine PH.out.mono ?_
 intro e w3 hs
 rw [HeadSaid, hh] at hs;obtain ⟨rfl, hB3, hG3⟩ := hs;have HS := headP_spec hh;have hle3 : p + k ≤ l.length := by have := HS.le; rw [List.length_drop] at this; have := hP.le; omega
 have hd3 : Rdg 107 w H w3 H g A c l (p + k) (cnt + 1) := hd2.step hG3 hB3 hle3 (by have := HC.out; omega);have hT3 := hT2.gr hG3 (by omega);have HF := Hh HS;clear hd2 hT2 hB3 hG3 PH HS hh;go_wp2_with (with_reducible refine stop_store ?_)
 refine stI hT3 fun wz hTy hgz => ?_
 have hdz := hd3.grownRow (row := some w.heap.size) (by rintro q ⟨⟩; exact hn0) (by rintro q ⟨⟩; exact Nat.le_refl _) hgl hgz;go_wp2_with fail
 refine ret_row_tmp rfl rfl hTy rfl rfl size_item rfl ?_
 exact ItemOut.ok (ja := none) (jb := 0) (jc := none) (jd := 0) E.out rfl hdz (IsItem.plain _ 0 n (by omega) HF.out.n_lt)
theorem p_item_1 (hTab : Tabs H) (hlv : lv + d = 8) (hP : Psr 107 w g H A c l p cnt) (hc : cnt < 256) {f n k : Nat} (hh : headP (l.drop p) = .ok (f, n, k)) (hk : f / 32 = 1) : Calls Tryz.prog 58 #[.pointer (some ⟨g, 0, none⟩), .int .i64 (lv : Int)] w (ItemOut 107 w H g A c l p (parse d (l.drop p) cnt)) := by
 have hgl := hP.gt;have hd0 := (Rdg.refl hP).alloc zeroO;have hT0 := Blk.new w 75 #[.int .i64 0, .int .u64 0, .slice none 0 0, .slice none 0 0];have hn0 : H w.heap.size = none := hP.holds.none_of_ge (Nat.le_refl _);have c2 := hd0.psr.blk.cell 2 rfl;have E : Hid (parse d (l.drop p) cnt = .ok (.mk 1 n [] []) k (cnt + 1)) := by rw [Hid, parse_num d (l.drop p) cnt (by omega) hh (by omega), hk]; rfl
 have S : (f : Int) / 32 = 1 := by omega
 have hc256 : ((cnt : Int) == 256) = false := by simp; omega
 have hc256' : ((cnt : Int) = 256) = False := eq_false (by omega);have KC : IntKind.i64.wrap ((cnt : Int) + 1) = (cnt : Int) + 1 := IntWalk.i64_in _ (by omega);have HC := Hh hc;clear hc;go_enter Tryz.func58, Tryz.ntmps58
 go_wp2_with (with_reducible refine stop_store ?_)
 refine wpList_store_cell rfl _ _ _ rfl rfl g 2 (.int .i64 ((cnt : Int) + 1)) rfl rfl _ _ hd0.psr.blk size_int1 (by simp) rfl fun w2 hB2 hG2 => ?_
 have hd2 : Rdg 107 w H w2 H g A c l p (cnt + 1) := hd0.step hG2 hB2 hP.le (by have := HC.out; omega);have hT2 := hT0.gr hG2 (by omega);have PH := Hh (p_head hd2.psr);clear hd0 hT0 hB2 hG2 c2 KC hc256 hc256';go_wp2_with fail
 refine PH.out.mono ?_
 intro e w3 hs
 rw [HeadSaid, hh] at hs;obtain ⟨rfl, hB3, hG3⟩ := hs;have HS := headP_spec hh;have hle3 : p + k ≤ l.length := by have := HS.le; rw [List.length_drop] at this; have := hP.le; omega
 have hd3 : Rdg 107 w H w3 H g A c l (p + k) (cnt + 1) := hd2.step hG3 hB3 hle3 (by have := HC.out; omega);have hT3 := hT2.gr hG3 (by omega);have HF := Hh HS;clear hd2 hT2 hB3 hG3 PH HS hh;go_wp2_with (with_reducible refine stop_store ?_)
 refine stI hT3 fun wz hTy hgz => ?_
 have hdz := hd3.grownRow (row := some w.heap.size) (by rintro q ⟨⟩; exact hn0) (by rintro q ⟨⟩; exact Nat.le_refl _) hgl hgz;go_wp2_with fail
 refine ret_row_tmp rfl rfl hTy rfl rfl size_item rfl ?_
 exact ItemOut.ok (ja := none) (jb := 0) (jc := none) (jd := 0) E.out rfl hdz (IsItem.plain _ 1 n (by omega) HF.out.n_lt)
theorem p_item_7 (hTab : Tabs H) (hlv : lv + d = 8) (hP : Psr 107 w g H A c l p cnt) (hc : cnt < 256) {f n k : Nat} (hh : headP (l.drop p) = .ok (f, n, k)) (hk : f / 32 = 7) : Calls Tryz.prog 58 #[.pointer (some ⟨g, 0, none⟩), .int .i64 (lv : Int)] w (ItemOut 107 w H g A c l p (parse d (l.drop p) cnt)) := by
 have hgl := hP.gt;have hd0 := (Rdg.refl hP).alloc zeroO;have hT0 := Blk.new w 75 #[.int .i64 0, .int .u64 0, .slice none 0 0, .slice none 0 0];have hn0 : H w.heap.size = none := hP.holds.none_of_ge (Nat.le_refl _);have c2 := hd0.psr.blk.cell 2 rfl;have E0 := Hh (parse_seven d (l.drop p) cnt (by omega) hh hk);have S : (f : Int) / 32 = 7 := by omega
 have hc256 : ((cnt : Int) == 256) = false := by simp; omega
 have hc256' : ((cnt : Int) = 256) = False := eq_false (by omega);have KC : IntKind.i64.wrap ((cnt : Int) + 1) = (cnt : Int) + 1 := IntWalk.i64_in _ (by omega);have HC := Hh hc;clear hc;go_enter Tryz.func58, Tryz.ntmps58
 go_wp2_with (with_reducible refine stop_store ?_)
 refine wpList_store_cell rfl _ _ _ rfl rfl g 2 (.int .i64 ((cnt : Int) + 1)) rfl rfl _ _ hd0.psr.blk size_int1 (by simp) rfl fun w2 hB2 hG2 => ?_
 have hd2 : Rdg 107 w H w2 H g A c l p (cnt + 1) := hd0.step hG2 hB2 hP.le (by have := HC.out; omega);have hT2 := hT0.gr hG2 (by omega);have PH := Hh (p_head hd2.psr);clear hd0 hT0 hB2 hG2 c2 KC hc256 hc256';go_wp2_with fail
 refine PH.out.mono ?_
 intro e w3 hs
 rw [HeadSaid, hh] at hs;obtain ⟨rfl, hB3, hG3⟩ := hs;have HS := headP_spec hh;have hle3 : p + k ≤ l.length := by have := HS.le; rw [List.length_drop] at this; have := hP.le; omega
 have hd3 : Rdg 107 w H w3 H g A c l (p + k) (cnt + 1) := hd2.step hG3 hB3 hle3 (by have := HC.out; omega);have hT3 := hT2.gr hG3 (by omega);have HF := Hh HS;clear hd2 hT2 hB3 hG3 PH HS hh
 have SV := Hh (fun w => cbor_seven f n HF.out.f_lt HF.out.low HF.out.n_lt (by
  intro h25
  obtain ⟨_, t, h1, _, h2⟩ := HF.out.wide (by omega);have := beN_lt t;rw [h1, h25] at this;rw [h2]; simpa using this) (by
  intro h26
  obtain ⟨_, t, h1, _, h2⟩ := HF.out.wide (by omega);have := beN_lt t;rw [h1, h26] at this;rw [h2]; simpa using this) w)
 go_wp2_with fail
 refine (SV.out _).mono ?_
 intro e w4 hs
 obtain ⟨hb4, hs⟩ := hs;have hd4 := hd3.below_ hb4;have hT4 := hT3.below hb4;clear hd3 hT3 SV hb4
 cases hsv : sevenP (f % 32) n with
 | error q =>
  rw [hsv] at hs
  simp only at hs
  subst hs;have E : Hid (parse d (l.drop p) cnt = .err q) := by rw [Hid, E0.out, hsv]
  go_wp2_with (with_reducible refine stop_store ?_)
  refine stI hT4 fun wz hTy hgz => ?_
  have hdz := hd4.grownRow (row := some w.heap.size) (by rintro q ⟨⟩; exact hn0) (by rintro q ⟨⟩; exact Nat.le_refl _) hgl hgz;go_wp2_with fail
  refine ret_row_tmp rfl rfl hTy rfl rfl size_item rfl ?_
  exact ItemOut.err E.out rfl hdz
 | ok x =>
  rw [hsv] at hs
  simp only at hs
  subst hs;have E : Hid (parse d (l.drop p) cnt = .ok x k (cnt + 1)) := by rw [Hid, E0.out, hsv]
  have hxb : IsItem H none 0 none 0 x := seven_item HF.out hsv;clear hsv;go_wp2_with (with_reducible refine stop_store ?_)
  refine stI hT4 fun wz hTy hgz => ?_
  have hdz := hd4.grownRow (row := some w.heap.size) (by rintro q ⟨⟩; exact hn0) (by rintro q ⟨⟩; exact Nat.le_refl _) hgl hgz;go_wp2_with fail
  refine ret_row_tmp rfl rfl hTy rfl rfl size_item rfl ?_
  exact ItemOut.ok E.out rfl hdz hxb
theorem p_item_deep (hTab : Tabs H) (hlv : lv = 8) (hP : Psr 107 w g H A c l p cnt) (hc : cnt < 256) {f n k : Nat} (hh : headP (l.drop p) = .ok (f, n, k)) (h4 : 4 ≤ f / 32) (h6 : f / 32 ≤ 6) : Calls Tryz.prog 58 #[.pointer (some ⟨g, 0, none⟩), .int .i64 (lv : Int)] w (ItemOut 107 w H g A c l p (parse 0 (l.drop p) cnt)) := by
 have hgl := hP.gt;have hd0 := (Rdg.refl hP).alloc zeroO;have hT0 := Blk.new w 75 #[.int .i64 0, .int .u64 0, .slice none 0 0, .slice none 0 0];have hn0 : H w.heap.size = none := hP.holds.none_of_ge (Nat.le_refl _);have c2 := hd0.psr.blk.cell 2 rfl;have E := Hh (parse_deep (l.drop p) cnt (by omega) hh h4 h6);obtain ⟨kd, hkd⟩ : ∃ kd, f / 32 = kd := ⟨_, rfl⟩
 have S : (f : Int) / 32 = (kd : Int) := by omega
 have s0 : ((kd : Int) == 0) = false := by simp; omega
 have s1 : ((kd : Int) == 1) = false := by simp; omega
 have s2 : ((kd : Int) == 2) = false := by simp; omega
 have s3 : ((kd : Int) == 3) = false := by simp; omega
 have s7 : ((kd : Int) == 7) = false := by simp; omega
 have q0 : ((kd : Int) = 0) = False := eq_false (by omega);have q1 : ((kd : Int) = 1) = False := eq_false (by omega);have q2 : ((kd : Int) = 2) = False := eq_false (by omega);have q3 : ((kd : Int) = 3) = False := eq_false (by omega);have q7 : ((kd : Int) = 7) = False := eq_false (by omega);have hkw : (kd : Int) ≤ 7 := by omega
 subst hlv;clear hkd h4 h6;have hc256 : ((cnt : Int) == 256) = false := by simp; omega
 have hc256' : ((cnt : Int) = 256) = False := eq_false (by omega);have KC : IntKind.i64.wrap ((cnt : Int) + 1) = (cnt : Int) + 1 := IntWalk.i64_in _ (by omega);have HC := Hh hc;clear hc;go_enter Tryz.func58, Tryz.ntmps58
 go_wp2_with (with_reducible refine stop_store ?_)
 refine wpList_store_cell rfl _ _ _ rfl rfl g 2 (.int .i64 ((cnt : Int) + 1)) rfl rfl _ _ hd0.psr.blk size_int1 (by simp) rfl fun w2 hB2 hG2 => ?_
 have hd2 : Rdg 107 w H w2 H g A c l p (cnt + 1) := hd0.step hG2 hB2 hP.le (by have := HC.out; omega);have hT2 := hT0.gr hG2 (by omega);have PH := Hh (p_head hd2.psr);clear hd0 hT0 hB2 hG2 c2 KC hc256 hc256';go_wp2_with fail
 refine PH.out.mono ?_
 intro e w3 hs
 rw [HeadSaid, hh] at hs;obtain ⟨rfl, hB3, hG3⟩ := hs;have HS := headP_spec hh;have hle3 : p + k ≤ l.length := by have := HS.le; rw [List.length_drop] at this; have := hP.le; omega
 have hd3 : Rdg 107 w H w3 H g A c l (p + k) (cnt + 1) := hd2.step hG3 hB3 hle3 (by have := HC.out; omega);have hT3 := hT2.gr hG3 (by omega);have HF := Hh HS;clear hd2 hT2 hB3 hG3 PH HS hh;go_wp2_with (with_reducible refine stop_store ?_)
 refine stI hT3 fun wz hTy hgz => ?_
 have hdz := hd3.grownRow (row := some w.heap.size) (by rintro q ⟨⟩; exact hn0) (by rintro q ⟨⟩; exact Nat.le_refl _) hgl hgz;go_wp2_with fail
 refine ret_row_tmp rfl rfl hTy rfl rfl size_item rfl ?_
 exact ItemOut.err E.out rfl hdz
end
end Go.Proofs.YtgaoknihklmakaaGreatDoor
namespace Go.Proofs.YtgaoknihklmakaaGreatDoor
open Go.RowKit Go.Shelf
def utfRen : Go.Shelf.Ren := ⟨fun | 196 => 28 | 259 => 33 | n => n,
 fun | 0 => 0 | 3 => 3 | 4 => 4 | 5 => 5 | 9 => 9 | 12 => 12 | 46 => 48 | 53 => 47 | 119 => 78 | 138 => 80 | 139 => 81 | n => n,
 fun | 3 => 0 | 4 => 1 | n => n⟩
theorem utfLays : Lays.n196 Tryz.prog utfRen where
 mixed := by kernel_rfl
 f196 := Tryz.func28.trans (congrArg some (by kernel_rfl))
 f259 := Tryz.func33.trans (congrArg some (by kernel_rfl))
 t0 := Tryz.underlying0
 a0 := Tryz.isAgg0
 z0 := Tryz.sizeOf0
 v0 := Tryz.zeroValue0
 t3 := Tryz.underlying3
 a3 := Tryz.isAgg3
 z3 := Tryz.sizeOf3
 v3 := Tryz.zeroValue3
 t4 := Tryz.underlying4
 a4 := Tryz.isAgg4
 z4 := Tryz.sizeOf4
 v4 := Tryz.zeroValue4
 t5 := Tryz.underlying5
 a5 := Tryz.isAgg5
 z5 := Tryz.sizeOf5
 v5 := Tryz.zeroValue5
 t9 := Tryz.underlying9
 a9 := Tryz.isAgg9
 z9 := Tryz.sizeOf9
 v9 := Tryz.zeroValue9
 t12 := Tryz.underlying12
 a12 := Tryz.isAgg12
 z12 := Tryz.sizeOf12
 v12 := Tryz.zeroValue12
 t46 := Tryz.underlying48
 a46 := Tryz.isAgg48
 z46 := Tryz.sizeOf48
 v46 := Tryz.zeroValue48
 t53 := Tryz.underlying47
 a53 := Tryz.isAgg47
 z53 := Tryz.sizeOf47
 v53 := Tryz.zeroValue47
 t119 := Tryz.underlying78
 a119 := Tryz.isAgg78
 z119 := Tryz.sizeOf78
 t138 := Tryz.underlying80
 a138 := Tryz.isAgg80
 z138 := Tryz.sizeOf80
 v138 := Tryz.zeroValue80
 t139 := Tryz.underlying81
 a139 := Tryz.isAgg81
 z139 := Tryz.sizeOf81
 v139 := Tryz.zeroValue81
 g3 := by kernel_rfl
 g4 := by kernel_rfl
theorem utf8_ValidString {H : Snap} (hT : Tabs H) (w : World) (hH : Holds w H) (s : ByteArray) (hs : s.size ≤ 9223372036854775807) :
  Calls Tryz.prog 28 #[.string s] w fun e w' => e = .returned (.bool (Lib.validD s.data.toList)) ∧ Below w.heap.size w w' :=
 Any.utf8_ValidString utfLays s w hs (hT w hH)
theorem Rdg.gb {T : TypeId} {w w' w'' : World} {H H' : Snap} {g k : Nat} {A : Option Addr} {c : Nat} {l : List UInt8} {p cnt : Nat} (h : Rdg T w H w' H' g A c l p cnt) (h0 : H' k = none) (hw : w.heap.size ≤ k) (hlt : g < w.heap.size) (hg : w'.grownBy w'' (some k)) : Rdg T w H w'' H' g A c l p cnt := h.grownRow (row := some k) (by rintro q ⟨⟩; exact h0) (by rintro q ⟨⟩; exact hw) hlt hg
end Go.Proofs.YtgaoknihklmakaaGreatDoor
