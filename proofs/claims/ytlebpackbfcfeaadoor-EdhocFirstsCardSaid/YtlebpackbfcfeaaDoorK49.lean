/- squeezed. Walks: the law of external data: w -/
import Derived.Test.YtlebpackbfcfeaaDoorK42
set_option linter.unusedVariables false
set_option linter.unusedSimpArgs false
set_option maxRecDepth 100000
set_option maxHeartbeats 12800000
namespace Go.Proofs.YtlebpackbfcfeaaDoor
open Go.RowKit
def IsTruth (e : Ending) : Prop := ∃ b : Bool, e = .returned (.bool b)
theorem law_light {H : Snap} (w : World) (hH : Holds w H) {A : Option Addr} {n c : Nat} {l : List Ext} (hn : n = l.length) (hr : IsRow lieE H A c l) :
  Calls Tryd.prog 6 #[.slice A n c] w fun e w' => IsTruth e ∧ Below w.heap.size w w' := by
 have HR := Hh hr
 have HH := Hh hH
 have HN := Hh hn
 have SM := Hh (fun (A : Option Addr) (n c : Nat) (w : World) => mk2_Small A n c w)
 clear hr hH hn
 go_enter Tryd.func6, Tryd.ntmps6
 go_wp2_with fail
 go_loopw [7] (fun v7 wr => ∃ k : Nat, k ≤ n ∧ v7 = .int .i64 (k : Int) ∧ Below w.heap.size w wr) (fun v7 _ => n - (intOf v7).toNat)
 case atStart => exact ⟨0, Nat.zero_le _, rfl, Below.refl _ _⟩
 case round =>
  obtain ⟨k, hk, rfl, hbr⟩ := hrel
  have HKK := Hh hk
  clear hk
  by_cases hkl : k < n
  ·have hki : (k : Int) < (n : Int) := by omega
   obtain ⟨b, off, rfl, hat⟩ := HR.out.at_ (by have := HN.out; omega)
   obtain ⟨d, hd, hc⟩ := hat k (by have := HN.out; omega)
   obtain ⟨YA, yc, rfl, hyb⟩ := hd
   have hHr := HH.out.below hbr (Nat.le_refl _)
   obtain ⟨x, hx⟩ : ∃ x, l[k]'(by have := HN.out; omega) = x := ⟨_, rfl⟩
   rw [hx] at hc hyb
   obtain ⟨yl, yh, yv⟩ := x
   have q0 : wr.cell? ⟨b, off + k * 3, none⟩ = some (.int .i64 yl) := hHr.cell (hc 0 _ rfl)
   have q1 : wr.cell? ⟨b, off + k * 3 + 1, none⟩ = some (.bool yh) := hHr.cell (hc 1 _ rfl)
   have q2 : wr.cell? ⟨b, off + k * 3 + 2, none⟩ = some (.slice YA yv.length yc) := hHr.cell (hc 2 _ rfl)
   have hT0 := Blk.new wr 62 #[.int .i64 0, .bool false, .slice none 0 0]
   have HK := Hh hkl
   have hnc : (n : Int) ≤ (c : Int) := by have := HR.out.le; have := HN.out; omega
   have hk63 : (k : Int) + 1 ≤ 9223372036854775807 := by have h1 := HR.out.le; have h2 := HR.out.max; have := HN.out; omega
   clear hkl hat hc hHr hx hyb
   go_wp2_with (with_reducible refine stop_store ?_)
   unfold Stopped
   refine wpList_store_item rfl _ _ _ rfl rfl _ _ rfl rfl _ _ hT0 size_ext rfl (one3 _ _ _ rfl rfl rfl) fun w3 hT3 hg3 => ?_
   have hb3 := below_of_grown (hbr.alloc hbr.size (.cells #[.int .i64 0, .bool false, .slice none 0 0] 62)) hg3 (by rintro q ⟨⟩; exact hbr.size)
   have b2 := hT3.cell 2 rfl
   clear hT0 hg3 q0 q1 q2
   go_wp2_with fail
   refine (SM.out _ _ _ _).mono ?_
   rintro e w4 ⟨⟨b', rfl, _⟩, rfl⟩
   cases b' with
   | false =>
    go_wp2_with fail
    go_ret
    exact ⟨⟨false, rfl⟩, hb3⟩
   | true =>
    go_wp2_with fail
    go_roundw
    case rel => exact ⟨k + 1, HK.out, by go_num, hb3⟩
    case measure => have := HK.out; simp [intOf]; omega
  ·have hke : ¬ ((k : Int) < (n : Int)) := by omega
   have hke' : decide ((k : Int) < (n : Int)) = false := decide_eq_false hke
   clear hkl
   go_wp2_with fail
   go_ret
   exact ⟨⟨_, rfl⟩, hbr⟩
theorem law_sameExt {H : Snap} (w : World) (hH : Holds w H) {A B : Option Addr} {n m c d : Nat} {l : List Ext} (hn : n = l.length) (hm : m = l.length) (hn63 : n ≤ 4611686018427387904) (hv : ∀ x ∈ l, x.val.length ≤ 1099511627776) (hr : IsRow lieE H A c l) (hr2 : IsRow lieE H B d l) :
  Calls Tryd.prog 15 #[.slice A n c, .slice B m d] w fun e w' => e = .returned (.bool true) ∧ Below w.heap.size w w' := by
 have HR := Hh hr
 have HR2 := Hh hr2
 have HH := Hh hH
 have HN := Hh (And.intro hn hn63)
 have HV := Hh hv
 have hnm : m = n := by omega
 subst hnm
 have hcI : (m : Int) ≤ (c : Int) := by have := hr.le; omega
 have hdI : (m : Int) ≤ (d : Int) := by have := hr2.le; omega
 clear hr hr2 hH hn hm hn63 hv
 go_enter Tryd.func15, Tryd.ntmps15
 go_wp2_with fail
 go_loopw [13] (fun v13 wr => ∃ k : Nat, k ≤ m ∧ v13 = .int .i64 (k : Int) ∧ Below w.heap.size w wr) (fun v13 _ => m - (intOf v13).toNat)
 case atStart => exact ⟨0, Nat.zero_le _, rfl, Below.refl _ _⟩
 case round =>
  obtain ⟨k, hk, rfl, hbr⟩ := hrel
  have HKK := Hh hk
  clear hk
  by_cases hkl : k < m
  ·have hki : (k : Int) < (m : Int) := by omega
   have hk0 : (0 : Int) ≤ (k : Int) := by omega
   have hll : k < l.length := by have := HN.out.1; omega
   obtain ⟨b, off, rfl, hat⟩ := HR.out.at_ (by omega)
   obtain ⟨d1, hd1, hc⟩ := hat k hll
   obtain ⟨YA, yc, rfl, hyb⟩ := hd1
   obtain ⟨b2, off2, rfl, hat2⟩ := HR2.out.at_ (by omega)
   obtain ⟨d2, hd2, hc2⟩ := hat2 k hll
   obtain ⟨ZA, zc, rfl, hzb⟩ := hd2
   have hHr := HH.out.below hbr (Nat.le_refl _)
   have HVX := Hh (HV.out l[k] (List.getElem_mem hll))
   obtain ⟨x, hx⟩ : ∃ x, l[k] = x := ⟨_, rfl⟩
   rw [hx] at hc hyb hc2 hzb HVX
   obtain ⟨yl, yh, yv⟩ := x
   simp only at HVX
   have q0 : wr.cell? ⟨b, off + k * 3, none⟩ = some (.int .i64 yl) := hHr.cell (hc 0 _ rfl)
   have q1 : wr.cell? ⟨b, off + k * 3 + 1, none⟩ = some (.bool yh) := hHr.cell (hc 1 _ rfl)
   have q2 : wr.cell? ⟨b, off + k * 3 + 2, none⟩ = some (.slice YA yv.length yc) := hHr.cell (hc 2 _ rfl)
   have p0 : wr.cell? ⟨b2, off2 + k * 3, none⟩ = some (.int .i64 yl) := hHr.cell (hc2 0 _ rfl)
   have p1 : wr.cell? ⟨b2, off2 + k * 3 + 1, none⟩ = some (.bool yh) := hHr.cell (hc2 1 _ rfl)
   have p2 : wr.cell? ⟨b2, off2 + k * 3 + 2, none⟩ = some (.slice ZA yv.length zc) := hHr.cell (hc2 2 _ rfl)
   have EQ0 := ref_Equal wr.drew YA ZA yv yv yv.length yv.length yc zc rfl rfl (by have := HVX.out; omega) (by have := HVX.out; omega) (Src.of_row hyb.row hHr) (Src.of_row hzb.row hHr)
   rw [decide_eq_true (rfl : yv = yv)] at EQ0
   obtain ⟨vl, hvl⟩ : ∃ vl, yv.length = vl := ⟨_, rfl⟩
   rw [hvl] at q2 p2 EQ0
   have EQ := Hh EQ0
   have HK := Hh hkl
   have e1 : (yl != yl) = false := bne_self_eq_false _
   have e2 : (yh != yh) = false := bne_self_eq_false _
   have hk63 : (k : Int) + 1 ≤ 9223372036854775807 := by have := HN.out.2; omega
   have hbd : Below w.heap.size w wr.drew := hbr.drew
   clear hkl hll hat hc hat2 hc2 hHr hx hyb hzb EQ0 hvl hbr
   go_upto_region 6 with fail
   refine wp_region_ways 37 (fun w' => w'.cell? ⟨b, off + k * 3, none⟩ = some (.int .i64 yl) ∧ w'.cell? ⟨b, off + k * 3 + 1, none⟩ = some (.bool yh) ∧ w'.cell? ⟨b, off + k * 3 + 2, none⟩ = some (.slice YA vl yc) ∧ w'.cell? ⟨b2, off2 + k * 3, none⟩ = some (.int .i64 yl) ∧ w'.cell? ⟨b2, off2 + k * 3 + 1, none⟩ = some (.bool yh) ∧ w'.cell? ⟨b2, off2 + k * 3 + 2, none⟩ = some (.slice ZA vl zc)) (by kernel_rfl) (⟨q0, q1, q2, p0, p1, p2⟩) (fun hHeld => ?_)
   refine Tk 0 (v := ?_) rfl ?_ hHeld ?_
   rotate_left
   ·intro w s; (try dsimp only at s); go_simp; try with_reducible rfl
   try simp only [Act.put, zz1, zz2, zz3, zz4, zz5, zz6]
   refine Tk 1 (v := ?_) rfl ?_ hHeld ?_
   rotate_left
   ·intro w s; (try dsimp only at s); go_simp; try with_reducible rfl
   try simp only [Act.put, zz1, zz2, zz3, zz4, zz5, zz6]
   refine Tk 2 (v := ?_) rfl ?_ hHeld ?_
   rotate_left
   ·intro w s; (try dsimp only at s); go_simp; try with_reducible rfl
   try simp only [Act.put, zz1, zz2, zz3, zz4, zz5, zz6]
   refine Tk 3 (v := ?_) rfl ?_ hHeld ?_
   rotate_left
   ·intro w s; (try dsimp only at s); go_simp; try with_reducible rfl
   try simp only [Act.put, zz1, zz2, zz3, zz4, zz5, zz6]
   refine Tk 4 (v := ?_) rfl ?_ hHeld ?_
   rotate_left
   ·intro w s; (try dsimp only at s); go_simp; try with_reducible rfl
   try simp only [Act.put, zz1, zz2, zz3, zz4, zz5, zz6]
   refine Tk 5 (v := ?_) rfl ?_ hHeld ?_
   rotate_left
   ·intro w s; (try dsimp only at s); go_simp; try with_reducible rfl
   try simp only [Act.put, zz1, zz2, zz3, zz4, zz5, zz6]
   refine Tk 6 (v := ?_) rfl ?_ hHeld ?_
   rotate_left
   ·intro w s; (try dsimp only at s); go_simp; try with_reducible rfl
   try simp only [Act.put, zz1, zz2, zz3, zz4, zz5, zz6]
   refine Tk 7 (v := ?_) rfl ?_ hHeld ?_
   rotate_left
   ·intro w s; (try dsimp only at s); go_simp; try with_reducible rfl
   try simp only [Act.put, zz1, zz2, zz3, zz4, zz5, zz6]
   refine Tk 8 (v := ?_) rfl ?_ hHeld ?_
   rotate_left
   ·intro w s; (try dsimp only at s); go_simp; try with_reducible rfl
   try simp only [Act.put, zz1, zz2, zz3, zz4, zz5, zz6]
   refine Tk 9 (v := ?_) rfl ?_ hHeld ?_
   rotate_left
   ·intro w s; (try dsimp only at s); go_simp; try with_reducible rfl
   try simp only [Act.put, zz1, zz2, zz3, zz4, zz5, zz6]
   refine Tk 10 (v := ?_) rfl ?_ hHeld ?_
   rotate_left
   ·intro w s; (try dsimp only at s); go_simp; try with_reducible rfl
   try simp only [Act.put, zz1, zz2, zz3, zz4, zz5, zz6]
   refine Tk 11 (v := ?_) rfl ?_ hHeld ?_
   rotate_left
   ·intro w s; (try dsimp only at s); go_simp; try with_reducible rfl
   try simp only [Act.put, zz1, zz2, zz3, zz4, zz5, zz6]
   refine Ways.take (i := 12) (v := ?_) rfl (by kernel_rfl) (fun _ _ _ h => h) (Or.inl ⟨?_, ?_⟩) hHeld ?_
   rotate_left
   ·kernel_rfl
   ·intro w s; (try dsimp only at s); go_simp; try with_reducible rfl
   try simp only [Act.put, zz1, zz2, zz3, zz4, zz5, zz6]
   refine Ways.take (i := 13) (v := ?_) rfl (by kernel_rfl) (fun _ _ _ h => h) (Or.inl ⟨?_, ?_⟩) hHeld ?_
   rotate_left
   ·kernel_rfl
   ·intro w s; (try dsimp only at s); go_simp; try with_reducible rfl
   try simp only [Act.put, zz1, zz2, zz3, zz4, zz5, zz6]
   refine Ways.take (i := 14) (v := ?_) rfl (by kernel_rfl) (fun _ _ _ h => h) (Or.inl ⟨?_, ?_⟩) hHeld ?_
   rotate_left
   ·kernel_rfl
   ·intro w s; (try dsimp only at s); go_simp; try with_reducible rfl
   try simp only [Act.put, zz1, zz2, zz3, zz4, zz5, zz6]
   refine Ways.take (i := 15) (v := ?_) rfl (by kernel_rfl) (fun _ _ _ h => h) (Or.inl ⟨?_, ?_⟩) hHeld ?_
   rotate_left
   ·kernel_rfl
   ·intro w s; (try dsimp only at s); go_simp; try with_reducible rfl
   try simp only [Act.put, zz1, zz2, zz3, zz4, zz5, zz6]
   refine Ways.take (i := 16) (v := ?_) rfl (by kernel_rfl) (fun _ _ _ h => h) (Or.inl ⟨?_, ?_⟩) hHeld ?_
   rotate_left
   ·kernel_rfl
   ·intro w s; (try dsimp only at s); go_simp; try with_reducible rfl
   try simp only [Act.put, zz1, zz2, zz3, zz4, zz5, zz6]
   refine Ways.take (i := 17) (v := ?_) rfl (by kernel_rfl) (fun _ _ _ h => h) (Or.inl ⟨?_, ?_⟩) hHeld ?_
   rotate_left
   ·kernel_rfl
   ·intro w s; (try dsimp only at s); go_simp; try with_reducible rfl
   try simp only [Act.put, zz1, zz2, zz3, zz4, zz5, zz6]
   refine Ways.take (i := 18) (v := ?_) rfl (by kernel_rfl) (fun _ _ _ h => h) (Or.inl ⟨?_, ?_⟩) hHeld ?_
   rotate_left
   ·kernel_rfl
   ·intro w s; (try dsimp only at s); go_simp; try with_reducible rfl
   try simp only [Act.put, zz1, zz2, zz3, zz4, zz5, zz6]
   refine Ways.take (i := 19) (v := ?_) rfl (by kernel_rfl) (fun _ _ _ h => h) (Or.inl ⟨?_, ?_⟩) hHeld ?_
   rotate_left
   ·kernel_rfl
   ·intro w s; (try dsimp only at s); go_simp; try with_reducible rfl
   try simp only [Act.put, zz1, zz2, zz3, zz4, zz5, zz6]
   refine Ways.take (i := 20) (v := ?_) rfl (by kernel_rfl) (fun _ _ _ h => h) (Or.inl ⟨?_, ?_⟩) hHeld ?_
   rotate_left
   ·kernel_rfl
   ·intro w s; (try dsimp only at s); go_simp; try with_reducible rfl
   try simp only [Act.put, zz1, zz2, zz3, zz4, zz5, zz6]
   refine Ways.take (i := 21) (v := ?_) rfl (by kernel_rfl) (fun _ _ _ h => h) (Or.inl ⟨?_, ?_⟩) hHeld ?_
   rotate_left
   ·kernel_rfl
   ·intro w s; (try dsimp only at s); go_simp; try with_reducible rfl
   try simp only [Act.put, zz1, zz2, zz3, zz4, zz5, zz6]
   refine Ways.take (i := 22) (v := ?_) rfl (by kernel_rfl) (fun _ _ _ h => h) (Or.inl ⟨?_, ?_⟩) hHeld ?_
   rotate_left
   ·kernel_rfl
   ·intro w s; (try dsimp only at s); go_simp; try with_reducible rfl
   try simp only [Act.put, zz1, zz2, zz3, zz4, zz5, zz6]
   refine Tk 23 (v := ?_) rfl ?_ hHeld ?_
   rotate_left
   ·intro w s; (try dsimp only at s); go_simp; try with_reducible rfl
   try simp only [Act.put, zz1, zz2, zz3, zz4, zz5, zz6]
   refine Tk 24 (v := ?_) rfl ?_ hHeld ?_
   rotate_left
   ·intro w s; (try dsimp only at s); go_simp; try with_reducible rfl
   try simp only [Act.put, zz1, zz2, zz3, zz4, zz5, zz6]
   refine Ways.take (i := 25) (v := ?_) rfl (by kernel_rfl) (fun _ _ _ h => h) (Or.inl ⟨?_, ?_⟩) hHeld ?_
   rotate_left
   ·kernel_rfl
   ·intro w s; (try dsimp only at s); go_simp; try with_reducible rfl
   try simp only [Act.put, zz1, zz2, zz3, zz4, zz5, zz6]
   refine Ways.take (i := 26) (v := ?_) rfl (by kernel_rfl) (fun _ _ _ h => h) (Or.inl ⟨?_, ?_⟩) hHeld ?_
   rotate_left
   ·kernel_rfl
   ·intro w s; (try dsimp only at s); go_simp; try with_reducible rfl
   try simp only [Act.put, zz1, zz2, zz3, zz4, zz5, zz6]
   refine Ways.take (i := 27) (v := ?_) rfl (by kernel_rfl) (fun _ _ _ h => h) (Or.inl ⟨?_, ?_⟩) hHeld ?_
   rotate_left
   ·kernel_rfl
   ·intro w s; (try dsimp only at s); go_simp; try with_reducible rfl
   try simp only [Act.put, zz1, zz2, zz3, zz4, zz5, zz6]
   refine Ways.take (i := 28) (v := ?_) rfl (by kernel_rfl) (fun _ _ _ h => h) (Or.inl ⟨?_, ?_⟩) hHeld ?_
   rotate_left
   ·kernel_rfl
   ·intro w s; (try dsimp only at s); go_simp; try with_reducible rfl
   try simp only [Act.put, zz1, zz2, zz3, zz4, zz5, zz6]
   refine Ways.take (i := 29) (v := ?_) rfl (by kernel_rfl) (fun _ _ _ h => h) (Or.inl ⟨?_, ?_⟩) hHeld ?_
   rotate_left
   ·kernel_rfl
   ·intro w s; (try dsimp only at s); go_simp; try with_reducible rfl
   try simp only [Act.put, zz1, zz2, zz3, zz4, zz5, zz6]
   refine Ways.take (i := 30) (v := ?_) rfl (by kernel_rfl) (fun _ _ _ h => h) (Or.inl ⟨?_, ?_⟩) hHeld ?_
   rotate_left
   ·kernel_rfl
   ·intro w s; (try dsimp only at s); go_simp; try with_reducible rfl
   try simp only [Act.put, zz1, zz2, zz3, zz4, zz5, zz6]
   refine Ways.take (i := 31) (v := ?_) rfl (by kernel_rfl) (fun _ _ _ h => h) (Or.inl ⟨?_, ?_⟩) hHeld ?_
   rotate_left
   ·kernel_rfl
   ·intro w s; (try dsimp only at s); go_simp; try with_reducible rfl
   try simp only [Act.put, zz1, zz2, zz3, zz4, zz5, zz6]
   refine Ways.take (i := 32) (v := ?_) rfl (by kernel_rfl) (fun _ _ _ h => h) (Or.inl ⟨?_, ?_⟩) hHeld ?_
   rotate_left
   ·kernel_rfl
   ·intro w s; (try dsimp only at s); go_simp; try with_reducible rfl
   try simp only [Act.put, zz1, zz2, zz3, zz4, zz5, zz6]
   refine Ways.take (i := 33) (v := ?_) rfl (by kernel_rfl) (fun _ _ _ h => h) (Or.inl ⟨?_, ?_⟩) hHeld ?_
   rotate_left
   ·kernel_rfl
   ·intro w s; (try dsimp only at s); go_simp; try with_reducible rfl
   try simp only [Act.put, zz1, zz2, zz3, zz4, zz5, zz6]
   refine Ways.take (i := 34) (v := ?_) rfl (by kernel_rfl) (fun _ _ _ h => h) (Or.inl ⟨?_, ?_⟩) hHeld ?_
   rotate_left
   ·kernel_rfl
   ·intro w s; (try dsimp only at s); go_simp; try with_reducible rfl
   try simp only [Act.put, zz1, zz2, zz3, zz4, zz5, zz6]
   refine To 35 rfl fun K hK => ?_
   go_simp
   refine EQ.out.mono ?_
   rintro e w5 ⟨rfl, hb5⟩
   refine hK.out _ _ (fun _ => ?_) (fun hHeld => ?_)
   ·exact ⟨cell_below (cell_drew q0) hb5, cell_below (cell_drew q1) hb5, cell_below (cell_drew q2) hb5, cell_below (cell_drew p0) hb5, cell_below (cell_drew p1) hb5, cell_below (cell_drew p2) hb5⟩
   clear hK K
   have hHeld := hHeld (by decide)
   try simp only [Act.put, zz1, zz2, zz3, zz4, zz5, zz6]
   refine Ways.take (i := 36) (v := ?_) rfl (by kernel_rfl) (fun _ _ _ h => h) (Or.inl ⟨?_, ?_⟩) hHeld ?_
   rotate_left
   ·kernel_rfl
   ·intro w s; (try dsimp only at s); go_simp; try with_reducible rfl
   try simp only [Act.put, zz1, zz2, zz3, zz4, zz5, zz6]
   refine To 37 rfl fun K hK => ?_
   go_simp
   refine hK.out _ _ (fun h => absurd rfl h) (fun _ => ?_)
   clear hK K
   try simp only [Act.put, zz1, zz2, zz3, zz4, zz5, zz6]
   refine Ways.done (by kernel_rfl) ?_
   have hb6 := hbd.trans (hb5.mono hbd.size)
   go_wp2_with fail
   go_roundw
   case rel => exact ⟨k + 1, HK.out, by go_num, hb6⟩
   case measure => have := HK.out; simp [intOf]; omega
  ·have hke : ¬ ((k : Int) < (m : Int)) := by omega
   have hke' : decide ((k : Int) < (m : Int)) = false := decide_eq_false hke
   clear hkl
   go_wp2_with fail
   go_ret
   exact ⟨rfl, hbr⟩
end Go.Proofs.YtlebpackbfcfeaaDoor
