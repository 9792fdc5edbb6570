/- Walks: the program's reader of items: strings. -/
import Derived.Test.YtebcnkelbicbnaaGreatDoorM15
import Derived.Test.YtebcnkelbicbnaaGreatDoorM05
import Derived.Test.YtebcnkelbicbnaaGreatDoorM03
import Derived.Test.YtebcnkelbicbnaaGreatDoorM11
set_option linter.unusedVariables false
set_option linter.unusedSimpArgs false
namespace Go.Proofs.YtebcnkelbicbnaaGreatDoor
open Go.RowKit

section
variable {d : Nat} {w : World} {H : Snap} {g : Nat} {A : Option Addr} {c : Nat} {l : List UInt8} {p cnt lv : Nat}
theorem IsItem.str {H : Snap} {B : Option Addr} {bc : Nat} {s : List UInt8} (k : Int) (hk : 0 ≤ k ∧ k ≤ 8) (h : IsBytes H B bc s) : IsItem H B bc none 0 (.mk k 0 s []) := by
  rw [IsItem]
  exact ⟨⟨by omega, by omega, by omega, Nat.le_refl _, by omega⟩, h, fun h => absurd h (by simp)⟩
set_option maxRecDepth 100000 in
set_option maxHeartbeats 6400000 in
theorem p_item_2 (hTab : Tabs H) (hlv : lv + d = 8) (hP : Psr 109 w g H A c l p cnt) (hc : cnt < 256) {f n k : Nat} (hh : headP (l.drop p) = .ok (f, n, k)) (hk : f / 32 = 2) : Calls Tryz.prog 79 #[.pointer (some ⟨g, 0, none⟩), .int .i64 (lv : Int)] w (ItemOut 109 w H g A c l p (parse d (l.drop p) cnt)) := by
  have hgl := hP.gt
  have hd0 := (Rdg.refl hP).alloc zeroO
  have hT0 := Blk.new w 26 #[.int .i64 0, .int .u64 0, .slice none 0 0, .slice none 0 0]
  have hn0 : H w.heap.size = none := hP.holds.none_of_ge (Nat.le_refl _)
  have c2 := hd0.psr.blk.cell 2 rfl

  have E0 : Hid (parse d (l.drop p) cnt = (if (l.drop p).length < k + n then .err 2 else if 2 = 3 ∧ Lib.validD (((l.drop p).drop k).take n) = false then .err 5 else .ok (.mk 2 0 (((l.drop p).drop k).take n) []) (k + n) (cnt + 1))) := by
    rw [Hid, parse_str d (l.drop p) cnt (by omega) hh (by omega) (by omega), hk]; first | rfl | (simp only [true_and]; first | done | rfl) | simp
  have S : (f : Int) / 32 = 2 := by omega
  have hc256 : ((cnt : Int) == 256) = false := by simp; omega
  have hc256' : ((cnt : Int) = 256) = False := eq_false (by omega)
  have KC : IntKind.i64.wrap ((cnt : Int) + 1) = (cnt : Int) + 1 := IntWalk.i64_in _ (by omega)
  have HC := Lib.hid hc
  clear hc
  go_enter Tryz.func79, Tryz.ntmps79
  go_wp2_with (with_reducible refine stop_store ?_)
  unfold Stopped
  refine wpList_store_cell rfl _ _ _ rfl rfl g 2 (.int .i64 ((cnt : Int) + 1)) rfl rfl _ _ hd0.psr.blk size_int1 (by simp) rfl fun w2 hB2 hG2 => ?_
  have hd2 : Rdg 109 w H w2 H g A c l p (cnt + 1) := hd0.step hG2 hB2 hP.le (by have := HC.out; omega)
  have hT2 := hT0.grown hG2 (by intro e; injection e with e; omega)
  have PH := Lib.hid (p_head hd2.psr)
  clear hd0 hT0 hB2 hG2 c2 KC hc256 hc256'
  go_wp2_with fail
  refine PH.out.mono ?_
  intro e w3 hs
  rw [HeadSaid, hh] at hs

  obtain ⟨rfl, hB3, hG3⟩ := hs
  have HS := headP_spec hh
  have hle3 : p + k ≤ l.length := by have := HS.le; rw [List.length_drop] at this; have := hP.le; omega
  have hd3 : Rdg 109 w H w3 H g A c l (p + k) (cnt + 1) := hd2.step hG3 hB3 hle3 (by have := HC.out; omega)
  have hT3 := hT2.grown hG3 (by intro e; injection e with e; omega)
  have HF := Lib.hid HS
  clear hd2 hT2 hB3 hG3 PH HS hh

  have hpos := HF.out.pos
  obtain ⟨b, off, rfl, HCELL0⟩ := hd3.psr.bytes.at_ (by omega)
  have hsm := hd3.psr.small
  have hcl := hd3.psr.bytes.le
  have hcm := hd3.psr.bytes.max
  have hnl := HF.out.n_lt
  have hdl : (l.drop p).length = l.length - p := List.length_drop
  obtain ⟨P, hPk⟩ : ∃ P, p + k = P := ⟨_, rfl⟩
  obtain ⟨s, hss⟩ : ∃ s, ((l.drop p).drop k).take n = s := ⟨_, rfl⟩
  rw [hss] at E0
  rw [List.drop_drop, hPk] at hss
  rw [hPk] at hd3 hle3
  have K1 : IntKind.i64.wrap ((l.length : Int) - (P : Int)) = (l.length : Int) - (P : Int) := IntWalk.i64_in _ (by omega)
  have K2 : IntKind.u64.wrap ((l.length : Int) - (P : Int)) = (l.length : Int) - (P : Int) := by rw [IntKind.wrap_u64]; omega
  have a0 := hd3.psr.blk.cell 0 rfl
  have a1 := hd3.psr.blk.cell 1 rfl
  have hPl : (P : Int) ≤ (l.length : Int) := by omega
  have hll : (l.length : Int) ≤ 4096 := by omega
  by_cases hlt : l.length < P + n
  · have z0 : (l.length : Int) - (P : Int) < (n : Int) := by omega
    have E : Hid (parse d (l.drop p) cnt = .err 2) := by rw [Hid, E0.out, if_pos (by omega)]
    clear hsm hcl hcm hnl hdl hPk hss E0 hlt HCELL0
    go_wp2_with fail
    go_big_quiet (fail)
    have hd4 := hd3.drewN nq
    have hT4 : Blk (w3.drewN nq) w.heap.size 26 #[.int .i64 0, .int .u64 0, .slice none 0 0, .slice none 0 0] := hT3
    go_wp2_with (with_reducible refine stop_store ?_)
    unfold Stopped
    refine wpList_store_item rfl _ _ _ rfl rfl _ _ rfl rfl _ _ hT4 size_item rfl (one4 _ _ _ _ rfl rfl rfl rfl) fun wz hTy hgz => ?_
    have hdz := hd4.grownRow (row := some w.heap.size) (by rintro q ⟨⟩; exact hn0) (by rintro q ⟨⟩; exact Nat.le_refl _) hgl hgz
    go_wp2_with fail
    refine ret_row_tmp rfl rfl hTy rfl rfl size_item rfl ?_

    exact ItemOut.err E.out rfl hdz
  · have z0 : ¬ ((l.length : Int) - (P : Int) < (n : Int)) := by omega
    have z0b : decide ((l.length : Int) - (P : Int) < (n : Int)) = false := decide_eq_false z0
    have E1 : Hid (parse d (l.drop p) cnt = (if 2 = 3 ∧ Lib.validD s = false then .err 5 else .ok (.mk 2 0 s []) (k + n) (cnt + 1))) := by rw [Hid, E0.out, if_neg (by omega)]; try simp
    have hsn : n = s.length := by rw [← hss, List.length_take, List.length_drop]; omega
    have HSN := Lib.hid hsn
    clear hsn
    have KN : IntKind.i64.wrap (n : Int) = (n : Int) := IntWalk.i64_in _ (by omega)
    have KP : IntKind.i64.wrap ((P : Int) + (n : Int)) = (P : Int) + (n : Int) := IntWalk.i64_in _ (by omega)
    have kt : ((P : Int) + (n : Int)).toNat = P + n := by omega
    have y0 : (0 : Int) ≤ (P : Int) + (n : Int) := by omega
    have y5 : P ≤ P + n := by omega
    have y6 : P + n - P = n := by omega
    have y1 : (P : Int) ≤ (P : Int) + (n : Int) := by omega
    have y2 : (P : Int) + (n : Int) ≤ (c : Int) := by omega
    have y3 : (P : Int) ≤ (c : Int) := by omega
    have y4 : (0 : Int) ≤ (P : Int) := by omega
    have HK := Lib.hid (And.intro hsm (And.intro hcl (And.intro hcm hPk)))
    go_wp2_with fail
    go_big_quiet (fail)
    have hd4' := hd3.drewN nq
    have hT4' : Blk (w3.drewN nq) w.heap.size 26 #[.int .i64 0, .int .u64 0, .slice none 0 0, .slice none 0 0] := hT3
    generalize w3.drewN nq = w4 at hd4' hT4' ⊢
    obtain ⟨hd4, hT4⟩ := And.intro hd4' hT4'
    clear hd4' hT4' hd3 hT3 a0 a1 E0 z0 z0b
    have HCELL : ∀ j (hj : j < l.length), w4.cell? ⟨b, off + j, none⟩ = some (byteV l[j]) := fun j hj => hd4.psr.holds.cell (HCELL0 j hj)
    by_cases hcp : c = P
    · have hcp' : P = c := hcp.symm
      subst hcp'
      clear hcp
      have hd4d : Rdg 109 w H w4.drew H g (some ⟨b, off, none⟩) P l P (cnt + 1) := hd4.drewN 1
      have hT4d : Blk w4.drew w.heap.size 26 #[.int .i64 0, .int .u64 0, .slice none 0 0, .slice none 0 0] := hT4
      have CL := Lib.hid (bytes_Clone w4.drew (some ⟨b, off, none⟩) s n 0 HSN.out (by have := HSN.out; omega) (by have hz : s = [] := List.eq_nil_of_length_eq_zero (by have := HSN.out; omega); rw [hz]; exact Src.nil _ _))
      have a0 := hd4.psr.blk.cell 0 rfl
      have a1 := hd4.psr.blk.cell 1 rfl
      clear hd4 hT4
      go_upto_region 16 with fail
      refine wp_region_ways 17 (fun w' => w'.cell? ⟨g, 0, none⟩ = some (.slice (some ⟨b, off, none⟩) l.length P) ∧ w'.cell? ⟨g, 1, none⟩ = some (.int .i64 (P : Int))) (by kernel_rfl) (⟨a0, a1⟩) (fun hHeld => ?_)
      refine Ways.take (i := 0) (v := ?_) rfl (by kernel_rfl) (fun _ _ _ h => h) (Or.inl ⟨by rfl, ?_⟩) hHeld ?_
      rotate_left
      · (intro w hSw; (try dsimp only at hSw); go_simp; try with_reducible rfl)
      try simp only [Act.put, List.getElem_toArray, List.getElem_cons_zero, List.getElem_cons_succ, List.setIfInBounds_toArray, List.set_cons_zero, List.set_cons_succ]
      refine Ways.take (i := 1) (v := ?_) rfl (by kernel_rfl) (fun _ _ _ h => h) (Or.inl ⟨by rfl, ?_⟩) hHeld ?_
      rotate_left
      · (intro w hSw; (try dsimp only at hSw); go_simp; try with_reducible rfl)
      try simp only [Act.put, List.getElem_toArray, List.getElem_cons_zero, List.getElem_cons_succ, List.setIfInBounds_toArray, List.set_cons_zero, List.set_cons_succ]
      refine Ways.take (i := 2) (v := ?_) rfl (by kernel_rfl) (fun _ _ _ h => h) (Or.inl ⟨by rfl, ?_⟩) hHeld ?_
      rotate_left
      · (intro w hSw; (try dsimp only at hSw); go_simp; try with_reducible rfl)
      try simp only [Act.put, List.getElem_toArray, List.getElem_cons_zero, List.getElem_cons_succ, List.setIfInBounds_toArray, List.set_cons_zero, List.set_cons_succ]
      refine Ways.take (i := 3) (v := ?_) rfl (by kernel_rfl) (fun _ _ _ h => h) (Or.inl ⟨by rfl, ?_⟩) hHeld ?_
      rotate_left
      · (intro w hSw; (try dsimp only at hSw); go_simp; try with_reducible rfl)
      try simp only [Act.put, List.getElem_toArray, List.getElem_cons_zero, List.getElem_cons_succ, List.setIfInBounds_toArray, List.set_cons_zero, List.set_cons_succ]
      refine Ways.take (i := 4) (v := ?_) rfl (by kernel_rfl) (fun _ _ _ h => h) (Or.inl ⟨by rfl, ?_⟩) hHeld ?_
      rotate_left
      · (intro w hSw; (try dsimp only at hSw); go_simp; try with_reducible rfl)
      try simp only [Act.put, List.getElem_toArray, List.getElem_cons_zero, List.getElem_cons_succ, List.setIfInBounds_toArray, List.set_cons_zero, List.set_cons_succ]
      refine Ways.take (i := 5) (v := ?_) rfl (by kernel_rfl) (fun _ _ _ h => h) (Or.inl ⟨by rfl, ?_⟩) hHeld ?_
      rotate_left
      · (intro w hSw; (try dsimp only at hSw); go_simp; try with_reducible rfl)
      try simp only [Act.put, List.getElem_toArray, List.getElem_cons_zero, List.getElem_cons_succ, List.setIfInBounds_toArray, List.set_cons_zero, List.set_cons_succ]
      refine Ways.take (i := 6) (v := ?_) rfl (by kernel_rfl) (fun _ _ _ h => h) (Or.inl ⟨by rfl, ?_⟩) hHeld ?_
      rotate_left
      · (intro w hSw; (try dsimp only at hSw); go_simp; try with_reducible rfl)
      try simp only [Act.put, List.getElem_toArray, List.getElem_cons_zero, List.getElem_cons_succ, List.setIfInBounds_toArray, List.set_cons_zero, List.set_cons_succ]
      refine Ways.take (i := 7) (v := ?_) rfl (by kernel_rfl) (fun _ _ _ h => h) (Or.inl ⟨by rfl, ?_⟩) hHeld ?_
      rotate_left
      · (intro w hSw; (try dsimp only at hSw); go_simp; try with_reducible rfl)
      try simp only [Act.put, List.getElem_toArray, List.getElem_cons_zero, List.getElem_cons_succ, List.setIfInBounds_toArray, List.set_cons_zero, List.set_cons_succ]
      refine Ways.take (i := 8) (v := ?_) rfl (by kernel_rfl) (fun _ _ _ h => h) (Or.inl ⟨by rfl, ?_⟩) hHeld ?_
      rotate_left
      · (intro w hSw; (try dsimp only at hSw); go_simp; try with_reducible rfl)
      try simp only [Act.put, List.getElem_toArray, List.getElem_cons_zero, List.getElem_cons_succ, List.setIfInBounds_toArray, List.set_cons_zero, List.set_cons_succ]
      refine Ways.take (i := 9) (v := ?_) rfl (by kernel_rfl) (fun _ _ _ h => h) (Or.inl ⟨by rfl, ?_⟩) hHeld ?_
      rotate_left
      · (intro w hSw; (try dsimp only at hSw); go_simp; try with_reducible rfl)
      try simp only [Act.put, List.getElem_toArray, List.getElem_cons_zero, List.getElem_cons_succ, List.setIfInBounds_toArray, List.set_cons_zero, List.set_cons_succ]
      refine Ways.take (i := 10) (v := ?_) rfl (by kernel_rfl) (fun _ _ _ h => h) (Or.inl ⟨by rfl, ?_⟩) hHeld ?_
      rotate_left
      · (intro w hSw; (try dsimp only at hSw); go_simp; try with_reducible rfl)
      try simp only [Act.put, List.getElem_toArray, List.getElem_cons_zero, List.getElem_cons_succ, List.setIfInBounds_toArray, List.set_cons_zero, List.set_cons_succ]
      refine Ways.take (i := 11) (v := ?_) rfl (by kernel_rfl) (fun _ _ _ h => h) (Or.inl ⟨by rfl, ?_⟩) hHeld ?_
      rotate_left
      · (intro w hSw; (try dsimp only at hSw); go_simp; try with_reducible rfl)
      try simp only [Act.put, List.getElem_toArray, List.getElem_cons_zero, List.getElem_cons_succ, List.setIfInBounds_toArray, List.set_cons_zero, List.set_cons_succ]
      refine Ways.take (i := 12) (v := ?_) rfl (by kernel_rfl) (fun _ _ _ h => h) (Or.inl ⟨by rfl, ?_⟩) hHeld ?_
      rotate_left
      · (intro w hSw; (try dsimp only at hSw); go_simp; try with_reducible rfl)
      try simp only [Act.put, List.getElem_toArray, List.getElem_cons_zero, List.getElem_cons_succ, List.setIfInBounds_toArray, List.set_cons_zero, List.set_cons_succ]
      refine Ways.take (i := 13) (v := ?_) rfl (by kernel_rfl) (fun _ _ _ h => h) (Or.inl ⟨by rfl, ?_⟩) hHeld ?_
      rotate_left
      · (intro w hSw; (try dsimp only at hSw); go_simp; try with_reducible rfl)
      try simp only [Act.put, List.getElem_toArray, List.getElem_cons_zero, List.getElem_cons_succ, List.setIfInBounds_toArray, List.set_cons_zero, List.set_cons_succ]
      refine Ways.take (i := 14) (v := ?_) rfl (by kernel_rfl) (fun _ _ _ h => h) (Or.inl ⟨by rfl, ?_⟩) hHeld ?_
      rotate_left
      · (intro w hSw; (try dsimp only at hSw); go_simp; try with_reducible rfl)
      try simp only [Act.put, List.getElem_toArray, List.getElem_cons_zero, List.getElem_cons_succ, List.setIfInBounds_toArray, List.set_cons_zero, List.set_cons_succ]
      refine Ways.take (i := 15) (v := ?_) rfl (by kernel_rfl) (fun _ _ _ h => h) (Or.inl ⟨by rfl, ?_⟩) hHeld ?_
      rotate_left
      · (intro w hSw; (try dsimp only at hSw); go_simp; try with_reducible rfl)
      try simp only [Act.put, List.getElem_toArray, List.getElem_cons_zero, List.getElem_cons_succ, List.setIfInBounds_toArray, List.set_cons_zero, List.set_cons_succ]
      refine Ways.one (i := 16) rfl (by kernel_rfl) (fun K hK => ?_)
      go_simp
      refine CL.out.mono ?_
      rintro e w5 ⟨r5, rfl, hf5⟩
      obtain ⟨RA, rc, rfl, _⟩ := hf5.own.form
      have hd5 := hd4d.below_ hf5.2
      refine hK.out _ _ (fun _ => ?_) (fun hHeld => ?_)
      · exact ⟨hd5.psr.blk.cell 0 rfl, hd5.psr.blk.cell 1 rfl⟩
      clear hK K
      have hHeld := hHeld (by decide)
      try simp only [Act.put, List.getElem_toArray, List.getElem_cons_zero, List.getElem_cons_succ, List.setIfInBounds_toArray, List.set_cons_zero, List.set_cons_succ]
      refine Ways.one (i := 17) rfl (by kernel_rfl) (fun K hK => ?_)
      go_simp
      refine hK.out _ _ (fun h => absurd rfl h) (fun _ => ?_)
      clear hK K
      try simp only [Act.put, List.getElem_toArray, List.getElem_cons_zero, List.getElem_cons_succ, List.setIfInBounds_toArray, List.set_cons_zero, List.set_cons_succ]
      refine Ways.done (by kernel_rfl) ?_
      clear hHeld CL a0 a1
      have hT5 := hT4d.below hf5.2
      obtain ⟨H6, hG6, hi6, _⟩ := Fresh.snapB hd4d.psr.holds hf5
      have hd6 := hd4d.grown hG6
      have hn6 := hG6.none hn0 hT4d.lt
      clear hd5 hf5 hd4d hT4d
      have a1 := hd6.psr.blk.cell 1 rfl
      go_wp2_with (with_reducible refine stop_store ?_)
      unfold Stopped
      refine wpList_store_cell rfl _ _ _ rfl rfl g 1 (.int .i64 ((P : Int) + (n : Int))) rfl rfl _ _ hd6.psr.blk size_int1 (by simp) rfl fun w7 hB7 hG7 => ?_
      have hd7 : Rdg 109 w H w7 H6 g (some ⟨b, off, none⟩) P l (P + n) (cnt + 1) := hd6.step hG7 hB7 (by omega) (by have := HC.out; omega)
      have hT7 := hT5.grown hG7 (by intro e; injection e with e; omega)
      have hn7 := hn6
      clear hd6 hT5 hB7 hG7 a1
      have E : Hid (parse d (l.drop p) cnt = .ok (.mk 2 0 s []) (k + n) (cnt + 1)) := by rw [Hid, E1.out, if_neg (fun h => absurd h.1 (by omega))]
      have IB := hi6
      clear E1
      go_wp2_with (with_reducible refine stop_store ?_)
      unfold Stopped
      refine wpList_store_item rfl _ _ _ rfl rfl _ _ rfl rfl _ _ hT7 size_item rfl (one4 _ _ _ _ rfl rfl rfl rfl) fun wz hTy hgz => ?_
      have hdz := hd7.grownRow (row := some w.heap.size) (by rintro q ⟨⟩; exact hn7) (by rintro q ⟨⟩; exact Nat.le_refl _) hgl hgz
      go_wp2_with fail
      refine ret_row_tmp rfl rfl hTy rfl rfl size_item rfl ?_
      exact ItemOut.ok E.out rfl (by rw [← Nat.add_assoc, HK.out.2.2.2]; exact hdz) (IsItem.str 2 (by omega) IB)
    · have hcpF : (c = P) = False := eq_false hcp
      have hd4d : Rdg 109 w H w4.drew H g (some ⟨b, off, none⟩) c l P (cnt + 1) := hd4.drewN 1
      have hT4d : Blk w4.drew w.heap.size 26 #[.int .i64 0, .int .u64 0, .slice none 0 0, .slice none 0 0] := hT4
      have CL := Lib.hid (bytes_Clone w4.drew (some ⟨b, off + P, none⟩) s n (c - P) HSN.out (by have := HSN.out; omega) ((by have hq := src_sub (w := w4.drew) (n := n) HCELL P (some ⟨b, off + P, none⟩) (fun _ => rfl) (by omega); rw [hss] at hq; exact hq)))
      have a0 := hd4.psr.blk.cell 0 rfl
      have a1 := hd4.psr.blk.cell 1 rfl
      clear hd4 hT4
      go_upto_region 16 with fail
      refine wp_region_ways 17 (fun w' => w'.cell? ⟨g, 0, none⟩ = some (.slice (some ⟨b, off, none⟩) l.length c) ∧ w'.cell? ⟨g, 1, none⟩ = some (.int .i64 (P : Int))) (by kernel_rfl) (⟨a0, a1⟩) (fun hHeld => ?_)
      refine Ways.take (i := 0) (v := ?_) rfl (by kernel_rfl) (fun _ _ _ h => h) (Or.inl ⟨by rfl, ?_⟩) hHeld ?_
      rotate_left
      · (intro w hSw; (try dsimp only at hSw); go_simp; try with_reducible rfl)
      try simp only [Act.put, List.getElem_toArray, List.getElem_cons_zero, List.getElem_cons_succ, List.setIfInBounds_toArray, List.set_cons_zero, List.set_cons_succ]
      refine Ways.take (i := 1) (v := ?_) rfl (by kernel_rfl) (fun _ _ _ h => h) (Or.inl ⟨by rfl, ?_⟩) hHeld ?_
      rotate_left
      · (intro w hSw; (try dsimp only at hSw); go_simp; try with_reducible rfl)
      try simp only [Act.put, List.getElem_toArray, List.getElem_cons_zero, List.getElem_cons_succ, List.setIfInBounds_toArray, List.set_cons_zero, List.set_cons_succ]
      refine Ways.take (i := 2) (v := ?_) rfl (by kernel_rfl) (fun _ _ _ h => h) (Or.inl ⟨by rfl, ?_⟩) hHeld ?_
      rotate_left
      · (intro w hSw; (try dsimp only at hSw); go_simp; try with_reducible rfl)
      try simp only [Act.put, List.getElem_toArray, List.getElem_cons_zero, List.getElem_cons_succ, List.setIfInBounds_toArray, List.set_cons_zero, List.set_cons_succ]
      refine Ways.take (i := 3) (v := ?_) rfl (by kernel_rfl) (fun _ _ _ h => h) (Or.inl ⟨by rfl, ?_⟩) hHeld ?_
      rotate_left
      · (intro w hSw; (try dsimp only at hSw); go_simp; try with_reducible rfl)
      try simp only [Act.put, List.getElem_toArray, List.getElem_cons_zero, List.getElem_cons_succ, List.setIfInBounds_toArray, List.set_cons_zero, List.set_cons_succ]
      refine Ways.take (i := 4) (v := ?_) rfl (by kernel_rfl) (fun _ _ _ h => h) (Or.inl ⟨by rfl, ?_⟩) hHeld ?_
      rotate_left
      · (intro w hSw; (try dsimp only at hSw); go_simp; try with_reducible rfl)
      try simp only [Act.put, List.getElem_toArray, List.getElem_cons_zero, List.getElem_cons_succ, List.setIfInBounds_toArray, List.set_cons_zero, List.set_cons_succ]
      refine Ways.take (i := 5) (v := ?_) rfl (by kernel_rfl) (fun _ _ _ h => h) (Or.inl ⟨by rfl, ?_⟩) hHeld ?_
      rotate_left
      · (intro w hSw; (try dsimp only at hSw); go_simp; try with_reducible rfl)
      try simp only [Act.put, List.getElem_toArray, List.getElem_cons_zero, List.getElem_cons_succ, List.setIfInBounds_toArray, List.set_cons_zero, List.set_cons_succ]
      refine Ways.take (i := 6) (v := ?_) rfl (by kernel_rfl) (fun _ _ _ h => h) (Or.inl ⟨by rfl, ?_⟩) hHeld ?_
      rotate_left
      · (intro w hSw; (try dsimp only at hSw); go_simp; try with_reducible rfl)
      try simp only [Act.put, List.getElem_toArray, List.getElem_cons_zero, List.getElem_cons_succ, List.setIfInBounds_toArray, List.set_cons_zero, List.set_cons_succ]
      refine Ways.take (i := 7) (v := ?_) rfl (by kernel_rfl) (fun _ _ _ h => h) (Or.inl ⟨by rfl, ?_⟩) hHeld ?_
      rotate_left
      · (intro w hSw; (try dsimp only at hSw); go_simp; try with_reducible rfl)
      try simp only [Act.put, List.getElem_toArray, List.getElem_cons_zero, List.getElem_cons_succ, List.setIfInBounds_toArray, List.set_cons_zero, List.set_cons_succ]
      refine Ways.take (i := 8) (v := ?_) rfl (by kernel_rfl) (fun _ _ _ h => h) (Or.inl ⟨by rfl, ?_⟩) hHeld ?_
      rotate_left
      · (intro w hSw; (try dsimp only at hSw); go_simp; try with_reducible rfl)
      try simp only [Act.put, List.getElem_toArray, List.getElem_cons_zero, List.getElem_cons_succ, List.setIfInBounds_toArray, List.set_cons_zero, List.set_cons_succ]
      refine Ways.take (i := 9) (v := ?_) rfl (by kernel_rfl) (fun _ _ _ h => h) (Or.inl ⟨by rfl, ?_⟩) hHeld ?_
      rotate_left
      · (intro w hSw; (try dsimp only at hSw); go_simp; try with_reducible rfl)
      try simp only [Act.put, List.getElem_toArray, List.getElem_cons_zero, List.getElem_cons_succ, List.setIfInBounds_toArray, List.set_cons_zero, List.set_cons_succ]
      refine Ways.take (i := 10) (v := ?_) rfl (by kernel_rfl) (fun _ _ _ h => h) (Or.inl ⟨by rfl, ?_⟩) hHeld ?_
      rotate_left
      · (intro w hSw; (try dsimp only at hSw); go_simp; try with_reducible rfl)
      try simp only [Act.put, List.getElem_toArray, List.getElem_cons_zero, List.getElem_cons_succ, List.setIfInBounds_toArray, List.set_cons_zero, List.set_cons_succ]
      refine Ways.take (i := 11) (v := ?_) rfl (by kernel_rfl) (fun _ _ _ h => h) (Or.inl ⟨by rfl, ?_⟩) hHeld ?_
      rotate_left
      · (intro w hSw; (try dsimp only at hSw); go_simp; try with_reducible rfl)
      try simp only [Act.put, List.getElem_toArray, List.getElem_cons_zero, List.getElem_cons_succ, List.setIfInBounds_toArray, List.set_cons_zero, List.set_cons_succ]
      refine Ways.take (i := 12) (v := ?_) rfl (by kernel_rfl) (fun _ _ _ h => h) (Or.inl ⟨by rfl, ?_⟩) hHeld ?_
      rotate_left
      · (intro w hSw; (try dsimp only at hSw); go_simp; try with_reducible rfl)
      try simp only [Act.put, List.getElem_toArray, List.getElem_cons_zero, List.getElem_cons_succ, List.setIfInBounds_toArray, List.set_cons_zero, List.set_cons_succ]
      refine Ways.take (i := 13) (v := ?_) rfl (by kernel_rfl) (fun _ _ _ h => h) (Or.inl ⟨by rfl, ?_⟩) hHeld ?_
      rotate_left
      · (intro w hSw; (try dsimp only at hSw); go_simp; try with_reducible rfl)
      try simp only [Act.put, List.getElem_toArray, List.getElem_cons_zero, List.getElem_cons_succ, List.setIfInBounds_toArray, List.set_cons_zero, List.set_cons_succ]
      refine Ways.take (i := 14) (v := ?_) rfl (by kernel_rfl) (fun _ _ _ h => h) (Or.inl ⟨by rfl, ?_⟩) hHeld ?_
      rotate_left
      · (intro w hSw; (try dsimp only at hSw); go_simp; try with_reducible rfl)
      try simp only [Act.put, List.getElem_toArray, List.getElem_cons_zero, List.getElem_cons_succ, List.setIfInBounds_toArray, List.set_cons_zero, List.set_cons_succ]
      refine Ways.take (i := 15) (v := ?_) rfl (by kernel_rfl) (fun _ _ _ h => h) (Or.inl ⟨by rfl, ?_⟩) hHeld ?_
      rotate_left
      · (intro w hSw; (try dsimp only at hSw); go_simp; try with_reducible rfl)
      try simp only [Act.put, List.getElem_toArray, List.getElem_cons_zero, List.getElem_cons_succ, List.setIfInBounds_toArray, List.set_cons_zero, List.set_cons_succ]
      refine Ways.one (i := 16) rfl (by kernel_rfl) (fun K hK => ?_)
      go_simp
      refine CL.out.mono ?_
      rintro e w5 ⟨r5, rfl, hf5⟩
      obtain ⟨RA, rc, rfl, _⟩ := hf5.own.form
      have hd5 := hd4d.below_ hf5.2
      refine hK.out _ _ (fun _ => ?_) (fun hHeld => ?_)
      · exact ⟨hd5.psr.blk.cell 0 rfl, hd5.psr.blk.cell 1 rfl⟩
      clear hK K
      have hHeld := hHeld (by decide)
      try simp only [Act.put, List.getElem_toArray, List.getElem_cons_zero, List.getElem_cons_succ, List.setIfInBounds_toArray, List.set_cons_zero, List.set_cons_succ]
      refine Ways.one (i := 17) rfl (by kernel_rfl) (fun K hK => ?_)
      go_simp
      refine hK.out _ _ (fun h => absurd rfl h) (fun _ => ?_)
      clear hK K
      try simp only [Act.put, List.getElem_toArray, List.getElem_cons_zero, List.getElem_cons_succ, List.setIfInBounds_toArray, List.set_cons_zero, List.set_cons_succ]
      refine Ways.done (by kernel_rfl) ?_
      clear hHeld CL a0 a1
      have hT5 := hT4d.below hf5.2
      obtain ⟨H6, hG6, hi6, _⟩ := Fresh.snapB hd4d.psr.holds hf5
      have hd6 := hd4d.grown hG6
      have hn6 := hG6.none hn0 hT4d.lt
      clear hd5 hf5 hd4d hT4d
      have a1 := hd6.psr.blk.cell 1 rfl
      go_wp2_with (with_reducible refine stop_store ?_)
      unfold Stopped
      refine wpList_store_cell rfl _ _ _ rfl rfl g 1 (.int .i64 ((P : Int) + (n : Int))) rfl rfl _ _ hd6.psr.blk size_int1 (by simp) rfl fun w7 hB7 hG7 => ?_
      have hd7 : Rdg 109 w H w7 H6 g (some ⟨b, off, none⟩) c l (P + n) (cnt + 1) := hd6.step hG7 hB7 (by omega) (by have := HC.out; omega)
      have hT7 := hT5.grown hG7 (by intro e; injection e with e; omega)
      have hn7 := hn6
      clear hd6 hT5 hB7 hG7 a1
      have E : Hid (parse d (l.drop p) cnt = .ok (.mk 2 0 s []) (k + n) (cnt + 1)) := by rw [Hid, E1.out, if_neg (fun h => absurd h.1 (by omega))]
      have IB := hi6
      clear E1
      go_wp2_with (with_reducible refine stop_store ?_)
      unfold Stopped
      refine wpList_store_item rfl _ _ _ rfl rfl _ _ rfl rfl _ _ hT7 size_item rfl (one4 _ _ _ _ rfl rfl rfl rfl) fun wz hTy hgz => ?_
      have hdz := hd7.grownRow (row := some w.heap.size) (by rintro q ⟨⟩; exact hn7) (by rintro q ⟨⟩; exact Nat.le_refl _) hgl hgz
      go_wp2_with fail
      refine ret_row_tmp rfl rfl hTy rfl rfl size_item rfl ?_
      exact ItemOut.ok E.out rfl (by rw [← Nat.add_assoc, HK.out.2.2.2]; exact hdz) (IsItem.str 2 (by omega) IB)
set_option maxRecDepth 100000 in
set_option maxHeartbeats 6400000 in
theorem p_item_3 (hTab : Tabs H) (hlv : lv + d = 8) (hP : Psr 109 w g H A c l p cnt) (hc : cnt < 256) {f n k : Nat} (hh : headP (l.drop p) = .ok (f, n, k)) (hk : f / 32 = 3) : Calls Tryz.prog 79 #[.pointer (some ⟨g, 0, none⟩), .int .i64 (lv : Int)] w (ItemOut 109 w H g A c l p (parse d (l.drop p) cnt)) := by
  have hgl := hP.gt
  have hd0 := (Rdg.refl hP).alloc zeroO
  have hT0 := Blk.new w 26 #[.int .i64 0, .int .u64 0, .slice none 0 0, .slice none 0 0]
  have hn0 : H w.heap.size = none := hP.holds.none_of_ge (Nat.le_refl _)
  have c2 := hd0.psr.blk.cell 2 rfl

  have E0 : Hid (parse d (l.drop p) cnt = (if (l.drop p).length < k + n then .err 2 else if 3 = 3 ∧ Lib.validD (((l.drop p).drop k).take n) = false then .err 5 else .ok (.mk 3 0 (((l.drop p).drop k).take n) []) (k + n) (cnt + 1))) := by
    rw [Hid, parse_str d (l.drop p) cnt (by omega) hh (by omega) (by omega), hk]; first | rfl | (simp only [true_and]; first | done | rfl) | simp
  have S : (f : Int) / 32 = 3 := by omega
  have hc256 : ((cnt : Int) == 256) = false := by simp; omega
  have hc256' : ((cnt : Int) = 256) = False := eq_false (by omega)
  have KC : IntKind.i64.wrap ((cnt : Int) + 1) = (cnt : Int) + 1 := IntWalk.i64_in _ (by omega)
  have HC := Lib.hid hc
  clear hc
  go_enter Tryz.func79, Tryz.ntmps79
  go_wp2_with (with_reducible refine stop_store ?_)
  unfold Stopped
  refine wpList_store_cell rfl _ _ _ rfl rfl g 2 (.int .i64 ((cnt : Int) + 1)) rfl rfl _ _ hd0.psr.blk size_int1 (by simp) rfl fun w2 hB2 hG2 => ?_
  have hd2 : Rdg 109 w H w2 H g A c l p (cnt + 1) := hd0.step hG2 hB2 hP.le (by have := HC.out; omega)
  have hT2 := hT0.grown hG2 (by intro e; injection e with e; omega)
  have PH := Lib.hid (p_head hd2.psr)
  clear hd0 hT0 hB2 hG2 c2 KC hc256 hc256'
  go_wp2_with fail
  refine PH.out.mono ?_
  intro e w3 hs
  rw [HeadSaid, hh] at hs

  obtain ⟨rfl, hB3, hG3⟩ := hs
  have HS := headP_spec hh
  have hle3 : p + k ≤ l.length := by have := HS.le; rw [List.length_drop] at this; have := hP.le; omega
  have hd3 : Rdg 109 w H w3 H g A c l (p + k) (cnt + 1) := hd2.step hG3 hB3 hle3 (by have := HC.out; omega)
  have hT3 := hT2.grown hG3 (by intro e; injection e with e; omega)
  have HF := Lib.hid HS
  clear hd2 hT2 hB3 hG3 PH HS hh

  have hpos := HF.out.pos
  obtain ⟨b, off, rfl, HCELL0⟩ := hd3.psr.bytes.at_ (by omega)
  have hsm := hd3.psr.small
  have hcl := hd3.psr.bytes.le
  have hcm := hd3.psr.bytes.max
  have hnl := HF.out.n_lt
  have hdl : (l.drop p).length = l.length - p := List.length_drop
  obtain ⟨P, hPk⟩ : ∃ P, p + k = P := ⟨_, rfl⟩
  obtain ⟨s, hss⟩ : ∃ s, ((l.drop p).drop k).take n = s := ⟨_, rfl⟩
  rw [hss] at E0
  rw [List.drop_drop, hPk] at hss
  rw [hPk] at hd3 hle3
  have K1 : IntKind.i64.wrap ((l.length : Int) - (P : Int)) = (l.length : Int) - (P : Int) := IntWalk.i64_in _ (by omega)
  have K2 : IntKind.u64.wrap ((l.length : Int) - (P : Int)) = (l.length : Int) - (P : Int) := by rw [IntKind.wrap_u64]; omega
  have a0 := hd3.psr.blk.cell 0 rfl
  have a1 := hd3.psr.blk.cell 1 rfl
  have hPl : (P : Int) ≤ (l.length : Int) := by omega
  have hll : (l.length : Int) ≤ 4096 := by omega
  by_cases hlt : l.length < P + n
  · have z0 : (l.length : Int) - (P : Int) < (n : Int) := by omega
    have E : Hid (parse d (l.drop p) cnt = .err 2) := by rw [Hid, E0.out, if_pos (by omega)]
    clear hsm hcl hcm hnl hdl hPk hss E0 hlt HCELL0
    go_wp2_with fail
    go_big_quiet (fail)
    have hd4 := hd3.drewN nq
    have hT4 : Blk (w3.drewN nq) w.heap.size 26 #[.int .i64 0, .int .u64 0, .slice none 0 0, .slice none 0 0] := hT3
    go_wp2_with (with_reducible refine stop_store ?_)
    unfold Stopped
    refine wpList_store_item rfl _ _ _ rfl rfl _ _ rfl rfl _ _ hT4 size_item rfl (one4 _ _ _ _ rfl rfl rfl rfl) fun wz hTy hgz => ?_
    have hdz := hd4.grownRow (row := some w.heap.size) (by rintro q ⟨⟩; exact hn0) (by rintro q ⟨⟩; exact Nat.le_refl _) hgl hgz
    go_wp2_with fail
    refine ret_row_tmp rfl rfl hTy rfl rfl size_item rfl ?_

    exact ItemOut.err E.out rfl hdz
  · have z0 : ¬ ((l.length : Int) - (P : Int) < (n : Int)) := by omega
    have z0b : decide ((l.length : Int) - (P : Int) < (n : Int)) = false := decide_eq_false z0
    have E1 : Hid (parse d (l.drop p) cnt = (if 3 = 3 ∧ Lib.validD s = false then .err 5 else .ok (.mk 3 0 s []) (k + n) (cnt + 1))) := by rw [Hid, E0.out, if_neg (by omega)]; try simp
    have hsn : n = s.length := by rw [← hss, List.length_take, List.length_drop]; omega
    have HSN := Lib.hid hsn
    clear hsn
    have KN : IntKind.i64.wrap (n : Int) = (n : Int) := IntWalk.i64_in _ (by omega)
    have KP : IntKind.i64.wrap ((P : Int) + (n : Int)) = (P : Int) + (n : Int) := IntWalk.i64_in _ (by omega)
    have kt : ((P : Int) + (n : Int)).toNat = P + n := by omega
    have y0 : (0 : Int) ≤ (P : Int) + (n : Int) := by omega
    have y5 : P ≤ P + n := by omega
    have y6 : P + n - P = n := by omega
    have y1 : (P : Int) ≤ (P : Int) + (n : Int) := by omega
    have y2 : (P : Int) + (n : Int) ≤ (c : Int) := by omega
    have y3 : (P : Int) ≤ (c : Int) := by omega
    have y4 : (0 : Int) ≤ (P : Int) := by omega
    have HK := Lib.hid (And.intro hsm (And.intro hcl (And.intro hcm hPk)))
    go_wp2_with fail
    go_big_quiet (fail)
    have hd4' := hd3.drewN nq
    have hT4' : Blk (w3.drewN nq) w.heap.size 26 #[.int .i64 0, .int .u64 0, .slice none 0 0, .slice none 0 0] := hT3
    generalize w3.drewN nq = w4 at hd4' hT4' ⊢
    obtain ⟨hd4, hT4⟩ := And.intro hd4' hT4'
    clear hd4' hT4' hd3 hT3 a0 a1 E0 z0 z0b
    have HCELL : ∀ j (hj : j < l.length), w4.cell? ⟨b, off + j, none⟩ = some (byteV l[j]) := fun j hj => hd4.psr.holds.cell (HCELL0 j hj)
    by_cases hcp : c = P
    · have hcp' : P = c := hcp.symm
      subst hcp'
      clear hcp
      have hd4d : Rdg 109 w H w4.drew H g (some ⟨b, off, none⟩) P l P (cnt + 1) := hd4.drewN 1
      have hT4d : Blk w4.drew w.heap.size 26 #[.int .i64 0, .int .u64 0, .slice none 0 0, .slice none 0 0] := hT4
      have CL := Lib.hid (bytes_Clone w4.drew (some ⟨b, off, none⟩) s n 0 HSN.out (by have := HSN.out; omega) (by have hz : s = [] := List.eq_nil_of_length_eq_zero (by have := HSN.out; omega); rw [hz]; exact Src.nil _ _))
      have a0 := hd4.psr.blk.cell 0 rfl
      have a1 := hd4.psr.blk.cell 1 rfl
      clear hd4 hT4
      go_upto_region 16 with fail
      refine wp_region_ways 17 (fun w' => w'.cell? ⟨g, 0, none⟩ = some (.slice (some ⟨b, off, none⟩) l.length P) ∧ w'.cell? ⟨g, 1, none⟩ = some (.int .i64 (P : Int))) (by kernel_rfl) (⟨a0, a1⟩) (fun hHeld => ?_)
      refine Ways.take (i := 0) (v := ?_) rfl (by kernel_rfl) (fun _ _ _ h => h) (Or.inl ⟨by rfl, ?_⟩) hHeld ?_
      rotate_left
      · (intro w hSw; (try dsimp only at hSw); go_simp; try with_reducible rfl)
      try simp only [Act.put, List.getElem_toArray, List.getElem_cons_zero, List.getElem_cons_succ, List.setIfInBounds_toArray, List.set_cons_zero, List.set_cons_succ]
      refine Ways.take (i := 1) (v := ?_) rfl (by kernel_rfl) (fun _ _ _ h => h) (Or.inl ⟨by rfl, ?_⟩) hHeld ?_
      rotate_left
      · (intro w hSw; (try dsimp only at hSw); go_simp; try with_reducible rfl)
      try simp only [Act.put, List.getElem_toArray, List.getElem_cons_zero, List.getElem_cons_succ, List.setIfInBounds_toArray, List.set_cons_zero, List.set_cons_succ]
      refine Ways.take (i := 2) (v := ?_) rfl (by kernel_rfl) (fun _ _ _ h => h) (Or.inl ⟨by rfl, ?_⟩) hHeld ?_
      rotate_left
      · (intro w hSw; (try dsimp only at hSw); go_simp; try with_reducible rfl)
      try simp only [Act.put, List.getElem_toArray, List.getElem_cons_zero, List.getElem_cons_succ, List.setIfInBounds_toArray, List.set_cons_zero, List.set_cons_succ]
      refine Ways.take (i := 3) (v := ?_) rfl (by kernel_rfl) (fun _ _ _ h => h) (Or.inl ⟨by rfl, ?_⟩) hHeld ?_
      rotate_left
      · (intro w hSw; (try dsimp only at hSw); go_simp; try with_reducible rfl)
      try simp only [Act.put, List.getElem_toArray, List.getElem_cons_zero, List.getElem_cons_succ, List.setIfInBounds_toArray, List.set_cons_zero, List.set_cons_succ]
      refine Ways.take (i := 4) (v := ?_) rfl (by kernel_rfl) (fun _ _ _ h => h) (Or.inl ⟨by rfl, ?_⟩) hHeld ?_
      rotate_left
      · (intro w hSw; (try dsimp only at hSw); go_simp; try with_reducible rfl)
      try simp only [Act.put, List.getElem_toArray, List.getElem_cons_zero, List.getElem_cons_succ, List.setIfInBounds_toArray, List.set_cons_zero, List.set_cons_succ]
      refine Ways.take (i := 5) (v := ?_) rfl (by kernel_rfl) (fun _ _ _ h => h) (Or.inl ⟨by rfl, ?_⟩) hHeld ?_
      rotate_left
      · (intro w hSw; (try dsimp only at hSw); go_simp; try with_reducible rfl)
      try simp only [Act.put, List.getElem_toArray, List.getElem_cons_zero, List.getElem_cons_succ, List.setIfInBounds_toArray, List.set_cons_zero, List.set_cons_succ]
      refine Ways.take (i := 6) (v := ?_) rfl (by kernel_rfl) (fun _ _ _ h => h) (Or.inl ⟨by rfl, ?_⟩) hHeld ?_
      rotate_left
      · (intro w hSw; (try dsimp only at hSw); go_simp; try with_reducible rfl)
      try simp only [Act.put, List.getElem_toArray, List.getElem_cons_zero, List.getElem_cons_succ, List.setIfInBounds_toArray, List.set_cons_zero, List.set_cons_succ]
      refine Ways.take (i := 7) (v := ?_) rfl (by kernel_rfl) (fun _ _ _ h => h) (Or.inl ⟨by rfl, ?_⟩) hHeld ?_
      rotate_left
      · (intro w hSw; (try dsimp only at hSw); go_simp; try with_reducible rfl)
      try simp only [Act.put, List.getElem_toArray, List.getElem_cons_zero, List.getElem_cons_succ, List.setIfInBounds_toArray, List.set_cons_zero, List.set_cons_succ]
      refine Ways.take (i := 8) (v := ?_) rfl (by kernel_rfl) (fun _ _ _ h => h) (Or.inl ⟨by rfl, ?_⟩) hHeld ?_
      rotate_left
      · (intro w hSw; (try dsimp only at hSw); go_simp; try with_reducible rfl)
      try simp only [Act.put, List.getElem_toArray, List.getElem_cons_zero, List.getElem_cons_succ, List.setIfInBounds_toArray, List.set_cons_zero, List.set_cons_succ]
      refine Ways.take (i := 9) (v := ?_) rfl (by kernel_rfl) (fun _ _ _ h => h) (Or.inl ⟨by rfl, ?_⟩) hHeld ?_
      rotate_left
      · (intro w hSw; (try dsimp only at hSw); go_simp; try with_reducible rfl)
      try simp only [Act.put, List.getElem_toArray, List.getElem_cons_zero, List.getElem_cons_succ, List.setIfInBounds_toArray, List.set_cons_zero, List.set_cons_succ]
      refine Ways.take (i := 10) (v := ?_) rfl (by kernel_rfl) (fun _ _ _ h => h) (Or.inl ⟨by rfl, ?_⟩) hHeld ?_
      rotate_left
      · (intro w hSw; (try dsimp only at hSw); go_simp; try with_reducible rfl)
      try simp only [Act.put, List.getElem_toArray, List.getElem_cons_zero, List.getElem_cons_succ, List.setIfInBounds_toArray, List.set_cons_zero, List.set_cons_succ]
      refine Ways.take (i := 11) (v := ?_) rfl (by kernel_rfl) (fun _ _ _ h => h) (Or.inl ⟨by rfl, ?_⟩) hHeld ?_
      rotate_left
      · (intro w hSw; (try dsimp only at hSw); go_simp; try with_reducible rfl)
      try simp only [Act.put, List.getElem_toArray, List.getElem_cons_zero, List.getElem_cons_succ, List.setIfInBounds_toArray, List.set_cons_zero, List.set_cons_succ]
      refine Ways.take (i := 12) (v := ?_) rfl (by kernel_rfl) (fun _ _ _ h => h) (Or.inl ⟨by rfl, ?_⟩) hHeld ?_
      rotate_left
      · (intro w hSw; (try dsimp only at hSw); go_simp; try with_reducible rfl)
      try simp only [Act.put, List.getElem_toArray, List.getElem_cons_zero, List.getElem_cons_succ, List.setIfInBounds_toArray, List.set_cons_zero, List.set_cons_succ]
      refine Ways.take (i := 13) (v := ?_) rfl (by kernel_rfl) (fun _ _ _ h => h) (Or.inl ⟨by rfl, ?_⟩) hHeld ?_
      rotate_left
      · (intro w hSw; (try dsimp only at hSw); go_simp; try with_reducible rfl)
      try simp only [Act.put, List.getElem_toArray, List.getElem_cons_zero, List.getElem_cons_succ, List.setIfInBounds_toArray, List.set_cons_zero, List.set_cons_succ]
      refine Ways.take (i := 14) (v := ?_) rfl (by kernel_rfl) (fun _ _ _ h => h) (Or.inl ⟨by rfl, ?_⟩) hHeld ?_
      rotate_left
      · (intro w hSw; (try dsimp only at hSw); go_simp; try with_reducible rfl)
      try simp only [Act.put, List.getElem_toArray, List.getElem_cons_zero, List.getElem_cons_succ, List.setIfInBounds_toArray, List.set_cons_zero, List.set_cons_succ]
      refine Ways.take (i := 15) (v := ?_) rfl (by kernel_rfl) (fun _ _ _ h => h) (Or.inl ⟨by rfl, ?_⟩) hHeld ?_
      rotate_left
      · (intro w hSw; (try dsimp only at hSw); go_simp; try with_reducible rfl)
      try simp only [Act.put, List.getElem_toArray, List.getElem_cons_zero, List.getElem_cons_succ, List.setIfInBounds_toArray, List.set_cons_zero, List.set_cons_succ]
      refine Ways.one (i := 16) rfl (by kernel_rfl) (fun K hK => ?_)
      go_simp
      refine CL.out.mono ?_
      rintro e w5 ⟨r5, rfl, hf5⟩
      obtain ⟨RA, rc, rfl, _⟩ := hf5.own.form
      have hd5 := hd4d.below_ hf5.2
      refine hK.out _ _ (fun _ => ?_) (fun hHeld => ?_)
      · exact ⟨hd5.psr.blk.cell 0 rfl, hd5.psr.blk.cell 1 rfl⟩
      clear hK K
      have hHeld := hHeld (by decide)
      try simp only [Act.put, List.getElem_toArray, List.getElem_cons_zero, List.getElem_cons_succ, List.setIfInBounds_toArray, List.set_cons_zero, List.set_cons_succ]
      refine Ways.one (i := 17) rfl (by kernel_rfl) (fun K hK => ?_)
      go_simp
      refine hK.out _ _ (fun h => absurd rfl h) (fun _ => ?_)
      clear hK K
      try simp only [Act.put, List.getElem_toArray, List.getElem_cons_zero, List.getElem_cons_succ, List.setIfInBounds_toArray, List.set_cons_zero, List.set_cons_succ]
      refine Ways.done (by kernel_rfl) ?_
      clear hHeld CL a0 a1
      have hT5 := hT4d.below hf5.2
      obtain ⟨H6, hG6, hi6, _⟩ := Fresh.snapB hd4d.psr.holds hf5
      have hd6 := hd4d.grown hG6
      have hn6 := hG6.none hn0 hT4d.lt
      clear hd5 hf5 hd4d hT4d
      have a1 := hd6.psr.blk.cell 1 rfl
      go_wp2_with (with_reducible refine stop_store ?_)
      unfold Stopped
      refine wpList_store_cell rfl _ _ _ rfl rfl g 1 (.int .i64 ((P : Int) + (n : Int))) rfl rfl _ _ hd6.psr.blk size_int1 (by simp) rfl fun w7 hB7 hG7 => ?_
      have hd7 : Rdg 109 w H w7 H6 g (some ⟨b, off, none⟩) P l (P + n) (cnt + 1) := hd6.step hG7 hB7 (by omega) (by have := HC.out; omega)
      have hT7 := hT5.grown hG7 (by intro e; injection e with e; omega)
      have hn7 := hn6
      clear hd6 hT5 hB7 hG7 a1
      have IB := hi6
      have UV := Lib.hid (utf8_Valid (hTab.mono hG6.le) w7 hd7.psr.holds RA s s.length rc rfl hi6)
      cases hv : Lib.validD s with
      | false =>
        rw [hv] at UV
        have E : Hid (parse d (l.drop p) cnt = .err 5) := by rw [Hid, E1.out, if_pos (by first | exact ⟨rfl, hv⟩ | exact ⟨trivial, hv⟩)]
        clear hv E1
        go_wp2_with fail
        refine UV.out.mono ?_
        rintro e w8 ⟨rfl, hb8⟩
        have hd8 := hd7.below_ hb8
        have hT8 := hT7.below hb8
        clear UV hd7 hT7
        go_wp2_with (with_reducible refine stop_store ?_)
        unfold Stopped
        refine wpList_store_item rfl _ _ _ rfl rfl _ _ rfl rfl _ _ hT8 size_item rfl (one4 _ _ _ _ rfl rfl rfl rfl) fun wz hTy hgz => ?_
        have hdz := hd8.grownRow (row := some w.heap.size) (by rintro q ⟨⟩; exact hn7) (by rintro q ⟨⟩; exact Nat.le_refl _) hgl hgz
        go_wp2_with fail
        refine ret_row_tmp rfl rfl hTy rfl rfl size_item rfl ?_

        exact ItemOut.err E.out rfl hdz
      | true =>
        rw [hv] at UV
        have E : Hid (parse d (l.drop p) cnt = .ok (.mk 3 0 s []) (k + n) (cnt + 1)) := by rw [Hid, E1.out, if_neg (fun h => by rw [hv] at h; cases h.2)]
        clear hv E1
        go_wp2_with fail
        refine UV.out.mono ?_
        rintro e w8 ⟨rfl, hb8⟩
        have hd8 := hd7.below_ hb8
        have hT8 := hT7.below hb8
        clear UV hd7 hT7
        go_wp2_with (with_reducible refine stop_store ?_)
        unfold Stopped
        refine wpList_store_item rfl _ _ _ rfl rfl _ _ rfl rfl _ _ hT8 size_item rfl (one4 _ _ _ _ rfl rfl rfl rfl) fun wz hTy hgz => ?_
        have hdz := hd8.grownRow (row := some w.heap.size) (by rintro q ⟨⟩; exact hn7) (by rintro q ⟨⟩; exact Nat.le_refl _) hgl hgz
        go_wp2_with fail
        refine ret_row_tmp rfl rfl hTy rfl rfl size_item rfl ?_

        exact ItemOut.ok E.out rfl (by rw [← Nat.add_assoc, HK.out.2.2.2]; exact hdz) (IsItem.str 3 (by omega) IB)
    · have hcpF : (c = P) = False := eq_false hcp
      have hd4d : Rdg 109 w H w4.drew H g (some ⟨b, off, none⟩) c l P (cnt + 1) := hd4.drewN 1
      have hT4d : Blk w4.drew w.heap.size 26 #[.int .i64 0, .int .u64 0, .slice none 0 0, .slice none 0 0] := hT4
      have CL := Lib.hid (bytes_Clone w4.drew (some ⟨b, off + P, none⟩) s n (c - P) HSN.out (by have := HSN.out; omega) ((by have hq := src_sub (w := w4.drew) (n := n) HCELL P (some ⟨b, off + P, none⟩) (fun _ => rfl) (by omega); rw [hss] at hq; exact hq)))
      have a0 := hd4.psr.blk.cell 0 rfl
      have a1 := hd4.psr.blk.cell 1 rfl
      clear hd4 hT4
      go_upto_region 16 with fail
      refine wp_region_ways 17 (fun w' => w'.cell? ⟨g, 0, none⟩ = some (.slice (some ⟨b, off, none⟩) l.length c) ∧ w'.cell? ⟨g, 1, none⟩ = some (.int .i64 (P : Int))) (by kernel_rfl) (⟨a0, a1⟩) (fun hHeld => ?_)
      refine Ways.take (i := 0) (v := ?_) rfl (by kernel_rfl) (fun _ _ _ h => h) (Or.inl ⟨by rfl, ?_⟩) hHeld ?_
      rotate_left
      · (intro w hSw; (try dsimp only at hSw); go_simp; try with_reducible rfl)
      try simp only [Act.put, List.getElem_toArray, List.getElem_cons_zero, List.getElem_cons_succ, List.setIfInBounds_toArray, List.set_cons_zero, List.set_cons_succ]
      refine Ways.take (i := 1) (v := ?_) rfl (by kernel_rfl) (fun _ _ _ h => h) (Or.inl ⟨by rfl, ?_⟩) hHeld ?_
      rotate_left
      · (intro w hSw; (try dsimp only at hSw); go_simp; try with_reducible rfl)
      try simp only [Act.put, List.getElem_toArray, List.getElem_cons_zero, List.getElem_cons_succ, List.setIfInBounds_toArray, List.set_cons_zero, List.set_cons_succ]
      refine Ways.take (i := 2) (v := ?_) rfl (by kernel_rfl) (fun _ _ _ h => h) (Or.inl ⟨by rfl, ?_⟩) hHeld ?_
      rotate_left
      · (intro w hSw; (try dsimp only at hSw); go_simp; try with_reducible rfl)
      try simp only [Act.put, List.getElem_toArray, List.getElem_cons_zero, List.getElem_cons_succ, List.setIfInBounds_toArray, List.set_cons_zero, List.set_cons_succ]
      refine Ways.take (i := 3) (v := ?_) rfl (by kernel_rfl) (fun _ _ _ h => h) (Or.inl ⟨by rfl, ?_⟩) hHeld ?_
      rotate_left
      · (intro w hSw; (try dsimp only at hSw); go_simp; try with_reducible rfl)
      try simp only [Act.put, List.getElem_toArray, List.getElem_cons_zero, List.getElem_cons_succ, List.setIfInBounds_toArray, List.set_cons_zero, List.set_cons_succ]
      refine Ways.take (i := 4) (v := ?_) rfl (by kernel_rfl) (fun _ _ _ h => h) (Or.inl ⟨by rfl, ?_⟩) hHeld ?_
      rotate_left
      · (intro w hSw; (try dsimp only at hSw); go_simp; try with_reducible rfl)
      try simp only [Act.put, List.getElem_toArray, List.getElem_cons_zero, List.getElem_cons_succ, List.setIfInBounds_toArray, List.set_cons_zero, List.set_cons_succ]
      refine Ways.take (i := 5) (v := ?_) rfl (by kernel_rfl) (fun _ _ _ h => h) (Or.inl ⟨by rfl, ?_⟩) hHeld ?_
      rotate_left
      · (intro w hSw; (try dsimp only at hSw); go_simp; try with_reducible rfl)
      try simp only [Act.put, List.getElem_toArray, List.getElem_cons_zero, List.getElem_cons_succ, List.setIfInBounds_toArray, List.set_cons_zero, List.set_cons_succ]
      refine Ways.take (i := 6) (v := ?_) rfl (by kernel_rfl) (fun _ _ _ h => h) (Or.inl ⟨by rfl, ?_⟩) hHeld ?_
      rotate_left
      · (intro w hSw; (try dsimp only at hSw); go_simp; try with_reducible rfl)
      try simp only [Act.put, List.getElem_toArray, List.getElem_cons_zero, List.getElem_cons_succ, List.setIfInBounds_toArray, List.set_cons_zero, List.set_cons_succ]
      refine Ways.take (i := 7) (v := ?_) rfl (by kernel_rfl) (fun _ _ _ h => h) (Or.inl ⟨by rfl, ?_⟩) hHeld ?_
      rotate_left
      · (intro w hSw; (try dsimp only at hSw); go_simp; try with_reducible rfl)
      try simp only [Act.put, List.getElem_toArray, List.getElem_cons_zero, List.getElem_cons_succ, List.setIfInBounds_toArray, List.set_cons_zero, List.set_cons_succ]
      refine Ways.take (i := 8) (v := ?_) rfl (by kernel_rfl) (fun _ _ _ h => h) (Or.inl ⟨by rfl, ?_⟩) hHeld ?_
      rotate_left
      · (intro w hSw; (try dsimp only at hSw); go_simp; try with_reducible rfl)
      try simp only [Act.put, List.getElem_toArray, List.getElem_cons_zero, List.getElem_cons_succ, List.setIfInBounds_toArray, List.set_cons_zero, List.set_cons_succ]
      refine Ways.take (i := 9) (v := ?_) rfl (by kernel_rfl) (fun _ _ _ h => h) (Or.inl ⟨by rfl, ?_⟩) hHeld ?_
      rotate_left
      · (intro w hSw; (try dsimp only at hSw); go_simp; try with_reducible rfl)
      try simp only [Act.put, List.getElem_toArray, List.getElem_cons_zero, List.getElem_cons_succ, List.setIfInBounds_toArray, List.set_cons_zero, List.set_cons_succ]
      refine Ways.take (i := 10) (v := ?_) rfl (by kernel_rfl) (fun _ _ _ h => h) (Or.inl ⟨by rfl, ?_⟩) hHeld ?_
      rotate_left
      · (intro w hSw; (try dsimp only at hSw); go_simp; try with_reducible rfl)
      try simp only [Act.put, List.getElem_toArray, List.getElem_cons_zero, List.getElem_cons_succ, List.setIfInBounds_toArray, List.set_cons_zero, List.set_cons_succ]
      refine Ways.take (i := 11) (v := ?_) rfl (by kernel_rfl) (fun _ _ _ h => h) (Or.inl ⟨by rfl, ?_⟩) hHeld ?_
      rotate_left
      · (intro w hSw; (try dsimp only at hSw); go_simp; try with_reducible rfl)
      try simp only [Act.put, List.getElem_toArray, List.getElem_cons_zero, List.getElem_cons_succ, List.setIfInBounds_toArray, List.set_cons_zero, List.set_cons_succ]
      refine Ways.take (i := 12) (v := ?_) rfl (by kernel_rfl) (fun _ _ _ h => h) (Or.inl ⟨by rfl, ?_⟩) hHeld ?_
      rotate_left
      · (intro w hSw; (try dsimp only at hSw); go_simp; try with_reducible rfl)
      try simp only [Act.put, List.getElem_toArray, List.getElem_cons_zero, List.getElem_cons_succ, List.setIfInBounds_toArray, List.set_cons_zero, List.set_cons_succ]
      refine Ways.take (i := 13) (v := ?_) rfl (by kernel_rfl) (fun _ _ _ h => h) (Or.inl ⟨by rfl, ?_⟩) hHeld ?_
      rotate_left
      · (intro w hSw; (try dsimp only at hSw); go_simp; try with_reducible rfl)
      try simp only [Act.put, List.getElem_toArray, List.getElem_cons_zero, List.getElem_cons_succ, List.setIfInBounds_toArray, List.set_cons_zero, List.set_cons_succ]
      refine Ways.take (i := 14) (v := ?_) rfl (by kernel_rfl) (fun _ _ _ h => h) (Or.inl ⟨by rfl, ?_⟩) hHeld ?_
      rotate_left
      · (intro w hSw; (try dsimp only at hSw); go_simp; try with_reducible rfl)
      try simp only [Act.put, List.getElem_toArray, List.getElem_cons_zero, List.getElem_cons_succ, List.setIfInBounds_toArray, List.set_cons_zero, List.set_cons_succ]
      refine Ways.take (i := 15) (v := ?_) rfl (by kernel_rfl) (fun _ _ _ h => h) (Or.inl ⟨by rfl, ?_⟩) hHeld ?_
      rotate_left
      · (intro w hSw; (try dsimp only at hSw); go_simp; try with_reducible rfl)
      try simp only [Act.put, List.getElem_toArray, List.getElem_cons_zero, List.getElem_cons_succ, List.setIfInBounds_toArray, List.set_cons_zero, List.set_cons_succ]
      refine Ways.one (i := 16) rfl (by kernel_rfl) (fun K hK => ?_)
      go_simp
      refine CL.out.mono ?_
      rintro e w5 ⟨r5, rfl, hf5⟩
      obtain ⟨RA, rc, rfl, _⟩ := hf5.own.form
      have hd5 := hd4d.below_ hf5.2
      refine hK.out _ _ (fun _ => ?_) (fun hHeld => ?_)
      · exact ⟨hd5.psr.blk.cell 0 rfl, hd5.psr.blk.cell 1 rfl⟩
      clear hK K
      have hHeld := hHeld (by decide)
      try simp only [Act.put, List.getElem_toArray, List.getElem_cons_zero, List.getElem_cons_succ, List.setIfInBounds_toArray, List.set_cons_zero, List.set_cons_succ]
      refine Ways.one (i := 17) rfl (by kernel_rfl) (fun K hK => ?_)
      go_simp
      refine hK.out _ _ (fun h => absurd rfl h) (fun _ => ?_)
      clear hK K
      try simp only [Act.put, List.getElem_toArray, List.getElem_cons_zero, List.getElem_cons_succ, List.setIfInBounds_toArray, List.set_cons_zero, List.set_cons_succ]
      refine Ways.done (by kernel_rfl) ?_
      clear hHeld CL a0 a1
      have hT5 := hT4d.below hf5.2
      obtain ⟨H6, hG6, hi6, _⟩ := Fresh.snapB hd4d.psr.holds hf5
      have hd6 := hd4d.grown hG6
      have hn6 := hG6.none hn0 hT4d.lt
      clear hd5 hf5 hd4d hT4d
      have a1 := hd6.psr.blk.cell 1 rfl
      go_wp2_with (with_reducible refine stop_store ?_)
      unfold Stopped
      refine wpList_store_cell rfl _ _ _ rfl rfl g 1 (.int .i64 ((P : Int) + (n : Int))) rfl rfl _ _ hd6.psr.blk size_int1 (by simp) rfl fun w7 hB7 hG7 => ?_
      have hd7 : Rdg 109 w H w7 H6 g (some ⟨b, off, none⟩) c l (P + n) (cnt + 1) := hd6.step hG7 hB7 (by omega) (by have := HC.out; omega)
      have hT7 := hT5.grown hG7 (by intro e; injection e with e; omega)
      have hn7 := hn6
      clear hd6 hT5 hB7 hG7 a1
      have IB := hi6
      have UV := Lib.hid (utf8_Valid (hTab.mono hG6.le) w7 hd7.psr.holds RA s s.length rc rfl hi6)
      cases hv : Lib.validD s with
      | false =>
        rw [hv] at UV
        have E : Hid (parse d (l.drop p) cnt = .err 5) := by rw [Hid, E1.out, if_pos (by first | exact ⟨rfl, hv⟩ | exact ⟨trivial, hv⟩)]
        clear hv E1
        go_wp2_with fail
        refine UV.out.mono ?_
        rintro e w8 ⟨rfl, hb8⟩
        have hd8 := hd7.below_ hb8
        have hT8 := hT7.below hb8
        clear UV hd7 hT7
        go_wp2_with (with_reducible refine stop_store ?_)
        unfold Stopped
        refine wpList_store_item rfl _ _ _ rfl rfl _ _ rfl rfl _ _ hT8 size_item rfl (one4 _ _ _ _ rfl rfl rfl rfl) fun wz hTy hgz => ?_
        have hdz := hd8.grownRow (row := some w.heap.size) (by rintro q ⟨⟩; exact hn7) (by rintro q ⟨⟩; exact Nat.le_refl _) hgl hgz
        go_wp2_with fail
        refine ret_row_tmp rfl rfl hTy rfl rfl size_item rfl ?_

        exact ItemOut.err E.out rfl hdz
      | true =>
        rw [hv] at UV
        have E : Hid (parse d (l.drop p) cnt = .ok (.mk 3 0 s []) (k + n) (cnt + 1)) := by rw [Hid, E1.out, if_neg (fun h => by rw [hv] at h; cases h.2)]
        clear hv E1
        go_wp2_with fail
        refine UV.out.mono ?_
        rintro e w8 ⟨rfl, hb8⟩
        have hd8 := hd7.below_ hb8
        have hT8 := hT7.below hb8
        clear UV hd7 hT7
        go_wp2_with (with_reducible refine stop_store ?_)
        unfold Stopped
        refine wpList_store_item rfl _ _ _ rfl rfl _ _ rfl rfl _ _ hT8 size_item rfl (one4 _ _ _ _ rfl rfl rfl rfl) fun wz hTy hgz => ?_
        have hdz := hd8.grownRow (row := some w.heap.size) (by rintro q ⟨⟩; exact hn7) (by rintro q ⟨⟩; exact Nat.le_refl _) hgl hgz
        go_wp2_with fail
        refine ret_row_tmp rfl rfl hTy rfl rfl size_item rfl ?_

        exact ItemOut.ok E.out rfl (by rw [← Nat.add_assoc, HK.out.2.2.2]; exact hdz) (IsItem.str 3 (by omega) IB)
end
end Go.Proofs.YtebcnkelbicbnaaGreatDoor
