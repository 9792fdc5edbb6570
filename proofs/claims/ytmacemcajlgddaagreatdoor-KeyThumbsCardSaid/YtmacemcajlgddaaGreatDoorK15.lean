/- squeezed. Walks: the pairs of a key, by the  -/
import Derived.Test.YtmacemcajlgddaaGreatDoorK14
import Derived.Test.YtmacemcajlgddaaGreatDoorK01
import Derived.Test.YtmacemcajlgddaaGreatDoorK13
set_option linter.unusedVariables false
set_option linter.unusedSimpArgs false
set_option maxRecDepth 100000
set_option maxHeartbeats 12800000
namespace Go.Proofs.YtmacemcajlgddaaGreatDoor
open Go.RowKit
section
variable {W0 : World} {H : Snap} {B : Nat} {kc : Array Value} {L : List Itm}
def AddOut (W0 : World) (H : Snap) (B : Nat) (kc : Array Value) (L : List Itm) (e : Ending) (w' : World) : Prop := e = .returned (.tuple #[]) ∧ PSt W0 H B kc L w'
def strI' (b : List UInt8) : Itm := .mk 2 0 b []
def optS' (n : Int) (b : List UInt8) : List Itm := if 0 < b.length then [intP n, strI' b] else []
theorem pairs_add (label : Int) (h1 : -9223372036854775808 ≤ label) (h2 : label ≤ 9223372036854775807) {A : Option Addr} {c : Nat} {b : List UInt8} (hb : IsBytes H A c b) (hbl : b.length ≤ 1048576) (hL : L.length ≤ 1000) (w : World) (hS : PSt W0 H B kc L w) :
  Calls Tryz.prog 57 #[.int .i64 label, .slice A b.length c, .pointer (some ⟨B, 0, none⟩)] w (AddOut W0 H B kc (L ++ optS' label b)) := by
 by_cases h0 : 0 < b.length
 ·obtain ⟨Hr, VA, m, vc, hm, hP⟩ := hS;have HL := Hh (And.intro hm hL);have E : Hid (optS' label b = [intP label, strI' b]) := if_pos h0;have hi0 : (0 : Int) < (b.length : Int) := by omega
  have hi1 : decide ((0 : Int) < (b.length : Int)) = true := decide_eq_true hi0;have hi2 : decide (0 < b.length) = true := decide_eq_true h0;have HB := Hh (And.intro hb (And.intro hbl (And.intro h1 h2)));have hmI : (m : Int) < (m : Int) + 2 := by omega
  have hmJ : (m : Int) + 1 < (m : Int) + 2 := by omega
  have hm0 : (0 : Int) ≤ (m : Int) + 1 := by omega
  have hmN : m < m + 2 := by omega
  have hw1 : IntKind.i64.wrap ((m : Int) + 1) = (m : Int) + 1 := IntWalk.i64_in _ (by omega);obtain ⟨X1, hX1⟩ : ∃ X, intP label = X := ⟨_, rfl⟩
  obtain ⟨X2, hX2⟩ : ∃ X, strI' b = X := ⟨_, rfl⟩
  have HX := Hh (And.intro hX1 hX2);clear hm hL hb hbl h1 h2 hX1 hX2;have c0 := hP.box.cell 0 rfl;go_enter Tryz.func57, Tryz.ntmps57
  go_upto_region 1 with fail
  replace hP := hP.drew
  refine wp_region_waysZ 7 (fun wx => wx.cell? ⟨B, 0, none⟩ = some (.slice VA m vc)) (by kernel_rfl) (c0) (fun hHeld => ?_)
  refine Zk 0 rfl hHeld ?_
  refine Zk 1 rfl hHeld ?_
  refine Zk 3 rfl hHeld ?_
  refine Zk 5 rfl hHeld ?_
  refine ZkT 10 rfl (fun _ => hHeld) ?_
  refine WaysZ.two (i := 2) (j := 6) rfl rfl (by kernel_rfl) (fun K hK => ?_) (fun K hK => ?_)
  ·go_simp
   refine (cbor_Int label HB.out.2.2.1 HB.out.2.2.2 _ hP.row.grows.holds).mono ?_
   rintro e w2 ⟨v1, rfl, xa1, xb1, xc1, xd1, H1, rfl, hG1, hI1⟩
   rw [HX.out.1] at hI1 ⊢;have hP := hP.grow hG1
   try (have hZ := hZ.below hG1.below)
   refine hK.out _ _ (fun _ => ?_) (fun hHeld => ?_)
   ·exact hP.box.cell 0 rfl
   clear hK K;have hHeld := hHeld (by decide)
   try simp only [Act.put, zz1, zz2, zz3, zz4, zz5, zz6]
   refine WaysZ.two (i := 4) (j := 6) rfl rfl (by kernel_rfl) (fun K hK => ?_) (fun K hK => ?_)
   ·go_simp
    refine (cbor_Bytes rfl (by have := HB.out.2.1; omega) _ (Src.of_row (HB.out.1.row.mono hP.row.grows.le) hP.row.grows.holds) hP.row.grows.holds).mono ?_
    rintro e w4 ⟨v2, rfl, xa2, xb2, xc2, xd2, H2, rfl, hG2, hI2⟩
    rw [show Itm.mk 2 0 b [] = X2 from HX.out.2] at hI2 ⊢;have hP := hP.grow hG2
    try (have hZ := hZ.below hG2.below)
    have hI1 := hI1.mono hG2.le
    refine hK.out _ _ (fun _ => ?_) (fun hHeld => ?_)
    ·exact hP.box.cell 0 rfl
    clear hK K;have hHeld := hHeld (by decide)
    try simp only [Act.put, zz1, zz2, zz3, zz4, zz5, zz6]
    refine Zo 6 rfl fun K hK => ?_
    go_simp
    have hZ := hP.litZ zero2 54;have hP := hP.alloc (.cells zero2 54)
    refine hK.out _ _ (fun _ => ?_) (fun hHeld => ?_)
    ·exact hP.box.cell 0 rfl
    clear hK K;have hHeld := hHeld (by decide)
    try simp only [Act.put, zz1, zz2, zz3, zz4, zz5, zz6]
    refine Zo 7 rfl fun K hK => ?_
    rw [if_pos (by rfl)]
    refine wp_app_items _ _ rfl _ _ _ _ rfl hP.row.own _ _ _ zero2.toList [zeroItm, zeroItm] rfl rfl (zero2_items _) hZ (by have := HL.out; simp; omega) hP.row.base fun v7 w7 hown7 hg7 hat7 => ?_
    have hP := hP.app hown7 hg7 hat7;obtain ⟨A7, c7, rfl, _⟩ := hown7.form;rw [show (L ++ [zeroItm, zeroItm]).length = m + 2 by have := HL.out; simp; omega] at hP ⊢;obtain ⟨g7, _, hA7, _⟩ := hP.put (L1 := L) (z := zeroItm) (L2 := [zeroItm]) (i := m) rfl HL.out.1
    cases hA7
    clear hown7 hg7 hat7
    refine hK.out _ _ (fun h => absurd h (by decide)) (fun _ => ?_)
    clear hK K
    try simp only [Act.put, zz1, zz2, zz3, zz4, zz5, zz6]
    refine ZkT 8 rfl (fun h => absurd h (by decide)) ?_
    refine WaysZ.two (i := 9) (j := 13) rfl rfl (by kernel_rfl) (fun K hK => ?_) (fun K hK => ?_)
    ·rw [if_pos (by rfl)];obtain ⟨g1, cur1, hA1, hB1, hs1, hput1⟩ := hP.put (L1 := L) (z := zeroItm) (L2 := [zeroItm]) (i := m) rfl (by have := HL.out; first | omega | (simp; omega))
     cases hA1
     refine wp_store_at _ _ _ rfl g7 ((m) * 4) _ rfl rfl _ _ hB1 size_item hs1 (one4 _ _ _ _ rfl rfl rfl rfl) fun w9 hB9 hg9 => ?_
     have hP := hput1 _ _ X1 (L ++ [X1, zeroItm]) (ItemsC.one hI1) rfl hB9 hg9;clear hput1 hB1 hs1 hB9 hg9
     refine hK.out _ _ (fun h => absurd h (by decide)) (fun _ => ?_)
     clear hK K
     try simp only [Act.put, zz1, zz2, zz3, zz4, zz5, zz6]
     refine ZkT 11 rfl (fun h => absurd h (by decide)) ?_
     refine WaysZ.two (i := 12) (j := 13) rfl rfl (by kernel_rfl) (fun K hK => ?_) (fun K hK => ?_)
     ·rw [if_pos (by rfl)];obtain ⟨g2, cur2, hA2, hB2, hs2, hput2⟩ := hP.put (L1 := L ++ [X1]) (z := zeroItm) (L2 := []) (i := m + 1) (by rw [List.append_assoc]; rfl) (by have := HL.out; first | omega | (simp; omega))
      cases hA2
      refine wp_store_at _ _ _ rfl g7 ((m + 1) * 4) _ rfl rfl _ _ hB2 size_item hs2 (one4 _ _ _ _ rfl rfl rfl rfl) fun w12 hB12 hg12 => ?_
      have hP := hput2 _ _ X2 (L ++ [X1, X2]) (ItemsC.one hI2) (by rw [List.append_assoc]; rfl) hB12 hg12;clear hput2 hB2 hs2 hB12 hg12
      refine hK.out _ _ (fun h => absurd h (by decide)) (fun _ => ?_)
      clear hK K
      try simp only [Act.put, zz1, zz2, zz3, zz4, zz5, zz6]
      refine Zo 13 rfl fun K hK => ?_
      rw [if_pos (by rfl)]
      refine wp_store_cell _ _ _ rfl B 0 (.slice (some ⟨g7, 0, none⟩) (m + 2) c7) rfl rfl _ _ hP.box size_items (by simp) rfl fun w13 hB13 hg13 => ?_
      have hP := hP.setBox (by simpa using hB13) hg13;clear hB13 hg13
      refine hK.out _ _ (fun h => absurd h (by decide)) (fun _ => ?_)
      clear hK K
      try simp only [Act.put, zz1, zz2, zz3, zz4, zz5, zz6]
      refine WaysZ.done (by kernel_rfl) ?_
      clear hHeld;go_wp2_with fail
      go_end0
      exact ⟨rfl, by rw [E.out, HX.out.1, HX.out.2]; exact ⟨_, _, _, _, by have := HL.out; simp; omega, hP⟩⟩
     ·rw [if_pos (by rfl)]
      refine wp_store_cell _ _ _ rfl B 0 (.slice (some ⟨g7, 0, none⟩) (m + 2) c7) rfl rfl _ _ hP.box size_items (by simp) rfl fun w13 hB13 hg13 => ?_
      have hP := hP.setBox (by simpa using hB13) hg13;clear hB13 hg13
      refine hK.out _ _ (fun h => absurd h (by decide)) (fun _ => ?_)
      clear hK K
      try simp only [Act.put, zz1, zz2, zz3, zz4, zz5, zz6]
      refine Zo 12 rfl fun K hK => ?_
      rw [if_pos (by rfl)];obtain ⟨g2, cur2, hA2, hB2, hs2, hput2⟩ := hP.put (L1 := L ++ [X1]) (z := zeroItm) (L2 := []) (i := m + 1) (by rw [List.append_assoc]; rfl) (by have := HL.out; first | omega | (simp; omega))
      cases hA2
      refine wp_store_at _ _ _ rfl g7 ((m + 1) * 4) _ rfl rfl _ _ hB2 size_item hs2 (one4 _ _ _ _ rfl rfl rfl rfl) fun w12 hB12 hg12 => ?_
      have hP := hput2 _ _ X2 (L ++ [X1, X2]) (ItemsC.one hI2) (by rw [List.append_assoc]; rfl) hB12 hg12;clear hput2 hB2 hs2 hB12 hg12
      refine hK.out _ _ (fun h => absurd h (by decide)) (fun _ => ?_)
      clear hK K
      try simp only [Act.put, zz1, zz2, zz3, zz4, zz5, zz6]
      refine WaysZ.done (by kernel_rfl) ?_
      clear hHeld;go_wp2_with fail
      go_end0
      exact ⟨rfl, by rw [E.out, HX.out.1, HX.out.2]; exact ⟨_, _, _, _, by have := HL.out; simp; omega, hP⟩⟩
    ·rw [if_pos (by rfl)]
     refine wp_store_cell _ _ _ rfl B 0 (.slice (some ⟨g7, 0, none⟩) (m + 2) c7) rfl rfl _ _ hP.box size_items (by simp) rfl fun w13 hB13 hg13 => ?_
     have hP := hP.setBox (by simpa using hB13) hg13;clear hB13 hg13
     refine hK.out _ _ (fun h => absurd h (by decide)) (fun _ => ?_)
     clear hK K
     try simp only [Act.put, zz1, zz2, zz3, zz4, zz5, zz6]
     refine Zo 9 rfl fun K hK => ?_
     rw [if_pos (by rfl)];obtain ⟨g1, cur1, hA1, hB1, hs1, hput1⟩ := hP.put (L1 := L) (z := zeroItm) (L2 := [zeroItm]) (i := m) rfl (by have := HL.out; first | omega | (simp; omega))
     cases hA1
     refine wp_store_at _ _ _ rfl g7 ((m) * 4) _ rfl rfl _ _ hB1 size_item hs1 (one4 _ _ _ _ rfl rfl rfl rfl) fun w9 hB9 hg9 => ?_
     have hP := hput1 _ _ X1 (L ++ [X1, zeroItm]) (ItemsC.one hI1) rfl hB9 hg9;clear hput1 hB1 hs1 hB9 hg9
     refine hK.out _ _ (fun h => absurd h (by decide)) (fun _ => ?_)
     clear hK K
     try simp only [Act.put, zz1, zz2, zz3, zz4, zz5, zz6]
     refine ZkT 11 rfl (fun h => absurd h (by decide)) ?_
     refine Zo 12 rfl fun K hK => ?_
     rw [if_pos (by rfl)];obtain ⟨g2, cur2, hA2, hB2, hs2, hput2⟩ := hP.put (L1 := L ++ [X1]) (z := zeroItm) (L2 := []) (i := m + 1) (by rw [List.append_assoc]; rfl) (by have := HL.out; first | omega | (simp; omega))
     cases hA2
     refine wp_store_at _ _ _ rfl g7 ((m + 1) * 4) _ rfl rfl _ _ hB2 size_item hs2 (one4 _ _ _ _ rfl rfl rfl rfl) fun w12 hB12 hg12 => ?_
     have hP := hput2 _ _ X2 (L ++ [X1, X2]) (ItemsC.one hI2) (by rw [List.append_assoc]; rfl) hB12 hg12;clear hput2 hB2 hs2 hB12 hg12
     refine hK.out _ _ (fun h => absurd h (by decide)) (fun _ => ?_)
     clear hK K
     try simp only [Act.put, zz1, zz2, zz3, zz4, zz5, zz6]
     refine WaysZ.done (by kernel_rfl) ?_
     clear hHeld;go_wp2_with fail
     go_end0
     exact ⟨rfl, by rw [E.out, HX.out.1, HX.out.2]; exact ⟨_, _, _, _, by have := HL.out; simp; omega, hP⟩⟩
   ·go_simp
    have hZ := hP.litZ zero2 54;have hP := hP.alloc (.cells zero2 54)
    refine hK.out _ _ (fun _ => ?_) (fun hHeld => ?_)
    ·exact hP.box.cell 0 rfl
    clear hK K;have hHeld := hHeld (by decide)
    try simp only [Act.put, zz1, zz2, zz3, zz4, zz5, zz6]
    refine Zo 4 rfl fun K hK => ?_
    go_simp
    refine (cbor_Bytes rfl (by have := HB.out.2.1; omega) _ (Src.of_row (HB.out.1.row.mono hP.row.grows.le) hP.row.grows.holds) hP.row.grows.holds).mono ?_
    rintro e w4 ⟨v2, rfl, xa2, xb2, xc2, xd2, H2, rfl, hG2, hI2⟩
    rw [show Itm.mk 2 0 b [] = X2 from HX.out.2] at hI2 ⊢;have hP := hP.grow hG2
    try (have hZ := hZ.below hG2.below)
    have hI1 := hI1.mono hG2.le
    refine hK.out _ _ (fun _ => ?_) (fun hHeld => ?_)
    ·exact hP.box.cell 0 rfl
    clear hK K;have hHeld := hHeld (by decide)
    try simp only [Act.put, zz1, zz2, zz3, zz4, zz5, zz6]
    refine Zo 7 rfl fun K hK => ?_
    rw [if_pos (by rfl)]
    refine wp_app_items _ _ rfl _ _ _ _ rfl hP.row.own _ _ _ zero2.toList [zeroItm, zeroItm] rfl rfl (zero2_items _) hZ (by have := HL.out; simp; omega) hP.row.base fun v7 w7 hown7 hg7 hat7 => ?_
    have hP := hP.app hown7 hg7 hat7;obtain ⟨A7, c7, rfl, _⟩ := hown7.form;rw [show (L ++ [zeroItm, zeroItm]).length = m + 2 by have := HL.out; simp; omega] at hP ⊢;obtain ⟨g7, _, hA7, _⟩ := hP.put (L1 := L) (z := zeroItm) (L2 := [zeroItm]) (i := m) rfl HL.out.1
    cases hA7
    clear hown7 hg7 hat7
    refine hK.out _ _ (fun h => absurd h (by decide)) (fun _ => ?_)
    clear hK K
    try simp only [Act.put, zz1, zz2, zz3, zz4, zz5, zz6]
    refine ZkT 8 rfl (fun h => absurd h (by decide)) ?_
    refine WaysZ.two (i := 9) (j := 13) rfl rfl (by kernel_rfl) (fun K hK => ?_) (fun K hK => ?_)
    ·rw [if_pos (by rfl)];obtain ⟨g1, cur1, hA1, hB1, hs1, hput1⟩ := hP.put (L1 := L) (z := zeroItm) (L2 := [zeroItm]) (i := m) rfl (by have := HL.out; first | omega | (simp; omega))
     cases hA1
     refine wp_store_at _ _ _ rfl g7 ((m) * 4) _ rfl rfl _ _ hB1 size_item hs1 (one4 _ _ _ _ rfl rfl rfl rfl) fun w9 hB9 hg9 => ?_
     have hP := hput1 _ _ X1 (L ++ [X1, zeroItm]) (ItemsC.one hI1) rfl hB9 hg9;clear hput1 hB1 hs1 hB9 hg9
     refine hK.out _ _ (fun h => absurd h (by decide)) (fun _ => ?_)
     clear hK K
     try simp only [Act.put, zz1, zz2, zz3, zz4, zz5, zz6]
     refine ZkT 11 rfl (fun h => absurd h (by decide)) ?_
     refine WaysZ.two (i := 12) (j := 13) rfl rfl (by kernel_rfl) (fun K hK => ?_) (fun K hK => ?_)
     ·rw [if_pos (by rfl)];obtain ⟨g2, cur2, hA2, hB2, hs2, hput2⟩ := hP.put (L1 := L ++ [X1]) (z := zeroItm) (L2 := []) (i := m + 1) (by rw [List.append_assoc]; rfl) (by have := HL.out; first | omega | (simp; omega))
      cases hA2
      refine wp_store_at _ _ _ rfl g7 ((m + 1) * 4) _ rfl rfl _ _ hB2 size_item hs2 (one4 _ _ _ _ rfl rfl rfl rfl) fun w12 hB12 hg12 => ?_
      have hP := hput2 _ _ X2 (L ++ [X1, X2]) (ItemsC.one hI2) (by rw [List.append_assoc]; rfl) hB12 hg12;clear hput2 hB2 hs2 hB12 hg12
      refine hK.out _ _ (fun h => absurd h (by decide)) (fun _ => ?_)
      clear hK K
      try simp only [Act.put, zz1, zz2, zz3, zz4, zz5, zz6]
      refine Zo 13 rfl fun K hK => ?_
      rw [if_pos (by rfl)]
      refine wp_store_cell _ _ _ rfl B 0 (.slice (some ⟨g7, 0, none⟩) (m + 2) c7) rfl rfl _ _ hP.box size_items (by simp) rfl fun w13 hB13 hg13 => ?_
      have hP := hP.setBox (by simpa using hB13) hg13;clear hB13 hg13
      refine hK.out _ _ (fun h => absurd h (by decide)) (fun _ => ?_)
      clear hK K
      try simp only [Act.put, zz1, zz2, zz3, zz4, zz5, zz6]
      refine WaysZ.done (by kernel_rfl) ?_
      clear hHeld;go_wp2_with fail
      go_end0
      exact ⟨rfl, by rw [E.out, HX.out.1, HX.out.2]; exact ⟨_, _, _, _, by have := HL.out; simp; omega, hP⟩⟩
     ·rw [if_pos (by rfl)]
      refine wp_store_cell _ _ _ rfl B 0 (.slice (some ⟨g7, 0, none⟩) (m + 2) c7) rfl rfl _ _ hP.box size_items (by simp) rfl fun w13 hB13 hg13 => ?_
      have hP := hP.setBox (by simpa using hB13) hg13;clear hB13 hg13
      refine hK.out _ _ (fun h => absurd h (by decide)) (fun _ => ?_)
      clear hK K
      try simp only [Act.put, zz1, zz2, zz3, zz4, zz5, zz6]
      refine Zo 12 rfl fun K hK => ?_
      rw [if_pos (by rfl)];obtain ⟨g2, cur2, hA2, hB2, hs2, hput2⟩ := hP.put (L1 := L ++ [X1]) (z := zeroItm) (L2 := []) (i := m + 1) (by rw [List.append_assoc]; rfl) (by have := HL.out; first | omega | (simp; omega))
      cases hA2
      refine wp_store_at _ _ _ rfl g7 ((m + 1) * 4) _ rfl rfl _ _ hB2 size_item hs2 (one4 _ _ _ _ rfl rfl rfl rfl) fun w12 hB12 hg12 => ?_
      have hP := hput2 _ _ X2 (L ++ [X1, X2]) (ItemsC.one hI2) (by rw [List.append_assoc]; rfl) hB12 hg12;clear hput2 hB2 hs2 hB12 hg12
      refine hK.out _ _ (fun h => absurd h (by decide)) (fun _ => ?_)
      clear hK K
      try simp only [Act.put, zz1, zz2, zz3, zz4, zz5, zz6]
      refine WaysZ.done (by kernel_rfl) ?_
      clear hHeld;go_wp2_with fail
      go_end0
      exact ⟨rfl, by rw [E.out, HX.out.1, HX.out.2]; exact ⟨_, _, _, _, by have := HL.out; simp; omega, hP⟩⟩
    ·rw [if_pos (by rfl)]
     refine wp_store_cell _ _ _ rfl B 0 (.slice (some ⟨g7, 0, none⟩) (m + 2) c7) rfl rfl _ _ hP.box size_items (by simp) rfl fun w13 hB13 hg13 => ?_
     have hP := hP.setBox (by simpa using hB13) hg13;clear hB13 hg13
     refine hK.out _ _ (fun h => absurd h (by decide)) (fun _ => ?_)
     clear hK K
     try simp only [Act.put, zz1, zz2, zz3, zz4, zz5, zz6]
     refine Zo 9 rfl fun K hK => ?_
     rw [if_pos (by rfl)];obtain ⟨g1, cur1, hA1, hB1, hs1, hput1⟩ := hP.put (L1 := L) (z := zeroItm) (L2 := [zeroItm]) (i := m) rfl (by have := HL.out; first | omega | (simp; omega))
     cases hA1
     refine wp_store_at _ _ _ rfl g7 ((m) * 4) _ rfl rfl _ _ hB1 size_item hs1 (one4 _ _ _ _ rfl rfl rfl rfl) fun w9 hB9 hg9 => ?_
     have hP := hput1 _ _ X1 (L ++ [X1, zeroItm]) (ItemsC.one hI1) rfl hB9 hg9;clear hput1 hB1 hs1 hB9 hg9
     refine hK.out _ _ (fun h => absurd h (by decide)) (fun _ => ?_)
     clear hK K
     try simp only [Act.put, zz1, zz2, zz3, zz4, zz5, zz6]
     refine ZkT 11 rfl (fun h => absurd h (by decide)) ?_
     refine Zo 12 rfl fun K hK => ?_
     rw [if_pos (by rfl)];obtain ⟨g2, cur2, hA2, hB2, hs2, hput2⟩ := hP.put (L1 := L ++ [X1]) (z := zeroItm) (L2 := []) (i := m + 1) (by rw [List.append_assoc]; rfl) (by have := HL.out; first | omega | (simp; omega))
     cases hA2
     refine wp_store_at _ _ _ rfl g7 ((m + 1) * 4) _ rfl rfl _ _ hB2 size_item hs2 (one4 _ _ _ _ rfl rfl rfl rfl) fun w12 hB12 hg12 => ?_
     have hP := hput2 _ _ X2 (L ++ [X1, X2]) (ItemsC.one hI2) (by rw [List.append_assoc]; rfl) hB12 hg12;clear hput2 hB2 hs2 hB12 hg12
     refine hK.out _ _ (fun h => absurd h (by decide)) (fun _ => ?_)
     clear hK K
     try simp only [Act.put, zz1, zz2, zz3, zz4, zz5, zz6]
     refine WaysZ.done (by kernel_rfl) ?_
     clear hHeld;go_wp2_with fail
     go_end0
     exact ⟨rfl, by rw [E.out, HX.out.1, HX.out.2]; exact ⟨_, _, _, _, by have := HL.out; simp; omega, hP⟩⟩
  ·go_simp
   have hZ := hP.litZ zero2 54;have hP := hP.alloc (.cells zero2 54)
   refine hK.out _ _ (fun _ => ?_) (fun hHeld => ?_)
   ·exact hP.box.cell 0 rfl
   clear hK K;have hHeld := hHeld (by decide)
   try simp only [Act.put, zz1, zz2, zz3, zz4, zz5, zz6]
   refine Zo 2 rfl fun K hK => ?_
   go_simp
   refine (cbor_Int label HB.out.2.2.1 HB.out.2.2.2 _ hP.row.grows.holds).mono ?_
   rintro e w2 ⟨v1, rfl, xa1, xb1, xc1, xd1, H1, rfl, hG1, hI1⟩
   rw [HX.out.1] at hI1 ⊢;have hP := hP.grow hG1
   try (have hZ := hZ.below hG1.below)
   refine hK.out _ _ (fun _ => ?_) (fun hHeld => ?_)
   ·exact hP.box.cell 0 rfl
   clear hK K;have hHeld := hHeld (by decide)
   try simp only [Act.put, zz1, zz2, zz3, zz4, zz5, zz6]
   refine Zo 4 rfl fun K hK => ?_
   go_simp
   refine (cbor_Bytes rfl (by have := HB.out.2.1; omega) _ (Src.of_row (HB.out.1.row.mono hP.row.grows.le) hP.row.grows.holds) hP.row.grows.holds).mono ?_
   rintro e w4 ⟨v2, rfl, xa2, xb2, xc2, xd2, H2, rfl, hG2, hI2⟩
   rw [show Itm.mk 2 0 b [] = X2 from HX.out.2] at hI2 ⊢;have hP := hP.grow hG2
   try (have hZ := hZ.below hG2.below)
   have hI1 := hI1.mono hG2.le
   refine hK.out _ _ (fun _ => ?_) (fun hHeld => ?_)
   ·exact hP.box.cell 0 rfl
   clear hK K;have hHeld := hHeld (by decide)
   try simp only [Act.put, zz1, zz2, zz3, zz4, zz5, zz6]
   refine Zo 7 rfl fun K hK => ?_
   rw [if_pos (by rfl)]
   refine wp_app_items _ _ rfl _ _ _ _ rfl hP.row.own _ _ _ zero2.toList [zeroItm, zeroItm] rfl rfl (zero2_items _) hZ (by have := HL.out; simp; omega) hP.row.base fun v7 w7 hown7 hg7 hat7 => ?_
   have hP := hP.app hown7 hg7 hat7;obtain ⟨A7, c7, rfl, _⟩ := hown7.form;rw [show (L ++ [zeroItm, zeroItm]).length = m + 2 by have := HL.out; simp; omega] at hP ⊢;obtain ⟨g7, _, hA7, _⟩ := hP.put (L1 := L) (z := zeroItm) (L2 := [zeroItm]) (i := m) rfl HL.out.1
   cases hA7
   clear hown7 hg7 hat7
   refine hK.out _ _ (fun h => absurd h (by decide)) (fun _ => ?_)
   clear hK K
   try simp only [Act.put, zz1, zz2, zz3, zz4, zz5, zz6]
   refine ZkT 8 rfl (fun h => absurd h (by decide)) ?_
   refine WaysZ.two (i := 9) (j := 13) rfl rfl (by kernel_rfl) (fun K hK => ?_) (fun K hK => ?_)
   ·rw [if_pos (by rfl)];obtain ⟨g1, cur1, hA1, hB1, hs1, hput1⟩ := hP.put (L1 := L) (z := zeroItm) (L2 := [zeroItm]) (i := m) rfl (by have := HL.out; first | omega | (simp; omega))
    cases hA1
    refine wp_store_at _ _ _ rfl g7 ((m) * 4) _ rfl rfl _ _ hB1 size_item hs1 (one4 _ _ _ _ rfl rfl rfl rfl) fun w9 hB9 hg9 => ?_
    have hP := hput1 _ _ X1 (L ++ [X1, zeroItm]) (ItemsC.one hI1) rfl hB9 hg9;clear hput1 hB1 hs1 hB9 hg9
    refine hK.out _ _ (fun h => absurd h (by decide)) (fun _ => ?_)
    clear hK K
    try simp only [Act.put, zz1, zz2, zz3, zz4, zz5, zz6]
    refine ZkT 11 rfl (fun h => absurd h (by decide)) ?_
    refine WaysZ.two (i := 12) (j := 13) rfl rfl (by kernel_rfl) (fun K hK => ?_) (fun K hK => ?_)
    ·rw [if_pos (by rfl)];obtain ⟨g2, cur2, hA2, hB2, hs2, hput2⟩ := hP.put (L1 := L ++ [X1]) (z := zeroItm) (L2 := []) (i := m + 1) (by rw [List.append_assoc]; rfl) (by have := HL.out; first | omega | (simp; omega))
     cases hA2
     refine wp_store_at _ _ _ rfl g7 ((m + 1) * 4) _ rfl rfl _ _ hB2 size_item hs2 (one4 _ _ _ _ rfl rfl rfl rfl) fun w12 hB12 hg12 => ?_
     have hP := hput2 _ _ X2 (L ++ [X1, X2]) (ItemsC.one hI2) (by rw [List.append_assoc]; rfl) hB12 hg12;clear hput2 hB2 hs2 hB12 hg12
     refine hK.out _ _ (fun h => absurd h (by decide)) (fun _ => ?_)
     clear hK K
     try simp only [Act.put, zz1, zz2, zz3, zz4, zz5, zz6]
     refine Zo 13 rfl fun K hK => ?_
     rw [if_pos (by rfl)]
     refine wp_store_cell _ _ _ rfl B 0 (.slice (some ⟨g7, 0, none⟩) (m + 2) c7) rfl rfl _ _ hP.box size_items (by simp) rfl fun w13 hB13 hg13 => ?_
     have hP := hP.setBox (by simpa using hB13) hg13;clear hB13 hg13
     refine hK.out _ _ (fun h => absurd h (by decide)) (fun _ => ?_)
     clear hK K
     try simp only [Act.put, zz1, zz2, zz3, zz4, zz5, zz6]
     refine WaysZ.done (by kernel_rfl) ?_
     clear hHeld;go_wp2_with fail
     go_end0
     exact ⟨rfl, by rw [E.out, HX.out.1, HX.out.2]; exact ⟨_, _, _, _, by have := HL.out; simp; omega, hP⟩⟩
    ·rw [if_pos (by rfl)]
     refine wp_store_cell _ _ _ rfl B 0 (.slice (some ⟨g7, 0, none⟩) (m + 2) c7) rfl rfl _ _ hP.box size_items (by simp) rfl fun w13 hB13 hg13 => ?_
     have hP := hP.setBox (by simpa using hB13) hg13;clear hB13 hg13
     refine hK.out _ _ (fun h => absurd h (by decide)) (fun _ => ?_)
     clear hK K
     try simp only [Act.put, zz1, zz2, zz3, zz4, zz5, zz6]
     refine Zo 12 rfl fun K hK => ?_
     rw [if_pos (by rfl)];obtain ⟨g2, cur2, hA2, hB2, hs2, hput2⟩ := hP.put (L1 := L ++ [X1]) (z := zeroItm) (L2 := []) (i := m + 1) (by rw [List.append_assoc]; rfl) (by have := HL.out; first | omega | (simp; omega))
     cases hA2
     refine wp_store_at _ _ _ rfl g7 ((m + 1) * 4) _ rfl rfl _ _ hB2 size_item hs2 (one4 _ _ _ _ rfl rfl rfl rfl) fun w12 hB12 hg12 => ?_
     have hP := hput2 _ _ X2 (L ++ [X1, X2]) (ItemsC.one hI2) (by rw [List.append_assoc]; rfl) hB12 hg12;clear hput2 hB2 hs2 hB12 hg12
     refine hK.out _ _ (fun h => absurd h (by decide)) (fun _ => ?_)
     clear hK K
     try simp only [Act.put, zz1, zz2, zz3, zz4, zz5, zz6]
     refine WaysZ.done (by kernel_rfl) ?_
     clear hHeld;go_wp2_with fail
     go_end0
     exact ⟨rfl, by rw [E.out, HX.out.1, HX.out.2]; exact ⟨_, _, _, _, by have := HL.out; simp; omega, hP⟩⟩
   ·rw [if_pos (by rfl)]
    refine wp_store_cell _ _ _ rfl B 0 (.slice (some ⟨g7, 0, none⟩) (m + 2) c7) rfl rfl _ _ hP.box size_items (by simp) rfl fun w13 hB13 hg13 => ?_
    have hP := hP.setBox (by simpa using hB13) hg13;clear hB13 hg13
    refine hK.out _ _ (fun h => absurd h (by decide)) (fun _ => ?_)
    clear hK K
    try simp only [Act.put, zz1, zz2, zz3, zz4, zz5, zz6]
    refine Zo 9 rfl fun K hK => ?_
    rw [if_pos (by rfl)];obtain ⟨g1, cur1, hA1, hB1, hs1, hput1⟩ := hP.put (L1 := L) (z := zeroItm) (L2 := [zeroItm]) (i := m) rfl (by have := HL.out; first | omega | (simp; omega))
    cases hA1
    refine wp_store_at _ _ _ rfl g7 ((m) * 4) _ rfl rfl _ _ hB1 size_item hs1 (one4 _ _ _ _ rfl rfl rfl rfl) fun w9 hB9 hg9 => ?_
    have hP := hput1 _ _ X1 (L ++ [X1, zeroItm]) (ItemsC.one hI1) rfl hB9 hg9;clear hput1 hB1 hs1 hB9 hg9
    refine hK.out _ _ (fun h => absurd h (by decide)) (fun _ => ?_)
    clear hK K
    try simp only [Act.put, zz1, zz2, zz3, zz4, zz5, zz6]
    refine ZkT 11 rfl (fun h => absurd h (by decide)) ?_
    refine Zo 12 rfl fun K hK => ?_
    rw [if_pos (by rfl)];obtain ⟨g2, cur2, hA2, hB2, hs2, hput2⟩ := hP.put (L1 := L ++ [X1]) (z := zeroItm) (L2 := []) (i := m + 1) (by rw [List.append_assoc]; rfl) (by have := HL.out; first | omega | (simp; omega))
    cases hA2
    refine wp_store_at _ _ _ rfl g7 ((m + 1) * 4) _ rfl rfl _ _ hB2 size_item hs2 (one4 _ _ _ _ rfl rfl rfl rfl) fun w12 hB12 hg12 => ?_
    have hP := hput2 _ _ X2 (L ++ [X1, X2]) (ItemsC.one hI2) (by rw [List.append_assoc]; rfl) hB12 hg12;clear hput2 hB2 hs2 hB12 hg12
    refine hK.out _ _ (fun h => absurd h (by decide)) (fun _ => ?_)
    clear hK K
    try simp only [Act.put, zz1, zz2, zz3, zz4, zz5, zz6]
    refine WaysZ.done (by kernel_rfl) ?_
    clear hHeld;go_wp2_with fail
    go_end0
    exact ⟨rfl, by rw [E.out, HX.out.1, HX.out.2]; exact ⟨_, _, _, _, by have := HL.out; simp; omega, hP⟩⟩
 ·have E : Hid (optS' label b = []) := if_neg h0;have hi0 : ¬ (0 : Int) < (b.length : Int) := by omega
  have hi1 : decide ((0 : Int) < (b.length : Int)) = false := decide_eq_false hi0;have hi2 : decide (0 < b.length) = false := decide_eq_false h0;have HS := Hh hS;clear hS hb;go_enter Tryz.func57, Tryz.ntmps57
  go_wp2_with fail
  go_end0
  exact ⟨rfl, by rw [E.out, List.append_nil]; exact HS.out⟩
end
end Go.Proofs.YtmacemcajlgddaaGreatDoor
