/- squeezed. Walks: the pairs of a key, by the  -/
import Derived.Test.YtgaoknihklmakaaGreatDoorK14
import Derived.Test.YtgaoknihklmakaaGreatDoorK00
import Derived.Test.YtgaoknihklmakaaGreatDoorK03
set_option linter.unusedVariables false
set_option linter.unusedSimpArgs false
set_option maxRecDepth 100000
set_option maxHeartbeats 25600000
namespace Go.Proofs.YtgaoknihklmakaaGreatDoor
open Go.RowKit
section
variable {W0 : World} {H : Snap} {B : Nat} {kc : Array Value} {L : List Itm}
def AddOut (W0 : World) (H : Snap) (B : Nat) (kc : Array Value) (L : List Itm) (e : Ending) (w' : World) : Prop := e = .returned (.tuple #[]) ∧ PSt W0 H B kc L w'
def strI' (b : List UInt8) : Itm := .mk 2 0 b []
def optS' (n : Int) (b : List UInt8) : List Itm := if 0 < b.length then [intP n, strI' b] else []
theorem pairs_add (label : Int) (h1 : -9223372036854775808 ≤ label) (h2 : label ≤ 9223372036854775807) {A : Option Addr} {c : Nat} {b : List UInt8} (hb : IsBytes H A c b) (hbl : b.length ≤ 1048576) (hL : L.length ≤ 1000) (w : World) (hS : PSt W0 H B kc L w) :
  Calls Tryz.prog 100 #[.int .i64 label, .slice A b.length c, .pointer (some ⟨B, 0, none⟩)] w (AddOut W0 H B kc (L ++ optS' label b)) := by
 by_cases h0 : 0 < b.length
 ·obtain ⟨Hr, VA, m, vc, hm, hP⟩ := hS;have HL := Hh (And.intro hm hL);have E : Hid (optS' label b = [intP label, strI' b]) := if_pos h0;have hi0 : (0 : Int) < (b.length : Int) := by omega
  have hi1 : decide ((0 : Int) < (b.length : Int)) = true := decide_eq_true hi0;have hi2 : decide (0 < b.length) = true := decide_eq_true h0;have HB := Hh (And.intro hb (And.intro hbl (And.intro h1 h2)));have hmI : (m : Int) < (m : Int) + 2 := by omega
  have hmJ : (m : Int) + 1 < (m : Int) + 2 := by omega
  have hm0 : (0 : Int) ≤ (m : Int) + 1 := by omega
  have hmN : m < m + 2 := by omega
  have hw1 : IntKind.i64.wrap ((m : Int) + 1) = (m : Int) + 1 := IntWalk.i64_in _ (by omega);obtain ⟨X1, hX1⟩ : ∃ X, intP label = X := ⟨_, rfl⟩
  obtain ⟨X2, hX2⟩ : ∃ X, strI' b = X := ⟨_, rfl⟩
  have HX := Hh (And.intro hX1 hX2);clear hm hL hb hbl h1 h2 hX1 hX2;have c0 := hP.box.cell 0 rfl;go_enter Tryz.func100, Tryz.ntmps100
  go_upto_region 1 with fail
  replace hP := hP.drew
  refine wp_region_waysZ 7 (fun wx => wx.cell? ⟨B, 0, none⟩ = some (.slice VA m vc)) (by kernel_rfl) (c0) (fun hHeld => ?_)
  repeat' first
   | (
    revert k2
    intro hK
    go_simp
    refine (cbor_Int label HB.out.2.2.1 HB.out.2.2.2 _ hP.row.grows.holds).mono ?_
    rintro e w2 ⟨v1, rfl, xa1, xb1, xc1, xd1, H1, rfl, hG1, hI1⟩
    rw [HX.out.1] at hI1 ⊢;have hP := hP.grow hG1
    try (have hZ := hZ.below hG1.below)
    refine Ko hK ?_ fun hHeld => ?_
    ·exact hP.box.cell 0 rfl
    clear hK K)
   | (
    revert k4
    intro hK
    go_simp
    refine (cbor_Bytes rfl (by have := HB.out.2.1; omega) _ (Src.of_row (HB.out.1.row.mono hP.row.grows.le) hP.row.grows.holds) hP.row.grows.holds).mono ?_
    rintro e w4 ⟨v2, rfl, xa2, xb2, xc2, xd2, H2, rfl, hG2, hI2⟩
    rw [show Itm.mk 2 0 b [] = X2 from HX.out.2] at hI2 ⊢;have hP := hP.grow hG2
    try (have hZ := hZ.below hG2.below)
    have hI1 := hI1.mono hG2.le
    refine Ko hK ?_ fun hHeld => ?_
    ·exact hP.box.cell 0 rfl
    clear hK K)
   | (
    revert k6
    intro hK
    go_simp
    have hZ := hP.litZ zero2 75;have hP := hP.alloc (.cells zero2 75)
    refine Ko hK ?_ fun hHeld => ?_
    ·exact hP.box.cell 0 rfl
    clear hK K)
   | (
    revert k7
    intro hK
    rw [if_pos (by rfl)]
    refine wp_app_items _ _ rfl _ _ _ _ rfl hP.row.own _ _ _ zero2.toList [zeroItm, zeroItm] rfl rfl (zero2_items _) hZ (by have := HL.out; simp; omega) hP.row.base fun v7 w7 hown7 hg7 hat7 => ?_
    have hP := hP.app hown7 hg7 hat7;obtain ⟨A7, c7, rfl, _⟩ := hown7.form;rw [show (L ++ [zeroItm, zeroItm]).length = m + 2 by have := HL.out; simp; omega] at hP ⊢;obtain ⟨g7, _, hA7, _⟩ := hP.put (L1 := L) (z := zeroItm) (L2 := [zeroItm]) (i := m) rfl HL.out.1
    cases hA7
    clear hown7 hg7 hat7
    refine Kz hK ?_
    clear hK K)
   | (
    revert k9
    intro hK
    rw [if_pos (by rfl)];obtain ⟨g1, cur1, hA1, hB1, hs1, hput1⟩ := hP.put (L1 := L) (z := zeroItm) (L2 := [zeroItm]) (i := m) rfl (by have := HL.out; first | omega | (simp; omega))
    cases hA1
    refine wp_store_at _ _ _ rfl g7 ((m) * 4) _ rfl rfl _ _ hB1 size_item hs1 (one4 _ _ _ _ rfl rfl rfl rfl) fun w9 hB9 hg9 => ?_
    have hP := hput1 _ _ X1 (L ++ [X1, zeroItm]) (ItemsC.one hI1) rfl hB9 hg9;clear hput1 hB1 hs1 hB9 hg9
    refine Kz hK ?_
    clear hK K)
   | (
    revert k12
    intro hK
    rw [if_pos (by rfl)];obtain ⟨g2, cur2, hA2, hB2, hs2, hput2⟩ := hP.put (L1 := L ++ [X1]) (z := zeroItm) (L2 := []) (i := m + 1) (by rw [List.append_assoc]; rfl) (by have := HL.out; first | omega | (simp; omega))
    cases hA2
    refine wp_store_at _ _ _ rfl g7 ((m + 1) * 4) _ rfl rfl _ _ hB2 size_item hs2 (one4 _ _ _ _ rfl rfl rfl rfl) fun w12 hB12 hg12 => ?_
    have hP := hput2 _ _ X2 (L ++ [X1, X2]) (ItemsC.one hI2) (by rw [List.append_assoc]; rfl) hB12 hg12;clear hput2 hB2 hs2 hB12 hg12
    refine Kz hK ?_
    clear hK K)
   | (
    revert k13
    intro hK
    rw [if_pos (by rfl)]
    refine wp_store_cell _ _ _ rfl B 0 (.slice (some ⟨g7, 0, none⟩) (m + 2) c7) rfl rfl _ _ hP.box size_items (by simp) rfl fun w13 hB13 hg13 => ?_
    have hP := hP.setBox (by simpa using hB13) hg13;clear hB13 hg13
    refine Kz hK ?_
    clear hK K)
   | simp only [Act.put, zz1, zz2, zz3, zz4, zz5, zz6]
   | refine Zk 0 rfl hHeld ?_ (hs:=by decide +kernel)
   | refine Zk 1 rfl hHeld ?_ (hs:=by decide +kernel)
   | refine Zk 3 rfl hHeld ?_ (hs:=by decide +kernel)
   | refine Zk 5 rfl hHeld ?_ (hs:=by decide +kernel)
   | refine ZkT 10 rfl (fun _ => hHeld) ?_ (hs:=by decide +kernel)
   | refine ZkT 8 rfl (fun h => absurd h (by decide)) ?_ (hs:=by decide +kernel)
   | refine ZkT 11 rfl (fun h => absurd h (by decide)) ?_ (hs:=by decide +kernel)
   | refine WaysZ.two (i := 2) (j := 6) rfl rfl (by decide +kernel) (fun K k2 => ?_) (fun K k6 => ?_)
   | refine WaysZ.two (i := 4) (j := 6) rfl rfl (by decide +kernel) (fun K k4 => ?_) (fun K k6 => ?_)
   | refine Zo 6 rfl (fun K k6 => ?_) (by decide +kernel)
   | refine Zo 7 rfl (fun K k7 => ?_) (by decide +kernel)
   | refine WaysZ.two (i := 9) (j := 13) rfl rfl (by decide +kernel) (fun K k9 => ?_) (fun K k13 => ?_)
   | refine WaysZ.two (i := 12) (j := 13) rfl rfl (by decide +kernel) (fun K k12 => ?_) (fun K k13 => ?_)
   | refine Zo 13 rfl (fun K k13 => ?_) (by decide +kernel)
   | refine Zo 12 rfl (fun K k12 => ?_) (by decide +kernel)
   | refine Zo 9 rfl (fun K k9 => ?_) (by decide +kernel)
   | refine Zo 4 rfl (fun K k4 => ?_) (by decide +kernel)
   | refine Zo 2 rfl (fun K k2 => ?_) (by decide +kernel)
   | (
    refine WaysZ.done (by decide +kernel) ?_
    clear hHeld;go_wp2_with fail
    go_end0
    exact ⟨rfl, by rw [E.out, HX.out.1, HX.out.2]; exact ⟨_, _, _, _, by have := HL.out; simp; omega, hP⟩⟩)
 ·have E : Hid (optS' label b = []) := if_neg h0;have hi0 : ¬ (0 : Int) < (b.length : Int) := by omega
  have hi1 : decide ((0 : Int) < (b.length : Int)) = false := decide_eq_false hi0;have hi2 : decide (0 < b.length) = false := decide_eq_false h0;have HS := Hh hS;clear hS hb;go_enter Tryz.func100, Tryz.ntmps100
  go_wp2_with fail
  go_end0
  exact ⟨rfl, by rw [E.out, List.append_nil]; exact HS.out⟩
end
def pairsA (kty alg : Int) (kid : List UInt8) : List Itm := [intP 1, intP kty] ++ optS' 2 kid ++ (if alg = 0 then [] else [intP 3, intP alg])
def pairsL (kty crv alg : Int) (kid x d k : List UInt8) : List Itm :=
 pairsA kty alg kid ++ (if kty = 4 then optS' (-1) k else [intP (-1), intP crv] ++ optS' (-2) x ++ optS' (-4) d)
theorem optS_len (n : Int) (b : List UInt8) : (optS' n b).length ≤ 2 := by
 unfold optS'; split <;> simp
theorem pairsA_len (kty alg : Int) (kid : List UInt8) : (pairsA kty alg kid).length ≤ 6 := by
 have := optS_len 2 kid
 unfold pairsA
 split <;> simp <;> omega
def PairsOut (w : World) (H : Snap) (L : List Itm) (e : Ending) (w' : World) : Prop := ∃ v, e = .returned v ∧ RowOut w H L v w'
theorem key_pairs {H : Snap} (t v g : Int) (ht : -9223372036854775808 ≤ t ∧ t ≤ 9223372036854775807) (hv : -9223372036854775808 ≤ v ∧ v ≤ 9223372036854775807) (hg : -9223372036854775808 ≤ g ∧ g ≤ 9223372036854775807)
  {Ai : Option Addr} {ci : Nat} {kid : List UInt8} (hi : IsBytes H Ai ci kid) {Ax : Option Addr} {cx : Nat} {x : List UInt8} (hx : IsBytes H Ax cx x)
  {Ad : Option Addr} {cd : Nat} {d : List UInt8} (hd : IsBytes H Ad cd d) {Ak : Option Addr} {ck : Nat} {k : List UInt8} (hk : IsBytes H Ak ck k)
  (hl : kid.length ≤ 64 ∧ x.length ≤ 64 ∧ d.length ≤ 64 ∧ k.length ≤ 64) (w : World) (hH : Holds w H) :
  Calls Tryz.prog 83 #[.agg (keyC t v g Ai kid.length ci Ax x.length cx Ad d.length cd Ak k.length ck)] w (PairsOut w H (pairsL t v g kid x d k)) := by
 have hP := RS.nil ((Grows.refl hH).alloc (.cells (keyC t v g Ai kid.length ci Ax x.length cx Ad d.length cd Ak k.length ck) 60)) (hH.none_of_ge (Nat.le_refl _)) (Blk.new w 60 (keyC t v g Ai kid.length ci Ax x.length cx Ad d.length cd Ak k.length ck));have KC : Hid (keyC t v g Ai kid.length ci Ax x.length cx Ad d.length cd Ak k.length ck = #[.int .i64 t, .int .i64 v, .int .i64 g, .slice Ai kid.length ci, .slice Ax x.length cx, .slice Ad d.length cd, .slice Ak k.length ck]) := rfl;have D := Hh (And.intro ht (And.intro hv hg));have B1 := Hh (And.intro hi (And.intro hx (And.intro hd hk)));have BL := Hh hl;clear hi hx hd hk hl ht hv hg hH;go_enter Tryz.func83, Tryz.ntmps83
 go_upto_region 1 with fail
 go_cut [3] (fun s3 wx => ∃ B, s3 = .pointer (some ⟨B, 0, none⟩) ∧ PSt w H B (keyC t v g Ai kid.length ci Ax x.length cx Ad d.length cd Ak k.length ck) [intP 1, intP t] wx)
 case first =>
  obtain ⟨W1, hW1⟩ : ∃ W1, w.alloc (.cells (keyC t v g Ai kid.length ci Ax x.length cx Ad d.length cd Ak k.length ck) 60) = W1 := ⟨_, rfl⟩
  rw [hW1] at hP ⊢;clear hW1;replace hP := hP.drew;have c0 := hP.key.cell 0 rfl
  refine wp_region_waysZ 6 (fun wx => wx.cell? ⟨w.heap.size, 0, none⟩ = some (.int .i64 t)) (by kernel_rfl) (c0) (fun hHeld => ?_)
  repeat' first
   | (
    revert k0
    intro hK
    go_simp
    refine (cbor_Int 1 (by omega) (by omega) _ hP.grows.holds).mono ?_
    rintro e w3 ⟨v1, rfl, xa1, xb1, xc1, xd1, H1, rfl, hG1, hI1⟩
    have hP := hP.grow hG1
    try (have hM := hM.grow hG1)
    refine Ko hK ?_ fun hHeld => ?_
    ·exact hP.key.cell 0 rfl
    clear hK K)
   | (
    revert k3
    intro hK
    go_simp
    refine (cbor_Int t D.out.1.1 D.out.1.2 _ hP.grows.holds).mono ?_
    rintro e w4 ⟨v2, rfl, xa2, xb2, xc2, xd2, H2, rfl, hG2, hI2⟩
    have hP := hP.grow hG2;have hI1 := hI1.mono hG2.le
    try (have hM := hM.grow hG2)
    refine Ko hK ?_ fun hHeld => ?_
    ·exact hP.key.cell 0 rfl
    clear hK K)
   | (
    revert k4
    intro hK
    go_simp
    try (have hM := hM.lit ((ItemsC.one hI1).app (ItemsC.one hI2)) (by simp))
    have hP := hP.litR ((ItemsC.one hI1).app (ItemsC.one hI2)) (by simp)
    try (simp only [size_alloc, drew_heap] at hM)
    try (simp only [size_alloc, drew_heap] at hP)
    refine Ko hK ?_ fun hHeld => ?_
    ·exact hP.key.cell 0 rfl
    clear hK K)
   | (
    revert k5
    intro hK
    go_simp
    have hM := PM.start (bv := .slice none 0 0) hP;have hP := hP.alloc (.cells #[.slice none 0 0] 73)
    try (simp only [size_alloc, drew_heap] at hM)
    refine Ko hK ?_ fun hHeld => ?_
    ·exact hP.key.cell 0 rfl
    clear hK K)
   | (
    revert k6
    intro hK
    rw [if_pos (by rfl)]
    refine wp_store_cell _ _ _ rfl _ 0 _ rfl rfl _ _ hM.box size_items (by simp) rfl fun w13 hB13 hg13 => ?_
    have hM := hM.setBox (by simpa using hB13) hg13
    refine Kz hK ?_
    clear hK K)
   | simp only [Act.put, zz1, zz2, zz3, zz4, zz5, zz6]
   | refine Zk 1 rfl hHeld ?_ (hs:=by decide +kernel)
   | refine Zk 2 rfl hHeld ?_ (hs:=by decide +kernel)
   | refine WaysZ.two (i := 0) (j := 5) rfl rfl (by decide +kernel) (fun K k0 => ?_) (fun K k5 => ?_)
   | refine WaysZ.two (i := 3) (j := 5) rfl rfl (by decide +kernel) (fun K k3 => ?_) (fun K k5 => ?_)
   | refine WaysZ.two (i := 4) (j := 5) rfl rfl (by decide +kernel) (fun K k4 => ?_) (fun K k5 => ?_)
   | refine Zo 5 rfl (fun K k5 => ?_) (by decide +kernel)
   | refine Zo 6 rfl (fun K k6 => ?_) (by decide +kernel)
   | refine Zo 4 rfl (fun K k4 => ?_) (by decide +kernel)
   | refine Zo 3 rfl (fun K k3 => ?_) (by decide +kernel)
   | refine Zo 0 rfl (fun K k0 => ?_) (by decide +kernel)
   | (
    refine WaysZ.done (by decide +kernel) ?_
    clear hHeld;go_wp2_with fail
    go_meet
    exact ⟨_, rfl, _, _, _, _, rfl, hM⟩)
 case rest =>
  clear hP;obtain ⟨B, rfl, hS⟩ := hcut;have c3 := hS.key.cell 3 rfl;have HS := Hh hS;clear hS;go_wp2_with fail
  refine (pairs_add 2 (by omega) (by omega) B1.out.1 (by have := BL.out; omega) (by simp) _ HS.out).mono ?_
  rintro e w2 ⟨rfl, hS⟩
  clear HS c3;have c2 := hS.key.cell 2 rfl;go_upto_if 17 with fail
  go_cut [17] (fun s17 wx => PSt w H B (keyC t v g Ai kid.length ci Ax x.length cx Ad d.length cd Ak k.length ck) (pairsA t g kid) wx)
  case first =>
   by_cases hg0 : g = 0
   ·subst hg0;have HS := Hh hS;clear hS;go_wp2_with fail
    go_meet
    rw [pairsA, if_pos rfl, List.append_nil]
    exact HS.out
   ·have b1 : (g != 0) = true := by simp [hg0]
    have p1 : (g = 0) = False := eq_false hg0;have EP : Hid (pairsA t g kid = [intP 1, intP t] ++ optS' 2 kid ++ [intP 3, intP g]) := by rw [Hid, pairsA, if_neg hg0]
    have HLq : Hid (([intP 1, intP t] ++ optS' 2 kid).length ≤ 1000) := by have := optS_len 2 kid; rw [Hid]; simp; omega
    clear hg0
    generalize [intP 1, intP t] ++ optS' 2 kid = L at hS EP HLq
    obtain ⟨Hr, VA, m, vc, hm, hP⟩ := hS;have HL := Hh (And.intro hm HLq.out);have hmI : (m : Int) < (m : Int) + 2 := by omega
    have hmJ : (m : Int) + 1 < (m : Int) + 2 := by omega
    have hm0 : (0 : Int) ≤ (m : Int) + 1 := by omega
    have hmN : m < m + 2 := by omega
    have hw1 : IntKind.i64.wrap ((m : Int) + 1) = (m : Int) + 1 := IntWalk.i64_in _ (by have := HLq.out; omega);obtain ⟨X1, hX1⟩ : ∃ X, intP 3 = X := ⟨_, rfl⟩
    obtain ⟨X2, hX2⟩ : ∃ X, intP g = X := ⟨_, rfl⟩
    have HX := Hh (And.intro hX1 hX2);clear hm hX1 hX2 HLq;have c0 := hP.box.cell 0 rfl;go_upto_region 5 with fail
    replace hP := hP.drew
    refine wp_region_waysZ 7 (fun wx => wx.cell? ⟨B, 0, none⟩ = some (.slice VA m vc) ∧ wx.cell? ⟨w.heap.size, 2, none⟩ = some (.int .i64 g)) (by kernel_rfl) (⟨c0, hP.row.key.cell 2 rfl⟩) (fun hHeld => ?_)
    repeat' first
     | (
      revert k1
      intro hK
      go_simp
      refine (cbor_Int (3) (by omega) (by omega) _ hP.row.grows.holds).mono ?_
      rintro e w1 ⟨v1, rfl, xa1, xb1, xc1, xd1, H1, rfl, hG1, hI1⟩
      rw [HX.out.1] at hI1 ⊢;have hP := hP.grow hG1
      try (have hZ := hZ.below hG1.below)
      refine Ko hK ?_ fun hHeld => ?_
      ·exact ⟨hP.box.cell 0 rfl, hP.row.key.cell 2 rfl⟩
      clear hK K)
     | (
      revert k4
      intro hK
      go_simp
      refine (cbor_Int g D.out.2.2.1 D.out.2.2.2 _ hP.row.grows.holds).mono ?_
      rintro e w4 ⟨v2, rfl, xa2, xb2, xc2, xd2, H2, rfl, hG2, hI2⟩
      rw [HX.out.2] at hI2 ⊢;have hP := hP.grow hG2
      try (have hZ := hZ.below hG2.below)
      have hI1 := hI1.mono hG2.le
      refine Ko hK ?_ fun hHeld => ?_
      ·exact ⟨hP.box.cell 0 rfl, hP.row.key.cell 2 rfl⟩
      clear hK K)
     | (
      revert k6
      intro hK
      go_simp
      have hZ := hP.litZ zero2 75;have hP := hP.alloc (.cells zero2 75)
      refine Ko hK ?_ fun hHeld => ?_
      ·exact ⟨hP.box.cell 0 rfl, hP.row.key.cell 2 rfl⟩
      clear hK K)
     | (
      revert k7
      intro hK
      rw [if_pos (by rfl)]
      refine wp_app_items _ _ rfl _ _ _ _ rfl hP.row.own _ _ _ zero2.toList [zeroItm, zeroItm] rfl rfl (zero2_items _) hZ (by have := HL.out; simp; omega) hP.row.base fun v7 w7 hown7 hg7 hat7 => ?_
      have hP := hP.app hown7 hg7 hat7;obtain ⟨A7, c7, rfl, _⟩ := hown7.form;rw [show (L ++ [zeroItm, zeroItm]).length = m + 2 by have := HL.out; simp; omega] at hP ⊢;obtain ⟨g7, _, hA7, _⟩ := hP.put (L1 := L) (z := zeroItm) (L2 := [zeroItm]) (i := m) rfl HL.out.1
      cases hA7
      clear hown7 hg7 hat7
      refine Kz hK ?_
      clear hK K)
     | (
      revert k9
      intro hK
      rw [if_pos (by rfl)];obtain ⟨g1, cur1, hA1, hB1, hs1, hput1⟩ := hP.put (L1 := L) (z := zeroItm) (L2 := [zeroItm]) (i := m) rfl (by have := HL.out; first | omega | (simp; omega))
      cases hA1
      refine wp_store_at _ _ _ rfl g7 ((m) * 4) _ rfl rfl _ _ hB1 size_item hs1 (one4 _ _ _ _ rfl rfl rfl rfl) fun w9 hB9 hg9 => ?_
      have hP := hput1 _ _ X1 (L ++ [X1, zeroItm]) (ItemsC.one hI1) rfl hB9 hg9;clear hput1 hB1 hs1 hB9 hg9
      refine Kz hK ?_
      clear hK K)
     | (
      revert k12
      intro hK
      rw [if_pos (by rfl)];obtain ⟨g2, cur2, hA2, hB2, hs2, hput2⟩ := hP.put (L1 := L ++ [X1]) (z := zeroItm) (L2 := []) (i := m + 1) (by rw [List.append_assoc]; rfl) (by have := HL.out; first | omega | (simp; omega))
      cases hA2
      refine wp_store_at _ _ _ rfl g7 ((m + 1) * 4) _ rfl rfl _ _ hB2 size_item hs2 (one4 _ _ _ _ rfl rfl rfl rfl) fun w12 hB12 hg12 => ?_
      have hP := hput2 _ _ X2 (L ++ [X1, X2]) (ItemsC.one hI2) (by rw [List.append_assoc]; rfl) hB12 hg12;clear hput2 hB2 hs2 hB12 hg12
      refine Kz hK ?_
      clear hK K)
     | (
      revert k13
      intro hK
      rw [if_pos (by rfl)]
      refine wp_store_cell _ _ _ rfl B 0 (.slice (some ⟨g7, 0, none⟩) (m + 2) c7) rfl rfl _ _ hP.box size_items (by simp) rfl fun w13 hB13 hg13 => ?_
      have hP := hP.setBox (by simpa using hB13) hg13;clear hB13 hg13
      refine Kz hK ?_
      clear hK K)
     | simp only [Act.put, zz1, zz2, zz3, zz4, zz5, zz6]
     | refine Zk 0 rfl hHeld ?_ (hs:=by decide +kernel)
     | refine Zk 2 rfl hHeld ?_ (hs:=by decide +kernel)
     | refine Zk 3 rfl hHeld ?_ (hs:=by decide +kernel)
     | refine Zk 5 rfl hHeld ?_ (hs:=by decide +kernel)
     | refine ZkT 10 rfl (fun _ => hHeld) ?_ (hs:=by decide +kernel)
     | refine ZkT 8 rfl (fun h => absurd h (by decide)) ?_ (hs:=by decide +kernel)
     | refine ZkT 11 rfl (fun h => absurd h (by decide)) ?_ (hs:=by decide +kernel)
     | refine WaysZ.two (i := 1) (j := 6) rfl rfl (by decide +kernel) (fun K k1 => ?_) (fun K k6 => ?_)
     | refine WaysZ.two (i := 4) (j := 6) rfl rfl (by decide +kernel) (fun K k4 => ?_) (fun K k6 => ?_)
     | refine Zo 6 rfl (fun K k6 => ?_) (by decide +kernel)
     | refine Zo 7 rfl (fun K k7 => ?_) (by decide +kernel)
     | refine WaysZ.two (i := 9) (j := 13) rfl rfl (by decide +kernel) (fun K k9 => ?_) (fun K k13 => ?_)
     | refine WaysZ.two (i := 12) (j := 13) rfl rfl (by decide +kernel) (fun K k12 => ?_) (fun K k13 => ?_)
     | refine Zo 13 rfl (fun K k13 => ?_) (by decide +kernel)
     | refine Zo 12 rfl (fun K k12 => ?_) (by decide +kernel)
     | refine Zo 9 rfl (fun K k9 => ?_) (by decide +kernel)
     | refine Zo 4 rfl (fun K k4 => ?_) (by decide +kernel)
     | refine Zo 1 rfl (fun K k1 => ?_) (by decide +kernel)
     | (
      refine WaysZ.done (by decide +kernel) ?_
      clear hHeld;go_wp2_with fail
      go_meet
      exact (by rw [EP.out, HX.out.1, HX.out.2]; exact ⟨_, _, _, _, by have := HL.out; simp; omega, hP⟩))
  case rest =>
   clear hS c2;have hS := hcut;clear hcut;have c0 := hS.key.cell 0 rfl
   by_cases ht4 : t = 4
   ·subst ht4;have c6 := hS.key.cell 6 rfl;have HS := Hh hS;clear hS;go_wp2_with fail
    refine (pairs_add (-1) (by omega) (by omega) B1.out.2.2.2 (by have := BL.out; omega) (by have := pairsA_len 4 g kid; omega) _ HS.out).mono ?_
    rintro e w5 ⟨rfl, hS⟩
    clear HS c6 c0;obtain ⟨A9, m9, c9, cB, hO⟩ := hS.out;clear hS;go_wp2_with fail
    go_ret
    exact ⟨_, rfl, by rw [pairsL, if_pos rfl]; exact hO⟩
   ·have b4 : (t == 4) = false := by rw [beq_eq_false_iff_ne]; exact ht4
    have p4 : (t = 4) = False := eq_false ht4;have EL : Hid (pairsL t v g kid x d k = pairsA t g kid ++ ([intP (-1), intP v] ++ optS' (-2) x ++ optS' (-4) d)) := by rw [Hid, pairsL, if_neg ht4]
    have HLq : Hid ((pairsA t g kid).length ≤ 6) := pairsA_len t g kid;clear ht4
    generalize pairsA t g kid = L at hS EL HLq
    go_upto_region 9 with fail
    go_cut [37] (fun s37 wx => PSt w H B (keyC t v g Ai kid.length ci Ax x.length cx Ad d.length cd Ak k.length ck) (L ++ [intP (-1), intP v]) wx)
    case first =>
     have c1 := hS.key.cell 1 rfl;obtain ⟨Hr, VA, m, vc, hm, hP⟩ := hS;have HL := Hh (And.intro hm (show L.length ≤ 1000 by have := HLq.out; omega));have hmI : (m : Int) < (m : Int) + 2 := by omega
     have hmJ : (m : Int) + 1 < (m : Int) + 2 := by omega
     have hm0 : (0 : Int) ≤ (m : Int) + 1 := by omega
     have hmN : m < m + 2 := by omega
     have hw1 : IntKind.i64.wrap ((m : Int) + 1) = (m : Int) + 1 := IntWalk.i64_in _ (by have := HLq.out; omega);obtain ⟨X1, hX1⟩ : ∃ X, intP (-1) = X := ⟨_, rfl⟩
     obtain ⟨X2, hX2⟩ : ∃ X, intP v = X := ⟨_, rfl⟩
     have HX := Hh (And.intro hX1 hX2);clear hm hX1 hX2;have c0 := hP.box.cell 0 rfl;replace hP := hP.drew
     refine wp_region_waysZ 7 (fun wx => wx.cell? ⟨B, 0, none⟩ = some (.slice VA m vc) ∧ wx.cell? ⟨w.heap.size, 1, none⟩ = some (.int .i64 v)) (by kernel_rfl) (⟨c0, hP.row.key.cell 1 rfl⟩) (fun hHeld => ?_)
     repeat' first
      | (
       revert k1
       intro hK
       go_simp
       refine (cbor_Int (-1) (by omega) (by omega) _ hP.row.grows.holds).mono ?_
       rintro e w1 ⟨v1, rfl, xa1, xb1, xc1, xd1, H1, rfl, hG1, hI1⟩
       rw [HX.out.1] at hI1 ⊢;have hP := hP.grow hG1
       try (have hZ := hZ.below hG1.below)
       refine Ko hK ?_ fun hHeld => ?_
       ·exact ⟨hP.box.cell 0 rfl, hP.row.key.cell 1 rfl⟩
       clear hK K)
      | (
       revert k4
       intro hK
       go_simp
       refine (cbor_Int v D.out.2.1.1 D.out.2.1.2 _ hP.row.grows.holds).mono ?_
       rintro e w4 ⟨v2, rfl, xa2, xb2, xc2, xd2, H2, rfl, hG2, hI2⟩
       rw [HX.out.2] at hI2 ⊢;have hP := hP.grow hG2
       try (have hZ := hZ.below hG2.below)
       have hI1 := hI1.mono hG2.le
       refine Ko hK ?_ fun hHeld => ?_
       ·exact ⟨hP.box.cell 0 rfl, hP.row.key.cell 1 rfl⟩
       clear hK K)
      | (
       revert k6
       intro hK
       go_simp
       have hZ := hP.litZ zero2 75;have hP := hP.alloc (.cells zero2 75)
       refine Ko hK ?_ fun hHeld => ?_
       ·exact ⟨hP.box.cell 0 rfl, hP.row.key.cell 1 rfl⟩
       clear hK K)
      | (
       revert k7
       intro hK
       rw [if_pos (by rfl)]
       refine wp_app_items _ _ rfl _ _ _ _ rfl hP.row.own _ _ _ zero2.toList [zeroItm, zeroItm] rfl rfl (zero2_items _) hZ (by have := HL.out; simp; omega) hP.row.base fun v7 w7 hown7 hg7 hat7 => ?_
       have hP := hP.app hown7 hg7 hat7;obtain ⟨A7, c7, rfl, _⟩ := hown7.form;rw [show (L ++ [zeroItm, zeroItm]).length = m + 2 by have := HL.out; simp; omega] at hP ⊢;obtain ⟨g7, _, hA7, _⟩ := hP.put (L1 := L) (z := zeroItm) (L2 := [zeroItm]) (i := m) rfl HL.out.1
       cases hA7
       clear hown7 hg7 hat7
       refine Kz hK ?_
       clear hK K)
      | (
       revert k9
       intro hK
       rw [if_pos (by rfl)];obtain ⟨g1, cur1, hA1, hB1, hs1, hput1⟩ := hP.put (L1 := L) (z := zeroItm) (L2 := [zeroItm]) (i := m) rfl (by have := HL.out; first | omega | (simp; omega))
       cases hA1
       refine wp_store_at _ _ _ rfl g7 ((m) * 4) _ rfl rfl _ _ hB1 size_item hs1 (one4 _ _ _ _ rfl rfl rfl rfl) fun w9 hB9 hg9 => ?_
       have hP := hput1 _ _ X1 (L ++ [X1, zeroItm]) (ItemsC.one hI1) rfl hB9 hg9;clear hput1 hB1 hs1 hB9 hg9
       refine Kz hK ?_
       clear hK K)
      | (
       revert k12
       intro hK
       rw [if_pos (by rfl)];obtain ⟨g2, cur2, hA2, hB2, hs2, hput2⟩ := hP.put (L1 := L ++ [X1]) (z := zeroItm) (L2 := []) (i := m + 1) (by rw [List.append_assoc]; rfl) (by have := HL.out; first | omega | (simp; omega))
       cases hA2
       refine wp_store_at _ _ _ rfl g7 ((m + 1) * 4) _ rfl rfl _ _ hB2 size_item hs2 (one4 _ _ _ _ rfl rfl rfl rfl) fun w12 hB12 hg12 => ?_
       have hP := hput2 _ _ X2 (L ++ [X1, X2]) (ItemsC.one hI2) (by rw [List.append_assoc]; rfl) hB12 hg12;clear hput2 hB2 hs2 hB12 hg12
       refine Kz hK ?_
       clear hK K)
      | (
       revert k13
       intro hK
       rw [if_pos (by rfl)]
       refine wp_store_cell _ _ _ rfl B 0 (.slice (some ⟨g7, 0, none⟩) (m + 2) c7) rfl rfl _ _ hP.box size_items (by simp) rfl fun w13 hB13 hg13 => ?_
       have hP := hP.setBox (by simpa using hB13) hg13;clear hB13 hg13
       refine Kz hK ?_
       clear hK K)
      | simp only [Act.put, zz1, zz2, zz3, zz4, zz5, zz6]
      | refine Zk 0 rfl hHeld ?_ (hs:=by decide +kernel)
      | refine Zk 2 rfl hHeld ?_ (hs:=by decide +kernel)
      | refine Zk 3 rfl hHeld ?_ (hs:=by decide +kernel)
      | refine Zk 5 rfl hHeld ?_ (hs:=by decide +kernel)
      | refine ZkT 10 rfl (fun _ => hHeld) ?_ (hs:=by decide +kernel)
      | refine ZkT 8 rfl (fun h => absurd h (by decide)) ?_ (hs:=by decide +kernel)
      | refine ZkT 11 rfl (fun h => absurd h (by decide)) ?_ (hs:=by decide +kernel)
      | refine WaysZ.two (i := 1) (j := 6) rfl rfl (by decide +kernel) (fun K k1 => ?_) (fun K k6 => ?_)
      | refine WaysZ.two (i := 4) (j := 6) rfl rfl (by decide +kernel) (fun K k4 => ?_) (fun K k6 => ?_)
      | refine Zo 6 rfl (fun K k6 => ?_) (by decide +kernel)
      | refine Zo 7 rfl (fun K k7 => ?_) (by decide +kernel)
      | refine WaysZ.two (i := 9) (j := 13) rfl rfl (by decide +kernel) (fun K k9 => ?_) (fun K k13 => ?_)
      | refine WaysZ.two (i := 12) (j := 13) rfl rfl (by decide +kernel) (fun K k12 => ?_) (fun K k13 => ?_)
      | refine Zo 13 rfl (fun K k13 => ?_) (by decide +kernel)
      | refine Zo 12 rfl (fun K k12 => ?_) (by decide +kernel)
      | refine Zo 9 rfl (fun K k9 => ?_) (by decide +kernel)
      | refine Zo 4 rfl (fun K k4 => ?_) (by decide +kernel)
      | refine Zo 1 rfl (fun K k1 => ?_) (by decide +kernel)
      | (
       refine WaysZ.done (by decide +kernel) ?_
       clear hHeld;go_wp2_with fail
       go_meet
       exact (by rw [HX.out.1, HX.out.2]; exact ⟨_, _, _, _, by have := HL.out; simp; omega, hP⟩))
    case rest =>
     clear hS c0;have hS := hcut;clear hcut;have c4 := hS.key.cell 4 rfl;have HS := Hh hS;clear hS;go_wp2_with fail
     refine (pairs_add (-2) (by omega) (by omega) B1.out.2.1 (by have := BL.out; omega) (by have := HLq.out; simp; omega) _ HS.out).mono ?_
     rintro e w5 ⟨rfl, hS⟩
     clear HS c4;have c5 := hS.key.cell 5 rfl;have HS := Hh hS;clear hS;go_wp2_with fail
     refine (pairs_add (-4) (by omega) (by omega) B1.out.2.2.1 (by have := BL.out; omega) (by have := HLq.out; have := optS_len (-2) x; simp; omega) _ HS.out).mono ?_
     rintro e w6 ⟨rfl, hS⟩
     clear HS c5;obtain ⟨A9, m9, c9, cB, hO⟩ := hS.out;clear hS;go_wp2_with fail
     go_ret
     exact ⟨_, rfl, by rw [EL.out]; show RowOut w H _ (Value.slice A9 m9 c9) w6; rw [← List.append_assoc, ← List.append_assoc]; exact hO⟩
end Go.Proofs.YtgaoknihklmakaaGreatDoor
