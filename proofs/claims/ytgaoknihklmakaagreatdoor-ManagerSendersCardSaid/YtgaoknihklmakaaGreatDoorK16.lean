/- squeezed. Walks: the pairs of a key, by the  -/
import Derived.Test.YtgaoknihklmakaaGreatDoorK15
import Derived.Test.YtgaoknihklmakaaGreatDoorK05
import Derived.Test.YtgaoknihklmakaaGreatDoorK03
import Derived.Test.YtgaoknihklmakaaGreatDoorK08
import Derived.Test.YtgaoknihklmakaaGreatDoorK02
import Derived.Test.YtgaoknihklmakaaGreatDoorK14
import Derived.Shelf.GgSortFunc.SmallK
import Derived.Test.YtgaoknihklmakaaGreatDoorK00
import Derived.Test.YtgaoknihklmakaaGreatDoorK01
set_option linter.unusedVariables false
set_option linter.unusedSimpArgs false
set_option maxRecDepth 100000
set_option maxHeartbeats 25600000
namespace Go.Proofs.YtgaoknihklmakaaGreatDoor
open Go.RowKit
def RSt (W0 : World) (H : Snap) (kc : Array Value) (v : Value) (L : List Itm) (w : World) : Prop := ∃ Hr A m c, v = .slice A m c ∧ m = L.length ∧ RS W0 H kc (.slice A m c) L w Hr
theorem RSt.key {W0 w : World} {H : Snap} {kc : Array Value} {v : Value} {L : List Itm} (h : RSt W0 H kc v L w) : Blk w W0.heap.size 60 kc := by
 obtain ⟨Hr, A, m, c, _, _, hP⟩ := h
 exact hP.key
theorem ref11_pairs {H : Snap} (t v g : Int) (ht : -9223372036854775808 ≤ t ∧ t ≤ 9223372036854775807) (hv : -9223372036854775808 ≤ v ∧ v ≤ 9223372036854775807) (hg : -9223372036854775808 ≤ g ∧ g ≤ 9223372036854775807)
  {Ai : Option Addr} {ci : Nat} {kid : List UInt8} (hi : IsBytes H Ai ci kid) {Ax : Option Addr} {cx : Nat} {x : List UInt8} (hx : IsBytes H Ax cx x)
  {Ad : Option Addr} {cd : Nat} {d : List UInt8} (hd : IsBytes H Ad cd d) {Ak : Option Addr} {ck : Nat} {k : List UInt8} (hk : IsBytes H Ak ck k)
  (hl : kid.length ≤ 64 ∧ x.length ≤ 64 ∧ d.length ≤ 64 ∧ k.length ≤ 64) (hk4 : t = 4 → 0 < k.length) (w : World) (hH : Holds w H) :
  Calls Tryz.prog 56 #[.agg (keyC t v g Ai kid.length ci Ax x.length cx Ad d.length cd Ak k.length ck)] w (PairsOut w H (pairsL t v g kid x d k)) := by
 have hP := RS.nil ((Grows.refl hH).alloc (.cells (keyC t v g Ai kid.length ci Ax x.length cx Ad d.length cd Ak k.length ck) 60)) (hH.none_of_ge (Nat.le_refl _)) (Blk.new w 60 (keyC t v g Ai kid.length ci Ax x.length cx Ad d.length cd Ak k.length ck));have KC : Hid ((keyC t v g Ai kid.length ci Ax x.length cx Ad d.length cd Ak k.length ck) = #[.int .i64 t, .int .i64 v, .int .i64 g, .slice Ai kid.length ci, .slice Ax x.length cx, .slice Ad d.length cd, .slice Ak k.length ck]) := rfl;have D := Hh (And.intro ht (And.intro hv hg));have B1 := Hh (And.intro hi (And.intro hx (And.intro hd hk)));have BL := Hh hl;have K4 := Hh hk4;clear hi hx hd hk hl ht hv hg hH hk4;go_enter Tryz.func56, Tryz.ntmps56
 go_upto_region 1 with fail
 go_cut [3] (fun s3 wx => RSt w H (keyC t v g Ai kid.length ci Ax x.length cx Ad d.length cd Ak k.length ck) s3 [intP 1, intP t] wx)
 case first =>
  obtain ⟨W1, hW1⟩ : ∃ W1, w.alloc (.cells (keyC t v g Ai kid.length ci Ax x.length cx Ad d.length cd Ak k.length ck) 60) = W1 := ⟨_, rfl⟩
  rw [hW1] at hP ⊢;clear hW1;have c0 := hP.key.cell 0 rfl;replace hP := hP.drew
  refine wp_region_waysZ 5 (fun wx => wx.cell? ⟨w.heap.size, 0, none⟩ = some (.int .i64 t)) (by kernel_rfl) (c0) (fun hHeld => ?_)
  refine Zk 1 rfl hHeld ?_
  refine Zk 2 rfl hHeld ?_
  refine Zo 0 rfl fun K hK => ?_
  go_simp
  refine (ref_Int (1) (by omega) (by omega) _ hP.grows.holds).mono ?_
  rintro e w3 ⟨v1, rfl, xa1, xb1, xc1, xd1, H1, rfl, hG1, hI1⟩
  have hP := hP.grow hG1
  refine Ko hK ?_ fun hHeld => ?_
  ·exact hP.key.cell 0 rfl
  clear hK K
  refine Zo 3 rfl fun K hK => ?_
  go_simp
  refine (ref_Int t D.out.1.1 D.out.1.2 _ hP.grows.holds).mono ?_
  rintro e w4 ⟨v2, rfl, xa2, xb2, xc2, xd2, H2, rfl, hG2, hI2⟩
  have hP := hP.grow hG2;have hI1 := hI1.mono hG2.le
  refine Ko hK ?_ fun hHeld => ?_
  ·exact hP.key.cell 0 rfl
  clear hK K
  refine Zo 4 rfl fun K hK => ?_
  go_simp
  have hP := hP.litR ((ItemsC.one hI1).app (ItemsC.one hI2)) (by simp)
  refine Ko hK ?_ fun hHeld => ?_
  ·exact hP.key.cell 0 rfl
  clear hK K
  refine Zo 5 rfl fun K hK => ?_
  go_simp
  refine Kz hK ?_
  clear hK K
  refine WaysZ.done (by kernel_rfl) ?_
  clear hHeld;go_wp2_with fail
  go_meet
  exact ⟨_, _, _, _, rfl, rfl, hP⟩
 case rest =>
  clear hP;have hS := hcut;clear hcut;have HLq : Hid (([intP 1, intP t] : List Itm).length ≤ 1000) := by rw [Hid]; simp
  have c3 := hS.key.cell 3 rfl;go_upto_if 12 with fail
  go_cut [3] (fun s3 wx => RSt w H (keyC t v g Ai kid.length ci Ax x.length cx Ad d.length cd Ak k.length ck) s3 ([intP 1, intP t] ++ optS' 2 kid) wx)
  case first =>
   by_cases h0 : 0 < kid.length
   case neg =>
    have E : Hid (([intP 1, intP t] ++ optS' 2 kid) = [intP 1, intP t]) := by rw [Hid, show optS' (2) kid = [] from if_neg h0, List.append_nil]
    have hi0 : ¬ (0 : Int) < (kid.length : Int) := by omega
    have hi1 : decide ((0 : Int) < (kid.length : Int)) = false := decide_eq_false hi0;have hi2 : decide (0 < kid.length) = false := decide_eq_false h0;clear h0;have HS := Hh hS;clear hS;go_wp2_with fail
    go_meet
    rw [E.out]
    exact HS.out
   have hi0 : (0 : Int) < (kid.length : Int) := by omega
   have hi1 : decide ((0 : Int) < (kid.length : Int)) = true := decide_eq_true hi0;have hi2 : decide (0 < kid.length) = true := decide_eq_true h0;have E : Hid (([intP 1, intP t] ++ optS' 2 kid) = [intP 1, intP t] ++ [intP (2), strI' kid]) := by rw [Hid, show optS' (2) kid = [intP (2), strI' kid] from if_pos h0]
   clear h0;have HLq := HLq;obtain ⟨LL, hLL⟩ : ∃ LL, [intP 1, intP t] = LL := ⟨_, rfl⟩
   rw [hLL] at hS HLq;have HLE := Hh hLL;clear hLL;obtain ⟨Hr, VA, m, vc, rfl, hm, hP⟩ := hS;have HL := Hh (And.intro hm HLq.out);clear hm;go_upto_region 3 with fail
   have c3 := hP.key.cell 3 rfl;replace hP := hP.drew
   refine wp_region_waysZ 6 (fun wx => wx.cell? ⟨w.heap.size, 3, none⟩ = some (.slice Ai kid.length ci)) (by kernel_rfl) (c3) (fun hHeld => ?_)
   refine Zk 0 rfl hHeld ?_
   refine Zk 2 rfl hHeld ?_
   refine Zk 3 rfl hHeld ?_
   refine Zo 1 rfl fun K hK => ?_
   go_simp
   refine (ref_Int (2) (by omega) (by omega) _ hP.grows.holds).mono ?_
   rintro e w3 ⟨v1, rfl, xa1, xb1, xc1, xd1, H1, rfl, hG1, hI1⟩
   have hP := hP.grow hG1
   refine Ko hK ?_ fun hHeld => ?_
   ·exact hP.key.cell 3 rfl
   clear hK K
   refine Zo 4 rfl fun K hK => ?_
   go_simp
   refine (ref_Bytes rfl (by have := BL.out; omega) _ (Src.of_row (B1.out.1.row.mono hP.grows.le) hP.grows.holds) hP.grows.holds).mono ?_
   rintro e w4 ⟨v2, rfl, xa2, xb2, xc2, xd2, H2, rfl, hG2, hI2⟩
   have hP := hP.grow hG2;have hI1 := hI1.mono hG2.le
   refine Ko hK ?_ fun hHeld => ?_
   ·exact hP.key.cell 3 rfl
   clear hK K
   refine Zo 5 rfl fun K hK => ?_
   go_simp
   have hZ := hP.litZ (itemC (intP (2)) xa1 xb1 xc1 xd1 ++ itemC (.mk 2 0 kid []) xa2 xb2 xc2 xd2).toArray 75;have hP := hP.alloc (.cells (itemC (intP (2)) xa1 xb1 xc1 xd1 ++ itemC (.mk 2 0 kid []) xa2 xb2 xc2 xd2).toArray 75)
   refine Ko hK ?_ fun hHeld => ?_
   ·exact hP.key.cell 3 rfl
   clear hK K
   refine Zo 6 rfl fun K hK => ?_
   rw [if_pos (by rfl)]
   refine wp_app_items _ _ rfl _ _ _ _ rfl hP.own _ _ _ _ [_, _] rfl rfl ((ItemsC.one hI1).app (ItemsC.one hI2)) hZ (by have := HL.out; simp; omega) hP.base fun v7 w7 hown7 hg7 hat7 => ?_
   have hP := hP.app hown7 hg7 hat7;obtain ⟨A7, c7, rfl, _⟩ := hown7.form;obtain ⟨m7, hm7⟩ : ∃ m7, (LL ++ [intP (2), .mk 2 0 kid []]).length = m7 := ⟨_, rfl⟩
   rw [hm7] at hP ⊢;have HM7 := Hh hm7;clear hown7 hg7 hat7 hZ hm7
   refine Kz hK ?_
   clear hK K
   refine ZkT 7 rfl (fun h => absurd h (by decide)) ?_
   refine WaysZ.done (by kernel_rfl) ?_
   clear hHeld;go_wp2_with fail
   go_meet
   exact (by rw [E.out, HLE.out]; exact ⟨_, _, _, _, rfl, HM7.out.symm, hP⟩)
  case rest =>
   clear hS c3;have hS := hcut;clear hcut;have HLq : Hid (([intP 1, intP t] ++ optS' 2 kid).length ≤ 1000) := by have := optS_len 2 kid; rw [Hid]; simp; omega
   have c2 := hS.key.cell 2 rfl;go_upto_if 22 with fail
   go_cut [3] (fun s3 wx => RSt w H (keyC t v g Ai kid.length ci Ax x.length cx Ad d.length cd Ak k.length ck) s3 (pairsA t g kid) wx)
   case first =>
    by_cases h0 : g = 0
    case pos =>
     have E : Hid ((pairsA t g kid) = ([intP 1, intP t] ++ optS' 2 kid)) := by rw [Hid, pairsA, if_pos h0, List.append_nil]
     subst h0;have HS := Hh hS;clear hS;go_wp2_with fail
     go_meet
     rw [E.out]
     exact HS.out
    have b1 : (g != 0) = true := by simp [h0]
    have p1 : (g = 0) = False := eq_false h0;have E : Hid ((pairsA t g kid) = ([intP 1, intP t] ++ optS' 2 kid) ++ [intP 3, intP g]) := by rw [Hid, pairsA, if_neg h0]
    clear h0;have HLq := HLq;obtain ⟨LL, hLL⟩ : ∃ LL, ([intP 1, intP t] ++ optS' 2 kid) = LL := ⟨_, rfl⟩
    rw [hLL] at hS HLq;have HLE := Hh hLL;clear hLL;obtain ⟨Hr, VA, m, vc, rfl, hm, hP⟩ := hS;have HL := Hh (And.intro hm HLq.out);clear hm;go_upto_region 5 with fail
    have c2 := hP.key.cell 2 rfl;replace hP := hP.drew
    refine wp_region_waysZ 6 (fun wx => wx.cell? ⟨w.heap.size, 2, none⟩ = some (.int .i64 g)) (by kernel_rfl) (c2) (fun hHeld => ?_)
    refine Zk 0 rfl hHeld ?_
    refine Zk 2 rfl hHeld ?_
    refine Zk 3 rfl hHeld ?_
    refine Zo 1 rfl fun K hK => ?_
    go_simp
    refine (ref_Int (3) (by omega) (by omega) _ hP.grows.holds).mono ?_
    rintro e w3 ⟨v1, rfl, xa1, xb1, xc1, xd1, H1, rfl, hG1, hI1⟩
    have hP := hP.grow hG1
    refine Ko hK ?_ fun hHeld => ?_
    ·exact hP.key.cell 2 rfl
    clear hK K
    refine Zo 4 rfl fun K hK => ?_
    go_simp
    refine (ref_Int g D.out.2.2.1 D.out.2.2.2 _ hP.grows.holds).mono ?_
    rintro e w4 ⟨v2, rfl, xa2, xb2, xc2, xd2, H2, rfl, hG2, hI2⟩
    have hP := hP.grow hG2;have hI1 := hI1.mono hG2.le
    refine Ko hK ?_ fun hHeld => ?_
    ·exact hP.key.cell 2 rfl
    clear hK K
    refine Zo 5 rfl fun K hK => ?_
    go_simp
    have hZ := hP.litZ (itemC (intP (3)) xa1 xb1 xc1 xd1 ++ itemC (intP g) xa2 xb2 xc2 xd2).toArray 75;have hP := hP.alloc (.cells (itemC (intP (3)) xa1 xb1 xc1 xd1 ++ itemC (intP g) xa2 xb2 xc2 xd2).toArray 75)
    refine Ko hK ?_ fun hHeld => ?_
    ·exact hP.key.cell 2 rfl
    clear hK K
    refine Zo 6 rfl fun K hK => ?_
    rw [if_pos (by rfl)]
    refine wp_app_items _ _ rfl _ _ _ _ rfl hP.own _ _ _ _ [_, _] rfl rfl ((ItemsC.one hI1).app (ItemsC.one hI2)) hZ (by have := HL.out; simp; omega) hP.base fun v7 w7 hown7 hg7 hat7 => ?_
    have hP := hP.app hown7 hg7 hat7;obtain ⟨A7, c7, rfl, _⟩ := hown7.form;obtain ⟨m7, hm7⟩ : ∃ m7, (LL ++ [intP (3), intP g]).length = m7 := ⟨_, rfl⟩
    rw [hm7] at hP ⊢;have HM7 := Hh hm7;clear hown7 hg7 hat7 hZ hm7
    refine Kz hK ?_
    clear hK K
    refine ZkT 7 rfl (fun h => absurd h (by decide)) ?_
    refine WaysZ.done (by kernel_rfl) ?_
    clear hHeld;go_wp2_with fail
    go_meet
    exact (by rw [E.out, HLE.out]; exact ⟨_, _, _, _, rfl, HM7.out.symm, hP⟩)
   case rest =>
    clear hS c2;have hS := hcut;clear hcut;have HLq : Hid ((pairsA t g kid).length ≤ 1000) := by have := pairsA_len t g kid; rw [Hid]; omega
    have c0 := hS.key.cell 0 rfl
    by_cases ht4 : t = 4
    case pos =>
     subst ht4;have HK4 := Hh (K4.out rfl);have E : Hid (pairsL 4 v g kid x d k = pairsA 4 g kid ++ [intP (-1), strI' k]) := by rw [Hid, pairsL, if_pos rfl, optS', if_pos HK4.out]
     clear K4;obtain ⟨LL, hLL⟩ : ∃ LL, (pairsA 4 g kid) = LL := ⟨_, rfl⟩
     rw [hLL] at hS HLq;have HLE := Hh hLL;clear hLL;obtain ⟨Hr, VA, m, vc, rfl, hm, hP⟩ := hS;have HL := Hh (And.intro hm HLq.out);clear hm;go_upto_region 7 with fail
     have c6 := hP.key.cell 6 rfl;replace hP := hP.drew
     refine wp_region_waysZ 6 (fun wx => wx.cell? ⟨w.heap.size, 6, none⟩ = some (.slice Ak k.length ck)) (by kernel_rfl) (c6) (fun hHeld => ?_)
     refine Zk 0 rfl hHeld ?_
     refine Zk 2 rfl hHeld ?_
     refine Zk 3 rfl hHeld ?_
     refine Zo 1 rfl fun K hK => ?_
     go_simp
     refine (ref_Int (-1) (by omega) (by omega) _ hP.grows.holds).mono ?_
     rintro e w3 ⟨v1, rfl, xa1, xb1, xc1, xd1, H1, rfl, hG1, hI1⟩
     have hP := hP.grow hG1
     refine Ko hK ?_ fun hHeld => ?_
     ·exact hP.key.cell 6 rfl
     clear hK K
     refine Zo 4 rfl fun K hK => ?_
     go_simp
     refine (ref_Bytes rfl (by have := BL.out; omega) _ (Src.of_row (B1.out.2.2.2.row.mono hP.grows.le) hP.grows.holds) hP.grows.holds).mono ?_
     rintro e w4 ⟨v2, rfl, xa2, xb2, xc2, xd2, H2, rfl, hG2, hI2⟩
     have hP := hP.grow hG2;have hI1 := hI1.mono hG2.le
     refine Ko hK ?_ fun hHeld => ?_
     ·exact hP.key.cell 6 rfl
     clear hK K
     refine Zo 5 rfl fun K hK => ?_
     go_simp
     have hZ := hP.litZ (itemC (intP (-1)) xa1 xb1 xc1 xd1 ++ itemC (.mk 2 0 k []) xa2 xb2 xc2 xd2).toArray 75;have hP := hP.alloc (.cells (itemC (intP (-1)) xa1 xb1 xc1 xd1 ++ itemC (.mk 2 0 k []) xa2 xb2 xc2 xd2).toArray 75)
     refine Ko hK ?_ fun hHeld => ?_
     ·exact hP.key.cell 6 rfl
     clear hK K
     refine Zo 6 rfl fun K hK => ?_
     rw [if_pos (by rfl)]
     refine wp_app_items _ _ rfl _ _ _ _ rfl hP.own _ _ _ _ [_, _] rfl rfl ((ItemsC.one hI1).app (ItemsC.one hI2)) hZ (by have := HL.out; simp; omega) hP.base fun v7 w7 hown7 hg7 hat7 => ?_
     have hP := hP.app hown7 hg7 hat7;obtain ⟨A7, c7, rfl, _⟩ := hown7.form;obtain ⟨m7, hm7⟩ : ∃ m7, (LL ++ [intP (-1), .mk 2 0 k []]).length = m7 := ⟨_, rfl⟩
     rw [hm7] at hP ⊢;have HM7 := Hh hm7;clear hown7 hg7 hat7 hZ hm7
     refine Kz hK ?_
     clear hK K
     refine ZkT 7 rfl (fun h => absurd h (by decide)) ?_
     refine WaysZ.done (by kernel_rfl) ?_
     clear hHeld;go_wp2_with fail
     go_ret
     exact ⟨_, rfl, by rw [E.out, HLE.out]; exact hP.out⟩
    have b4 : (t == 4) = false := by rw [beq_eq_false_iff_ne]; exact ht4
    have p4 : (t = 4) = False := eq_false ht4;have EL : Hid (pairsL t v g kid x d k = pairsA t g kid ++ ([intP (-1), intP v] ++ optS' (-2) x ++ optS' (-4) d)) := by rw [Hid, pairsL, if_neg ht4]
    have HLs : Hid ((pairsA t g kid).length ≤ 6) := pairsA_len t g kid;clear ht4 K4;go_upto_region 8 with fail
    clear c0;go_cut [3] (fun s3 wx => RSt w H (keyC t v g Ai kid.length ci Ax x.length cx Ad d.length cd Ak k.length ck) s3 (pairsA t g kid ++ [intP (-1), intP v]) wx)
    case first =>
     obtain ⟨LL, hLL⟩ : ∃ LL, (pairsA t g kid) = LL := ⟨_, rfl⟩
     rw [hLL] at hS HLq;have HLE := Hh hLL;clear hLL;obtain ⟨Hr, VA, m, vc, rfl, hm, hP⟩ := hS;have HL := Hh (And.intro hm HLq.out);clear hm;have c1 := hP.key.cell 1 rfl;replace hP := hP.drew
     refine wp_region_waysZ 6 (fun wx => wx.cell? ⟨w.heap.size, 1, none⟩ = some (.int .i64 v)) (by kernel_rfl) (c1) (fun hHeld => ?_)
     refine Zk 0 rfl hHeld ?_
     refine Zk 2 rfl hHeld ?_
     refine Zk 3 rfl hHeld ?_
     refine Zo 1 rfl fun K hK => ?_
     go_simp
     refine (ref_Int (-1) (by omega) (by omega) _ hP.grows.holds).mono ?_
     rintro e w3 ⟨v1, rfl, xa1, xb1, xc1, xd1, H1, rfl, hG1, hI1⟩
     have hP := hP.grow hG1
     refine Ko hK ?_ fun hHeld => ?_
     ·exact hP.key.cell 1 rfl
     clear hK K
     refine Zo 4 rfl fun K hK => ?_
     go_simp
     refine (ref_Int v D.out.2.1.1 D.out.2.1.2 _ hP.grows.holds).mono ?_
     rintro e w4 ⟨v2, rfl, xa2, xb2, xc2, xd2, H2, rfl, hG2, hI2⟩
     have hP := hP.grow hG2;have hI1 := hI1.mono hG2.le
     refine Ko hK ?_ fun hHeld => ?_
     ·exact hP.key.cell 1 rfl
     clear hK K
     refine Zo 5 rfl fun K hK => ?_
     go_simp
     have hZ := hP.litZ (itemC (intP (-1)) xa1 xb1 xc1 xd1 ++ itemC (intP v) xa2 xb2 xc2 xd2).toArray 75;have hP := hP.alloc (.cells (itemC (intP (-1)) xa1 xb1 xc1 xd1 ++ itemC (intP v) xa2 xb2 xc2 xd2).toArray 75)
     refine Ko hK ?_ fun hHeld => ?_
     ·exact hP.key.cell 1 rfl
     clear hK K
     refine Zo 6 rfl fun K hK => ?_
     rw [if_pos (by rfl)]
     refine wp_app_items _ _ rfl _ _ _ _ rfl hP.own _ _ _ _ [_, _] rfl rfl ((ItemsC.one hI1).app (ItemsC.one hI2)) hZ (by have := HL.out; simp; omega) hP.base fun v7 w7 hown7 hg7 hat7 => ?_
     have hP := hP.app hown7 hg7 hat7;obtain ⟨A7, c7, rfl, _⟩ := hown7.form;obtain ⟨m7, hm7⟩ : ∃ m7, (LL ++ [intP (-1), intP v]).length = m7 := ⟨_, rfl⟩
     rw [hm7] at hP ⊢;have HM7 := Hh hm7;clear hown7 hg7 hat7 hZ hm7
     refine Kz hK ?_
     clear hK K
     refine ZkT 7 rfl (fun h => absurd h (by decide)) ?_
     refine WaysZ.done (by kernel_rfl) ?_
     clear hHeld;go_wp2_with fail
     go_meet
     exact (by rw [HLE.out]; exact ⟨_, _, _, _, rfl, HM7.out.symm, hP⟩)
    case rest =>
     clear hS HLq;have hS := hcut;clear hcut;have HLq : Hid ((pairsA t g kid ++ [intP (-1), intP v]).length ≤ 1000) := by have := HLs.out; rw [Hid]; simp; omega
     have c4 := hS.key.cell 4 rfl;go_upto_if 50 with fail
     go_cut [3] (fun s3 wx => RSt w H (keyC t v g Ai kid.length ci Ax x.length cx Ad d.length cd Ak k.length ck) s3 (pairsA t g kid ++ [intP (-1), intP v] ++ optS' (-2) x) wx)
     case first =>
      by_cases h0 : 0 < x.length
      case neg =>
       have E : Hid ((pairsA t g kid ++ [intP (-1), intP v] ++ optS' (-2) x) = (pairsA t g kid ++ [intP (-1), intP v])) := by rw [Hid, show optS' (-2) x = [] from if_neg h0, List.append_nil]
       have hi0 : ¬ (0 : Int) < (x.length : Int) := by omega
       have hi1 : decide ((0 : Int) < (x.length : Int)) = false := decide_eq_false hi0;have hi2 : decide (0 < x.length) = false := decide_eq_false h0;clear h0;have HS := Hh hS;clear hS;go_wp2_with fail
       go_meet
       rw [E.out]
       exact HS.out
      have hi0 : (0 : Int) < (x.length : Int) := by omega
      have hi1 : decide ((0 : Int) < (x.length : Int)) = true := decide_eq_true hi0;have hi2 : decide (0 < x.length) = true := decide_eq_true h0;have E : Hid ((pairsA t g kid ++ [intP (-1), intP v] ++ optS' (-2) x) = (pairsA t g kid ++ [intP (-1), intP v]) ++ [intP (-2), strI' x]) := by rw [Hid, show optS' (-2) x = [intP (-2), strI' x] from if_pos h0]
      clear h0;have HLq := HLq;obtain ⟨LL, hLL⟩ : ∃ LL, (pairsA t g kid ++ [intP (-1), intP v]) = LL := ⟨_, rfl⟩
      rw [hLL] at hS HLq;have HLE := Hh hLL;clear hLL;obtain ⟨Hr, VA, m, vc, rfl, hm, hP⟩ := hS;have HL := Hh (And.intro hm HLq.out);clear hm;go_upto_region 10 with fail
      have c4 := hP.key.cell 4 rfl;replace hP := hP.drew
      refine wp_region_waysZ 6 (fun wx => wx.cell? ⟨w.heap.size, 4, none⟩ = some (.slice Ax x.length cx)) (by kernel_rfl) (c4) (fun hHeld => ?_)
      refine Zk 0 rfl hHeld ?_
      refine Zk 2 rfl hHeld ?_
      refine Zk 3 rfl hHeld ?_
      refine Zo 1 rfl fun K hK => ?_
      go_simp
      refine (ref_Int (-2) (by omega) (by omega) _ hP.grows.holds).mono ?_
      rintro e w3 ⟨v1, rfl, xa1, xb1, xc1, xd1, H1, rfl, hG1, hI1⟩
      have hP := hP.grow hG1
      refine Ko hK ?_ fun hHeld => ?_
      ·exact hP.key.cell 4 rfl
      clear hK K
      refine Zo 4 rfl fun K hK => ?_
      go_simp
      refine (ref_Bytes rfl (by have := BL.out; omega) _ (Src.of_row (B1.out.2.1.row.mono hP.grows.le) hP.grows.holds) hP.grows.holds).mono ?_
      rintro e w4 ⟨v2, rfl, xa2, xb2, xc2, xd2, H2, rfl, hG2, hI2⟩
      have hP := hP.grow hG2;have hI1 := hI1.mono hG2.le
      refine Ko hK ?_ fun hHeld => ?_
      ·exact hP.key.cell 4 rfl
      clear hK K
      refine Zo 5 rfl fun K hK => ?_
      go_simp
      have hZ := hP.litZ (itemC (intP (-2)) xa1 xb1 xc1 xd1 ++ itemC (.mk 2 0 x []) xa2 xb2 xc2 xd2).toArray 75;have hP := hP.alloc (.cells (itemC (intP (-2)) xa1 xb1 xc1 xd1 ++ itemC (.mk 2 0 x []) xa2 xb2 xc2 xd2).toArray 75)
      refine Ko hK ?_ fun hHeld => ?_
      ·exact hP.key.cell 4 rfl
      clear hK K
      refine Zo 6 rfl fun K hK => ?_
      rw [if_pos (by rfl)]
      refine wp_app_items _ _ rfl _ _ _ _ rfl hP.own _ _ _ _ [_, _] rfl rfl ((ItemsC.one hI1).app (ItemsC.one hI2)) hZ (by have := HL.out; simp; omega) hP.base fun v7 w7 hown7 hg7 hat7 => ?_
      have hP := hP.app hown7 hg7 hat7;obtain ⟨A7, c7, rfl, _⟩ := hown7.form;obtain ⟨m7, hm7⟩ : ∃ m7, (LL ++ [intP (-2), .mk 2 0 x []]).length = m7 := ⟨_, rfl⟩
      rw [hm7] at hP ⊢;have HM7 := Hh hm7;clear hown7 hg7 hat7 hZ hm7
      refine Kz hK ?_
      clear hK K
      refine ZkT 7 rfl (fun h => absurd h (by decide)) ?_
      refine WaysZ.done (by kernel_rfl) ?_
      clear hHeld;go_wp2_with fail
      go_meet
      exact (by rw [E.out, HLE.out]; exact ⟨_, _, _, _, rfl, HM7.out.symm, hP⟩)
     case rest =>
      clear hS c4;have hS := hcut;clear hcut;have HLq : Hid ((pairsA t g kid ++ [intP (-1), intP v] ++ optS' (-2) x).length ≤ 1000) := by have := HLs.out; have := optS_len (-2) x; rw [Hid]; simp; omega
      have c5 := hS.key.cell 5 rfl;go_upto_if 61 with fail
      go_cut [3] (fun s3 wx => RSt w H (keyC t v g Ai kid.length ci Ax x.length cx Ad d.length cd Ak k.length ck) s3 (pairsA t g kid ++ [intP (-1), intP v] ++ optS' (-2) x ++ optS' (-4) d) wx)
      case first =>
       by_cases h0 : 0 < d.length
       case neg =>
        have E : Hid ((pairsA t g kid ++ [intP (-1), intP v] ++ optS' (-2) x ++ optS' (-4) d) = (pairsA t g kid ++ [intP (-1), intP v] ++ optS' (-2) x)) := by rw [Hid, show optS' (-4) d = [] from if_neg h0, List.append_nil]
        have hi0 : ¬ (0 : Int) < (d.length : Int) := by omega
        have hi1 : decide ((0 : Int) < (d.length : Int)) = false := decide_eq_false hi0;have hi2 : decide (0 < d.length) = false := decide_eq_false h0;clear h0;have HS := Hh hS;clear hS;go_wp2_with fail
        go_meet
        rw [E.out]
        exact HS.out
       have hi0 : (0 : Int) < (d.length : Int) := by omega
       have hi1 : decide ((0 : Int) < (d.length : Int)) = true := decide_eq_true hi0;have hi2 : decide (0 < d.length) = true := decide_eq_true h0;have E : Hid ((pairsA t g kid ++ [intP (-1), intP v] ++ optS' (-2) x ++ optS' (-4) d) = (pairsA t g kid ++ [intP (-1), intP v] ++ optS' (-2) x) ++ [intP (-4), strI' d]) := by rw [Hid, show optS' (-4) d = [intP (-4), strI' d] from if_pos h0]
       clear h0;have HLq := HLq;obtain ⟨LL, hLL⟩ : ∃ LL, (pairsA t g kid ++ [intP (-1), intP v] ++ optS' (-2) x) = LL := ⟨_, rfl⟩
       rw [hLL] at hS HLq;have HLE := Hh hLL;clear hLL;obtain ⟨Hr, VA, m, vc, rfl, hm, hP⟩ := hS;have HL := Hh (And.intro hm HLq.out);clear hm;go_upto_region 12 with fail
       have c5 := hP.key.cell 5 rfl;replace hP := hP.drew
       refine wp_region_waysZ 6 (fun wx => wx.cell? ⟨w.heap.size, 5, none⟩ = some (.slice Ad d.length cd)) (by kernel_rfl) (c5) (fun hHeld => ?_)
       refine Zk 0 rfl hHeld ?_
       refine Zk 2 rfl hHeld ?_
       refine Zk 3 rfl hHeld ?_
       refine Zo 1 rfl fun K hK => ?_
       go_simp
       refine (ref_Int (-4) (by omega) (by omega) _ hP.grows.holds).mono ?_
       rintro e w3 ⟨v1, rfl, xa1, xb1, xc1, xd1, H1, rfl, hG1, hI1⟩
       have hP := hP.grow hG1
       refine Ko hK ?_ fun hHeld => ?_
       ·exact hP.key.cell 5 rfl
       clear hK K
       refine Zo 4 rfl fun K hK => ?_
       go_simp
       refine (ref_Bytes rfl (by have := BL.out; omega) _ (Src.of_row (B1.out.2.2.1.row.mono hP.grows.le) hP.grows.holds) hP.grows.holds).mono ?_
       rintro e w4 ⟨v2, rfl, xa2, xb2, xc2, xd2, H2, rfl, hG2, hI2⟩
       have hP := hP.grow hG2;have hI1 := hI1.mono hG2.le
       refine Ko hK ?_ fun hHeld => ?_
       ·exact hP.key.cell 5 rfl
       clear hK K
       refine Zo 5 rfl fun K hK => ?_
       go_simp
       have hZ := hP.litZ (itemC (intP (-4)) xa1 xb1 xc1 xd1 ++ itemC (.mk 2 0 d []) xa2 xb2 xc2 xd2).toArray 75;have hP := hP.alloc (.cells (itemC (intP (-4)) xa1 xb1 xc1 xd1 ++ itemC (.mk 2 0 d []) xa2 xb2 xc2 xd2).toArray 75)
       refine Ko hK ?_ fun hHeld => ?_
       ·exact hP.key.cell 5 rfl
       clear hK K
       refine Zo 6 rfl fun K hK => ?_
       rw [if_pos (by rfl)]
       refine wp_app_items _ _ rfl _ _ _ _ rfl hP.own _ _ _ _ [_, _] rfl rfl ((ItemsC.one hI1).app (ItemsC.one hI2)) hZ (by have := HL.out; simp; omega) hP.base fun v7 w7 hown7 hg7 hat7 => ?_
       have hP := hP.app hown7 hg7 hat7;obtain ⟨A7, c7, rfl, _⟩ := hown7.form;obtain ⟨m7, hm7⟩ : ∃ m7, (LL ++ [intP (-4), .mk 2 0 d []]).length = m7 := ⟨_, rfl⟩
       rw [hm7] at hP ⊢;have HM7 := Hh hm7;clear hown7 hg7 hat7 hZ hm7
       refine Kz hK ?_
       clear hK K
       refine ZkT 7 rfl (fun h => absurd h (by decide)) ?_
       refine WaysZ.done (by kernel_rfl) ?_
       clear hHeld;go_wp2_with fail
       go_meet
       exact (by rw [E.out, HLE.out]; exact ⟨_, _, _, _, rfl, HM7.out.symm, hP⟩)
      case rest =>
       clear hS c5;have hS := hcut;clear hcut;obtain ⟨Hr, VA, m, vc, rfl, hm, hP⟩ := hS;have hO := hP.out;clear hP hm;go_wp2_with fail
       go_ret
       exact ⟨_, rfl, by rw [EL.out]; show RowOut w H _ (Value.slice VA m vc) _; rw [← List.append_assoc, ← List.append_assoc]; exact hO⟩
structure Ky where
 kty : Int
 crv : Int
 alg : Int
 kid : List UInt8
 x : List UInt8
 d : List UInt8
 k : List UInt8
def sizedK (b : List UInt8) : Bool := decide (b.length = 0) || decide (b.length = 32)
def validK (q : Ky) : Bool :=
 decide (q.kid.length ≤ 16) && decide (-65536 ≤ q.alg) && decide (q.alg ≤ 65535) &&
 (if q.kty = 1 then (decide (q.crv = 4) || decide (q.crv = 6)) && sizedK q.x && sizedK q.d && decide (0 < q.x.length + q.d.length) && decide (q.k.length = 0)
  else if q.kty = 4 then decide (q.crv = 0) && decide (q.x.length + q.d.length = 0) && decide (1 ≤ q.k.length) && decide (q.k.length ≤ 64) else false)
def strI (b : List UInt8) : Itm := .mk 2 0 b []
def optS (n : Int) (b : List UInt8) : List Itm := if 0 < b.length then [intP n, strI b] else []
def pairsK (q : Ky) : List Itm :=
 [intP 1, intP q.kty] ++ optS 2 q.kid ++ (if q.alg = 0 then [] else [intP 3, intP q.alg]) ++
  (if q.kty = 4 then optS (-1) q.k else [intP (-1), intP q.crv] ++ optS (-2) q.x ++ optS (-4) q.d)
def itemK (q : Ky) : Itm := .mk 5 0 [] (pairsK q)
theorem lt_labels : Lib.compareBytes (encB (intP 1)) (encB (intP 2)) < 0 ∧ Lib.compareBytes (encB (intP 1)) (encB (intP 3)) < 0 ∧ Lib.compareBytes (encB (intP 1)) (encB (intP (-1))) < 0 ∧
  Lib.compareBytes (encB (intP 2)) (encB (intP 3)) < 0 ∧ Lib.compareBytes (encB (intP 2)) (encB (intP (-1))) < 0 ∧ Lib.compareBytes (encB (intP 3)) (encB (intP (-1))) < 0 ∧
  Lib.compareBytes (encB (intP (-1))) (encB (intP (-2))) < 0 ∧ Lib.compareBytes (encB (intP (-1))) (encB (intP (-4))) < 0 ∧ Lib.compareBytes (encB (intP (-2))) (encB (intP (-4))) < 0 := by
 rw [encB_intP, encB_intP, encB_intP, encB_intP, encB_intP, encB_intP];decide +kernel
theorem asc_pairsK (q : Ky) : ascP (pairsK q) = true := by
 obtain ⟨h12, h13, h1m, h23, h2m, h3m, hm2, hm4, h24⟩ := lt_labels
 unfold pairsK optS
 repeat' split
 all_goals simp [ascP, h12, h13, h1m, h23, h2m, h3m, hm2, hm4, h24]
theorem validK_iff (q : Ky) : validK q = true ↔ (q.kid.length ≤ 16 ∧ -65536 ≤ q.alg ∧ q.alg ≤ 65535 ∧
  ((q.kty = 1 ∧ (q.crv = 4 ∨ q.crv = 6) ∧ (q.x.length = 0 ∨ q.x.length = 32) ∧ (q.d.length = 0 ∨ q.d.length = 32) ∧ 0 < q.x.length + q.d.length ∧ q.k.length = 0) ∨
   (q.kty = 4 ∧ q.crv = 0 ∧ q.x.length + q.d.length = 0 ∧ 1 ≤ q.k.length ∧ q.k.length ≤ 64))) := by
 unfold validK sizedK
 split
 ·rename_i h1
  simp [h1, and_assoc]
 ·split
  ·rename_i h1 h4
   simp [h1, h4, and_assoc]
  ·rename_i h1 h4
   simp [h1, h4]
theorem good_strI (b : List UInt8) (lv : Nat) : Good (strI b) lv := good_str 2 (.inl rfl) b lv (fun h => by omega)
theorem goodL_pairsK (q : Ky) (lv : Nat) : GoodL (pairsK q) lv := by
 unfold pairsK optS
 repeat' split
 all_goals simp [GoodL, good_intP, good_strI]
theorem pairsK_even (q : Ky) : (pairsK q).length % 2 = 0 := by
 unfold pairsK optS
 repeat' split
 all_goals simp
theorem pairsK_len (q : Ky) : 2 ≤ (pairsK q).length ∧ (pairsK q).length ≤ 12 := by
 unfold pairsK optS
 repeat' split
 all_goals simp
theorem good_itemK (q : Ky) : Good (itemK q) 0 := by
 refine Good.of ?_ (goodL_pairsK q 1) (fun _ => asc_pairsK q)
 have h := pairsK_even q;rw [nodeOk, if_neg (by rw [isPlain_iff]; simp [itemK, Itm.kind]), frameOk]
 simp [itemK, Itm.kind, Itm.bytes, Itm.items, Itm.n, h]
def leafK (x : Itm) : Prop := cnt x = 1 ∧ (encB x).length ≤ 73
theorem leaf_intP (n : Int) : leafK (intP n) := by
 unfold intP
 split
 ·refine ⟨by simp [cnt, cntL], ?_⟩
  have h := encB_len 1 (-1 - n).toNat [] [] (by decide) (by decide)
  simp [encL] at h
  omega
 ·refine ⟨by simp [cnt, cntL], ?_⟩
  have h := encB_len 0 n.toNat [] [] (by decide) (by decide)
  simp [encL] at h
  omega
theorem leaf_strI {b : List UInt8} (hb : b.length ≤ 64) : leafK (strI b) := by
 refine ⟨by simp [strI, cnt, cntL], ?_⟩
 have h := encB_len 2 0 b [] (by decide) (by decide)
 simp [encL] at h
 simp only [strI]
 omega
theorem sum_leaf : ∀ l : List Itm, (∀ x ∈ l, leafK x) → cntL l = l.length ∧ (encL l).length ≤ 73 * l.length
 | [], _ => by simp [cntL, encL]
 | x :: l, h => by
  have h1 := h x (by simp);have h2 := sum_leaf l fun y hy => h y (by simp [hy])
  simp only [cntL, encL, List.length_cons, List.length_append]
  have := h1.1;have := h1.2
  omega
theorem mem_optS {x : Itm} {n : Int} {b : List UInt8} (h : x ∈ optS n b) : x = intP n ∨ x = strI b := by
 unfold optS at h
 split at h
 ·simpa using h
 ·simp at h
theorem leaf_pairsK {q : Ky} (h : validK q = true) : ∀ x ∈ pairsK q, leafK x := by
 have hv := (validK_iff q).mp h;have hx : q.x.length ≤ 64 := by omega
 have hd : q.d.length ≤ 64 := by omega
 have hk : q.k.length ≤ 64 := by omega
 have hi : q.kid.length ≤ 64 := by omega
 intro x hm
 unfold pairsK at hm
 simp only [List.mem_append] at hm
 rcases hm with ((hm | hm) | hm) | hm
 ·simp at hm
  rcases hm with rfl | rfl <;> exact leaf_intP _
 ·rcases mem_optS hm with rfl | rfl
  ·exact leaf_intP _
  ·exact leaf_strI hi
 ·split at hm
  ·simp at hm
  ·simp at hm
   rcases hm with rfl | rfl <;> exact leaf_intP _
 ·split at hm
  ·rcases mem_optS hm with rfl | rfl
   ·exact leaf_intP _
   ·exact leaf_strI hk
  ·simp only [List.mem_append] at hm
   rcases hm with (hm | hm) | hm
   ·simp at hm
    rcases hm with rfl | rfl <;> exact leaf_intP _
   ·rcases mem_optS hm with rfl | rfl
    ·exact leaf_intP _
    ·exact leaf_strI hx
   ·rcases mem_optS hm with rfl | rfl
    ·exact leaf_intP _
    ·exact leaf_strI hd
theorem validP_itemK {q : Ky} (h : validK q = true) : validP (itemK q) = true := by
 have hs := sum_leaf (pairsK q) (leaf_pairsK h);have hl := pairsK_len q
 refine (validP_iff _).mpr ⟨good_itemK q, ?_, ?_⟩
 ·rw [cnt_eq];show cntL (pairsK q) + 1 ≤ 256
  omega
 ·have h2 := encB_len 5 0 [] (pairsK q) (by decide) (by decide)
  simp at h2
  show (encB (.mk 5 0 [] (pairsK q))).length ≤ 4096
  omega
theorem validP_pairsK {q : Ky} (h : validK q = true) : ∀ x ∈ pairsK q, validP x = true :=
 fun x hx => validP_elem (validP_itemK h) (show x ∈ (itemK q).items from hx)
theorem buildK {q : Ky} (h : validK q = true) : (pairsK q).length % 2 = 0 ∧ ascP (pairsK q) = true ∧ (∀ x ∈ pairsK q, validP x = true) ∧ validP (.mk 5 0 [] (pairsK q)) = true :=
 ⟨pairsK_even q, asc_pairsK q, validP_pairsK h, validP_itemK h⟩
end Go.Proofs.YtgaoknihklmakaaGreatDoor
namespace Go.Proofs.YtgaoknihklmakaaGreatDoor
open Go.RowKit Go.Shelf
def sortRen : Go.Shelf.Ren := ⟨fun | 6 => 86 | 10 => 102 | 11 => 103 | 12 => 104 | 13 => 105 | 14 => 106 | 24 => 120 | 25 => 121 | 26 => 122 | 27 => 123 | 28 => 124 | 29 => 125 | 30 => 126 | 31 => 127 | 32 => 128 | 33 => 129 | 34 => 132 | 35 => 133 | 36 => 134 | 37 => 135 | 38 => 136 | 39 => 140 | n => n,
 fun | 0 => 0 | 3 => 3 | 4 => 4 | 5 => 5 | 9 => 9 | 12 => 12 | 17 => 17 | 20 => 20 | 26 => 137 | 32 => 156 | 33 => 157 | 35 => 159 | 37 => 161 | 41 => 48 | 44 => 167 | 49 => 146 | 51 => 47 | 53 => 177 | 54 => 178 | 58 => 115 | 60 => 183 | 64 => 111 | 66 => 192 | 67 => 193 | 75 => 202 | 76 => 203 | 77 => 204 | 78 => 205 | 79 => 206 | 80 => 207 | 82 => 209 | n => n, fun n => n⟩
theorem sortLays : LaysGg.n6 Tryz.prog sortRen where
 mixed := by kernel_rfl
 f6 := Tryz.func86.trans (congrArg some (by kernel_rfl))
 f10 := Tryz.func102.trans (congrArg some (by kernel_rfl))
 f11 := Tryz.func103.trans (congrArg some (by kernel_rfl))
 f12 := Tryz.func104.trans (congrArg some (by kernel_rfl))
 f13 := Tryz.func105.trans (congrArg some (by kernel_rfl))
 f14 := Tryz.func106.trans (congrArg some (by kernel_rfl))
 f24 := Tryz.func120.trans (congrArg some (by kernel_rfl))
 f25 := Tryz.func121.trans (congrArg some (by kernel_rfl))
 f26 := Tryz.func122.trans (congrArg some (by kernel_rfl))
 f27 := Tryz.func123.trans (congrArg some (by kernel_rfl))
 f28 := Tryz.func124.trans (congrArg some (by kernel_rfl))
 f29 := Tryz.func125.trans (congrArg some (by kernel_rfl))
 f30 := Tryz.func126.trans (congrArg some (by kernel_rfl))
 f31 := Tryz.func127.trans (congrArg some (by kernel_rfl))
 f32 := Tryz.func128.trans (congrArg some (by kernel_rfl))
 f33 := Tryz.func129.trans (congrArg some (by kernel_rfl))
 f34 := Tryz.func132.trans (congrArg some (by kernel_rfl))
 f35 := Tryz.func133.trans (congrArg some (by kernel_rfl))
 f36 := Tryz.func134.trans (congrArg some (by kernel_rfl))
 f37 := Tryz.func135.trans (congrArg some (by kernel_rfl))
 f38 := Tryz.func136.trans (congrArg some (by kernel_rfl))
 f39 := Tryz.func140.trans (congrArg some (by kernel_rfl))
 t0 := Tryz.underlying0
 a0 := Tryz.isAgg0
 z0 := Tryz.sizeOf0
 v0 := Tryz.zeroValue0
 i0 := by kernel_rfl
 t3 := Tryz.underlying3
 a3 := Tryz.isAgg3
 z3 := Tryz.sizeOf3
 v3 := Tryz.zeroValue3
 i3 := by kernel_rfl
 t4 := Tryz.underlying4
 a4 := Tryz.isAgg4
 z4 := Tryz.sizeOf4
 v4 := Tryz.zeroValue4
 i4 := by kernel_rfl
 t5 := Tryz.underlying5
 a5 := Tryz.isAgg5
 z5 := Tryz.sizeOf5
 v5 := Tryz.zeroValue5
 i5 := by kernel_rfl
 t9 := Tryz.underlying9
 a9 := Tryz.isAgg9
 z9 := Tryz.sizeOf9
 v9 := Tryz.zeroValue9
 i9 := by kernel_rfl
 t12 := Tryz.underlying12
 a12 := Tryz.isAgg12
 z12 := Tryz.sizeOf12
 v12 := Tryz.zeroValue12
 i12 := by kernel_rfl
 t17 := Tryz.underlying17
 a17 := Tryz.isAgg17
 z17 := Tryz.sizeOf17
 v17 := Tryz.zeroValue17
 i17 := by kernel_rfl
 t20 := Tryz.underlying20
 a20 := Tryz.isAgg20
 z20 := Tryz.sizeOf20
 v20 := Tryz.zeroValue20
 i20 := by kernel_rfl
 t26 := Tryz.underlying137
 a26 := Tryz.isAgg137
 z26 := Tryz.sizeOf137
 v26 := Tryz.zeroValue137
 i26 := by kernel_rfl
 t32 := Tryz.underlying156
 a32 := Tryz.isAgg156
 z32 := Tryz.sizeOf156
 v32 := Tryz.zeroValue156
 i32 := by kernel_rfl
 t33 := Tryz.underlying157
 a33 := Tryz.isAgg157
 z33 := Tryz.sizeOf157
 v33 := Tryz.zeroValue157
 i33 := by kernel_rfl
 t35 := Tryz.underlying159
 a35 := Tryz.isAgg159
 z35 := Tryz.sizeOf159
 v35 := Tryz.zeroValue159
 i35 := by kernel_rfl
 t37 := Tryz.underlying161
 a37 := Tryz.isAgg161
 z37 := Tryz.sizeOf161
 v37 := Tryz.zeroValue161
 i37 := by kernel_rfl
 t41 := Tryz.underlying48
 a41 := Tryz.isAgg48
 z41 := Tryz.sizeOf48
 v41 := Tryz.zeroValue48
 i41 := by kernel_rfl
 t44 := Tryz.underlying167
 a44 := Tryz.isAgg167
 z44 := Tryz.sizeOf167
 v44 := Tryz.zeroValue167
 i44 := by kernel_rfl
 t49 := Tryz.underlying146
 a49 := Tryz.isAgg146
 z49 := Tryz.sizeOf146
 v49 := Tryz.zeroValue146
 i49 := by kernel_rfl
 t51 := Tryz.underlying47
 a51 := Tryz.isAgg47
 z51 := Tryz.sizeOf47
 v51 := Tryz.zeroValue47
 i51 := by kernel_rfl
 t53 := Tryz.underlying177
 a53 := Tryz.isAgg177
 z53 := Tryz.sizeOf177
 v53 := Tryz.zeroValue177
 i53 := by kernel_rfl
 t54 := Tryz.underlying178
 a54 := Tryz.isAgg178
 z54 := Tryz.sizeOf178
 v54 := Tryz.zeroValue178
 i54 := by kernel_rfl
 t58 := Tryz.underlying115
 a58 := Tryz.isAgg115
 z58 := Tryz.sizeOf115
 v58 := Tryz.zeroValue115
 i58 := by kernel_rfl
 t60 := Tryz.underlying183
 a60 := Tryz.isAgg183
 z60 := Tryz.sizeOf183
 v60 := Tryz.zeroValue183
 i60 := by kernel_rfl
 t64 := Tryz.underlying111
 a64 := Tryz.isAgg111
 z64 := Tryz.sizeOf111
 v64 := Tryz.zeroValue111
 i64 := by kernel_rfl
 t66 := Tryz.underlying192
 a66 := Tryz.isAgg192
 z66 := Tryz.sizeOf192
 v66 := Tryz.zeroValue192
 i66 := by kernel_rfl
 t67 := Tryz.underlying193
 a67 := Tryz.isAgg193
 z67 := Tryz.sizeOf193
 v67 := Tryz.zeroValue193
 i67 := by kernel_rfl
 t75 := Tryz.underlying202
 a75 := Tryz.isAgg202
 z75 := Tryz.sizeOf202
 v75 := Tryz.zeroValue202
 i75 := by kernel_rfl
 t76 := Tryz.underlying203
 a76 := Tryz.isAgg203
 z76 := Tryz.sizeOf203
 v76 := Tryz.zeroValue203
 i76 := by kernel_rfl
 t77 := Tryz.underlying204
 a77 := Tryz.isAgg204
 z77 := Tryz.sizeOf204
 v77 := Tryz.zeroValue204
 i77 := by kernel_rfl
 t78 := Tryz.underlying205
 a78 := Tryz.isAgg205
 z78 := Tryz.sizeOf205
 v78 := Tryz.zeroValue205
 i78 := by kernel_rfl
 t79 := Tryz.underlying206
 a79 := Tryz.isAgg206
 z79 := Tryz.sizeOf206
 v79 := Tryz.zeroValue206
 i79 := by kernel_rfl
 t80 := Tryz.underlying207
 a80 := Tryz.isAgg207
 z80 := Tryz.sizeOf207
 v80 := Tryz.zeroValue207
 i80 := by kernel_rfl
 t82 := Tryz.underlying209
 a82 := Tryz.isAgg209
 z82 := Tryz.sizeOf209
 v82 := Tryz.zeroValue209
 i82 := by kernel_rfl
end Go.Proofs.YtgaoknihklmakaaGreatDoor
namespace Go.Proofs.YtgaoknihklmakaaGreatDoor
open Go.RowKit
structure PE (H : Snap) where
 A : Option Addr
 cc : Nat
 key : List UInt8
 rest : List Value
 len : rest.length = 8
 one : ∀ u ∈ rest, u.oneCell' = true
 is : IsBytes H A cc key
instance (H : Snap) : Inhabited (PE H) := ⟨⟨none, 0, [], List.replicate 8 (.bool false), by simp, by simp [Value.oneCell'], IsBytes.nil H⟩⟩
def encPE {H : Snap} (x : PE H) : List Value := .slice x.A x.key.length x.cc :: x.rest
def ltPE {H : Snap} (a b : PE H) : Bool := decide (Lib.compareBytes a.key b.key < 0)
theorem less_pairs {H : Snap} (blk off c Bs size : Nat) (W : World) (hW : Holds W H) (G : Nat → PE H) (hs : W.cell? ⟨Bs, 0, none⟩ = some (.slice (some ⟨blk, off, none⟩) size c))
  (hc : ∀ t, t < size → W.cell? ⟨blk, off + t * 9, none⟩ = some (.slice (G t).A (G t).key.length (G t).cc)) (i j : Nat) (hi : i < size) (hj : j < size) :
  Calls Tryz.prog 87 #[.int .i64 i, .int .i64 j, .pointer (some ⟨Bs, 0, none⟩)] W fun e w' => e = .returned (.bool (ltPE (G i) (G j))) ∧ ∃ q, w' = W.drewN q := by
 have ci := hc i hi;have cj := hc j hj;have si := Src.of_row (G i).is.row hW;have sj := Src.of_row (G j).is.row hW;have hiI : (i : Int) < size := by omega
 have hjI : (j : Int) < size := by omega
 have E : Hid (ltPE (G i) (G j) = decide (Lib.compareBytes (G i).key (G j).key < 0)) := rfl;obtain ⟨x, hx⟩ : ∃ x, G i = x := ⟨_, rfl⟩
 obtain ⟨y, hy⟩ : ∃ y, G j = y := ⟨_, rfl⟩
 rw [hx] at ci si E ⊢;rw [hy] at cj sj E ⊢;rw [E.out];have CMP : True := trivial;have SX := si;have SY := sj;clear hc hx hy si sj E hW CMP;have HB := Hh (And.intro hi hj);go_enter Tryz.func87, Tryz.ntmps87
 go_upto_region 1 with fail
 refine wp_region_waysZ 12 (fun wx => wx.cell? ⟨Bs, 0, none⟩ = some (.slice (some ⟨blk, off, none⟩) size c) ∧ wx.cell? ⟨blk, off + i * 9, none⟩ = some (.slice x.A x.key.length x.cc) ∧ wx.cell? ⟨blk, off + j * 9, none⟩ = some (.slice y.A y.key.length y.cc)) (by kernel_rfl) (⟨hs, ci, cj⟩) (fun hHeld => ?_)
 refine Zk 0 rfl hHeld ?_
 refine Zk 1 rfl hHeld ?_
 refine Zk 2 rfl hHeld ?_
 refine Zk 3 rfl hHeld ?_
 refine Zk 4 rfl hHeld ?_
 refine Zk 5 rfl hHeld ?_
 refine Zk 6 rfl hHeld ?_
 refine Zk 7 rfl hHeld ?_
 refine Zk 8 rfl hHeld ?_
 refine Zk 9 rfl hHeld ?_
 refine Zo 10 rfl fun K hK => ?_
 go_simp
 refine (show Calls Tryz.prog 69 #[.slice x.A x.key.length x.cc, .slice y.A y.key.length y.cc] W.drew fun e w' => e = .returned (.int .i64 (Lib.compareBytes x.key y.key)) ∧ W.drew = w' from bytes_Compare W.drew x.A y.A x.key y.key x.key.length y.key.length x.cc y.cc rfl rfl SX SY).mono ?_
 rintro e w3 ⟨rfl, rfl⟩
 refine Ko hK ?_ fun hHeld => ?_
 ·exact ⟨hs, ci, cj⟩
 clear hK K
 refine Zk 11 rfl hHeld ?_
 refine Zo 12 rfl fun K hK => ?_
 go_simp
 refine Kz hK ?_
 clear hK K
 refine WaysZ.done (by kernel_rfl) ?_
 clear hHeld;go_wp2_with fail
 go_ret
 exact ⟨rfl, 1, rfl⟩
end Go.Proofs.YtgaoknihklmakaaGreatDoor
namespace Go.Proofs.YtgaoknihklmakaaGreatDoor
open Go.RowKit Go.Shelf Go.Lib
noncomputable def pairTI : TypeInfo := (Tryz.prog.info? 133).get (by kernel_rfl)
noncomputable def pairEI : TypeInfo := (Tryz.prog.info? 135).get (by kernel_rfl)
theorem pairSw (n : Nat) (h2 : 2 ≤ n) : Lib.swapperK n pairEI 25 = 9 := by
 have a : pairEI.hasPointers = true := by kernel_rfl
 have b : (pairEI.bytes == 8) = false := by kernel_rfl
 have c : (n == 0) = false := by simp; omega
 have d : (n == 1) = false := by simp; omega
 simp [Lib.swapperK, a, b, c, d]
theorem encPE_len {H : Snap} (x : PE H) : (encPE x).length = 9 := by simp [encPE, x.len]
end Go.Proofs.YtgaoknihklmakaaGreatDoor
