/- squeezed. Walks: the pairs of a key, by the  -/
import Derived.Test.YtmacemcajlgddaaGreatDoorK16
import Derived.Test.YtmacemcajlgddaaGreatDoorK17
set_option linter.unusedVariables false
set_option linter.unusedSimpArgs false
set_option maxRecDepth 100000
set_option maxHeartbeats 25600000
namespace Go.Proofs.YtmacemcajlgddaaGreatDoor
open Go.RowKit
def RSt (W0 : World) (H : Snap) (kc : Array Value) (v : Value) (L : List Itm) (w : World) : Prop := ∃ Hr A m c, v = .slice A m c ∧ m = L.length ∧ RS W0 H kc (.slice A m c) L w Hr
theorem RSt.key {W0 w : World} {H : Snap} {kc : Array Value} {v : Value} {L : List Itm} (h : RSt W0 H kc v L w) : Blk w W0.heap.size 24 kc := by
 obtain ⟨Hr, A, m, c, _, _, hP⟩ := h
 exact hP.key
theorem ref11_pairs {H : Snap} (t v g : Int) (ht : -9223372036854775808 ≤ t ∧ t ≤ 9223372036854775807) (hv : -9223372036854775808 ≤ v ∧ v ≤ 9223372036854775807) (hg : -9223372036854775808 ≤ g ∧ g ≤ 9223372036854775807)
  {Ai : Option Addr} {ci : Nat} {kid : List UInt8} (hi : IsBytes H Ai ci kid) {Ax : Option Addr} {cx : Nat} {x : List UInt8} (hx : IsBytes H Ax cx x)
  {Ad : Option Addr} {cd : Nat} {d : List UInt8} (hd : IsBytes H Ad cd d) {Ak : Option Addr} {ck : Nat} {k : List UInt8} (hk : IsBytes H Ak ck k)
  (hl : kid.length ≤ 64 ∧ x.length ≤ 64 ∧ d.length ≤ 64 ∧ k.length ≤ 64) (hk4 : t = 4 → 0 < k.length) (w : World) (hH : Holds w H) :
  Calls Tryz.prog 46 #[.agg (keyC t v g Ai kid.length ci Ax x.length cx Ad d.length cd Ak k.length ck)] w (PairsOut w H (pairsL t v g kid x d k)) := by
 have hP := RS.nil ((Grows.refl hH).alloc (.cells (keyC t v g Ai kid.length ci Ax x.length cx Ad d.length cd Ak k.length ck) 24)) (hH.none_of_ge (Nat.le_refl _)) (Blk.new w 24 (keyC t v g Ai kid.length ci Ax x.length cx Ad d.length cd Ak k.length ck));have KC : Hid ((keyC t v g Ai kid.length ci Ax x.length cx Ad d.length cd Ak k.length ck) = #[.int .i64 t, .int .i64 v, .int .i64 g, .slice Ai kid.length ci, .slice Ax x.length cx, .slice Ad d.length cd, .slice Ak k.length ck]) := rfl;have D := Hh (And.intro ht (And.intro hv hg));have B1 := Hh (And.intro hi (And.intro hx (And.intro hd hk)));have BL := Hh hl;have K4 := Hh hk4;clear hi hx hd hk hl ht hv hg hH hk4;go_enter Tryz.func46, Tryz.ntmps46
 go_upto_region 1 with fail
 go_cut [3] (fun s3 wx => RSt w H (keyC t v g Ai kid.length ci Ax x.length cx Ad d.length cd Ak k.length ck) s3 [intP 1, intP t] wx)
 case first =>
  obtain ⟨W1, hW1⟩ : ∃ W1, w.alloc (.cells (keyC t v g Ai kid.length ci Ax x.length cx Ad d.length cd Ak k.length ck) 24) = W1 := ⟨_, rfl⟩
  rw [hW1] at hP ⊢;clear hW1;have c0 := hP.key.cell 0 rfl;replace hP := hP.drew
  refine wp_region_waysZ 5 (fun wx => wx.cell? ⟨w.heap.size, 0, none⟩ = some (.int .i64 t)) (by kernel_rfl) (c0) (fun hHeld => ?_)
  refine Zk 1 rfl hHeld ?_
  refine Zk 2 rfl hHeld ?_
  refine Zo 0 rfl fun K hK => ?_
  go_simp
  refine (ref_Int (1) (by omega) (by omega) _ hP.grows.holds).mono ?_
  rintro e w3 ⟨v1, rfl, xa1, xb1, xc1, xd1, H1, rfl, hG1, hI1⟩
  have hP := hP.grow hG1
  refine hK.out _ _ (fun _ => ?_) (fun hHeld => ?_)
  ·exact hP.key.cell 0 rfl
  clear hK K;have hHeld := hHeld (by decide)
  try simp only [Act.put, zz1, zz2, zz3, zz4, zz5, zz6]
  refine Zo 3 rfl fun K hK => ?_
  go_simp
  refine (ref_Int t D.out.1.1 D.out.1.2 _ hP.grows.holds).mono ?_
  rintro e w4 ⟨v2, rfl, xa2, xb2, xc2, xd2, H2, rfl, hG2, hI2⟩
  have hP := hP.grow hG2;have hI1 := hI1.mono hG2.le
  refine hK.out _ _ (fun _ => ?_) (fun hHeld => ?_)
  ·exact hP.key.cell 0 rfl
  clear hK K;have hHeld := hHeld (by decide)
  try simp only [Act.put, zz1, zz2, zz3, zz4, zz5, zz6]
  refine Zo 4 rfl fun K hK => ?_
  go_simp
  have hP := hP.litR ((ItemsC.one hI1).app (ItemsC.one hI2)) (by simp)
  refine hK.out _ _ (fun _ => ?_) (fun hHeld => ?_)
  ·exact hP.key.cell 0 rfl
  clear hK K;have hHeld := hHeld (by decide)
  try simp only [Act.put, zz1, zz2, zz3, zz4, zz5, zz6]
  refine Zo 5 rfl fun K hK => ?_
  go_simp
  refine hK.out _ _ (fun h => absurd h (by decide)) (fun _ => ?_)
  clear hK K
  try simp only [Act.put, zz1, zz2, zz3, zz4, zz5, zz6]
  refine WaysZ.done (by kernel_rfl) ?_
  clear hHeld;go_wp2_with fail
  go_meet
  exact ⟨_, _, _, _, rfl, rfl, hP⟩
 case rest =>
  clear hP;have hS := hcut;clear hcut;have HLq : Hid (([intP 1, intP t] : List Itm).length ≤ 1000) := by rw [Hid]; simp
  have c3 := hS.key.cell 3 rfl;go_upto_if 12 with fail
  go_cut [3] (fun s3 wx => RSt w H (keyC t v g Ai kid.length ci Ax x.length cx Ad d.length cd Ak k.length ck) s3 ([intP 1, intP t] ++ optS' 2 kid) wx)
  case first =>
   by_cases h0 : 0 < kid.length
   case neg =>
    have E : Hid (([intP 1, intP t] ++ optS' 2 kid) = [intP 1, intP t]) := by rw [Hid, show optS' (2) kid = [] from if_neg h0, List.append_nil]
    have hi0 : ¬ (0 : Int) < (kid.length : Int) := by omega
    have hi1 : decide ((0 : Int) < (kid.length : Int)) = false := decide_eq_false hi0;have hi2 : decide (0 < kid.length) = false := decide_eq_false h0;clear h0;have HS := Hh hS;clear hS;go_wp2_with fail
    go_meet
    rw [E.out]
    exact HS.out
   have hi0 : (0 : Int) < (kid.length : Int) := by omega
   have hi1 : decide ((0 : Int) < (kid.length : Int)) = true := decide_eq_true hi0;have hi2 : decide (0 < kid.length) = true := decide_eq_true h0;have E : Hid (([intP 1, intP t] ++ optS' 2 kid) = [intP 1, intP t] ++ [intP (2), strI' kid]) := by rw [Hid, show optS' (2) kid = [intP (2), strI' kid] from if_pos h0]
   clear h0;have HLq := HLq;obtain ⟨LL, hLL⟩ : ∃ LL, [intP 1, intP t] = LL := ⟨_, rfl⟩
   rw [hLL] at hS HLq;have HLE := Hh hLL;clear hLL;obtain ⟨Hr, VA, m, vc, rfl, hm, hP⟩ := hS;have HL := Hh (And.intro hm HLq.out);clear hm;go_upto_region 3 with fail
   have c3 := hP.key.cell 3 rfl;replace hP := hP.drew
   refine wp_region_waysZ 6 (fun wx => wx.cell? ⟨w.heap.size, 3, none⟩ = some (.slice Ai kid.length ci)) (by kernel_rfl) (c3) (fun hHeld => ?_)
   refine Zk 0 rfl hHeld ?_
   refine Zk 2 rfl hHeld ?_
   refine Zk 3 rfl hHeld ?_
   refine Zo 1 rfl fun K hK => ?_
   go_simp
   refine (ref_Int (2) (by omega) (by omega) _ hP.grows.holds).mono ?_
   rintro e w3 ⟨v1, rfl, xa1, xb1, xc1, xd1, H1, rfl, hG1, hI1⟩
   have hP := hP.grow hG1
   refine hK.out _ _ (fun _ => ?_) (fun hHeld => ?_)
   ·exact hP.key.cell 3 rfl
   clear hK K;have hHeld := hHeld (by decide)
   try simp only [Act.put, zz1, zz2, zz3, zz4, zz5, zz6]
   refine Zo 4 rfl fun K hK => ?_
   go_simp
   refine (ref_Bytes rfl (by have := BL.out; omega) _ (Src.of_row (B1.out.1.row.mono hP.grows.le) hP.grows.holds) hP.grows.holds).mono ?_
   rintro e w4 ⟨v2, rfl, xa2, xb2, xc2, xd2, H2, rfl, hG2, hI2⟩
   have hP := hP.grow hG2;have hI1 := hI1.mono hG2.le
   refine hK.out _ _ (fun _ => ?_) (fun hHeld => ?_)
   ·exact hP.key.cell 3 rfl
   clear hK K;have hHeld := hHeld (by decide)
   try simp only [Act.put, zz1, zz2, zz3, zz4, zz5, zz6]
   refine Zo 5 rfl fun K hK => ?_
   go_simp
   have hZ := hP.litZ (itemC (intP (2)) xa1 xb1 xc1 xd1 ++ itemC (.mk 2 0 kid []) xa2 xb2 xc2 xd2).toArray 54;have hP := hP.alloc (.cells (itemC (intP (2)) xa1 xb1 xc1 xd1 ++ itemC (.mk 2 0 kid []) xa2 xb2 xc2 xd2).toArray 54)
   refine hK.out _ _ (fun _ => ?_) (fun hHeld => ?_)
   ·exact hP.key.cell 3 rfl
   clear hK K;have hHeld := hHeld (by decide)
   try simp only [Act.put, zz1, zz2, zz3, zz4, zz5, zz6]
   refine Zo 6 rfl fun K hK => ?_
   rw [if_pos (by rfl)]
   refine wp_app_items _ _ rfl _ _ _ _ rfl hP.own _ _ _ _ [_, _] rfl rfl ((ItemsC.one hI1).app (ItemsC.one hI2)) hZ (by have := HL.out; simp; omega) hP.base fun v7 w7 hown7 hg7 hat7 => ?_
   have hP := hP.app hown7 hg7 hat7;obtain ⟨A7, c7, rfl, _⟩ := hown7.form;obtain ⟨m7, hm7⟩ : ∃ m7, (LL ++ [intP (2), .mk 2 0 kid []]).length = m7 := ⟨_, rfl⟩
   rw [hm7] at hP ⊢;have HM7 := Hh hm7;clear hown7 hg7 hat7 hZ hm7
   refine hK.out _ _ (fun h => absurd h (by decide)) (fun _ => ?_)
   clear hK K
   try simp only [Act.put, zz1, zz2, zz3, zz4, zz5, zz6]
   refine ZkT 7 rfl (fun h => absurd h (by decide)) ?_
   refine WaysZ.done (by kernel_rfl) ?_
   clear hHeld;go_wp2_with fail
   go_meet
   exact (by rw [E.out, HLE.out]; exact ⟨_, _, _, _, rfl, HM7.out.symm, hP⟩)
  case rest =>
   clear hS c3;have hS := hcut;clear hcut;have HLq : Hid (([intP 1, intP t] ++ optS' 2 kid).length ≤ 1000) := by have := optS_len 2 kid; rw [Hid]; simp; omega
   have c2 := hS.key.cell 2 rfl;go_upto_if 22 with fail
   go_cut [3] (fun s3 wx => RSt w H (keyC t v g Ai kid.length ci Ax x.length cx Ad d.length cd Ak k.length ck) s3 (pairsA t g kid) wx)
   case first =>
    by_cases h0 : g = 0
    case pos =>
     have E : Hid ((pairsA t g kid) = ([intP 1, intP t] ++ optS' 2 kid)) := by rw [Hid, pairsA, if_pos h0, List.append_nil]
     subst h0;have HS := Hh hS;clear hS;go_wp2_with fail
     go_meet
     rw [E.out]
     exact HS.out
    have b1 : (g != 0) = true := by simp [h0]
    have p1 : (g = 0) = False := eq_false h0;have E : Hid ((pairsA t g kid) = ([intP 1, intP t] ++ optS' 2 kid) ++ [intP 3, intP g]) := by rw [Hid, pairsA, if_neg h0]
    clear h0;have HLq := HLq;obtain ⟨LL, hLL⟩ : ∃ LL, ([intP 1, intP t] ++ optS' 2 kid) = LL := ⟨_, rfl⟩
    rw [hLL] at hS HLq;have HLE := Hh hLL;clear hLL;obtain ⟨Hr, VA, m, vc, rfl, hm, hP⟩ := hS;have HL := Hh (And.intro hm HLq.out);clear hm;go_upto_region 5 with fail
    have c2 := hP.key.cell 2 rfl;replace hP := hP.drew
    refine wp_region_waysZ 6 (fun wx => wx.cell? ⟨w.heap.size, 2, none⟩ = some (.int .i64 g)) (by kernel_rfl) (c2) (fun hHeld => ?_)
    refine Zk 0 rfl hHeld ?_
    refine Zk 2 rfl hHeld ?_
    refine Zk 3 rfl hHeld ?_
    refine Zo 1 rfl fun K hK => ?_
    go_simp
    refine (ref_Int (3) (by omega) (by omega) _ hP.grows.holds).mono ?_
    rintro e w3 ⟨v1, rfl, xa1, xb1, xc1, xd1, H1, rfl, hG1, hI1⟩
    have hP := hP.grow hG1
    refine hK.out _ _ (fun _ => ?_) (fun hHeld => ?_)
    ·exact hP.key.cell 2 rfl
    clear hK K;have hHeld := hHeld (by decide)
    try simp only [Act.put, zz1, zz2, zz3, zz4, zz5, zz6]
    refine Zo 4 rfl fun K hK => ?_
    go_simp
    refine (ref_Int g D.out.2.2.1 D.out.2.2.2 _ hP.grows.holds).mono ?_
    rintro e w4 ⟨v2, rfl, xa2, xb2, xc2, xd2, H2, rfl, hG2, hI2⟩
    have hP := hP.grow hG2;have hI1 := hI1.mono hG2.le
    refine hK.out _ _ (fun _ => ?_) (fun hHeld => ?_)
    ·exact hP.key.cell 2 rfl
    clear hK K;have hHeld := hHeld (by decide)
    try simp only [Act.put, zz1, zz2, zz3, zz4, zz5, zz6]
    refine Zo 5 rfl fun K hK => ?_
    go_simp
    have hZ := hP.litZ (itemC (intP (3)) xa1 xb1 xc1 xd1 ++ itemC (intP g) xa2 xb2 xc2 xd2).toArray 54;have hP := hP.alloc (.cells (itemC (intP (3)) xa1 xb1 xc1 xd1 ++ itemC (intP g) xa2 xb2 xc2 xd2).toArray 54)
    refine hK.out _ _ (fun _ => ?_) (fun hHeld => ?_)
    ·exact hP.key.cell 2 rfl
    clear hK K;have hHeld := hHeld (by decide)
    try simp only [Act.put, zz1, zz2, zz3, zz4, zz5, zz6]
    refine Zo 6 rfl fun K hK => ?_
    rw [if_pos (by rfl)]
    refine wp_app_items _ _ rfl _ _ _ _ rfl hP.own _ _ _ _ [_, _] rfl rfl ((ItemsC.one hI1).app (ItemsC.one hI2)) hZ (by have := HL.out; simp; omega) hP.base fun v7 w7 hown7 hg7 hat7 => ?_
    have hP := hP.app hown7 hg7 hat7;obtain ⟨A7, c7, rfl, _⟩ := hown7.form;obtain ⟨m7, hm7⟩ : ∃ m7, (LL ++ [intP (3), intP g]).length = m7 := ⟨_, rfl⟩
    rw [hm7] at hP ⊢;have HM7 := Hh hm7;clear hown7 hg7 hat7 hZ hm7
    refine hK.out _ _ (fun h => absurd h (by decide)) (fun _ => ?_)
    clear hK K
    try simp only [Act.put, zz1, zz2, zz3, zz4, zz5, zz6]
    refine ZkT 7 rfl (fun h => absurd h (by decide)) ?_
    refine WaysZ.done (by kernel_rfl) ?_
    clear hHeld;go_wp2_with fail
    go_meet
    exact (by rw [E.out, HLE.out]; exact ⟨_, _, _, _, rfl, HM7.out.symm, hP⟩)
   case rest =>
    clear hS c2;have hS := hcut;clear hcut;have HLq : Hid ((pairsA t g kid).length ≤ 1000) := by have := pairsA_len t g kid; rw [Hid]; omega
    have c0 := hS.key.cell 0 rfl
    by_cases ht4 : t = 4
    case pos =>
     subst ht4;have HK4 := Hh (K4.out rfl);have E : Hid (pairsL 4 v g kid x d k = pairsA 4 g kid ++ [intP (-1), strI' k]) := by rw [Hid, pairsL, if_pos rfl, optS', if_pos HK4.out]
     clear K4;obtain ⟨LL, hLL⟩ : ∃ LL, (pairsA 4 g kid) = LL := ⟨_, rfl⟩
     rw [hLL] at hS HLq;have HLE := Hh hLL;clear hLL;obtain ⟨Hr, VA, m, vc, rfl, hm, hP⟩ := hS;have HL := Hh (And.intro hm HLq.out);clear hm;go_upto_region 7 with fail
     have c6 := hP.key.cell 6 rfl;replace hP := hP.drew
     refine wp_region_waysZ 6 (fun wx => wx.cell? ⟨w.heap.size, 6, none⟩ = some (.slice Ak k.length ck)) (by kernel_rfl) (c6) (fun hHeld => ?_)
     refine Zk 0 rfl hHeld ?_
     refine Zk 2 rfl hHeld ?_
     refine Zk 3 rfl hHeld ?_
     refine Zo 1 rfl fun K hK => ?_
     go_simp
     refine (ref_Int (-1) (by omega) (by omega) _ hP.grows.holds).mono ?_
     rintro e w3 ⟨v1, rfl, xa1, xb1, xc1, xd1, H1, rfl, hG1, hI1⟩
     have hP := hP.grow hG1
     refine hK.out _ _ (fun _ => ?_) (fun hHeld => ?_)
     ·exact hP.key.cell 6 rfl
     clear hK K;have hHeld := hHeld (by decide)
     try simp only [Act.put, zz1, zz2, zz3, zz4, zz5, zz6]
     refine Zo 4 rfl fun K hK => ?_
     go_simp
     refine (ref_Bytes rfl (by have := BL.out; omega) _ (Src.of_row (B1.out.2.2.2.row.mono hP.grows.le) hP.grows.holds) hP.grows.holds).mono ?_
     rintro e w4 ⟨v2, rfl, xa2, xb2, xc2, xd2, H2, rfl, hG2, hI2⟩
     have hP := hP.grow hG2;have hI1 := hI1.mono hG2.le
     refine hK.out _ _ (fun _ => ?_) (fun hHeld => ?_)
     ·exact hP.key.cell 6 rfl
     clear hK K;have hHeld := hHeld (by decide)
     try simp only [Act.put, zz1, zz2, zz3, zz4, zz5, zz6]
     refine Zo 5 rfl fun K hK => ?_
     go_simp
     have hZ := hP.litZ (itemC (intP (-1)) xa1 xb1 xc1 xd1 ++ itemC (.mk 2 0 k []) xa2 xb2 xc2 xd2).toArray 54;have hP := hP.alloc (.cells (itemC (intP (-1)) xa1 xb1 xc1 xd1 ++ itemC (.mk 2 0 k []) xa2 xb2 xc2 xd2).toArray 54)
     refine hK.out _ _ (fun _ => ?_) (fun hHeld => ?_)
     ·exact hP.key.cell 6 rfl
     clear hK K;have hHeld := hHeld (by decide)
     try simp only [Act.put, zz1, zz2, zz3, zz4, zz5, zz6]
     refine Zo 6 rfl fun K hK => ?_
     rw [if_pos (by rfl)]
     refine wp_app_items _ _ rfl _ _ _ _ rfl hP.own _ _ _ _ [_, _] rfl rfl ((ItemsC.one hI1).app (ItemsC.one hI2)) hZ (by have := HL.out; simp; omega) hP.base fun v7 w7 hown7 hg7 hat7 => ?_
     have hP := hP.app hown7 hg7 hat7;obtain ⟨A7, c7, rfl, _⟩ := hown7.form;obtain ⟨m7, hm7⟩ : ∃ m7, (LL ++ [intP (-1), .mk 2 0 k []]).length = m7 := ⟨_, rfl⟩
     rw [hm7] at hP ⊢;have HM7 := Hh hm7;clear hown7 hg7 hat7 hZ hm7
     refine hK.out _ _ (fun h => absurd h (by decide)) (fun _ => ?_)
     clear hK K
     try simp only [Act.put, zz1, zz2, zz3, zz4, zz5, zz6]
     refine ZkT 7 rfl (fun h => absurd h (by decide)) ?_
     refine WaysZ.done (by kernel_rfl) ?_
     clear hHeld;go_wp2_with fail
     go_ret
     exact ⟨_, rfl, by rw [E.out, HLE.out]; exact hP.out⟩
    have b4 : (t == 4) = false := by rw [beq_eq_false_iff_ne]; exact ht4
    have p4 : (t = 4) = False := eq_false ht4;have EL : Hid (pairsL t v g kid x d k = pairsA t g kid ++ ([intP (-1), intP v] ++ optS' (-2) x ++ optS' (-4) d)) := by rw [Hid, pairsL, if_neg ht4]
    have HLs : Hid ((pairsA t g kid).length ≤ 6) := pairsA_len t g kid;clear ht4 K4;go_upto_region 8 with fail
    clear c0;go_cut [3] (fun s3 wx => RSt w H (keyC t v g Ai kid.length ci Ax x.length cx Ad d.length cd Ak k.length ck) s3 (pairsA t g kid ++ [intP (-1), intP v]) wx)
    case first =>
     obtain ⟨LL, hLL⟩ : ∃ LL, (pairsA t g kid) = LL := ⟨_, rfl⟩
     rw [hLL] at hS HLq;have HLE := Hh hLL;clear hLL;obtain ⟨Hr, VA, m, vc, rfl, hm, hP⟩ := hS;have HL := Hh (And.intro hm HLq.out);clear hm;have c1 := hP.key.cell 1 rfl;replace hP := hP.drew
     refine wp_region_waysZ 6 (fun wx => wx.cell? ⟨w.heap.size, 1, none⟩ = some (.int .i64 v)) (by kernel_rfl) (c1) (fun hHeld => ?_)
     refine Zk 0 rfl hHeld ?_
     refine Zk 2 rfl hHeld ?_
     refine Zk 3 rfl hHeld ?_
     refine Zo 1 rfl fun K hK => ?_
     go_simp
     refine (ref_Int (-1) (by omega) (by omega) _ hP.grows.holds).mono ?_
     rintro e w3 ⟨v1, rfl, xa1, xb1, xc1, xd1, H1, rfl, hG1, hI1⟩
     have hP := hP.grow hG1
     refine hK.out _ _ (fun _ => ?_) (fun hHeld => ?_)
     ·exact hP.key.cell 1 rfl
     clear hK K;have hHeld := hHeld (by decide)
     try simp only [Act.put, zz1, zz2, zz3, zz4, zz5, zz6]
     refine Zo 4 rfl fun K hK => ?_
     go_simp
     refine (ref_Int v D.out.2.1.1 D.out.2.1.2 _ hP.grows.holds).mono ?_
     rintro e w4 ⟨v2, rfl, xa2, xb2, xc2, xd2, H2, rfl, hG2, hI2⟩
     have hP := hP.grow hG2;have hI1 := hI1.mono hG2.le
     refine hK.out _ _ (fun _ => ?_) (fun hHeld => ?_)
     ·exact hP.key.cell 1 rfl
     clear hK K;have hHeld := hHeld (by decide)
     try simp only [Act.put, zz1, zz2, zz3, zz4, zz5, zz6]
     refine Zo 5 rfl fun K hK => ?_
     go_simp
     have hZ := hP.litZ (itemC (intP (-1)) xa1 xb1 xc1 xd1 ++ itemC (intP v) xa2 xb2 xc2 xd2).toArray 54;have hP := hP.alloc (.cells (itemC (intP (-1)) xa1 xb1 xc1 xd1 ++ itemC (intP v) xa2 xb2 xc2 xd2).toArray 54)
     refine hK.out _ _ (fun _ => ?_) (fun hHeld => ?_)
     ·exact hP.key.cell 1 rfl
     clear hK K;have hHeld := hHeld (by decide)
     try simp only [Act.put, zz1, zz2, zz3, zz4, zz5, zz6]
     refine Zo 6 rfl fun K hK => ?_
     rw [if_pos (by rfl)]
     refine wp_app_items _ _ rfl _ _ _ _ rfl hP.own _ _ _ _ [_, _] rfl rfl ((ItemsC.one hI1).app (ItemsC.one hI2)) hZ (by have := HL.out; simp; omega) hP.base fun v7 w7 hown7 hg7 hat7 => ?_
     have hP := hP.app hown7 hg7 hat7;obtain ⟨A7, c7, rfl, _⟩ := hown7.form;obtain ⟨m7, hm7⟩ : ∃ m7, (LL ++ [intP (-1), intP v]).length = m7 := ⟨_, rfl⟩
     rw [hm7] at hP ⊢;have HM7 := Hh hm7;clear hown7 hg7 hat7 hZ hm7
     refine hK.out _ _ (fun h => absurd h (by decide)) (fun _ => ?_)
     clear hK K
     try simp only [Act.put, zz1, zz2, zz3, zz4, zz5, zz6]
     refine ZkT 7 rfl (fun h => absurd h (by decide)) ?_
     refine WaysZ.done (by kernel_rfl) ?_
     clear hHeld;go_wp2_with fail
     go_meet
     exact (by rw [HLE.out]; exact ⟨_, _, _, _, rfl, HM7.out.symm, hP⟩)
    case rest =>
     clear hS HLq;have hS := hcut;clear hcut;have HLq : Hid ((pairsA t g kid ++ [intP (-1), intP v]).length ≤ 1000) := by have := HLs.out; rw [Hid]; simp; omega
     have c4 := hS.key.cell 4 rfl;go_upto_if 50 with fail
     go_cut [3] (fun s3 wx => RSt w H (keyC t v g Ai kid.length ci Ax x.length cx Ad d.length cd Ak k.length ck) s3 (pairsA t g kid ++ [intP (-1), intP v] ++ optS' (-2) x) wx)
     case first =>
      by_cases h0 : 0 < x.length
      case neg =>
       have E : Hid ((pairsA t g kid ++ [intP (-1), intP v] ++ optS' (-2) x) = (pairsA t g kid ++ [intP (-1), intP v])) := by rw [Hid, show optS' (-2) x = [] from if_neg h0, List.append_nil]
       have hi0 : ¬ (0 : Int) < (x.length : Int) := by omega
       have hi1 : decide ((0 : Int) < (x.length : Int)) = false := decide_eq_false hi0;have hi2 : decide (0 < x.length) = false := decide_eq_false h0;clear h0;have HS := Hh hS;clear hS;go_wp2_with fail
       go_meet
       rw [E.out]
       exact HS.out
      have hi0 : (0 : Int) < (x.length : Int) := by omega
      have hi1 : decide ((0 : Int) < (x.length : Int)) = true := decide_eq_true hi0;have hi2 : decide (0 < x.length) = true := decide_eq_true h0;have E : Hid ((pairsA t g kid ++ [intP (-1), intP v] ++ optS' (-2) x) = (pairsA t g kid ++ [intP (-1), intP v]) ++ [intP (-2), strI' x]) := by rw [Hid, show optS' (-2) x = [intP (-2), strI' x] from if_pos h0]
      clear h0;have HLq := HLq;obtain ⟨LL, hLL⟩ : ∃ LL, (pairsA t g kid ++ [intP (-1), intP v]) = LL := ⟨_, rfl⟩
      rw [hLL] at hS HLq;have HLE := Hh hLL;clear hLL;obtain ⟨Hr, VA, m, vc, rfl, hm, hP⟩ := hS;have HL := Hh (And.intro hm HLq.out);clear hm;go_upto_region 10 with fail
      have c4 := hP.key.cell 4 rfl;replace hP := hP.drew
      refine wp_region_waysZ 6 (fun wx => wx.cell? ⟨w.heap.size, 4, none⟩ = some (.slice Ax x.length cx)) (by kernel_rfl) (c4) (fun hHeld => ?_)
      refine Zk 0 rfl hHeld ?_
      refine Zk 2 rfl hHeld ?_
      refine Zk 3 rfl hHeld ?_
      refine Zo 1 rfl fun K hK => ?_
      go_simp
      refine (ref_Int (-2) (by omega) (by omega) _ hP.grows.holds).mono ?_
      rintro e w3 ⟨v1, rfl, xa1, xb1, xc1, xd1, H1, rfl, hG1, hI1⟩
      have hP := hP.grow hG1
      refine hK.out _ _ (fun _ => ?_) (fun hHeld => ?_)
      ·exact hP.key.cell 4 rfl
      clear hK K;have hHeld := hHeld (by decide)
      try simp only [Act.put, zz1, zz2, zz3, zz4, zz5, zz6]
      refine Zo 4 rfl fun K hK => ?_
      go_simp
      refine (ref_Bytes rfl (by have := BL.out; omega) _ (Src.of_row (B1.out.2.1.row.mono hP.grows.le) hP.grows.holds) hP.grows.holds).mono ?_
      rintro e w4 ⟨v2, rfl, xa2, xb2, xc2, xd2, H2, rfl, hG2, hI2⟩
      have hP := hP.grow hG2;have hI1 := hI1.mono hG2.le
      refine hK.out _ _ (fun _ => ?_) (fun hHeld => ?_)
      ·exact hP.key.cell 4 rfl
      clear hK K;have hHeld := hHeld (by decide)
      try simp only [Act.put, zz1, zz2, zz3, zz4, zz5, zz6]
      refine Zo 5 rfl fun K hK => ?_
      go_simp
      have hZ := hP.litZ (itemC (intP (-2)) xa1 xb1 xc1 xd1 ++ itemC (.mk 2 0 x []) xa2 xb2 xc2 xd2).toArray 54;have hP := hP.alloc (.cells (itemC (intP (-2)) xa1 xb1 xc1 xd1 ++ itemC (.mk 2 0 x []) xa2 xb2 xc2 xd2).toArray 54)
      refine hK.out _ _ (fun _ => ?_) (fun hHeld => ?_)
      ·exact hP.key.cell 4 rfl
      clear hK K;have hHeld := hHeld (by decide)
      try simp only [Act.put, zz1, zz2, zz3, zz4, zz5, zz6]
      refine Zo 6 rfl fun K hK => ?_
      rw [if_pos (by rfl)]
      refine wp_app_items _ _ rfl _ _ _ _ rfl hP.own _ _ _ _ [_, _] rfl rfl ((ItemsC.one hI1).app (ItemsC.one hI2)) hZ (by have := HL.out; simp; omega) hP.base fun v7 w7 hown7 hg7 hat7 => ?_
      have hP := hP.app hown7 hg7 hat7;obtain ⟨A7, c7, rfl, _⟩ := hown7.form;obtain ⟨m7, hm7⟩ : ∃ m7, (LL ++ [intP (-2), .mk 2 0 x []]).length = m7 := ⟨_, rfl⟩
      rw [hm7] at hP ⊢;have HM7 := Hh hm7;clear hown7 hg7 hat7 hZ hm7
      refine hK.out _ _ (fun h => absurd h (by decide)) (fun _ => ?_)
      clear hK K
      try simp only [Act.put, zz1, zz2, zz3, zz4, zz5, zz6]
      refine ZkT 7 rfl (fun h => absurd h (by decide)) ?_
      refine WaysZ.done (by kernel_rfl) ?_
      clear hHeld;go_wp2_with fail
      go_meet
      exact (by rw [E.out, HLE.out]; exact ⟨_, _, _, _, rfl, HM7.out.symm, hP⟩)
     case rest =>
      clear hS c4;have hS := hcut;clear hcut;have HLq : Hid ((pairsA t g kid ++ [intP (-1), intP v] ++ optS' (-2) x).length ≤ 1000) := by have := HLs.out; have := optS_len (-2) x; rw [Hid]; simp; omega
      have c5 := hS.key.cell 5 rfl;go_upto_if 61 with fail
      go_cut [3] (fun s3 wx => RSt w H (keyC t v g Ai kid.length ci Ax x.length cx Ad d.length cd Ak k.length ck) s3 (pairsA t g kid ++ [intP (-1), intP v] ++ optS' (-2) x ++ optS' (-4) d) wx)
      case first =>
       by_cases h0 : 0 < d.length
       case neg =>
        have E : Hid ((pairsA t g kid ++ [intP (-1), intP v] ++ optS' (-2) x ++ optS' (-4) d) = (pairsA t g kid ++ [intP (-1), intP v] ++ optS' (-2) x)) := by rw [Hid, show optS' (-4) d = [] from if_neg h0, List.append_nil]
        have hi0 : ¬ (0 : Int) < (d.length : Int) := by omega
        have hi1 : decide ((0 : Int) < (d.length : Int)) = false := decide_eq_false hi0;have hi2 : decide (0 < d.length) = false := decide_eq_false h0;clear h0;have HS := Hh hS;clear hS;go_wp2_with fail
        go_meet
        rw [E.out]
        exact HS.out
       have hi0 : (0 : Int) < (d.length : Int) := by omega
       have hi1 : decide ((0 : Int) < (d.length : Int)) = true := decide_eq_true hi0;have hi2 : decide (0 < d.length) = true := decide_eq_true h0;have E : Hid ((pairsA t g kid ++ [intP (-1), intP v] ++ optS' (-2) x ++ optS' (-4) d) = (pairsA t g kid ++ [intP (-1), intP v] ++ optS' (-2) x) ++ [intP (-4), strI' d]) := by rw [Hid, show optS' (-4) d = [intP (-4), strI' d] from if_pos h0]
       clear h0;have HLq := HLq;obtain ⟨LL, hLL⟩ : ∃ LL, (pairsA t g kid ++ [intP (-1), intP v] ++ optS' (-2) x) = LL := ⟨_, rfl⟩
       rw [hLL] at hS HLq;have HLE := Hh hLL;clear hLL;obtain ⟨Hr, VA, m, vc, rfl, hm, hP⟩ := hS;have HL := Hh (And.intro hm HLq.out);clear hm;go_upto_region 12 with fail
       have c5 := hP.key.cell 5 rfl;replace hP := hP.drew
       refine wp_region_waysZ 6 (fun wx => wx.cell? ⟨w.heap.size, 5, none⟩ = some (.slice Ad d.length cd)) (by kernel_rfl) (c5) (fun hHeld => ?_)
       refine Zk 0 rfl hHeld ?_
       refine Zk 2 rfl hHeld ?_
       refine Zk 3 rfl hHeld ?_
       refine Zo 1 rfl fun K hK => ?_
       go_simp
       refine (ref_Int (-4) (by omega) (by omega) _ hP.grows.holds).mono ?_
       rintro e w3 ⟨v1, rfl, xa1, xb1, xc1, xd1, H1, rfl, hG1, hI1⟩
       have hP := hP.grow hG1
       refine hK.out _ _ (fun _ => ?_) (fun hHeld => ?_)
       ·exact hP.key.cell 5 rfl
       clear hK K;have hHeld := hHeld (by decide)
       try simp only [Act.put, zz1, zz2, zz3, zz4, zz5, zz6]
       refine Zo 4 rfl fun K hK => ?_
       go_simp
       refine (ref_Bytes rfl (by have := BL.out; omega) _ (Src.of_row (B1.out.2.2.1.row.mono hP.grows.le) hP.grows.holds) hP.grows.holds).mono ?_
       rintro e w4 ⟨v2, rfl, xa2, xb2, xc2, xd2, H2, rfl, hG2, hI2⟩
       have hP := hP.grow hG2;have hI1 := hI1.mono hG2.le
       refine hK.out _ _ (fun _ => ?_) (fun hHeld => ?_)
       ·exact hP.key.cell 5 rfl
       clear hK K;have hHeld := hHeld (by decide)
       try simp only [Act.put, zz1, zz2, zz3, zz4, zz5, zz6]
       refine Zo 5 rfl fun K hK => ?_
       go_simp
       have hZ := hP.litZ (itemC (intP (-4)) xa1 xb1 xc1 xd1 ++ itemC (.mk 2 0 d []) xa2 xb2 xc2 xd2).toArray 54;have hP := hP.alloc (.cells (itemC (intP (-4)) xa1 xb1 xc1 xd1 ++ itemC (.mk 2 0 d []) xa2 xb2 xc2 xd2).toArray 54)
       refine hK.out _ _ (fun _ => ?_) (fun hHeld => ?_)
       ·exact hP.key.cell 5 rfl
       clear hK K;have hHeld := hHeld (by decide)
       try simp only [Act.put, zz1, zz2, zz3, zz4, zz5, zz6]
       refine Zo 6 rfl fun K hK => ?_
       rw [if_pos (by rfl)]
       refine wp_app_items _ _ rfl _ _ _ _ rfl hP.own _ _ _ _ [_, _] rfl rfl ((ItemsC.one hI1).app (ItemsC.one hI2)) hZ (by have := HL.out; simp; omega) hP.base fun v7 w7 hown7 hg7 hat7 => ?_
       have hP := hP.app hown7 hg7 hat7;obtain ⟨A7, c7, rfl, _⟩ := hown7.form;obtain ⟨m7, hm7⟩ : ∃ m7, (LL ++ [intP (-4), .mk 2 0 d []]).length = m7 := ⟨_, rfl⟩
       rw [hm7] at hP ⊢;have HM7 := Hh hm7;clear hown7 hg7 hat7 hZ hm7
       refine hK.out _ _ (fun h => absurd h (by decide)) (fun _ => ?_)
       clear hK K
       try simp only [Act.put, zz1, zz2, zz3, zz4, zz5, zz6]
       refine ZkT 7 rfl (fun h => absurd h (by decide)) ?_
       refine WaysZ.done (by kernel_rfl) ?_
       clear hHeld;go_wp2_with fail
       go_meet
       exact (by rw [E.out, HLE.out]; exact ⟨_, _, _, _, rfl, HM7.out.symm, hP⟩)
      case rest =>
       clear hS c5;have hS := hcut;clear hcut;obtain ⟨Hr, VA, m, vc, rfl, hm, hP⟩ := hS;have hO := hP.out;clear hP hm;go_wp2_with fail
       go_ret
       exact ⟨_, rfl, by rw [EL.out]; show RowOut w H _ (Value.slice VA m vc) _; rw [← List.append_assoc, ← List.append_assoc]; exact hO⟩
end Go.Proofs.YtmacemcajlgddaaGreatDoor
