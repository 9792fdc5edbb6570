/- Walks: the references' value. -/
import Derived.Test.YtdbhgngikglmcaaDoorRk
set_option linter.unusedVariables false
set_option linter.unusedSimpArgs false
namespace Go.Proofs.YtdbhgngikglmcaaDoor
open Go.RowKit

def nums4 : List Int := [4, 5, 6, 12]
theorem valueP_1 {k v : Itm} {m : List Itm} (h : sameB k (intP 1) = true) : valueP k v m = (((v.kind == 0 && decide (0 < v.n)) || v.kind == 1) && decide (v.n ≤ 65535)) := by rw [valueP, if_pos h]
theorem valueP_2 {k v : Itm} {m : List Itm} (h1 : sameB k (intP 1) = false) (h : sameB k (intP 2) = true) : valueP k v m = (v.kind == 4 && decide (0 < v.items.length) && v.items.all fun x => (atL x m).isSome) := by rw [valueP, if_neg (by simp [h1]), if_pos h]
theorem valueP_3 {k v : Itm} {m : List Itm} (h1 : sameB k (intP 1) = false) (h2 : sameB k (intP 2) = false) : valueP k v m = (if (nums4.any fun n => sameB k (intP n)) = true then v.kind == 2 else true) := by
  rw [valueP, if_neg (by simp [h1]), if_neg (by simp [h2])]
  have : (nums4.any fun n => sameB k (intP n)) = (sameB k (intP 4) || sameB k (intP 5) || sameB k (intP 6) || sameB k (intP 12)) := by simp [nums4, Bool.or_assoc]
  rw [this]

set_option maxRecDepth 100000 in
set_option maxHeartbeats 12800000 in
theorem ref_value {key v m : Itm} (hmk : Modest key) (hmv : Modest v) (hmm : Modest m) {H : Snap} {a b c : Ad} (hk : IsItem H a.ba a.bc a.ia a.ic key) (hv : IsItem H b.ba b.bc b.ia b.ic v) (hm : IsItem H c.ba c.bc c.ia c.ic m) (w : World) (hH : Holds w H) :
    Calls Tryd.prog 62 #[itemV key a.ba a.bc a.ia a.ic, itemV v b.ba b.bc b.ia b.ic, itemV m c.ba c.bc c.ia c.ic] w fun e w' => e = .returned (.bool (valueP key v m.items)) ∧ Below w.heap.size w w' := by
  have HK := Lib.hid hk
  have HV := Lib.hid hv
  have HM := Lib.hid hm
  have HMK := Lib.hid hmk
  have HMV := Lib.hid hmv
  have HMM := Lib.hid hmm
  have hvl := hmv.parts.2.1
  have hvb := hv.bounds
  have HNV := Lib.hid hvb.2.2.1
  have hB1 := (((Blk.new w 26 #[.int .i64 key.kind, .int .u64 key.n, .slice a.ba key.bytes.length a.bc, .slice a.ia key.items.length a.ic]).alloc (itemO v b.ba b.bc b.ia b.ic)).alloc (itemO m c.ba c.bc c.ia c.ic)).drew
  have hB2 := ((Blk.new (w.alloc (itemO key a.ba a.bc a.ia a.ic)) 26 #[.int .i64 v.kind, .int .u64 v.n, .slice b.ba v.bytes.length b.bc, .slice b.ia v.items.length b.ic]).alloc (itemO m c.ba c.bc c.ia c.ic)).drew
  have hB3 := (Blk.new ((w.alloc (itemO key a.ba a.bc a.ia a.ic)).alloc (itemO v b.ba b.bc b.ia b.ic)) 26 #[.int .i64 m.kind, .int .u64 m.n, .slice c.ba m.bytes.length c.bc, .slice c.ia m.items.length c.ic]).drew
  simp only [size_alloc] at hB2 hB3
  have hb := (((below_box w (itemO key a.ba a.bc a.ia a.ic)).alloc (by simp) (itemO v b.ba b.bc b.ia b.ic)).alloc (by simp; omega) (itemO m c.ba c.bc c.ia c.ic)).drew
  have hHx : Holds (((w.alloc (itemO key a.ba a.bc a.ia a.ic)).alloc (itemO v b.ba b.bc b.ia b.ic)).alloc (itemO m c.ba c.bc c.ia c.ic)).drew H := (((hH.alloc _).alloc _).alloc _).drew
  have IS := Lib.hid (fun (n : Int) (h1 : -9223372036854775808 ≤ n) (h2 : n ≤ 9223372036854775807) (w1 : World) (h : Holds w1 H) => ref_Int n h1 h2 w1 h)
  clear hk hv hm hmk hmv hmm hvb
  go_enter Tryd.func62, Tryd.ntmps62
  go_upto_region 1 with fail
  refine wp_region_ways 3 (fun w' => w'.cell? ⟨w.heap.size, 0, none⟩ = some (.int .i64 key.kind) ∧ w'.cell? ⟨w.heap.size, 1, none⟩ = some (.int .u64 key.n) ∧ w'.cell? ⟨w.heap.size, 2, none⟩ = some (.slice a.ba key.bytes.length a.bc) ∧ w'.cell? ⟨w.heap.size, 3, none⟩ = some (.slice a.ia key.items.length a.ic)) (by kernel_rfl) (⟨hB1.cell 0 rfl, hB1.cell 1 rfl, hB1.cell 2 rfl, hB1.cell 3 rfl⟩) (fun hHeld => ?_)
  refine Ways.take (i := 0) (v := ?_) rfl (by kernel_rfl) (fun _ _ _ h => h) (Or.inl ⟨by rfl, ?_⟩) hHeld ?_
  rotate_left
  · (intro w hSw; (try dsimp only at hSw); go_simp; try with_reducible rfl)
  try simp only [Act.put, List.setIfInBounds_toArray, List.set_cons_zero, List.set_cons_succ]
  refine Ways.one (i := 1) rfl (by kernel_rfl) (fun K hK => ?_)
  go_simp
  refine (IS.out 1 (by omega) (by omega) _ hHx).mono ?_
  rintro e w1 ⟨v1, rfl, hv1⟩
  have hB1 := hB1.below hv1.below
  have hB2 := hB2.below hv1.below
  have hB3 := hB3.below hv1.below
  have hb := hb.trans (hv1.below.mono hb.size)
  have hHy := hHx.below hv1.below (Nat.le_refl _)
  obtain ⟨xa, xb, xc, xd, H1, rfl, hG1, hi1⟩ := hv1
  refine hK.out _ _ (fun _ => ?_) (fun hHeld => ?_)
  · exact ⟨hB1.cell 0 rfl, hB1.cell 1 rfl, hB1.cell 2 rfl, hB1.cell 3 rfl⟩
  clear hK K
  have hHeld := hHeld (by decide)
  try simp only [Act.put, List.setIfInBounds_toArray, List.set_cons_zero, List.set_cons_succ]
  refine Ways.one (i := 2) rfl (by kernel_rfl) (fun K hK => ?_)
  go_simp
  refine (ref_Same key (intP 1) H1 _ _ a.ba _ a.bc a.ia _ a.ic _ _ xa _ xb xc _ xd _ HMK.out (modest_int 1) (HK.out.mono hG1.le).arg hi1.arg hG1.holds).mono ?_
  rintro e w2 ⟨rfl, hb2⟩
  have hB1 := hB1.below hb2
  have hB2 := hB2.below hb2
  have hB3 := hB3.below hb2
  have hb := hb.trans (hb2.mono hb.size)
  have hHy := hHy.below hb2 (Nat.le_refl _)
  refine hK.out _ _ (fun _ => ?_) (fun hHeld => ?_)
  · exact ⟨hB1.cell 0 rfl, hB1.cell 1 rfl, hB1.cell 2 rfl, hB1.cell 3 rfl⟩
  clear hK K
  have hHeld := hHeld (by decide)
  try simp only [Act.put, List.setIfInBounds_toArray, List.set_cons_zero, List.set_cons_succ]
  refine Ways.one (i := 3) rfl (by kernel_rfl) (fun K hK => ?_)
  go_simp
  refine hK.out _ _ (fun h => absurd rfl h) (fun _ => ?_)
  clear hK K
  try simp only [Act.put, List.setIfInBounds_toArray, List.set_cons_zero, List.set_cons_succ]
  refine Ways.done (by kernel_rfl) ?_
  clear hHeld hHx hG1 hi1 hb2
  have d0 := hB2.cell 0 rfl
  have d1 := hB2.cell 1 rfl
  have d3 := hB2.cell 3 rfl
  cases hq1 : sameB key (intP 1) with
  | true =>
    have E := Lib.hid (valueP_1 (v := v) (m := m.items) hq1)
    clear hq1
    go_wp2_with fail
    all_goals
      go_ret
      refine ⟨?_, hb⟩
      rw [E.out]
      show Ending.returned (Value.bool _) = _
      congr 2
      rw [Bool.eq_iff_iff]
      simp_all
      try omega
  | false =>
    have hHx := hHy.drew
    have hB1 := hB1.drew
    have hB2 := hB2.drew
    have hB3 := hB3.drew
    have hb := hb.drew
    clear d0 d1 d3
    have HQ1 := Lib.hid hq1
    clear hq1
    go_upto_region 3 with fail
    refine wp_region_ways 3 (fun w' => w'.cell? ⟨w.heap.size, 0, none⟩ = some (.int .i64 key.kind) ∧ w'.cell? ⟨w.heap.size, 1, none⟩ = some (.int .u64 key.n) ∧ w'.cell? ⟨w.heap.size, 2, none⟩ = some (.slice a.ba key.bytes.length a.bc) ∧ w'.cell? ⟨w.heap.size, 3, none⟩ = some (.slice a.ia key.items.length a.ic)) (by kernel_rfl) (⟨hB1.cell 0 rfl, hB1.cell 1 rfl, hB1.cell 2 rfl, hB1.cell 3 rfl⟩) (fun hHeld => ?_)
    refine Ways.take (i := 0) (v := ?_) rfl (by kernel_rfl) (fun _ _ _ h => h) (Or.inl ⟨by rfl, ?_⟩) hHeld ?_
    rotate_left
    · (intro w hSw; (try dsimp only at hSw); go_simp; try with_reducible rfl)
    try simp only [Act.put, List.setIfInBounds_toArray, List.set_cons_zero, List.set_cons_succ]
    refine Ways.one (i := 1) rfl (by kernel_rfl) (fun K hK => ?_)
    go_simp
    refine (IS.out 2 (by omega) (by omega) _ hHx).mono ?_
    rintro e w3 ⟨v3, rfl, hv3⟩
    have hB1 := hB1.below hv3.below
    have hB2 := hB2.below hv3.below
    have hB3 := hB3.below hv3.below
    have hb := hb.trans (hv3.below.mono hb.size)
    have hHy := hHx.below hv3.below (Nat.le_refl _)
    obtain ⟨ya, yb, yc, yd, H3, rfl, hG3, hi3⟩ := hv3
    refine hK.out _ _ (fun _ => ?_) (fun hHeld => ?_)
    · exact ⟨hB1.cell 0 rfl, hB1.cell 1 rfl, hB1.cell 2 rfl, hB1.cell 3 rfl⟩
    clear hK K
    have hHeld := hHeld (by decide)
    try simp only [Act.put, List.setIfInBounds_toArray, List.set_cons_zero, List.set_cons_succ]
    refine Ways.one (i := 2) rfl (by kernel_rfl) (fun K hK => ?_)
    go_simp
    refine (ref_Same key (intP 2) H3 _ _ a.ba _ a.bc a.ia _ a.ic _ _ ya _ yb yc _ yd _ HMK.out (modest_int 2) (HK.out.mono hG3.le).arg hi3.arg hG3.holds).mono ?_
    rintro e w4 ⟨rfl, hb4⟩
    have hB1 := hB1.below hb4
    have hB2 := hB2.below hb4
    have hB3 := hB3.below hb4
    have hb := hb.trans (hb4.mono hb.size)
    have hHy := hHy.below hb4 (Nat.le_refl _)
    refine hK.out _ _ (fun _ => ?_) (fun hHeld => ?_)
    · exact ⟨hB1.cell 0 rfl, hB1.cell 1 rfl, hB1.cell 2 rfl, hB1.cell 3 rfl⟩
    clear hK K
    have hHeld := hHeld (by decide)
    try simp only [Act.put, List.setIfInBounds_toArray, List.set_cons_zero, List.set_cons_succ]
    refine Ways.one (i := 3) rfl (by kernel_rfl) (fun K hK => ?_)
    go_simp
    refine hK.out _ _ (fun h => absurd rfl h) (fun _ => ?_)
    clear hK K
    try simp only [Act.put, List.setIfInBounds_toArray, List.set_cons_zero, List.set_cons_succ]
    refine Ways.done (by kernel_rfl) ?_
    clear hHeld hHx hG3 hi3 hb4
    have d0 := hB2.cell 0 rfl
    have d3 := hB2.cell 3 rfl
    cases hq2 : sameB key (intP 2) with
    | true =>
      have E := Lib.hid (valueP_2 (v := v) (m := m.items) HQ1.out hq2)
      clear hq2
      by_cases h4 : v.kind = 4
      case neg =>
        have EE : Hid (valueP key v m.items = false) := by rw [Hid, E.out]; simp [h4]
        have b4 : (v.kind != 4) = true := by simp [h4]
        have p4 : (v.kind = 4) = False := eq_false h4
        clear h4
        go_wp2_with fail
        go_ret
        exact ⟨by rw [EE.out]; rfl, hb⟩
      have b4 : (v.kind != 4) = false := by simp [h4]
      have p4 : (v.kind = 4) = True := eq_true h4
      have e4 : (v.kind == 4) = true := by simp [h4]
      by_cases h0 : v.items.length = 0
      case pos =>
        have EE : Hid (valueP key v m.items = false) := by rw [Hid, E.out]; simp [h0]
        have b0 : ((v.items.length : Int) == 0) = true := by rw [beq_iff_eq]; omega
        have p0 : (v.items = []) = True := eq_true (List.length_eq_zero_iff.1 h0)
        clear h0 h4 e4
        go_wp2_with fail
        go_ret
        exact ⟨by rw [EE.out]; rfl, hb⟩
      have b0 : ((v.items.length : Int) == 0) = false := by rw [beq_eq_false_iff_ne]; omega
      have p0 : (v.items = []) = False := eq_false (fun h => h0 (by rw [h]; rfl))
      have EE : Hid (valueP key v m.items = v.items.all fun x => (atL x m.items).isSome) := by rw [Hid, E.out, e4, decide_eq_true (by omega)]; simp
      clear h4 e4 h0 E
      go_wp2_with fail
      go_loopw [51] (fun v51 wr => ∃ j : Nat, j ≤ v.items.length ∧ v51 = .int .i64 j ∧ ((v.items.drop j).all fun x => (atL x m.items).isSome) = (v.items.all fun x => (atL x m.items).isSome) ∧ Below w.heap.size w wr ∧ Blk wr (w.heap.size + 1 + 1) 26 #[.int .i64 m.kind, .int .u64 m.n, .slice c.ba m.bytes.length c.bc, .slice c.ia m.items.length c.ic]) (fun v51 _ => v.items.length - (intOf v51).toNat)
      case atStart => exact ⟨0, Nat.zero_le _, rfl, rfl, hb, hB3⟩
      case round =>
        obtain ⟨j, hj, rfl, hs, hbr, hD3⟩ := hrel
        have HS := Lib.hid hs
        clear hs d0 d3
        by_cases hlt : j < v.items.length
        · have hHr : Holds wr H := hH.below hbr (Nat.le_refl _)
          obtain ⟨ib, io, hia, hel⟩ := HV.out.items (by omega)
          obtain ⟨y1, y2, y3, y4, q0, q1, q2, q3, hex⟩ := hel.get j hlt
          have hvia : b.ia = some ⟨ib, io, none⟩ := hia
          have p0' := hHr.cell q0
          have p1' := hHr.cell q1
          have p2' := hHr.cell q2
          have p3' := hHr.cell q3
          have hst : Hid (((v.items.drop j).all fun x => (atL x m.items).isSome) = ((atL v.items[j] m.items).isSome && (v.items.drop (j + 1)).all fun x => (atL x m.items).isSome)) := by rw [Hid, List.drop_eq_getElem_cons hlt, List.all_cons]
          have IH := Lib.hid (fun w1 : World => fun h1 : Holds w1 H => ref_at HMM.out (HMV.out.parts.2.2.get j hlt) HM.out.arg hex.arg w1 h1)
          generalize v.items[j]'hlt = u at *
          have hHz := hHr.alloc (itemO u y1 y2 y3 y4)
          have hbz := hbr.alloc hbr.size (itemO u y1 y2 y3 y4)
          have hDz := hD3.alloc (itemO u y1 y2 y3 y4)
          have f0 := hDz.cell 0 rfl
          have f1 := hDz.cell 1 rfl
          have f2 := hDz.cell 2 rfl
          have f3 := hDz.cell 3 rfl
          clear hel hex q0 q1 q2 q3 hia
          rw [hvia]
          go_wp2_with fail
          refine (IH.out _ hHz).mono ?_
          rintro e w6 ⟨⟨ra, rb, rc, rd, rfl, _⟩, hb6⟩
          have hb7 := hbz.trans (hb6.mono hbz.size)
          have hD6 := hDz.below hb6
          generalize hg : atL u m.items = o at *
          clear hbz hDz hHz f0 f1 f2 f3 hb6
          cases o with
          | none =>
            have EN : Hid (valueP key v m.items = false) := by rw [Hid, EE.out, ← HS.out, hst.out]; rfl
            have hb8 := hb7.alloc hb7.size (itemO ((none : Option Itm).getD zeroItm) ra rb rc rd)
            clear hg
            go_wp2_with fail
            go_ret
            exact ⟨by rw [EN.out]; rfl, hb8⟩
          | some y =>
            have EN : Hid (((v.items.drop (j + 1)).all fun x => (atL x m.items).isSome) = (v.items.all fun x => (atL x m.items).isSome)) := by rw [Hid, ← HS.out, hst.out]; rfl
            have hb8 := hb7.alloc hb7.size (itemO ((some y : Option Itm).getD zeroItm) ra rb rc rd)
            have hD8 := hD6.alloc (itemO ((some y : Option Itm).getD zeroItm) ra rb rc rd)
            clear hg
            go_wp2_with fail
            go_roundw
            case rel => exact ⟨j + 1, by omega, by go_num, EN.out, hb8, hD8⟩
            case measure => simp [intOf]; omega
        · have hjl : j = v.items.length := by omega
          subst hjl
          have EN : Hid (valueP key v m.items = true) := by rw [Hid, EE.out, ← HS.out, List.drop_length]; rfl
          go_wp2_with fail
          go_ret
          exact ⟨by rw [EN.out]; rfl, hbr⟩
    | false =>
      have E := Lib.hid (valueP_3 (v := v) (m := m.items) HQ1.out hq2)
      clear hq2 d0 d3
      have hI := Blk.new w4 3 #[.int .i64 4, .int .i64 5, .int .i64 6, .int .i64 12]
      have hB1 := hB1.alloc (.cells #[.int .i64 4, .int .i64 5, .int .i64 6, .int .i64 12] 3)
      have hB2 := hB2.alloc (.cells #[.int .i64 4, .int .i64 5, .int .i64 6, .int .i64 12] 3)
      have hb := hb.alloc hb.size (.cells #[.int .i64 4, .int .i64 5, .int .i64 6, .int .i64 12] 3)
      go_wp2_with fail
      go_loopw [66] (fun v66 wr => ∃ j : Nat, j ≤ 4 ∧ v66 = .int .i64 j ∧ ((nums4.drop j).any fun n => sameB key (intP n)) = (nums4.any fun n => sameB key (intP n)) ∧ Below w.heap.size w wr ∧ Blk wr w.heap.size 26 #[.int .i64 key.kind, .int .u64 key.n, .slice a.ba key.bytes.length a.bc, .slice a.ia key.items.length a.ic] ∧
        Blk wr (w.heap.size + 1) 26 #[.int .i64 v.kind, .int .u64 v.n, .slice b.ba v.bytes.length b.bc, .slice b.ia v.items.length b.ic] ∧ Blk wr w4.heap.size 3 #[.int .i64 4, .int .i64 5, .int .i64 6, .int .i64 12]) (fun v66 _ => 4 - (intOf v66).toNat)
      case atStart => exact ⟨0, by omega, rfl, rfl, hb, hB1, hB2, hI⟩
      case round =>
        obtain ⟨j, hj, rfl, hs, hbr, hC1, hC2, hCi⟩ := hrel
        have HS := Lib.hid hs
        clear hs
        by_cases hlt : j < 4
        · have hnv : ∃ nv : Int, wr.cell? ⟨w4.heap.size, j, none⟩ = some (.int .i64 nv) ∧ nums4.drop j = nv :: nums4.drop (j + 1) ∧ 0 ≤ nv ∧ nv ≤ 12 := by
            rcases (by omega : j = 0 ∨ j = 1 ∨ j = 2 ∨ j = 3) with rfl | rfl | rfl | rfl
            · exact ⟨4, hCi.cell 0 rfl, rfl, by omega, by omega⟩
            · exact ⟨5, hCi.cell 1 rfl, rfl, by omega, by omega⟩
            · exact ⟨6, hCi.cell 2 rfl, rfl, by omega, by omega⟩
            · exact ⟨12, hCi.cell 3 rfl, rfl, by omega, by omega⟩
          obtain ⟨nv, hcell, hdrop, hn1, hn2⟩ := hnv
          have hst : Hid (((nums4.drop j).any fun n => sameB key (intP n)) = (sameB key (intP nv) || (nums4.drop (j + 1)).any fun n => sameB key (intP n))) := by rw [Hid, hdrop, List.any_cons]
          have hHz : Holds wr.drew H := (hH.below hbr (Nat.le_refl _)).drew
          have hD1 := hC1.drew
          have hD2 := hC2.drew
          have hDi := hCi.drew
          have hbz := hbr.drew
          clear hdrop
          go_upto_region 17 with fail
          refine wp_region_ways 3 (fun w' => w'.cell? ⟨w.heap.size, 0, none⟩ = some (.int .i64 key.kind) ∧ w'.cell? ⟨w.heap.size, 1, none⟩ = some (.int .u64 key.n) ∧ w'.cell? ⟨w.heap.size, 2, none⟩ = some (.slice a.ba key.bytes.length a.bc) ∧ w'.cell? ⟨w.heap.size, 3, none⟩ = some (.slice a.ia key.items.length a.ic)) (by kernel_rfl) (⟨hD1.cell 0 rfl, hD1.cell 1 rfl, hD1.cell 2 rfl, hD1.cell 3 rfl⟩) (fun hHeld => ?_)
          refine Ways.take (i := 0) (v := ?_) rfl (by kernel_rfl) (fun _ _ _ h => h) (Or.inl ⟨by rfl, ?_⟩) hHeld ?_
          rotate_left
          · (intro w hSw; (try dsimp only at hSw); go_simp; try with_reducible rfl)
          try simp only [Act.put, List.setIfInBounds_toArray, List.set_cons_zero, List.set_cons_succ]
          refine Ways.take (i := 1) (v := ?_) rfl (by kernel_rfl) (fun _ _ _ h => h) (Or.inl ⟨by rfl, ?_⟩) hHeld ?_
          rotate_left
          · (intro w hSw; (try dsimp only at hSw); go_simp; try with_reducible rfl)
          try simp only [Act.put, List.setIfInBounds_toArray, List.set_cons_zero, List.set_cons_succ]
          refine Ways.one (i := 2) rfl (by kernel_rfl) (fun K hK => ?_)
          go_simp
          refine (IS.out nv (by omega) (by omega) _ hHz).mono ?_
          rintro e w5 ⟨v5, rfl, hv5⟩
          have hD1 := hD1.below hv5.below
          have hD2 := hD2.below hv5.below
          have hDi := hDi.below hv5.below
          have hbz := hbz.trans (hv5.below.mono hbz.size)
          obtain ⟨za, zb, zc, zd, H5, rfl, hG5, hi5⟩ := hv5
          refine hK.out _ _ (fun _ => ?_) (fun hHeld => ?_)
          · exact ⟨hD1.cell 0 rfl, hD1.cell 1 rfl, hD1.cell 2 rfl, hD1.cell 3 rfl⟩
          clear hK K
          have hHeld := hHeld (by decide)
          try simp only [Act.put, List.setIfInBounds_toArray, List.set_cons_zero, List.set_cons_succ]
          refine Ways.one (i := 3) rfl (by kernel_rfl) (fun K hK => ?_)
          go_simp
          refine (ref_Same key (intP nv) H5 _ _ a.ba _ a.bc a.ia _ a.ic _ _ za _ zb zc _ zd _ HMK.out (modest_int nv) (HK.out.mono hG5.le).arg hi5.arg hG5.holds).mono ?_
          rintro e w6 ⟨rfl, hb6⟩
          have hD1 := hD1.below hb6
          have hD2 := hD2.below hb6
          have hDi := hDi.below hb6
          have hbz := hbz.trans (hb6.mono hbz.size)
          refine hK.out _ _ (fun h => absurd rfl h) (fun _ => ?_)
          clear hK K
          try simp only [Act.put, List.setIfInBounds_toArray, List.set_cons_zero, List.set_cons_succ]
          refine Ways.done (by kernel_rfl) ?_
          have d0 := hD2.cell 0 rfl
          clear hHeld hHz hG5 hi5 hb6 hcell hC1 hC2 hCi hbr
          cases hq : sameB key (intP nv) with
          | true =>
            have EN : Hid (valueP key v m.items = (v.kind == 2)) := by rw [Hid, E.out, ← HS.out, hst.out, hq]; rfl
            clear hq
            go_wp2_with fail
            go_ret
            exact ⟨by rw [EN.out]; rfl, hbz⟩
          | false =>
            have EN : Hid (((nums4.drop (j + 1)).any fun n => sameB key (intP n)) = (nums4.any fun n => sameB key (intP n))) := by rw [Hid, ← HS.out, hst.out, hq]; rfl
            clear hq
            go_wp2_with fail
            go_roundw
            case rel => exact ⟨j + 1, by omega, by go_num, EN.out, hbz, hD1, hD2, hDi⟩
            case measure => simp [intOf]; omega
        · have hj4 : j = 4 := by omega
          subst hj4
          have EN : Hid (valueP key v m.items = true) := by rw [Hid, E.out, ← HS.out]; rfl
          go_wp2_with fail
          go_ret
          exact ⟨by rw [EN.out]; rfl, hbr⟩
end Go.Proofs.YtdbhgngikglmcaaDoor
