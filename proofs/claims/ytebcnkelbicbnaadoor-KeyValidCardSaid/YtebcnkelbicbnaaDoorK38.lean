/- Walks: the law: which keys are valid, their items and encodings. -/
import Derived.Test.YtebcnkelbicbnaaDoorK35
import Derived.Test.YtebcnkelbicbnaaDoorK37
import Derived.Test.YtebcnkelbicbnaaDoorK17
import Derived.Test.YtebcnkelbicbnaaDoorK21
set_option linter.unusedVariables false
set_option linter.unusedSimpArgs false
namespace Go.Proofs.YtebcnkelbicbnaaDoor
open Go.RowKit

def lieK : Lie Ky where
  k := 7
  pos := by omega
  E := fun H q c => ∃ a, c = (keyQ q a).toList ∧ KeyA H q a
  len := by rintro _ _ _ ⟨_, rfl, _⟩; rfl
  one := by rintro _ _ _ ⟨_, rfl, _⟩; simp [Value.oneCell']
  mono := by rintro H K x c hl ⟨a, e, h⟩; exact ⟨a, e, h.mono hl⟩
set_option maxRecDepth 100000 in
set_option maxHeartbeats 25600000 in
theorem law11_valid {H : Snap} (hTab : Tabs H) {A : Option Addr} {c : Nat} {l : List Int} (hl : IsInts H A c l) {raw : Ky} {ra : KAd} (hraw : KeyA H raw ra) (which by_ : Int) (hby : -9223372036854775808 ≤ by_ ∧ by_ ≤ 9223372036854775807) (w : World) (hH : Holds w H) :
    Calls Tryd.prog 3 #[.agg (keyQ raw ra), .slice A l.length c, .int .i64 which, .int .i64 by_] w fun e w' => e = .returned (.bool true) ∧ Below w.heap.size w w' := by
  have hR := Blk.new w 24 (keyQ raw ra)
  have hG1 := (Grows.refl hH).alloc (.cells (keyQ raw ra) 24)
  have NW := Lib.hid (fun w => mk_New hl w)
  have HT := Lib.hid hTab
  have HRAW := Lib.hid hraw
  have HBY := Lib.hid hby
  have HH := Lib.hid hH
  obtain ⟨w2, hw2⟩ : ∃ w2, w.alloc (.cells (keyQ raw ra) 24) = w2 := ⟨_, rfl⟩
  have HZ2 : Hid (w2.heap.size = w.heap.size + 1) := by rw [Hid, ← hw2, size_alloc]
  rw [hw2] at hR hG1
  obtain ⟨nl, hnl⟩ : ∃ nl, l.length = nl := ⟨_, rfl⟩
  rw [hnl] at NW ⊢
  clear hTab hraw hby hl hH hnl
  go_enter Tryd.func3, Tryd.ntmps3
  go_wp2_with fail
  refine (NW.out _).mono ?_
  rintro e w4 ⟨rfl, hdk, hb4⟩
  have hG4 := hG1.below_ hb4
  have hR4 := hR.below hb4
  have hgn : H w2.heap.size = none := HH.out.none_of_ge (by have := HZ2.out; omega)
  have hDI : DeckIn w4 w2.heap.size H := ⟨hdk, hG4.holds, hgn⟩
  have hgw : Hid (w.heap.size ≤ w2.heap.size ∧ w.heap.size ≠ w2.heap.size) := by have := HZ2.out; rw [Hid]; omega
  clear hw2 hdk hb4 hR hG1 NW hgn
  go_wp2_with fail
  refine (deck_Key _ hDI).mono ?_
  rintro e w5 ⟨k, ka, H5, rfl, hd5, hk5, hv5⟩
  have hG5 := hG4.trans_but hd5.grows hgw.out.1
  have hR5 := hR4.dealt hd5 hgw.out.2
  have hB9 := Blk.new w5 24 (keyQ k ka)
  have hG6 := hG5.alloc (.cells (keyQ k ka) 24)
  have hR6 := hR5.alloc (.cells (keyQ k ka) 24)
  obtain ⟨K9, hK9⟩ : ∃ K9, w5.heap.size = K9 := ⟨_, rfl⟩
  obtain ⟨w6, hw6⟩ : ∃ w6, w5.alloc (.cells (keyQ k ka) 24) = w6 := ⟨_, rfl⟩
  have HW6 := Lib.hid (show w5.alloc (.cells #[.int .i64 k.kty, .int .i64 k.crv, .int .i64 k.alg, .slice ka.ia k.kid.length ka.ic, .slice ka.xa k.x.length ka.xc, .slice ka.da k.d.length ka.dc, .slice ka.ka k.k.length ka.kc] 24) = w6 from hw6)
  have HK9 := Lib.hid hK9
  rw [hK9] at hB9
  rw [hw6] at hB9 hG6 hR6
  have HK5 := Lib.hid hk5
  have HV5 := Lib.hid hv5
  have hle5 := Lib.hid hG5.le
  clear hw6 hK9 hd5 hk5 hv5 hDI hG4 hR4 hG5 hR5 hgw
  go_upto_region 2 with fail
  rw [HW6.out]
  try rw [HK9.out]
  clear HW6 HK9
  go_cut [29, 30, 31] (fun s29 s30 s31 wx => s30 = .int .i64 3 ∧ s31 = .int .i64 0 ∧ ∃ g Hr q3, s29 = .slice (some ⟨g, 0, none⟩) 3 3 ∧ Grows w H wx Hr ∧ IsRow lieK Hr (some ⟨g, 0, none⟩) 3 [raw, k, q3] ∧ Blk wx K9 24 (keyQ k ka))
  case first =>
    have HS := Lib.hid (And.intro hR6 hB9)
    refine wp_region_waysZ 6 (fun wx => (wx.cell? ⟨w.heap.size, 0, none⟩ = some (.int .i64 raw.kty) ∧ wx.cell? ⟨w.heap.size, 1, none⟩ = some (.int .i64 raw.crv) ∧ wx.cell? ⟨w.heap.size, 2, none⟩ = some (.int .i64 raw.alg) ∧ wx.cell? ⟨w.heap.size, 3, none⟩ = some (.slice ra.ia raw.kid.length ra.ic) ∧ wx.cell? ⟨w.heap.size, 4, none⟩ = some (.slice ra.xa raw.x.length ra.xc) ∧ wx.cell? ⟨w.heap.size, 5, none⟩ = some (.slice ra.da raw.d.length ra.dc) ∧ wx.cell? ⟨w.heap.size, 6, none⟩ = some (.slice ra.ka raw.k.length ra.kc)) ∧ (wx.cell? ⟨K9, 0, none⟩ = some (.int .i64 k.kty) ∧ wx.cell? ⟨K9, 1, none⟩ = some (.int .i64 k.crv) ∧ wx.cell? ⟨K9, 2, none⟩ = some (.int .i64 k.alg) ∧ wx.cell? ⟨K9, 3, none⟩ = some (.slice ka.ia k.kid.length ka.ic) ∧ wx.cell? ⟨K9, 4, none⟩ = some (.slice ka.xa k.x.length ka.xc) ∧ wx.cell? ⟨K9, 5, none⟩ = some (.slice ka.da k.d.length ka.dc) ∧ wx.cell? ⟨K9, 6, none⟩ = some (.slice ka.ka k.k.length ka.kc))) (by kernel_rfl) (⟨⟨hR6.drew.cell 0 rfl, hR6.drew.cell 1 rfl, hR6.drew.cell 2 rfl, hR6.drew.cell 3 rfl, hR6.drew.cell 4 rfl, hR6.drew.cell 5 rfl, hR6.drew.cell 6 rfl⟩, ⟨hB9.drew.cell 0 rfl, hB9.drew.cell 1 rfl, hB9.drew.cell 2 rfl, hB9.drew.cell 3 rfl, hB9.drew.cell 4 rfl, hB9.drew.cell 5 rfl, hB9.drew.cell 6 rfl⟩⟩) (fun hHeld => ?_)
    refine WaysZ.take (i := 0) (v := ?_) rfl (by kernel_rfl) (fun _ _ _ h => h) (Or.inl ⟨by rfl, ?_⟩) hHeld ?_
    rotate_left
    · (intro w hSw; (try dsimp only at hSw); go_simp; try with_reducible rfl)
    try simp only [Act.put, List.getElem_toArray, List.getElem_cons_zero, List.getElem_cons_succ, List.setIfInBounds_toArray, List.set_cons_zero, List.set_cons_succ]
    refine WaysZ.take (i := 1) (v := ?_) rfl (by kernel_rfl) (fun _ _ _ h => h) (Or.inl ⟨by rfl, ?_⟩) hHeld ?_
    rotate_left
    · (intro w hSw; (try dsimp only at hSw); go_simp; try with_reducible rfl)
    try simp only [Act.put, List.getElem_toArray, List.getElem_cons_zero, List.getElem_cons_succ, List.setIfInBounds_toArray, List.set_cons_zero, List.set_cons_succ]
    refine WaysZ.take (i := 2) (v := ?_) rfl (by kernel_rfl) (fun _ _ _ h => h) (Or.inl ⟨by rfl, ?_⟩) hHeld ?_
    rotate_left
    · (intro w hSw; (try dsimp only at hSw); go_simp; try with_reducible rfl)
    try simp only [Act.put, List.getElem_toArray, List.getElem_cons_zero, List.getElem_cons_succ, List.setIfInBounds_toArray, List.set_cons_zero, List.set_cons_succ]
    refine WaysZ.take (i := 3) (v := ?_) rfl (by kernel_rfl) (fun _ _ _ h => h) (Or.inl ⟨by rfl, ?_⟩) hHeld ?_
    rotate_left
    · (intro w hSw; (try dsimp only at hSw); go_simp; try with_reducible rfl)
    try simp only [Act.put, List.getElem_toArray, List.getElem_cons_zero, List.getElem_cons_succ, List.setIfInBounds_toArray, List.set_cons_zero, List.set_cons_succ]
    refine WaysZ.take (i := 4) (v := ?_) rfl (by kernel_rfl) (fun _ _ _ h => h) (Or.inl ⟨by rfl, ?_⟩) hHeld ?_
    rotate_left
    · (intro w hSw; (try dsimp only at hSw); go_simp; try with_reducible rfl)
    try simp only [Act.put, List.getElem_toArray, List.getElem_cons_zero, List.getElem_cons_succ, List.setIfInBounds_toArray, List.set_cons_zero, List.set_cons_succ]
    refine WaysZ.takeT (i := 8) (v := ?_) rfl (by kernel_rfl) (fun _ _ _ h => h) (Or.inl ⟨by rfl, ?_⟩) (fun _ => hHeld) ?_
    rotate_left
    · (intro w hSw; (try dsimp only at hSw); go_simp; try with_reducible rfl)
    try simp only [Act.put, List.getElem_toArray, List.getElem_cons_zero, List.getElem_cons_succ, List.setIfInBounds_toArray, List.set_cons_zero, List.set_cons_succ]
    refine WaysZ.one (i := 5) rfl (by kernel_rfl) (fun K hK => ?_)
    go_simp
    refine (law11_spoilt HK5.out (by have := validK_len HV5.out; omega) which by_ HBY.out _ hG6.drew.holds).mono ?_
    rintro e w7 ⟨q3, a3, H7, rfl, hG7, hk7⟩
    replace hR6 := hR6.drew.below hG7.below
    replace hB9 := hB9.drew.below hG7.below
    replace hG6 := hG6.drew.trans hG7
    have HKA := Lib.hid (And.intro hk7 (And.intro (HK5.out.mono hG7.le) (HRAW.out.mono (hle5.out.trans hG7.le))))
    clear hG7 hk7
    refine hK.out _ _ (fun _ => ?_) (fun hHeld => ?_)
    · exact ⟨⟨hR6.cell 0 rfl, hR6.cell 1 rfl, hR6.cell 2 rfl, hR6.cell 3 rfl, hR6.cell 4 rfl, hR6.cell 5 rfl, hR6.cell 6 rfl⟩, ⟨hB9.cell 0 rfl, hB9.cell 1 rfl, hB9.cell 2 rfl, hB9.cell 3 rfl, hB9.cell 4 rfl, hB9.cell 5 rfl, hB9.cell 6 rfl⟩⟩
    clear hK K
    have hHeld := hHeld (by decide)
    try simp only [Act.put, List.getElem_toArray, List.getElem_cons_zero, List.getElem_cons_succ, List.setIfInBounds_toArray, List.set_cons_zero, List.set_cons_succ]
    refine WaysZ.one (i := 6) rfl (by kernel_rfl) (fun K hK => ?_)
    go_simp
    obtain ⟨H8, hG8, hl8, hr8⟩ := lit_row (L := lieK) (l := [raw, k, q3]) hG6 ((RowC.one (L := lieK) (H := H7) (x := raw) (c := (keyQ raw ra).toList) ⟨ra, rfl, HKA.out.2.2⟩).app ((RowC.one (L := lieK) (H := H7) (x := k) (c := (keyQ k ka).toList) ⟨ka, rfl, HKA.out.2.1⟩).app (RowC.one (L := lieK) (H := H7) (x := q3) (c := (keyQ q3 a3).toList) ⟨a3, rfl, HKA.out.1⟩))) 24 (by simp)
    replace hB9 := hB9.below (below_box _ (.cells ((keyQ raw ra).toList ++ ((keyQ k ka).toList ++ (keyQ q3 a3).toList)).toArray 24))
    refine hK.out _ _ (fun h => absurd h (by decide)) (fun _ => ?_)
    clear hK K
    try simp only [Act.put, List.getElem_toArray, List.getElem_cons_zero, List.getElem_cons_succ, List.setIfInBounds_toArray, List.set_cons_zero, List.set_cons_succ]
    refine WaysZ.takeT (i := 7) (v := ?_) rfl (by kernel_rfl) (fun _ _ _ h => h) (Or.inl ⟨by rfl, ?_⟩) (fun h => absurd h (by decide)) ?_
    rotate_left
    · (intro w hSw; (try dsimp only at hSw); go_simp; try with_reducible rfl)
    try simp only [Act.put, List.getElem_toArray, List.getElem_cons_zero, List.getElem_cons_succ, List.setIfInBounds_toArray, List.set_cons_zero, List.set_cons_succ]
    refine WaysZ.done (by kernel_rfl) ?_
    clear hHeld
    go_wp2_with fail
    go_meet
    exact ⟨rfl, rfl, _, H8, q3, rfl, hG8, hr8, hB9⟩
  case rest =>
    clear hG6 hR6 hB9
    obtain ⟨rfl, rfl, g, H8, q3, rfl, hG8, hr8, hB8⟩ := hcut
    obtain ⟨qs, hqs⟩ : ∃ qs, [raw, k, q3] = qs := ⟨_, rfl⟩
    have HQS : Hid (qs.length = 3) := by rw [Hid, ← hqs]; rfl
    rw [hqs] at hr8
    have HR8 := Lib.hid hr8
    clear hqs hr8
    go_wp2_with fail
    go_loopw [31] (fun v31 wr => ∃ (j : Nat) (Hr : Snap), j ≤ 3 ∧ v31 = .int .i64 (j : Int) ∧ Grows w H wr Hr ∧ H8.le Hr ∧ Blk wr K9 24 (keyQ k ka)) (fun v31 _ => 3 - (intOf v31).toNat)
    case atStart => exact ⟨0, H8, by omega, rfl, hG8, Snap.le.refl _, hB8⟩
    case round =>
      clear hG8 hB8
      obtain ⟨j, Hr, hj, rfl, hGr, hlr, hB⟩ := hrel
      have HJ := Lib.hid hj
      have HLR := Lib.hid hlr
      clear hj hlr
      by_cases hlt : j < 3
      · have hji : (j : Int) < 3 := by omega
        obtain ⟨gb, go, hga, hat⟩ := HR8.out.at_ (by rw [HQS.out]; omega)
        cases hga
        obtain ⟨d, hd, hc⟩ := hat j (by rw [HQS.out]; exact hlt)
        obtain ⟨xa, hd, hkx⟩ := hd
        subst hd
        generalize qs[j]'(by rw [HQS.out]; exact hlt) = x at *
        have r0 := hGr.holds.cell (HLR.out.cell (hc 0 _ rfl))
        have r1 := hGr.holds.cell (HLR.out.cell (hc 1 _ rfl))
        have r2 := hGr.holds.cell (HLR.out.cell (hc 2 _ rfl))
        have r3 := hGr.holds.cell (HLR.out.cell (hc 3 _ rfl))
        have r4 := hGr.holds.cell (HLR.out.cell (hc 4 _ rfl))
        have r5 := hGr.holds.cell (HLR.out.cell (hc 5 _ rfl))
        have r6 := hGr.holds.cell (HLR.out.cell (hc 6 _ rfl))
        simp only [lieK, Nat.add_zero, Nat.zero_add, ← Nat.add_assoc] at r0 r1 r2 r3 r4 r5 r6
        have HKX := Lib.hid (hkx.mono HLR.out)
        have hP := Blk.new wr 24 (keyQ x xa)
        have hG1 := hGr.alloc (.cells (keyQ x xa) 24)
        replace hB := hB.alloc (.cells (keyQ x xa) 24)
        obtain ⟨vb, hvb⟩ : ∃ vb, validK x = vb := ⟨_, rfl⟩
        obtain ⟨X, hX⟩ : ∃ X, itmK x = X := ⟨_, rfl⟩
        obtain ⟨cd, hcd⟩ : ∃ cd, codeK x = cd := ⟨_, rfl⟩
        obtain ⟨lb, hlb⟩ : ∃ lb, (if validK x = true then encB (itemK x) else []) = lb := ⟨_, rfl⟩
        have HE := Lib.hid (And.intro hvb (And.intro hX (And.intro hcd hlb)))
        have HMX : Hid (Modest X) := by
          rw [Hid, ← hX, itmK]
          split
          · rename_i h; exact validP_modest (validP_itemK h)
          · exact modest_plain _ _ _ (by simp)
        have hltI := Lib.hid hlt
        clear hvb hX hcd hlb hat hc hkx hGr hlt
        go_wp2_with fail
        refine (key_ToItem (HT.out.mono hG1.le) HKX.out _ hG1.holds).mono ?_
        rintro e w11 ⟨v1, rfl, y1, y2, y3, y4, H1, rfl, hG2, hI1⟩
        have HLE := Lib.hid (HLR.out.trans hG2.le)
        rw [HE.out.2.1] at hI1 ⊢
        rw [HE.out.2.2.1]
        replace HKX := Lib.hid (HKX.out.mono hG2.le)
        replace hP := (hP.below hG2.below).alloc (itemO X y1 y2 y3 y4)
        replace hB := (hB.below hG2.below).alloc (itemO X y1 y2 y3 y4)
        have hU := Blk.new w11 34 #[.int .i64 X.kind, .int .u64 X.n, .slice y1 X.bytes.length y2, .slice y3 X.items.length y4]
        replace hG1 := (hG1.trans hG2).alloc (itemO X y1 y2 y3 y4)
        have HI1 := Lib.hid hI1
        clear hG2 hI1 r0 r1 r2 r3 r4 r5 r6
        have p0 := hP.cell 0 rfl
        have p1 := hP.cell 1 rfl
        have p2 := hP.cell 2 rfl
        have p3 := hP.cell 3 rfl
        have p4 := hP.cell 4 rfl
        have p5 := hP.cell 5 rfl
        have p6 := hP.cell 6 rfl
        go_wp2_with fail
        refine (ref11_ToItem (HT.out.mono hG1.le) HKX.out _ hG1.holds).mono ?_
        rintro e w12 ⟨v2, rfl, z1, z2, z3, z4, H2, rfl, hG2, hI2⟩
        replace HLE := Lib.hid (HLE.out.trans hG2.le)
        rw [HE.out.2.1] at hI2 ⊢
        rw [HE.out.2.2.1]
        replace HKX := Lib.hid (HKX.out.mono hG2.le)
        replace HI1 := Lib.hid (HI1.out.mono hG2.le)
        replace hP := (hP.below hG2.below).alloc (itemO X z1 z2 z3 z4)
        replace hB := (hB.below hG2.below).alloc (itemO X z1 z2 z3 z4)
        replace hU := (hU.below hG2.below).alloc (itemO X z1 z2 z3 z4)
        have hV := Blk.new w12 34 #[.int .i64 X.kind, .int .u64 X.n, .slice z1 X.bytes.length z2, .slice z3 X.items.length z4]
        replace hG1 := (hG1.trans hG2).alloc (itemO X z1 z2 z3 z4)
        have HI2 := Lib.hid hI2
        clear hG2 hI2 p0 p1 p2 p3 p4 p5 p6
        have p0 := hP.cell 0 rfl
        have p1 := hP.cell 1 rfl
        have p2 := hP.cell 2 rfl
        have p3 := hP.cell 3 rfl
        have p4 := hP.cell 4 rfl
        have p5 := hP.cell 5 rfl
        have p6 := hP.cell 6 rfl
        go_wp2_with fail
        refine (key_Encode (HT.out.mono hG1.le) HKX.out _ hG1.holds).mono ?_
        rintro e w13 ⟨v3, l3, rfl, hf, hl3⟩
        rw [HE.out.2.2.1]
        replace hl3 := hl3.trans HE.out.2.2.2
        subst hl3
        obtain ⟨RA, rc, rfl, hjk⟩ := hf.own.form
        clear hjk
        replace hP := hP.below hf.2
        replace hB := hB.below hf.2
        replace hU := hU.below hf.2
        replace hV := hV.below hf.2
        have HS1 := Lib.hid hf.own.src
        replace hG1 := hG1.below_ hf.2
        clear hf p0 p1 p2 p3 p4 p5 p6
        have p0 := hP.cell 0 rfl
        have p1 := hP.cell 1 rfl
        have p2 := hP.cell 2 rfl
        have p3 := hP.cell 3 rfl
        have p4 := hP.cell 4 rfl
        have p5 := hP.cell 5 rfl
        have p6 := hP.cell 6 rfl
        go_wp2_with fail
        refine (ref11_Encode (HT.out.mono hG1.le) HKX.out _ hG1.holds).mono ?_
        rintro e w14 ⟨v4, l4, rfl, hf, hl4⟩
        rw [HE.out.2.2.1]
        replace hl4 := hl4.trans HE.out.2.2.2
        subst hl4
        obtain ⟨RB, rd, rfl, hjk⟩ := hf.own.form
        clear hjk
        replace hP := hP.below hf.2
        replace hB := hB.below hf.2
        replace hU := hU.below hf.2
        replace hV := hV.below hf.2
        replace HS1 := Lib.hid (HS1.out.below hf.2)
        have HS2 := Lib.hid hf.own.src
        replace hG1 := hG1.below_ hf.2
        clear hf p0 p1 p2 p3 p4 p5 p6
        have p0 := hP.cell 0 rfl
        have p1 := hP.cell 1 rfl
        have p2 := hP.cell 2 rfl
        have p3 := hP.cell 3 rfl
        have p4 := hP.cell 4 rfl
        have p5 := hP.cell 5 rfl
        have p6 := hP.cell 6 rfl
        clear p0 p1 p2 p3 p4 p5 p6
        obtain ⟨P, hPe⟩ : ∃ P, wr.heap.size = P := ⟨_, rfl⟩
        obtain ⟨U, hUe⟩ : ∃ U, w11.heap.size = U := ⟨_, rfl⟩
        obtain ⟨V, hVe⟩ : ∃ V, w12.heap.size = V := ⟨_, rfl⟩
        rw [hPe] at hP
        rw [hUe] at hU
        rw [hVe] at hV
        go_upto_region 9 with fail
        try rw [hPe]
        try rw [hUe]
        try rw [hVe]
        clear hPe hUe hVe
        go_cut [82] (fun s82 wx => s82 = .bool false ∧ ∃ Hr, Grows w H wx Hr ∧ H8.le Hr ∧ Blk wx K9 24 (keyQ k ka))
        case first =>
          replace hP := hP.drew
          replace hB := hB.drew
          replace hU := hU.drew
          replace hV := hV.drew
          replace hG1 := hG1.drew
          replace HS1 := Lib.hid (HS1.out.below (Below.refl _ _).drew)
          replace HS2 := Lib.hid (HS2.out.below (Below.refl _ _).drew)
          refine wp_region_waysZ 27 (fun wx => (wx.cell? ⟨P, 0, none⟩ = some (.int .i64 x.kty) ∧ wx.cell? ⟨P, 1, none⟩ = some (.int .i64 x.crv) ∧ wx.cell? ⟨P, 2, none⟩ = some (.int .i64 x.alg) ∧ wx.cell? ⟨P, 3, none⟩ = some (.slice xa.ia x.kid.length xa.ic) ∧ wx.cell? ⟨P, 4, none⟩ = some (.slice xa.xa x.x.length xa.xc) ∧ wx.cell? ⟨P, 5, none⟩ = some (.slice xa.da x.d.length xa.dc) ∧ wx.cell? ⟨P, 6, none⟩ = some (.slice xa.ka x.k.length xa.kc)) ∧ (wx.cell? ⟨U, 0, none⟩ = some (.int .i64 X.kind) ∧ wx.cell? ⟨U, 1, none⟩ = some (.int .u64 X.n) ∧ wx.cell? ⟨U, 2, none⟩ = some (.slice y1 X.bytes.length y2) ∧ wx.cell? ⟨U, 3, none⟩ = some (.slice y3 X.items.length y4)) ∧ (wx.cell? ⟨V, 0, none⟩ = some (.int .i64 X.kind) ∧ wx.cell? ⟨V, 1, none⟩ = some (.int .u64 X.n) ∧ wx.cell? ⟨V, 2, none⟩ = some (.slice z1 X.bytes.length z2) ∧ wx.cell? ⟨V, 3, none⟩ = some (.slice z3 X.items.length z4))) (by kernel_rfl) (⟨⟨hP.cell 0 rfl, hP.cell 1 rfl, hP.cell 2 rfl, hP.cell 3 rfl, hP.cell 4 rfl, hP.cell 5 rfl, hP.cell 6 rfl⟩, ⟨hU.cell 0 rfl, hU.cell 1 rfl, hU.cell 2 rfl, hU.cell 3 rfl⟩, ⟨hV.cell 0 rfl, hV.cell 1 rfl, hV.cell 2 rfl, hV.cell 3 rfl⟩⟩) (fun hHeld => ?_)
          refine WaysZ.take (i := 0) (v := ?_) rfl (by kernel_rfl) (fun _ _ _ h => h) (Or.inl ⟨by rfl, ?_⟩) hHeld ?_
          rotate_left
          · (intro w hSw; (try dsimp only at hSw); go_simp; try with_reducible rfl)
          try simp only [Act.put, List.getElem_toArray, List.getElem_cons_zero, List.getElem_cons_succ, List.setIfInBounds_toArray, List.set_cons_zero, List.set_cons_succ]
          refine WaysZ.take (i := 2) (v := ?_) rfl (by kernel_rfl) (fun _ _ _ h => h) (Or.inl ⟨by rfl, ?_⟩) hHeld ?_
          rotate_left
          · (intro w hSw; (try dsimp only at hSw); go_simp; try with_reducible rfl)
          try simp only [Act.put, List.getElem_toArray, List.getElem_cons_zero, List.getElem_cons_succ, List.setIfInBounds_toArray, List.set_cons_zero, List.set_cons_succ]
          refine WaysZ.one (i := 1) rfl (by kernel_rfl) (fun K hK => ?_)
          go_simp
          refine (key_ValidN x.kty x.crv x.alg xa.ia x.kid.length xa.ic xa.xa x.x.length xa.xc xa.da x.d.length xa.dc xa.ka x.k.length xa.kc _ HKX.out.len.1 HKX.out.len.2).mono ?_
          rintro e wc1 ⟨rfl, hb1⟩
          replace hP := hP.below hb1
          replace hB := hB.below hb1
          replace hU := hU.below hb1
          replace hV := hV.below hb1
          replace hG1 := hG1.below_ hb1
          replace HS1 := Lib.hid (HS1.out.below hb1)
          replace HS2 := Lib.hid (HS2.out.below hb1)
          rw [validN_eq, HE.out.1]
          clear hb1
          refine hK.out _ _ (fun _ => ?_) (fun hHeld => ?_)
          · exact ⟨⟨hP.cell 0 rfl, hP.cell 1 rfl, hP.cell 2 rfl, hP.cell 3 rfl, hP.cell 4 rfl, hP.cell 5 rfl, hP.cell 6 rfl⟩, ⟨hU.cell 0 rfl, hU.cell 1 rfl, hU.cell 2 rfl, hU.cell 3 rfl⟩, ⟨hV.cell 0 rfl, hV.cell 1 rfl, hV.cell 2 rfl, hV.cell 3 rfl⟩⟩
          clear hK K
          have hHeld := hHeld (by decide)
          try simp only [Act.put, List.getElem_toArray, List.getElem_cons_zero, List.getElem_cons_succ, List.setIfInBounds_toArray, List.set_cons_zero, List.set_cons_succ]
          refine WaysZ.one (i := 3) rfl (by kernel_rfl) (fun K hK => ?_)
          go_simp
          refine (ref_ValidN x.kty x.crv x.alg xa.ia x.kid.length xa.ic xa.xa x.x.length xa.xc xa.da x.d.length xa.dc xa.ka x.k.length xa.kc _ HKX.out.len.1 HKX.out.len.2).mono ?_
          rintro e wc3 ⟨rfl, hb3⟩
          replace hP := hP.below hb3
          replace hB := hB.below hb3
          replace hU := hU.below hb3
          replace hV := hV.below hb3
          replace hG1 := hG1.below_ hb3
          replace HS1 := Lib.hid (HS1.out.below hb3)
          replace HS2 := Lib.hid (HS2.out.below hb3)
          rw [validN_eq, HE.out.1]
          clear hb3
          refine hK.out _ _ (fun _ => ?_) (fun hHeld => ?_)
          · exact ⟨⟨hP.cell 0 rfl, hP.cell 1 rfl, hP.cell 2 rfl, hP.cell 3 rfl, hP.cell 4 rfl, hP.cell 5 rfl, hP.cell 6 rfl⟩, ⟨hU.cell 0 rfl, hU.cell 1 rfl, hU.cell 2 rfl, hU.cell 3 rfl⟩, ⟨hV.cell 0 rfl, hV.cell 1 rfl, hV.cell 2 rfl, hV.cell 3 rfl⟩⟩
          clear hK K
          have hHeld := hHeld (by decide)
          try simp only [Act.put, List.getElem_toArray, List.getElem_cons_zero, List.getElem_cons_succ, List.setIfInBounds_toArray, List.set_cons_zero, List.set_cons_succ]
          refine WaysZ.take (i := 4) (v := ?_) rfl (by kernel_rfl) (fun _ _ _ h => h) (Or.inl ⟨by rfl, ?_⟩) hHeld ?_
          rotate_left
          · (intro w hSw; (try dsimp only at hSw); go_simp; try with_reducible rfl)
          try simp only [Act.put, List.getElem_toArray, List.getElem_cons_zero, List.getElem_cons_succ, List.setIfInBounds_toArray, List.set_cons_zero, List.set_cons_succ]
          refine WaysZ.take (i := 5) (v := ?_) rfl (by kernel_rfl) (fun _ _ _ h => h) (Or.inl ⟨by rfl, ?_⟩) hHeld ?_
          rotate_left
          · (intro w hSw; (try dsimp only at hSw); go_simp; try with_reducible rfl)
          try simp only [Act.put, List.getElem_toArray, List.getElem_cons_zero, List.getElem_cons_succ, List.setIfInBounds_toArray, List.set_cons_zero, List.set_cons_succ]
          refine WaysZ.take (i := 6) (v := ?_) rfl (by kernel_rfl) (fun _ _ _ h => h) (Or.inl ⟨?_, ?_⟩) hHeld ?_
          rotate_left
          · kernel_rfl
          · (intro w hSw; (try dsimp only at hSw); go_simp; try with_reducible rfl)
          try simp only [Act.put, List.getElem_toArray, List.getElem_cons_zero, List.getElem_cons_succ, List.setIfInBounds_toArray, List.set_cons_zero, List.set_cons_succ]
          refine WaysZ.take (i := 7) (v := ?_) rfl (by kernel_rfl) (fun _ _ _ h => h) (Or.inl ⟨?_, ?_⟩) hHeld ?_
          rotate_left
          · kernel_rfl
          · (intro w hSw; (try dsimp only at hSw); go_simp; try with_reducible rfl)
          try simp only [Act.put, List.getElem_toArray, List.getElem_cons_zero, List.getElem_cons_succ, List.setIfInBounds_toArray, List.set_cons_zero, List.set_cons_succ]
          refine WaysZ.one (i := 8) rfl (by kernel_rfl) (fun K hK => ?_)
          go_simp
          refine (ref_Same X X _ _ _ _ _ _ _ _ _ _ _ _ _ _ _ _ _ _ HMX.out HMX.out HI1.out.arg HI2.out.arg hG1.holds).mono ?_
          rintro e wc8 ⟨rfl, hb8⟩
          replace hP := hP.below hb8
          replace hB := hB.below hb8
          replace hU := hU.below hb8
          replace hV := hV.below hb8
          replace hG1 := hG1.below_ hb8
          replace HS1 := Lib.hid (HS1.out.below hb8)
          replace HS2 := Lib.hid (HS2.out.below hb8)
          rw [(sameB_iff X X).2 rfl]
          clear hb8
          refine hK.out _ _ (fun _ => ?_) (fun hHeld => ?_)
          · exact ⟨⟨hP.cell 0 rfl, hP.cell 1 rfl, hP.cell 2 rfl, hP.cell 3 rfl, hP.cell 4 rfl, hP.cell 5 rfl, hP.cell 6 rfl⟩, ⟨hU.cell 0 rfl, hU.cell 1 rfl, hU.cell 2 rfl, hU.cell 3 rfl⟩, ⟨hV.cell 0 rfl, hV.cell 1 rfl, hV.cell 2 rfl, hV.cell 3 rfl⟩⟩
          clear hK K
          have hHeld := hHeld (by decide)
          try simp only [Act.put, List.getElem_toArray, List.getElem_cons_zero, List.getElem_cons_succ, List.setIfInBounds_toArray, List.set_cons_zero, List.set_cons_succ]
          refine WaysZ.take (i := 9) (v := ?_) rfl (by kernel_rfl) (fun _ _ _ h => h) (Or.inl ⟨?_, ?_⟩) hHeld ?_
          rotate_left
          · kernel_rfl
          · (intro w hSw; (try dsimp only at hSw); go_simp; try with_reducible rfl)
          try simp only [Act.put, List.getElem_toArray, List.getElem_cons_zero, List.getElem_cons_succ, List.setIfInBounds_toArray, List.set_cons_zero, List.set_cons_succ]
          refine WaysZ.take (i := 10) (v := ?_) rfl (by kernel_rfl) (fun _ _ _ h => h) (Or.inl ⟨by rfl, ?_⟩) hHeld ?_
          rotate_left
          · (intro w hSw; (try dsimp only at hSw); go_simp; try with_reducible rfl)
          try simp only [Act.put, List.getElem_toArray, List.getElem_cons_zero, List.getElem_cons_succ, List.setIfInBounds_toArray, List.set_cons_zero, List.set_cons_succ]
          refine WaysZ.take (i := 11) (v := ?_) rfl (by kernel_rfl) (fun _ _ _ h => h) (Or.inl ⟨by rfl, ?_⟩) hHeld ?_
          rotate_left
          · (intro w hSw; (try dsimp only at hSw); go_simp; try with_reducible rfl)
          try simp only [Act.put, List.getElem_toArray, List.getElem_cons_zero, List.getElem_cons_succ, List.setIfInBounds_toArray, List.set_cons_zero, List.set_cons_succ]
          refine WaysZ.take (i := 12) (v := ?_) rfl (by kernel_rfl) (fun _ _ _ h => h) (Or.inl ⟨?_, ?_⟩) hHeld ?_
          rotate_left
          · kernel_rfl
          · (intro w hSw; (try dsimp only at hSw); go_simp; try with_reducible rfl)
          try simp only [Act.put, List.getElem_toArray, List.getElem_cons_zero, List.getElem_cons_succ, List.setIfInBounds_toArray, List.set_cons_zero, List.set_cons_succ]
          refine WaysZ.take (i := 13) (v := ?_) rfl (by kernel_rfl) (fun _ _ _ h => h) (Or.inl ⟨?_, ?_⟩) hHeld ?_
          rotate_left
          · kernel_rfl
          · (intro w hSw; (try dsimp only at hSw); go_simp; try with_reducible rfl)
          try simp only [Act.put, List.getElem_toArray, List.getElem_cons_zero, List.getElem_cons_succ, List.setIfInBounds_toArray, List.set_cons_zero, List.set_cons_succ]
          refine WaysZ.take (i := 14) (v := ?_) rfl (by kernel_rfl) (fun _ _ _ h => h) (Or.inl ⟨?_, ?_⟩) hHeld ?_
          rotate_left
          · kernel_rfl
          · (intro w hSw; (try dsimp only at hSw); go_simp; try with_reducible rfl)
          try simp only [Act.put, List.getElem_toArray, List.getElem_cons_zero, List.getElem_cons_succ, List.setIfInBounds_toArray, List.set_cons_zero, List.set_cons_succ]
          refine WaysZ.take (i := 15) (v := ?_) rfl (by kernel_rfl) (fun _ _ _ h => h) (Or.inl ⟨by rfl, ?_⟩) hHeld ?_
          rotate_left
          · (intro w hSw; (try dsimp only at hSw); go_simp; try with_reducible rfl)
          try simp only [Act.put, List.getElem_toArray, List.getElem_cons_zero, List.getElem_cons_succ, List.setIfInBounds_toArray, List.set_cons_zero, List.set_cons_succ]
          refine WaysZ.take (i := 16) (v := ?_) rfl (by kernel_rfl) (fun _ _ _ h => h) (Or.inl ⟨by rfl, ?_⟩) hHeld ?_
          rotate_left
          · (intro w hSw; (try dsimp only at hSw); go_simp; try with_reducible rfl)
          try simp only [Act.put, List.getElem_toArray, List.getElem_cons_zero, List.getElem_cons_succ, List.setIfInBounds_toArray, List.set_cons_zero, List.set_cons_succ]
          refine WaysZ.take (i := 17) (v := ?_) rfl (by kernel_rfl) (fun _ _ _ h => h) (Or.inl ⟨?_, ?_⟩) hHeld ?_
          rotate_left
          · kernel_rfl
          · (intro w hSw; (try dsimp only at hSw); go_simp; try with_reducible rfl)
          try simp only [Act.put, List.getElem_toArray, List.getElem_cons_zero, List.getElem_cons_succ, List.setIfInBounds_toArray, List.set_cons_zero, List.set_cons_succ]
          refine WaysZ.take (i := 19) (v := ?_) rfl (by kernel_rfl) (fun _ _ _ h => h) (Or.inl ⟨?_, ?_⟩) hHeld ?_
          rotate_left
          · kernel_rfl
          · (intro w hSw; (try dsimp only at hSw); go_simp; try with_reducible rfl)
          try simp only [Act.put, List.getElem_toArray, List.getElem_cons_zero, List.getElem_cons_succ, List.setIfInBounds_toArray, List.set_cons_zero, List.set_cons_succ]
          refine WaysZ.two (i := 18) (j := 20) rfl rfl (by kernel_rfl) (fun K hK => ?_) (fun K hK => ?_)
          · have k18 := conv_bytes HS1.out _ rc rfl
            go_simp
            refine hK.out _ _ (fun _ => ?_) (fun hHeld => ?_)
            · exact ⟨⟨hP.cell 0 rfl, hP.cell 1 rfl, hP.cell 2 rfl, hP.cell 3 rfl, hP.cell 4 rfl, hP.cell 5 rfl, hP.cell 6 rfl⟩, ⟨hU.cell 0 rfl, hU.cell 1 rfl, hU.cell 2 rfl, hU.cell 3 rfl⟩, ⟨hV.cell 0 rfl, hV.cell 1 rfl, hV.cell 2 rfl, hV.cell 3 rfl⟩⟩
            clear hK K
            have hHeld := hHeld (by decide)
            try simp only [Act.put, List.getElem_toArray, List.getElem_cons_zero, List.getElem_cons_succ, List.setIfInBounds_toArray, List.set_cons_zero, List.set_cons_succ]
            refine WaysZ.one (i := 20) rfl (by kernel_rfl) (fun K hK => ?_)
            have k20 := conv_bytes HS2.out _ rd rfl
            go_simp
            refine hK.out _ _ (fun _ => ?_) (fun hHeld => ?_)
            · exact ⟨⟨hP.cell 0 rfl, hP.cell 1 rfl, hP.cell 2 rfl, hP.cell 3 rfl, hP.cell 4 rfl, hP.cell 5 rfl, hP.cell 6 rfl⟩, ⟨hU.cell 0 rfl, hU.cell 1 rfl, hU.cell 2 rfl, hU.cell 3 rfl⟩, ⟨hV.cell 0 rfl, hV.cell 1 rfl, hV.cell 2 rfl, hV.cell 3 rfl⟩⟩
            clear hK K
            have hHeld := hHeld (by decide)
            try simp only [Act.put, List.getElem_toArray, List.getElem_cons_zero, List.getElem_cons_succ, List.setIfInBounds_toArray, List.set_cons_zero, List.set_cons_succ]
            refine WaysZ.take (i := 21) (v := ?_) rfl (by kernel_rfl) (fun _ _ _ h => h) (Or.inl ⟨?_, ?_⟩) hHeld ?_
            rotate_left
            · kernel_rfl
            · (intro w hSw; (try dsimp only at hSw); go_simp; try with_reducible rfl)
            try simp only [Act.put, List.getElem_toArray, List.getElem_cons_zero, List.getElem_cons_succ, List.setIfInBounds_toArray, List.set_cons_zero, List.set_cons_succ]
            refine WaysZ.take (i := 22) (v := ?_) rfl (by kernel_rfl) (fun _ _ _ h => h) (Or.inl ⟨by rfl, ?_⟩) hHeld ?_
            rotate_left
            · (intro w hSw; (try dsimp only at hSw); go_simp; try with_reducible rfl)
            try simp only [Act.put, List.getElem_toArray, List.getElem_cons_zero, List.getElem_cons_succ, List.setIfInBounds_toArray, List.set_cons_zero, List.set_cons_succ]
            refine WaysZ.take (i := 23) (v := ?_) rfl (by kernel_rfl) (fun _ _ _ h => h) (Or.inl ⟨by rfl, ?_⟩) hHeld ?_
            rotate_left
            · (intro w hSw; (try dsimp only at hSw); go_simp; try with_reducible rfl)
            try simp only [Act.put, List.getElem_toArray, List.getElem_cons_zero, List.getElem_cons_succ, List.setIfInBounds_toArray, List.set_cons_zero, List.set_cons_succ]
            refine WaysZ.take (i := 24) (v := ?_) rfl (by kernel_rfl) (fun _ _ _ h => h) (Or.inl ⟨?_, ?_⟩) hHeld ?_
            rotate_left
            · kernel_rfl
            · (intro w hSw; (try dsimp only at hSw); go_simp; try with_reducible rfl)
            try simp only [Act.put, List.getElem_toArray, List.getElem_cons_zero, List.getElem_cons_succ, List.setIfInBounds_toArray, List.set_cons_zero, List.set_cons_succ]
            refine WaysZ.take (i := 25) (v := ?_) rfl (by kernel_rfl) (fun _ _ _ h => h) (Or.inl ⟨?_, ?_⟩) hHeld ?_
            rotate_left
            · kernel_rfl
            · (intro w hSw; (try dsimp only at hSw); go_simp; try with_reducible rfl)
            try simp only [Act.put, List.getElem_toArray, List.getElem_cons_zero, List.getElem_cons_succ, List.setIfInBounds_toArray, List.set_cons_zero, List.set_cons_succ]
            refine WaysZ.take (i := 26) (v := ?_) rfl (by kernel_rfl) (fun _ _ _ h => h) (Or.inl ⟨?_, ?_⟩) hHeld ?_
            rotate_left
            · kernel_rfl
            · (intro w hSw; (try dsimp only at hSw); go_simp; try with_reducible rfl)
            try simp only [Act.put, List.getElem_toArray, List.getElem_cons_zero, List.getElem_cons_succ, List.setIfInBounds_toArray, List.set_cons_zero, List.set_cons_succ]
            refine WaysZ.one (i := 27) rfl (by kernel_rfl) (fun K hK => ?_)
            go_simp
            refine hK.out _ _ (fun h => absurd h (by decide)) (fun _ => ?_)
            clear hK K
            try simp only [Act.put, List.getElem_toArray, List.getElem_cons_zero, List.getElem_cons_succ, List.setIfInBounds_toArray, List.set_cons_zero, List.set_cons_succ]
            refine WaysZ.done (by kernel_rfl) ?_
            clear hHeld
            go_wp2_with fail
            go_meet
            exact ⟨rfl, _, hG1, by exact (HLE.out), hB⟩
          · have k20 := conv_bytes HS2.out _ rd rfl
            go_simp
            refine hK.out _ _ (fun _ => ?_) (fun hHeld => ?_)
            · exact ⟨⟨hP.cell 0 rfl, hP.cell 1 rfl, hP.cell 2 rfl, hP.cell 3 rfl, hP.cell 4 rfl, hP.cell 5 rfl, hP.cell 6 rfl⟩, ⟨hU.cell 0 rfl, hU.cell 1 rfl, hU.cell 2 rfl, hU.cell 3 rfl⟩, ⟨hV.cell 0 rfl, hV.cell 1 rfl, hV.cell 2 rfl, hV.cell 3 rfl⟩⟩
            clear hK K
            have hHeld := hHeld (by decide)
            try simp only [Act.put, List.getElem_toArray, List.getElem_cons_zero, List.getElem_cons_succ, List.setIfInBounds_toArray, List.set_cons_zero, List.set_cons_succ]
            refine WaysZ.one (i := 18) rfl (by kernel_rfl) (fun K hK => ?_)
            have k18 := conv_bytes HS1.out _ rc rfl
            go_simp
            refine hK.out _ _ (fun _ => ?_) (fun hHeld => ?_)
            · exact ⟨⟨hP.cell 0 rfl, hP.cell 1 rfl, hP.cell 2 rfl, hP.cell 3 rfl, hP.cell 4 rfl, hP.cell 5 rfl, hP.cell 6 rfl⟩, ⟨hU.cell 0 rfl, hU.cell 1 rfl, hU.cell 2 rfl, hU.cell 3 rfl⟩, ⟨hV.cell 0 rfl, hV.cell 1 rfl, hV.cell 2 rfl, hV.cell 3 rfl⟩⟩
            clear hK K
            have hHeld := hHeld (by decide)
            try simp only [Act.put, List.getElem_toArray, List.getElem_cons_zero, List.getElem_cons_succ, List.setIfInBounds_toArray, List.set_cons_zero, List.set_cons_succ]
            refine WaysZ.take (i := 21) (v := ?_) rfl (by kernel_rfl) (fun _ _ _ h => h) (Or.inl ⟨?_, ?_⟩) hHeld ?_
            rotate_left
            · kernel_rfl
            · (intro w hSw; (try dsimp only at hSw); go_simp; try with_reducible rfl)
            try simp only [Act.put, List.getElem_toArray, List.getElem_cons_zero, List.getElem_cons_succ, List.setIfInBounds_toArray, List.set_cons_zero, List.set_cons_succ]
            refine WaysZ.take (i := 22) (v := ?_) rfl (by kernel_rfl) (fun _ _ _ h => h) (Or.inl ⟨by rfl, ?_⟩) hHeld ?_
            rotate_left
            · (intro w hSw; (try dsimp only at hSw); go_simp; try with_reducible rfl)
            try simp only [Act.put, List.getElem_toArray, List.getElem_cons_zero, List.getElem_cons_succ, List.setIfInBounds_toArray, List.set_cons_zero, List.set_cons_succ]
            refine WaysZ.take (i := 23) (v := ?_) rfl (by kernel_rfl) (fun _ _ _ h => h) (Or.inl ⟨by rfl, ?_⟩) hHeld ?_
            rotate_left
            · (intro w hSw; (try dsimp only at hSw); go_simp; try with_reducible rfl)
            try simp only [Act.put, List.getElem_toArray, List.getElem_cons_zero, List.getElem_cons_succ, List.setIfInBounds_toArray, List.set_cons_zero, List.set_cons_succ]
            refine WaysZ.take (i := 24) (v := ?_) rfl (by kernel_rfl) (fun _ _ _ h => h) (Or.inl ⟨?_, ?_⟩) hHeld ?_
            rotate_left
            · kernel_rfl
            · (intro w hSw; (try dsimp only at hSw); go_simp; try with_reducible rfl)
            try simp only [Act.put, List.getElem_toArray, List.getElem_cons_zero, List.getElem_cons_succ, List.setIfInBounds_toArray, List.set_cons_zero, List.set_cons_succ]
            refine WaysZ.take (i := 25) (v := ?_) rfl (by kernel_rfl) (fun _ _ _ h => h) (Or.inl ⟨?_, ?_⟩) hHeld ?_
            rotate_left
            · kernel_rfl
            · (intro w hSw; (try dsimp only at hSw); go_simp; try with_reducible rfl)
            try simp only [Act.put, List.getElem_toArray, List.getElem_cons_zero, List.getElem_cons_succ, List.setIfInBounds_toArray, List.set_cons_zero, List.set_cons_succ]
            refine WaysZ.take (i := 26) (v := ?_) rfl (by kernel_rfl) (fun _ _ _ h => h) (Or.inl ⟨?_, ?_⟩) hHeld ?_
            rotate_left
            · kernel_rfl
            · (intro w hSw; (try dsimp only at hSw); go_simp; try with_reducible rfl)
            try simp only [Act.put, List.getElem_toArray, List.getElem_cons_zero, List.getElem_cons_succ, List.setIfInBounds_toArray, List.set_cons_zero, List.set_cons_succ]
            refine WaysZ.one (i := 27) rfl (by kernel_rfl) (fun K hK => ?_)
            go_simp
            refine hK.out _ _ (fun h => absurd h (by decide)) (fun _ => ?_)
            clear hK K
            try simp only [Act.put, List.getElem_toArray, List.getElem_cons_zero, List.getElem_cons_succ, List.setIfInBounds_toArray, List.set_cons_zero, List.set_cons_succ]
            refine WaysZ.done (by kernel_rfl) ?_
            clear hHeld
            go_wp2_with fail
            go_meet
            exact ⟨rfl, _, hG1, by exact (HLE.out), hB⟩
        case rest =>
          clear hP hB hU hV hG1
          obtain ⟨rfl, Hz, hGz, hlz, hBz⟩ := hcut
          have hj63 : (j : Int) + 1 ≤ 9223372036854775807 := by have := hltI.out; omega
          go_wp2_with fail
          go_roundw
          case rel => exact ⟨j + 1, Hz, by have := hltI.out; omega, by go_num, hGz, hlz, hBz⟩
          case measure => have := hltI.out; simp [intOf]; omega
      · have hjn : ¬ (j : Int) < 3 := by omega
        clear hlt
        have d0 := hB.cell 0 rfl
        have d1 := hB.cell 1 rfl
        have d2 := hB.cell 2 rfl
        have d3 := hB.cell 3 rfl
        have d4 := hB.cell 4 rfl
        have d5 := hB.cell 5 rfl
        have d6 := hB.cell 6 rfl
        have hbr := hGr.below
        have V := Lib.hid (fun W => key_ValidN k.kty k.crv k.alg ka.ia k.kid.length ka.ic ka.xa k.x.length ka.xc ka.da k.d.length ka.dc ka.ka k.k.length ka.kc W HK5.out.len.1 HK5.out.len.2)
        have HHr := Lib.hid hGr.holds
        have HTr := Lib.hid (HT.out.mono hGr.le)
        clear hGr hB
        go_wp2_with fail
        refine (V.out _).mono ?_
        rintro e w20 ⟨rfl, hb20⟩
        rw [validN_eq, HV5.out]
        have hbs := hbr.trans (hb20.mono hbr.size)
        have AW := Lib.hid (law11_awake HTr.out w20 (HHr.out.below hb20 (Nat.le_refl _)))
        clear hb20 hbr d0 d1 d2 d3 d4 d5 d6
        go_wp2_with fail
        refine AW.out.mono ?_
        rintro e w21 ⟨rfl, hb21⟩
        have hbt := hbs.trans (hb21.mono hbs.size)
        go_wp2_with fail
        go_ret
        exact ⟨rfl, hbt⟩
end Go.Proofs.YtebcnkelbicbnaaDoor
