/- squeezed. Walks: writing the first message ( -/
import Derived.Test.YtlebpackbfcfeaaDoorK42
import Derived.Test.YtlebpackbfcfeaaDoorK39
set_option linter.unusedVariables false
set_option linter.unusedSimpArgs false
set_option maxRecDepth 100000
set_option maxHeartbeats 12800000
namespace Go.Proofs.YtlebpackbfcfeaaDoor
open Go.RowKit
theorem IsRow.srcR {w : World} {A : Option Addr} {c : Nat} {H : Snap} {ls : List (List UInt8)} (h : IsRow lieB H A c ls) (hw : Holds w H) : SrcR w A ls := fun h0 => by
 obtain ⟨b, off, e, hat⟩ := h.at_ h0
 refine ⟨b, off, e, fun j hj => ?_⟩
 obtain ⟨d, hd, hc⟩ := hat j hj
 obtain ⟨Aj, cj, hd', hb⟩ := hd
 subst hd'
 have := hw.cell (hc 0 _ rfl)
 rw [show off + (j * lieB.k + 0) = off + j from by show off + (j * 1 + 0) = off + j; omega] at this
 exact ⟨Aj, cj, this, Src.of_row hb.row hw⟩
theorem ref_RawExt' {H : Snap} (w : World) (hH : Holds w H) {A : Option Addr} {n c : Nat} {l : List Ext} (hn : n = l.length) (hr : IsRow lieE H A c l) (hll : l.length ≤ 100) (hB : ∀ x ∈ l, -65535 ≤ x.label ∧ x.label ≤ 65535 ∧ x.val.length ≤ 600) :
  Calls Tryd.prog 11 #[.slice A n c] w fun e w' => ∃ r, e = .returned r ∧ Fresh w (extsB l) r w' := by
 subst hn; exact ref_RawExt w hH hr hll hB
theorem ref_ValidExt' {H : Snap} (w : World) (hH : Holds w H) {A : Option Addr} {n c : Nat} {l : List Ext} (hn : n = l.length) (hr : IsRow lieE H A c l) :
  Calls Tryd.prog 46 #[.slice A n c] w fun e w' => e = .returned (.bool (goodExt l)) ∧ Below w.heap.size w w' := by
 subst hn; exact ref_ValidExt w hH hr
theorem ref_Raw' {H : Snap} (w : World) (hH : Holds w H) {x : Itm} {ba : Option Addr} {bc : Nat} {ia : Option Addr} {ic : Nat} (hx : IsItem H ba bc ia ic x) (hg : Good x 0) {S : List UInt8} (hS : encB x = S) (hl : S.length ≤ 1000) :
  Calls Tryd.prog 35 #[itemV x ba bc ia ic] w fun e w' => ∃ A c H', e = .returned (.slice A S.length c) ∧ Grows w H w' H' ∧ IsBytes H' A c S := by
 refine (ref_Raw x H _ _ ba _ bc ia _ ic w 0 hg (by rw [hS]; omega) hx.arg hH).mono ?_
 rintro e w3 ⟨r, rfl, hf⟩
 rw [hS] at hf
 obtain ⟨QA, qc, rfl, _⟩ := hf.own.form
 obtain ⟨H3, hG3, hb3, _⟩ := Fresh.snapB hH hf
 exact ⟨QA, qc, H3, rfl, hG3, hb3⟩
theorem fresh_data {w w' : World} {H : Snap} {e : Ending} {l S : List UInt8} (hH : Holds w H) (hS : l = S) (h : ∃ r, e = .returned r ∧ Fresh w l r w') : ∃ A c H', e = .returned (.slice A S.length c) ∧ Grows w H w' H' ∧ IsBytes H' A c S := by
 obtain ⟨r, rfl, hf⟩ := h
 rw [hS] at hf
 obtain ⟨QA, qc, rfl, _⟩ := hf.own.form
 obtain ⟨H3, hG3, hb3, _⟩ := Fresh.snapB hH hf
 exact ⟨QA, qc, H3, rfl, hG3, hb3⟩
theorem ref_EncodeFirst {H : Snap} (w : World) (hH : Holds w H) {f : First} {m : Int} {sa : Option Addr} {sn sc : Nat} {ga : Option Addr} {gn gc : Nat} {ca : Option Addr} {cn cc : Nat} {ea : Option Addr} {en ec : Nat} (hF : FirstA H f sa sc ga gc ca cc ea ec)
  (hm : m = f.method) (hsn : sn = f.suites.length) (hgn : gn = f.gx.length) (hcn : cn = f.conn.length) (hen : en = f.ext.length) :
  Calls Tryd.prog 25 #[.agg (firstC m sa sn sc ga gn gc ca cn cc ea en ec)] w (BytesOut w (encFirst f)) := by
 have hB := Blk.new w 44 (firstC m sa sn sc ga gn gc ca cn cc ea en ec)
 have hG := (Grows.refl hH).alloc (.cells (firstC m sa sn sc ga gn gc ca cn cc ea en ec) 44)
 have b0 := hB.cell 0 rfl
 have b1 := hB.cell 1 rfl
 have b2 := hB.cell 2 rfl
 have b3 := hB.cell 3 rfl
 have b4 := hB.cell 4 rfl
 have VS := Hh (r_ValidSuites (w.alloc (.cells (firstC m sa sn sc ga gn gc ca cn cc ea en ec) 44)) hG.holds hsn hF.suites)
 have HF := Hh hF
 have HQ := Hh (And.intro hm (And.intro hsn (And.intro hgn (And.intro hcn hen))))
 have hB' : Blk (w.alloc (.cells (firstC m sa sn sc ga gn gc ca cn cc ea en ec) 44)) w.heap.size 44 (firstC m sa sn sc ga gn gc ca cn cc ea en ec) := hB
 clear hm hsn hgn hcn hen hF hH hB
 go_enter Tryd.func25, Tryd.ntmps25
 by_cases c1 : m < 0
 ·have c1d : decide (m < 0) = true := decide_eq_true c1
  have E : Hid (encFirst f = .error 1) := by rw [Hid]; exact encFirst_no (by have := HQ.out.1; omega)
  have hbel := hG.below
  clear VS
  go_wp2_with fail
  go_ret2
  exact BytesOut.err (q := 1) E.out rfl hbel
 have c1d : decide (m < 0) = false := decide_eq_false c1
 by_cases c2 : 3 < m
 ·have c2d : decide (3 < m) = true := decide_eq_true c2
  have E : Hid (encFirst f = .error 1) := by rw [Hid]; exact encFirst_no (by have := HQ.out.1; omega)
  have hbel := hG.below
  clear VS
  go_wp2_with fail
  go_ret2
  exact BytesOut.err (q := 1) E.out rfl hbel
 have c2d : decide (3 < m) = false := decide_eq_false c2
 have HM := Hh (And.intro c1 c2)
 go_wp2_with fail
 generalize w.alloc (.cells (firstC m sa sn sc ga gn gc ca cn cc ea en ec) 44) = w1 at hB' hG VS b0 b1 b2 b3 b4 ⊢
 refine VS.out.mono ?_
 rintro e w2 ⟨rfl, hb2⟩
 have hB2 := hB'.below hb2
 have hG2 := hG.below_ hb2
 have hbel := hG2.below
 clear VS hb2 b0 b1 b2 b3 b4 hB' hG
 have b0 := hB2.cell 0 rfl
 have b1 := hB2.cell 1 rfl
 have b2 := hB2.cell 2 rfl
 have b3 := hB2.cell 3 rfl
 have b4 := hB2.cell 4 rfl
 cases hgs : goodSuites f.suites with
 | false =>
  have E : Hid (encFirst f = .error 1) := by rw [Hid]; exact encFirst_no (by rw [hgs]; simp)
  clear hgs
  go_wp2_with fail
  go_ret2
  exact BytesOut.err (q := 1) E.out rfl hbel
 | true =>
  have HGS := Hh hgs
  have VE := Hh (ref_ValidExt' w2 hG2.holds HQ.out.2.2.2.2 HF.out.ext)
  clear hgs
  go_wp2_with fail
  refine VE.out.mono ?_
  rintro e w3 ⟨rfl, hb3⟩
  have hB3 := hB2.below hb3
  have hG3 := hG2.below_ hb3
  clear VE hb3 b0 b1 b2 b3 b4 hB2 hG2 hbel
  have hbel := hG3.below
  have b0 := hB3.cell 0 rfl
  have b1 := hB3.cell 1 rfl
  have b2 := hB3.cell 2 rfl
  have b3 := hB3.cell 3 rfl
  have b4 := hB3.cell 4 rfl
  cases hge : goodExt f.ext with
  | false =>
   have E : Hid (encFirst f = .error 1) := by rw [Hid]; exact encFirst_no (by rw [hge]; simp)
   clear hge
   go_wp2_with fail
   go_ret2
   exact BytesOut.err (q := 1) E.out rfl hbel
  | true =>
   have HGE := Hh hge
   clear hge
   by_cases c3 : gn = 0
   ·subst c3
    have E : Hid (encFirst f = .error 1) := by rw [Hid]; exact encFirst_no (by have := HQ.out.2.2.1; omega)
    go_wp2_with fail
    go_ret2
    exact BytesOut.err (q := 1) E.out rfl hbel
   have c3a : ¬ ((gn : Int) < 1) := by omega
   have c3d : decide ((gn : Int) < 1) = false := decide_eq_false c3a
   by_cases c4 : 64 < gn
   ·have c4a : (64 : Int) < (gn : Int) := by omega
    have c4d : decide ((64 : Int) < (gn : Int)) = true := decide_eq_true c4a
    have E : Hid (encFirst f = .error 1) := by rw [Hid]; exact encFirst_no (by have := HQ.out.2.2.1; omega)
    clear c4
    go_wp2_with fail
    go_ret2
    exact BytesOut.err (q := 1) E.out rfl hbel
   have c4a : ¬ ((64 : Int) < (gn : Int)) := by omega
   have c4d : decide ((64 : Int) < (gn : Int)) = false := decide_eq_false c4a
   by_cases c5 : 7 < cn
   ·have c5a : (7 : Int) < (cn : Int) := by omega
    have c5d : decide ((7 : Int) < (cn : Int)) = true := decide_eq_true c5a
    have E : Hid (encFirst f = .error 1) := by rw [Hid]; exact encFirst_no (by have := HQ.out.2.2.2.1; omega)
    clear c5 c4
    go_wp2_with fail
    go_ret2
    exact BytesOut.err (q := 1) E.out rfl hbel
   have c5a : ¬ ((7 : Int) < (cn : Int)) := by omega
   have c5d : decide ((7 : Int) < (cn : Int)) = false := decide_eq_false c5a
   have HZ := Hh (show gn ≠ 0 ∧ gn ≤ 64 ∧ cn ≤ 7 from ⟨c3, by omega, by omega⟩)
   obtain ⟨T, hT⟩ : ∃ T, firstB f = T := ⟨_, rfl⟩
   have HE := Hh (show encFirst f = limited T by
    have h1 := HQ.out
    have h2 := HM.out
    have h3 := HZ.out
    rw [encFirst, if_pos ((firstOk_iff f).2 ⟨by omega, by omega, HGS.out, HGE.out, by omega, by omega, by omega⟩), hT])
   obtain ⟨S0, hS0⟩ : ∃ S0, intB m = S0 := ⟨_, rfl⟩
   obtain ⟨S1, hS1⟩ : ∃ S1, suitesB f.suites = S1 := ⟨_, rfl⟩
   obtain ⟨S2, hS2⟩ : ∃ S2, strB f.gx = S2 := ⟨_, rfl⟩
   obtain ⟨S3, hS3⟩ : ∃ S3, connB f.conn = S3 := ⟨_, rfl⟩
   obtain ⟨S4, hS4⟩ : ∃ S4, extsB f.ext = S4 := ⟨_, rfl⟩
   obtain ⟨ls, hls⟩ : ∃ ls, [S0, S1, S2, S3, S4] = ls := ⟨_, rfl⟩
   have HSS := Hh (show intB m = S0 ∧ suitesB f.suites = S1 ∧ strB f.gx = S2 ∧ connB f.conn = S3 ∧ extsB f.ext = S4 from ⟨hS0, hS1, hS2, hS3, hS4⟩)
   have HSU := Hh ((goodSuites_iff f.suites).1 HGS.out)
   have HXT := Hh ((goodExt_iff f.ext).1 HGE.out)
   have HLS := Hh hls
   have HLT := Hh (show ls.length = 5 ∧ ls.flatten = T by
    rw [← hls, ← hT, firstB, ← hS0, ← hS1, ← hS2, ← hS3, ← hS4, HQ.out.1]
    simp [List.append_assoc])
   have HB := Hh (show S0.length ≤ 9 ∧ S1.length ≤ 90 ∧ S2.length ≤ 100 ∧ S3.length ≤ 100 ∧ S4.length ≤ 4398400 by
    have h0 := (intB_le m).2
    have h1 := intsB_le f.suites
    have h2 := strB_le f.gx
    have h3 := connB_le f.conn
    have h4 := extsB_le f.ext (fun x hx => by have := (extOk_iff x).1 (HXT.out.2 x hx); omega)
    have h5 := HZ.out
    have h6 := HQ.out
    have h7 := HSU.out
    have h8 := HXT.out.1
    have h9 := (headB_le 4 f.suites.length).2
    have h10 : S1.length ≤ 90 := by
     rw [← hS1, suitesB]
     split
     ·omega
     ·rw [List.length_append]; omega
    rw [← hS0, ← hS2, ← hS3, ← hS4]
    omega)
   have HTL := Hh (show T.length ≤ 4399000 by
    have h1 := HB.out
    rw [← HLT.out.2, ← HLS.out]
    simp only [List.flatten_cons, List.flatten_nil, List.length_append, List.length_nil]
    omega)
   have hm63 := Hh (show -9223372036854775808 ≤ m ∧ m ≤ 9223372036854775807 by omega)
   clear c1 c2 c3 c4 c5 c1d c2d hT hS0 hS1 hS2 hS3 hS4 hls hbel
   go_upto_region 3 with fail
   have hB := hB3.drew
   have hG := hG3.drew
   have HLE := Hh (Snap.le.refl H)
   refine wp_region_ways 20 (fun w' => w'.cell? ⟨w.heap.size, 0, none⟩ = some (.int .i64 m) ∧ w'.cell? ⟨w.heap.size, 1, none⟩ = some (.slice sa sn sc) ∧ w'.cell? ⟨w.heap.size, 2, none⟩ = some (.slice ga gn gc) ∧ w'.cell? ⟨w.heap.size, 3, none⟩ = some (.slice ca cn cc) ∧ w'.cell? ⟨w.heap.size, 4, none⟩ = some (.slice ea en ec)) (by kernel_rfl) (⟨b0, b1, b2, b3, b4⟩) (fun hHeld => ?_)
   refine TkS 0 (v := ?_) rfl ?_ hHeld ?_
   rotate_left
   ·intro w s; (try dsimp only at s); go_simp; try with_reducible rfl
   try simp only [Act.put, zz1, zz2, zz3, zz4, zz5, zz6]
   refine TkS 1 (v := ?_) rfl ?_ hHeld ?_
   rotate_left
   ·intro w s; (try dsimp only at s); go_simp; try with_reducible rfl
   try simp only [Act.put, zz1, zz2, zz3, zz4, zz5, zz6]
   refine TkS 4 (v := ?_) rfl ?_ hHeld ?_
   rotate_left
   ·intro w s; (try dsimp only at s); go_simp; try with_reducible rfl
   try simp only [Act.put, zz1, zz2, zz3, zz4, zz5, zz6]
   refine TkS 5 (v := ?_) rfl ?_ hHeld ?_
   rotate_left
   ·intro w s; (try dsimp only at s); go_simp; try with_reducible rfl
   try simp only [Act.put, zz1, zz2, zz3, zz4, zz5, zz6]
   refine TkS 8 (v := ?_) rfl ?_ hHeld ?_
   rotate_left
   ·intro w s; (try dsimp only at s); go_simp; try with_reducible rfl
   try simp only [Act.put, zz1, zz2, zz3, zz4, zz5, zz6]
   refine TkS 9 (v := ?_) rfl ?_ hHeld ?_
   rotate_left
   ·intro w s; (try dsimp only at s); go_simp; try with_reducible rfl
   try simp only [Act.put, zz1, zz2, zz3, zz4, zz5, zz6]
   refine TkS 11 (v := ?_) rfl ?_ hHeld ?_
   rotate_left
   ·intro w s; (try dsimp only at s); go_simp; try with_reducible rfl
   try simp only [Act.put, zz1, zz2, zz3, zz4, zz5, zz6]
   refine TkS 12 (v := ?_) rfl ?_ hHeld ?_
   rotate_left
   ·intro w s; (try dsimp only at s); go_simp; try with_reducible rfl
   try simp only [Act.put, zz1, zz2, zz3, zz4, zz5, zz6]
   refine TkS 14 (v := ?_) rfl ?_ hHeld ?_
   rotate_left
   ·intro w s; (try dsimp only at s); go_simp; try with_reducible rfl
   try simp only [Act.put, zz1, zz2, zz3, zz4, zz5, zz6]
   refine TkS 15 (v := ?_) rfl ?_ hHeld ?_
   rotate_left
   ·intro w s; (try dsimp only at s); go_simp; try with_reducible rfl
   try simp only [Act.put, zz1, zz2, zz3, zz4, zz5, zz6]
   refine To 2 rfl fun K hK => ?_
   go_simp
   refine (ref_Int m hm63.out.1 hm63.out.2 _ hG.holds).mono ?_
   rintro e w2 ⟨r2, rfl, ja, jb, jc, jd, H2, rfl, hGn, hi2⟩
   have hB := hB.below hGn.below
   have HLE := Hh (HLE.out.trans hGn.le)
   have hG := hG.trans hGn
   clear hGn
   refine hK.out _ _ (fun _ => ?_) (fun hHeld => ?_)
   ·exact ⟨hB.cell 0 rfl, hB.cell 1 rfl, hB.cell 2 rfl, hB.cell 3 rfl, hB.cell 4 rfl⟩
   clear hK K
   have hHeld := hHeld (by decide)
   try simp only [Act.put, zz1, zz2, zz3, zz4, zz5, zz6]
   refine To 3 rfl fun K hK => ?_
   go_simp
   refine (ref_Raw' _ hG.holds hi2 (good_intP m 0) (show encB (intP m) = S0 by rw [encB_intP]; exact HSS.out.1) (by have := HB.out; omega)).mono ?_
   rintro e w3 ⟨A0, k0, H3, rfl, hGn, d0⟩
   have hB := hB.below hGn.below
   have HLE := Hh (HLE.out.trans hGn.le)
   have hG := hG.trans hGn
   clear hGn
   refine hK.out _ _ (fun _ => ?_) (fun hHeld => ?_)
   ·exact ⟨hB.cell 0 rfl, hB.cell 1 rfl, hB.cell 2 rfl, hB.cell 3 rfl, hB.cell 4 rfl⟩
   clear hK K
   have hHeld := hHeld (by decide)
   try simp only [Act.put, zz1, zz2, zz3, zz4, zz5, zz6]
   refine To 6 rfl fun K hK => ?_
   go_simp
   refine (ref_Suites _ hG.holds HQ.out.2.1 (HF.out.suites.mono HLE.out) HSU.out.1 HSU.out.2.1 HSU.out.2.2.1).mono ?_
   rintro e w6 ⟨r6, rfl, ka, kb, kc, kd, H6, rfl, hGn, hi6⟩
   have hB := hB.below hGn.below
   have d0 := d0.mono hGn.le
   have HLE := Hh (HLE.out.trans hGn.le)
   have hG := hG.trans hGn
   clear hGn
   refine hK.out _ _ (fun _ => ?_) (fun hHeld => ?_)
   ·exact ⟨hB.cell 0 rfl, hB.cell 1 rfl, hB.cell 2 rfl, hB.cell 3 rfl, hB.cell 4 rfl⟩
   clear hK K
   have hHeld := hHeld (by decide)
   try simp only [Act.put, zz1, zz2, zz3, zz4, zz5, zz6]
   refine To 7 rfl fun K hK => ?_
   go_simp
   refine (ref_Raw' _ hG.holds hi6 (good_suitesI f.suites) (show encB (suitesI f.suites) = S1 by rw [enc_suitesI]; exact HSS.out.2.1) (by have := HB.out; omega)).mono ?_
   rintro e w7 ⟨A1, k1, H7, rfl, hGn, d1⟩
   have hB := hB.below hGn.below
   have d0 := d0.mono hGn.le
   have HLE := Hh (HLE.out.trans hGn.le)
   have hG := hG.trans hGn
   clear hGn
   refine hK.out _ _ (fun _ => ?_) (fun hHeld => ?_)
   ·exact ⟨hB.cell 0 rfl, hB.cell 1 rfl, hB.cell 2 rfl, hB.cell 3 rfl, hB.cell 4 rfl⟩
   clear hK K
   have hHeld := hHeld (by decide)
   try simp only [Act.put, zz1, zz2, zz3, zz4, zz5, zz6]
   refine To 10 rfl fun K hK => ?_
   go_simp
   refine (ref_Str (l := f.gx) HQ.out.2.2.1 (by have := HZ.out; have := HQ.out; omega) _ (Src.of_row (HF.out.gx.mono HLE.out).row hG.holds)).mono ?_
   intro e w10 hs
   obtain ⟨A2, k2, H10, rfl, hGn, d2⟩ := fresh_data hG.holds HSS.out.2.2.1 hs
   clear hs
   have hB := hB.below hGn.below
   have d0 := d0.mono hGn.le
   have d1 := d1.mono hGn.le
   have HLE := Hh (HLE.out.trans hGn.le)
   have hG := hG.trans hGn
   clear hGn
   refine hK.out _ _ (fun _ => ?_) (fun hHeld => ?_)
   ·exact ⟨hB.cell 0 rfl, hB.cell 1 rfl, hB.cell 2 rfl, hB.cell 3 rfl, hB.cell 4 rfl⟩
   clear hK K
   have hHeld := hHeld (by decide)
   try simp only [Act.put, zz1, zz2, zz3, zz4, zz5, zz6]
   refine To 13 rfl fun K hK => ?_
   go_simp
   refine (ref_Conn (l := f.conn) HQ.out.2.2.2.1 (by have := HZ.out; have := HQ.out; omega) _ (Src.of_row (HF.out.conn.mono HLE.out).row hG.holds)).mono ?_
   intro e w13 hs
   obtain ⟨A3, k3, H13, rfl, hGn, d3⟩ := fresh_data hG.holds HSS.out.2.2.2.1 hs
   clear hs
   have hB := hB.below hGn.below
   have d0 := d0.mono hGn.le
   have d1 := d1.mono hGn.le
   have d2 := d2.mono hGn.le
   have HLE := Hh (HLE.out.trans hGn.le)
   have hG := hG.trans hGn
   clear hGn
   refine hK.out _ _ (fun _ => ?_) (fun hHeld => ?_)
   ·exact ⟨hB.cell 0 rfl, hB.cell 1 rfl, hB.cell 2 rfl, hB.cell 3 rfl, hB.cell 4 rfl⟩
   clear hK K
   have hHeld := hHeld (by decide)
   try simp only [Act.put, zz1, zz2, zz3, zz4, zz5, zz6]
   refine To 16 rfl fun K hK => ?_
   go_simp
   refine (ref_RawExt' _ hG.holds HQ.out.2.2.2.2 (HF.out.ext.mono HLE.out) (by have := HXT.out.1; omega) (fun x hx => by have := (extOk_iff x).1 (HXT.out.2 x hx); omega)).mono ?_
   intro e w16 hs
   obtain ⟨A4, k4, H16, rfl, hGn, d4⟩ := fresh_data hG.holds HSS.out.2.2.2.2 hs
   clear hs
   have hB := hB.below hGn.below
   have d0 := d0.mono hGn.le
   have d1 := d1.mono hGn.le
   have d2 := d2.mono hGn.le
   have d3 := d3.mono hGn.le
   have HLE := Hh (HLE.out.trans hGn.le)
   have hG := hG.trans hGn
   clear hGn
   refine hK.out _ _ (fun _ => ?_) (fun hHeld => ?_)
   ·exact ⟨hB.cell 0 rfl, hB.cell 1 rfl, hB.cell 2 rfl, hB.cell 3 rfl, hB.cell 4 rfl⟩
   clear hK K
   have hHeld := hHeld (by decide)
   try simp only [Act.put, zz1, zz2, zz3, zz4, zz5, zz6]
   refine To 17 rfl fun K hK => ?_
   go_simp
   obtain ⟨H17, hG17, hl17, hr17⟩ := lit_row (L := lieB) hG (((((RowC.one (L := lieB) (H := H16) ⟨A0, k0, rfl, d0⟩).app (RowC.one (L := lieB) (H := H16) ⟨A1, k1, rfl, d1⟩)).app (RowC.one (L := lieB) (H := H16) ⟨A2, k2, rfl, d2⟩)).app (RowC.one (L := lieB) (H := H16) ⟨A3, k3, rfl, d3⟩)).app (RowC.one (L := lieB) (H := H16) ⟨A4, k4, rfl, d4⟩) : RowC lieB H16 [.slice A0 S0.length k0, .slice A1 S1.length k1, .slice A2 S2.length k2, .slice A3 S3.length k3, .slice A4 S4.length k4] [S0, S1, S2, S3, S4]) 24 (by simp)
   replace hr17 : IsRow lieB H17 (some ⟨w16.heap.size, 0, none⟩) 5 [S0, S1, S2, S3, S4] := hr17
   rw [HLS.out] at hr17
   have hB := hB.alloc (.cells #[.slice A0 S0.length k0, .slice A1 S1.length k1, .slice A2 S2.length k2, .slice A3 S3.length k3, .slice A4 S4.length k4] 24)
   have hG : Grows w H (w16.alloc (.cells #[.slice A0 S0.length k0, .slice A1 S1.length k1, .slice A2 S2.length k2, .slice A3 S3.length k3, .slice A4 S4.length k4] 24)) H17 := hG17
   clear hG17 hl17 d0 d1 d2 d3 d4
   refine hK.out _ _ (fun _ => ?_) (fun hHeld => ?_)
   ·exact ⟨hB.cell 0 rfl, hB.cell 1 rfl, hB.cell 2 rfl, hB.cell 3 rfl, hB.cell 4 rfl⟩
   clear hK K
   have hHeld := hHeld (by decide)
   try simp only [Act.put, zz1, zz2, zz3, zz4, zz5, zz6]
   refine To 18 rfl fun K hK => ?_
   go_simp
   have JN := ref_Join (c := 5) HLT.out.1.symm (by rw [HLT.out.1]; omega) (by rw [HLT.out.2]; have := HTL.out; omega) _ (hr17.srcR hG.holds)
   rw [HLT.out.2] at JN
   refine JN.mono ?_
   rintro e w18 ⟨r18, rfl, hf18⟩
   obtain ⟨TA, tc, rfl, hjunk⟩ := hf18.own.form
   have hB := hB.below hf18.2
   have hf := Fresh.step_ hG.below hf18
   clear JN hjunk hf18 hr17 hG
   refine hK.out _ _ (fun _ => ?_) (fun hHeld => ?_)
   ·exact ⟨hB.cell 0 rfl, hB.cell 1 rfl, hB.cell 2 rfl, hB.cell 3 rfl, hB.cell 4 rfl⟩
   clear hK K
   have hHeld := hHeld (by decide)
   try simp only [Act.put, zz1, zz2, zz3, zz4, zz5, zz6]
   refine TkS 19 (v := ?_) rfl ?_ hHeld ?_
   rotate_left
   ·intro w s; (try dsimp only at s); go_simp; try with_reducible rfl
   try simp only [Act.put, zz1, zz2, zz3, zz4, zz5, zz6]
   refine Ways.done (by kernel_rfl) ?_
   clear hB
   obtain ⟨tn, htn⟩ : ∃ tn, T.length = tn := ⟨_, rfl⟩
   have HTN := Hh htn
   rw [htn] at hf ⊢
   clear htn
   by_cases h6 : 600 < tn
   ·have z : (600 : Int) < (tn : Int) := by omega
    have zd : decide ((600 : Int) < (tn : Int)) = true := decide_eq_true z
    have E : Hid (encFirst f = .error 1) := by rw [Hid, HE.out, limited, if_pos (by rw [HTN.out]; exact h6)]
    clear h6
    go_wp2_with fail
    go_ret2
    exact BytesOut.err (q := 1) E.out rfl hf.2
   ·have z : ¬ ((600 : Int) < (tn : Int)) := by omega
    have zd : decide ((600 : Int) < (tn : Int)) = false := decide_eq_false z
    have E : Hid (encFirst f = .ok T) := by rw [Hid, HE.out, limited, if_neg (by rw [HTN.out]; exact h6)]
    clear h6
    go_wp2_with fail
    go_ret2
    exact BytesOut.ok E.out rfl hf
end Go.Proofs.YtlebpackbfcfeaaDoor
