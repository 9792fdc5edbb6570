/- The walk of EnvelopeDistinct. -/
import Derived.Test.YtdbhgngikglmcaaDoorL4
set_option linter.unusedVariables false
set_option linter.unusedSimpArgs false
namespace Go.Proofs.YtdbhgngikglmcaaDoor
open Go.RowKit

def enc0L : List UInt8 := [69, 110, 99, 114, 121, 112, 116, 48]
def enc1L : List UInt8 := [69, 110, 99, 114, 121, 112, 116, 49]
theorem enc0_text : Lib.validD enc0L = true := by kernel_rfl
theorem enc1_text : Lib.validD enc1L = true := by kernel_rfl
theorem enc_ne : enc0L ≠ enc1L := by decide
/-- Headers of a map's own: no bytes. -/
theorem map_bytes {p : Itm} (h : validP p = true) (h5 : p.kind = 5) : p.bytes = [] := by
  have hf := frameOk_spec (frame_of ((validP_iff p).1 h).1 (by omega))
  exact List.length_eq_zero_iff.1 hf.2.2.2.1
theorem code0 {ctx : List UInt8} {p u : Itm} {x y : List UInt8} (hv : validH p u = true) (hs : szL p ≤ 2000) (hc : Lib.validD ctx = true) (hl : ctx.length = 8) (hx : x.length ≤ 600) (hy : y.length ≤ 600) : inputE ctx p u x [y] = 0 := by
  have vv := validH_valid hv
  have hb := protB_len vv.2.2.1 (map_bytes vv.1 vv.2.2.1)
  rw [inputE, if_neg (by rw [hv]; simp), if_neg (by rw [hc]; simp), if_neg]
  rw [input_valid hc (by omega)]
  simp
theorem distinct_law {o : Bool} {p u p' u' : Itm} {x y : List UInt8} (hv : validH p u = true) (hv' : validH p' u' = true) (hs : szL p ≤ 2000) (hs' : szL p' ≤ 2000) (np : Nums p) (np' : Nums p') (hx : x.length ≤ 600) (hy : y.length ≤ 600) :
    (encB (inputI enc0L p x [y]) = encB (inputI (if o then enc1L else enc0L) p' y [x])) ↔ (o = false ∧ p = p' ∧ x = y) := by
  have vv := validH_valid hv
  have vv' := validH_valid hv'
  have hb := protB_len vv.2.2.1 (map_bytes vv.1 vv.2.2.1)
  have hb' := protB_len vv'.2.2.1 (map_bytes vv'.1 vv'.2.2.1)
  rw [input_inj (input_valid enc0_text (by simp [enc0L]; omega)) (input_valid (by cases o; exact enc0_text; exact enc1_text) (by cases o <;> simp [enc0L, enc1L] <;> omega)) vv.1 vv'.1 vv.2.2.1 vv'.2.2.1 np np']
  cases o
  · simp; intro _ h; exact h.symm
  · simp; intro h; exact absurd h enc_ne

set_option maxRecDepth 100000 in
set_option maxHeartbeats 12800000 in
theorem law13_distinct {H : Snap} (hTab : Tabs H) {A : Option Addr} {c : Nat} {l : List Int} (hl : IsInts H A c l) {A' : Option Addr} {c' : Nat} {m : List Int} (hm : IsInts H A' c' m)
    {XA : Option Addr} {xc : Nat} {x : List UInt8} (hx : IsBytes H XA xc x) {YA : Option Addr} {yc : Nat} {y : List UInt8} (hy : IsBytes H YA yc y) (o : Bool) (w : World) (hH : Holds w H) :
    Calls Tryd.prog 4 #[.slice A l.length c, .slice A' m.length c', .slice XA x.length xc, .slice YA y.length yc, .bool o] w fun e w' => e = .returned (.bool true) ∧ Below w.heap.size w w' := by
  obtain ⟨H1, hG1, hl1, hr1⟩ := rows_snap (Grows.refl hH) 23 [.slice XA x.length xc, .slice YA y.length yc] [x, y] (by simp) (fun j hj => by
    match j, hj with
    | 0, _ => exact ⟨_, _, rfl, hx⟩
    | 1, _ => exact ⟨_, _, rfl, hy⟩)
  have SH := Lib.hid (law13_short hr1 _ hG1.holds)
  clear hr1
  go_enter Tryd.func4, Tryd.ntmps4
  go_wp2_with fail
  refine SH.out.mono ?_
  rintro e w1' ⟨rfl, rfl⟩
  clear SH
  generalize w.alloc (.cells [Value.slice XA x.length xc, .slice YA y.length yc].toArray 23) = w1 at hG1 ⊢
  cases hpb : ([x, y].all fun l => decide (l.length ≤ 600)) with
  | false =>
    have HG := hG1
    clear hpb hG1
    have AW := Lib.hid (law13_awake (hTab.mono HG.le) _ HG.holds)
    have hbb := HG.below
    clear HG
    go_wp2_with fail
    refine AW.out.mono ?_
    rintro e wz ⟨rfl, hbz⟩
    have hbq := hbb.trans (hbz.mono hbb.size)
    go_wp2_with fail
    go_ret
    exact ⟨rfl, hbq⟩
  | true =>
  have HPB := Lib.hid (show x.length ≤ 600 ∧ y.length ≤ 600 by simpa using hpb)
  clear hpb
  have NW := Lib.hid (mk_New (hl.mono hl1) w1)
  go_wp2_with fail
  refine NW.out.mono ?_
  rintro e w2 ⟨rfl, hdk2, hb2⟩
  have hG2 := hG1.below_ hb2
  have hD2 : DeckIn w2 w1.heap.size H1 := ⟨hdk2, hG2.holds, hG1.holds.none_of_ge (Nat.le_refl _)⟩
  have HD1 := Lib.hid (mk_Headers (hTab.mono hl1) w2 hD2 10 (by omega) (by omega))
  have hw1 := hG1.size
  clear NW hdk2 hb2
  go_wp2_with fail
  refine HD1.out.mono ?_
  rintro e w3 ⟨p, u, a, b, H3, rfl, hd3, hp, hu, hmp, hmu, hk⟩
  have hG3 := Dealt.toGrows hG2 hd3 hw1
  have hle3 := hd3.le
  have HK1 := Lib.hid (hk rfl)
  have NW := Lib.hid (mk_New (hm.mono (hl1.trans hle3)) w3)
  clear HD1 hd3 hD2 hG2 hk hw1 hG1
  go_wp2_with fail
  refine NW.out.mono ?_
  rintro e w4 ⟨rfl, hdk4, hb4⟩
  have hG4 := hG3.below_ hb4
  have hD4 : DeckIn w4 w3.heap.size H3 := ⟨hdk4, hG4.holds, hG3.holds.none_of_ge (Nat.le_refl _)⟩
  have HD2 := Lib.hid (mk_Headers (hTab.mono (hl1.trans hle3)) w4 hD4 10 (by omega) (by omega))
  have hw3 := hG3.size
  clear NW hdk4 hb4
  go_wp2_with fail
  refine HD2.out.mono ?_
  rintro e w5 ⟨p', u', a', b', H5, rfl, hd5, hp', hu', hmp', hmu', hk'⟩
  have hG5 := Dealt.toGrows hG4 hd5 hw3
  have hle5 := hd5.le
  have HK2 := Lib.hid (hk' rfl)
  have hp5 := hp.mono hle5
  have hu5 := hu.mono hle5
  have hx5 := hx.mono (hl1.trans (hle3.trans hle5))
  have hy5 := hy.mono (hl1.trans (hle3.trans hle5))
  have hTab5 := hTab.mono (hl1.trans (hle3.trans hle5))
  clear HD2 hd5 hD4 hG4 hk' hw3 hG3 hp hu hx hy hl hm hle3 hle5 hl1
  have hA := (Blk.new w5 28 (hdrC zeroItm ⟨none, 0, none, 0⟩ zeroItm ⟨none, 0, none, 0⟩)).alloc zeroH
  have hB := Blk.new (w5.alloc zeroH) 28 (hdrC zeroItm ⟨none, 0, none, 0⟩ zeroItm ⟨none, 0, none, 0⟩)
  simp only [size_alloc] at hB
  have hG6 := (hG5.alloc zeroH).alloc zeroH
  have hnA : H5 w5.heap.size = none := hG5.holds.none_of_ge (Nat.le_refl _)
  have hnB : H5 (w5.heap.size + 1) = none := hG5.holds.none_of_ge (by omega)
  have hw5 := hG5.size
  go_wp2_with (with_reducible refine stop_store ?_)
  unfold Stopped
  refine wpList_store_item rfl _ _ _ rfl rfl _ _ rfl rfl _ _ hA size_hdr rfl (hdr_one _ _ _ _) fun w6 hA6 hg6 => ?_
  have hB6 := hB.grown hg6 (by intro e; injection e with e; omega)
  have hG7 := hG6.grownOwn hnA hw5 hg6
  go_wp2_with (with_reducible refine stop_store ?_)
  unfold Stopped
  refine wpList_store_item rfl _ _ _ rfl rfl _ _ rfl rfl _ _ hB6 size_hdr rfl (hdr_one _ _ _ _) fun w7 hB7 hg7 => ?_
  have hA7 := hA6.grown hg7 (by intro e; injection e with e; omega)
  have hG8 := hG7.grownOwn hnB (by omega) hg7
  clear hA hB hG6 hA6 hB6 hG7 hg6 hg7 hG5 hnA hnB
  go_upto_if 31 with fail
  go_cut [13] (fun s13 wx => s13 = .string (if o then ⟨#[69, 110, 99, 114, 121, 112, 116, 49]⟩ else ⟨#[69, 110, 99, 114, 121, 112, 116, 48]⟩) ∧ wx = w7)
  case first =>
    cases o
    · go_wp2_with fail
      go_meet
      exact ⟨rfl, rfl⟩
    · go_wp2_with fail
      go_meet
      exact ⟨rfl, rfl⟩
  case rest =>
    obtain ⟨rfl, rfl⟩ := hcut
    obtain ⟨CT, hCT⟩ : ∃ CT : ByteArray, (if o then (⟨#[69, 110, 99, 114, 121, 112, 116, 49]⟩ : ByteArray) else ⟨#[69, 110, 99, 114, 121, 112, 116, 48]⟩) = CT := ⟨_, rfl⟩
    rw [hCT]
    have HCT := Lib.hid (show CT.data.toList = (if o then enc1L else enc0L) ∧ CT.size = 8 by rw [← hCT]; cases o <;> exact ⟨rfl, rfl⟩)
    clear hCT
    obtain ⟨HA, hGA, hlA, hrA⟩ := rows_snap hG8 23 [.slice YA y.length yc] [y] (by simp) (fun j hj => by
      have : j = 0 := by simpa using hj
      subst this
      exact ⟨_, _, rfl, hy5⟩)
    have hxy := HPB.out
    have IN1 := Lib.hid (envelope_Input (hTab5.mono hlA) (hp5.mono hlA) (hu5.mono hlA) ⟨#[69, 110, 99, 114, 121, 112, 116, 48]⟩ (by show (8 : Nat) ≤ _; omega) (hx5.mono hlA) (by omega) hrA (by simp) (fun l hl => by simp at hl; subst hl; omega) _ hGA.holds)
    have hA8 := hA7.alloc (.cells [Value.slice YA y.length yc].toArray 23)
    have hB8 := hB7.alloc (.cells [Value.slice YA y.length yc].toArray 23)
    clear hxy hrA hG8
    have k0 := hA7.cell 0 rfl
    have k1 := hA7.cell 1 rfl
    have k2 := hA7.cell 2 rfl
    have k3 := hA7.cell 3 rfl
    have k4 := hA7.cell 4 rfl
    have k5 := hA7.cell 5 rfl
    have k6 := hA7.cell 6 rfl
    have k7 := hA7.cell 7 rfl
    clear hA7 hB7
    go_wp2_with fail
    generalize wc.alloc (.cells [Value.slice YA y.length yc].toArray 23) = w8 at IN1 hGA hA8 hB8 ⊢
    refine IN1.out.mono ?_
    rintro e w9 ⟨r1, l1, rfl, hf1, hl1⟩
    have hc1 : inputE (⟨#[69, 110, 99, 114, 121, 112, 116, 48]⟩ : ByteArray).data.toList p u x [y] = 0 := code0 HK1.out.1 HK1.out.2 enc0_text rfl HPB.out.1 HPB.out.2
    rw [if_pos hc1] at hl1
    rw [hc1]
    have HL1 := Lib.hid hl1
    obtain ⟨B1, d1, rfl, _⟩ := hf1.own.form
    have hA9 := hA8.below hf1.2
    have hB9 := hB8.below hf1.2
    have hG9 := hGA.below_ hf1.2
    have hs1 := hf1.own.src
    clear IN1 hGA hA8 hB8 hf1 hl1 hc1 k0 k1 k2 k3 k4 k5 k6 k7
    obtain ⟨HB, hGB, hlB, hrB⟩ := rows_snap hG9 23 [.slice XA x.length xc] [x] (by simp) (fun j hj => by
      have : j = 0 := by simpa using hj
      subst this
      exact ⟨_, _, rfl, hx5.mono hlA⟩)
    have hlAB := hlA.trans hlB
    have hxy := HPB.out
    have IN2 := Lib.hid (envelope_Input (hTab5.mono hlAB) (hp'.mono hlAB) (hu'.mono hlAB) CT (by have := HCT.out.2; omega) (hy5.mono hlAB) (by omega) hrB (by simp) (fun l hl => by simp at hl; subst hl; omega) _ hGB.holds)
    have hA10 := hA9.alloc (.cells [Value.slice XA x.length xc].toArray 23)
    have hB10 := hB9.alloc (.cells [Value.slice XA x.length xc].toArray 23)
    have hs1 := hs1.alloc (.cells [Value.slice XA x.length xc].toArray 23)
    clear hxy hrB hG9
    have k0 := hB9.cell 0 rfl
    have k1 := hB9.cell 1 rfl
    have k2 := hB9.cell 2 rfl
    have k3 := hB9.cell 3 rfl
    have k4 := hB9.cell 4 rfl
    have k5 := hB9.cell 5 rfl
    have k6 := hB9.cell 6 rfl
    have k7 := hB9.cell 7 rfl
    clear hA9 hB9
    go_wp2_with fail
    generalize w9.alloc (.cells [Value.slice XA x.length xc].toArray 23) = w10 at IN2 hGB hA10 hB10 hs1 ⊢
    refine IN2.out.mono ?_
    rintro e w11 ⟨r2, l2, rfl, hf2, hl2⟩
    have hc2 : inputE CT.data.toList p' u' y [x] = 0 := code0 HK2.out.1 HK2.out.2 (by rw [HCT.out.1]; cases o; exact enc0_text; exact enc1_text) (by rw [HCT.out.1]; cases o <;> rfl) HPB.out.2 HPB.out.1
    rw [if_pos hc2, HCT.out.1] at hl2
    rw [hc2]
    have HL2 := Lib.hid hl2
    obtain ⟨B2, d2, rfl, _⟩ := hf2.own.form
    have hA11 := hA10.below hf2.2
    have hB11 := hB10.below hf2.2
    have hG11 := hGB.below_ hf2.2
    have hs1 := hs1.below hf2.2
    have hs2 := hf2.own.src
    have hpz := hp5.mono hlAB
    have hpz' := hp'.mono hlAB
    have SM := Lib.hid (ref_Same p p' HB _ _ a.ba _ a.bc a.ia _ a.ic _ _ a'.ba _ a'.bc a'.ia _ a'.ic w11 hmp hmp' hpz.arg hpz'.arg hG11.holds)
    have HX := Lib.hid (Src.of_row (hx5.mono hlAB).row hG11.holds)
    have HY := Lib.hid (Src.of_row (hy5.mono hlAB).row hG11.holds)
    have HLAW := Lib.hid (distinct_law (o := o) HK1.out.1 HK2.out.1 HK1.out.2 HK2.out.2 hpz.nums hpz'.nums HPB.out.1 HPB.out.2)
    have hTabz := hTab5.mono hlAB
    clear IN2 hGB hA10 hB10 hf2 hl2 hc2 hpz hpz' k0 k1 k2 k3 k4 k5 k6 k7
    have HL12 := Lib.hid (show l1 = l2 ↔ (o = false ∧ p = p' ∧ x = y) by rw [HL1.out, HL2.out]; exact HLAW.out)
    go_upto_region 9 with fail
    go_cut [18] (fun s18 wx => s18 = .bool ((!o && sameB p p' && (x == y))) ∧ Below w11.heap.size w11 wx)
    case first =>
      have ka0 := hA11.cell 0 rfl
      have ka1 := hA11.cell 1 rfl
      have ka2 := hA11.cell 2 rfl
      have ka3 := hA11.cell 3 rfl
      have kb0 := hB11.cell 0 rfl
      have kb1 := hB11.cell 1 rfl
      have kb2 := hB11.cell 2 rfl
      have kb3 := hB11.cell 3 rfl
      cases o with
      | true =>
        go_wp2_with fail
        go_meet
        exact ⟨by simp, Below.refl _ _⟩
      | false =>
        go_wp2_with fail
        refine SM.out.mono ?_
        rintro e w12 ⟨rfl, hb12⟩
        have HSI := Lib.hid (sameB_iff p p')
        cases hsb : sameB p p' with
        | false =>
          have HNE := Lib.hid hsb
          clear hsb
          go_wp2_with fail
          go_meet
          exact ⟨by simp [HNE.out], hb12⟩
        | true =>
          have HPE := Lib.hid hsb
          clear hsb
          have kx := conv_bytes (HX.out.below hb12) x.length xc rfl
          have ky := conv_bytes (HY.out.below hb12) y.length yc rfl
          by_cases hxy : x = y
          · subst hxy
            go_wp2_with fail
            go_meet
            exact ⟨by simp [HPE.out], hb12⟩
          · have HXY := Lib.hid hxy
            have e1 : (x == y) = false := by simp [hxy]
            have e3 : (x = y) = False := eq_false hxy
            clear hxy
            go_wp2_with fail
            go_meet
            exact ⟨by simp [HXY.out], hb12⟩
    case rest =>
      obtain ⟨rfl, hb12⟩ := hcut
      have hG12 := hG11.below_ hb12
      have k1 := conv_bytes (hs1.below hb12) l1.length d1 rfl
      have k2 := conv_bytes (hs2.below hb12) l2.length d2 rfl
      have AW := Lib.hid (law13_awake hTabz wc hG12.holds)
      have hbb := hG12.below
      obtain ⟨sm, hsm⟩ : ∃ sm, (!o && sameB p p' && (x == y)) = sm := ⟨_, rfl⟩
      have HSM := Lib.hid (show (l1 = l2) ↔ sm = true by rw [← hsm, HL12.out]; simp [sameB_iff, and_assoc])
      rw [hsm]
      clear hsm hG12 hG11 hs1 hs2 hA11 hB11 SM HX HY
      cases sm with
      | true =>
        have hll := HSM.out.2 rfl
        have e1 : (l1 == l2) = true := by simp [hll]
        have e3 : (l1 = l2) = True := eq_true hll
        clear hll
        go_wp2_with fail
        refine AW.out.mono ?_
        rintro e wz ⟨rfl, hbz⟩
        have hbq := hbb.trans (hbz.mono hbb.size)
        go_wp2_with fail
        go_ret
        exact ⟨rfl, hbq⟩
      | false =>
        have hll : ¬ l1 = l2 := fun h => by have := HSM.out.1 h; cases this
        have e1 : (l1 == l2) = false := by simp [hll]
        have e3 : (l1 = l2) = False := eq_false hll
        clear hll
        go_wp2_with fail
        refine AW.out.mono ?_
        rintro e wz ⟨rfl, hbz⟩
        have hbq := hbb.trans (hbz.mono hbb.size)
        go_wp2_with fail
        go_ret
        exact ⟨rfl, hbq⟩
end Go.Proofs.YtdbhgngikglmcaaDoor
