/- squeezed. Walks: the law of error messages. -/
import Derived.Test.YtlebpackbfcfeaaGreatDoorK47
import Derived.Test.YtlebpackbfcfeaaGreatDoorK45
import Derived.Test.YtlebpackbfcfeaaGreatDoorK19
import Derived.Test.YtlebpackbfcfeaaGreatDoorK14
import Derived.Test.YtlebpackbfcfeaaGreatDoorK46
import Derived.Test.YtlebpackbfcfeaaGreatDoorK43
set_option linter.unusedVariables false
set_option linter.unusedSimpArgs false
set_option maxRecDepth 100000
set_option maxHeartbeats 25600000
namespace Go.Proofs.YtlebpackbfcfeaaGreatDoor
open Go.RowKit
theorem encErr_le {code : Int} {x : Itm} {b : List UInt8} (h : encErr code x = .ok b) : b.length ≤ 600 := by
 unfold encErr at h
 split at h
 ·cases h
 ·unfold limited at h
  split at h
  ·cases h
  ·injection h with h; subst h; omega
theorem decodeP_modest {l : List UInt8} {y : Itm} (h : decodeP l = .ok y) : Modest y := by
 unfold decodeP at h
 split at h
 ·cases h
 ·split at h
  ·cases h
  ·rename_i x k c hp
   split at h
   ·cases h
   ·injection h with h
    subst h;obtain ⟨h1, h2, h3, h4, h5, h6, h7⟩ := prefix_spec hp
    exact validP_modest ((validP_iff _).2 ⟨h5, h7, by rw [h4, List.length_take]; omega⟩)
theorem decErr_modest {l : List UInt8} {v : Int} {y : Itm} (h : decErr l = .ok (v, y)) : Modest y := by
 unfold decErr at h
 split at h
 ·cases h
 ·split at h
  ·cases h
  ·split at h
   ·cases h
   ·split at h
    ·cases h
    ·rename_i y' hy
     injection h with h
     injection h with _ h
     subst h
     exact decodeP_modest hy
theorem bytes_data4 {w w' : World} {H : Snap} {r : Except Nat (List UInt8)} {e : Ending} (hH : Holds w H) (hr : ∀ b, r = .ok b → b.length ≤ 600) (h : BytesOut w r e w') :
  ∃ A c l q H', e = .returned (.tuple #[.slice A l.length c, .int .i64 q]) ∧ l.length ≤ 600 ∧ Grows w H w' H' ∧ IsBytes H' A c l := by
 unfold BytesOut at h
 cases r with
 | error q => obtain ⟨rfl, hb⟩ := h; exact ⟨none, 0, [], q, H, rfl, by simp, Grows.of_below hH hb, IsBytes.nil _⟩
 | ok l =>
  obtain ⟨v, rfl, hf⟩ := h;obtain ⟨A, c, rfl, _⟩ := hf.own.form;obtain ⟨H', hG, hb, _⟩ := Fresh.snapB hH hf
  exact ⟨A, c, l, 0, H', rfl, hr l rfl, hG, hb⟩
theorem law24_errors {H : Snap} (hTab : Tabs H) {A : Option Addr} {c : Nat} {l : List Int} (hl : IsInts H A c l) (code : Int) {BA : Option Addr} {bc : Nat} {b : List UInt8} (hb : IsBytes H BA bc b) (at_ by_ : Int) (w : World) (hH : Holds w H) :
  Calls Tryz.prog 3 #[.slice A l.length c, .int .i64 code, .slice BA b.length bc, .int .i64 at_, .int .i64 by_] w fun e w' => e = .returned (.bool true) ∧ Below w.heap.size w w' := by
 have HT := Hh hTab;have HH := Hh hH;have HB := Hh hb;have AW := Hh (fun (W : World) (h : Below w.heap.size w W) => law_awake hTab W (hH.below h (Nat.le_refl _)));have SM := Hh (fun (n c : Nat) (A : Option Addr) (w : World) => mk2_Small A n c w);have MD := Hh (fun (v n : Int) (h1 : 0 < n) (h2 : n ≤ 1099511627776) (w : World) => mk_Mod v n h1 h2 w);have DI2 := Hh (item_succ 1 (by omega) (item_succ 0 (by omega) item_zero));have NW := Hh (fun w => mk_New hl w);obtain ⟨nb, hnb⟩ : ∃ nb, b.length = nb := ⟨_, rfl⟩
 have HNB := Hh hnb;have hb0 := Below.refl w.heap.size w;rw [hnb];clear hTab hl hb hH hnb;go_enter Tryz.func3, Tryz.ntmps3
 go_wp2_with fail
 refine (SM.out _ _ _ _).mono ?_
 rintro e w2 ⟨⟨t2, rfl, hjunk⟩, rfl⟩
 clear SM hjunk
 cases t2 with
 | false =>
  go_wp2_with fail
  refine (AW.out _ hb0).mono ?_
  rintro e w9 ⟨rfl, hb9⟩
  go_wp2_with fail
  go_ret
  exact ⟨rfl, hb0.trans (hb9.mono hb0.size)⟩
 | true =>
 have hG1 := Grows.refl HH.out;go_wp2_with fail
 refine (NW.out _).mono ?_
 rintro e w4 ⟨rfl, hdk, hb4⟩
 have hG4 := hG1.below_ hb4;have hDI : DeckIn w4 w2.heap.size H := ⟨hdk, hG4.holds, HH.out.none_of_ge (Nat.le_refl _)⟩
 have hgw := Hh (Nat.le_refl w2.heap.size);have IT := Hh (show Calls Tryz.prog 7 #[.pointer (some ⟨w2.heap.size, 0, none⟩), .int .i64 2] w4 _ from DI2.out w4 H w2.heap.size HT.out hDI);clear NW hdk hb4 hDI hG1 hb0 DI2;go_wp2_with fail
 refine IT.out.mono ?_
 rintro e w5 ⟨v5, x, rfl, ⟨ja, jb, jc, jd, H5, rfl, hd5, hx5⟩, hmod, hlen⟩
 have hG5 := hG4.trans_but hd5.grows hgw.out;clear IT hd5 hG4 hlen hmod;have hM0 := Blk.new w5 31 #[.int .i64 0, .int .u64 0, .slice none 0 0, .slice none 0 0];have hMn : H5 w5.heap.size = none := hG5.holds.none_of_ge (Nat.le_refl _);have hMw := hG5.size;have hG6 := hG5.alloc zeroO;clear hG5;go_wp2_with (with_reducible refine stop_store ?_)
 refine stI hM0 fun w7 hM7 hg7 => ?_
 have hG7 := hG6.grownOwn hMn hMw hg7;obtain ⟨M, hMM⟩ : ∃ M, w5.heap.size = M := ⟨_, rfl⟩
 rw [hMM] at hM7 ⊢;have HX := Hh hx5;clear hMM hM0 hMn hMw hG6 hg7 hx5;go_wp2_with fail
 refine (MD.out code 3 (by omega) (by omega) _).mono ?_
 rintro e w8 ⟨rfl, rfl⟩
 have hm3 := modP_bnd code 3 (by omega);obtain ⟨c3, hc3⟩ : ∃ c3, modP code 3 = c3 := ⟨_, rfl⟩
 rw [hc3] at hm3 ⊢;obtain ⟨c2, hc2⟩ : ∃ c2, 1 + c3 = c2 := ⟨_, rfl⟩
 have K3 : IntKind.i64.wrap (1 + c3) = c2 := by rw [IntWalk.i64_in _ (by omega)]; exact hc2
 clear hc3 hm3 hc2;obtain ⟨H9, hG9, hl9, hr9⟩ := lit_row (L := lieI) hG7 ((RowC.one (L := lieI) (H := H5) (x := code) (c := [.int .i64 code]) rfl).app (RowC.one (L := lieI) (H := H5) (x := c2) (c := [.int .i64 c2]) rfl) : RowC lieI H5 [.int .i64 code, .int .i64 c2] [code, c2]) 3 (by simp);replace hr9 : IsRow lieI H9 (some ⟨w7.heap.size, 0, none⟩) 2 [code, c2] := hr9;have hG9' : Grows w2 H (w7.alloc (.cells #[.int .i64 code, .int .i64 c2] 3)) H9 := hG9;have hM9 := hM7.alloc (.cells #[.int .i64 code, .int .i64 c2] 3);have HX9 := Hh (HX.out.mono hl9);obtain ⟨ms, hms⟩ : ∃ ms, [code, c2] = ms := ⟨_, rfl⟩
 have HMS : Hid (ms.length = 2) := by rw [Hid, ← hms]; rfl
 rw [hms] at hr9;have hr9h := Hh hr9;clear hG9 hl9 hr9 hms hG7 HX;go_wp2_with fail
 obtain ⟨B7, hB7⟩ : ∃ B7, w7.heap.size = B7 := ⟨_, rfl⟩
 generalize w7.alloc (.cells #[.int .i64 code, .int .i64 c2] 3) = w10 at hG9' hM9 ⊢
 rw [hB7] at hr9h ⊢;clear hB7 hM7 K3;go_loopw [43] (fun v43 wr => ∃ (j : Nat) (Hr : Snap), j ≤ 2 ∧ v43 = .int .i64 (j : Int) ∧ Grows w2 H wr Hr ∧ H9.le Hr ∧ Blk wr M 31 #[.int .i64 x.kind, .int .u64 x.n, .slice ja x.bytes.length jb, .slice jc x.items.length jd]) (fun v43 _ => 2 - (intOf v43).toNat)
 case atStart => exact ⟨0, H9, by omega, rfl, hG9', Snap.le.refl _, hM9⟩
 case round =>
  clear hG9' hM9;obtain ⟨j, Hx, hj, rfl, hGx, hlx, hMx⟩ := hrel;have HJ := Hh hj;have HLX := Hh hlx;clear hj hlx
  by_cases hj2 : j < 2
  ·have hji : (j : Int) < 2 := by omega
   obtain ⟨rb, ro, hra, hat⟩ := rowI_at hr9h.out (by rw [HMS.out]; omega);have q0 := hGx.holds.cell (HLX.out.cell (hat j (by rw [HMS.out]; exact hj2)));injection hra with hra
   injection hra with hrb hro
   subst hrb;subst hro;rw [show 0 + j = j by omega] at q0;obtain ⟨cd, hcd⟩ : ∃ cd, ms.getD j 0 = cd := ⟨_, rfl⟩
   rw [hcd] at q0;have HJ2 := Hh hj2;have m0 := hMx.cell 0 rfl;have m1 := hMx.cell 1 rfl;have m2 := hMx.cell 2 rfl;have m3 := hMx.cell 3 rfl;have E1 := Hh (e_EncodeError (HT.out.mono hGx.le) wr hGx.holds (HX9.out.mono HLX.out) cd);clear hat hcd hj2;go_wp2_with fail
   refine E1.out.mono ?_
   intro e w8 hs
   unfold BytesOut at hs
   clear E1 m0 m1 m2 m3 q0
   cases hde : encErr cd x with
   | error q =>
    rw [hde] at hs;obtain ⟨rfl, hb8⟩ := hs;have hG8 := hGx.below_ hb8;have hM8 := hMx.below hb8;have m0 := hM8.cell 0 rfl;have m1 := hM8.cell 1 rfl;have m2 := hM8.cell 2 rfl;have m3 := hM8.cell 3 rfl;have E2 := Hh (ref_EncodeError (HT.out.mono hG8.le) w8 hG8.holds (HX9.out.mono HLX.out) cd);rw [hde] at E2;clear hde hb8 hGx hMx;go_wp2_with fail
    refine E2.out.mono ?_
    intro e w9 hs
    unfold BytesOut at hs
    obtain ⟨rfl, hb9⟩ := hs;have hG9 := hG8.below_ hb9;have hM9 := hM8.below hb9;have SA_ := Hh (law_same (A := none) (B := none) (n := 0) (m := 0) (c := 0) (d := 0) (l := []) q rfl rfl (by simp) w9 (Src.nil _ _) (Src.nil _ _));clear E2 hG8 hb9 hM8 m0 m1 m2 m3;go_wp2_with fail
    refine SA_.out.mono ?_
    rintro e w10 ⟨rfl, hb10⟩
    have hG10 := hG9.below_ hb10;have hM10 := hM9.below hb10;clear SA_ hG9 hb10 hM9;go_wp2_with fail
    go_roundw
    case rel => exact ⟨j + 1, Hx, by have := HJ2.out; omega, by go_num, hG10, HLX.out, hM10⟩
    case measure => have := HJ2.out; simp [intOf]; omega
   | ok bs =>
    rw [hde] at hs;obtain ⟨v, rfl, hf8⟩ := hs;obtain ⟨PA, pc, rfl, hjunk⟩ := hf8.own.form;clear hjunk;obtain ⟨H8, hG8', hpb, hjunk⟩ := Fresh.snapB hGx.holds hf8;clear hjunk;have hG8 := hGx.trans hG8';have hM8 := hMx.below hf8.2;have m0 := hM8.cell 0 rfl;have m1 := hM8.cell 1 rfl;have m2 := hM8.cell 2 rfl;have m3 := hM8.cell 3 rfl;have HBL := Hh (encErr_le hde);have E2 := Hh (ref_EncodeError (HT.out.mono hG8.le) w8 hG8.holds (HX9.out.mono (HLX.out.trans hG8'.le)) cd);rw [hde] at E2;have HL9 := Hh (HLX.out.trans hG8'.le);clear hde hG8' hf8 hGx hMx;go_wp2_with fail
    refine E2.out.mono ?_
    intro e w9 hs
    unfold BytesOut at hs
    obtain ⟨v, rfl, hf9⟩ := hs;obtain ⟨QA, qc, rfl, hq1, hq2, hqs⟩ := hf9.own.form;have hG9 := hG8.below_ hf9.2;have hM9 := hM8.below hf9.2;have SA_ := law_same (A := PA) (B := QA) (n := bs.length) (m := bs.length) (c := pc) (d := qc) (l := bs) 0 rfl rfl (by have := HBL.out; omega) w9 (Src.of_row hpb.row hG9.holds) hqs;have SAH := Hh (show Calls Tryz.prog 11 #[.slice PA bs.length pc, .int .i64 0, .slice QA bs.length qc, .int .i64 0] w9 _ from SA_);clear E2 hG8 hf9 hq1 hq2 hqs hpb SA_ hM8 m0 m1 m2 m3;go_wp2_with fail
    refine SAH.out.mono ?_
    rintro e w10 ⟨rfl, hb10⟩
    have hG10 := hG9.below_ hb10;have hM10 := hM9.below hb10;clear SAH hG9 hb10 hM9;go_wp2_with fail
    go_roundw
    case rel => exact ⟨j + 1, H8, by have := HJ2.out; omega, by go_num, hG10, HL9.out, hM10⟩
    case measure => have := HJ2.out; simp [intOf]; omega
  ·have hji : ¬ ((j : Int) < 2) := by omega
   have hjd : decide ((j : Int) < 2) = false := decide_eq_false hji;clear hj2;go_upto_region 13 with fail
   go_cut [19] (fun s19 wx => ∃ (GA : Option Addr) (gc : Nat) (good : List UInt8) (H8 : Snap), s19 = .slice GA good.length gc ∧ good.length ≤ 600 ∧ Grows w2 H wx H8 ∧ IsBytes H8 GA gc good)
   case first =>
    have hGd := hGx.drew;have hM := hMx.drew;have m0 := hMx.cell 0 rfl;have m1 := hMx.cell 1 rfl;have m2 := hMx.cell 2 rfl;have m3 := hMx.cell 3 rfl;have mb := modP_bnd code 65535 (by omega);have K6 : IntKind.i64.wrap (1 + modP code 65535) = 1 + modP code 65535 := IntWalk.i64_in _ (by omega)
    refine wp_region_ways 10 (fun w' => w'.cell? ⟨M, 0, none⟩ = some (.int .i64 x.kind) ∧ w'.cell? ⟨M, 1, none⟩ = some (.int .u64 x.n) ∧ w'.cell? ⟨M, 2, none⟩ = some (.slice ja x.bytes.length jb) ∧ w'.cell? ⟨M, 3, none⟩ = some (.slice jc x.items.length jd)) (by kernel_rfl) (⟨m0, m1, m2, m3⟩) (fun hHeld => ?_)
    refine TkS 0 rfl hHeld ?_
    refine TkS 3 rfl hHeld ?_
    refine To 1 rfl fun K hK => ?_
    go_simp
    refine (MD.out code 65535 (by omega) (by omega) _).mono ?_
    rintro e w8 ⟨rfl, rfl⟩
    refine hK.out _ _ (fun _ => ?_) (fun hHeld => ?_)
    ·exact ⟨hM.cell 0 rfl, hM.cell 1 rfl, hM.cell 2 rfl, hM.cell 3 rfl⟩
    clear hK K;have hHeld := hHeld (by decide)
    try simp only [Act.put, zz1, zz2, zz3, zz4, zz5, zz6]
    refine TkS 2 rfl hHeld ?_
    refine To 4 rfl fun K hK => ?_
    go_simp
    refine (ref_EncodeError (HT.out.mono hGd.le) _ hGd.holds (HX9.out.mono HLX.out) _).mono ?_
    intro e w9 hs
    obtain ⟨GA, gc, good, ge, H8, rfl, hgl, hGn, hgb⟩ := bytes_data4 hGd.holds (fun b h => encErr_le h) hs;have hM := hM.below hGn.below;have hGd := hGd.trans hGn;clear hs
    refine hK.out _ _ (fun _ => ?_) (fun hHeld => ?_)
    ·exact ⟨hM.cell 0 rfl, hM.cell 1 rfl, hM.cell 2 rfl, hM.cell 3 rfl⟩
    clear hK K;have hHeld := hHeld (by decide)
    try simp only [Act.put, zz1, zz2, zz3, zz4, zz5, zz6]
    refine TkS 5 rfl hHeld ?_
    refine TkS 6 rfl hHeld ?_
    refine TkS 7 rfl hHeld ?_
    refine TkS 8 rfl hHeld ?_
    refine TkS 9 rfl hHeld ?_
    refine Ways.done (by kernel_rfl) ?_
    go_wp2_with fail
    go_meet
    exact ⟨GA, gc, good, H8, rfl, hgl, hGd, hgb⟩
   case rest =>
   clear hGx hMx;obtain ⟨GA, gc, good, H8, rfl, hgl8, hG8, hgb⟩ := hcut;have HGL := Hh hgl8;have SP := Hh (mk_Spoilt wc hG8.holds rfl hgb (by have := HGL.out; omega) at_ by_);clear hgl8;go_wp2_with fail
   refine SP.out.mono ?_
   rintro e w9 ⟨ZA, zc, sp, rfl, H10, hG9', hxb⟩
   have hG10 := hG8.trans hG9';have hgb9 := hgb.mono hG9'.le;have hbb9 := HB.out.mono hG10.le;obtain ⟨Ha, hGa, hla, hra⟩ := lit_row (L := lieB) hG10 (((RowC.one (L := lieB) (H := H10) ⟨BA, bc, rfl, hbb9⟩).app (RowC.one (L := lieB) (H := H10) ⟨GA, gc, rfl, hgb9⟩)).app (RowC.one (L := lieB) (H := H10) ⟨ZA, zc, rfl, hxb⟩) : RowC lieB H10 [.slice BA b.length bc, .slice GA good.length gc, .slice ZA sp.length zc] [b, good, sp]) 23 (by simp);obtain ⟨ng, hng⟩ : ∃ ng, good.length = ng := ⟨_, rfl⟩
   obtain ⟨ns, hns⟩ : ∃ ns, sp.length = ns := ⟨_, rfl⟩
   obtain ⟨ls, hls⟩ : ∃ ls, [b, good, sp] = ls := ⟨_, rfl⟩
   have HLS : Hid (ls.length = 3) := by rw [Hid, ← hls]; rfl
   replace hra : IsRow lieB Ha (some ⟨w9.heap.size, 0, none⟩) 3 [b, good, sp] := hra;rw [hls] at hra;have hGa' : Grows w2 H (w9.alloc (.cells #[.slice BA nb bc, .slice GA ng gc, .slice ZA ns zc] 23)) Ha := by rw [← HNB.out, ← hng, ← hns]; exact hGa
   have hrah := Hh hra;rw [hng, hns];clear SP hG8 hG9' hxb hG10 hgb hgb9 hbb9 hGa hla hra hng hns hls HGL;go_wp2_with fail
   go_loopw [82] (fun v62 wr => ∃ (i : Nat) (Hr : Snap), i ≤ 3 ∧ v62 = .int .i64 (i : Int) ∧ Grows w2 H wr Hr ∧ Ha.le Hr) (fun v62 _ => 3 - (intOf v62).toNat)
   case atStart => exact ⟨0, Ha, by omega, rfl, hGa', Snap.le.refl _⟩
   case round =>
    clear hGa';obtain ⟨i, Hr, hi, rfl, hGr, hlr⟩ := hrel;have HI := Hh hi;have HLR := Hh hlr;clear hi hlr
    by_cases hi3 : i < 3
    ·have hii : (i : Int) < 3 := by omega
     obtain ⟨rb, ro, hrb0, hat⟩ := hrah.out.at_ (by rw [HLS.out]; omega);obtain ⟨d, hd, hc⟩ := hat i (by rw [HLS.out]; exact hi3);obtain ⟨CA', cc', hd', hcb⟩ := hd;subst hd';injection hrb0 with hrb0
     injection hrb0 with hrb hro
     subst hrb;subst hro;obtain ⟨cl, hcl⟩ : ∃ cl, ls[i]'(by rw [HLS.out]; exact hi3) = cl := ⟨_, rfl⟩
     rw [hcl] at hc hcb;have q0 := hGr.holds.cell (HLR.out.cell (hc 0 _ rfl));rw [show 0 + (i * lieB.k + 0) = i from by show 0 + (i * 1 + 0) = i; omega] at q0;have hcb' := hcb.mono HLR.out;have D1 := Hh (e_DecodeError (HT.out.mono hGr.le) _ hGr.holds rfl hcb');have HI3 := Hh hi3;have hGrh := Hh hGr;have HCB := Hh hcb';clear hat hc hcl hcb hi3 hGr hcb';go_wp2_with fail
     refine D1.out.mono ?_
     intro e w10 hs
     unfold ErrOut at hs
     clear D1 q0
     cases hde : decErr cl with
     | error q =>
      rw [hde] at hs;obtain ⟨rfl, hb10⟩ := hs;have hG10 := hGrh.out.below_ hb10;obtain ⟨H10, hH10⟩ : ∃ H10, Hr = H10 := ⟨_, rfl⟩
      have HL10 : Hid (Hr.le H10) := by rw [Hid, hH10]; exact Snap.le.refl _
      rw [hH10] at hG10;clear hb10 hH10;have hT0 := Blk.new w10 31 #[.int .i64 0, .int .u64 0, .slice none 0 0, .slice none 0 0];have hTn : H10 w10.heap.size = none := hG10.holds.none_of_ge (Nat.le_refl _);have hTw := Hh hG10.size;have hG11 := hG10.alloc zeroO;clear hG10;go_wp2_with (with_reducible refine stop_store ?_)
      refine stI hT0 fun w12 hT12 hg12 => ?_
      have hG12 := hG11.grownOwn hTn hTw.out hg12;obtain ⟨P, hP⟩ : ∃ P, w10.heap.size = P := ⟨_, rfl⟩
      rw [hP] at hT12 hTn hTw ⊢;clear hP hG11 hT0 hg12;have D2 := Hh (ref_DecodeError (HT.out.mono hG12.le) w12 hG12.holds rfl (HCB.out.mono HL10.out));rw [hde] at D2;clear hde;go_wp2_with fail
      refine D2.out.mono ?_
      intro e w13 hs
      unfold ErrOut at hs
      clear D2;obtain ⟨rfl, hb13⟩ := hs;have hG13 := hG12.below_ hb13;have hT13 := hT12.below hb13;obtain ⟨H13, hH13⟩ : ∃ H13, H10 = H13 := ⟨_, rfl⟩
      rw [hH13] at hG13 HL10 hTn;have HL13 := HL10;have HI1 := Hh (show IsItem H13 none 0 none 0 zeroItm from IsItem.plain _ 0 0 (by omega) (by omega));clear hG12 hb13 hT12 hH13 HL10;have hU0 := Blk.new w13 31 #[.int .i64 0, .int .u64 0, .slice none 0 0, .slice none 0 0];have hUn : H13 w13.heap.size = none := hG13.holds.none_of_ge (Nat.le_refl _);have hUw := Hh (And.intro hG13.size hT13.lt);have hG14 := hG13.alloc zeroO;have hT14 := hT13.alloc zeroO;clear hG13 hT13;go_wp2_with (with_reducible refine stop_store ?_)
      refine stI hU0 fun w15 hU15 hg15 => ?_
      have hG15 := hG14.grownOwn hUn hUw.out.1 hg15;have hT15 := hT14.grown hg15 (by intro e; injection e with e; have := hUw.out.2; omega);obtain ⟨Q, hQ⟩ : ∃ Q, w13.heap.size = Q := ⟨_, rfl⟩
      rw [hQ] at hU15 ⊢;clear hQ hG14 hT14 hU0 hg15 hUn hUw;have r0 := hT15.cell 0 rfl;have r1 := hT15.cell 1 rfl;have r2 := hT15.cell 2 rfl;have r3 := hT15.cell 3 rfl;have m0 := hU15.cell 0 rfl;have m1 := hU15.cell 1 rfl;have m2 := hU15.cell 2 rfl;have m3 := hU15.cell 3 rfl;have qe : ((q : Int) != (q : Int)) = false := bne_self_eq_false _;have SF_ := ref_Same zeroItm zeroItm H13 0 0 none 0 0 none 0 0 0 0 none 0 0 none 0 0 w15 (modest_plain 0 0 [] (by simp)) (modest_plain 0 0 [] (by simp)) HI1.out.arg HI1.out.arg hG15.holds;rw [(sameB_iff zeroItm zeroItm).2 rfl] at SF_;have SF := Hh SF_;clear SF_;go_wp2_with fail
      refine SF.out.mono ?_
      rintro e w16 ⟨rfl, hb16⟩
      have hG16 := hG15.below_ hb16;clear SF hb16 hG15 hT15 hU15 r0 r1 r2 r3 m0 m1 m2 m3;go_wp2_with fail
      go_roundw
      case rel => exact ⟨i + 1, H13, by have := HI3.out; omega, by go_num, hG16, HLR.out.trans HL13.out⟩
      case measure => have := HI3.out; simp [intOf]; omega
     | ok vy =>
      obtain ⟨v, y⟩ := vy;rw [hde] at hs;obtain ⟨la, lb, lc, ld, H10, rfl, hGn, hi1⟩ := hs;have hG10 := hGrh.out.trans hGn;have HI1_ := Hh hi1;have HL10 := Hh hGn.le;have HMO := Hh (decErr_modest hde);clear hGn hi1;have hT0 := Blk.new w10 31 #[.int .i64 0, .int .u64 0, .slice none 0 0, .slice none 0 0];have hTn : H10 w10.heap.size = none := hG10.holds.none_of_ge (Nat.le_refl _);have hTw := Hh hG10.size;have hG11 := hG10.alloc zeroO;clear hG10;go_wp2_with (with_reducible refine stop_store ?_)
      refine stI hT0 fun w12 hT12 hg12 => ?_
      have hG12 := hG11.grownOwn hTn hTw.out hg12;obtain ⟨P, hP⟩ : ∃ P, w10.heap.size = P := ⟨_, rfl⟩
      rw [hP] at hT12 hTn hTw ⊢;clear hP hG11 hT0 hg12;have D2 := Hh (ref_DecodeError (HT.out.mono hG12.le) w12 hG12.holds rfl (HCB.out.mono HL10.out));rw [hde] at D2;clear hde;go_wp2_with fail
      refine D2.out.mono ?_
      intro e w13 hs
      unfold ErrOut at hs
      clear D2;obtain ⟨ka, kb, kc, kd, H13, rfl, hGn, hi2⟩ := hs;have hG13 := hG12.trans hGn;have HI1 := Hh (HI1_.out.mono hGn.le);have HI2 := Hh hi2;have HL13 := Hh (HL10.out.trans hGn.le);have hT13 := hT12.below hGn.below;clear hG12 hGn hT12 hi2 HI1_;have hU0 := Blk.new w13 31 #[.int .i64 0, .int .u64 0, .slice none 0 0, .slice none 0 0];have hUn : H13 w13.heap.size = none := hG13.holds.none_of_ge (Nat.le_refl _);have hUw := Hh (And.intro hG13.size hT13.lt);have hG14 := hG13.alloc zeroO;have hT14 := hT13.alloc zeroO;clear hG13 hT13;go_wp2_with (with_reducible refine stop_store ?_)
      refine stI hU0 fun w15 hU15 hg15 => ?_
      have hG15 := hG14.grownOwn hUn hUw.out.1 hg15;have hT15 := hT14.grown hg15 (by intro e; injection e with e; have := hUw.out.2; omega);obtain ⟨Q, hQ⟩ : ∃ Q, w13.heap.size = Q := ⟨_, rfl⟩
      rw [hQ] at hU15 ⊢;clear hQ hG14 hT14 hU0 hg15 hUn hUw;have r0 := hT15.cell 0 rfl;have r1 := hT15.cell 1 rfl;have r2 := hT15.cell 2 rfl;have r3 := hT15.cell 3 rfl;have m0 := hU15.cell 0 rfl;have m1 := hU15.cell 1 rfl;have m2 := hU15.cell 2 rfl;have m3 := hU15.cell 3 rfl;have ve : (v != v) = false := bne_self_eq_false _;have SF_ := ref_Same y y H13 _ _ _ _ _ _ _ _ _ _ _ _ _ _ _ _ w15 HMO.out HMO.out HI1.out.arg HI2.out.arg hG15.holds;rw [(sameB_iff y y).2 rfl] at SF_;have SF := Hh SF_;clear SF_;go_wp2_with fail
      refine SF.out.mono ?_
      rintro e w16 ⟨rfl, hb16⟩
      have hG16 := hG15.below_ hb16;clear SF hb16 hG15 hT15 hU15 r0 r1 r2 r3 m0 m1 m2 m3;go_wp2_with fail
      go_roundw
      case rel => exact ⟨i + 1, H13, by have := HI3.out; omega, by go_num, hG16, HLR.out.trans HL13.out⟩
      case measure => have := HI3.out; simp [intOf]; omega
    ·have hii : ¬ ((i : Int) < 3) := by omega
     have hid : decide ((i : Int) < 3) = false := decide_eq_false hii;clear hi3;go_wp2_with fail
     refine (AW.out _ hGr.below).mono ?_
     rintro e w9 ⟨rfl, hb9⟩
     go_wp2_with fail
     go_ret
     exact ⟨rfl, hGr.below.trans (hb9.mono hGr.below.size)⟩
end Go.Proofs.YtlebpackbfcfeaaGreatDoor
