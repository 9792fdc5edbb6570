/- squeezed. Walks: writing error messages. -/
import Derived.Test.YtlebpackbfcfeaaGreatDoorK46
import Derived.Test.YtlebpackbfcfeaaGreatDoorK16
import Derived.Test.YtlebpackbfcfeaaGreatDoorK11
import Derived.Test.YtlebpackbfcfeaaGreatDoorK40
set_option linter.unusedVariables false
set_option linter.unusedSimpArgs false
set_option maxRecDepth 100000
set_option maxHeartbeats 6400000
namespace Go.Proofs.YtlebpackbfcfeaaGreatDoor
open Go.RowKit
theorem encErr_no {code : Int} {x : Itm} (h : code < 1 ∨ 65535 < code ∨ validP x = false) : encErr code x = .error 1 := by rw [encErr, if_pos h]
theorem encErr_ok {code : Int} {x : Itm} (h : ¬ (code < 1 ∨ 65535 < code ∨ validP x = false)) : encErr code x = limited (intB code ++ encB x) := by rw [encErr, if_neg h]
theorem ref_RawD {H : Snap} (w : World) (hH : Holds w H) {x : Itm} {ba : Option Addr} {bc : Nat} {ia : Option Addr} {ic : Nat} (hx : IsItem H ba bc ia ic x) (hg : Good x 0) {S : List UInt8} (hS : encB x = S) (hl : S.length ≤ 4096) :
  Calls Tryz.prog 32 #[itemV x ba bc ia ic] w fun e w' => ∃ A c H', e = .returned (.slice A S.length c) ∧ Grows w H w' H' ∧ IsBytes H' A c S := by
 refine (ref_Raw x H _ _ ba _ bc ia _ ic w 0 hg (by rw [hS]; omega) hx.arg hH).mono ?_
 rintro e w3 ⟨r, rfl, hf⟩
 rw [hS] at hf;obtain ⟨QA, qc, rfl, _⟩ := hf.own.form;obtain ⟨H3, hG3, hb3, _⟩ := Fresh.snapB hH hf
 exact ⟨QA, qc, H3, rfl, hG3, hb3⟩
theorem e_EncodeError {H : Snap} (hTab : Tabs H) (w : World) (hH : Holds w H) {x : Itm} {ja : Option Addr} {jb : Nat} {jc : Option Addr} {jd : Nat} (hx : IsItem H ja jb jc jd x) (code : Int) :
  Calls Tryz.prog 9 #[.int .i64 code, itemV x ja jb jc jd] w (BytesOut w (encErr code x)) := by
 have hB0 := Blk.new w 31 #[.int .i64 x.kind, .int .u64 x.n, .slice ja x.bytes.length jb, .slice jc x.items.length jd];have hG := (Grows.refl hH).alloc (.cells #[.int .i64 x.kind, .int .u64 x.n, .slice ja x.bytes.length jb, .slice jc x.items.length jd] 31);have hB : Blk (w.alloc (.cells #[.int .i64 x.kind, .int .u64 x.n, .slice ja x.bytes.length jb, .slice jc x.items.length jd] 31)) w.heap.size 31 #[.int .i64 x.kind, .int .u64 x.n, .slice ja x.bytes.length jb, .slice jc x.items.length jd] := hB0;have b0 := hB.cell 0 rfl;have b1 := hB.cell 1 rfl;have b2 := hB.cell 2 rfl;have b3 := hB.cell 3 rfl;have EN := Hh (cbor_Encode hTab hx.arg (w.alloc (.cells #[.int .i64 x.kind, .int .u64 x.n, .slice ja x.bytes.length jb, .slice jc x.items.length jd] 31)) hG.holds);clear hTab hx hH hB0;go_enter Tryz.func9, Tryz.ntmps9
 go_wp2_with fail
 generalize w.alloc (.cells #[.int .i64 x.kind, .int .u64 x.n, .slice ja x.bytes.length jb, .slice jc x.items.length jd] 31) = w1 at hB hG EN b0 b1 b2 b3 ⊢
 refine EN.out.mono ?_
 intro e w2 hs
 have hx : ∃ (r : Value) (q : Nat), e = .returned (.tuple #[r, .int .i64 (q : Int)]) ∧ Below w1.heap.size w1 w2 ∧ (validP x = true → q = 0 ∧ Fresh w1 (encB x) r w2) ∧ (validP x = false → q = 1) := by
  rcases hs with ⟨hv, rfl, hb⟩ | ⟨hv, r, rfl, hf⟩
  ·exact ⟨_, 1, rfl, hb, (fun h => by rw [hv] at h; cases h), fun _ => rfl⟩
  ·exact ⟨r, 0, rfl, hf.2, (fun _ => ⟨rfl, hf⟩), fun h => by rw [hv] at h; cases h⟩
 obtain ⟨r, q, rfl, hb2, hgood, hbad⟩ := hx;have HGOOD := Hh hgood;have HBAD := Hh hbad;have hG2 := hG.below_ hb2;have hbel := hG2.below;have hbw := Hh hG.below;clear EN hs hgood hbad b0 b1 b2 b3 hB hb2 hG
 by_cases c1 : code < 1
 ·have c1d : decide (code < 1) = true := decide_eq_true c1;have E : Hid (encErr code x = .error 1) := by rw [Hid]; exact encErr_no (.inl c1)
  go_wp2_with fail
  go_ret2
  exact BytesOut.err (q := 1) E.out rfl hbel
 have c1d : decide (code < 1) = false := decide_eq_false c1
 by_cases c2 : 65535 < code
 ·have c2d : decide (65535 < code) = true := decide_eq_true c2;have E : Hid (encErr code x = .error 1) := by rw [Hid]; exact encErr_no (.inr (.inl c2))
  go_wp2_with fail
  go_ret2
  exact BytesOut.err (q := 1) E.out rfl hbel
 have c2d : decide (65535 < code) = false := decide_eq_false c2
 cases hv : validP x with
 | false =>
  have hq := HBAD.out hv;subst hq;have E : Hid (encErr code x = .error 1) := by rw [Hid]; exact encErr_no (.inr (.inr hv))
  clear hv;go_wp2_with fail
  go_ret2
  exact BytesOut.err (q := 1) E.out rfl hbel
 | true =>
  obtain ⟨hq, hf⟩ := HGOOD.out hv;subst hq;have E : Hid (encErr code x = limited (intB code ++ encB x)) := by rw [Hid]; exact encErr_ok (by rw [hv]; simp; omega)
  have HEL := Hh ((validP_iff x).1 hv).2.2;obtain ⟨S, hS⟩ : ∃ S, encB x = S := ⟨_, rfl⟩
  rw [hS] at hf E HEL;obtain ⟨RA, rc, rfl, hj1, hj2, hsrc⟩ := hf.own.form;have WI := Hh (wire_Int code (by omega) (by omega) w2);have HIL := Hh (intB_le code).2;obtain ⟨I, hI⟩ : ∃ I, intB code = I := ⟨_, rfl⟩
  rw [hI] at WI E HIL;clear hv hS hI hf hj1 hj2 HGOOD HBAD;go_wp2_with fail
  refine WI.out.mono ?_
  rintro e w4 ⟨r4, rfl, hf4⟩
  obtain ⟨OA, oc, rfl, hj⟩ := hf4.own.form;have hs4 := Hh (hsrc.below hf4.2);have hbel4 := hbel.trans (hf4.2.mono hbel.size);have hO4 := hf4.own.more (base' := w.heap.size) hbel.size;clear WI hj hf4 hsrc;go_wp2_with (at_builtin; refine stop_in ?_)
  refine wpList_app_bytes rfl (.tmp 24) (.tmp 25) rfl w.heap.size _ I rfl hO4 RA _ rc S rfl rfl hs4.out (by have := HIL.out; have := HEL.out; omega) hbel4.size fun v' w5 hO5 hg5 hat5 => ?_
  have hbel5 := hbel4.grown hg5 hbel4.size (fun q hq => (hO4.lt q hq).1);obtain ⟨VA, vc, rfl, hj⟩ := hO5.form;obtain ⟨T, hT⟩ : ∃ T, I ++ S = T := ⟨_, rfl⟩
  rw [hT] at hO5 E ⊢;have LM := Hh (e_limited (w := w) (w1 := w5) rfl ⟨hO5, hbel5⟩);rw [← E.out] at LM;clear hT hO4 hg5 hat5 hj hO5 hbel5 hbel4 hs4 hbel hG2;go_wp2_with fail
  refine LM.out.mono ?_
  intro e w12 hs
  have hx : ∃ u v : Value, e = .returned (.tuple #[u, v]) ∧ BytesOut w (encErr code x) (.returned (.tuple #[u, v])) w12 := by
   unfold BytesOut at hs ⊢
   cases hr : encErr code x with
   | error q => rw [hr] at hs; obtain ⟨rfl, hb⟩ := hs; exact ⟨_, _, rfl, rfl, hb⟩
   | ok l => rw [hr] at hs; obtain ⟨v, rfl, hf⟩ := hs; exact ⟨_, _, rfl, v, rfl, hf⟩
  obtain ⟨u, v, rfl, hout⟩ := hx;clear LM hs;go_wp2_with fail
  go_ret2
  exact hout
theorem ref_EncodeError {H : Snap} (hTab : Tabs H) (w : World) (hH : Holds w H) {x : Itm} {ja : Option Addr} {jb : Nat} {jc : Option Addr} {jd : Nat} (hx : IsItem H ja jb jc jd x) (code : Int) :
  Calls Tryz.prog 10 #[.int .i64 code, itemV x ja jb jc jd] w (BytesOut w (encErr code x)) := by
 have hB0 := Blk.new w 31 #[.int .i64 x.kind, .int .u64 x.n, .slice ja x.bytes.length jb, .slice jc x.items.length jd];have hG := (Grows.refl hH).alloc (.cells #[.int .i64 x.kind, .int .u64 x.n, .slice ja x.bytes.length jb, .slice jc x.items.length jd] 31);have hB : Blk (w.alloc (.cells #[.int .i64 x.kind, .int .u64 x.n, .slice ja x.bytes.length jb, .slice jc x.items.length jd] 31)) w.heap.size 31 #[.int .i64 x.kind, .int .u64 x.n, .slice ja x.bytes.length jb, .slice jc x.items.length jd] := hB0;have b0 := hB.cell 0 rfl;have b1 := hB.cell 1 rfl;have b2 := hB.cell 2 rfl;have b3 := hB.cell 3 rfl;have VA := Hh (ref_Valid hTab hx.arg (w.alloc (.cells #[.int .i64 x.kind, .int .u64 x.n, .slice ja x.bytes.length jb, .slice jc x.items.length jd] 31)) hG.holds);have HX := Hh hx;have hbel := hG.below;clear hTab hx hH hB0;go_enter Tryz.func10, Tryz.ntmps10
 by_cases c1 : code < 1
 ·have c1d : decide (code < 1) = true := decide_eq_true c1;have E : Hid (encErr code x = .error 1) := by rw [Hid]; exact encErr_no (.inl c1)
  clear VA;go_wp2_with fail
  go_ret2
  exact BytesOut.err (q := 1) E.out rfl hbel
 have c1d : decide (code < 1) = false := decide_eq_false c1
 by_cases c2 : 65535 < code
 ·have c2d : decide (65535 < code) = true := decide_eq_true c2;have E : Hid (encErr code x = .error 1) := by rw [Hid]; exact encErr_no (.inr (.inl c2))
  clear VA;go_wp2_with fail
  go_ret2
  exact BytesOut.err (q := 1) E.out rfl hbel
 have c2d : decide (65535 < code) = false := decide_eq_false c2;go_wp2_with fail
 generalize w.alloc (.cells #[.int .i64 x.kind, .int .u64 x.n, .slice ja x.bytes.length jb, .slice jc x.items.length jd] 31) = w1 at hB hG VA b0 b1 b2 b3 ⊢
 refine VA.out.mono ?_
 rintro e w2 ⟨rfl, hb2⟩
 have hB2 := hB.below hb2;have hG2 := hG.below_ hb2;clear VA b0 b1 b2 b3 hB hG hb2 hbel;have hbel := hG2.below;have b0 := hB2.cell 0 rfl;have b1 := hB2.cell 1 rfl;have b2 := hB2.cell 2 rfl;have b3 := hB2.cell 3 rfl
 cases hv : validP x with
 | false =>
  have E : Hid (encErr code x = .error 1) := by rw [Hid]; exact encErr_no (.inr (.inr hv))
  clear hv;go_wp2_with fail
  go_ret2
  exact BytesOut.err (q := 1) E.out rfl hbel
 | true =>
  have HV := Hh ((validP_iff x).1 hv);obtain ⟨T, hT⟩ : ∃ T, intB code ++ encB x = T := ⟨_, rfl⟩
  have HE : Hid (encErr code x = limited T) := by rw [Hid, ← hT]; exact encErr_ok (by rw [hv]; simp; omega)
  obtain ⟨S, hS⟩ : ∃ S, encB x = S := ⟨_, rfl⟩
  obtain ⟨I, hI⟩ : ∃ I, intB code = I := ⟨_, rfl⟩
  obtain ⟨ls, hls⟩ : ∃ ls, [I, S] = ls := ⟨_, rfl⟩
  have HSS := Hh (And.intro hI hS);have HB := Hh (show I.length ≤ 9 ∧ S.length ≤ 4096 from ⟨by rw [← hI]; exact (intB_le code).2, by rw [← hS]; exact HV.out.2.2⟩);have HLS := Hh hls;have HLT := Hh (show ls.length = 2 ∧ ls.flatten = T by rw [← hls, ← hT, ← hI, ← hS]; simp);have HTL := Hh (show T.length ≤ 5000 by have h1 := HB.out; rw [← hT, List.length_append, hI, hS]; omega);have hc63 := Hh (show -9223372036854775808 ≤ code ∧ code ≤ 9223372036854775807 by omega);clear hv hT hS hI hls c1 c2 c1d c2d hbel;go_upto_region 3 with fail
  have hB := hB2.drew;have hG := hG2.drew;have HLE := Hh (Snap.le.refl H)
  refine wp_region_ways 8 (fun w' => w'.cell? ⟨w.heap.size, 0, none⟩ = some (.int .i64 x.kind) ∧ w'.cell? ⟨w.heap.size, 1, none⟩ = some (.int .u64 x.n) ∧ w'.cell? ⟨w.heap.size, 2, none⟩ = some (.slice ja x.bytes.length jb) ∧ w'.cell? ⟨w.heap.size, 3, none⟩ = some (.slice jc x.items.length jd)) (by kernel_rfl) (⟨b0, b1, b2, b3⟩) (fun hHeld => ?_)
  refine TkS 0 rfl hHeld ?_
  refine TkS 3 rfl hHeld ?_
  refine To 1 rfl fun K hK => ?_
  go_simp
  refine (ref_Int code hc63.out.1 hc63.out.2 _ hG.holds).mono ?_
  rintro e w4 ⟨r2, rfl, ka, kb, kc, kd, H4, rfl, hGn, hi4⟩
  have hB := hB.below hGn.below;have HLE := Hh (HLE.out.trans hGn.le);have hG := hG.trans hGn;clear hGn
  refine hK.out _ _ (fun _ => ?_) (fun hHeld => ?_)
  ·exact ⟨hB.cell 0 rfl, hB.cell 1 rfl, hB.cell 2 rfl, hB.cell 3 rfl⟩
  clear hK K;have hHeld := hHeld (by decide)
  try simp only [Act.put, zz1, zz2, zz3, zz4, zz5, zz6]
  refine To 2 rfl fun K hK => ?_
  go_simp
  refine (ref_RawD _ hG.holds hi4 (good_intP code 0) (show encB (intP code) = I by rw [encB_intP]; exact HSS.out.1) (by have := HB.out; omega)).mono ?_
  rintro e w5 ⟨A0, k0, H5, rfl, hGn, d0⟩
  have hB := hB.below hGn.below;have HLE := Hh (HLE.out.trans hGn.le);have hG := hG.trans hGn;clear hGn
  refine hK.out _ _ (fun _ => ?_) (fun hHeld => ?_)
  ·exact ⟨hB.cell 0 rfl, hB.cell 1 rfl, hB.cell 2 rfl, hB.cell 3 rfl⟩
  clear hK K;have hHeld := hHeld (by decide)
  try simp only [Act.put, zz1, zz2, zz3, zz4, zz5, zz6]
  refine To 4 rfl fun K hK => ?_
  go_simp
  refine (ref_RawD _ hG.holds (HX.out.mono HLE.out) HV.out.1 HSS.out.2 HB.out.2).mono ?_
  rintro e w6 ⟨A1, k1, H6, rfl, hGn, d1⟩
  have hB := hB.below hGn.below;have d0 := d0.mono hGn.le;have HLE := Hh (HLE.out.trans hGn.le);have hG := hG.trans hGn;clear hGn
  refine hK.out _ _ (fun _ => ?_) (fun hHeld => ?_)
  ·exact ⟨hB.cell 0 rfl, hB.cell 1 rfl, hB.cell 2 rfl, hB.cell 3 rfl⟩
  clear hK K;have hHeld := hHeld (by decide)
  try simp only [Act.put, zz1, zz2, zz3, zz4, zz5, zz6]
  refine To 5 rfl fun K hK => ?_
  go_simp
  obtain ⟨H17, hG17, hl17, hr17⟩ := lit_row (L := lieB) hG ((RowC.one (L := lieB) (H := H6) ⟨A0, k0, rfl, d0⟩).app (RowC.one (L := lieB) (H := H6) ⟨A1, k1, rfl, d1⟩) : RowC lieB H6 [.slice A0 I.length k0, .slice A1 S.length k1] [I, S]) 23 (by simp);replace hr17 : IsRow lieB H17 (some ⟨w6.heap.size, 0, none⟩) 2 [I, S] := hr17;rw [HLS.out] at hr17;have hB := hB.alloc (.cells #[.slice A0 I.length k0, .slice A1 S.length k1] 23);have hG : Grows w H (w6.alloc (.cells #[.slice A0 I.length k0, .slice A1 S.length k1] 23)) H17 := hG17;clear hG17 hl17 d0 d1
  refine hK.out _ _ (fun _ => ?_) (fun hHeld => ?_)
  ·exact ⟨hB.cell 0 rfl, hB.cell 1 rfl, hB.cell 2 rfl, hB.cell 3 rfl⟩
  clear hK K;have hHeld := hHeld (by decide)
  try simp only [Act.put, zz1, zz2, zz3, zz4, zz5, zz6]
  refine To 6 rfl fun K hK => ?_
  go_simp
  have JN := ref_Join (c := 2) HLT.out.1.symm (by rw [HLT.out.1]; omega) (by rw [HLT.out.2]; have := HTL.out; omega) _ (hr17.srcR hG.holds);rw [HLT.out.2] at JN
  refine JN.mono ?_
  rintro e w18 ⟨r18, rfl, hf18⟩
  obtain ⟨TA, tc, rfl, hjunk⟩ := hf18.own.form;have hB := hB.below hf18.2;have hf := Fresh.step_ hG.below hf18;clear JN hjunk hf18 hr17 hG
  refine hK.out _ _ (fun _ => ?_) (fun hHeld => ?_)
  ·exact ⟨hB.cell 0 rfl, hB.cell 1 rfl, hB.cell 2 rfl, hB.cell 3 rfl⟩
  clear hK K;have hHeld := hHeld (by decide)
  try simp only [Act.put, zz1, zz2, zz3, zz4, zz5, zz6]
  refine TkS 7 rfl hHeld ?_
  refine Ways.done (by kernel_rfl) ?_
  clear hB;obtain ⟨tn, htn⟩ : ∃ tn, T.length = tn := ⟨_, rfl⟩
  have HTN := Hh htn;rw [htn] at hf ⊢;clear htn
  by_cases h6 : 600 < tn
  ·have z : (600 : Int) < (tn : Int) := by omega
   have zd : decide ((600 : Int) < (tn : Int)) = true := decide_eq_true z;have E : Hid (encErr code x = .error 1) := by rw [Hid, HE.out, limited, if_pos (by rw [HTN.out]; exact h6)]
   clear h6;go_wp2_with fail
   go_ret2
   exact BytesOut.err (q := 1) E.out rfl hf.2
  ·have z : ¬ ((600 : Int) < (tn : Int)) := by omega
   have zd : decide ((600 : Int) < (tn : Int)) = false := decide_eq_false z;have E : Hid (encErr code x = .ok T) := by rw [Hid, HE.out, limited, if_neg (by rw [HTN.out]; exact h6)]
   clear h6;go_wp2_with fail
   go_ret2
   exact BytesOut.ok E.out rfl hf
end Go.Proofs.YtlebpackbfcfeaaGreatDoor
