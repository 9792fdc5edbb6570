/- squeezed. Walks: writing external data. Walk -/
import Derived.Test.YtlebpackbfcfeaaDoorK37
import Derived.Test.YtlebpackbfcfeaaDoorK13
set_option linter.unusedVariables false
set_option linter.unusedSimpArgs false
set_option maxRecDepth 100000
set_option maxHeartbeats 6400000
namespace Go.Proofs.YtlebpackbfcfeaaDoor
open Go.RowKit
theorem e_EncodeExt {H : Snap} (w : World) (hH : Holds w H) {A : Option Addr} {c : Nat} {l : List Ext} (hr : IsRow lieE H A c l) :
  Calls Tryd.prog 16 #[.slice A l.length c] w (BytesOut w (encExt l)) := by
 have GE := Hh (e_goodExt w hH hr)
 by_cases hg : goodExt l = true
 case neg =>
  have hg' : goodExt l = false := by simpa using hg
  rw [hg'] at GE
  have E : Hid (encExt l = .error 1) := by rw [Hid, encExt, if_neg hg]
  clear hg hg'
  go_enter Tryd.func16, Tryd.ntmps16
  go_wp2_with fail
  refine GE.out.mono ?_
  rintro e w1 ⟨rfl, hb1⟩
  go_wp2_with fail
  go_ret2
  exact BytesOut.err E.out rfl hb1
 have HG := Hh ((goodExt_iff l).1 hg)
 have HB := Hh (show ∀ x ∈ l, -65535 ≤ x.label ∧ x.label ≤ 65535 ∧ x.val.length ≤ 600 from fun x hx => by have := (extOk_iff x).1 (((goodExt_iff l).1 hg).2 x hx); exact ⟨this.1, this.2.1, this.2.2.1⟩)
 have E : Hid (encExt l = .ok (extsB l)) := by rw [Hid, encExt, if_pos hg]
 rw [hg] at GE
 have HLL := Hh (show l.length ≤ 100 by have := HG.out.1; omega)
 have HR := Hh hr
 have HH := Hh hH
 clear hg hr hH
 go_enter Tryd.func16, Tryd.ntmps16
 go_wp2_with fail
 refine GE.out.mono ?_
 rintro e w1 ⟨rfl, hb1⟩
 go_wp2_with fail
 go_loopw [4, 12] (fun vo vk wr => ∃ (k : Nat) (VA : Option Addr) (vc vn : Nat), k ≤ l.length ∧ vk = .int .i64 (k : Int) ∧ vo = .slice VA vn vc ∧ vn = (extsB (l.take k)).length ∧ OwnB wr w.heap.size (.slice VA vn vc) (extsB (l.take k)) ∧ Below w.heap.size w wr) (fun _ vk _ => l.length - (intOf vk).toNat)
 case atStart => exact ⟨0, none, 0, 0, Nat.zero_le _, rfl, rfl, rfl, OwnB.nil _ _, hb1⟩
 case round =>
  clear hb1
  obtain ⟨k, VA, vc, vn, hk, rfl, rfl, rfl, hOr, hbr⟩ := hrel
  have HKK := Hh hk
  clear hk
  by_cases hkl : k < l.length
  ·have hki : (k : Int) < (l.length : Int) := by omega
   obtain ⟨b, off, rfl, hat⟩ := HR.out.at_ (by omega)
   obtain ⟨d, hd, hc⟩ := hat k hkl
   obtain ⟨YA, yc, rfl, hyb⟩ := hd
   have hHr := HH.out.below hbr (Nat.le_refl _)
   have HBX := Hh (HB.out l[k] (List.getElem_mem hkl))
   have HTK := Hh (extsB_take l k hkl)
   have hLE := extsB_le (l.take k) (fun y hy => by have := (HB.out y (List.mem_of_mem_take hy)).2.2; omega)
   rw [List.length_take] at hLE
   have HLE : Hid ((extsB (l.take k)).length ≤ 109960000) := by have := HLL.out; rw [Hid]; omega
   obtain ⟨x, hx⟩ : ∃ x, l[k] = x := ⟨_, rfl⟩
   rw [hx] at hc hyb HBX HTK
   obtain ⟨yl, yh, yv⟩ := x
   simp only at HBX
   obtain ⟨S, hS⟩ : ∃ S, extsB (l.take k) = S := ⟨_, rfl⟩
   rw [hS] at hOr HLE HTK ⊢
   have q0 : wr.cell? ⟨b, off + k * 3, none⟩ = some (.int .i64 yl) := hHr.cell (hc 0 _ rfl)
   have q1 : wr.cell? ⟨b, off + k * 3 + 1, none⟩ = some (.bool yh) := hHr.cell (hc 1 _ rfl)
   have q2 : wr.cell? ⟨b, off + k * 3 + 2, none⟩ = some (.slice YA yv.length yc) := hHr.cell (hc 2 _ rfl)
   have hT0 := Blk.new wr 62 #[.int .i64 0, .bool false, .slice none 0 0]
   have hO1 := hOr.alloc (.cells #[.int .i64 0, .bool false, .slice none 0 0] 62)
   have HK := Hh hkl
   have HYB := Hh hyb
   have hnc : (l.length : Int) ≤ (c : Int) := by have := HR.out.le; omega
   have hk63 : (k : Int) + 1 ≤ 9223372036854775807 := by have := HLL.out; omega
   have hol := Hh (show ∀ q, (Value.slice VA S.length vc).ownBlock = some q → q < wr.heap.size from fun q hq => (hOr.lt q hq).2)
   clear hkl hat hc hHr hx hyb hOr hS hLE
   go_wp2_with (with_reducible refine stop_store ?_)
   unfold Stopped
   refine wpList_store_item rfl _ _ _ rfl rfl _ _ rfl rfl _ _ hT0 size_ext rfl (one3 _ _ _ rfl rfl rfl) fun w3 hT3 hg3 => ?_
   have hb3 := below_of_grown (hbr.alloc hbr.size (.cells #[.int .i64 0, .bool false, .slice none 0 0] 62)) hg3 (by rintro q ⟨⟩; exact hbr.size)
   have hO3 := hO1.kept hg3 (by
    cases hv : (Value.slice VA S.length vc).ownBlock with
    | none => exact .inl rfl
    | some q => exact .inr (fun e => by injection e with e; have := hol.out q hv; omega))
   have hH3 := HH.out.below hb3 (Nat.le_refl _)
   have b0 := hT3.cell 0 rfl
   have b1 := hT3.cell 1 rfl
   have b2 := hT3.cell 2 rfl
   clear hT0 hg3 q0 q1 q2 hO1 hbr
   have WI := Hh (fun w => wire_Int yl (by have := HBX.out.1; omega) (by have := HBX.out.2.1; omega) w)
   go_wp2_with fail
   refine (WI.out _).mono ?_
   rintro e w4 ⟨r4, rfl, hf4⟩
   have hO4 := hO3.below hf4.2
   have hb4 := hb3.trans (hf4.2.mono hb3.size)
   have hT4 := hT3.below hf4.2
   obtain ⟨RA, rc, rfl, _, _, hsrc⟩ := hf4.own.form
   clear hf4 hO3 hT3 b0 b1 b2 hb3 hH3
   have b0 := hT4.cell 0 rfl
   have b1 := hT4.cell 1 rfl
   have b2 := hT4.cell 2 rfl
   go_wp2_with (at_builtin; refine stop_in ?_)
   unfold Stopped
   refine wpList_app_bytes rfl (.tmp 16) (.tmp 19) rfl w.heap.size _ _ rfl hO4 _ _ _ (intB yl) rfl rfl hsrc (by have := HLE.out; have := (intB_le yl).2; omega) hb4.size fun v' w5 hO5 hg5 hat5 => ?_
   have hb5 := hb4.grown hg5 hb4.size (fun q hq => (hO4.lt q hq).1)
   obtain ⟨VA2, vc2, rfl, _⟩ := hO5.form
   have hH5 := HH.out.below hb5 (Nat.le_refl _)
   have hT5 := hT4.grown hg5 (fun e => by have := hol.out _ e; have := hT4.lt; first | omega | (rw [e] at *; omega))
   clear hO4 hg5 hat5 hsrc hT4 b0 b1 b2 hb4
   have b0 := hT5.cell 0 rfl
   have b1 := hT5.cell 1 rfl
   have b2 := hT5.cell 2 rfl
   obtain ⟨S2, hS2⟩ : ∃ S2, S ++ intB yl = S2 := ⟨_, rfl⟩
   rw [hS2] at hO5 ⊢
   have HS2 := Hh hS2
   have HLE2 : Hid (S2.length ≤ 109960009) := by have := HLE.out; have := (intB_le yl).2; rw [Hid, ← hS2, List.length_append]; omega
   clear hS2
   cases yh with
   | false =>
    have HT2 : Hid (extsB (l.take (k + 1)) = S2) := by rw [Hid, HTK.out, extB, ← HS2.out]; simp
    go_wp2_with fail
    go_roundw
    case rel => exact ⟨k + 1, VA2, vc2, _, HK.out, by go_num, rfl, by rw [HT2.out], by rw [HT2.out]; exact hO5, hb5⟩
    case measure => have := HK.out; simp [intOf]; omega
   | true =>
    have ST := Hh (wire_Str (c := yc) (l := yv) (A := YA) rfl (by have := HBX.out.2.2; omega) w5 (Src.of_row HYB.out.row hH5))
    go_wp2_with fail
    refine ST.out.mono ?_
    rintro e w6 ⟨r6, rfl, hf6⟩
    have hO6 := hO5.below hf6.2
    have hb6 := hb5.trans (hf6.2.mono hb5.size)
    obtain ⟨RA6, rc6, rfl, _, _, hsrc6⟩ := hf6.own.form
    clear hf6 hO5 hb5 hH5
    go_wp2_with (at_builtin; refine stop_in ?_)
    unfold Stopped
    refine wpList_app_bytes rfl (.tmp 23) (.tmp 26) rfl w.heap.size _ _ rfl hO6 _ _ _ (strB yv) rfl rfl hsrc6 (by have := HLE2.out; have := strB_le yv; have := HBX.out.2.2; omega) hb6.size fun v' w7 hO7 hg7 hat7 => ?_
    have hb7 := hb6.grown hg7 hb6.size (fun q hq => (hO6.lt q hq).1)
    obtain ⟨VA3, vc3, rfl, _⟩ := hO7.form
    have HT2 : Hid (extsB (l.take (k + 1)) = S2 ++ strB yv) := by rw [Hid, HTK.out, extB, ← HS2.out]; simp
    obtain ⟨S3, hS3⟩ : ∃ S3, S2 ++ strB yv = S3 := ⟨_, rfl⟩
    rw [hS3] at hO7 HT2 ⊢
    clear hO6 hg7 hat7 hsrc6 hb6 hS3
    go_wp2_with fail
    go_roundw
    case rel => exact ⟨k + 1, VA3, vc3, _, HK.out, by go_num, rfl, by rw [HT2.out], by rw [HT2.out]; exact hO7, hb7⟩
    case measure => have := HK.out; simp [intOf]; omega
  ·have hke : ¬ ((k : Int) < (l.length : Int)) := by omega
   have hke' : decide ((k : Int) < (l.length : Int)) = false := decide_eq_false hke
   have hkk : k = l.length := by have := HKK.out; omega
   have HT : Hid (extsB (l.take k) = extsB l) := by rw [Hid, hkk, List.take_length]
   rw [HT.out] at hOr ⊢
   clear hkl hkk
   go_wp2_with fail
   go_ret2
   exact BytesOut.ok E.out rfl ⟨hOr, hbr⟩
theorem ref_RawExt {H : Snap} (w : World) (hH : Holds w H) {A : Option Addr} {c : Nat} {l : List Ext} (hr : IsRow lieE H A c l) (hll : l.length ≤ 100) (hB : ∀ x ∈ l, -65535 ≤ x.label ∧ x.label ≤ 65535 ∧ x.val.length ≤ 600) :
  Calls Tryd.prog 11 #[.slice A l.length c] w fun e w' => ∃ r, e = .returned r ∧ Fresh w (extsB l) r w' := by
 have HB := Hh hB
 have HLL := Hh hll
 have HR := Hh hr
 have HH := Hh hH
 have hb1 := Below.refl w.heap.size w
 clear hr hH hB hll
 go_enter Tryd.func11, Tryd.ntmps11
 go_wp2_with fail
 go_loopw [3, 8] (fun vo vk wr => ∃ (k : Nat) (VA : Option Addr) (vc vn : Nat), k ≤ l.length ∧ vk = .int .i64 (k : Int) ∧ vo = .slice VA vn vc ∧ vn = (extsB (l.take k)).length ∧ OwnB wr w.heap.size (.slice VA vn vc) (extsB (l.take k)) ∧ Below w.heap.size w wr) (fun _ vk _ => l.length - (intOf vk).toNat)
 case atStart => exact ⟨0, none, 0, 0, Nat.zero_le _, rfl, rfl, rfl, OwnB.nil _ _, hb1⟩
 case round =>
  clear hb1
  obtain ⟨k, VA, vc, vn, hk, rfl, rfl, rfl, hOr, hbr⟩ := hrel
  have HKK := Hh hk
  clear hk
  by_cases hkl : k < l.length
  ·have hki : (k : Int) < (l.length : Int) := by omega
   obtain ⟨b, off, rfl, hat⟩ := HR.out.at_ (by omega)
   obtain ⟨d, hd, hc⟩ := hat k hkl
   obtain ⟨YA, yc, rfl, hyb⟩ := hd
   have hHr := HH.out.below hbr (Nat.le_refl _)
   have HBX := Hh (HB.out l[k] (List.getElem_mem hkl))
   have HTK := Hh (extsB_take l k hkl)
   have hLE := extsB_le (l.take k) (fun y hy => by have := (HB.out y (List.mem_of_mem_take hy)).2.2; omega)
   rw [List.length_take] at hLE
   have HLE : Hid ((extsB (l.take k)).length ≤ 109960000) := by have := HLL.out; rw [Hid]; omega
   obtain ⟨x, hx⟩ : ∃ x, l[k] = x := ⟨_, rfl⟩
   rw [hx] at hc hyb HBX HTK
   obtain ⟨yl, yh, yv⟩ := x
   simp only at HBX
   obtain ⟨S, hS⟩ : ∃ S, extsB (l.take k) = S := ⟨_, rfl⟩
   rw [hS] at hOr HLE HTK ⊢
   have q0 : wr.cell? ⟨b, off + k * 3, none⟩ = some (.int .i64 yl) := hHr.cell (hc 0 _ rfl)
   have q1 : wr.cell? ⟨b, off + k * 3 + 1, none⟩ = some (.bool yh) := hHr.cell (hc 1 _ rfl)
   have q2 : wr.cell? ⟨b, off + k * 3 + 2, none⟩ = some (.slice YA yv.length yc) := hHr.cell (hc 2 _ rfl)
   have hT0 := Blk.new wr 62 #[.int .i64 0, .bool false, .slice none 0 0]
   have hO1 := hOr.alloc (.cells #[.int .i64 0, .bool false, .slice none 0 0] 62)
   have HK := Hh hkl
   have HYB := Hh hyb
   have hnc : (l.length : Int) ≤ (c : Int) := by have := HR.out.le; omega
   have hk63 : (k : Int) + 1 ≤ 9223372036854775807 := by have := HLL.out; omega
   have hol := Hh (show ∀ q, (Value.slice VA S.length vc).ownBlock = some q → q < wr.heap.size from fun q hq => (hOr.lt q hq).2)
   clear hkl hat hc hHr hx hyb hOr hS hLE
   go_wp2_with (with_reducible refine stop_store ?_)
   unfold Stopped
   refine wpList_store_item rfl _ _ _ rfl rfl _ _ rfl rfl _ _ hT0 size_ext rfl (one3 _ _ _ rfl rfl rfl) fun w3 hT3 hg3 => ?_
   have hb3 := below_of_grown (hbr.alloc hbr.size (.cells #[.int .i64 0, .bool false, .slice none 0 0] 62)) hg3 (by rintro q ⟨⟩; exact hbr.size)
   have hO3 := hO1.kept hg3 (by
    cases hv : (Value.slice VA S.length vc).ownBlock with
    | none => exact .inl rfl
    | some q => exact .inr (fun e => by injection e with e; have := hol.out q hv; omega))
   have hH3 := HH.out.below hb3 (Nat.le_refl _)
   have b0 := hT3.cell 0 rfl
   have b1 := hT3.cell 1 rfl
   have b2 := hT3.cell 2 rfl
   clear hT0 hg3 q0 q1 q2 hO1 hbr
   have WI := Hh (fun (w : World) (hW : Holds w H) => ref_Int yl (by have := HBX.out.1; omega) (by have := HBX.out.2.1; omega) w hW)
   go_wp2_with fail
   refine (WI.out w3 hH3).mono ?_
   rintro e w3b ⟨v, rfl, ja, jb, jc, jd, Hz, rfl, hGz, hiz⟩
   have hb3b : Below w3.heap.size w3 w3b := hGz.below
   have hO3 := hO3.below hb3b
   have hT3 := hT3.below hb3b
   have hb3 := hb3.trans (hb3b.mono hb3.size)
   have hH3 := HH.out.below hb3 (Nat.le_refl _)
   have RW := Hh (ref_Raw (intP yl) Hz _ _ ja _ jb jc _ jd w3b 0 (good_intP yl 0) (by rw [encB_intP]; have := (intB_le yl).2; omega) hiz.arg hGz.holds)
   rw [encB_intP] at RW
   clear b0 b1 b2
   have b0 := hT3.cell 0 rfl
   have b1 := hT3.cell 1 rfl
   have b2 := hT3.cell 2 rfl
   generalize hIP : intP yl = ip at RW hiz ⊢
   clear hIP
   go_wp2_with fail
   refine RW.out.mono ?_
   rintro e w4 ⟨r4, rfl, hf4⟩
   have hO4 := hO3.below hf4.2
   have hb4 := hb3.trans (hf4.2.mono hb3.size)
   have hT4 := hT3.below hf4.2
   obtain ⟨RA, rc, rfl, _, _, hsrc⟩ := hf4.own.form
   clear hf4 hO3 hT3 b0 b1 b2 hb3 hH3
   have b0 := hT4.cell 0 rfl
   have b1 := hT4.cell 1 rfl
   have b2 := hT4.cell 2 rfl
   go_wp2_with (at_builtin; refine stop_in ?_)
   unfold Stopped
   refine wpList_app_bytes rfl (.tmp 12) (.tmp 16) rfl w.heap.size _ _ rfl hO4 _ _ _ (intB yl) rfl rfl hsrc (by have := HLE.out; have := (intB_le yl).2; omega) hb4.size fun v' w5 hO5 hg5 hat5 => ?_
   have hb5 := hb4.grown hg5 hb4.size (fun q hq => (hO4.lt q hq).1)
   obtain ⟨VA2, vc2, rfl, _⟩ := hO5.form
   have hH5 := HH.out.below hb5 (Nat.le_refl _)
   have hT5 := hT4.grown hg5 (fun e => by have := hol.out _ e; have := hT4.lt; first | omega | (rw [e] at *; omega))
   clear hO4 hg5 hat5 hsrc hT4 b0 b1 b2 hb4
   have b0 := hT5.cell 0 rfl
   have b1 := hT5.cell 1 rfl
   have b2 := hT5.cell 2 rfl
   obtain ⟨S2, hS2⟩ : ∃ S2, S ++ intB yl = S2 := ⟨_, rfl⟩
   rw [hS2] at hO5 ⊢
   have HS2 := Hh hS2
   have HLE2 : Hid (S2.length ≤ 109960009) := by have := HLE.out; have := (intB_le yl).2; rw [Hid, ← hS2, List.length_append]; omega
   clear hS2
   cases yh with
   | false =>
    have HT2 : Hid (extsB (l.take (k + 1)) = S2) := by rw [Hid, HTK.out, extB, ← HS2.out]; simp
    go_wp2_with fail
    go_roundw
    case rel => exact ⟨k + 1, VA2, vc2, _, HK.out, by go_num, rfl, by rw [HT2.out], by rw [HT2.out]; exact hO5, hb5⟩
    case measure => have := HK.out; simp [intOf]; omega
   | true =>
    have ST := Hh (ref_Str (c := yc) (l := yv) (A := YA) rfl (by have := HBX.out.2.2; omega) w5 (Src.of_row HYB.out.row hH5))
    go_wp2_with fail
    refine ST.out.mono ?_
    rintro e w6 ⟨r6, rfl, hf6⟩
    have hO6 := hO5.below hf6.2
    have hb6 := hb5.trans (hf6.2.mono hb5.size)
    obtain ⟨RA6, rc6, rfl, _, _, hsrc6⟩ := hf6.own.form
    clear hf6 hO5 hb5 hH5
    go_wp2_with (at_builtin; refine stop_in ?_)
    unfold Stopped
    refine wpList_app_bytes rfl (.tmp 20) (.tmp 23) rfl w.heap.size _ _ rfl hO6 _ _ _ (strB yv) rfl rfl hsrc6 (by have := HLE2.out; have := strB_le yv; have := HBX.out.2.2; omega) hb6.size fun v' w7 hO7 hg7 hat7 => ?_
    have hb7 := hb6.grown hg7 hb6.size (fun q hq => (hO6.lt q hq).1)
    obtain ⟨VA3, vc3, rfl, _⟩ := hO7.form
    have HT2 : Hid (extsB (l.take (k + 1)) = S2 ++ strB yv) := by rw [Hid, HTK.out, extB, ← HS2.out]; simp
    obtain ⟨S3, hS3⟩ : ∃ S3, S2 ++ strB yv = S3 := ⟨_, rfl⟩
    rw [hS3] at hO7 HT2 ⊢
    clear hO6 hg7 hat7 hsrc6 hb6 hS3
    go_wp2_with fail
    go_roundw
    case rel => exact ⟨k + 1, VA3, vc3, _, HK.out, by go_num, rfl, by rw [HT2.out], by rw [HT2.out]; exact hO7, hb7⟩
    case measure => have := HK.out; simp [intOf]; omega
  ·have hke : ¬ ((k : Int) < (l.length : Int)) := by omega
   have hke' : decide ((k : Int) < (l.length : Int)) = false := decide_eq_false hke
   have hkk : k = l.length := by have := HKK.out; omega
   have HT : Hid (extsB (l.take k) = extsB l) := by rw [Hid, hkk, List.take_length]
   rw [HT.out] at hOr ⊢
   clear hkl hkk
   go_wp2_with fail
   go_ret
   exact ⟨_, rfl, hOr, hbr⟩
theorem rowI_at {H : Snap} {A : Option Addr} {c : Nat} {l : List Int} (h : IsRow lieI H A c l) (h0 : 0 < l.length) : ∃ b off, A = some ⟨b, off, none⟩ ∧ ∀ j, j < l.length → H.cell? ⟨b, off + j, none⟩ = some (.int .i64 (l.getD j 0)) := by
 obtain ⟨b, off, e, hc⟩ := h.at_ h0
 refine ⟨b, off, e, fun j hj => ?_⟩
 obtain ⟨d, hd, hv⟩ := hc j hj
 have hd' : d = [.int .i64 l[j]] := hd
 subst hd'
 have := hv 0 _ rfl
 rw [show j * lieI.k + 0 = j from by show j * 1 + 0 = j; omega] at this
 rw [this, getD_lt hj]
theorem e_goodSuites {H : Snap} (w : World) (hH : Holds w H) {A : Option Addr} {n c : Nat} {l : List Int} (hn : n = l.length) (hr : IsRow lieI H A c l) :
  Calls Tryd.prog 47 #[.slice A n c] w fun e w' => e = .returned (.bool (goodSuites l)) ∧ w' = w := by
 by_cases h0 : n = 0
 ·subst h0
  have E : Hid (goodSuites l = false) := by rw [Hid]; exact goodSuites_no (by omega)
  clear hn
  go_enter Tryd.func47, Tryd.ntmps47
  go_wp2_with fail
  go_ret
  exact ⟨by rw [E.out]; try rfl, rfl⟩
 have z1 : ¬ ((n : Int) < 1) := by omega
 have z1d : decide ((n : Int) < 1) = false := decide_eq_false z1
 by_cases h8 : 8 < n
 ·have z8 : (8 : Int) < (n : Int) := by omega
  have z8d : decide ((8 : Int) < (n : Int)) = true := decide_eq_true z8
  have E : Hid (goodSuites l = false) := by rw [Hid]; exact goodSuites_no (by omega)
  clear hn h8 h0
  go_enter Tryd.func47, Tryd.ntmps47
  go_wp2_with fail
  go_ret
  exact ⟨by rw [E.out]; try rfl, rfl⟩
 have z8 : ¬ ((8 : Int) < (n : Int)) := by omega
 have z8d : decide ((8 : Int) < (n : Int)) = false := decide_eq_false z8
 obtain ⟨b, off, rfl, hat⟩ := rowI_at hr (by omega)
 have HAT := Hh (show ∀ j, j < n → w.cell? ⟨b, off + j, none⟩ = some (.int .i64 (l.getD j 0)) from fun j hj => hH.cell (hat j (by omega)))
 have HN := Hh (show n = l.length ∧ n ≠ 0 ∧ n ≤ 8 ∧ n ≤ c from ⟨hn, h0, by omega, by have := hr.le; omega⟩)
 have hn8 : (n : Int) ≤ 8 := by omega
 have hncI : (n : Int) ≤ (c : Int) := by have := HN.out.2.2.2; omega
 clear hat hn hr h0 h8 z8
 go_enter Tryd.func47, Tryd.ntmps47
 go_wp2_with fail
 go_loopw [17] (fun v17 wr => wr = w ∧ ∃ i : Nat, i ≤ n ∧ v17 = .int .i64 (i : Int) ∧ (∀ j, j < i → 0 ≤ l.getD j 0 ∧ l.getD j 0 ≤ 65535) ∧ (∀ i' j, j < i' → i' < i → l.getD j 0 ≠ l.getD i' 0)) (fun v17 _ => n - (intOf v17).toNat)
 case atStart => exact ⟨rfl, 0, Nat.zero_le _, rfl, fun j hj => absurd hj (by omega), fun i j _ hi => absurd hi (by omega)⟩
 case round =>
  obtain ⟨rfl, i, hi, rfl, hrng, hne⟩ := hrel
  have HRNG := Hh hrng
  have HNE := Hh hne
  have HI := Hh hi
  clear hrng hne hi
  by_cases hin : i < n
  ·have hii : (i : Int) < (n : Int) := by omega
   have q0 := HAT.out i hin
   obtain ⟨v, hv⟩ : ∃ v, l.getD i 0 = v := ⟨_, rfl⟩
   rw [hv] at q0
   have HV := Hh hv
   have HIN := Hh hin
   have hi63 : (i : Int) + 1 ≤ 9223372036854775807 := by omega
   have hi0 : (0 : Int) ≤ (i : Int) := by omega
   have hic : (i : Int) ≤ (c : Int) := by omega
   clear hv hin
   by_cases c1 : v < 0
   ·have c1d : decide (v < 0) = true := decide_eq_true c1
    have E : Hid (goodSuites l = false) := by rw [Hid]; exact goodSuites_no (by intro h; have := (h.2.2.1 i (by have := HN.out; have := HIN.out; omega)).1; rw [HV.out] at this; omega)
    go_wp2_with fail
    go_ret
    exact ⟨by rw [E.out]; try rfl, rfl⟩
   have c1d : decide (v < 0) = false := decide_eq_false c1
   by_cases c2 : 65535 < v
   ·have c2d : decide (65535 < v) = true := decide_eq_true c2
    have E : Hid (goodSuites l = false) := by rw [Hid]; exact goodSuites_no (by intro h; have := (h.2.2.1 i (by have := HN.out; have := HIN.out; omega)).2; rw [HV.out] at this; omega)
    go_wp2_with fail
    go_ret
    exact ⟨by rw [E.out]; try rfl, rfl⟩
   have c2d : decide (65535 < v) = false := decide_eq_false c2
   have HC := Hh (And.intro c1 c2)
   clear c1 c2
   go_wp2_with fail
   go_loopw [32] (fun v32 wx => wx = wr ∧ ∃ j : Nat, j ≤ i ∧ v32 = .int .i64 (j : Int) ∧ (∀ j', j' < j → l.getD j' 0 ≠ v)) (fun v32 _ => i - (intOf v32).toNat)
   case atStart => exact ⟨rfl, 0, Nat.zero_le _, rfl, fun j hj => absurd hj (by omega)⟩
   case round =>
    obtain ⟨rfl, j, hj, rfl, hnej⟩ := hrel
    have HNEJ := Hh hnej
    have HJ := Hh hj
    clear hnej hj
    by_cases hji : j < i
    ·have hjI : (j : Int) < (i : Int) := by omega
     have p0 := HAT.out j (by have := HIN.out; omega)
     obtain ⟨u, hu⟩ : ∃ u, l.getD j 0 = u := ⟨_, rfl⟩
     rw [hu] at p0
     have HU := Hh hu
     have HJI := Hh hji
     have hj63 : (j : Int) + 1 ≤ 9223372036854775807 := by omega
     clear hu hji
     by_cases huv : u = v
     ·have d1 : (u == v) = true := by rw [beq_iff_eq]; exact huv
      have d2 : (u = v) = True := eq_true huv
      have E : Hid (goodSuites l = false) := by
       rw [Hid]
       refine goodSuites_no (fun h => ?_)
       have h1 := twice_yes (l := l) (i := i) (j := j) HJI.out (by have := HN.out; have := HIN.out; omega) (by rw [HU.out, HV.out]; exact huv)
       rw [h1] at h; cases h.2.2.2
      clear huv
      go_wp2_with fail
      go_ret
      exact ⟨by rw [E.out]; try rfl, rfl⟩
     ·have d1 : (u == v) = false := by rw [beq_eq_false_iff_ne]; exact huv
      have d2 : (u = v) = False := eq_false huv
      have HUV := Hh huv
      clear huv
      go_wp2_with fail
      go_roundw
      case rel => exact ⟨by trivial, j + 1, HJI.out, by go_num, fun j' hj' => by
       rcases Nat.lt_succ_iff_lt_or_eq.1 hj' with h | h
       ·exact HNEJ.out j' h
       ·subst h; rw [HU.out]; exact HUV.out⟩
      case measure => have := HJI.out; simp [intOf]; omega
    ·have hjI : ¬ ((j : Int) < (i : Int)) := by omega
     have hjd : decide ((j : Int) < (i : Int)) = false := decide_eq_false hjI
     have hje : j = i := by have := HJ.out; omega
     have HJE := Hh hje
     clear hji hje
     go_wp2_with fail
     go_roundw
     case rel => exact ⟨by trivial, i + 1, HIN.out, by go_num, fun j' hj' => by
       rcases Nat.lt_succ_iff_lt_or_eq.1 hj' with h | h
       ·exact HRNG.out j' h
       ·subst h; rw [HV.out]; have := HC.out; omega, fun i' j' h1 h2 => by
       rcases Nat.lt_succ_iff_lt_or_eq.1 h2 with h | h
       ·exact HNE.out i' j' h1 h
       ·subst h; rw [HV.out]; exact HNEJ.out j' (by rw [HJE.out]; exact h1)⟩
     case measure => have := HIN.out; simp [intOf]; omega
  ·have hii : ¬ ((i : Int) < (n : Int)) := by omega
   have hid : decide ((i : Int) < (n : Int)) = false := decide_eq_false hii
   have E : Hid (goodSuites l = true) := by
    have h1 := HN.out
    have h2 := HI.out
    rw [Hid, goodSuites_iff]
    exact ⟨by omega, by omega, fun j hj => HRNG.out j (by omega), twice_no fun i' j' ha hb => HNE.out i' j' ha (by omega)⟩
   clear hin
   go_wp2_with fail
   go_ret
   exact ⟨by rw [E.out]; try rfl, rfl⟩
theorem e_limited {w w1 : World} {A : Option Addr} {n c : Nat} {l : List UInt8} (hn : n = l.length) (hf : Fresh w l (.slice A n c) w1) :
  Calls Tryd.prog 50 #[.slice A n c] w1 (BytesOut w (limited l)) := by
 by_cases h : 600 < n
 ·have z : (600 : Int) < (n : Int) := by omega
  have zd : decide ((600 : Int) < (n : Int)) = true := decide_eq_true z
  have E : Hid (limited l = .error 1) := by rw [Hid, limited, if_pos (by omega)]
  clear h hn
  go_enter Tryd.func50, Tryd.ntmps50
  go_wp2_with fail
  go_ret2
  exact BytesOut.err E.out rfl hf.2
 ·have z : ¬ ((600 : Int) < (n : Int)) := by omega
  have zd : decide ((600 : Int) < (n : Int)) = false := decide_eq_false z
  have E : Hid (limited l = .ok l) := by rw [Hid, limited, if_neg (by omega)]
  clear h hn
  go_enter Tryd.func50, Tryd.ntmps50
  go_wp2_with fail
  go_ret2
  exact BytesOut.ok E.out rfl hf
end Go.Proofs.YtlebpackbfcfeaaDoor
