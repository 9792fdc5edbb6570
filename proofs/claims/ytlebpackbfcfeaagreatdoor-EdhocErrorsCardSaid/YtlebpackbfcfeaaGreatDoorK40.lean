/- squeezed. Walks: which external data are val -/
import Derived.Test.YtlebpackbfcfeaaGreatDoorK39
import Derived.Test.YtlebpackbfcfeaaGreatDoorK20
import Derived.Test.YtlebpackbfcfeaaGreatDoorK11
set_option linter.unusedVariables false
set_option linter.unusedSimpArgs false
set_option maxRecDepth 100000
set_option maxHeartbeats 12800000
namespace Go.Proofs.YtlebpackbfcfeaaGreatDoor
open Go.RowKit
theorem size_ext : (Tryz.prog.info? 101).map (·.size) = some 3 := by kernel_rfl
theorem e_goodExt {H : Snap} (w : World) (hH : Holds w H) {A : Option Addr} {c : Nat} {l : List Ext} (hr : IsRow lieE H A c l) :
  Calls Tryz.prog 62 #[.slice A l.length c] w fun e w' => e = .returned (.bool (goodExt l)) ∧ Below w.heap.size w w' := by
 by_cases h4 : 4 < l.length
 ·have z : (4 : Int) < (l.length : Int) := by omega
  have E : Hid (goodExt l = false) := by
   rw [Hid]
   cases hg : goodExt l with
   | false => rfl
   | true => have := ((goodExt_iff l).1 hg).1; omega
  clear h4;go_enter Tryz.func62, Tryz.ntmps62
  go_wp2_with fail
  go_ret
  exact ⟨by rw [E.out]; try rfl, Below.refl _ _⟩
 have z : ¬ ((4 : Int) < (l.length : Int)) := by omega
 have zd : decide ((4 : Int) < (l.length : Int)) = false := decide_eq_false z;have H4 := Hh (Nat.not_lt.1 h4);have HR := Hh hr;have HH := Hh hH;have hli : (l.length : Int) ≤ 4 := by omega
 clear h4 hr hH;go_enter Tryz.func62, Tryz.ntmps62
 go_wp2_with fail
 go_loopw [10] (fun v10 wr => ∃ k : Nat, k ≤ l.length ∧ v10 = .int .i64 (k : Int) ∧ Below w.heap.size w wr ∧ ∀ j (hj : j < k), extOk (l.getD j ⟨0, true, []⟩) = true) (fun v10 _ => l.length - (intOf v10).toNat)
 case atStart => exact ⟨0, Nat.zero_le _, rfl, Below.refl _ _, fun j hj => absurd hj (by omega)⟩
 case round =>
  obtain ⟨k, hk, rfl, hbr, hall⟩ := hrel;have HALL := Hh hall;have HKK := Hh hk;clear hall hk
  by_cases hkl : k < l.length
  ·have hki : (k : Int) < (l.length : Int) := by omega
   obtain ⟨b, off, rfl, hat⟩ := HR.out.at_ (by omega);obtain ⟨d, hd, hc⟩ := hat k hkl;obtain ⟨YA, yc, rfl, hyb⟩ := hd;have hHr := HH.out.below hbr (Nat.le_refl _);have hEL : l[k] = l.getD k ⟨0, true, []⟩ := by rw [List.getD_eq_getElem?_getD, List.getElem?_eq_getElem hkl]; rfl
   obtain ⟨x, hx⟩ : ∃ x, l[k] = x := ⟨_, rfl⟩
   have HEL : Hid (l.getD k ⟨0, true, []⟩ = x) := by rw [Hid, ← hEL]; exact hx
   have HE2 : Hid (∀ h : k < l.length, l[k] = x) := fun _ => hx
   rw [hx] at hc hyb;obtain ⟨yl, yh, yv⟩ := x;have q0 : wr.cell? ⟨b, off + k * 3, none⟩ = some (.int .i64 yl) := hHr.cell (hc 0 _ rfl);have q1 : wr.cell? ⟨b, off + k * 3 + 1, none⟩ = some (.bool yh) := hHr.cell (hc 1 _ rfl);have q2 : wr.cell? ⟨b, off + k * 3 + 2, none⟩ = some (.slice YA yv.length yc) := hHr.cell (hc 2 _ rfl);obtain ⟨vl, hvl⟩ : ∃ vl, yv.length = vl := ⟨_, rfl⟩
   rw [hvl] at q2;have hT0 := Blk.new wr 101 #[.int .i64 0, .bool false, .slice none 0 0];have HK := Hh hkl;have hnc : (l.length : Int) ≤ (c : Int) := by have := HR.out.le; omega
   have hk63 : (k : Int) + 1 ≤ 9223372036854775807 := by have := H4.out; omega
   have HVL := Hh hvl;clear hkl hat hc hHr hEL hx hyb hvl;have KF : ∀ (b' : Bool), extOk ⟨yl, yh, yv⟩ = b' → b' = false → goodExt l = false := fun b' h1 h2 => goodExt_bad HK.out (by rw [HE2.out HK.out, h1, h2])
   have KFH := Hh KF;clear KF
   by_cases c1 : yl < -65535
   ·have c1' : decide (yl < -65535) = true := decide_eq_true c1
    have BAD : Hid (goodExt l = false) := KFH.out _ rfl (by
     cases hh : extOk ⟨yl, yh, yv⟩ with
     | false => rfl
     | true => have := (extOk_iff _).1 hh; simp only at this; have := HVL.out; omega)
    go_wp2_with (with_reducible refine stop_store ?_)
    refine wpList_store_item rfl _ _ _ rfl rfl _ _ rfl rfl _ _ hT0 size_ext rfl (one3 _ _ _ rfl rfl rfl) fun w3 hT3 hg3 => ?_
    have hb3 := below_of_grown (hbr.alloc hbr.size (.cells #[.int .i64 0, .bool false, .slice none 0 0] 101)) hg3 (by rintro q ⟨⟩; exact hbr.size);have b0 := hT3.cell 0 rfl;have b1 := hT3.cell 1 rfl;have b2 := hT3.cell 2 rfl;clear hT0 hg3 q0 q1 q2;go_wp2_with fail
    go_ret
    exact ⟨by rw [BAD.out]; try rfl, hb3⟩
   have c1' : decide (yl < -65535) = false := decide_eq_false c1
   by_cases c2 : 65535 < yl
   ·have c2' : decide (65535 < yl) = true := decide_eq_true c2
    have BAD : Hid (goodExt l = false) := KFH.out _ rfl (by
     cases hh : extOk ⟨yl, yh, yv⟩ with
     | false => rfl
     | true => have := (extOk_iff _).1 hh; simp only at this; have := HVL.out; omega)
    go_wp2_with (with_reducible refine stop_store ?_)
    refine wpList_store_item rfl _ _ _ rfl rfl _ _ rfl rfl _ _ hT0 size_ext rfl (one3 _ _ _ rfl rfl rfl) fun w3 hT3 hg3 => ?_
    have hb3 := below_of_grown (hbr.alloc hbr.size (.cells #[.int .i64 0, .bool false, .slice none 0 0] 101)) hg3 (by rintro q ⟨⟩; exact hbr.size);have b0 := hT3.cell 0 rfl;have b1 := hT3.cell 1 rfl;have b2 := hT3.cell 2 rfl;clear hT0 hg3 q0 q1 q2;go_wp2_with fail
    go_ret
    exact ⟨by rw [BAD.out]; try rfl, hb3⟩
   have c2' : decide (65535 < yl) = false := decide_eq_false c2
   by_cases c3 : 600 < vl
   ·have c3' : (600 : Int) < (vl : Int) := by omega
    have c3d : decide ((600 : Int) < (vl : Int)) = true := decide_eq_true c3'
    have BAD : Hid (goodExt l = false) := KFH.out _ rfl (by
     cases hh : extOk ⟨yl, yh, yv⟩ with
     | false => rfl
     | true => have := (extOk_iff _).1 hh; simp only at this; have := HVL.out; omega)
    clear c3;go_wp2_with (with_reducible refine stop_store ?_)
    refine wpList_store_item rfl _ _ _ rfl rfl _ _ rfl rfl _ _ hT0 size_ext rfl (one3 _ _ _ rfl rfl rfl) fun w3 hT3 hg3 => ?_
    have hb3 := below_of_grown (hbr.alloc hbr.size (.cells #[.int .i64 0, .bool false, .slice none 0 0] 101)) hg3 (by rintro q ⟨⟩; exact hbr.size);have b0 := hT3.cell 0 rfl;have b1 := hT3.cell 1 rfl;have b2 := hT3.cell 2 rfl;clear hT0 hg3 q0 q1 q2;go_wp2_with fail
    go_ret
    exact ⟨by rw [BAD.out]; try rfl, hb3⟩
   have c3' : ¬ ((600 : Int) < (vl : Int)) := by omega
   have c3d : decide ((600 : Int) < (vl : Int)) = false := decide_eq_false c3'
   cases yh with
   | true =>
    have OK : Hid (extOk ⟨yl, true, yv⟩ = true) := by rw [Hid, extOk_iff]; simp only; exact ⟨by omega, by omega, by have := HVL.out; omega, by simp⟩
    clear c3;go_wp2_with (with_reducible refine stop_store ?_)
    refine wpList_store_item rfl _ _ _ rfl rfl _ _ rfl rfl _ _ hT0 size_ext rfl (one3 _ _ _ rfl rfl rfl) fun w3 hT3 hg3 => ?_
    have hb3 := below_of_grown (hbr.alloc hbr.size (.cells #[.int .i64 0, .bool false, .slice none 0 0] 101)) hg3 (by rintro q ⟨⟩; exact hbr.size);have b0 := hT3.cell 0 rfl;have b1 := hT3.cell 1 rfl;have b2 := hT3.cell 2 rfl;clear hT0 hg3 q0 q1 q2;go_wp2_with fail
    go_roundw
    case rel => exact ⟨k + 1, HK.out, by go_num, hb3, fun j hj => by
     rcases Nat.lt_succ_iff_lt_or_eq.1 hj with h | h
     ·exact HALL.out j h
     ·subst h; rw [HEL.out]; exact OK.out⟩
    case measure => have := HK.out; simp [intOf]; omega
   | false =>
    by_cases c4 : 0 < vl
    ·have c4' : (0 : Int) < (vl : Int) := by omega
     have c4d : decide (0 < vl) = true := decide_eq_true c4;clear c4'
     have BAD : Hid (goodExt l = false) := KFH.out _ rfl (by
      cases hh : extOk ⟨yl, false, yv⟩ with
      | false => rfl
      | true => have := (extOk_iff _).1 hh; simp only [Bool.false_eq_true, false_or] at this; have := HVL.out; omega)
     clear c3 c4;go_wp2_with (with_reducible refine stop_store ?_)
     refine wpList_store_item rfl _ _ _ rfl rfl _ _ rfl rfl _ _ hT0 size_ext rfl (one3 _ _ _ rfl rfl rfl) fun w3 hT3 hg3 => ?_
     have hb3 := below_of_grown (hbr.alloc hbr.size (.cells #[.int .i64 0, .bool false, .slice none 0 0] 101)) hg3 (by rintro q ⟨⟩; exact hbr.size);have b0 := hT3.cell 0 rfl;have b1 := hT3.cell 1 rfl;have b2 := hT3.cell 2 rfl;clear hT0 hg3 q0 q1 q2;go_wp2_with fail
     go_ret
     exact ⟨by rw [BAD.out]; try rfl, hb3⟩
    ·have c4' : ¬ ((0 : Int) < (vl : Int)) := by omega
     have c4d : decide (0 < vl) = false := decide_eq_false c4;clear c4';have OK : Hid (extOk ⟨yl, false, yv⟩ = true) := by rw [Hid, extOk_iff]; simp only; exact ⟨by omega, by omega, by have := HVL.out; omega, .inr (by have := HVL.out; omega)⟩
     clear c3 c4;go_wp2_with (with_reducible refine stop_store ?_)
     refine wpList_store_item rfl _ _ _ rfl rfl _ _ rfl rfl _ _ hT0 size_ext rfl (one3 _ _ _ rfl rfl rfl) fun w3 hT3 hg3 => ?_
     have hb3 := below_of_grown (hbr.alloc hbr.size (.cells #[.int .i64 0, .bool false, .slice none 0 0] 101)) hg3 (by rintro q ⟨⟩; exact hbr.size);have b0 := hT3.cell 0 rfl;have b1 := hT3.cell 1 rfl;have b2 := hT3.cell 2 rfl;clear hT0 hg3 q0 q1 q2;go_wp2_with fail
     go_roundw
     case rel => exact ⟨k + 1, HK.out, by go_num, hb3, fun j hj => by
      rcases Nat.lt_succ_iff_lt_or_eq.1 hj with h | h
      ·exact HALL.out j h
      ·subst h; rw [HEL.out]; exact OK.out⟩
     case measure => have := HK.out; simp [intOf]; omega
  ·have hke : ¬ ((k : Int) < (l.length : Int)) := by omega
   have hke' : decide ((k : Int) < (l.length : Int)) = false := decide_eq_false hke
   have E : Hid (goodExt l = true) := goodExt_all H4.out fun j hj => by
    have := HALL.out j (by omega);rwa [List.getD_eq_getElem?_getD, List.getElem?_eq_getElem hj] at this
   clear hkl;go_wp2_with fail
   go_ret
   exact ⟨by rw [E.out]; try rfl, hbr⟩
def BytesOut (w : World) (r : Except Nat (List UInt8)) (e : Ending) (w' : World) : Prop :=
 match r with
 | .error q => e = .returned (.tuple #[.slice none 0 0, .int .i64 (q : Int)]) ∧ Below w.heap.size w w'
 | .ok l => ∃ v, e = .returned (.tuple #[v, .int .i64 0]) ∧ Fresh w l v w'
theorem BytesOut.err {w w' : World} {r : Except Nat (List UInt8)} {e : Ending} {q : Nat} (hr : r = .error q) (he : e = .returned (.tuple #[.slice none 0 0, .int .i64 (q : Int)])) (hb : Below w.heap.size w w') : BytesOut w r e w' := by
 subst hr; exact ⟨he, hb⟩
theorem BytesOut.ok {w w' : World} {r : Except Nat (List UInt8)} {e : Ending} {l : List UInt8} {v : Value} (hr : r = .ok l) (he : e = .returned (.tuple #[v, .int .i64 0])) (hf : Fresh w l v w') : BytesOut w r e w' := by
 subst hr; exact ⟨v, he, hf⟩
theorem e_EncodeExt {H : Snap} (w : World) (hH : Holds w H) {A : Option Addr} {c : Nat} {l : List Ext} (hr : IsRow lieE H A c l) :
  Calls Tryz.prog 42 #[.slice A l.length c] w (BytesOut w (encExt l)) := by
 have GE := Hh (e_goodExt w hH hr)
 by_cases hg : goodExt l = true
 case neg =>
  have hg' : goodExt l = false := by simpa using hg
  rw [hg'] at GE;have E : Hid (encExt l = .error 1) := by rw [Hid, encExt, if_neg hg]
  clear hg hg';go_enter Tryz.func42, Tryz.ntmps42
  go_wp2_with fail
  refine GE.out.mono ?_
  rintro e w1 ⟨rfl, hb1⟩
  go_wp2_with fail
  go_ret2
  exact BytesOut.err E.out rfl hb1
 have HG := Hh ((goodExt_iff l).1 hg);have HB := Hh (show ∀ x ∈ l, -65535 ≤ x.label ∧ x.label ≤ 65535 ∧ x.val.length ≤ 600 from fun x hx => by have := (extOk_iff x).1 (((goodExt_iff l).1 hg).2 x hx); exact ⟨this.1, this.2.1, this.2.2.1⟩);have E : Hid (encExt l = .ok (extsB l)) := by rw [Hid, encExt, if_pos hg]
 rw [hg] at GE;have HLL := Hh (show l.length ≤ 100 by have := HG.out.1; omega);have HR := Hh hr;have HH := Hh hH;clear hg hr hH;go_enter Tryz.func42, Tryz.ntmps42
 go_wp2_with fail
 refine GE.out.mono ?_
 rintro e w1 ⟨rfl, hb1⟩
 go_wp2_with fail
 go_loopw [4, 12] (fun vo vk wr => ∃ (k : Nat) (VA : Option Addr) (vc vn : Nat), k ≤ l.length ∧ vk = .int .i64 (k : Int) ∧ vo = .slice VA vn vc ∧ vn = (extsB (l.take k)).length ∧ OwnB wr w.heap.size (.slice VA vn vc) (extsB (l.take k)) ∧ Below w.heap.size w wr) (fun _ vk _ => l.length - (intOf vk).toNat)
 case atStart => exact ⟨0, none, 0, 0, Nat.zero_le _, rfl, rfl, rfl, OwnB.nil _ _, hb1⟩
 case round =>
  clear hb1;obtain ⟨k, VA, vc, vn, hk, rfl, rfl, rfl, hOr, hbr⟩ := hrel;have HKK := Hh hk;clear hk
  by_cases hkl : k < l.length
  ·have hki : (k : Int) < (l.length : Int) := by omega
   obtain ⟨b, off, rfl, hat⟩ := HR.out.at_ (by omega);obtain ⟨d, hd, hc⟩ := hat k hkl;obtain ⟨YA, yc, rfl, hyb⟩ := hd;have hHr := HH.out.below hbr (Nat.le_refl _);have HBX := Hh (HB.out l[k] (List.getElem_mem hkl));have HTK := Hh (extsB_take l k hkl);have hLE := extsB_le (l.take k) (fun y hy => by have := (HB.out y (List.mem_of_mem_take hy)).2.2; omega);rw [List.length_take] at hLE;have HLE : Hid ((extsB (l.take k)).length ≤ 109960000) := by have := HLL.out; rw [Hid]; omega
   obtain ⟨x, hx⟩ : ∃ x, l[k] = x := ⟨_, rfl⟩
   rw [hx] at hc hyb HBX HTK;obtain ⟨yl, yh, yv⟩ := x
   simp only at HBX
   obtain ⟨S, hS⟩ : ∃ S, extsB (l.take k) = S := ⟨_, rfl⟩
   rw [hS] at hOr HLE HTK ⊢;have q0 : wr.cell? ⟨b, off + k * 3, none⟩ = some (.int .i64 yl) := hHr.cell (hc 0 _ rfl);have q1 : wr.cell? ⟨b, off + k * 3 + 1, none⟩ = some (.bool yh) := hHr.cell (hc 1 _ rfl);have q2 : wr.cell? ⟨b, off + k * 3 + 2, none⟩ = some (.slice YA yv.length yc) := hHr.cell (hc 2 _ rfl);have hT0 := Blk.new wr 101 #[.int .i64 0, .bool false, .slice none 0 0];have hO1 := hOr.alloc (.cells #[.int .i64 0, .bool false, .slice none 0 0] 101);have HK := Hh hkl;have HYB := Hh hyb;have hnc : (l.length : Int) ≤ (c : Int) := by have := HR.out.le; omega
   have hk63 : (k : Int) + 1 ≤ 9223372036854775807 := by have := HLL.out; omega
   have hol := Hh (show ∀ q, (Value.slice VA S.length vc).ownBlock = some q → q < wr.heap.size from fun q hq => (hOr.lt q hq).2);clear hkl hat hc hHr hx hyb hOr hS hLE;go_wp2_with (with_reducible refine stop_store ?_)
   refine wpList_store_item rfl _ _ _ rfl rfl _ _ rfl rfl _ _ hT0 size_ext rfl (one3 _ _ _ rfl rfl rfl) fun w3 hT3 hg3 => ?_
   have hb3 := below_of_grown (hbr.alloc hbr.size (.cells #[.int .i64 0, .bool false, .slice none 0 0] 101)) hg3 (by rintro q ⟨⟩; exact hbr.size)
   have hO3 := hO1.kept hg3 (by
    cases hv : (Value.slice VA S.length vc).ownBlock with
    | none => exact .inl rfl
    | some q => exact .inr (fun e => by injection e with e; have := hol.out q hv; omega))
   have hH3 := HH.out.below hb3 (Nat.le_refl _);have b0 := hT3.cell 0 rfl;have b1 := hT3.cell 1 rfl;have b2 := hT3.cell 2 rfl;clear hT0 hg3 q0 q1 q2 hO1 hbr;have WI := Hh (fun w => wire_Int yl (by have := HBX.out.1; omega) (by have := HBX.out.2.1; omega) w);go_wp2_with fail
   refine (WI.out _).mono ?_
   rintro e w4 ⟨r4, rfl, hf4⟩
   have hO4 := hO3.below hf4.2;have hb4 := hb3.trans (hf4.2.mono hb3.size);have hT4 := hT3.below hf4.2;obtain ⟨RA, rc, rfl, _, _, hsrc⟩ := hf4.own.form;clear hf4 hO3 hT3 b0 b1 b2 hb3 hH3;have b0 := hT4.cell 0 rfl;have b1 := hT4.cell 1 rfl;have b2 := hT4.cell 2 rfl;go_wp2_with (at_builtin; refine stop_in ?_)
   refine wpList_app_bytes rfl (.tmp 16) (.tmp 19) rfl w.heap.size _ _ rfl hO4 _ _ _ (intB yl) rfl rfl hsrc (by have := HLE.out; have := (intB_le yl).2; omega) hb4.size fun v' w5 hO5 hg5 hat5 => ?_
   have hb5 := hb4.grown hg5 hb4.size (fun q hq => (hO4.lt q hq).1);obtain ⟨VA2, vc2, rfl, _⟩ := hO5.form;have hH5 := HH.out.below hb5 (Nat.le_refl _);have hT5 := hT4.grown hg5 (fun e => by have := hol.out _ e; have := hT4.lt; first | omega | (rw [e] at *; omega));clear hO4 hg5 hat5 hsrc hT4 b0 b1 b2 hb4;have b0 := hT5.cell 0 rfl;have b1 := hT5.cell 1 rfl;have b2 := hT5.cell 2 rfl;obtain ⟨S2, hS2⟩ : ∃ S2, S ++ intB yl = S2 := ⟨_, rfl⟩
   rw [hS2] at hO5 ⊢;have HS2 := Hh hS2;have HLE2 : Hid (S2.length ≤ 109960009) := by have := HLE.out; have := (intB_le yl).2; rw [Hid, ← hS2, List.length_append]; omega
   clear hS2
   cases yh with
   | false =>
    have HT2 : Hid (extsB (l.take (k + 1)) = S2) := by rw [Hid, HTK.out, extB, ← HS2.out]; simp
    go_wp2_with fail
    go_roundw
    case rel => exact ⟨k + 1, VA2, vc2, _, HK.out, by go_num, rfl, by rw [HT2.out], by rw [HT2.out]; exact hO5, hb5⟩
    case measure => have := HK.out; simp [intOf]; omega
   | true =>
    have ST := Hh (wire_Str (c := yc) (l := yv) (A := YA) rfl (by have := HBX.out.2.2; omega) w5 (Src.of_row HYB.out.row hH5));go_wp2_with fail
    refine ST.out.mono ?_
    rintro e w6 ⟨r6, rfl, hf6⟩
    have hO6 := hO5.below hf6.2;have hb6 := hb5.trans (hf6.2.mono hb5.size);obtain ⟨RA6, rc6, rfl, _, _, hsrc6⟩ := hf6.own.form;clear hf6 hO5 hb5 hH5;go_wp2_with (at_builtin; refine stop_in ?_)
    refine wpList_app_bytes rfl (.tmp 23) (.tmp 26) rfl w.heap.size _ _ rfl hO6 _ _ _ (strB yv) rfl rfl hsrc6 (by have := HLE2.out; have := strB_le yv; have := HBX.out.2.2; omega) hb6.size fun v' w7 hO7 hg7 hat7 => ?_
    have hb7 := hb6.grown hg7 hb6.size (fun q hq => (hO6.lt q hq).1);obtain ⟨VA3, vc3, rfl, _⟩ := hO7.form;have HT2 : Hid (extsB (l.take (k + 1)) = S2 ++ strB yv) := by rw [Hid, HTK.out, extB, ← HS2.out]; simp
    obtain ⟨S3, hS3⟩ : ∃ S3, S2 ++ strB yv = S3 := ⟨_, rfl⟩
    rw [hS3] at hO7 HT2 ⊢;clear hO6 hg7 hat7 hsrc6 hb6 hS3;go_wp2_with fail
    go_roundw
    case rel => exact ⟨k + 1, VA3, vc3, _, HK.out, by go_num, rfl, by rw [HT2.out], by rw [HT2.out]; exact hO7, hb7⟩
    case measure => have := HK.out; simp [intOf]; omega
  ·have hke : ¬ ((k : Int) < (l.length : Int)) := by omega
   have hke' : decide ((k : Int) < (l.length : Int)) = false := decide_eq_false hke;have hkk : k = l.length := by have := HKK.out; omega
   have HT : Hid (extsB (l.take k) = extsB l) := by rw [Hid, hkk, List.take_length]
   rw [HT.out] at hOr ⊢;clear hkl hkk;go_wp2_with fail
   go_ret2
   exact BytesOut.ok E.out rfl ⟨hOr, hbr⟩
theorem rowI_at {H : Snap} {A : Option Addr} {c : Nat} {l : List Int} (h : IsRow lieI H A c l) (h0 : 0 < l.length) : ∃ b off, A = some ⟨b, off, none⟩ ∧ ∀ j, j < l.length → H.cell? ⟨b, off + j, none⟩ = some (.int .i64 (l.getD j 0)) := by
 obtain ⟨b, off, e, hc⟩ := h.at_ h0
 refine ⟨b, off, e, fun j hj => ?_⟩
 obtain ⟨d, hd, hv⟩ := hc j hj;have hd' : d = [.int .i64 l[j]] := hd;subst hd';have := hv 0 _ rfl;rw [show j * lieI.k + 0 = j from by show j * 1 + 0 = j; omega] at this;rw [this, getD_lt hj]
theorem e_goodSuites {H : Snap} (w : World) (hH : Holds w H) {A : Option Addr} {n c : Nat} {l : List Int} (hn : n = l.length) (hr : IsRow lieI H A c l) :
  Calls Tryz.prog 43 #[.slice A n c] w fun e w' => e = .returned (.bool (goodSuites l)) ∧ w' = w := by
 by_cases h0 : n = 0
 ·subst h0;have E : Hid (goodSuites l = false) := by rw [Hid]; exact goodSuites_no (by omega)
  clear hn;go_enter Tryz.func43, Tryz.ntmps43
  go_wp2_with fail
  go_ret
  exact ⟨by rw [E.out]; try rfl, rfl⟩
 have z1 : ¬ ((n : Int) < 1) := by omega
 have z1d : decide ((n : Int) < 1) = false := decide_eq_false z1
 by_cases h8 : 8 < n
 ·have z8 : (8 : Int) < (n : Int) := by omega
  have z8d : decide ((8 : Int) < (n : Int)) = true := decide_eq_true z8;have E : Hid (goodSuites l = false) := by rw [Hid]; exact goodSuites_no (by omega)
  clear hn h8 h0;go_enter Tryz.func43, Tryz.ntmps43
  go_wp2_with fail
  go_ret
  exact ⟨by rw [E.out]; try rfl, rfl⟩
 have z8 : ¬ ((8 : Int) < (n : Int)) := by omega
 have z8d : decide ((8 : Int) < (n : Int)) = false := decide_eq_false z8;obtain ⟨b, off, rfl, hat⟩ := rowI_at hr (by omega);have HAT := Hh (show ∀ j, j < n → w.cell? ⟨b, off + j, none⟩ = some (.int .i64 (l.getD j 0)) from fun j hj => hH.cell (hat j (by omega)));have HN := Hh (show n = l.length ∧ n ≠ 0 ∧ n ≤ 8 ∧ n ≤ c from ⟨hn, h0, by omega, by have := hr.le; omega⟩);have hn8 : (n : Int) ≤ 8 := by omega
 have hncI : (n : Int) ≤ (c : Int) := by have := HN.out.2.2.2; omega
 clear hat hn hr h0 h8 z8;go_enter Tryz.func43, Tryz.ntmps43
 go_wp2_with fail
 go_loopw [17] (fun v17 wr => wr = w ∧ ∃ i : Nat, i ≤ n ∧ v17 = .int .i64 (i : Int) ∧ (∀ j, j < i → 0 ≤ l.getD j 0 ∧ l.getD j 0 ≤ 65535) ∧ (∀ i' j, j < i' → i' < i → l.getD j 0 ≠ l.getD i' 0)) (fun v17 _ => n - (intOf v17).toNat)
 case atStart => exact ⟨rfl, 0, Nat.zero_le _, rfl, fun j hj => absurd hj (by omega), fun i j _ hi => absurd hi (by omega)⟩
 case round =>
  obtain ⟨rfl, i, hi, rfl, hrng, hne⟩ := hrel;have HRNG := Hh hrng;have HNE := Hh hne;have HI := Hh hi;clear hrng hne hi
  by_cases hin : i < n
  ·have hii : (i : Int) < (n : Int) := by omega
   have q0 := HAT.out i hin;obtain ⟨v, hv⟩ : ∃ v, l.getD i 0 = v := ⟨_, rfl⟩
   rw [hv] at q0;have HV := Hh hv;have HIN := Hh hin;have hi63 : (i : Int) + 1 ≤ 9223372036854775807 := by omega
   have hi0 : (0 : Int) ≤ (i : Int) := by omega
   have hic : (i : Int) ≤ (c : Int) := by omega
   clear hv hin
   by_cases c1 : v < 0
   ·have c1d : decide (v < 0) = true := decide_eq_true c1;have E : Hid (goodSuites l = false) := by rw [Hid]; exact goodSuites_no (by intro h; have := (h.2.2.1 i (by have := HN.out; have := HIN.out; omega)).1; rw [HV.out] at this; omega)
    go_wp2_with fail
    go_ret
    exact ⟨by rw [E.out]; try rfl, rfl⟩
   have c1d : decide (v < 0) = false := decide_eq_false c1
   by_cases c2 : 65535 < v
   ·have c2d : decide (65535 < v) = true := decide_eq_true c2;have E : Hid (goodSuites l = false) := by rw [Hid]; exact goodSuites_no (by intro h; have := (h.2.2.1 i (by have := HN.out; have := HIN.out; omega)).2; rw [HV.out] at this; omega)
    go_wp2_with fail
    go_ret
    exact ⟨by rw [E.out]; try rfl, rfl⟩
   have c2d : decide (65535 < v) = false := decide_eq_false c2;have HC := Hh (And.intro c1 c2);clear c1 c2;go_wp2_with fail
   go_loopw [32] (fun v32 wx => wx = wr ∧ ∃ j : Nat, j ≤ i ∧ v32 = .int .i64 (j : Int) ∧ (∀ j', j' < j → l.getD j' 0 ≠ v)) (fun v32 _ => i - (intOf v32).toNat)
   case atStart => exact ⟨rfl, 0, Nat.zero_le _, rfl, fun j hj => absurd hj (by omega)⟩
   case round =>
    obtain ⟨rfl, j, hj, rfl, hnej⟩ := hrel;have HNEJ := Hh hnej;have HJ := Hh hj;clear hnej hj
    by_cases hji : j < i
    ·have hjI : (j : Int) < (i : Int) := by omega
     have p0 := HAT.out j (by have := HIN.out; omega);obtain ⟨u, hu⟩ : ∃ u, l.getD j 0 = u := ⟨_, rfl⟩
     rw [hu] at p0;have HU := Hh hu;have HJI := Hh hji;have hj63 : (j : Int) + 1 ≤ 9223372036854775807 := by omega
     clear hu hji
     by_cases huv : u = v
     ·have d1 : (u == v) = true := by rw [beq_iff_eq]; exact huv
      have d2 : (u = v) = True := eq_true huv
      have E : Hid (goodSuites l = false) := by
       rw [Hid]
       refine goodSuites_no (fun h => ?_)
       have h1 := twice_yes (l := l) (i := i) (j := j) HJI.out (by have := HN.out; have := HIN.out; omega) (by rw [HU.out, HV.out]; exact huv);rw [h1] at h; cases h.2.2.2
      clear huv;go_wp2_with fail
      go_ret
      exact ⟨by rw [E.out]; try rfl, rfl⟩
     ·have d1 : (u == v) = false := by rw [beq_eq_false_iff_ne]; exact huv
      have d2 : (u = v) = False := eq_false huv;have HUV := Hh huv;clear huv;go_wp2_with fail
      go_roundw
      case rel => exact ⟨by trivial, j + 1, HJI.out, by go_num, fun j' hj' => by
       rcases Nat.lt_succ_iff_lt_or_eq.1 hj' with h | h
       ·exact HNEJ.out j' h
       ·subst h; rw [HU.out]; exact HUV.out⟩
      case measure => have := HJI.out; simp [intOf]; omega
    ·have hjI : ¬ ((j : Int) < (i : Int)) := by omega
     have hjd : decide ((j : Int) < (i : Int)) = false := decide_eq_false hjI;have hje : j = i := by have := HJ.out; omega
     have HJE := Hh hje;clear hji hje;go_wp2_with fail
     go_roundw
     case rel => exact ⟨by trivial, i + 1, HIN.out, by go_num, fun j' hj' => by
       rcases Nat.lt_succ_iff_lt_or_eq.1 hj' with h | h
       ·exact HRNG.out j' h
       ·subst h; rw [HV.out]; have := HC.out; omega, fun i' j' h1 h2 => by
       rcases Nat.lt_succ_iff_lt_or_eq.1 h2 with h | h
       ·exact HNE.out i' j' h1 h
       ·subst h; rw [HV.out]; exact HNEJ.out j' (by rw [HJE.out]; exact h1)⟩
     case measure => have := HIN.out; simp [intOf]; omega
  ·have hii : ¬ ((i : Int) < (n : Int)) := by omega
   have hid : decide ((i : Int) < (n : Int)) = false := decide_eq_false hii
   have E : Hid (goodSuites l = true) := by
    have h1 := HN.out;have h2 := HI.out;rw [Hid, goodSuites_iff]
    exact ⟨by omega, by omega, fun j hj => HRNG.out j (by omega), twice_no fun i' j' ha hb => HNE.out i' j' ha (by omega)⟩
   clear hin;go_wp2_with fail
   go_ret
   exact ⟨by rw [E.out]; try rfl, rfl⟩
theorem e_limited {w w1 : World} {A : Option Addr} {n c : Nat} {l : List UInt8} (hn : n = l.length) (hf : Fresh w l (.slice A n c) w1) :
  Calls Tryz.prog 28 #[.slice A n c] w1 (BytesOut w (limited l)) := by
 by_cases h : 600 < n
 ·have z : (600 : Int) < (n : Int) := by omega
  have zd : decide ((600 : Int) < (n : Int)) = true := decide_eq_true z;have E : Hid (limited l = .error 1) := by rw [Hid, limited, if_pos (by omega)]
  clear h hn;go_enter Tryz.func28, Tryz.ntmps28
  go_wp2_with fail
  go_ret2
  exact BytesOut.err E.out rfl hf.2
 ·have z : ¬ ((600 : Int) < (n : Int)) := by omega
  have zd : decide ((600 : Int) < (n : Int)) = false := decide_eq_false z;have E : Hid (limited l = .ok l) := by rw [Hid, limited, if_neg (by omega)]
  clear h hn;go_enter Tryz.func28, Tryz.ntmps28
  go_wp2_with fail
  go_ret2
  exact BytesOut.ok E.out rfl hf
abbrev firstC (m : Int) (sa : Option Addr) (sn sc : Nat) (ga : Option Addr) (gn gc : Nat) (ca : Option Addr) (cn cc : Nat) (ea : Option Addr) (en ec : Nat) : Array Value := #[.int .i64 m, .slice sa sn sc, .slice ga gn gc, .slice ca cn cc, .slice ea en ec]
structure FirstA (H : Snap) (f : First) (sa : Option Addr) (sc : Nat) (ga : Option Addr) (gc : Nat) (ca : Option Addr) (cc : Nat) (ea : Option Addr) (ec : Nat) : Prop where
 suites : IsRow lieI H sa sc f.suites
 gx : IsBytes H ga gc f.gx
 conn : IsBytes H ca cc f.conn
 ext : IsRow lieE H ea ec f.ext
theorem firstOk_iff (f : First) : firstOk f = true ↔ (0 ≤ f.method ∧ f.method ≤ 3 ∧ goodSuites f.suites = true ∧ goodExt f.ext = true ∧ 1 ≤ f.gx.length ∧ f.gx.length ≤ 64 ∧ f.conn.length ≤ 7) := by
 simp [firstOk, and_assoc]
theorem encFirst_no {f : First} (h : ¬ (0 ≤ f.method ∧ f.method ≤ 3 ∧ goodSuites f.suites = true ∧ goodExt f.ext = true ∧ 1 ≤ f.gx.length ∧ f.gx.length ≤ 64 ∧ f.conn.length ≤ 7)) : encFirst f = .error 1 := by
 rw [encFirst, if_neg (fun h' => h ((firstOk_iff f).1 h'))]
theorem connB_le (c : List UInt8) : (connB c).length ≤ c.length + 9 := by
 rw [connB.eq_def]
 split
 ·split
  ·simp
  ·have := strB_le [‹UInt8›]; exact this
 ·exact strB_le _
theorem OwnX.srcR {w : World} {base : Nat} {A : Option Addr} {m c : Nat} {H : Snap} {ls : List (List UInt8)} (h : OwnX lieB 23 w base (.slice A m c) H ls) (hw : Holds w H) : SrcR w A ls := fun h0 => by
 obtain ⟨g, e, _⟩ := h.at_ 0 h0
 refine ⟨g, 0, e, fun j hj => ?_⟩
 obtain ⟨g2, e2, d, hd, hc⟩ := h.at_ j hj;obtain ⟨Aj, cj, hd', hb⟩ := hd;subst hd';have hg : g = g2 := by rw [e] at e2; injection e2 with e2; injection e2
 subst hg;have := hc 0 _ rfl;rw [show j * lieB.k + 0 = 0 + j from by show j * 1 + 0 = 0 + j; omega] at this
 exact ⟨Aj, cj, this, Src.of_row hb.row hw⟩
theorem info_bs : (Tryz.prog.info? 23).map (fun i => (i.zero, i.size, i.bytes)) = some (some (.slice none 0 0), 1, 24) := by kernel_rfl
theorem e_EncodeFirst {H : Snap} (w : World) (hH : Holds w H) {f : First} {m : Int} {sa : Option Addr} {sn sc : Nat} {ga : Option Addr} {gn gc : Nat} {ca : Option Addr} {cn cc : Nat} {ea : Option Addr} {en ec : Nat} (hF : FirstA H f sa sc ga gc ca cc ea ec)
  (hm : m = f.method) (hsn : sn = f.suites.length) (hgn : gn = f.gx.length) (hcn : cn = f.conn.length) (hen : en = f.ext.length) {b0 : List UInt8} (HOK : Hid (encFirst f = .ok b0)) :
  Calls Tryz.prog 16 #[.agg (firstC m sa sn sc ga gn gc ca cn cc ea en ec)] w (BytesOut w (encFirst f)) := by
 have hB := Blk.new w 47 (firstC m sa sn sc ga gn gc ca cn cc ea en ec);have hG := (Grows.refl hH).alloc (.cells (firstC m sa sn sc ga gn gc ca cn cc ea en ec) 47);have b0 := hB.cell 0 rfl;have b1 := hB.cell 1 rfl;have b2 := hB.cell 2 rfl;have b3 := hB.cell 3 rfl;have b4 := hB.cell 4 rfl;have EX0 := e_EncodeExt (w.alloc (.cells (firstC m sa sn sc ga gn gc ca cn cc ea en ec) 47)) hG.holds hF.ext;rw [← hen] at EX0;have EX := Hh EX0;have HF := Hh hF;have HQ := Hh (And.intro hm (And.intro hsn (And.intro hgn (And.intro hcn hen))));have hB' : Blk (w.alloc (.cells (firstC m sa sn sc ga gn gc ca cn cc ea en ec) 47)) w.heap.size 47 (firstC m sa sn sc ga gn gc ca cn cc ea en ec) := hB;clear EX0 hm hsn hgn hcn hen hF hH hB;go_enter Tryz.func16, Tryz.ntmps16
 go_wp2_with fail
 generalize w.alloc (.cells (firstC m sa sn sc ga gn gc ca cn cc ea en ec) 47) = w1 at hB' hG EX ⊢
 clear b0 b1 b2 b3 b4
 refine EX.out.mono ?_
 intro e w2 hs
 have hx : ∃ (r : Value) (q : Nat), e = .returned (.tuple #[r, .int .i64 (q : Int)]) ∧ Below w1.heap.size w1 w2 ∧ (goodExt f.ext = true → q = 0 ∧ Fresh w1 (extsB f.ext) r w2) ∧ (goodExt f.ext = false → q = 1) := by
  unfold BytesOut at hs
  rw [encExt] at hs
  cases hg : goodExt f.ext with
  | true =>
   rw [hg] at hs;obtain ⟨v, rfl, hf⟩ := hs
   exact ⟨v, 0, rfl, hf.2, (fun _ => ⟨rfl, hf⟩), fun h => by cases h⟩
  | false =>
   rw [hg] at hs;obtain ⟨rfl, hb⟩ := hs
   exact ⟨_, 1, rfl, hb, (fun h => by cases h), fun _ => rfl⟩
 obtain ⟨r, q, rfl, hb2, hgood, hbad⟩ := hx;have HGOOD := Hh hgood;have HBAD := Hh hbad;have hB2 := hB'.below hb2;have hG2 := hG.below_ hb2;have b0 := hB2.cell 0 rfl;have b1 := hB2.cell 1 rfl;have b2 := hB2.cell 2 rfl;have b3 := hB2.cell 3 rfl;have b4 := hB2.cell 4 rfl;have GS := Hh (e_goodSuites (n := sn) w2 hG2.holds HQ.out.2.1 HF.out.suites);have hbel := hG2.below;clear EX hs hgood hbad
 by_cases c1 : m < 0
 ·have c1d : decide (m < 0) = true := decide_eq_true c1;have E : Hid (encFirst f = .error 1) := by rw [Hid]; exact encFirst_no (by have := HQ.out.1; omega)
  exact absurd (HOK.out.symm.trans E.out) (fun h => by cases h)
 have c1d : decide (m < 0) = false := decide_eq_false c1
 by_cases c2 : 3 < m
 ·have c2d : decide (3 < m) = true := decide_eq_true c2;have E : Hid (encFirst f = .error 1) := by rw [Hid]; exact encFirst_no (by have := HQ.out.1; omega)
  exact absurd (HOK.out.symm.trans E.out) (fun h => by cases h)
 have c2d : decide (3 < m) = false := decide_eq_false c2;have HM := Hh (And.intro c1 c2)
 cases hgs : goodSuites f.suites with
 | false =>
  rw [hgs] at GS;have E : Hid (encFirst f = .error 1) := by rw [Hid]; exact encFirst_no (by rw [hgs]; simp)
  exact absurd (HOK.out.symm.trans E.out) (fun h => by cases h)
 | true =>
  rw [hgs] at GS;have HGS := Hh hgs;clear hgs
  cases hge : goodExt f.ext with
  | false =>
   have hq := HBAD.out hge;subst hq;have E : Hid (encFirst f = .error 1) := by rw [Hid]; exact encFirst_no (by rw [hge]; simp)
   exact absurd (HOK.out.symm.trans E.out) (fun h => by cases h)
  | true =>
   obtain ⟨hq, hfx⟩ := HGOOD.out hge;subst hq;have HGE := Hh hge;clear hge
   by_cases c3 : gn = 0
   ·subst c3;have E : Hid (encFirst f = .error 1) := by rw [Hid]; exact encFirst_no (by have := HQ.out.2.2.1; omega)
    exact absurd (HOK.out.symm.trans E.out) (fun h => by cases h)
   have c3a : ¬ ((gn : Int) < 1) := by omega
   have c3d : decide ((gn : Int) < 1) = false := decide_eq_false c3a
   by_cases c4 : 64 < gn
   ·have c4a : (64 : Int) < (gn : Int) := by omega
    have c4d : decide ((64 : Int) < (gn : Int)) = true := decide_eq_true c4a;have E : Hid (encFirst f = .error 1) := by rw [Hid]; exact encFirst_no (by have := HQ.out.2.2.1; omega)
    exact absurd (HOK.out.symm.trans E.out) (fun h => by cases h)
   have c4a : ¬ ((64 : Int) < (gn : Int)) := by omega
   have c4d : decide ((64 : Int) < (gn : Int)) = false := decide_eq_false c4a
   by_cases c5 : 7 < cn
   ·have c5a : (7 : Int) < (cn : Int) := by omega
    have c5d : decide ((7 : Int) < (cn : Int)) = true := decide_eq_true c5a;have E : Hid (encFirst f = .error 1) := by rw [Hid]; exact encFirst_no (by have := HQ.out.2.2.2.1; omega)
    exact absurd (HOK.out.symm.trans E.out) (fun h => by cases h)
   have c5a : ¬ ((7 : Int) < (cn : Int)) := by omega
   have c5d : decide ((7 : Int) < (cn : Int)) = false := decide_eq_false c5a;have HZ := Hh (show gn ≠ 0 ∧ gn ≤ 64 ∧ cn ≤ 7 from ⟨c3, by omega, by omega⟩)
   have E0 : Hid (encFirst f = limited (intB m ++ suitesB f.suites ++ strB f.gx ++ connB f.conn ++ extsB f.ext)) := by
    have h1 := HQ.out;have h2 := HM.out;have h3 := HZ.out;rw [Hid, encFirst, if_pos ((firstOk_iff f).2 ⟨by omega, by omega, HGS.out, HGE.out, by omega, by omega, by omega⟩), firstB, h1.1]
   obtain ⟨RA, rc, rfl, _⟩ := hfx.own.form;obtain ⟨H2, hGx, hxb, _⟩ := Fresh.snapB hG.holds hfx;have hG3 := hG.trans hGx
   have hXL : Hid ((extsB f.ext).length ≤ 4398400) := by
    have hg := (goodExt_iff f.ext).1 HGE.out;have := extsB_le f.ext (fun x hx => by have := (extOk_iff x).1 (hg.2 x hx); omega);have := hg.1;rw [Hid]; omega
   have HSU := Hh ((goodSuites_iff f.suites).1 HGS.out);have WI := Hh (fun (n : Int) (h1 : -9223372036854775808 ≤ n) (h2 : n ≤ 9223372036854775807) (w : World) => wire_Int n h1 h2 w);have HXB := Hh hxb;have hm63 := Hh (show -9223372036854775808 ≤ m ∧ m ≤ 9223372036854775807 by omega);clear c1 c2 c3 c4 c5 c3a c4a c5a hfx hGx hxb hG hB' hb2 HGOOD HBAD hG2;go_wp2_with fail
   refine GS.out.mono ?_
   rintro e w3 ⟨rfl, rfl⟩
   go_wp2_with fail
   refine (WI.out m hm63.out.1 hm63.out.2 _).mono ?_
   rintro e w4 ⟨r4, rfl, hf4⟩
   obtain ⟨OA, oc, rfl, _⟩ := hf4.own.form;have hO4 := hf4.own.more (base' := w.heap.size + 1) (by have := hB2.lt; omega);have hG4 := hG3.below_ hf4.2;have hB4 := hB2.below hf4.2;have hw4 : w.heap.size < w4.heap.size := hB4.lt;have hon4 : ∀ q, (Value.slice OA (intB m).length oc).ownBlock = some q → H2 q = none := fun q hq => hG3.holds.none_of_ge (hf4.own.lt q hq).1
   have hol4 := Hh (show ∀ q, (Value.slice OA (intB m).length oc).ownBlock = some q → w.heap.size + 1 ≤ q ∧ q < w4.heap.size from fun q hq => hO4.lt q hq);obtain ⟨S0, hS0⟩ : ∃ S0, intB m = S0 := ⟨_, rfl⟩
   have HS0L := Hh (show S0.length ≤ 9 by rw [← hS0]; exact (intB_le m).2);rw [hS0] at hO4 hon4 hol4 E0 ⊢;clear b0 b1 b2 b3 b4 hf4 hbel hB2 hG3 GS hS0;have b0 := hB4.cell 0 rfl;have b1 := hB4.cell 1 rfl;have b2 := hB4.cell 2 rfl;have b3 := hB4.cell 3 rfl;obtain ⟨sb, so, hsa, hat⟩ := rowI_at HF.out.suites (by have := HSU.out.1; omega);have HAT := Hh (And.intro hsa hat);clear hsa hat;have hsn8 : (sn : Int) ≤ 8 := by have := HQ.out.2.1; have := HSU.out.2.1; omega
   have hscI : (sn : Int) ≤ (sc : Int) := by have := HF.out.suites.le; have := HQ.out.2.1; omega
   have HSN := Hh (show sn = f.suites.length ∧ 1 ≤ sn ∧ sn ≤ 8 from ⟨HQ.out.2.1, by have := HQ.out.2.1; have := HSU.out.1; omega, by omega⟩);go_wp2_with fail
   go_loopw [7, 58] (fun v7 v58 wr => ∃ (i : Nat) (Hr : Snap) (VA : Option Addr) (vc vn : Nat), i ≤ sn ∧ v58 = .int .i64 (i : Int) ∧ v7 = .slice VA vn vc ∧ vn = i ∧ Grows w4 H2 wr Hr ∧ OwnX lieB 23 wr w4.heap.size (.slice VA vn vc) Hr ((f.suites.take i).map intB) ∧ (∀ q, (Value.slice VA vn vc).ownBlock = some q → Hr q = none)) (fun _ v58 _ => sn - (intOf v58).toNat)
   case atStart => exact ⟨0, H2, none, 0, 0, Nat.zero_le _, rfl, rfl, rfl, Grows.refl hG4.holds, OwnX.nil _ _ _ _ _, by intro q hq; simp [Value.ownBlock] at hq⟩
   case round =>
    obtain ⟨i, Hr, VA, vc, vn, hi, rfl, rfl, rfl, hGr, hOr, hnr⟩ := hrel;have HI := Hh hi;clear hi
    by_cases hin : vn < sn
    ·have hii : (vn : Int) < (sn : Int) := by omega
     obtain ⟨hsa, hat⟩ := HAT.out;subst hsa;have q0 := (hG4.trans hGr).holds.cell (((hG4.le.trans hGr.le)).cell (hat vn (by have := HSN.out.1; omega)));have HVB := Hh (HSU.out.2.2.1 vn (by have := HSN.out.1; omega))
     have HTK := Hh (show (f.suites.take (vn + 1)).map intB = (f.suites.take vn).map intB ++ [intB (f.suites.getD vn 0)] by
      have h := HSN.out.1;rw [List.take_succ_eq_append_getElem (by omega), List.map_append, List.map_singleton, getD_lt (by omega)])
     obtain ⟨v, hv⟩ : ∃ v, f.suites.getD vn 0 = v := ⟨_, rfl⟩
     rw [hv] at q0 HVB HTK;have HIN := Hh hin;have hi63 : (vn : Int) + 1 ≤ 9223372036854775807 := by omega
     have hLL : ((f.suites.take vn).map intB).length = vn := by rw [List.length_map, List.length_take]; have := HSN.out.1; omega
     have HLL := Hh hLL;clear hv hin hat hLL;go_wp2_with fail
     refine (WI.out v (by have := HVB.out; omega) (by have := HVB.out; omega) _).mono ?_
     rintro e w5 ⟨r5, rfl, hf5⟩
     obtain ⟨IA, ic, rfl, _⟩ := hf5.own.form;obtain ⟨H5, hG5, hi5, _⟩ := Fresh.snapB hGr.holds hf5;have hG6 := hGr.trans hG5;have hO6 := (hOr.below hf5.2).mono hG5.le;have hn6 : ∀ q, (Value.slice VA vn vc).ownBlock = some q → H5 q = none := fun q hq => hG5.none (hnr q hq) (hOr.lt q hq).2
     obtain ⟨ib, hib⟩ : ∃ ib, intB v = ib := ⟨_, rfl⟩
     rw [hib] at hi5 HTK ⊢;have hG7 := hG6.alloc (.cells #[.slice IA ib.length ic] 23);have hO7 := hO6.alloc (.cells #[.slice IA ib.length ic] 23);clear hf5 hGr hOr hnr hG5 hG6 hO6 q0 hib;obtain ⟨ls, hls⟩ : ∃ ls, (f.suites.take vn).map intB = ls := ⟨_, rfl⟩
     rw [hls] at hO7 HTK HLL;clear hls;go_wp2_with (at_builtin; refine stop_in ?_)
     refine OwnX.append rfl (.tmp 62) (.tmp 65) 39 rfl Tryz.underlying39 rfl (by omega) info_bs rfl hO7 _ 1 _ [.slice IA ib.length ic] [ib] rfl rfl (RowC.one ⟨IA, ic, rfl, hi5⟩) (Src.new _ _ _ _ rfl _ rfl) (by have := HLL.out; simp only [List.length_singleton]; omega) hG7.size fun v' w8 hO8 hg8 hat8 => ?_
     obtain ⟨VA', vc', rfl, _⟩ := hO8.form;have hn8 := own_hid3 hG7.holds hn6 hat8;have hG8 := hG7.grownRow hn6 (fun q hq => (hO7.lt q hq).1) hg8;have hlen : (ls ++ [ib]).length = vn + 1 := by rw [List.length_append, HLL.out]; rfl
     rw [hlen] at hO8 hn8 ⊢;rw [← HTK.out] at hO8;clear hO7 hG7 hg8 hat8 hlen hn6;go_wp2_with fail
     go_roundw
     case rel => exact ⟨vn + 1, H5, VA', vc', _, HIN.out, by go_num, rfl, rfl, hG8, hO8, hn8⟩
     case measure => have := HIN.out; simp [intOf]; omega
    ·have hii : ¬ ((vn : Int) < (sn : Int)) := by omega
     have hid : decide ((vn : Int) < (sn : Int)) = false := decide_eq_false hii;have hvs : sn = vn := by have := HI.out; omega
     have hTA : f.suites.take vn = f.suites := by rw [List.take_of_length_le]; have := HSN.out.1; omega
     rw [hTA] at hOr;have hG5 := hG4.trans hGr;have hO5 := hO4.below hGr.below;have hon5 : ∀ q, (Value.slice OA S0.length oc).ownBlock = some q → Hr q = none := fun q hq => hGr.none (hon4 q hq) (hol4.out q hq).2
     have hB5 := hB4.below hGr.below;have hSR := hOr.srcR hGr.holds;have HFL := Hh (show ((f.suites.map intB).flatten) = intsB f.suites from intsB_flat _);have HML : Hid ((f.suites.map intB).length = vn) := by rw [Hid, List.length_map]; have := HSN.out.1; omega
     have HIL := Hh (intsB_le f.suites);have hle5 := Hh (And.intro (hG4.le.trans hGr.le) hGr.le);subst hvs;clear hin hTA;have HXB5 := Hh (HXB.out.mono hle5.out.2);have HGX5 := Hh (HF.out.gx.mono hle5.out.1);have HCN5 := Hh (HF.out.conn.mono hle5.out.1);clear b0 b1 b2 b3 hG4 hGr hO4 hB4 hw4 hon4 hol4;have b2 := hB5.cell 2 rfl;have b3 := hB5.cell 3 rfl
     have HSB : Hid (S0.length + (suitesB f.suites).length ≤ 100) := by
      have h1 := HS0L.out;have h2 := HIL.out;have h3 := HSN.out;have h4 := (headB_le 4 f.suites.length).2;rw [Hid, suitesB]
      split <;> (try simp only [List.length_append]) <;> omega
     have hnB : (Value.slice OA S0.length oc).ownBlock = some w.heap.size → False := fun e => by have := (hO5.lt _ e).1; omega
     go_upto_if 70 with fail
     go_cut [6] (fun s6 wx => ∃ (VB : Option Addr) (wc' wn : Nat), s6 = .slice VB wn wc' ∧ wn = (S0 ++ suitesB f.suites).length ∧ OwnB wx (w.heap.size + 1) (.slice VB wn wc') (S0 ++ suitesB f.suites) ∧ Grows w H wx Hr ∧ Blk wx w.heap.size 47 (firstC m sa sn sc ga gn gc ca cn cc ea en ec) ∧ (∀ q, (Value.slice VB wn wc').ownBlock = some q → Hr q = none))
     case first =>
      by_cases h1 : sn = 1
      ·subst h1
       obtain ⟨n0, hn0⟩ : ∃ n0, f.suites = [n0] := by
        have := HSN.out.1
        match hs : f.suites, this with
        | [n0], _ => exact ⟨n0, rfl⟩
       have HSB1 : Hid (suitesB f.suites = intB n0) := by rw [Hid, hn0, suitesB, if_pos (by simp), intsB, intsB, List.append_nil]
       rw [hn0] at hOr;obtain ⟨gg, rfl, d, hd, hc⟩ := hOr.at_ 0 (by simp);obtain ⟨IA, ic, hd', hib⟩ := hd;subst hd';have p0 : wr.cell? ⟨gg, 0, none⟩ = some (.slice IA (intB n0).length ic) := hc 0 _ rfl;have hsrc := Hh (Src.of_row hib.row hG5.holds);have hil := (intB_le n0).2;have HIL2 := Hh hil;clear hil hn0 hc hib hOr;go_wp2_with (at_builtin; refine stop_in ?_)
       refine wpList_app_bytes rfl (.tmp 71) (.tmp 74) rfl (w.heap.size + 1) _ _ rfl hO5 _ _ _ (intB n0) rfl rfl hsrc.out (by have := HS0L.out; have := HIL2.out; omega) hB5.lt fun v' w6 hO6 hg6 hat6 => ?_
       obtain ⟨VB, wc', rfl, _⟩ := hO6.form;have hG6 := hG5.grownRow hon5 (fun q hq => Nat.le_of_succ_le (hO5.lt q hq).1) hg6;have hB6 := hB5.grown hg6 (fun e => hnB e);have hn6 := own_hid3 hG5.holds hon5 hat6;obtain ⟨SS, hSS⟩ : ∃ SS, S0 ++ intB n0 = SS := ⟨_, rfl⟩
       have HSS : Hid (S0 ++ suitesB f.suites = SS) := by rw [Hid, HSB1.out]; exact hSS
       rw [hSS] at hO6 hn6 ⊢;clear hSS;go_wp2_with fail
       go_meet
       exact ⟨VB, wc', _, rfl, by rw [HSS.out], by rw [HSS.out]; exact hO6, hG6, hB6, hn6⟩
      ·have e1 : ((sn : Int) == 1) = false := by simp; omega
       have e1' : ((sn : Int) = 1) = False := eq_false (by omega);have HSB1 : Hid (suitesB f.suites = headB 4 f.suites.length ++ intsB f.suites) := by rw [Hid, suitesB, if_neg (by have := HSN.out.1; omega)]
       have AR0 := wire_Array (c := vc) HML.out.symm (by have := HML.out; have := HSN.out.2.2; omega) (by rw [HFL.out]; have := HIL.out; have := HSN.out; omega) wr hSR;rw [HFL.out, List.length_map, ← HSB1.out] at AR0;have AR := Hh AR0;clear AR0 h1;go_wp2_with fail
       refine AR.out.mono ?_
       rintro e w6 ⟨r6, rfl, hf6⟩
       obtain ⟨QA, qc, rfl, _, _, hsrc⟩ := hf6.own.form;have hO6 := hO5.below hf6.2;have hG6 := hG5.below_ hf6.2;have hB6 := hB5.below hf6.2;clear hf6 AR;go_wp2_with (at_builtin; refine stop_in ?_)
       refine wpList_app_bytes rfl (.tmp 76) (.tmp 78) rfl (w.heap.size + 1) _ _ rfl hO6 _ _ _ (suitesB f.suites) rfl rfl hsrc (by have := HSB.out; omega) hB6.lt fun v' w7 hO7 hg7 hat7 => ?_
       obtain ⟨VB, wc', rfl, _⟩ := hO7.form;have hG7 := hG6.grownRow hon5 (fun q hq => Nat.le_of_succ_le (hO6.lt q hq).1) hg7;have hB7 := hB6.grown hg7 (fun e => hnB e);have hn7 := own_hid3 hG6.holds hon5 hat7;obtain ⟨SS, hSS⟩ : ∃ SS, S0 ++ suitesB f.suites = SS := ⟨_, rfl⟩
       rw [hSS] at hO7 hn7 ⊢;have HSS := Hh hSS;clear hSS;go_wp2_with fail
       go_meet
       exact ⟨VB, wc', _, rfl, by rw [HSS.out], by rw [HSS.out]; exact hO7, hG7, hB7, hn7⟩
     case rest =>
      obtain ⟨VB, wc', wn, rfl, rfl, hO6, hG6, hB6, hn6⟩ := hcut;clear hO5 hG5 hon5 hB5 hOr hnr hSR b2 b3;obtain ⟨S1, hS1⟩ : ∃ S1, S0 ++ suitesB f.suites = S1 := ⟨_, rfl⟩
      have HS1L := Hh (show S1.length ≤ 100 by rw [← hS1, List.length_append]; exact HSB.out);rw [hS1] at hO6 hn6 E0 ⊢;clear hS1;have b2 := hB6.cell 2 rfl;have b3 := hB6.cell 3 rfl;have SG := Hh (fun (w : World) (hW : Holds w Hr) => wire_Str (n := gn) (c := gc) (l := f.gx) HQ.out.2.2.1 (by have := HZ.out; have := HQ.out.2.2.1; omega) w (Src.of_row HGX5.out.row hW));have CN := Hh (fun (w : World) (hW : Holds w Hr) => trans_Conn (n := cn) (c := cc) (l := f.conn) HQ.out.2.2.2.1 (by have := HZ.out; have := HQ.out.2.2.2.1; omega) w (Src.of_row HCN5.out.row hW));have hgl := strB_le f.gx;have hcl := connB_le f.conn;have HGL := Hh (show (strB f.gx).length ≤ 100 by have := HZ.out; have := HQ.out.2.2.1; omega);have HCL := Hh (show (connB f.conn).length ≤ 100 by have := HZ.out; have := HQ.out.2.2.2.1; omega);clear hgl hcl;obtain ⟨sg, hsg⟩ : ∃ sg, strB f.gx = sg := ⟨_, rfl⟩
      obtain ⟨sc', hsc⟩ : ∃ sc', connB f.conn = sc' := ⟨_, rfl⟩
      obtain ⟨sx, hsx⟩ : ∃ sx, extsB f.ext = sx := ⟨_, rfl⟩
      rw [hsg] at SG HGL E0;rw [hsc] at CN HCL E0;rw [hsx] at hXL E0 HXB5 ⊢;clear hsg hsc hsx;go_wp2_with fail
      refine (SG.out _ hG6.holds).mono ?_
      rintro e w7 ⟨r7, rfl, hf7⟩
      obtain ⟨QA, qc, rfl, _, _, hsrc⟩ := hf7.own.form;have hO7 := hO6.below hf7.2;have hG7 := hG6.below_ hf7.2;have hB7 := hB6.below hf7.2;clear hf7 hO6 hG6 hB6 SG;go_wp2_with (at_builtin; refine stop_in ?_)
      refine wpList_app_bytes rfl (.tmp 80) (.tmp 83) rfl (w.heap.size + 1) _ _ rfl hO7 _ _ _ sg rfl rfl hsrc (by have := HS1L.out; have := HGL.out; omega) hB7.lt fun v' w8 hO8 hg8 hat8 => ?_
      obtain ⟨VC, wd', rfl, _⟩ := hO8.form;have hG8 := hG7.grownRow hn6 (fun q hq => Nat.le_of_succ_le (hO7.lt q hq).1) hg8;have hB8 := hB7.grown hg8 (fun e => by have := (hO7.lt _ e).1; omega);have hn8 := own_hid3 hG7.holds hn6 hat8;obtain ⟨S2, hS2⟩ : ∃ S2, S1 ++ sg = S2 := ⟨_, rfl⟩
      have HS2L := Hh (show S2.length ≤ 200 by rw [← hS2, List.length_append]; have := HS1L.out; have := HGL.out; omega);rw [hS2] at hO8 hn8 E0 ⊢;clear hS2 hO7 hG7 hB7 hg8 hat8 hn6 hsrc b2 b3;have b3 := hB8.cell 3 rfl;go_wp2_with fail
      refine (CN.out _ hG8.holds).mono ?_
      rintro e w9 ⟨r9, rfl, hf9⟩
      obtain ⟨QA2, qc2, rfl, _, _, hsrc⟩ := hf9.own.form;have hO9 := hO8.below hf9.2;have hG9 := hG8.below_ hf9.2;have hB9 := hB8.below hf9.2;clear hf9 hO8 hG8 hB8 CN b3;go_wp2_with (at_builtin; refine stop_in ?_)
      refine wpList_app_bytes rfl (.tmp 85) (.tmp 88) rfl (w.heap.size + 1) _ _ rfl hO9 _ _ _ sc' rfl rfl hsrc (by have := HS2L.out; have := HCL.out; omega) hB9.lt fun v' w10 hO10 hg10 hat10 => ?_
      obtain ⟨VD, we', rfl, _⟩ := hO10.form;have hG10 := hG9.grownRow hn8 (fun q hq => Nat.le_of_succ_le (hO9.lt q hq).1) hg10;have hB10 := hB9.grown hg10 (fun e => by have := (hO9.lt _ e).1; omega);have hn10 := own_hid3 hG9.holds hn8 hat10;obtain ⟨S3, hS3⟩ : ∃ S3, S2 ++ sc' = S3 := ⟨_, rfl⟩
      have HS3L := Hh (show S3.length ≤ 300 by rw [← hS3, List.length_append]; have := HS2L.out; have := HCL.out; omega);rw [hS3] at hO10 hn10 E0 ⊢;clear hS3 hO9 hG9 hg10 hat10 hn8 hsrc;go_wp2_with (at_builtin; refine stop_in ?_)
      refine wpList_app_bytes rfl (.tmp 90) (.tmp 91) rfl (w.heap.size + 1) _ _ rfl hO10 _ _ _ sx rfl rfl (Src.of_row HXB5.out.row hG10.holds) (by have := HS3L.out; have := hXL.out; omega) hB10.lt fun v' w11 hO11 hg11 hat11 => ?_
      obtain ⟨VE, wf', rfl, _⟩ := hO11.form;have hG11 := hG10.grownRow hn10 (fun q hq => Nat.le_of_succ_le (hO10.lt q hq).1) hg11;obtain ⟨S4, hS4⟩ : ∃ S4, S3 ++ sx = S4 := ⟨_, rfl⟩
      rw [hS4] at hO11 E0 ⊢;clear hS4;have LM := Hh (e_limited (w := w) (w1 := w11) rfl ⟨hO11.more (Nat.le_succ _), hG11.below⟩);rw [← E0.out] at LM;clear hO10 hG10 hg11 hat11 hn10 hO11 hG11;go_wp2_with fail
      refine LM.out.mono ?_
      intro e w12 hs
      clear LM
      unfold BytesOut at hs
      cases hq : encFirst f with
      | error q =>
       rw [hq] at hs;obtain ⟨rfl, hb⟩ := hs;go_wp2_with fail
       go_ret2
       exact BytesOut.err hq rfl hb
      | ok l =>
       rw [hq] at hs;obtain ⟨v, rfl, hf⟩ := hs;go_wp2_with fail
       go_ret2
       exact BytesOut.ok hq rfl hf
end Go.Proofs.YtlebpackbfcfeaaGreatDoor
