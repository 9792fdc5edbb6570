/- Walks: the program's simple values and floats. Readers of items: what a call does to a reader and to memory. -/
import Derived.Test.YtebcnkelbicbnaaGreatDoorM12
import Derived.Test.YtebcnkelbicbnaaGreatDoorM13
import Derived.Test.YtebcnkelbicbnaaGreatDoorM02
set_option linter.unusedVariables false
set_option linter.unusedSimpArgs false
namespace Go.Proofs.YtebcnkelbicbnaaGreatDoor
open Go.RowKit

theorem run_f32frombits (n : Nat) (w : World) : (callFunc 121 #[.int .u32 (n : Int)]).run Tryz.prog w = .ok (.value (.float .f32 n)) w := by
  rw [run_callFunc_extern Tryz.func121 (by kernel_rfl) (by kernel_rfl) (by kernel_rfl) (e := Extern.MathFloatBits.float32frombits) (by kernel_rfl)]
  rfl
theorem single_nan {r : Nat} (hr : r < 4294967296) (h : r / 8388608 % 256 = 255 ∧ r % 8388608 ≠ 0) : (Ieee.single.read r).isNaN = true := by
  have e1 : Ieee.single.signWeight = 2147483648 := rfl
  have e2 : Ieee.single.binade = 8388608 := rfl
  have e3 : Ieee.single.infRung = 2139095040 := rfl
  obtain ⟨h1, h2⟩ := h
  unfold Ieee.Format.read
  rw [e1, e2, e3]
  simp only [show ¬ r % 2147483648 < 8388608 by omega, show ¬ r % 2147483648 < 2139095040 by omega, show ¬ r % 2147483648 = 2139095040 by omega, if_false]
  rfl
theorem conv_seven (r : Nat) (hr : r < 4294967296) (w : World) : ∃ m w', (convert 134 132 (.float .f32 r)).run Tryz.prog w = .ok (.float .f64 m) w' ∧ (w' = w ∨ w' = w.drew) ∧ m < 18446744073709551616 ∧
    ((r / 8388608 % 256 = 255 ∧ r % 8388608 ≠ 0) → isNaN m = true) ∧ (¬ (r / 8388608 % 256 = 255 ∧ r % 8388608 ≠ 0) → m = widen8 r) := by
  have hs : Tryz.prog.underlying 134 = some (.float .f32) := Tryz.underlying134
  have hd : Tryz.prog.underlying 132 = some (.float .f64) := Tryz.underlying132
  by_cases hx : r / 8388608 % 256 = 255 ∧ r % 8388608 ≠ 0
  · have hn := single_nan hr hx
    cases hq : FloatKind.decode .f32 r with
    | number a b c =>
      have h' : Ieee.single.read r = .number a b c := hq
      rw [h'] at hn; cases hn
    | infinity a =>
      have h' : Ieee.single.read r = .infinity a := hq
      rw [h'] at hn; cases hn
    | nan a b =>
      have hnan : isNaN ((Question.nanConv .f64 r).cut (w.tape w.drawn (Question.nanConv .f64 r))) = true ∧ ((Question.nanConv .f64 r).cut (w.tape w.drawn (Question.nanConv .f64 r))) < 18446744073709551616 := by
        rw [isNaN_iff]
        show ((_ % 2 * 2 ^ 63 + 0x7ff0000000000000 + 1 + _ / 2 % (2 ^ 52 - 1)) / 2 ^ 52 % 2048 = 2047 ∧ _) ∧ _
        generalize w.tape w.drawn (Question.nanConv .f64 r) = t
        show ((t % 2 * 2 ^ 63 + 0x7ff0000000000000 + 1 + t / 2 % (2 ^ 52 - 1)) / 2 ^ 52 % 2048 = 2047 ∧ (t % 2 * 2 ^ 63 + 0x7ff0000000000000 + 1 + t / 2 % (2 ^ 52 - 1)) % 2 ^ 52 ≠ 0) ∧ t % 2 * 2 ^ 63 + 0x7ff0000000000000 + 1 + t / 2 % (2 ^ 52 - 1) < 18446744073709551616
        generalize t / 2 = u
        have : t % 2 = 0 ∨ t % 2 = 1 := by omega
        rcases this with h | h <;> rw [h] <;> simp only [Nat.reducePow, Nat.reduceSub, Nat.reduceMul, Nat.reduceAdd, Nat.zero_add] <;> omega
      refine ⟨(Question.nanConv .f64 r).cut (w.tape w.drawn (Question.nanConv .f64 r)), w.drew, ?_, .inr rfl, hnan.2, fun _ => hnan.1, fun h => absurd hx h⟩
      simp [convert, run_underlying hs, run_underlying hd, Conv.floatToFloat, hq, Question.forced]
  · obtain ⟨h31, hlt⟩ := widen8_nar hr hx
    have hw := wide_of h31
    have hs' : (Tryz.prog.underlying 134).isSome = true := by rw [hs]; rfl
    exact ⟨widen8 r, w, run_convert_float_float (P := Tryz.prog) (w := w) 134 132 .f32 .f64 r _ hs' hd hw, .inl rfl, hlt, fun h => absurd h hx, fun _ => rfl⟩
abbrev zeroV : Value := .agg #[.int .i64 0, .int .u64 0, .slice none 0 0, .slice none 0 0]
def SevenSaid (w : World) (low n : Nat) (e : Ending) (w' : World) : Prop :=
  Below w.heap.size w w' ∧ match sevenP low n with
    | .error q => e = .returned (.tuple #[zeroV, .int .i64 (q : Int)])
    | .ok x => e = .returned (.tuple #[itemV x none 0 none 0, .int .i64 0])
theorem SevenSaid.err {w w' : World} {low n q : Nat} {e : Ending} (h : sevenP low n = .error q) (he : e = .returned (.tuple #[zeroV, .int .i64 (q : Int)])) (hb : Below w.heap.size w w') : SevenSaid w low n e w' := by
  rw [SevenSaid, h]; exact ⟨hb, he⟩
theorem SevenSaid.ok {w w' : World} {low n : Nat} {x : Itm} {e : Ending} (h : sevenP low n = .ok x) (he : e = .returned (.tuple #[itemV x none 0 none 0, .int .i64 0])) (hb : Below w.heap.size w w') : SevenSaid w low n e w' := by
  rw [SevenSaid, h]; exact ⟨hb, he⟩
theorem sevenP_f (low n : Nat) (h : 25 ≤ low) : sevenP low n = if (isNaN (wideP low n) && wideP low n != notNumber) || (floatB (wideP low n)).length != 1 + 2 ^ (low - 24) then .error 4 else .ok (.mk 8 (wideP low n) [] []) := by
  rw [sevenP, if_neg (by omega), if_neg (by omega)]
theorem widenQ_lt {v : Nat} (hv : v < 65536) : widenQ v < 18446744073709551616 := by
  rw [widenQ]
  split
  · decide
  · rename_i h; exact (widen5_nar hv h).2
theorem notNumber_nan : isNaN notNumber = true := by decide +kernel
/-- What the program makes of 16 bits. -/
theorem seven25 {n : Nat} (hn : n < 65536) : sevenP 25 n = if widenQ n = notNumber ∧ n ≠ 32256 then .error 4 else if (floatB (widenQ n)).length ≠ 3 then .error 4 else .ok (.mk 8 (widenQ n) [] []) := by
  rw [sevenP_f 25 n (by omega), show wideP 25 n = widen5 n by rw [wideP, if_pos rfl]]
  by_cases hx : n / 1024 % 32 = 31 ∧ n % 1024 ≠ 0
  · obtain ⟨q1, q2⟩ := widen5_nan hn hx
    have hq : widenQ n = notNumber := by rw [widenQ, if_pos hx]
    rw [hq, q1]
    by_cases h : n = 32256
    · have h5 := q2.2 h
      have L : (floatB notNumber).length = 3 := by rw [floatB_nan notNumber_nan]; rfl
      rw [h5, L]
      simp [h]
    · have h5 : widen5 n ≠ notNumber := fun h' => h (q2.1 h')
      have b5 : (widen5 n != notNumber) = true := by rw [bne_iff_ne]; exact h5
      rw [b5]
      simp [h]
  · obtain ⟨q1, q2⟩ := widen5_nar hn hx
    have q3 := nar15_notNaN q1
    have hq : widenQ n = widen5 n := by rw [widenQ, if_neg hx]
    have hne : widen5 n ≠ notNumber := fun h => by rw [h, notNumber_nan] at q3; cases q3
    rw [hq, q3]
    generalize widen5 n = D at *
    simp [hne]
theorem seven26 {n m : Nat} (hn : n < 4294967296) (h1 : (n / 8388608 % 256 = 255 ∧ n % 8388608 ≠ 0) → isNaN m = true) (h2 : ¬ (n / 8388608 % 256 = 255 ∧ n % 8388608 ≠ 0) → m = widen8 n) :
    sevenP 26 n = if (floatB m).length ≠ 5 then .error 4 else .ok (.mk 8 m [] []) := by
  rw [sevenP_f 26 n (by omega), show wideP 26 n = widen8 n by rw [wideP, if_neg (by omega), if_pos rfl]]
  by_cases hx : n / 8388608 % 256 = 255 ∧ n % 8388608 ≠ 0
  · have q1 := widen8_nan hn hx
    have L1 : (floatB (widen8 n)).length = 3 := by rw [floatB_nan q1]; rfl
    have L2 : (floatB m).length = 3 := by rw [floatB_nan (h1 hx)]; rfl
    rw [L1, L2]
    simp
  · obtain ⟨q1, q2⟩ := widen8_nar hn hx
    have q3 := nar31_notNaN q1
    rw [h2 hx, q3]
    generalize widen8 n = D at *
    simp
theorem seven27 {n : Nat} : sevenP 27 n = if (floatB n).length ≠ 9 then .error 4 else .ok (.mk 8 n [] []) := by
  rw [sevenP_f 27 n (by omega), show wideP 27 n = n by rw [wideP, if_neg (by omega), if_neg (by omega)]]
  cases h : isNaN n with
  | true =>
    have L : (floatB n).length = 3 := by rw [floatB_nan h]; rfl
    rw [L]; simp
  | false => simp

set_option maxRecDepth 100000 in
set_option maxHeartbeats 6400000 in
theorem cbor_seven (f n : Nat) (hf : f < 256) (hlow : f % 32 ≤ 27) (hn : n < 18446744073709551616) (h25 : f % 32 = 25 → n < 65536) (h26 : f % 32 = 26 → n < 4294967296) (w : World) :
    Calls Tryz.prog 95 #[.int .u8 (f : Int), .int .u64 (n : Int)] w (SevenSaid w (f % 32) n) := by
  have KA := and31 ⟨f, hf⟩
  simp only at KA
  obtain ⟨low, hl⟩ : ∃ low, f % 32 = low := ⟨_, rfl⟩
  rw [hl] at KA hlow h25 h26 ⊢
  have hB0 := Blk.new w 26 #[.int .i64 0, .int .u64 0, .slice none 0 0, .slice none 0 0]
  have hb0 := below_box w zeroO
  have HN := Lib.hid hn
  have H25 := Lib.hid h25
  have H26 := Lib.hid h26
  clear hn h25 h26 hl hf
  by_cases h24 : low < 24
  · have e1 : ((low : Int) == 24) = false := by simp; omega
    have e2 : ((low : Int) == 25) = false := by simp; omega
    have e3 : ((low : Int) == 26) = false := by simp; omega
    have e4 : ((low : Int) == 27) = false := by simp; omega
    have p1 : ((low : Int) = 24) = False := eq_false (by omega)
    have p2 : ((low : Int) = 25) = False := eq_false (by omega)
    have p3 : ((low : Int) = 26) = False := eq_false (by omega)
    have p4 : ((low : Int) = 27) = False := eq_false (by omega)
    have E : Hid (sevenP low n = .ok (.mk 7 n [] [])) := by rw [Hid, sevenP, if_pos h24]
    clear hlow h24
    go_enter Tryz.func95, Tryz.ntmps95
    go_wp2_with (with_reducible refine stop_store ?_)
    unfold Stopped
    refine wpList_store_item rfl _ _ _ rfl rfl _ _ rfl rfl _ _ hB0 size_item rfl (one4 _ _ _ _ rfl rfl rfl rfl) fun wz hTy hgz => ?_
    have hbz := below_of_grown hb0 hgz (by rintro q ⟨⟩; exact Nat.le_refl _)
    go_wp2_with fail
    refine ret_row_tmp rfl rfl hTy rfl rfl size_item rfl ?_
    exact SevenSaid.ok E.out rfl hbz
  rcases (by omega : low = 24 ∨ low = 25 ∨ low = 26 ∨ low = 27) with rfl | rfl | rfl | rfl
  · by_cases h32 : n < 32
    · have z32 : (n : Int) < 32 := by omega
      have E : Hid (sevenP 24 n = .error 4) := by rw [Hid, sevenP, if_neg (by omega), if_pos rfl, if_pos h32]
      clear h32 hlow h24
      go_enter Tryz.func95, Tryz.ntmps95
      go_wp2_with (with_reducible refine stop_store ?_)
      unfold Stopped
      refine wpList_store_item rfl _ _ _ rfl rfl _ _ rfl rfl _ _ hB0 size_item rfl (one4 _ _ _ _ rfl rfl rfl rfl) fun wz hTy hgz => ?_
      have hbz := below_of_grown hb0 hgz (by rintro q ⟨⟩; exact Nat.le_refl _)
      go_wp2_with fail
      refine ret_row_tmp rfl rfl hTy rfl rfl size_item rfl ?_
      exact SevenSaid.err E.out rfl hbz
    · have z32 : ¬ ((n : Int) < 32) := by omega
      have E : Hid (sevenP 24 n = .ok (.mk 7 n [] [])) := by rw [Hid, sevenP, if_neg (by omega), if_pos rfl, if_neg h32]
      clear h32 hlow h24
      go_enter Tryz.func95, Tryz.ntmps95
      go_wp2_with (with_reducible refine stop_store ?_)
      unfold Stopped
      refine wpList_store_item rfl _ _ _ rfl rfl _ _ rfl rfl _ _ hB0 size_item rfl (one4 _ _ _ _ rfl rfl rfl rfl) fun wz hTy hgz => ?_
      have hbz := below_of_grown hb0 hgz (by rintro q ⟨⟩; exact Nat.le_refl _)
      go_wp2_with fail
      refine ret_row_tmp rfl rfl hTy rfl rfl size_item rfl ?_
      exact SevenSaid.ok E.out rfl hbz
  · have hn := H25.out rfl
    have K1 : IntKind.u16.wrap (n : Int) = (n : Int) := IntWalk.u16_in _ (by omega)
    have FL := Lib.hid (fun w => cbor_float_nat (widenQ n) (widenQ_lt hn) w)
    have E0 := Lib.hid (seven25 hn)
    obtain ⟨D, hD⟩ : ∃ D, widenQ n = D := ⟨_, rfl⟩
    have WD := Lib.hid (show ∀ w, Calls Tryz.prog 120 #[.int .u16 (n : Int)] w fun e w' => e = .returned (.int .u64 (D : Int)) ∧ w' = w from fun w => by
      have h := cbor_widen n hn w
      unfold WidenQ at h
      rw [hD] at h
      exact h)
    rw [hD] at FL E0
    clear hn hD hlow h24
    by_cases hc : D = notNumber ∧ n ≠ 32256
    · have c1 : ((D : Int) == 9221120237041090560) = true := by rw [hc.1]; rfl
      have c2 : ((n : Int) != 32256) = true := by rw [bne_iff_ne]; omega
      have c1' : ((D : Int) = 9221120237041090560) = True := eq_true (by rw [hc.1]; rfl)
      have c2' : ((n : Int) = 32256) = False := eq_false (by omega)
      have E : Hid (sevenP 25 n = .error 4) := by rw [Hid, E0.out, if_pos hc]
      clear hc E0 FL
      go_enter Tryz.func95, Tryz.ntmps95
      go_wp2_with fail
      refine (WD.out _).mono ?_
      rintro e w1 ⟨rfl, rfl⟩
      go_wp2_with (with_reducible refine stop_store ?_)
      unfold Stopped
      refine wpList_store_item rfl _ _ _ rfl rfl _ _ rfl rfl _ _ hB0 size_item rfl (one4 _ _ _ _ rfl rfl rfl rfl) fun wz hTy hgz => ?_
      have hbz := below_of_grown hb0 hgz (by rintro q ⟨⟩; exact Nat.le_refl _)
      go_wp2_with fail
      refine ret_row_tmp rfl rfl hTy rfl rfl size_item rfl ?_
      exact SevenSaid.err E.out rfl hbz
    have E1 : Hid (sevenP 25 n = if (floatB D).length ≠ 3 then .error 4 else .ok (.mk 8 D [] [])) := by rw [Hid, E0.out, if_neg hc]
    clear E0
    by_cases hD : D = notNumber
    · have hn3 : n = 32256 := Classical.byContradiction fun h => hc ⟨hD, h⟩
      have c1 : ((D : Int) == 9221120237041090560) = true := by rw [hD]; rfl
      have c1' : ((D : Int) = 9221120237041090560) = True := eq_true (by rw [hD]; rfl)
      have c2 : ((n : Int) != 32256) = false := by rw [hn3]; rfl
      have c2' : ((n : Int) = 32256) = True := eq_true (by rw [hn3]; rfl)
      clear hc hD hn3
      go_enter Tryz.func95, Tryz.ntmps95
      go_wp2_with fail
      refine (WD.out _).mono ?_
      rintro e w1 ⟨rfl, rfl⟩
      go_wp2_with fail
      refine (FL.out _).mono ?_
      rintro e w3 ⟨r, rfl, hfr⟩
      obtain ⟨RA, rc, rfl, _⟩ := hfr.own.form
      have hB3 := hB0.below hfr.2
      have hb3 := hb0.trans (hfr.2.mono hb0.size)
      obtain ⟨fl, hfl⟩ : ∃ fl, (floatB D).length = fl := ⟨_, rfl⟩
      rw [hfl] at E1 ⊢
      clear hfr hfl FL
      by_cases hq : fl = 3
      · subst hq
        have E : Hid (_ = Except.ok (Itm.mk 8 D [] [])) := E1.out.trans (if_neg (by simp))
        clear E1
        go_wp2_with (with_reducible refine stop_store ?_)
        unfold Stopped
        refine wpList_store_item rfl _ _ _ rfl rfl _ _ rfl rfl _ _ hB3 size_item rfl (one4 _ _ _ _ rfl rfl rfl rfl) fun wz hTy hgz => ?_
        have hbz := below_of_grown hb3 hgz (by rintro q ⟨⟩; exact Nat.le_refl _)
        go_wp2_with fail
        refine ret_row_tmp rfl rfl hTy rfl rfl size_item rfl ?_
        exact SevenSaid.ok E.out rfl hbz
      · have zq : ((fl : Int) == 3) = false := by simp; omega
        have zq2 : ((fl : Int) = 3) = False := eq_false (by omega)
        have E : Hid (_ = Except.error 4) := E1.out.trans (if_pos hq)
        clear E1 hq
        go_wp2_with (with_reducible refine stop_store ?_)
        unfold Stopped
        refine wpList_store_item rfl _ _ _ rfl rfl _ _ rfl rfl _ _ hB3 size_item rfl (one4 _ _ _ _ rfl rfl rfl rfl) fun wz hTy hgz => ?_
        have hbz := below_of_grown hb3 hgz (by rintro q ⟨⟩; exact Nat.le_refl _)
        go_wp2_with fail
        refine ret_row_tmp rfl rfl hTy rfl rfl size_item rfl ?_
        exact SevenSaid.err E.out rfl hbz
    · have c1 : ((D : Int) == 9221120237041090560) = false := by rw [beq_eq_false_iff_ne]; intro h; exact hD (by show D = 9221120237041090560; omega)
      have c1' : ((D : Int) = 9221120237041090560) = False := eq_false (by intro h; exact hD (by show D = 9221120237041090560; omega))
      clear hc hD
      go_enter Tryz.func95, Tryz.ntmps95
      go_wp2_with fail
      refine (WD.out _).mono ?_
      rintro e w1 ⟨rfl, rfl⟩
      go_wp2_with fail
      refine (FL.out _).mono ?_
      rintro e w3 ⟨r, rfl, hfr⟩
      obtain ⟨RA, rc, rfl, _⟩ := hfr.own.form
      have hB3 := hB0.below hfr.2
      have hb3 := hb0.trans (hfr.2.mono hb0.size)
      obtain ⟨fl, hfl⟩ : ∃ fl, (floatB D).length = fl := ⟨_, rfl⟩
      rw [hfl] at E1 ⊢
      clear hfr hfl FL
      by_cases hq : fl = 3
      · subst hq
        have E : Hid (_ = Except.ok (Itm.mk 8 D [] [])) := E1.out.trans (if_neg (by simp))
        clear E1
        go_wp2_with (with_reducible refine stop_store ?_)
        unfold Stopped
        refine wpList_store_item rfl _ _ _ rfl rfl _ _ rfl rfl _ _ hB3 size_item rfl (one4 _ _ _ _ rfl rfl rfl rfl) fun wz hTy hgz => ?_
        have hbz := below_of_grown hb3 hgz (by rintro q ⟨⟩; exact Nat.le_refl _)
        go_wp2_with fail
        refine ret_row_tmp rfl rfl hTy rfl rfl size_item rfl ?_
        exact SevenSaid.ok E.out rfl hbz
      · have zq : ((fl : Int) == 3) = false := by simp; omega
        have zq2 : ((fl : Int) = 3) = False := eq_false (by omega)
        have E : Hid (_ = Except.error 4) := E1.out.trans (if_pos hq)
        clear E1 hq
        go_wp2_with (with_reducible refine stop_store ?_)
        unfold Stopped
        refine wpList_store_item rfl _ _ _ rfl rfl _ _ rfl rfl _ _ hB3 size_item rfl (one4 _ _ _ _ rfl rfl rfl rfl) fun wz hTy hgz => ?_
        have hbz := below_of_grown hb3 hgz (by rintro q ⟨⟩; exact Nat.le_refl _)
        go_wp2_with fail
        refine ret_row_tmp rfl rfl hTy rfl rfl size_item rfl ?_
        exact SevenSaid.err E.out rfl hbz
  · have hn := H26.out rfl
    have K1 : IntKind.u32.wrap (n : Int) = (n : Int) := IntWalk.u32_in _ (by omega)
    have r1 := run_f32frombits n
    obtain ⟨W0, hW0⟩ : ∃ W0, w.alloc zeroO = W0 := ⟨_, rfl⟩
    obtain ⟨D, w2, hc2, hw2, hDl, hD1, hD2⟩ := conv_seven n hn W0
    have E1 := Lib.hid (seven26 hn hD1 hD2)
    have r2 := run_f64bits D
    have FL := Lib.hid (fun w => cbor_float_nat D hDl w)
    have hb2 : Below w.heap.size w w2 := by
      rw [← hW0] at hw2
      rcases hw2 with rfl | rfl
      · exact hb0
      · exact hb0.drew
    have hB2 : Blk w2 w.heap.size 26 #[.int .i64 0, .int .u64 0, .slice none 0 0, .slice none 0 0] := by
      rw [← hW0] at hw2
      rcases hw2 with rfl | rfl
      · exact hB0
      · exact hB0.drew
    clear hn hD1 hD2 hw2 hDl hlow h24 hB0 hb0
    go_enter Tryz.func95, Tryz.ntmps95
    go_upto_region 13 with fail
    clear hW0
    go_wp2_with fail
    refine (FL.out _).mono ?_
    rintro e w3 ⟨r, rfl, hfr⟩
    obtain ⟨RA, rc, rfl, _⟩ := hfr.own.form
    have hB3 := hB2.below hfr.2
    have hb3 := hb2.trans (hfr.2.mono hb2.size)
    obtain ⟨fl, hfl⟩ : ∃ fl, (floatB D).length = fl := ⟨_, rfl⟩
    rw [hfl] at E1 ⊢
    clear hfr hfl FL
    by_cases hq : fl = 5
    · subst hq
      have E : Hid (_ = Except.ok (Itm.mk 8 D [] [])) := E1.out.trans (if_neg (by simp))
      clear E1
      go_wp2_with (with_reducible refine stop_store ?_)
      unfold Stopped
      refine wpList_store_item rfl _ _ _ rfl rfl _ _ rfl rfl _ _ hB3 size_item rfl (one4 _ _ _ _ rfl rfl rfl rfl) fun wz hTy hgz => ?_
      have hbz := below_of_grown hb3 hgz (by rintro q ⟨⟩; exact Nat.le_refl _)
      go_wp2_with fail
      refine ret_row_tmp rfl rfl hTy rfl rfl size_item rfl ?_
      exact SevenSaid.ok E.out rfl hbz
    · have zq : ((fl : Int) == 5) = false := by simp; omega
      have zq2 : ((fl : Int) = 5) = False := eq_false (by omega)
      have E : Hid (_ = Except.error 4) := E1.out.trans (if_pos hq)
      clear E1 hq
      go_wp2_with (with_reducible refine stop_store ?_)
      unfold Stopped
      refine wpList_store_item rfl _ _ _ rfl rfl _ _ rfl rfl _ _ hB3 size_item rfl (one4 _ _ _ _ rfl rfl rfl rfl) fun wz hTy hgz => ?_
      have hbz := below_of_grown hb3 hgz (by rintro q ⟨⟩; exact Nat.le_refl _)
      go_wp2_with fail
      refine ret_row_tmp rfl rfl hTy rfl rfl size_item rfl ?_
      exact SevenSaid.err E.out rfl hbz
  · have E1 := Lib.hid (seven27 (n := n))
    have FL := Lib.hid (fun w => cbor_float_nat n HN.out w)
    have hb2 := hb0
    have hB2 := hB0
    clear hlow h24 hB0 hb0
    obtain ⟨D, hD⟩ : ∃ D, n = D := ⟨_, rfl⟩
    subst hD
    go_enter Tryz.func95, Tryz.ntmps95
    go_wp2_with fail
    refine (FL.out _).mono ?_
    rintro e w3 ⟨r, rfl, hfr⟩
    obtain ⟨RA, rc, rfl, _⟩ := hfr.own.form
    have hB3 := hB2.below hfr.2
    have hb3 := hb2.trans (hfr.2.mono hb2.size)
    obtain ⟨fl, hfl⟩ : ∃ fl, (floatB n).length = fl := ⟨_, rfl⟩
    rw [hfl] at E1 ⊢
    clear hfr hfl FL
    by_cases hq : fl = 9
    · subst hq
      have E : Hid (_ = Except.ok (Itm.mk 8 n [] [])) := E1.out.trans (if_neg (by simp))
      clear E1
      go_wp2_with (with_reducible refine stop_store ?_)
      unfold Stopped
      refine wpList_store_item rfl _ _ _ rfl rfl _ _ rfl rfl _ _ hB3 size_item rfl (one4 _ _ _ _ rfl rfl rfl rfl) fun wz hTy hgz => ?_
      have hbz := below_of_grown hb3 hgz (by rintro q ⟨⟩; exact Nat.le_refl _)
      go_wp2_with fail
      refine ret_row_tmp rfl rfl hTy rfl rfl size_item rfl ?_
      exact SevenSaid.ok E.out rfl hbz
    · have zq : ((fl : Int) == 9) = false := by simp; omega
      have zq2 : ((fl : Int) = 9) = False := eq_false (by omega)
      have E : Hid (_ = Except.error 4) := E1.out.trans (if_pos hq)
      clear E1 hq
      go_wp2_with (with_reducible refine stop_store ?_)
      unfold Stopped
      refine wpList_store_item rfl _ _ _ rfl rfl _ _ rfl rfl _ _ hB3 size_item rfl (one4 _ _ _ _ rfl rfl rfl rfl) fun wz hTy hgz => ?_
      have hbz := below_of_grown hb3 hgz (by rintro q ⟨⟩; exact Nat.le_refl _)
      go_wp2_with fail
      refine ret_row_tmp rfl rfl hTy rfl rfl size_item rfl ?_
      exact SevenSaid.err E.out rfl hbz
end Go.Proofs.YtebcnkelbicbnaaGreatDoor
namespace Go.Proofs.YtebcnkelbicbnaaGreatDoor
open Go.RowKit

section
variable {T : TypeId} {w w' w'' : World} {H H' H'' : Snap} {g : Nat} {A : Option Addr} {c : Nat} {l : List UInt8} {p cnt p' cnt' : Nat}
theorem Psr.gt (h : Psr T w g H A c l p cnt) : g < w.heap.size := h.blk.lt
/-- A reader went on; there is new memory. -/
structure Rdg (T : TypeId) (w : World) (H : Snap) (w' : World) (H' : Snap) (g : Nat) (A : Option Addr) (c : Nat) (l : List UInt8) (p cnt : Nat) : Prop where
  grows : GrowsBut w H w' H' g
  psr : Psr T w' g H' A c l p cnt
theorem Rdg.refl (h : Psr T w g H A c l p cnt) : Rdg T w H w H g A c l p cnt := ⟨GrowsBut.refl h.holds g, h⟩
theorem Rdg.trans (h : Rdg T w H w' H' g A c l p cnt) (k : Rdg T w' H' w'' H'' g A c l p' cnt') : Rdg T w H w'' H'' g A c l p' cnt' := ⟨h.grows.trans k.grows, k.psr⟩
theorem Psr.grows (h : Psr T w g H A c l p cnt) (k : Grows w H w' H') : Rdg T w H w' H' g A c l p cnt :=
  ⟨k.but g, ⟨h.blk.below k.below, h.bytes.mono k.le, k.holds, k.none h.apart h.gt, h.le, h.small, h.cnt_le⟩⟩
theorem Rdg.grown (h : Rdg T w H w' H' g A c l p cnt) (k : Grows w' H' w'' H'') : Rdg T w H w'' H'' g A c l p cnt := h.trans (h.psr.grows k)
theorem Rdg.alloc (h : Rdg T w H w' H' g A c l p cnt) (o : Obj) : Rdg T w H (w'.alloc o) H' g A c l p cnt := h.grown ((Grows.refl h.psr.holds).alloc o)
theorem Rdg.below_ (h : Rdg T w H w' H' g A c l p cnt) (k : Below w'.heap.size w' w'') : Rdg T w H w'' H' g A c l p cnt := h.grown (Grows.of_below h.psr.holds k)
theorem Rdg.drewN (h : Rdg T w H w' H' g A c l p cnt) (q : Nat) : Rdg T w H (w'.drewN q) H' g A c l p cnt := h.below_ (below_drewNv (Below.refl _ _) q)
theorem Rdg.size (h : Rdg T w H w' H' g A c l p cnt) : w.heap.size ≤ w'.heap.size := h.grows.grown.size
theorem Rdg.hid (h : Rdg T w H w' H' g A c l p cnt) {k : Nat} (hk : H k = .none) (hl : k < w.heap.size) : H' k = .none := h.grows.hid hk hl
/-- A step of the reader itself. -/
theorem Rdg.step (h : Rdg T w H w' H' g A c l p cnt) (hg : w'.grownBy w'' (some g)) (hb : Blk w'' g T (psrC A l.length c p' cnt')) (hp : p' ≤ l.length) (hc : cnt' ≤ 256) : Rdg T w H w'' H' g A c l p' cnt' :=
  ⟨⟨grown_step h.grows.grown hg (.inl rfl), h.grows.le, h.psr.holds.grown hg (by rintro q ⟨⟩; exact h.psr.apart), h.grows.fresh⟩,
    hb, h.psr.bytes, h.psr.holds.grown hg (by rintro q ⟨⟩; exact h.psr.apart), h.psr.apart, hp, h.psr.small, hc⟩
theorem Rdg.grownRow {row : Option Nat} (h : Rdg T w H w' H' g A c l p cnt) (h0 : ∀ k, row = some k → H' k = .none) (hw : ∀ k, row = some k → w.heap.size ≤ k) (hlt : g < w.heap.size) (hg : w'.grownBy w'' row) : Rdg T w H w'' H' g A c l p cnt := by
  have hd := h.psr
  have hne : row ≠ some g := fun e => by have := hw g e; omega
  refine ⟨⟨?_, h.grows.le, hd.holds.grown hg h0, h.grows.fresh⟩, hd.blk.grown hg hne, hd.bytes, hd.holds.grown hg h0, hd.apart, hd.le, hd.small, hd.cnt_le⟩
  exact ⟨hg.os.trans h.grows.grown.os, hg.tape.trans h.grows.grown.tape, hg.output.trans h.grows.grown.output, Nat.le_trans h.size hg.size, fun i hi hne' =>
      (hg.block i (Nat.lt_of_lt_of_le hi h.size) (fun e => by have := hw i e.symm; omega)).trans (h.grows.grown.block i hi hne')⟩
theorem Blk.rdg {k : Nat} {t : TypeId} {cs : Array Value} (h : Blk w k t cs) (hd : Rdg T w H w' H' g A c l p cnt) (hk : k ≠ g) : Blk w' k t cs :=
  h.grown hd.grows.grown (by intro e; injection e with e; exact hk e.symm)
theorem OwnI.rdg {base : Nat} {v : Value} {K : Snap} {L : List Itm} (h : OwnI w base v K L) (hd : Rdg T w H w' H' g A c l p cnt) (hb : g < base) : OwnI w' base v K L := by
  refine h.kept hd.grows.grown ?_
  cases hv : v.ownBlock with
  | none => exact .inl rfl
  | some k => exact .inr (fun e => by injection e with e; have := h.lt k hv; omega)
/-- What reading an item answers. -/
def ItemOut (T : TypeId) (w : World) (H : Snap) (g : Nat) (A : Option Addr) (c : Nat) (l : List UInt8) (p : Nat) (r : PR) (e : Ending) (w' : World) : Prop :=
  match r with
  | .err q => e = .returned (.tuple #[zeroV, .int .i64 (q : Int)]) ∧ (∃ H' p' cnt', Rdg T w H w' H' g A c l p' cnt')
  | .ok x k c' => ∃ ja jb jc jd H', e = .returned (.tuple #[itemV x ja jb jc jd, .int .i64 0]) ∧ Rdg T w H w' H' g A c l (p + k) c' ∧ IsItem H' ja jb jc jd x
theorem ItemOut.err {e : Ending} {r : PR} {q : Nat} (hr : r = .err q) (he : e = .returned (.tuple #[zeroV, .int .i64 (q : Int)])) (h : Rdg T w H w' H' g A c l p' cnt') : ItemOut T w H g A c l p r e w' := by
  rw [hr, ItemOut]; exact ⟨he, H', p', cnt', h⟩
theorem ItemOut.ok {e : Ending} {r : PR} {x : Itm} {k c' : Nat} {ja : Option Addr} {jb : Nat} {jc : Option Addr} {jd : Nat} (hr : r = .ok x k c') (he : e = .returned (.tuple #[itemV x ja jb jc jd, .int .i64 0])) (h : Rdg T w H w' H' g A c l (p + k) c') (hi : IsItem H' ja jb jc jd x) : ItemOut T w H g A c l p r e w' := by
  rw [hr, ItemOut]; exact ⟨ja, jb, jc, jd, H', he, h, hi⟩
end
/-- The program's reader reads what 'parse' says, within d levels. -/
def PItem (d : Nat) : Prop := ∀ (w : World) (H : Snap) (g : Nat) (A : Option Addr) (c : Nat) (l : List UInt8) (p cnt lv : Nat), Tabs H → lv + d = 8 → Psr 109 w g H A c l p cnt →
  Calls Tryz.prog 79 #[.pointer (some ⟨g, 0, none⟩), .int .i64 (lv : Int)] w (ItemOut 109 w H g A c l p (parse d (l.drop p) cnt))
theorem parse_full (d : Nat) (b : List UInt8) (c : Nat) (h : 256 ≤ c) : parse d b c = .err 8 := by rw [parse.eq_def]; simp only; rw [if_pos h]
theorem parse_head (d : Nat) (b : List UInt8) (c : Nat) (h : ¬ 256 ≤ c) {q : Nat} (hq : headP b = .error q) : parse d b c = .err q := by rw [parse.eq_def]; simp only; rw [if_neg h, hq]
theorem parse_num (d : Nat) (b : List UInt8) (c : Nat) (h : ¬ 256 ≤ c) {f n k : Nat} (hq : headP b = .ok (f, n, k)) (hk : f / 32 ≤ 1) : parse d b c = .ok (.mk (f / 32 : Nat) n [] []) k (c + 1) := by
  rw [parse.eq_def]; simp only; rw [if_neg h, hq]; simp only; rw [if_pos hk]
theorem parse_str (d : Nat) (b : List UInt8) (c : Nat) (h : ¬ 256 ≤ c) {f n k : Nat} (hq : headP b = .ok (f, n, k)) (h1 : ¬ f / 32 ≤ 1) (h3 : f / 32 ≤ 3) : parse d b c =
    (if b.length < k + n then .err 2 else if f / 32 = 3 ∧ Lib.validD ((b.drop k).take n) = false then .err 5 else .ok (.mk (f / 32 : Nat) 0 ((b.drop k).take n) []) (k + n) (c + 1)) := by
  rw [parse.eq_def]; simp only; rw [if_neg h, hq]; simp only; rw [if_neg h1, if_pos h3]
theorem parse_seven (d : Nat) (b : List UInt8) (c : Nat) (h : ¬ 256 ≤ c) {f n k : Nat} (hq : headP b = .ok (f, n, k)) (h7 : f / 32 = 7) : parse d b c =
    (match sevenP (f % 32) n with | .error e => .err e | .ok x => .ok x k (c + 1)) := by
  rw [parse.eq_def]; simp only; rw [if_neg h, hq]; simp only; rw [if_neg (by omega), if_neg (by omega), if_pos h7]
  all_goals (cases sevenP (f % 32) n <;> rfl)
theorem parse_deep (b : List UInt8) (c : Nat) (h : ¬ 256 ≤ c) {f n k : Nat} (hq : headP b = .ok (f, n, k)) (h3 : 4 ≤ f / 32) (h7 : f / 32 ≤ 6) : parse 0 b c = .err 8 := by
  rw [parse.eq_def]; simp only; rw [if_neg h, hq]; simp only; rw [if_neg (by omega), if_neg (by omega), if_neg (by omega)]
theorem parse_tag (d : Nat) (b : List UInt8) (c : Nat) (h : ¬ 256 ≤ c) {f n k : Nat} (hq : headP b = .ok (f, n, k)) (h6 : f / 32 = 6) : parse (d + 1) b c =
    (match parse d (b.drop k) (c + 1) with | .err e => .err e | .ok x k' c' => .ok (.mk 6 n [] [x]) (k + k') c') := by
  rw [parse.eq_def]; simp only; rw [if_neg h, hq]; simp only; rw [if_neg (by omega), if_neg (by omega), if_neg (by omega), if_pos h6]
  all_goals (cases parse d (b.drop k) (c + 1) <;> rfl)
theorem parse_map (d : Nat) (b : List UInt8) (c : Nat) (h : ¬ 256 ≤ c) {f n k : Nat} (hq : headP b = .ok (f, n, k)) (h5 : f / 32 = 5) : parse (d + 1) b c =
    (match mapP (parse d) n (b.drop k) (c + 1) none with | .err e => .err e | .ok l k' c' => .ok (.mk 5 0 [] l) (k + k') c') := by
  rw [parse.eq_def]; simp only; rw [if_neg h, hq]; simp only; rw [if_neg (by omega), if_neg (by omega), if_neg (by omega), if_neg (by omega), if_pos h5]
  all_goals (cases mapP (parse d) n (b.drop k) (c + 1) none <;> rfl)
theorem parse_arr (d : Nat) (b : List UInt8) (c : Nat) (h : ¬ 256 ≤ c) {f n k : Nat} (hq : headP b = .ok (f, n, k)) (h4 : f / 32 = 4) : parse (d + 1) b c =
    (match arrP (parse d) n (b.drop k) (c + 1) with | .err e => .err e | .ok l k' c' => .ok (.mk 4 0 [] l) (k + k') c') := by
  rw [parse.eq_def]; simp only; rw [if_neg h, hq]; simp only; rw [if_neg (by omega), if_neg (by omega), if_neg (by omega), if_neg (by omega), if_neg (by omega)]
  all_goals (cases arrP (parse d) n (b.drop k) (c + 1) <;> rfl)
end Go.Proofs.YtebcnkelbicbnaaGreatDoor
