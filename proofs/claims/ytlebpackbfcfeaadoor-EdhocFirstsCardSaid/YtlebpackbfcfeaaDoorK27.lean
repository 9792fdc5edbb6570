/- squeezed. Walks: the reference's reader: sim -/
import Derived.Test.YtlebpackbfcfeaaDoorK26
import Derived.Test.YtlebpackbfcfeaaDoorK06
import Derived.Test.YtlebpackbfcfeaaDoorK19
set_option linter.unusedVariables false
set_option linter.unusedSimpArgs false
set_option maxRecDepth 100000
set_option maxHeartbeats 6400000
namespace Go.Proofs.YtlebpackbfcfeaaDoor
open Go.RowKit
theorem widen5_lt {v : Nat} (hv : v < 65536) : widen5 v < 18446744073709551616 := by
 by_cases hn : v / 1024 % 32 = 31 ∧ v % 1024 ≠ 0
 ·rw [widen5, if_pos hn.1]; omega
 ·exact (widen5_nar hv hn).2
theorem widen8_lt {v : Nat} (hv : v < 4294967296) : widen8 v < 18446744073709551616 := by
 by_cases hn : v / 8388608 % 256 = 255 ∧ v % 8388608 ≠ 0
 ·rw [widen8, if_pos hn.1]; omega
 ·exact (widen8_nar hv hn).2
def specP (low : Nat) (b : List UInt8) (c : Nat) : PR :=
 if low < 24 then (match sevenP low low with | .error e => .err e | .ok x => .ok x 0 c)
 else if b.length < 2 ^ (low - 24) then .err 2
 else match sevenP low (beN (b.take (2 ^ (low - 24)))) with | .error e => .err e | .ok x => .ok x (2 ^ (low - 24)) c
theorem size_u64 : (Tryd.prog.info? 66).map (·.size) = some 1 := by kernel_rfl
section
variable {w : World} {H : Snap} {g : Nat} {A : Option Addr} {c : Nat} {l : List UInt8} {p cnt : Nat}
theorem r_special_low (hP : Psr 101 w g H A c l p cnt) (low : Nat) (h24 : low < 24) : Calls Tryd.prog 78 #[.pointer (some ⟨g, 0, none⟩), .int .i64 (low : Int)] w (ItemOut 101 w H g A c l p (specP low (l.drop p) cnt)) := by
 have hgl := hP.gt
 have hd0 := (Rdg.refl hP).alloc zeroO
 have hT0 := Blk.new w 69 #[.int .i64 0, .int .u64 0, .slice none 0 0, .slice none 0 0]
 have hn0 : H w.heap.size = none := hP.holds.none_of_ge (Nat.le_refl _)
 have E : Hid (specP low (l.drop p) cnt = .ok (.mk 7 low [] []) 0 cnt) := by rw [Hid, specP, if_pos h24, sevenP, if_pos h24]
 have z24 : (low : Int) < 24 := by omega
 have KU : IntKind.u64.wrap (low : Int) = (low : Int) := by rw [IntKind.wrap_u64]; omega
 have HL := Hh h24
 clear h24
 go_enter Tryd.func78, Tryd.ntmps78
 go_wp2_with (with_reducible refine stop_store ?_)
 unfold Stopped
 refine stI rfl rfl rfl rfl rfl hT0 rfl rfl rfl rfl rfl fun wz hTy hgz => ?_
 have hdz := hd0.gb hn0 (Nat.le_refl _) hgl hgz
 go_wp2_with fail
 refine ret_row_tmp rfl rfl hTy rfl rfl size_item rfl ?_
 exact ItemOut.ok (ja := none) (jb := 0) (jc := none) (jd := 0) E.out rfl hdz (IsItem.plain _ 7 low (by omega) (by have := HL.out; omega))
theorem r_special_24 (hP : Psr 101 w g H A c l p cnt) : Calls Tryd.prog 78 #[.pointer (some ⟨g, 0, none⟩), .int .i64 24] w (ItemOut 101 w H g A c l p (specP 24 (l.drop p) cnt)) := by
 have hgl := hP.gt
 have hd0 := (Rdg.refl hP).alloc zeroO
 have hT0 := Blk.new w 69 #[.int .i64 0, .int .u64 0, .slice none 0 0, .slice none 0 0]
 have hn0 : H w.heap.size = none := hP.holds.none_of_ge (Nat.le_refl _)
 have E0 : Hid (specP 24 (l.drop p) cnt = if (l.drop p).length < 1 then .err 2 else match sevenP 24 (beN ((l.drop p).take 1)) with | .error e => .err e | .ok x => .ok x 1 cnt) := by rw [Hid, specP, if_neg (by omega)]
 have NM := Hh (r_number hd0.psr 1 (by omega) (by omega))
 have HC := Hh hP.cnt_le
 go_enter Tryd.func78, Tryd.ntmps78
 go_wp2_with fail
 refine NM.out.mono ?_
 rintro e w3 (⟨hs, rfl, hB3, hG3⟩ | ⟨hs, rfl, hB3, hG3⟩)
 ·have E : Hid (specP 24 (l.drop p) cnt = .err 2) := by rw [Hid, E0.out, if_pos (by rw [List.length_drop]; have := hP.le; omega)]
  have hd3 : Rdg 101 w H w3 H g A c l p cnt := hd0.step hG3 hB3 hP.le HC.out
  have hT3 := hT0.gr hG3 (by omega)
  clear NM hs hd0 hT0 hB3 hG3
  go_wp2_with (with_reducible refine stop_store ?_)
  unfold Stopped
  refine stI rfl rfl rfl rfl rfl hT3 rfl rfl rfl rfl rfl fun wz hTy hgz => ?_
  have hdz := hd3.gb hn0 (Nat.le_refl _) hgl hgz
  go_wp2_with fail
  refine ret_row_tmp rfl rfl hTy rfl rfl size_item rfl ?_
  exact ItemOut.err E.out rfl hdz
 have hd3 : Rdg 101 w H w3 H g A c l (p + 1) cnt := hd0.step hG3 hB3 hs HC.out
 have hT3 := hT0.gr hG3 (by omega)
 have E1 : Hid (specP 24 (l.drop p) cnt = match sevenP 24 (beN ((l.drop p).take 1)) with | .error e => .err e | .ok x => .ok x 1 cnt) := by rw [Hid, E0.out, if_neg (by rw [List.length_drop]; omega)]
 have hnb := beN_lt ((l.drop p).take 1)
 have hnl : ((l.drop p).take 1).length = 1 := by rw [List.length_take, List.length_drop]; omega
 rw [hnl] at hnb
 simp only [Nat.reducePow] at hnb
 have hspec := fun x h => (seven_spec (low := 24) (x := x) (t := (l.drop p).take 1) (by omega) (fun h => by omega) (fun _ => ⟨by rw [hnl], rfl⟩) h).2.2.1
 obtain ⟨n, hn⟩ : ∃ n, beN ((l.drop p).take 1) = n := ⟨_, rfl⟩
 rw [hn] at E1 hnb hspec ⊢
 have HN := Hh hnb
 have HSP := Hh hspec
 clear NM hs hd0 hT0 hB3 hG3 E0 hn hnl hnb hspec
 have hX0 := Blk.new w3 69 #[.int .i64 0, .int .u64 0, .slice none 0 0, .slice none 0 0]
 have hd4 := hd3.alloc zeroO
 have hT4 := hT3.alloc zeroO
 have hlt3 := Hh hT3.lt
 have hXn : H w3.heap.size = none := hd3.psr.holds.none_of_ge (Nat.le_refl _)
 clear hd3 hT3
 go_wp2_with (with_reducible refine stop_store ?_)
 unfold Stopped
 refine stI rfl rfl rfl rfl rfl hX0 rfl rfl rfl rfl rfl fun w4 hX4 hg4 => ?_
 have hd5 := hd4.gb hXn (Nat.le_of_lt hlt3.out) hgl hg4
 have hT5 := hT4.grown hg4 (by intro e; injection e with e; have := hlt3.out; omega)
 clear hd4 hT4 hX0 hg4
 obtain ⟨X, hXX⟩ : ∃ X, w3.heap.size = X := ⟨_, rfl⟩
 rw [hXX] at hX4 hXn hlt3 ⊢
 clear hXX
 by_cases h32 : n < 32
 ·have z32 : (n : Int) < 32 := by omega
  have E : Hid (specP 24 (l.drop p) cnt = .err 4) := by rw [Hid, E1.out, sevenP, if_neg (by omega), if_pos rfl, if_pos h32]
  clear h32
  go_wp2_with (with_reducible refine stop_store ?_)
  unfold Stopped
  refine stI rfl rfl rfl rfl rfl hT5 rfl rfl rfl rfl rfl fun wz hTy hgz => ?_
  have hdz := hd5.gb hn0 (Nat.le_refl _) hgl hgz
  go_wp2_with fail
  refine ret_row_tmp rfl rfl hTy rfl rfl size_item rfl ?_
  exact ItemOut.err E.out rfl hdz
 ·have z32 : ¬ ((n : Int) < 32) := by omega
  have E : Hid (specP 24 (l.drop p) cnt = .ok (.mk 7 n [] []) 1 cnt) := by rw [Hid, E1.out, sevenP, if_neg (by omega), if_pos rfl, if_neg h32]
  clear h32
  go_wp2_with (with_reducible refine stop_store ?_)
  unfold Stopped
  refine stI rfl rfl rfl rfl rfl hT5 rfl rfl rfl rfl rfl fun wz hTy hgz => ?_
  have hdz := hd5.gb hn0 (Nat.le_refl _) hgl hgz
  go_wp2_with fail
  refine ret_row_tmp rfl rfl hTy rfl rfl size_item rfl ?_
  exact ItemOut.ok (ja := none) (jb := 0) (jc := none) (jd := 0) E.out rfl hdz (IsItem.plain _ 7 n (by omega) (by have := HN.out; omega))
theorem r_special_25 (hP : Psr 101 w g H A c l p cnt) : Calls Tryd.prog 78 #[.pointer (some ⟨g, 0, none⟩), .int .i64 25] w (ItemOut 101 w H g A c l p (specP 25 (l.drop p) cnt)) := by
 have hgl := hP.gt
 have hd0 := (Rdg.refl hP).alloc zeroO
 have hT0 := Blk.new w 69 #[.int .i64 0, .int .u64 0, .slice none 0 0, .slice none 0 0]
 have hn0 : H w.heap.size = none := hP.holds.none_of_ge (Nat.le_refl _)
 have E0 : Hid (specP 25 (l.drop p) cnt = if (l.drop p).length < 2 then .err 2 else match sevenP 25 (beN ((l.drop p).take 2)) with | .error e => .err e | .ok x => .ok x 2 cnt) := by rw [Hid, specP, if_neg (by omega)]
 have NM := Hh (r_number hd0.psr 2 (by omega) (by omega))
 have HC := Hh hP.cnt_le
 go_enter Tryd.func78, Tryd.ntmps78
 go_wp2_with fail
 refine NM.out.mono ?_
 rintro e w3 (⟨hs, rfl, hB3, hG3⟩ | ⟨hs, rfl, hB3, hG3⟩)
 ·have E : Hid (specP 25 (l.drop p) cnt = .err 2) := by rw [Hid, E0.out, if_pos (by rw [List.length_drop]; have := hP.le; omega)]
  have hd3 : Rdg 101 w H w3 H g A c l p cnt := hd0.step hG3 hB3 hP.le HC.out
  have hT3 := hT0.gr hG3 (by omega)
  clear NM hs hd0 hT0 hB3 hG3
  go_wp2_with (with_reducible refine stop_store ?_)
  unfold Stopped
  refine stI rfl rfl rfl rfl rfl hT3 rfl rfl rfl rfl rfl fun wz hTy hgz => ?_
  have hdz := hd3.gb hn0 (Nat.le_refl _) hgl hgz
  go_wp2_with fail
  refine ret_row_tmp rfl rfl hTy rfl rfl size_item rfl ?_
  exact ItemOut.err E.out rfl hdz
 have hd3 : Rdg 101 w H w3 H g A c l (p + 2) cnt := hd0.step hG3 hB3 hs HC.out
 have hT3 := hT0.gr hG3 (by omega)
 have E1 : Hid (specP 25 (l.drop p) cnt = match sevenP 25 (beN ((l.drop p).take 2)) with | .error e => .err e | .ok x => .ok x 2 cnt) := by rw [Hid, E0.out, if_neg (by rw [List.length_drop]; omega)]
 have hnb := beN_lt ((l.drop p).take 2)
 have hnl : ((l.drop p).take 2).length = 2 := by rw [List.length_take, List.length_drop]; omega
 rw [hnl] at hnb
 simp only [Nat.reducePow] at hnb
 have hspec := fun x h => (seven_spec (low := 25) (x := x) (t := (l.drop p).take 2) (by omega) (fun h => by omega) (fun _ => ⟨by rw [hnl], rfl⟩) h).2.2.1
 obtain ⟨n, hn⟩ : ∃ n, beN ((l.drop p).take 2) = n := ⟨_, rfl⟩
 rw [hn] at E1 hnb hspec ⊢
 have HN := Hh hnb
 have HSP := Hh hspec
 clear NM hs hd0 hT0 hB3 hG3 E0 hn hnl hnb hspec
 have hX0 := Blk.new w3 69 #[.int .i64 0, .int .u64 0, .slice none 0 0, .slice none 0 0]
 have hd4 := hd3.alloc zeroO
 have hT4 := hT3.alloc zeroO
 have hlt3 := Hh hT3.lt
 have hXn : H w3.heap.size = none := hd3.psr.holds.none_of_ge (Nat.le_refl _)
 clear hd3 hT3
 go_wp2_with (with_reducible refine stop_store ?_)
 unfold Stopped
 refine stI rfl rfl rfl rfl rfl hX0 rfl rfl rfl rfl rfl fun w4 hX4 hg4 => ?_
 have hd5 := hd4.gb hXn (Nat.le_of_lt hlt3.out) hgl hg4
 have hT5 := hT4.grown hg4 (by intro e; injection e with e; have := hlt3.out; omega)
 clear hd4 hT4 hX0 hg4
 obtain ⟨X, hXX⟩ : ∃ X, w3.heap.size = X := ⟨_, rfl⟩
 rw [hXX] at hX4 hXn hlt3 ⊢
 clear hXX
 have E2 : Hid (sevenP 25 n = if (isNaN (widen5 n) && widen5 n != notNumber) || (floatB (widen5 n)).length != 3 then .error 4 else .ok (.mk 8 (widen5 n) [] [])) := by
  rw [Hid, sevenP_f 25 n (by omega)]
  rw [show wideP 25 n = widen5 n by rw [wideP, if_pos rfl]]
 have hDl := widen5_lt HN.out
 have WD := Hh (fun w => ref_WidenV5 n HN.out w)
 obtain ⟨D, hD⟩ : ∃ D, widen5 n = D := ⟨_, rfl⟩
 rw [hD] at E2 hDl WD
 go_wp2_with fail
 refine (WD.out _).mono ?_
 rintro e w6 ⟨rfl, rfl⟩
 clear WD hD
 go_wp2_with (with_reducible refine stop_store ?_)
 unfold Stopped
 refine wpList_store_cell rfl _ _ _ rfl rfl X 1 (.int .u64 (D : Int)) rfl rfl _ _ hX4 size_u64 (by simp) rfl fun w7 hX7 hg7 => ?_
 have hd7 := hd5.gb hXn (Nat.le_of_lt hlt3.out) hgl hg7
 have hT7 := hT5.grown hg7 (by intro e; injection e with e; have := hlt3.out; omega)
 have hX7' : Blk w7 X 69 #[.int .i64 8, .int .u64 (D : Int), .slice none 0 0, .slice none 0 0] := hX7
 clear hd5 hT5 hX4 hg7 hX7
 have b0 := hX7'.cell 0 rfl
 have b1 := hX7'.cell 1 rfl
 have b2 := hX7'.cell 2 rfl
 have b3 := hX7'.cell 3 rfl
 have IN := Hh (fun w => ref_IsNaN D hDl w)
 have FL := Hh (fun w => ref_float D hDl w)
 have HDL := Hh hDl
 obtain ⟨fl, hfl⟩ : ∃ fl, (floatB D).length = fl := ⟨_, rfl⟩
 obtain ⟨nn, hnn⟩ : ∃ nn, isNaN D = nn := ⟨_, rfl⟩
 rw [hnn] at IN E2
 rw [hfl] at E2
 have HFL := Hh hfl
 clear hDl hnn hfl
 have hne : (D != notNumber) = true ∨ (D != notNumber) = false := by cases (D != notNumber) <;> simp
 cases nn with
 | true =>
  rcases hne with hne | hne
  ·have hne' : D ≠ 9221120237041090560 := by rw [bne_iff_ne] at hne; exact hne
   have c1 : ((D : Int) != 9221120237041090560) = true := by rw [bne_iff_ne]; omega
   have c1' : ((D : Int) = 9221120237041090560) = False := eq_false (by omega)
   have E : Hid (specP 25 (l.drop p) cnt = .err 4) := by rw [Hid, E1.out, E2.out, hne]; simp
   clear E1 E2 hne hne' HFL
   go_wp2_with fail
   refine (IN.out _).mono ?_
   rintro e w6 ⟨rfl, rfl⟩
   go_wp2_with (with_reducible refine stop_store ?_)
   unfold Stopped
   refine stI rfl rfl rfl rfl rfl hT7 rfl rfl rfl rfl rfl fun wz hTy hgz => ?_
   have hdz := hd7.gb hn0 (Nat.le_refl _) hgl hgz
   go_wp2_with fail
   refine ret_row_tmp rfl rfl hTy rfl rfl size_item rfl ?_
   exact ItemOut.err E.out rfl hdz
  ·have hne' : D = 9221120237041090560 := by rw [bne_eq_false_iff_eq] at hne; exact hne
   have c1 : ((D : Int) != 9221120237041090560) = false := by rw [bne_eq_false_iff_eq]; omega
   have c1' : ((D : Int) = 9221120237041090560) = True := eq_true (by omega)
   rw [hne] at E2
   clear hne hne'
   go_wp2_with fail
   refine (IN.out _).mono ?_
   rintro e w6 ⟨rfl, rfl⟩
   go_wp2_with fail
   refine (FL.out _).mono ?_
   rintro e w8 ⟨r, rfl, hf⟩
   have hd8 := hd7.below_ hf.2
   have hT8 := hT7.below hf.2
   have hX8 := hX7'.below hf.2
   obtain ⟨RA, rc, rfl, _⟩ := hf.own.form
   rw [HFL.out]
   clear b0 b1 b2 b3 hf
   have b0 := hX8.cell 0 rfl
   have b1 := hX8.cell 1 rfl
   have b2 := hX8.cell 2 rfl
   have b3 := hX8.cell 3 rfl
   by_cases hq : fl = 3
   ·subst hq
    have E : Hid (specP 25 (l.drop p) cnt = .ok (.mk 8 D [] []) 2 cnt) := by rw [Hid, E1.out, E2.out]; simp 
    clear E1 E2 HFL
    go_wp2_with (with_reducible refine stop_store ?_)
    unfold Stopped
    refine stI rfl rfl rfl rfl rfl hT8 rfl rfl rfl rfl rfl fun wz hTy hgz => ?_
    have hdz := hd8.gb hn0 (Nat.le_refl _) hgl hgz
    go_wp2_with fail
    refine ret_row_tmp rfl rfl hTy rfl rfl size_item rfl ?_
    exact ItemOut.ok (ja := none) (jb := 0) (jc := none) (jd := 0) E.out rfl hdz (IsItem.plain _ 8 D (by omega) HDL.out)
   ·have zq : ((fl : Int) == 3) = false := by simp; omega
    have zq2 : ((fl : Int) = 3) = False := eq_false (by omega)
    have E : Hid (specP 25 (l.drop p) cnt = .err 4) := by rw [Hid, E1.out, E2.out]; simp [hq]
    clear E1 E2 HFL hq
    go_wp2_with (with_reducible refine stop_store ?_)
    unfold Stopped
    refine stI rfl rfl rfl rfl rfl hT8 rfl rfl rfl rfl rfl fun wz hTy hgz => ?_
    have hdz := hd8.gb hn0 (Nat.le_refl _) hgl hgz
    go_wp2_with fail
    refine ret_row_tmp rfl rfl hTy rfl rfl size_item rfl ?_
    exact ItemOut.err E.out rfl hdz
 | false =>
  clear hne
  go_wp2_with fail
  refine (IN.out _).mono ?_
  rintro e w6 ⟨rfl, rfl⟩
  go_wp2_with fail
  refine (FL.out _).mono ?_
  rintro e w8 ⟨r, rfl, hf⟩
  have hd8 := hd7.below_ hf.2
  have hT8 := hT7.below hf.2
  have hX8 := hX7'.below hf.2
  obtain ⟨RA, rc, rfl, _⟩ := hf.own.form
  rw [HFL.out]
  clear b0 b1 b2 b3 hf
  have b0 := hX8.cell 0 rfl
  have b1 := hX8.cell 1 rfl
  have b2 := hX8.cell 2 rfl
  have b3 := hX8.cell 3 rfl
  by_cases hq : fl = 3
  ·subst hq
   have E : Hid (specP 25 (l.drop p) cnt = .ok (.mk 8 D [] []) 2 cnt) := by rw [Hid, E1.out, E2.out]; simp 
   clear E1 E2 HFL
   go_wp2_with (with_reducible refine stop_store ?_)
   unfold Stopped
   refine stI rfl rfl rfl rfl rfl hT8 rfl rfl rfl rfl rfl fun wz hTy hgz => ?_
   have hdz := hd8.gb hn0 (Nat.le_refl _) hgl hgz
   go_wp2_with fail
   refine ret_row_tmp rfl rfl hTy rfl rfl size_item rfl ?_
   exact ItemOut.ok (ja := none) (jb := 0) (jc := none) (jd := 0) E.out rfl hdz (IsItem.plain _ 8 D (by omega) HDL.out)
  ·have zq : ((fl : Int) == 3) = false := by simp; omega
   have zq2 : ((fl : Int) = 3) = False := eq_false (by omega)
   have E : Hid (specP 25 (l.drop p) cnt = .err 4) := by rw [Hid, E1.out, E2.out]; simp [hq]
   clear E1 E2 HFL hq
   go_wp2_with (with_reducible refine stop_store ?_)
   unfold Stopped
   refine stI rfl rfl rfl rfl rfl hT8 rfl rfl rfl rfl rfl fun wz hTy hgz => ?_
   have hdz := hd8.gb hn0 (Nat.le_refl _) hgl hgz
   go_wp2_with fail
   refine ret_row_tmp rfl rfl hTy rfl rfl size_item rfl ?_
   exact ItemOut.err E.out rfl hdz
theorem r_special_26 (hP : Psr 101 w g H A c l p cnt) : Calls Tryd.prog 78 #[.pointer (some ⟨g, 0, none⟩), .int .i64 26] w (ItemOut 101 w H g A c l p (specP 26 (l.drop p) cnt)) := by
 have hgl := hP.gt
 have hd0 := (Rdg.refl hP).alloc zeroO
 have hT0 := Blk.new w 69 #[.int .i64 0, .int .u64 0, .slice none 0 0, .slice none 0 0]
 have hn0 : H w.heap.size = none := hP.holds.none_of_ge (Nat.le_refl _)
 have E0 : Hid (specP 26 (l.drop p) cnt = if (l.drop p).length < 4 then .err 2 else match sevenP 26 (beN ((l.drop p).take 4)) with | .error e => .err e | .ok x => .ok x 4 cnt) := by rw [Hid, specP, if_neg (by omega)]
 have NM := Hh (r_number hd0.psr 4 (by omega) (by omega))
 have HC := Hh hP.cnt_le
 go_enter Tryd.func78, Tryd.ntmps78
 go_wp2_with fail
 refine NM.out.mono ?_
 rintro e w3 (⟨hs, rfl, hB3, hG3⟩ | ⟨hs, rfl, hB3, hG3⟩)
 ·have E : Hid (specP 26 (l.drop p) cnt = .err 2) := by rw [Hid, E0.out, if_pos (by rw [List.length_drop]; have := hP.le; omega)]
  have hd3 : Rdg 101 w H w3 H g A c l p cnt := hd0.step hG3 hB3 hP.le HC.out
  have hT3 := hT0.gr hG3 (by omega)
  clear NM hs hd0 hT0 hB3 hG3
  go_wp2_with (with_reducible refine stop_store ?_)
  unfold Stopped
  refine stI rfl rfl rfl rfl rfl hT3 rfl rfl rfl rfl rfl fun wz hTy hgz => ?_
  have hdz := hd3.gb hn0 (Nat.le_refl _) hgl hgz
  go_wp2_with fail
  refine ret_row_tmp rfl rfl hTy rfl rfl size_item rfl ?_
  exact ItemOut.err E.out rfl hdz
 have hd3 : Rdg 101 w H w3 H g A c l (p + 4) cnt := hd0.step hG3 hB3 hs HC.out
 have hT3 := hT0.gr hG3 (by omega)
 have E1 : Hid (specP 26 (l.drop p) cnt = match sevenP 26 (beN ((l.drop p).take 4)) with | .error e => .err e | .ok x => .ok x 4 cnt) := by rw [Hid, E0.out, if_neg (by rw [List.length_drop]; omega)]
 have hnb := beN_lt ((l.drop p).take 4)
 have hnl : ((l.drop p).take 4).length = 4 := by rw [List.length_take, List.length_drop]; omega
 rw [hnl] at hnb
 simp only [Nat.reducePow] at hnb
 have hspec := fun x h => (seven_spec (low := 26) (x := x) (t := (l.drop p).take 4) (by omega) (fun h => by omega) (fun _ => ⟨by rw [hnl], rfl⟩) h).2.2.1
 obtain ⟨n, hn⟩ : ∃ n, beN ((l.drop p).take 4) = n := ⟨_, rfl⟩
 rw [hn] at E1 hnb hspec ⊢
 have HN := Hh hnb
 have HSP := Hh hspec
 clear NM hs hd0 hT0 hB3 hG3 E0 hn hnl hnb hspec
 have hX0 := Blk.new w3 69 #[.int .i64 0, .int .u64 0, .slice none 0 0, .slice none 0 0]
 have hd4 := hd3.alloc zeroO
 have hT4 := hT3.alloc zeroO
 have hlt3 := Hh hT3.lt
 have hXn : H w3.heap.size = none := hd3.psr.holds.none_of_ge (Nat.le_refl _)
 clear hd3 hT3
 go_wp2_with (with_reducible refine stop_store ?_)
 unfold Stopped
 refine stI rfl rfl rfl rfl rfl hX0 rfl rfl rfl rfl rfl fun w4 hX4 hg4 => ?_
 have hd5 := hd4.gb hXn (Nat.le_of_lt hlt3.out) hgl hg4
 have hT5 := hT4.grown hg4 (by intro e; injection e with e; have := hlt3.out; omega)
 clear hd4 hT4 hX0 hg4
 obtain ⟨X, hXX⟩ : ∃ X, w3.heap.size = X := ⟨_, rfl⟩
 rw [hXX] at hX4 hXn hlt3 ⊢
 clear hXX
 have E2 : Hid (sevenP 26 n = if (isNaN (widen8 n) && widen8 n != notNumber) || (floatB (widen8 n)).length != 5 then .error 4 else .ok (.mk 8 (widen8 n) [] [])) := by
  rw [Hid, sevenP_f 26 n (by omega)]
  rw [show wideP 26 n = widen8 n by rw [wideP, if_neg (by omega), if_pos rfl]]
 have hDl := widen8_lt HN.out
 have WD := Hh (fun w => ref_WidenV8 n HN.out w)
 obtain ⟨D, hD⟩ : ∃ D, widen8 n = D := ⟨_, rfl⟩
 rw [hD] at E2 hDl WD
 go_wp2_with fail
 refine (WD.out _).mono ?_
 rintro e w6 ⟨rfl, rfl⟩
 clear WD hD
 go_wp2_with (with_reducible refine stop_store ?_)
 unfold Stopped
 refine wpList_store_cell rfl _ _ _ rfl rfl X 1 (.int .u64 (D : Int)) rfl rfl _ _ hX4 size_u64 (by simp) rfl fun w7 hX7 hg7 => ?_
 have hd7 := hd5.gb hXn (Nat.le_of_lt hlt3.out) hgl hg7
 have hT7 := hT5.grown hg7 (by intro e; injection e with e; have := hlt3.out; omega)
 have hX7' : Blk w7 X 69 #[.int .i64 8, .int .u64 (D : Int), .slice none 0 0, .slice none 0 0] := hX7
 clear hd5 hT5 hX4 hg7 hX7
 have b0 := hX7'.cell 0 rfl
 have b1 := hX7'.cell 1 rfl
 have b2 := hX7'.cell 2 rfl
 have b3 := hX7'.cell 3 rfl
 have IN := Hh (fun w => ref_IsNaN D hDl w)
 have FL := Hh (fun w => ref_float D hDl w)
 have HDL := Hh hDl
 obtain ⟨fl, hfl⟩ : ∃ fl, (floatB D).length = fl := ⟨_, rfl⟩
 obtain ⟨nn, hnn⟩ : ∃ nn, isNaN D = nn := ⟨_, rfl⟩
 rw [hnn] at IN E2
 rw [hfl] at E2
 have HFL := Hh hfl
 clear hDl hnn hfl
 have hne : (D != notNumber) = true ∨ (D != notNumber) = false := by cases (D != notNumber) <;> simp
 cases nn with
 | true =>
  rcases hne with hne | hne
  ·have hne' : D ≠ 9221120237041090560 := by rw [bne_iff_ne] at hne; exact hne
   have c1 : ((D : Int) != 9221120237041090560) = true := by rw [bne_iff_ne]; omega
   have c1' : ((D : Int) = 9221120237041090560) = False := eq_false (by omega)
   have E : Hid (specP 26 (l.drop p) cnt = .err 4) := by rw [Hid, E1.out, E2.out, hne]; simp
   clear E1 E2 hne hne' HFL
   go_wp2_with fail
   refine (IN.out _).mono ?_
   rintro e w6 ⟨rfl, rfl⟩
   go_wp2_with (with_reducible refine stop_store ?_)
   unfold Stopped
   refine stI rfl rfl rfl rfl rfl hT7 rfl rfl rfl rfl rfl fun wz hTy hgz => ?_
   have hdz := hd7.gb hn0 (Nat.le_refl _) hgl hgz
   go_wp2_with fail
   refine ret_row_tmp rfl rfl hTy rfl rfl size_item rfl ?_
   exact ItemOut.err E.out rfl hdz
  ·have hne' : D = 9221120237041090560 := by rw [bne_eq_false_iff_eq] at hne; exact hne
   have c1 : ((D : Int) != 9221120237041090560) = false := by rw [bne_eq_false_iff_eq]; omega
   have c1' : ((D : Int) = 9221120237041090560) = True := eq_true (by omega)
   rw [hne] at E2
   clear hne hne'
   go_wp2_with fail
   refine (IN.out _).mono ?_
   rintro e w6 ⟨rfl, rfl⟩
   go_wp2_with fail
   refine (FL.out _).mono ?_
   rintro e w8 ⟨r, rfl, hf⟩
   have hd8 := hd7.below_ hf.2
   have hT8 := hT7.below hf.2
   have hX8 := hX7'.below hf.2
   obtain ⟨RA, rc, rfl, _⟩ := hf.own.form
   rw [HFL.out]
   clear b0 b1 b2 b3 hf
   have b0 := hX8.cell 0 rfl
   have b1 := hX8.cell 1 rfl
   have b2 := hX8.cell 2 rfl
   have b3 := hX8.cell 3 rfl
   by_cases hq : fl = 5
   ·subst hq
    have E : Hid (specP 26 (l.drop p) cnt = .ok (.mk 8 D [] []) 4 cnt) := by rw [Hid, E1.out, E2.out]; simp 
    clear E1 E2 HFL
    go_wp2_with (with_reducible refine stop_store ?_)
    unfold Stopped
    refine stI rfl rfl rfl rfl rfl hT8 rfl rfl rfl rfl rfl fun wz hTy hgz => ?_
    have hdz := hd8.gb hn0 (Nat.le_refl _) hgl hgz
    go_wp2_with fail
    refine ret_row_tmp rfl rfl hTy rfl rfl size_item rfl ?_
    exact ItemOut.ok (ja := none) (jb := 0) (jc := none) (jd := 0) E.out rfl hdz (IsItem.plain _ 8 D (by omega) HDL.out)
   ·have zq : ((fl : Int) == 5) = false := by simp; omega
    have zq2 : ((fl : Int) = 5) = False := eq_false (by omega)
    have E : Hid (specP 26 (l.drop p) cnt = .err 4) := by rw [Hid, E1.out, E2.out]; simp [hq]
    clear E1 E2 HFL hq
    go_wp2_with (with_reducible refine stop_store ?_)
    unfold Stopped
    refine stI rfl rfl rfl rfl rfl hT8 rfl rfl rfl rfl rfl fun wz hTy hgz => ?_
    have hdz := hd8.gb hn0 (Nat.le_refl _) hgl hgz
    go_wp2_with fail
    refine ret_row_tmp rfl rfl hTy rfl rfl size_item rfl ?_
    exact ItemOut.err E.out rfl hdz
 | false =>
  clear hne
  go_wp2_with fail
  refine (IN.out _).mono ?_
  rintro e w6 ⟨rfl, rfl⟩
  go_wp2_with fail
  refine (FL.out _).mono ?_
  rintro e w8 ⟨r, rfl, hf⟩
  have hd8 := hd7.below_ hf.2
  have hT8 := hT7.below hf.2
  have hX8 := hX7'.below hf.2
  obtain ⟨RA, rc, rfl, _⟩ := hf.own.form
  rw [HFL.out]
  clear b0 b1 b2 b3 hf
  have b0 := hX8.cell 0 rfl
  have b1 := hX8.cell 1 rfl
  have b2 := hX8.cell 2 rfl
  have b3 := hX8.cell 3 rfl
  by_cases hq : fl = 5
  ·subst hq
   have E : Hid (specP 26 (l.drop p) cnt = .ok (.mk 8 D [] []) 4 cnt) := by rw [Hid, E1.out, E2.out]; simp 
   clear E1 E2 HFL
   go_wp2_with (with_reducible refine stop_store ?_)
   unfold Stopped
   refine stI rfl rfl rfl rfl rfl hT8 rfl rfl rfl rfl rfl fun wz hTy hgz => ?_
   have hdz := hd8.gb hn0 (Nat.le_refl _) hgl hgz
   go_wp2_with fail
   refine ret_row_tmp rfl rfl hTy rfl rfl size_item rfl ?_
   exact ItemOut.ok (ja := none) (jb := 0) (jc := none) (jd := 0) E.out rfl hdz (IsItem.plain _ 8 D (by omega) HDL.out)
  ·have zq : ((fl : Int) == 5) = false := by simp; omega
   have zq2 : ((fl : Int) = 5) = False := eq_false (by omega)
   have E : Hid (specP 26 (l.drop p) cnt = .err 4) := by rw [Hid, E1.out, E2.out]; simp [hq]
   clear E1 E2 HFL hq
   go_wp2_with (with_reducible refine stop_store ?_)
   unfold Stopped
   refine stI rfl rfl rfl rfl rfl hT8 rfl rfl rfl rfl rfl fun wz hTy hgz => ?_
   have hdz := hd8.gb hn0 (Nat.le_refl _) hgl hgz
   go_wp2_with fail
   refine ret_row_tmp rfl rfl hTy rfl rfl size_item rfl ?_
   exact ItemOut.err E.out rfl hdz
theorem r_special_27 (hP : Psr 101 w g H A c l p cnt) : Calls Tryd.prog 78 #[.pointer (some ⟨g, 0, none⟩), .int .i64 27] w (ItemOut 101 w H g A c l p (specP 27 (l.drop p) cnt)) := by
 have hgl := hP.gt
 have hd0 := (Rdg.refl hP).alloc zeroO
 have hT0 := Blk.new w 69 #[.int .i64 0, .int .u64 0, .slice none 0 0, .slice none 0 0]
 have hn0 : H w.heap.size = none := hP.holds.none_of_ge (Nat.le_refl _)
 have E0 : Hid (specP 27 (l.drop p) cnt = if (l.drop p).length < 8 then .err 2 else match sevenP 27 (beN ((l.drop p).take 8)) with | .error e => .err e | .ok x => .ok x 8 cnt) := by rw [Hid, specP, if_neg (by omega)]
 have NM := Hh (r_number hd0.psr 8 (by omega) (by omega))
 have HC := Hh hP.cnt_le
 go_enter Tryd.func78, Tryd.ntmps78
 go_wp2_with fail
 refine NM.out.mono ?_
 rintro e w3 (⟨hs, rfl, hB3, hG3⟩ | ⟨hs, rfl, hB3, hG3⟩)
 ·have E : Hid (specP 27 (l.drop p) cnt = .err 2) := by rw [Hid, E0.out, if_pos (by rw [List.length_drop]; have := hP.le; omega)]
  have hd3 : Rdg 101 w H w3 H g A c l p cnt := hd0.step hG3 hB3 hP.le HC.out
  have hT3 := hT0.gr hG3 (by omega)
  clear NM hs hd0 hT0 hB3 hG3
  go_wp2_with (with_reducible refine stop_store ?_)
  unfold Stopped
  refine stI rfl rfl rfl rfl rfl hT3 rfl rfl rfl rfl rfl fun wz hTy hgz => ?_
  have hdz := hd3.gb hn0 (Nat.le_refl _) hgl hgz
  go_wp2_with fail
  refine ret_row_tmp rfl rfl hTy rfl rfl size_item rfl ?_
  exact ItemOut.err E.out rfl hdz
 have hd3 : Rdg 101 w H w3 H g A c l (p + 8) cnt := hd0.step hG3 hB3 hs HC.out
 have hT3 := hT0.gr hG3 (by omega)
 have E1 : Hid (specP 27 (l.drop p) cnt = match sevenP 27 (beN ((l.drop p).take 8)) with | .error e => .err e | .ok x => .ok x 8 cnt) := by rw [Hid, E0.out, if_neg (by rw [List.length_drop]; omega)]
 have hnb := beN_lt ((l.drop p).take 8)
 have hnl : ((l.drop p).take 8).length = 8 := by rw [List.length_take, List.length_drop]; omega
 rw [hnl] at hnb
 simp only [Nat.reducePow] at hnb
 have hspec := fun x h => (seven_spec (low := 27) (x := x) (t := (l.drop p).take 8) (by omega) (fun h => by omega) (fun _ => ⟨by rw [hnl], rfl⟩) h).2.2.1
 obtain ⟨n, hn⟩ : ∃ n, beN ((l.drop p).take 8) = n := ⟨_, rfl⟩
 rw [hn] at E1 hnb hspec ⊢
 have HN := Hh hnb
 have HSP := Hh hspec
 clear NM hs hd0 hT0 hB3 hG3 E0 hn hnl hnb hspec
 have hX0 := Blk.new w3 69 #[.int .i64 0, .int .u64 0, .slice none 0 0, .slice none 0 0]
 have hd4 := hd3.alloc zeroO
 have hT4 := hT3.alloc zeroO
 have hlt3 := Hh hT3.lt
 have hXn : H w3.heap.size = none := hd3.psr.holds.none_of_ge (Nat.le_refl _)
 clear hd3 hT3
 go_wp2_with (with_reducible refine stop_store ?_)
 unfold Stopped
 refine stI rfl rfl rfl rfl rfl hX0 rfl rfl rfl rfl rfl fun w4 hX4 hg4 => ?_
 have hd5 := hd4.gb hXn (Nat.le_of_lt hlt3.out) hgl hg4
 have hT5 := hT4.grown hg4 (by intro e; injection e with e; have := hlt3.out; omega)
 clear hd4 hT4 hX0 hg4
 obtain ⟨X, hXX⟩ : ∃ X, w3.heap.size = X := ⟨_, rfl⟩
 rw [hXX] at hX4 hXn hlt3 ⊢
 clear hXX
 have E2 : Hid (sevenP 27 n = if (isNaN (n) && n != notNumber) || (floatB (n)).length != 9 then .error 4 else .ok (.mk 8 (n) [] [])) := by
  rw [Hid, sevenP_f 27 n (by omega)]
  rw [show wideP 27 n = n by rw [wideP, if_neg (by omega), if_neg (by omega)]]
 have hDl := HN.out
 obtain ⟨D, hD⟩ : ∃ D, n = D := ⟨_, rfl⟩
 subst hD
 have hd7 := hd5
 have hT7 := hT5
 have hX7' := hX4
 clear hd5 hT5 hX4
 have b0 := hX7'.cell 0 rfl
 have b1 := hX7'.cell 1 rfl
 have b2 := hX7'.cell 2 rfl
 have b3 := hX7'.cell 3 rfl
 have IN := Hh (fun w => ref_IsNaN n hDl w)
 have FL := Hh (fun w => ref_float n hDl w)
 have HDL := Hh hDl
 obtain ⟨fl, hfl⟩ : ∃ fl, (floatB n).length = fl := ⟨_, rfl⟩
 obtain ⟨nn, hnn⟩ : ∃ nn, isNaN n = nn := ⟨_, rfl⟩
 rw [hnn] at IN E2
 rw [hfl] at E2
 have HFL := Hh hfl
 clear hDl hnn hfl
 have hne : (n != notNumber) = true ∨ (n != notNumber) = false := by cases (n != notNumber) <;> simp
 cases nn with
 | true =>
  rcases hne with hne | hne
  ·have hne' : n ≠ 9221120237041090560 := by rw [bne_iff_ne] at hne; exact hne
   have c1 : ((n : Int) != 9221120237041090560) = true := by rw [bne_iff_ne]; omega
   have c1' : ((n : Int) = 9221120237041090560) = False := eq_false (by omega)
   have E : Hid (specP 27 (l.drop p) cnt = .err 4) := by rw [Hid, E1.out, E2.out, hne]; simp
   clear E1 E2 hne hne' HFL
   go_wp2_with fail
   refine (IN.out _).mono ?_
   rintro e w6 ⟨rfl, rfl⟩
   go_wp2_with (with_reducible refine stop_store ?_)
   unfold Stopped
   refine stI rfl rfl rfl rfl rfl hT7 rfl rfl rfl rfl rfl fun wz hTy hgz => ?_
   have hdz := hd7.gb hn0 (Nat.le_refl _) hgl hgz
   go_wp2_with fail
   refine ret_row_tmp rfl rfl hTy rfl rfl size_item rfl ?_
   exact ItemOut.err E.out rfl hdz
  ·have hne' : n = 9221120237041090560 := by rw [bne_eq_false_iff_eq] at hne; exact hne
   have c1 : ((n : Int) != 9221120237041090560) = false := by rw [bne_eq_false_iff_eq]; omega
   have c1' : ((n : Int) = 9221120237041090560) = True := eq_true (by omega)
   rw [hne] at E2
   clear hne hne'
   go_wp2_with fail
   refine (IN.out _).mono ?_
   rintro e w6 ⟨rfl, rfl⟩
   go_wp2_with fail
   refine (FL.out _).mono ?_
   rintro e w8 ⟨r, rfl, hf⟩
   have hd8 := hd7.below_ hf.2
   have hT8 := hT7.below hf.2
   have hX8 := hX7'.below hf.2
   obtain ⟨RA, rc, rfl, _⟩ := hf.own.form
   rw [HFL.out]
   clear b0 b1 b2 b3 hf
   have b0 := hX8.cell 0 rfl
   have b1 := hX8.cell 1 rfl
   have b2 := hX8.cell 2 rfl
   have b3 := hX8.cell 3 rfl
   by_cases hq : fl = 9
   ·subst hq
    have E : Hid (specP 27 (l.drop p) cnt = .ok (.mk 8 n [] []) 8 cnt) := by rw [Hid, E1.out, E2.out]; simp 
    clear E1 E2 HFL
    go_wp2_with (with_reducible refine stop_store ?_)
    unfold Stopped
    refine stI rfl rfl rfl rfl rfl hT8 rfl rfl rfl rfl rfl fun wz hTy hgz => ?_
    have hdz := hd8.gb hn0 (Nat.le_refl _) hgl hgz
    go_wp2_with fail
    refine ret_row_tmp rfl rfl hTy rfl rfl size_item rfl ?_
    exact ItemOut.ok (ja := none) (jb := 0) (jc := none) (jd := 0) E.out rfl hdz (IsItem.plain _ 8 n (by omega) HDL.out)
   ·have zq : ((fl : Int) == 9) = false := by simp; omega
    have zq2 : ((fl : Int) = 9) = False := eq_false (by omega)
    have E : Hid (specP 27 (l.drop p) cnt = .err 4) := by rw [Hid, E1.out, E2.out]; simp [hq]
    clear E1 E2 HFL hq
    go_wp2_with (with_reducible refine stop_store ?_)
    unfold Stopped
    refine stI rfl rfl rfl rfl rfl hT8 rfl rfl rfl rfl rfl fun wz hTy hgz => ?_
    have hdz := hd8.gb hn0 (Nat.le_refl _) hgl hgz
    go_wp2_with fail
    refine ret_row_tmp rfl rfl hTy rfl rfl size_item rfl ?_
    exact ItemOut.err E.out rfl hdz
 | false =>
  clear hne
  go_wp2_with fail
  refine (IN.out _).mono ?_
  rintro e w6 ⟨rfl, rfl⟩
  go_wp2_with fail
  refine (FL.out _).mono ?_
  rintro e w8 ⟨r, rfl, hf⟩
  have hd8 := hd7.below_ hf.2
  have hT8 := hT7.below hf.2
  have hX8 := hX7'.below hf.2
  obtain ⟨RA, rc, rfl, _⟩ := hf.own.form
  rw [HFL.out]
  clear b0 b1 b2 b3 hf
  have b0 := hX8.cell 0 rfl
  have b1 := hX8.cell 1 rfl
  have b2 := hX8.cell 2 rfl
  have b3 := hX8.cell 3 rfl
  by_cases hq : fl = 9
  ·subst hq
   have E : Hid (specP 27 (l.drop p) cnt = .ok (.mk 8 n [] []) 8 cnt) := by rw [Hid, E1.out, E2.out]; simp 
   clear E1 E2 HFL
   go_wp2_with (with_reducible refine stop_store ?_)
   unfold Stopped
   refine stI rfl rfl rfl rfl rfl hT8 rfl rfl rfl rfl rfl fun wz hTy hgz => ?_
   have hdz := hd8.gb hn0 (Nat.le_refl _) hgl hgz
   go_wp2_with fail
   refine ret_row_tmp rfl rfl hTy rfl rfl size_item rfl ?_
   exact ItemOut.ok (ja := none) (jb := 0) (jc := none) (jd := 0) E.out rfl hdz (IsItem.plain _ 8 n (by omega) HDL.out)
  ·have zq : ((fl : Int) == 9) = false := by simp; omega
   have zq2 : ((fl : Int) = 9) = False := eq_false (by omega)
   have E : Hid (specP 27 (l.drop p) cnt = .err 4) := by rw [Hid, E1.out, E2.out]; simp [hq]
   clear E1 E2 HFL hq
   go_wp2_with (with_reducible refine stop_store ?_)
   unfold Stopped
   refine stI rfl rfl rfl rfl rfl hT8 rfl rfl rfl rfl rfl fun wz hTy hgz => ?_
   have hdz := hd8.gb hn0 (Nat.le_refl _) hgl hgz
   go_wp2_with fail
   refine ret_row_tmp rfl rfl hTy rfl rfl size_item rfl ?_
   exact ItemOut.err E.out rfl hdz
theorem r_special (hP : Psr 101 w g H A c l p cnt) (low : Nat) (hl : low ≤ 27) : Calls Tryd.prog 78 #[.pointer (some ⟨g, 0, none⟩), .int .i64 (low : Int)] w (ItemOut 101 w H g A c l p (specP low (l.drop p) cnt)) := by
 by_cases h : low < 24
 ·exact r_special_low hP low h
 rcases (by omega : low = 24 ∨ low = 25 ∨ low = 26 ∨ low = 27) with rfl | rfl | rfl | rfl
 ·exact r_special_24 hP
 ·exact r_special_25 hP
 ·exact r_special_26 hP
 ·exact r_special_27 hP
end
end Go.Proofs.YtlebpackbfcfeaaDoor
