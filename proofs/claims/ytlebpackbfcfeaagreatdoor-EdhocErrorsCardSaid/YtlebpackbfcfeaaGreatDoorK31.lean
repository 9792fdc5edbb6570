/- squeezed. Walks: the reference's reader: sim -/
import Derived.Test.YtlebpackbfcfeaaGreatDoorK30
import Derived.Test.YtlebpackbfcfeaaGreatDoorK02
import Derived.Test.YtlebpackbfcfeaaGreatDoorK23
import Derived.Test.YtlebpackbfcfeaaGreatDoorK26
set_option linter.unusedVariables false
set_option linter.unusedSimpArgs false
set_option maxRecDepth 100000
set_option maxHeartbeats 6400000
namespace Go.Proofs.YtlebpackbfcfeaaGreatDoor
open Go.RowKit
theorem widen5_lt {v : Nat} (hv : v < 65536) : widen5 v < 18446744073709551616 := by
 by_cases hn : v / 1024 % 32 = 31 ∧ v % 1024 ≠ 0
 ·rw [widen5, if_pos hn.1]; omega
 ·exact (widen5_nar hv hn).2
theorem widen8_lt {v : Nat} (hv : v < 4294967296) : widen8 v < 18446744073709551616 := by
 by_cases hn : v / 8388608 % 256 = 255 ∧ v % 8388608 ≠ 0
 ·rw [widen8, if_pos hn.1]; omega
 ·exact (widen8_nar hv hn).2
def specP (low : Nat) (b : List UInt8) (c : Nat) : PR :=
 if low < 24 then (match sevenP low low with | .error e => .err e | .ok x => .ok x 0 c)
 else if b.length < 2 ^ (low - 24) then .err 2
 else match sevenP low (beN (b.take (2 ^ (low - 24)))) with | .error e => .err e | .ok x => .ok x (2 ^ (low - 24)) c
theorem size_u64 : (Tryz.prog.info? 28).map (·.size) = some 1 := by kernel_rfl
section
variable {w : World} {H : Snap} {g : Nat} {A : Option Addr} {c : Nat} {l : List UInt8} {p cnt : Nat}
theorem r_special_low (hP : Psr 97 w g H A c l p cnt) (low : Nat) (h24 : low < 24) : Calls Tryz.prog 74 #[.pointer (some ⟨g, 0, none⟩), .int .i64 (low : Int)] w (ItemOut 97 w H g A c l p (specP low (l.drop p) cnt)) := by
 have hgl := hP.gt;have hd0 := (Rdg.refl hP).alloc zeroO;have hT0 := Blk.new w 31 #[.int .i64 0, .int .u64 0, .slice none 0 0, .slice none 0 0];have hn0 : H w.heap.size = none := hP.holds.none_of_ge (Nat.le_refl _);have E : Hid (specP low (l.drop p) cnt = .ok (.mk 7 low [] []) 0 cnt) := by rw [Hid, specP, if_pos h24, sevenP, if_pos h24]
 have z24 : (low : Int) < 24 := by omega
 have KU : IntKind.u64.wrap (low : Int) = (low : Int) := by rw [IntKind.wrap_u64]; omega
 have HL := Hh h24;clear h24;go_enter Tryz.func74, Tryz.ntmps74
 go_wp2_with (with_reducible refine stop_store ?_)
 refine stI hT0 fun wz hTy hgz => ?_
 have hdz := hd0.gb hn0 (Nat.le_refl _) hgl hgz;go_wp2_with fail
 refine ret_row_tmp rfl rfl hTy rfl rfl size_item rfl ?_
 exact ItemOut.ok (ja := none) (jb := 0) (jc := none) (jd := 0) E.out rfl hdz (IsItem.plain _ 7 low (by omega) (by have := HL.out; omega))
theorem r_special_24 (hP : Psr 97 w g H A c l p cnt) : Calls Tryz.prog 74 #[.pointer (some ⟨g, 0, none⟩), .int .i64 24] w (ItemOut 97 w H g A c l p (specP 24 (l.drop p) cnt)) := by
 have hgl := hP.gt;have hd0 := (Rdg.refl hP).alloc zeroO;have hT0 := Blk.new w 31 #[.int .i64 0, .int .u64 0, .slice none 0 0, .slice none 0 0];have hn0 : H w.heap.size = none := hP.holds.none_of_ge (Nat.le_refl _);have E0 : Hid (specP 24 (l.drop p) cnt = if (l.drop p).length < 1 then .err 2 else match sevenP 24 (beN ((l.drop p).take 1)) with | .error e => .err e | .ok x => .ok x 1 cnt) := by rw [Hid, specP, if_neg (by omega)]
 have NM := Hh (r_number hd0.psr 1 (by omega) (by omega));have HC := Hh hP.cnt_le;go_enter Tryz.func74, Tryz.ntmps74
 go_wp2_with fail
 refine NM.out.mono ?_
 rintro e w3 (⟨hs, rfl, hB3, hG3⟩ | ⟨hs, rfl, hB3, hG3⟩)
 ·have E : Hid (specP 24 (l.drop p) cnt = .err 2) := by rw [Hid, E0.out, if_pos (by rw [List.length_drop]; have := hP.le; omega)]
  have hd3 : Rdg 97 w H w3 H g A c l p cnt := hd0.step hG3 hB3 hP.le HC.out;have hT3 := hT0.gr hG3 (by omega);clear NM hs hd0 hT0 hB3 hG3;go_wp2_with (with_reducible refine stop_store ?_)
  refine stI hT3 fun wz hTy hgz => ?_
  have hdz := hd3.gb hn0 (Nat.le_refl _) hgl hgz;go_wp2_with fail
  refine ret_row_tmp rfl rfl hTy rfl rfl size_item rfl ?_
  exact ItemOut.err E.out rfl hdz
 have hd3 : Rdg 97 w H w3 H g A c l (p + 1) cnt := hd0.step hG3 hB3 hs HC.out;have hT3 := hT0.gr hG3 (by omega);have E1 : Hid (specP 24 (l.drop p) cnt = match sevenP 24 (beN ((l.drop p).take 1)) with | .error e => .err e | .ok x => .ok x 1 cnt) := by rw [Hid, E0.out, if_neg (by rw [List.length_drop]; omega)]
 have hnb := beN_lt ((l.drop p).take 1);have hnl : ((l.drop p).take 1).length = 1 := by rw [List.length_take, List.length_drop]; omega
 rw [hnl] at hnb
 simp only [Nat.reducePow] at hnb
 have hspec := fun x h => (seven_spec (low := 24) (x := x) (t := (l.drop p).take 1) (by omega) (fun h => by omega) (fun _ => ⟨by rw [hnl], rfl⟩) h).2.2.1
 obtain ⟨n, hn⟩ : ∃ n, beN ((l.drop p).take 1) = n := ⟨_, rfl⟩
 rw [hn] at E1 hnb hspec ⊢;have HN := Hh hnb;have HSP := Hh hspec;clear NM hs hd0 hT0 hB3 hG3 E0 hn hnl hnb hspec;have hX0 := Blk.new w3 31 #[.int .i64 0, .int .u64 0, .slice none 0 0, .slice none 0 0];have hd4 := hd3.alloc zeroO;have hT4 := hT3.alloc zeroO;have hlt3 := Hh hT3.lt;have hXn : H w3.heap.size = none := hd3.psr.holds.none_of_ge (Nat.le_refl _);clear hd3 hT3;go_wp2_with (with_reducible refine stop_store ?_)
 refine stI hX0 fun w4 hX4 hg4 => ?_
 have hd5 := hd4.gb hXn (Nat.le_of_lt hlt3.out) hgl hg4;have hT5 := hT4.grown hg4 (by intro e; injection e with e; have := hlt3.out; omega);clear hd4 hT4 hX0 hg4;obtain ⟨X, hXX⟩ : ∃ X, w3.heap.size = X := ⟨_, rfl⟩
 rw [hXX] at hX4 hXn hlt3 ⊢;clear hXX
 by_cases h32 : n < 32
 ·have z32 : (n : Int) < 32 := by omega
  have E : Hid (specP 24 (l.drop p) cnt = .err 4) := by rw [Hid, E1.out, sevenP, if_neg (by omega), if_pos rfl, if_pos h32]
  clear h32;go_wp2_with (with_reducible refine stop_store ?_)
  refine stI hT5 fun wz hTy hgz => ?_
  have hdz := hd5.gb hn0 (Nat.le_refl _) hgl hgz;go_wp2_with fail
  refine ret_row_tmp rfl rfl hTy rfl rfl size_item rfl ?_
  exact ItemOut.err E.out rfl hdz
 ·have z32 : ¬ ((n : Int) < 32) := by omega
  have E : Hid (specP 24 (l.drop p) cnt = .ok (.mk 7 n [] []) 1 cnt) := by rw [Hid, E1.out, sevenP, if_neg (by omega), if_pos rfl, if_neg h32]
  clear h32;go_wp2_with (with_reducible refine stop_store ?_)
  refine stI hT5 fun wz hTy hgz => ?_
  have hdz := hd5.gb hn0 (Nat.le_refl _) hgl hgz;go_wp2_with fail
  refine ret_row_tmp rfl rfl hTy rfl rfl size_item rfl ?_
  exact ItemOut.ok (ja := none) (jb := 0) (jc := none) (jd := 0) E.out rfl hdz (IsItem.plain _ 7 n (by omega) (by have := HN.out; omega))
theorem r_special_25 (hP : Psr 97 w g H A c l p cnt) : Calls Tryz.prog 74 #[.pointer (some ⟨g, 0, none⟩), .int .i64 25] w (ItemOut 97 w H g A c l p (specP 25 (l.drop p) cnt)) := by
 have hgl := hP.gt;have hd0 := (Rdg.refl hP).alloc zeroO;have hT0 := Blk.new w 31 #[.int .i64 0, .int .u64 0, .slice none 0 0, .slice none 0 0];have hn0 : H w.heap.size = none := hP.holds.none_of_ge (Nat.le_refl _);have E0 : Hid (specP 25 (l.drop p) cnt = if (l.drop p).length < 2 then .err 2 else match sevenP 25 (beN ((l.drop p).take 2)) with | .error e => .err e | .ok x => .ok x 2 cnt) := by rw [Hid, specP, if_neg (by omega)]
 have NM := Hh (r_number hd0.psr 2 (by omega) (by omega));have HC := Hh hP.cnt_le;go_enter Tryz.func74, Tryz.ntmps74
 go_wp2_with fail
 refine NM.out.mono ?_
 rintro e w3 (⟨hs, rfl, hB3, hG3⟩ | ⟨hs, rfl, hB3, hG3⟩)
 ·have E : Hid (specP 25 (l.drop p) cnt = .err 2) := by rw [Hid, E0.out, if_pos (by rw [List.length_drop]; have := hP.le; omega)]
  have hd3 : Rdg 97 w H w3 H g A c l p cnt := hd0.step hG3 hB3 hP.le HC.out;have hT3 := hT0.gr hG3 (by omega);clear NM hs hd0 hT0 hB3 hG3;go_wp2_with (with_reducible refine stop_store ?_)
  refine stI hT3 fun wz hTy hgz => ?_
  have hdz := hd3.gb hn0 (Nat.le_refl _) hgl hgz;go_wp2_with fail
  refine ret_row_tmp rfl rfl hTy rfl rfl size_item rfl ?_
  exact ItemOut.err E.out rfl hdz
 have hd3 : Rdg 97 w H w3 H g A c l (p + 2) cnt := hd0.step hG3 hB3 hs HC.out;have hT3 := hT0.gr hG3 (by omega);have E1 : Hid (specP 25 (l.drop p) cnt = match sevenP 25 (beN ((l.drop p).take 2)) with | .error e => .err e | .ok x => .ok x 2 cnt) := by rw [Hid, E0.out, if_neg (by rw [List.length_drop]; omega)]
 have hnb := beN_lt ((l.drop p).take 2);have hnl : ((l.drop p).take 2).length = 2 := by rw [List.length_take, List.length_drop]; omega
 rw [hnl] at hnb
 simp only [Nat.reducePow] at hnb
 have hspec := fun x h => (seven_spec (low := 25) (x := x) (t := (l.drop p).take 2) (by omega) (fun h => by omega) (fun _ => ⟨by rw [hnl], rfl⟩) h).2.2.1
 obtain ⟨n, hn⟩ : ∃ n, beN ((l.drop p).take 2) = n := ⟨_, rfl⟩
 rw [hn] at E1 hnb hspec ⊢;have HN := Hh hnb;have HSP := Hh hspec;clear NM hs hd0 hT0 hB3 hG3 E0 hn hnl hnb hspec;have hX0 := Blk.new w3 31 #[.int .i64 0, .int .u64 0, .slice none 0 0, .slice none 0 0];have hd4 := hd3.alloc zeroO;have hT4 := hT3.alloc zeroO;have hlt3 := Hh hT3.lt;have hXn : H w3.heap.size = none := hd3.psr.holds.none_of_ge (Nat.le_refl _);clear hd3 hT3;go_wp2_with (with_reducible refine stop_store ?_)
 refine stI hX0 fun w4 hX4 hg4 => ?_
 have hd5 := hd4.gb hXn (Nat.le_of_lt hlt3.out) hgl hg4;have hT5 := hT4.grown hg4 (by intro e; injection e with e; have := hlt3.out; omega);clear hd4 hT4 hX0 hg4;obtain ⟨X, hXX⟩ : ∃ X, w3.heap.size = X := ⟨_, rfl⟩
 rw [hXX] at hX4 hXn hlt3 ⊢;clear hXX
 have E2 : Hid (sevenP 25 n = if (isNaN (widen5 n) && widen5 n != notNumber) || (floatB (widen5 n)).length != 3 then .error 4 else .ok (.mk 8 (widen5 n) [] [])) := by
  rw [Hid, sevenP_f 25 n (by omega)];rw [show wideP 25 n = widen5 n by rw [wideP, if_pos rfl]]
 have hDl := widen5_lt HN.out;have WD := Hh (fun w => ref_WidenV5 n HN.out w);obtain ⟨D, hD⟩ : ∃ D, widen5 n = D := ⟨_, rfl⟩
 rw [hD] at E2 hDl WD;go_wp2_with fail
 refine (WD.out _).mono ?_
 rintro e w6 ⟨rfl, rfl⟩
 clear WD hD;go_wp2_with (with_reducible refine stop_store ?_)
 refine wpList_store_cell rfl _ _ _ rfl rfl X 1 (.int .u64 (D : Int)) rfl rfl _ _ hX4 size_u64 (by simp) rfl fun w7 hX7 hg7 => ?_
 have hd7 := hd5.gb hXn (Nat.le_of_lt hlt3.out) hgl hg7;have hT7 := hT5.grown hg7 (by intro e; injection e with e; have := hlt3.out; omega);have hX7' : Blk w7 X 31 #[.int .i64 8, .int .u64 (D : Int), .slice none 0 0, .slice none 0 0] := hX7;clear hd5 hT5 hX4 hg7 hX7;have b0 := hX7'.cell 0 rfl;have b1 := hX7'.cell 1 rfl;have b2 := hX7'.cell 2 rfl;have b3 := hX7'.cell 3 rfl;have IN := Hh (fun w => ref_IsNaN D hDl w);have FL := Hh (fun w => ref_float D hDl w);have HDL := Hh hDl;obtain ⟨fl, hfl⟩ : ∃ fl, (floatB D).length = fl := ⟨_, rfl⟩
 obtain ⟨nn, hnn⟩ : ∃ nn, isNaN D = nn := ⟨_, rfl⟩
 rw [hnn] at IN E2;rw [hfl] at E2;have HFL := Hh hfl;clear hDl hnn hfl;have hne : (D != notNumber) = true ∨ (D != notNumber) = false := by cases (D != notNumber) <;> simp
 cases nn with
 | true =>
  rcases hne with hne | hne
  ·have hne' : D ≠ 9221120237041090560 := by rw [bne_iff_ne] at hne; exact hne
   have c1 : ((D : Int) != 9221120237041090560) = true := by rw [bne_iff_ne]; omega
   have c1' : ((D : Int) = 9221120237041090560) = False := eq_false (by omega);have E : Hid (specP 25 (l.drop p) cnt = .err 4) := by rw [Hid, E1.out, E2.out, hne]; simp
   clear E1 E2 hne hne' HFL;go_wp2_with fail
   refine (IN.out _).mono ?_
   rintro e w6 ⟨rfl, rfl⟩
   go_wp2_with (with_reducible refine stop_store ?_)
   refine stI hT7 fun wz hTy hgz => ?_
   have hdz := hd7.gb hn0 (Nat.le_refl _) hgl hgz;go_wp2_with fail
   refine ret_row_tmp rfl rfl hTy rfl rfl size_item rfl ?_
   exact ItemOut.err E.out rfl hdz
  ·have hne' : D = 9221120237041090560 := by rw [bne_eq_false_iff_eq] at hne; exact hne
   have c1 : ((D : Int) != 9221120237041090560) = false := by rw [bne_eq_false_iff_eq]; omega
   have c1' : ((D : Int) = 9221120237041090560) = True := eq_true (by omega);rw [hne] at E2;clear hne hne';go_wp2_with fail
   refine (IN.out _).mono ?_
   rintro e w6 ⟨rfl, rfl⟩
   go_wp2_with fail
   refine (FL.out _).mono ?_
   rintro e w8 ⟨r, rfl, hf⟩
   have hd8 := hd7.below_ hf.2;have hT8 := hT7.below hf.2;have hX8 := hX7'.below hf.2;obtain ⟨RA, rc, rfl, _⟩ := hf.own.form;rw [HFL.out];clear b0 b1 b2 b3 hf;have b0 := hX8.cell 0 rfl;have b1 := hX8.cell 1 rfl;have b2 := hX8.cell 2 rfl;have b3 := hX8.cell 3 rfl
   by_cases hq : fl = 3
   ·subst hq;have E : Hid (specP 25 (l.drop p) cnt = .ok (.mk 8 D [] []) 2 cnt) := by rw [Hid, E1.out, E2.out]; simp 
    clear E1 E2 HFL;go_wp2_with (with_reducible refine stop_store ?_)
    refine stI hT8 fun wz hTy hgz => ?_
    have hdz := hd8.gb hn0 (Nat.le_refl _) hgl hgz;go_wp2_with fail
    refine ret_row_tmp rfl rfl hTy rfl rfl size_item rfl ?_
    exact ItemOut.ok (ja := none) (jb := 0) (jc := none) (jd := 0) E.out rfl hdz (IsItem.plain _ 8 D (by omega) HDL.out)
   ·have zq : ((fl : Int) == 3) = false := by simp; omega
    have zq2 : ((fl : Int) = 3) = False := eq_false (by omega);have E : Hid (specP 25 (l.drop p) cnt = .err 4) := by rw [Hid, E1.out, E2.out]; simp [hq]
    clear E1 E2 HFL hq;go_wp2_with (with_reducible refine stop_store ?_)
    refine stI hT8 fun wz hTy hgz => ?_
    have hdz := hd8.gb hn0 (Nat.le_refl _) hgl hgz;go_wp2_with fail
    refine ret_row_tmp rfl rfl hTy rfl rfl size_item rfl ?_
    exact ItemOut.err E.out rfl hdz
 | false =>
  clear hne;go_wp2_with fail
  refine (IN.out _).mono ?_
  rintro e w6 ⟨rfl, rfl⟩
  go_wp2_with fail
  refine (FL.out _).mono ?_
  rintro e w8 ⟨r, rfl, hf⟩
  have hd8 := hd7.below_ hf.2;have hT8 := hT7.below hf.2;have hX8 := hX7'.below hf.2;obtain ⟨RA, rc, rfl, _⟩ := hf.own.form;rw [HFL.out];clear b0 b1 b2 b3 hf;have b0 := hX8.cell 0 rfl;have b1 := hX8.cell 1 rfl;have b2 := hX8.cell 2 rfl;have b3 := hX8.cell 3 rfl
  by_cases hq : fl = 3
  ·subst hq;have E : Hid (specP 25 (l.drop p) cnt = .ok (.mk 8 D [] []) 2 cnt) := by rw [Hid, E1.out, E2.out]; simp 
   clear E1 E2 HFL;go_wp2_with (with_reducible refine stop_store ?_)
   refine stI hT8 fun wz hTy hgz => ?_
   have hdz := hd8.gb hn0 (Nat.le_refl _) hgl hgz;go_wp2_with fail
   refine ret_row_tmp rfl rfl hTy rfl rfl size_item rfl ?_
   exact ItemOut.ok (ja := none) (jb := 0) (jc := none) (jd := 0) E.out rfl hdz (IsItem.plain _ 8 D (by omega) HDL.out)
  ·have zq : ((fl : Int) == 3) = false := by simp; omega
   have zq2 : ((fl : Int) = 3) = False := eq_false (by omega);have E : Hid (specP 25 (l.drop p) cnt = .err 4) := by rw [Hid, E1.out, E2.out]; simp [hq]
   clear E1 E2 HFL hq;go_wp2_with (with_reducible refine stop_store ?_)
   refine stI hT8 fun wz hTy hgz => ?_
   have hdz := hd8.gb hn0 (Nat.le_refl _) hgl hgz;go_wp2_with fail
   refine ret_row_tmp rfl rfl hTy rfl rfl size_item rfl ?_
   exact ItemOut.err E.out rfl hdz
theorem r_special_26 (hP : Psr 97 w g H A c l p cnt) : Calls Tryz.prog 74 #[.pointer (some ⟨g, 0, none⟩), .int .i64 26] w (ItemOut 97 w H g A c l p (specP 26 (l.drop p) cnt)) := by
 have hgl := hP.gt;have hd0 := (Rdg.refl hP).alloc zeroO;have hT0 := Blk.new w 31 #[.int .i64 0, .int .u64 0, .slice none 0 0, .slice none 0 0];have hn0 : H w.heap.size = none := hP.holds.none_of_ge (Nat.le_refl _);have E0 : Hid (specP 26 (l.drop p) cnt = if (l.drop p).length < 4 then .err 2 else match sevenP 26 (beN ((l.drop p).take 4)) with | .error e => .err e | .ok x => .ok x 4 cnt) := by rw [Hid, specP, if_neg (by omega)]
 have NM := Hh (r_number hd0.psr 4 (by omega) (by omega));have HC := Hh hP.cnt_le;go_enter Tryz.func74, Tryz.ntmps74
 go_wp2_with fail
 refine NM.out.mono ?_
 rintro e w3 (⟨hs, rfl, hB3, hG3⟩ | ⟨hs, rfl, hB3, hG3⟩)
 ·have E : Hid (specP 26 (l.drop p) cnt = .err 2) := by rw [Hid, E0.out, if_pos (by rw [List.length_drop]; have := hP.le; omega)]
  have hd3 : Rdg 97 w H w3 H g A c l p cnt := hd0.step hG3 hB3 hP.le HC.out;have hT3 := hT0.gr hG3 (by omega);clear NM hs hd0 hT0 hB3 hG3;go_wp2_with (with_reducible refine stop_store ?_)
  refine stI hT3 fun wz hTy hgz => ?_
  have hdz := hd3.gb hn0 (Nat.le_refl _) hgl hgz;go_wp2_with fail
  refine ret_row_tmp rfl rfl hTy rfl rfl size_item rfl ?_
  exact ItemOut.err E.out rfl hdz
 have hd3 : Rdg 97 w H w3 H g A c l (p + 4) cnt := hd0.step hG3 hB3 hs HC.out;have hT3 := hT0.gr hG3 (by omega);have E1 : Hid (specP 26 (l.drop p) cnt = match sevenP 26 (beN ((l.drop p).take 4)) with | .error e => .err e | .ok x => .ok x 4 cnt) := by rw [Hid, E0.out, if_neg (by rw [List.length_drop]; omega)]
 have hnb := beN_lt ((l.drop p).take 4);have hnl : ((l.drop p).take 4).length = 4 := by rw [List.length_take, List.length_drop]; omega
 rw [hnl] at hnb
 simp only [Nat.reducePow] at hnb
 have hspec := fun x h => (seven_spec (low := 26) (x := x) (t := (l.drop p).take 4) (by omega) (fun h => by omega) (fun _ => ⟨by rw [hnl], rfl⟩) h).2.2.1
 obtain ⟨n, hn⟩ : ∃ n, beN ((l.drop p).take 4) = n := ⟨_, rfl⟩
 rw [hn] at E1 hnb hspec ⊢;have HN := Hh hnb;have HSP := Hh hspec;clear NM hs hd0 hT0 hB3 hG3 E0 hn hnl hnb hspec;have hX0 := Blk.new w3 31 #[.int .i64 0, .int .u64 0, .slice none 0 0, .slice none 0 0];have hd4 := hd3.alloc zeroO;have hT4 := hT3.alloc zeroO;have hlt3 := Hh hT3.lt;have hXn : H w3.heap.size = none := hd3.psr.holds.none_of_ge (Nat.le_refl _);clear hd3 hT3;go_wp2_with (with_reducible refine stop_store ?_)
 refine stI hX0 fun w4 hX4 hg4 => ?_
 have hd5 := hd4.gb hXn (Nat.le_of_lt hlt3.out) hgl hg4;have hT5 := hT4.grown hg4 (by intro e; injection e with e; have := hlt3.out; omega);clear hd4 hT4 hX0 hg4;obtain ⟨X, hXX⟩ : ∃ X, w3.heap.size = X := ⟨_, rfl⟩
 rw [hXX] at hX4 hXn hlt3 ⊢;clear hXX
 have E2 : Hid (sevenP 26 n = if (isNaN (widen8 n) && widen8 n != notNumber) || (floatB (widen8 n)).length != 5 then .error 4 else .ok (.mk 8 (widen8 n) [] [])) := by
  rw [Hid, sevenP_f 26 n (by omega)];rw [show wideP 26 n = widen8 n by rw [wideP, if_neg (by omega), if_pos rfl]]
 have hDl := widen8_lt HN.out;have WD := Hh (fun w => ref_WidenV8 n HN.out w);obtain ⟨D, hD⟩ : ∃ D, widen8 n = D := ⟨_, rfl⟩
 rw [hD] at E2 hDl WD;go_wp2_with fail
 refine (WD.out _).mono ?_
 rintro e w6 ⟨rfl, rfl⟩
 clear WD hD;go_wp2_with (with_reducible refine stop_store ?_)
 refine wpList_store_cell rfl _ _ _ rfl rfl X 1 (.int .u64 (D : Int)) rfl rfl _ _ hX4 size_u64 (by simp) rfl fun w7 hX7 hg7 => ?_
 have hd7 := hd5.gb hXn (Nat.le_of_lt hlt3.out) hgl hg7;have hT7 := hT5.grown hg7 (by intro e; injection e with e; have := hlt3.out; omega);have hX7' : Blk w7 X 31 #[.int .i64 8, .int .u64 (D : Int), .slice none 0 0, .slice none 0 0] := hX7;clear hd5 hT5 hX4 hg7 hX7;have b0 := hX7'.cell 0 rfl;have b1 := hX7'.cell 1 rfl;have b2 := hX7'.cell 2 rfl;have b3 := hX7'.cell 3 rfl;have IN := Hh (fun w => ref_IsNaN D hDl w);have FL := Hh (fun w => ref_float D hDl w);have HDL := Hh hDl;obtain ⟨fl, hfl⟩ : ∃ fl, (floatB D).length = fl := ⟨_, rfl⟩
 obtain ⟨nn, hnn⟩ : ∃ nn, isNaN D = nn := ⟨_, rfl⟩
 rw [hnn] at IN E2;rw [hfl] at E2;have HFL := Hh hfl;clear hDl hnn hfl;have hne : (D != notNumber) = true ∨ (D != notNumber) = false := by cases (D != notNumber) <;> simp
 cases nn with
 | true =>
  rcases hne with hne | hne
  ·have hne' : D ≠ 9221120237041090560 := by rw [bne_iff_ne] at hne; exact hne
   have c1 : ((D : Int) != 9221120237041090560) = true := by rw [bne_iff_ne]; omega
   have c1' : ((D : Int) = 9221120237041090560) = False := eq_false (by omega);have E : Hid (specP 26 (l.drop p) cnt = .err 4) := by rw [Hid, E1.out, E2.out, hne]; simp
   clear E1 E2 hne hne' HFL;go_wp2_with fail
   refine (IN.out _).mono ?_
   rintro e w6 ⟨rfl, rfl⟩
   go_wp2_with (with_reducible refine stop_store ?_)
   refine stI hT7 fun wz hTy hgz => ?_
   have hdz := hd7.gb hn0 (Nat.le_refl _) hgl hgz;go_wp2_with fail
   refine ret_row_tmp rfl rfl hTy rfl rfl size_item rfl ?_
   exact ItemOut.err E.out rfl hdz
  ·have hne' : D = 9221120237041090560 := by rw [bne_eq_false_iff_eq] at hne; exact hne
   have c1 : ((D : Int) != 9221120237041090560) = false := by rw [bne_eq_false_iff_eq]; omega
   have c1' : ((D : Int) = 9221120237041090560) = True := eq_true (by omega);rw [hne] at E2;clear hne hne';go_wp2_with fail
   refine (IN.out _).mono ?_
   rintro e w6 ⟨rfl, rfl⟩
   go_wp2_with fail
   refine (FL.out _).mono ?_
   rintro e w8 ⟨r, rfl, hf⟩
   have hd8 := hd7.below_ hf.2;have hT8 := hT7.below hf.2;have hX8 := hX7'.below hf.2;obtain ⟨RA, rc, rfl, _⟩ := hf.own.form;rw [HFL.out];clear b0 b1 b2 b3 hf;have b0 := hX8.cell 0 rfl;have b1 := hX8.cell 1 rfl;have b2 := hX8.cell 2 rfl;have b3 := hX8.cell 3 rfl
   by_cases hq : fl = 5
   ·subst hq;have E : Hid (specP 26 (l.drop p) cnt = .ok (.mk 8 D [] []) 4 cnt) := by rw [Hid, E1.out, E2.out]; simp 
    clear E1 E2 HFL;go_wp2_with (with_reducible refine stop_store ?_)
    refine stI hT8 fun wz hTy hgz => ?_
    have hdz := hd8.gb hn0 (Nat.le_refl _) hgl hgz;go_wp2_with fail
    refine ret_row_tmp rfl rfl hTy rfl rfl size_item rfl ?_
    exact ItemOut.ok (ja := none) (jb := 0) (jc := none) (jd := 0) E.out rfl hdz (IsItem.plain _ 8 D (by omega) HDL.out)
   ·have zq : ((fl : Int) == 5) = false := by simp; omega
    have zq2 : ((fl : Int) = 5) = False := eq_false (by omega);have E : Hid (specP 26 (l.drop p) cnt = .err 4) := by rw [Hid, E1.out, E2.out]; simp [hq]
    clear E1 E2 HFL hq;go_wp2_with (with_reducible refine stop_store ?_)
    refine stI hT8 fun wz hTy hgz => ?_
    have hdz := hd8.gb hn0 (Nat.le_refl _) hgl hgz;go_wp2_with fail
    refine ret_row_tmp rfl rfl hTy rfl rfl size_item rfl ?_
    exact ItemOut.err E.out rfl hdz
 | false =>
  clear hne;go_wp2_with fail
  refine (IN.out _).mono ?_
  rintro e w6 ⟨rfl, rfl⟩
  go_wp2_with fail
  refine (FL.out _).mono ?_
  rintro e w8 ⟨r, rfl, hf⟩
  have hd8 := hd7.below_ hf.2;have hT8 := hT7.below hf.2;have hX8 := hX7'.below hf.2;obtain ⟨RA, rc, rfl, _⟩ := hf.own.form;rw [HFL.out];clear b0 b1 b2 b3 hf;have b0 := hX8.cell 0 rfl;have b1 := hX8.cell 1 rfl;have b2 := hX8.cell 2 rfl;have b3 := hX8.cell 3 rfl
  by_cases hq : fl = 5
  ·subst hq;have E : Hid (specP 26 (l.drop p) cnt = .ok (.mk 8 D [] []) 4 cnt) := by rw [Hid, E1.out, E2.out]; simp 
   clear E1 E2 HFL;go_wp2_with (with_reducible refine stop_store ?_)
   refine stI hT8 fun wz hTy hgz => ?_
   have hdz := hd8.gb hn0 (Nat.le_refl _) hgl hgz;go_wp2_with fail
   refine ret_row_tmp rfl rfl hTy rfl rfl size_item rfl ?_
   exact ItemOut.ok (ja := none) (jb := 0) (jc := none) (jd := 0) E.out rfl hdz (IsItem.plain _ 8 D (by omega) HDL.out)
  ·have zq : ((fl : Int) == 5) = false := by simp; omega
   have zq2 : ((fl : Int) = 5) = False := eq_false (by omega);have E : Hid (specP 26 (l.drop p) cnt = .err 4) := by rw [Hid, E1.out, E2.out]; simp [hq]
   clear E1 E2 HFL hq;go_wp2_with (with_reducible refine stop_store ?_)
   refine stI hT8 fun wz hTy hgz => ?_
   have hdz := hd8.gb hn0 (Nat.le_refl _) hgl hgz;go_wp2_with fail
   refine ret_row_tmp rfl rfl hTy rfl rfl size_item rfl ?_
   exact ItemOut.err E.out rfl hdz
theorem r_special_27 (hP : Psr 97 w g H A c l p cnt) : Calls Tryz.prog 74 #[.pointer (some ⟨g, 0, none⟩), .int .i64 27] w (ItemOut 97 w H g A c l p (specP 27 (l.drop p) cnt)) := by
 have hgl := hP.gt;have hd0 := (Rdg.refl hP).alloc zeroO;have hT0 := Blk.new w 31 #[.int .i64 0, .int .u64 0, .slice none 0 0, .slice none 0 0];have hn0 : H w.heap.size = none := hP.holds.none_of_ge (Nat.le_refl _);have E0 : Hid (specP 27 (l.drop p) cnt = if (l.drop p).length < 8 then .err 2 else match sevenP 27 (beN ((l.drop p).take 8)) with | .error e => .err e | .ok x => .ok x 8 cnt) := by rw [Hid, specP, if_neg (by omega)]
 have NM := Hh (r_number hd0.psr 8 (by omega) (by omega));have HC := Hh hP.cnt_le;go_enter Tryz.func74, Tryz.ntmps74
 go_wp2_with fail
 refine NM.out.mono ?_
 rintro e w3 (⟨hs, rfl, hB3, hG3⟩ | ⟨hs, rfl, hB3, hG3⟩)
 ·have E : Hid (specP 27 (l.drop p) cnt = .err 2) := by rw [Hid, E0.out, if_pos (by rw [List.length_drop]; have := hP.le; omega)]
  have hd3 : Rdg 97 w H w3 H g A c l p cnt := hd0.step hG3 hB3 hP.le HC.out;have hT3 := hT0.gr hG3 (by omega);clear NM hs hd0 hT0 hB3 hG3;go_wp2_with (with_reducible refine stop_store ?_)
  refine stI hT3 fun wz hTy hgz => ?_
  have hdz := hd3.gb hn0 (Nat.le_refl _) hgl hgz;go_wp2_with fail
  refine ret_row_tmp rfl rfl hTy rfl rfl size_item rfl ?_
  exact ItemOut.err E.out rfl hdz
 have hd3 : Rdg 97 w H w3 H g A c l (p + 8) cnt := hd0.step hG3 hB3 hs HC.out;have hT3 := hT0.gr hG3 (by omega);have E1 : Hid (specP 27 (l.drop p) cnt = match sevenP 27 (beN ((l.drop p).take 8)) with | .error e => .err e | .ok x => .ok x 8 cnt) := by rw [Hid, E0.out, if_neg (by rw [List.length_drop]; omega)]
 have hnb := beN_lt ((l.drop p).take 8);have hnl : ((l.drop p).take 8).length = 8 := by rw [List.length_take, List.length_drop]; omega
 rw [hnl] at hnb
 simp only [Nat.reducePow] at hnb
 have hspec := fun x h => (seven_spec (low := 27) (x := x) (t := (l.drop p).take 8) (by omega) (fun h => by omega) (fun _ => ⟨by rw [hnl], rfl⟩) h).2.2.1
 obtain ⟨n, hn⟩ : ∃ n, beN ((l.drop p).take 8) = n := ⟨_, rfl⟩
 rw [hn] at E1 hnb hspec ⊢;have HN := Hh hnb;have HSP := Hh hspec;clear NM hs hd0 hT0 hB3 hG3 E0 hn hnl hnb hspec;have hX0 := Blk.new w3 31 #[.int .i64 0, .int .u64 0, .slice none 0 0, .slice none 0 0];have hd4 := hd3.alloc zeroO;have hT4 := hT3.alloc zeroO;have hlt3 := Hh hT3.lt;have hXn : H w3.heap.size = none := hd3.psr.holds.none_of_ge (Nat.le_refl _);clear hd3 hT3;go_wp2_with (with_reducible refine stop_store ?_)
 refine stI hX0 fun w4 hX4 hg4 => ?_
 have hd5 := hd4.gb hXn (Nat.le_of_lt hlt3.out) hgl hg4;have hT5 := hT4.grown hg4 (by intro e; injection e with e; have := hlt3.out; omega);clear hd4 hT4 hX0 hg4;obtain ⟨X, hXX⟩ : ∃ X, w3.heap.size = X := ⟨_, rfl⟩
 rw [hXX] at hX4 hXn hlt3 ⊢;clear hXX
 have E2 : Hid (sevenP 27 n = if (isNaN (n) && n != notNumber) || (floatB (n)).length != 9 then .error 4 else .ok (.mk 8 (n) [] [])) := by
  rw [Hid, sevenP_f 27 n (by omega)];rw [show wideP 27 n = n by rw [wideP, if_neg (by omega), if_neg (by omega)]]
 have hDl := HN.out;obtain ⟨D, hD⟩ : ∃ D, n = D := ⟨_, rfl⟩
 subst hD;have hd7 := hd5;have hT7 := hT5;have hX7' := hX4;clear hd5 hT5 hX4;have b0 := hX7'.cell 0 rfl;have b1 := hX7'.cell 1 rfl;have b2 := hX7'.cell 2 rfl;have b3 := hX7'.cell 3 rfl;have IN := Hh (fun w => ref_IsNaN n hDl w);have FL := Hh (fun w => ref_float n hDl w);have HDL := Hh hDl;obtain ⟨fl, hfl⟩ : ∃ fl, (floatB n).length = fl := ⟨_, rfl⟩
 obtain ⟨nn, hnn⟩ : ∃ nn, isNaN n = nn := ⟨_, rfl⟩
 rw [hnn] at IN E2;rw [hfl] at E2;have HFL := Hh hfl;clear hDl hnn hfl;have hne : (n != notNumber) = true ∨ (n != notNumber) = false := by cases (n != notNumber) <;> simp
 cases nn with
 | true =>
  rcases hne with hne | hne
  ·have hne' : n ≠ 9221120237041090560 := by rw [bne_iff_ne] at hne; exact hne
   have c1 : ((n : Int) != 9221120237041090560) = true := by rw [bne_iff_ne]; omega
   have c1' : ((n : Int) = 9221120237041090560) = False := eq_false (by omega);have E : Hid (specP 27 (l.drop p) cnt = .err 4) := by rw [Hid, E1.out, E2.out, hne]; simp
   clear E1 E2 hne hne' HFL;go_wp2_with fail
   refine (IN.out _).mono ?_
   rintro e w6 ⟨rfl, rfl⟩
   go_wp2_with (with_reducible refine stop_store ?_)
   refine stI hT7 fun wz hTy hgz => ?_
   have hdz := hd7.gb hn0 (Nat.le_refl _) hgl hgz;go_wp2_with fail
   refine ret_row_tmp rfl rfl hTy rfl rfl size_item rfl ?_
   exact ItemOut.err E.out rfl hdz
  ·have hne' : n = 9221120237041090560 := by rw [bne_eq_false_iff_eq] at hne; exact hne
   have c1 : ((n : Int) != 9221120237041090560) = false := by rw [bne_eq_false_iff_eq]; omega
   have c1' : ((n : Int) = 9221120237041090560) = True := eq_true (by omega);rw [hne] at E2;clear hne hne';go_wp2_with fail
   refine (IN.out _).mono ?_
   rintro e w6 ⟨rfl, rfl⟩
   go_wp2_with fail
   refine (FL.out _).mono ?_
   rintro e w8 ⟨r, rfl, hf⟩
   have hd8 := hd7.below_ hf.2;have hT8 := hT7.below hf.2;have hX8 := hX7'.below hf.2;obtain ⟨RA, rc, rfl, _⟩ := hf.own.form;rw [HFL.out];clear b0 b1 b2 b3 hf;have b0 := hX8.cell 0 rfl;have b1 := hX8.cell 1 rfl;have b2 := hX8.cell 2 rfl;have b3 := hX8.cell 3 rfl
   by_cases hq : fl = 9
   ·subst hq;have E : Hid (specP 27 (l.drop p) cnt = .ok (.mk 8 n [] []) 8 cnt) := by rw [Hid, E1.out, E2.out]; simp 
    clear E1 E2 HFL;go_wp2_with (with_reducible refine stop_store ?_)
    refine stI hT8 fun wz hTy hgz => ?_
    have hdz := hd8.gb hn0 (Nat.le_refl _) hgl hgz;go_wp2_with fail
    refine ret_row_tmp rfl rfl hTy rfl rfl size_item rfl ?_
    exact ItemOut.ok (ja := none) (jb := 0) (jc := none) (jd := 0) E.out rfl hdz (IsItem.plain _ 8 n (by omega) HDL.out)
   ·have zq : ((fl : Int) == 9) = false := by simp; omega
    have zq2 : ((fl : Int) = 9) = False := eq_false (by omega);have E : Hid (specP 27 (l.drop p) cnt = .err 4) := by rw [Hid, E1.out, E2.out]; simp [hq]
    clear E1 E2 HFL hq;go_wp2_with (with_reducible refine stop_store ?_)
    refine stI hT8 fun wz hTy hgz => ?_
    have hdz := hd8.gb hn0 (Nat.le_refl _) hgl hgz;go_wp2_with fail
    refine ret_row_tmp rfl rfl hTy rfl rfl size_item rfl ?_
    exact ItemOut.err E.out rfl hdz
 | false =>
  clear hne;go_wp2_with fail
  refine (IN.out _).mono ?_
  rintro e w6 ⟨rfl, rfl⟩
  go_wp2_with fail
  refine (FL.out _).mono ?_
  rintro e w8 ⟨r, rfl, hf⟩
  have hd8 := hd7.below_ hf.2;have hT8 := hT7.below hf.2;have hX8 := hX7'.below hf.2;obtain ⟨RA, rc, rfl, _⟩ := hf.own.form;rw [HFL.out];clear b0 b1 b2 b3 hf;have b0 := hX8.cell 0 rfl;have b1 := hX8.cell 1 rfl;have b2 := hX8.cell 2 rfl;have b3 := hX8.cell 3 rfl
  by_cases hq : fl = 9
  ·subst hq;have E : Hid (specP 27 (l.drop p) cnt = .ok (.mk 8 n [] []) 8 cnt) := by rw [Hid, E1.out, E2.out]; simp 
   clear E1 E2 HFL;go_wp2_with (with_reducible refine stop_store ?_)
   refine stI hT8 fun wz hTy hgz => ?_
   have hdz := hd8.gb hn0 (Nat.le_refl _) hgl hgz;go_wp2_with fail
   refine ret_row_tmp rfl rfl hTy rfl rfl size_item rfl ?_
   exact ItemOut.ok (ja := none) (jb := 0) (jc := none) (jd := 0) E.out rfl hdz (IsItem.plain _ 8 n (by omega) HDL.out)
  ·have zq : ((fl : Int) == 9) = false := by simp; omega
   have zq2 : ((fl : Int) = 9) = False := eq_false (by omega);have E : Hid (specP 27 (l.drop p) cnt = .err 4) := by rw [Hid, E1.out, E2.out]; simp [hq]
   clear E1 E2 HFL hq;go_wp2_with (with_reducible refine stop_store ?_)
   refine stI hT8 fun wz hTy hgz => ?_
   have hdz := hd8.gb hn0 (Nat.le_refl _) hgl hgz;go_wp2_with fail
   refine ret_row_tmp rfl rfl hTy rfl rfl size_item rfl ?_
   exact ItemOut.err E.out rfl hdz
theorem r_special (hP : Psr 97 w g H A c l p cnt) (low : Nat) (hl : low ≤ 27) : Calls Tryz.prog 74 #[.pointer (some ⟨g, 0, none⟩), .int .i64 (low : Int)] w (ItemOut 97 w H g A c l p (specP low (l.drop p) cnt)) := by
 by_cases h : low < 24
 ·exact r_special_low hP low h
 rcases (by omega : low = 24 ∨ low = 25 ∨ low = 26 ∨ low = 27) with rfl | rfl | rfl | rfl
 ·exact r_special_24 hP
 ·exact r_special_25 hP
 ·exact r_special_26 hP
 ·exact r_special_27 hP
end
def elemP (maj : Nat) (p : List UInt8 → Nat → PR) : Nat → Bool → List UInt8 → Nat → Option (List UInt8) → PL
 | 0, _, _, c, _ => .ok [] 0 c
 | m + 1, ev, b, c, last => match p b c with
  | .err e => .err e
  | .ok x k c' =>
   if maj = 5 ∧ ev = true then
    match keyP last (b.take k) with
    | some e => .err e
    | none => (elemP maj p m false (b.drop k) c' (some (b.take k))).pre [x] k
   else (elemP maj p m (!ev) (b.drop k) c' last).pre [x] k
theorem pre_pre (L M : List Itm) (a b : Nat) (r : PL) : (r.pre M b).pre L a = r.pre (L ++ M) (a + b) := by
 cases r <;> simp [PL.pre, Nat.add_assoc]
section
variable {maj : Nat} {p : List UInt8 → Nat → PR} {m : Nat} {ev : Bool} {b : List UInt8} {cc q k c1 : Nat} {x : Itm} {last : Option (List UInt8)}
theorem elem_err (L : List Itm) (k0 : Nat) (h : p b cc = .err q) : (elemP maj p (m + 1) ev b cc last).pre L k0 = .err q := by rw [elemP, h]; rfl
theorem elem_key (L : List Itm) (k0 : Nat) (h : p b cc = .ok x k c1) (hm : maj = 5) (he : ev = true) (h2 : keyP last (b.take k) = some q) : (elemP maj p (m + 1) ev b cc last).pre L k0 = .err q := by
 rw [elemP, h]; simp only; rw [if_pos ⟨hm, he⟩, h2]; rfl
theorem elem_ok_key (L : List Itm) (k0 : Nat) (h : p b cc = .ok x k c1) (hm : maj = 5) (he : ev = true) (h2 : keyP last (b.take k) = none) : (elemP maj p (m + 1) ev b cc last).pre L k0 = (elemP maj p m false (b.drop k) c1 (some (b.take k))).pre (L ++ [x]) (k0 + k) := by
 rw [elemP, h]; simp only; rw [if_pos ⟨hm, he⟩, h2]; simp only; rw [pre_pre]
theorem elem_ok (L : List Itm) (k0 : Nat) (h : p b cc = .ok x k c1) (hm : ¬ (maj = 5 ∧ ev = true)) : (elemP maj p (m + 1) ev b cc last).pre L k0 = (elemP maj p m (!ev) (b.drop k) c1 last).pre (L ++ [x]) (k0 + k) := by
 rw [elemP, h]; simp only; rw [if_neg hm, pre_pre]
end
theorem elem_arr {maj : Nat} (hm : maj ≠ 5) (p : List UInt8 → Nat → PR) : ∀ (n : Nat) (ev : Bool) (b : List UInt8) (c : Nat) (last : Option (List UInt8)), elemP maj p n ev b c last = arrP p n b c
 | 0, _, _, _, _ => rfl
 | n + 1, ev, b, c, last => by
  rw [elemP, arrP]
  cases h : p b c with
  | err e => rfl
  | ok x k c1 =>
   simp only
   rw [if_neg (fun h => hm h.1), elem_arr hm p n]
   cases arrP p n (b.drop k) c1 <;> rfl
theorem elem_map (p : List UInt8 → Nat → PR) : ∀ (n : Nat) (b : List UInt8) (c : Nat) (last : Option (List UInt8)), elemP 5 p (2 * n) true b c last = mapP p n b c last
 | 0, _, _, _ => rfl
 | n + 1, b, c, last => by
  rw [show 2 * (n + 1) = (2 * n + 1) + 1 by omega, elemP, mapP]
  cases h : p b c with
  | err e => rfl
  | ok x k c1 =>
   simp only
   rw [if_pos (by simp)]
   cases hk : keyP last (b.take k) with
   | some e => rfl
   | none =>
    simp only
    rw [elemP]
    cases h2 : p (b.drop k) c1 with
    | err e => rfl
    | ok y k2 c2 =>
     simp only
     rw [if_neg (by simp), List.drop_drop, Bool.not_false, elem_map p n]
     cases mapP p n (b.drop (k + k2)) c2 (some (b.take k)) with
     | err e => rfl
     | ok l k3 c3 => simp [PL.pre, Nat.add_assoc]
def cntOf (maj n : Nat) : Nat := if maj = 5 then 2 * min n 4294967296 else if maj = 6 then 1 else n
def elR (maj n : Nat) : PL → PR
 | .err q => .err q
 | .ok L k c => .ok (.mk (maj : Int) (if maj = 6 then n else 0) [] L) k c
def contP (maj d n : Nat) (b : List UInt8) (c : Nat) : PR := elR maj n (elemP maj (parse d) (cntOf maj n) true b c none)
theorem parse_cont (d : Nat) (b : List UInt8) (c : Nat) (h : ¬ 256 ≤ c) {f n k : Nat} (hq : headP b = .ok (f, n, k)) (h4 : 4 ≤ f / 32) (h6 : f / 32 ≤ 6) :
  parse (d + 1) b c = (match contP (f / 32) d n (b.drop k) (c + 1) with | .err e => .err e | .ok x k' c' => .ok x (k + k') c') := by
 rcases (by omega : f / 32 = 4 ∨ f / 32 = 5 ∨ f / 32 = 6) with hk | hk | hk
 ·rw [parse_arr d b c h hq hk, hk, contP, elem_arr (by omega), cntOf, if_neg (by omega), if_neg (by omega)]
  cases arrP (parse d) n (b.drop k) (c + 1) <;> rfl
 ·rw [parse_map d b c h hq hk, hk, contP, cntOf, if_pos rfl, elem_map]
  have e : mapP (parse d) (min n 4294967296) (b.drop k) (c + 1) none = mapP (parse d) n (b.drop k) (c + 1) none := by
   rcases Nat.le_total n 4294967296 with hn | hn
   ·rw [Nat.min_eq_left hn]
   ·rw [Nat.min_eq_right hn]
    exact map_min (parse_counts d) _ _ _ _ _ (by omega) (by omega) (by omega)
  rw [e]
  cases mapP (parse d) n (b.drop k) (c + 1) none <;> rfl
 ·rw [parse_tag d b c h hq hk, hk, contP, cntOf, if_neg (by omega), if_pos rfl, elem_arr (by omega), arrP]
  cases parse d (b.drop k) (c + 1) with
  | err e => rfl
  | ok x k' c' => simp [arrP, elR]
end Go.Proofs.YtlebpackbfcfeaaGreatDoor
