/- squeezed. Walks: the reference's reader of i -/
import Derived.Test.YtlebpackbfcfeaaGreatDoorK31
import Derived.Test.YtlebpackbfcfeaaGreatDoorK29
set_option linter.unusedVariables false
set_option linter.unusedSimpArgs false
set_option maxRecDepth 100000
set_option maxHeartbeats 6400000
namespace Go.Proofs.YtlebpackbfcfeaaGreatDoor
open Go.RowKit
def RElem (d : Nat) : Prop := ∀ (w : World) (H : Snap) (g : Nat) (A : Option Addr) (c : Nat) (l : List UInt8) (p cnt lv maj n : Nat), Tabs H → lv + 1 + d = 8 → 4 ≤ maj → maj ≤ 6 → n < 18446744073709551616 → 0 < l.length → Psr 97 w g H A c l p cnt →
 Calls Tryz.prog 76 #[.pointer (some ⟨g, 0, none⟩), .int .i64 (maj : Int), .int .u64 (n : Int), .int .i64 (lv : Int)] w (ItemOut 97 w H g A c l p (contP maj d n (l.drop p) cnt))
theorem parse_7 (d : Nat) {l : List UInt8} {p c : Nat} (h : ¬ 256 ≤ c) {ch : UInt8} {low : Nat} (hd : l.drop p = ch :: l.drop (p + 1)) (hl : ch.toNat % 32 = low) (h27 : low ≤ 27) (h7 : ch.toNat / 32 = 7) :
  parse d (l.drop p) c = (match specP low (l.drop (p + 1)) (c + 1) with | .err e => .err e | .ok x k c' => .ok x (1 + k) c') := by
 subst hl;obtain ⟨t, ht⟩ : ∃ t, l.drop (p + 1) = t := ⟨_, rfl⟩
 rw [ht] at hd;rw [ht]
 by_cases h24 : ch.toNat % 32 < 24
 ·have hh : headP (l.drop p) = .ok (ch.toNat, ch.toNat % 32, 1) := by rw [hd, headP, if_neg (by omega), if_pos h24]
  rw [parse_seven d _ c h hh h7, specP, if_pos h24]
  cases sevenP (ch.toNat % 32) (ch.toNat % 32) <;> rfl
 ·by_cases hs : t.length < 2 ^ (ch.toNat % 32 - 24)
  ·have hh : headP (l.drop p) = .error 2 := by rw [hd, headP, if_neg (by omega), if_neg h24, if_pos hs]
   rw [parse_head d _ c h hh, specP, if_neg h24, if_pos hs]
  ·have hh : headP (l.drop p) = .ok (ch.toNat, beN (t.take (2 ^ (ch.toNat % 32 - 24))), 1 + 2 ^ (ch.toNat % 32 - 24)) := by rw [hd, headP, if_neg (by omega), if_neg h24, if_neg hs, if_neg (by omega)]
   rw [parse_seven d _ c h hh h7, specP, if_neg h24, if_neg hs]
   cases sevenP (ch.toNat % 32) (beN (t.take (2 ^ (ch.toNat % 32 - 24)))) <;> rfl
section
variable {d : Nat} {w : World} {H : Snap} {g : Nat} {A : Option Addr} {c : Nat} {l : List UInt8} {p cnt lv : Nat}
theorem r_item_full (hTab : Tabs H) (hlv : lv + d = 8) (hP : Psr 97 w g H A c l p cnt) (hc : cnt = 256) : Calls Tryz.prog 61 #[.pointer (some ⟨g, 0, none⟩), .int .i64 (lv : Int)] w (ItemOut 97 w H g A c l p (parse d (l.drop p) cnt)) := by
 have hgl := hP.gt;have hd0 := (Rdg.refl hP).alloc zeroO;have hT0 := Blk.new w 31 #[.int .i64 0, .int .u64 0, .slice none 0 0, .slice none 0 0];have hn0 : H w.heap.size = none := hP.holds.none_of_ge (Nat.le_refl _);have c2 := hd0.psr.blk.cell 2 rfl;have hc256 : (256 : Int) ≤ (cnt : Int) := by omega
 have hc256' : decide ((256 : Int) ≤ (cnt : Int)) = true := decide_eq_true hc256;have E := Hh (parse_full d (l.drop p) cnt (by omega));clear hc;go_enter Tryz.func61, Tryz.ntmps61
 go_wp2_with (with_reducible refine stop_store ?_)
 refine stI hT0 fun wz hTy hgz => ?_
 have hdz := hd0.gb hn0 (Nat.le_refl _) hgl hgz;go_wp2_with fail
 refine ret_row_tmp rfl rfl hTy rfl rfl size_item rfl ?_
 exact ItemOut.err (q := 8) E.out rfl hdz
theorem r_item_end (hTab : Tabs H) (hlv : lv + d = 8) (hP : Psr 97 w g H A c l p cnt) (hc : cnt < 256) (hlt : p = l.length) : Calls Tryz.prog 61 #[.pointer (some ⟨g, 0, none⟩), .int .i64 (lv : Int)] w (ItemOut 97 w H g A c l p (parse d (l.drop p) cnt)) := by
 have hgl := hP.gt;have hd0 := (Rdg.refl hP).alloc zeroO;have hT0 := Blk.new w 31 #[.int .i64 0, .int .u64 0, .slice none 0 0, .slice none 0 0];have hn0 : H w.heap.size = none := hP.holds.none_of_ge (Nat.le_refl _);have c2 := hd0.psr.blk.cell 2 rfl;have E := Hh (parse_head d (l.drop p) cnt (by omega) (q := 2) (by rw [hlt, List.drop_length]; rfl));have z0 : ((l.length : Nat) : Int) ≤ (p : Int) := by omega
 have z0' : decide (((l.length : Nat) : Int) ≤ (p : Int)) = true := decide_eq_true z0;clear hlt;have hc256 : ¬ ((256 : Int) ≤ (cnt : Int)) := by omega
 have hc256' : decide ((256 : Int) ≤ (cnt : Int)) = false := decide_eq_false hc256;have KC : IntKind.i64.wrap ((cnt : Int) + 1) = (cnt : Int) + 1 := IntWalk.i64_in _ (by omega);have HC := Hh hc;clear hc;go_enter Tryz.func61, Tryz.ntmps61
 go_wp2_with (with_reducible refine stop_store ?_)
 refine wpList_store_cell rfl _ _ _ rfl rfl g 2 (.int .i64 ((cnt : Int) + 1)) rfl rfl _ _ hd0.psr.blk size_int1 (by simp) rfl fun w2 hB2 hG2 => ?_
 have hd2 : Rdg 97 w H w2 H g _ c l p (cnt + 1) := hd0.step hG2 hB2 hP.le (by have := HC.out; omega);have hT2 := hT0.gr hG2 (by omega);clear hd0 hT0 hB2 hG2 c2 KC hc256 hc256';have hpl := hd2.psr.le;have a0 := hd2.psr.blk.cell 0 rfl;have a1 := hd2.psr.blk.cell 1 rfl;go_wp2_with fail
 go_big_quiet (fail)
 have hd3 := hd2.drewN nq;have hT3 : Blk (w2.drewN nq) w.heap.size 31 #[.int .i64 0, .int .u64 0, .slice none 0 0, .slice none 0 0] := hT2;go_wp2_with (with_reducible refine stop_store ?_)
 refine stI hT3 fun wz hTy hgz => ?_
 have hdz := hd3.gb hn0 (Nat.le_refl _) hgl hgz;go_wp2_with fail
 refine ret_row_tmp rfl rfl hTy rfl rfl size_item rfl ?_
 exact ItemOut.err E.out rfl hdz
theorem r_item_code (hTab : Tabs H) (hlv : lv + d = 8) (hP : Psr 97 w g H A c l p cnt) (hc : cnt < 256) (hp2 : p < l.length) {ch : UInt8} (hch : l[p] = ch) {low kd : Nat} (hlow : ch.toNat % 32 = low) (hkd : ch.toNat / 32 = kd) (h27 : 27 < low) : Calls Tryz.prog 61 #[.pointer (some ⟨g, 0, none⟩), .int .i64 (lv : Int)] w (ItemOut 97 w H g A c l p (parse d (l.drop p) cnt)) := by
 have hgl := hP.gt;have hd0 := (Rdg.refl hP).alloc zeroO;have hT0 := Blk.new w 31 #[.int .i64 0, .int .u64 0, .slice none 0 0, .slice none 0 0];have hn0 : H w.heap.size = none := hP.holds.none_of_ge (Nat.le_refl _);have c2 := hd0.psr.blk.cell 2 rfl;have ED := drop_cons hp2;rw [hch] at ED;have E := Hh (parse_head d (l.drop p) cnt (by omega) (q := 3) (by rw [ED, headP, hlow, if_pos h27]));have z27 : (27 : Int) < (low : Int) := by omega
 clear h27 ED;have z0 : ¬ (((l.length : Nat) : Int) ≤ (p : Int)) := by omega
 have z0' : decide (((l.length : Nat) : Int) ≤ (p : Int)) = false := decide_eq_false z0;have hpi : (p : Int) < (l.length : Int) := by omega
 have hp0 : (0 : Int) ≤ (p : Int) := by omega
 have hsm := hP.small;have K1 : IntKind.i64.wrap ((p : Int) + 1) = (p : Int) + 1 := IntWalk.i64_in _ (by omega);obtain ⟨b, off, rfl, HCELL0⟩ := hP.bytes.at_ (by omega);have KA := and31 ⟨ch.toNat, ch.toNat_lt⟩
 simp only at KA
 rw [hlow] at KA;have S : (ch.toNat : Int) / 32 = (kd : Int) := by omega
 have hkw : (kd : Int) ≤ 7 := by have := ch.toNat_lt; omega
 have hlw : (low : Int) ≤ 31 := by omega
 have HCELL := Hh HCELL0;have HLOW := Hh (And.intro hlow (And.intro hkd hp2));have HCH := Hh (show H.cell? ⟨b, off + p, none⟩ = some (byteV ch) by have h := HCELL0 p hp2; rw [hch] at h; exact h);clear HCELL0 hlow hkd hsm hch;have hc256 : ¬ ((256 : Int) ≤ (cnt : Int)) := by omega
 have hc256' : decide ((256 : Int) ≤ (cnt : Int)) = false := decide_eq_false hc256;have KC : IntKind.i64.wrap ((cnt : Int) + 1) = (cnt : Int) + 1 := IntWalk.i64_in _ (by omega);have HC := Hh hc;clear hc;go_enter Tryz.func61, Tryz.ntmps61
 go_wp2_with (with_reducible refine stop_store ?_)
 refine wpList_store_cell rfl _ _ _ rfl rfl g 2 (.int .i64 ((cnt : Int) + 1)) rfl rfl _ _ hd0.psr.blk size_int1 (by simp) rfl fun w2 hB2 hG2 => ?_
 have hd2 : Rdg 97 w H w2 H g _ c l p (cnt + 1) := hd0.step hG2 hB2 hP.le (by have := HC.out; omega);have hT2 := hT0.gr hG2 (by omega);clear hd0 hT0 hB2 hG2 c2 KC hc256 hc256';have hpl := hd2.psr.le;have a0 := hd2.psr.blk.cell 0 rfl;have a1 := hd2.psr.blk.cell 1 rfl;go_wp2_with fail
 go_big_quiet (fail)
 have hd3' := hd2.drewN nq;have hT3' : Blk (w2.drewN nq) w.heap.size 31 #[.int .i64 0, .int .u64 0, .slice none 0 0, .slice none 0 0] := hT2
 generalize w2.drewN nq = w3 at hd3' hT3' ⊢
 obtain ⟨hd3, hT3⟩ := And.intro hd3' hT3';clear hd3' hT3' hd2 hT2 a0 a1 hpl;have a0 := hd3.psr.blk.cell 0 rfl;have a1 := hd3.psr.blk.cell 1 rfl;have q0 := hd3.psr.holds.cell HCH.out;go_upto_region 6 with fail
 go_big_quiet (fail)
 have hd4' := hd3.drewN nq;have hT4' : Blk (w3.drewN nq) w.heap.size 31 #[.int .i64 0, .int .u64 0, .slice none 0 0, .slice none 0 0] := hT3
 generalize w3.drewN nq = w4 at hd4' hT4' ⊢
 obtain ⟨hd4, hT4⟩ := And.intro hd4' hT4';clear hd4' hT4' hd3 hT3 a0 a1 q0;have a1 := hd4.psr.blk.cell 1 rfl;go_wp2_with (with_reducible refine stop_store ?_)
 refine wpList_store_cell rfl _ _ _ rfl rfl g 1 (.int .i64 ((p : Int) + 1)) rfl rfl _ _ hd4.psr.blk size_int1 (by simp) rfl fun w5 hB5 hG5 => ?_
 have hd5 : Rdg 97 w H w5 H g (some ⟨b, off, none⟩) c l (p + 1) (cnt + 1) := hd4.step hG5 hB5 HLOW.out.2.2 (by have := HC.out; omega);have hT5 := hT4.gr hG5 (by omega);clear hd4 hT4 hB5 hG5 a1 K1 z0 z0' hpi hp0 KA S;go_wp2_with (with_reducible refine stop_store ?_)
 refine stI hT5 fun wz hTy hgz => ?_
 have hdz := hd5.gb hn0 (Nat.le_refl _) hgl hgz;go_wp2_with fail
 refine ret_row_tmp rfl rfl hTy rfl rfl size_item rfl ?_
 exact ItemOut.err E.out rfl hdz
theorem r_item_7 (hTab : Tabs H) (hlv : lv + d = 8) (hP : Psr 97 w g H A c l p cnt) (hc : cnt < 256) (hp2 : p < l.length) {ch : UInt8} (hch : l[p] = ch) {low kd : Nat} (hlow : ch.toNat % 32 = low) (hkd : ch.toNat / 32 = kd) (h27 : low ≤ 27) (h7 : kd = 7) : Calls Tryz.prog 61 #[.pointer (some ⟨g, 0, none⟩), .int .i64 (lv : Int)] w (ItemOut 97 w H g A c l p (parse d (l.drop p) cnt)) := by
 have hgl := hP.gt;have hd0 := (Rdg.refl hP).alloc zeroO;have hT0 := Blk.new w 31 #[.int .i64 0, .int .u64 0, .slice none 0 0, .slice none 0 0];have hn0 : H w.heap.size = none := hP.holds.none_of_ge (Nat.le_refl _);have c2 := hd0.psr.blk.cell 2 rfl;have ED := drop_cons hp2;rw [hch] at ED;subst h7;have E0 := Hh (parse_7 d (l := l) (p := p) (c := cnt) (by omega) ED hlow h27 hkd);have z27 : ¬ ((27 : Int) < (low : Int)) := by omega
 have z27b : decide ((27 : Int) < (low : Int)) = false := decide_eq_false z27;have H27 := Hh h27;clear h27 ED;have z0 : ¬ (((l.length : Nat) : Int) ≤ (p : Int)) := by omega
 have z0' : decide (((l.length : Nat) : Int) ≤ (p : Int)) = false := decide_eq_false z0;have hpi : (p : Int) < (l.length : Int) := by omega
 have hp0 : (0 : Int) ≤ (p : Int) := by omega
 have hsm := hP.small;have K1 : IntKind.i64.wrap ((p : Int) + 1) = (p : Int) + 1 := IntWalk.i64_in _ (by omega);obtain ⟨b, off, rfl, HCELL0⟩ := hP.bytes.at_ (by omega);have KA := and31 ⟨ch.toNat, ch.toNat_lt⟩
 simp only at KA
 rw [hlow] at KA;have S : (ch.toNat : Int) / 32 = 7 := by omega
 have hkw := True.intro;have hlw : (low : Int) ≤ 31 := by omega
 have HCELL := Hh HCELL0;have HLOW := Hh (And.intro hlow (And.intro hkd hp2));have HCH := Hh (show H.cell? ⟨b, off + p, none⟩ = some (byteV ch) by have h := HCELL0 p hp2; rw [hch] at h; exact h);clear HCELL0 hlow hkd hsm hch;have hc256 : ¬ ((256 : Int) ≤ (cnt : Int)) := by omega
 have hc256' : decide ((256 : Int) ≤ (cnt : Int)) = false := decide_eq_false hc256;have KC : IntKind.i64.wrap ((cnt : Int) + 1) = (cnt : Int) + 1 := IntWalk.i64_in _ (by omega);have HC := Hh hc;clear hc;go_enter Tryz.func61, Tryz.ntmps61
 go_wp2_with (with_reducible refine stop_store ?_)
 refine wpList_store_cell rfl _ _ _ rfl rfl g 2 (.int .i64 ((cnt : Int) + 1)) rfl rfl _ _ hd0.psr.blk size_int1 (by simp) rfl fun w2 hB2 hG2 => ?_
 have hd2 : Rdg 97 w H w2 H g _ c l p (cnt + 1) := hd0.step hG2 hB2 hP.le (by have := HC.out; omega);have hT2 := hT0.gr hG2 (by omega);clear hd0 hT0 hB2 hG2 c2 KC hc256 hc256';have hpl := hd2.psr.le;have a0 := hd2.psr.blk.cell 0 rfl;have a1 := hd2.psr.blk.cell 1 rfl;go_wp2_with fail
 go_big_quiet (fail)
 have hd3' := hd2.drewN nq;have hT3' : Blk (w2.drewN nq) w.heap.size 31 #[.int .i64 0, .int .u64 0, .slice none 0 0, .slice none 0 0] := hT2
 generalize w2.drewN nq = w3 at hd3' hT3' ⊢
 obtain ⟨hd3, hT3⟩ := And.intro hd3' hT3';clear hd3' hT3' hd2 hT2 a0 a1 hpl;have a0 := hd3.psr.blk.cell 0 rfl;have a1 := hd3.psr.blk.cell 1 rfl;have q0 := hd3.psr.holds.cell HCH.out;go_upto_region 6 with fail
 go_big_quiet (fail)
 have hd4' := hd3.drewN nq;have hT4' : Blk (w3.drewN nq) w.heap.size 31 #[.int .i64 0, .int .u64 0, .slice none 0 0, .slice none 0 0] := hT3
 generalize w3.drewN nq = w4 at hd4' hT4' ⊢
 obtain ⟨hd4, hT4⟩ := And.intro hd4' hT4';clear hd4' hT4' hd3 hT3 a0 a1 q0;have a1 := hd4.psr.blk.cell 1 rfl;go_wp2_with (with_reducible refine stop_store ?_)
 refine wpList_store_cell rfl _ _ _ rfl rfl g 1 (.int .i64 ((p : Int) + 1)) rfl rfl _ _ hd4.psr.blk size_int1 (by simp) rfl fun w5 hB5 hG5 => ?_
 have hd5 : Rdg 97 w H w5 H g (some ⟨b, off, none⟩) c l (p + 1) (cnt + 1) := hd4.step hG5 hB5 HLOW.out.2.2 (by have := HC.out; omega);have hT5 := hT4.gr hG5 (by omega);clear hd4 hT4 hB5 hG5 a1 K1 z0 z0' hpi hp0 KA S;have SP := Hh (r_special hd5.psr low H27.out);go_wp2_with fail
 refine SP.out.mono ?_
 intro e w6 hs
 cases hsp : specP low (l.drop (p + 1)) (cnt + 1) with
 | err q =>
  rw [hsp, ItemOut] at hs;obtain ⟨rfl, H4, p4, cnt4, hd56⟩ := hs;have E : Hid (parse d (l.drop p) cnt = .err q) := by rw [Hid, E0.out, hsp]
  have hd6 := hd5.trans hd56;have hT6 := hT5.rdg hd56 (by omega);have hn6 := hd56.hid hn0 hT5.lt;clear hd56 hd5 hT5 SP hsp E0;go_wp2_with (with_reducible refine stop_store ?_)
  refine stI hT6 fun wz hTy hgz => ?_
  have hdz := hd6.gb hn6 (Nat.le_refl _) hgl hgz;go_wp2_with fail
  refine ret_row_tmp rfl rfl hTy rfl rfl size_item rfl ?_
  exact ItemOut.err E.out rfl hdz
 | ok x k' c' =>
  rw [hsp, ItemOut] at hs;obtain ⟨ja, jb, jc, jd, H4, rfl, hd56, hi4⟩ := hs;have E : Hid (parse d (l.drop p) cnt = .ok x (1 + k') c') := by rw [Hid, E0.out, hsp]
  have hd6 := hd5.trans hd56;have hT6 := hT5.rdg hd56 (by omega);have hn6 := hd56.hid hn0 hT5.lt;clear hd56 hd5 hT5 SP hsp E0;go_wp2_with (with_reducible refine stop_store ?_)
  refine stI hT6 fun wz hTy hgz => ?_
  have hdz := hd6.gb hn6 (Nat.le_refl _) hgl hgz;go_wp2_with fail
  refine ret_row_tmp rfl rfl hTy rfl rfl size_item rfl ?_
  exact ItemOut.ok E.out rfl (by rw [← Nat.add_assoc]; exact hdz) hi4
end
section
variable {d : Nat} {w : World} {H : Snap} {g : Nat} {A : Option Addr} {c : Nat} {l : List UInt8} {p cnt lv n : Nat}
theorem r_elem_4 (ih : RItem d) (hTab : Tabs H) (hlv : lv + 1 + d = 8) (hn : n < 18446744073709551616) (hl0 : 0 < l.length) (hP : Psr 97 w g H A c l p cnt) : Calls Tryz.prog 76 #[.pointer (some ⟨g, 0, none⟩), .int .i64 4, .int .u64 (n : Int), .int .i64 (lv : Int)] w (ItemOut 97 w H g A c l p (contP 4 d n (l.drop p) cnt)) := by
 have hgl := hP.gt;have hn0 : H w.heap.size = none := hP.holds.none_of_ge (Nat.le_refl _);have hn1 : H (w.heap.size + 1) = none := hP.holds.none_of_ge (Nat.le_succ _);have hd0 := ((Rdg.refl hP).alloc zeroO).alloc zeroO;have hT0 := (Blk.new w 31 #[.int .i64 0, .int .u64 0, .slice none 0 0, .slice none 0 0]).alloc zeroO;have hX0 := Blk.new (w.alloc zeroO) 31 #[.int .i64 0, .int .u64 0, .slice none 0 0, .slice none 0 0];rw [show (w.alloc zeroO).heap.size = w.heap.size + 1 by simp] at hX0;have HNN := Hh hn;have HLL := Hh hP.small;have HLV := Hh hlv;have hlvi : (lv : Int) ≤ 8 := by omega
 have KLV : IntKind.i64.wrap ((lv : Int) + 1) = (lv : Int) + 1 := IntWalk.i64_in _ (by omega);have HNB := Hh (show n < 18446744073709551616 by omega);have HRES : Hid (contP 4 d n (l.drop p) cnt = elR 4 n (arrP (parse d) n (l.drop p) cnt)) := by rw [Hid, contP, cntOf, if_neg (by omega), if_neg (by omega), elem_arr (by omega)]
 clear hn;go_enter Tryz.func76, Tryz.ntmps76
 go_wp2_with (with_reducible refine stop_store ?_)
 refine stI hX0 fun w4 hX4 hg4 => ?_
 have hd5 := hd0.grownRow (row := some (w.heap.size + 1)) (by rintro q ⟨⟩; exact hn1) (by rintro q ⟨⟩; exact Nat.le_succ _) hgl hg4;have hT5 := hT0.gr hg4 (by omega);clear hd0 hT0 hX0 hg4;obtain ⟨X, hXX⟩ : ∃ X, w.heap.size + 1 = X := ⟨_, rfl⟩
 have hlt3 : Hid (w.heap.size < X) := by rw [Hid]; omega
 rw [hXX] at hX4 hn1 ⊢;clear hXX;go_wp2_with fail
 go_loopw [12, 13, 14] (fun v12 v13 v14 wr => ∃ (i : Nat) (Hr : Snap) (VA : Option Addr) (vc vn : Nat) (L : List Itm) (k0 cc : Nat) , v14 = .int .u64 (i : Int) ∧ v12 = .slice VA vn vc ∧ i ≤ n ∧ vn = L.length ∧
  Rdg 97 w H wr Hr g A c l (p + k0) cc ∧ Blk wr w.heap.size 31 #[.int .i64 0, .int .u64 0, .slice none 0 0, .slice none 0 0] ∧ Hr w.heap.size = none ∧
  Blk wr X 31 #[.int .i64 4, .int .u64 0, .slice none 0 0, .slice none 0 0] ∧ Hr X = none ∧ OwnI wr (X + 1) (.slice VA vn vc) Hr L ∧ (∀ q, (Value.slice VA vn vc).ownBlock = some q → Hr q = none) ∧ L.length ≤ cc ∧
  arrP (parse d) n (l.drop p) cnt = (arrP (parse d) (n - i) (l.drop (p + k0)) cc).pre L k0) (fun _ _ v14 _ => n - (intOf v14).toNat)
 case atStart => exact ⟨0, H, none, 0, 0, [], 0, cnt, rfl, rfl, Nat.zero_le _, rfl, hd5, hT5, hn0, hX4, hn1, OwnI.nil _ _ H, by intro q hq; simp [Value.ownBlock] at hq, by simp, by rw [pre_nil]; rfl⟩
 case round =>
  clear hd5 hT5 hX4;obtain ⟨i, Hr, VA, vc, vn, L, k0, cc, rfl, rfl, hin, rfl, hdr, hTr, hTn, hXr, hXrn, hOr, hnr, hLc, hrel2⟩ := hrel;have HREL := Hh hrel2;have HLC := Hh hLc;have HIN := Hh hin
  
  clear hrel2 hLc hin 
  by_cases hi0 : i < n
  ·obtain ⟨m1, hm1⟩ : ∃ m1, n - i = m1 + 1 := ⟨n - i - 1, by omega⟩
   have HM1 := Hh (show n - (i + 1) = m1 by omega);have HREL2 : Hid (arrP (parse d) n (l.drop p) cnt = (arrP (parse d) (m1 + 1) (l.drop (p + k0)) cc).pre L k0) := by rw [Hid, HREL.out, hm1]
   obtain ⟨P1, hP1⟩ : ∃ P1, p + k0 = P1 := ⟨_, rfl⟩
   have HPP1 := Hh hP1;rw [hP1] at hdr HREL2;clear hP1;have hmi1 : (i : Int) < (n : Int) := by omega
   have IT := ih wr Hr g A c l P1 cc (lv + 1) (hTab.mono hdr.grows.le) hlv hdr.psr;rw [show ((lv + 1 : Nat) : Int) = (lv : Int) + 1 by omega] at IT;have ITH := Hh IT;clear hm1 HREL IT;go_wp2_with fail
   refine ITH.out.mono ?_
   intro e w5 hs
   cases hp : parse d (l.drop P1) cc with
   | err q =>
    rw [hp, ItemOut] at hs;obtain ⟨rfl, H5, p5, cnt5, hd35⟩ := hs;have hq0 : ((q : Int) != 0) = true := by rw [bne_iff_ne]; have := parse_err _ _ _ _ hp; omega
    have hq0' : ((q : Int) = 0) = False := eq_false (by have := parse_err _ _ _ _ hp; omega);have E : Hid (contP 4 d n (l.drop p) cnt = .err q) := by rw [Hid, HRES.out, HREL2.out, arr_err_step L k0 hp]; rfl
    have hd6 := hdr.trans hd35;have hT6 := hTr.rdg hd35 (by omega);have hn6 := hd35.hid hTn hTr.lt;have hY := Blk.new w5 31 #[.int .i64 0, .int .u64 0, .slice none 0 0, .slice none 0 0];have hYn : H5 w5.heap.size = none := hd6.psr.holds.none_of_ge (Nat.le_refl _);have hTl := Hh hT6.lt;have hd7 := hd6.alloc zeroO;have hT7 := hT6.alloc zeroO;clear ITH hp hdr hd35 hTr hXr hOr hnr HREL2 HLC hd6 hT6;go_wp2_with (with_reducible refine stop_store ?_)
    refine stI hY fun w8 hY8 hg8 => ?_
    have hd8 := hd7.gb hYn (Nat.le_of_lt hTl.out) hgl hg8;have hT8 := hT7.grown hg8 (by intro e; injection e with e; have := hTl.out; omega);clear hd7 hT7 hY hg8 hY8;go_wp2_with (with_reducible refine stop_store ?_)
    refine stI hT8 fun wz hTy hgz => ?_
    have hdz := hd8.gb hn6 (Nat.le_refl _) hgl hgz;go_wp2_with fail
    refine ret_row_tmp rfl rfl hTy rfl rfl size_item rfl ?_
    exact ItemOut.err E.out rfl hdz
   | ok x k c1 =>
    rw [hp, ItemOut] at hs;obtain ⟨ja, jb, jc, jd, H5, rfl, hd35, hi5⟩ := hs;have HCC := Hh (parse_counts d _ _ _ _ _ hp);have hd6 := hdr.trans hd35;have hc6 := hd6.psr.cnt_le;have hT6 := hTr.rdg hd35 (by omega);have hn6 := hd35.hid hTn hTr.lt;have hX6 := hXr.rdg hd35 (by have := hlt3.out; omega);have hXn6 := hd35.hid hXrn hXr.lt;have hO6 := (hOr.rdg hd35 (by have := hlt3.out; omega)).mono hd35.grows.le;have hon6 : ∀ q, (Value.slice VA L.length vc).ownBlock = some q → H5 q = none := fun q hq => hd35.hid (hnr q hq) (hOr.lt q hq).2
    have hLE5 := Hh hd35.grows.le;have hY := Blk.new w5 31 #[.int .i64 0, .int .u64 0, .slice none 0 0, .slice none 0 0];have hYn : H5 w5.heap.size = none := hd6.psr.holds.none_of_ge (Nat.le_refl _);have hTl := Hh (And.intro hT6.lt hX6.lt);have hol := Hh (show ∀ q, (Value.slice VA L.length vc).ownBlock = some q → X + 1 ≤ q ∧ q < w5.heap.size from fun q hq => hO6.lt q hq);have hd7 := hd6.alloc zeroO;have hT7 := hT6.alloc zeroO;have hX7 := hX6.alloc zeroO;have hO7 := hO6.alloc zeroO;have HLN := Hh (show L.length ≤ 256 by have := HCC.out; have := HLC.out; omega);have HP_ := Hh hp;clear ITH hp hdr hd35 hTr hXr hOr hnr hd6 hT6 hX6 hO6;go_wp2_with (with_reducible refine stop_store ?_)
    refine stI hY fun w8 hY8 hg8 => ?_
    have hd8 := hd7.gb hYn (Nat.le_of_lt hTl.out.1) hgl hg8;have hT8 := hT7.grown hg8 (by intro e; injection e with e; have := hTl.out.1; omega);have hX8 := hX7.grown hg8 (by intro e; injection e with e; have := hTl.out.2; omega);have hO8 := hO7.kl hg8 (fun q hv => by have := (hol.out q hv).2; omega);obtain ⟨Y1, hY1⟩ : ∃ Y1, w5.heap.size = Y1 := ⟨_, rfl⟩
    rw [hY1] at hY8 hTl hYn hol ⊢;have b0 := hY8.cell 0 rfl;have b1 := hY8.cell 1 rfl;have b2 := hY8.cell 2 rfl;have b3 := hY8.cell 3 rfl;clear hd7 hT7 hX7 hO7 hY hg8 hY1
    have HC2 : Hid ((L ++ [x]).length ≤ c1) := by
     have := HCC.out;have := HLC.out;rw [Hid, List.length_append]; simp; omega
    have hd9 := hd8.alloc (.cells (itemC x ja jb jc jd).toArray 31);have hT9 := hT8.alloc (.cells (itemC x ja jb jc jd).toArray 31);have hX9 := hX8.alloc (.cells (itemC x ja jb jc jd).toArray 31);have hO9 := hO8.alloc (.cells (itemC x ja jb jc jd).toArray 31);go_wp2_with (at_builtin; refine stop_in ?_)
    refine wpList_app_items rfl (.tmp 75) (.tmp 77) rfl (X + 1) (.slice VA L.length vc) H5 _ rfl hO9 _ 1 _ (itemC x ja jb jc jd) [x] rfl rfl (ItemsC.one hi5) (Src.new _ _ _ _ rfl _ rfl) (by have := HLN.out; simp; omega) hX9.lt fun v' w10 hO10 hg10 hat10 => ?_
    obtain ⟨VA', vc', rfl, _⟩ := hO10.form;have hT10 := hT9.grown hg10 (fun e => by have := (hol.out _ e).1; have := hlt3.out; omega);have hX10 := hX9.grown hg10 (fun e => by have := (hol.out _ e).1; omega);have hn10 := own_hid3 hd9.psr.holds hon6 hat10;have hd10 := hd9.grownRow hon6 (fun q hq => by have := (hol.out q hq).1; have := hlt3.out; omega) hgl hg10;obtain ⟨L', hL'⟩ : ∃ L', L ++ [x] = L' := ⟨_, rfl⟩
    rw [hL'] at hO10 hn10 HC2 ⊢;have HR2 := Hh (show arrP (parse d) n (l.drop p) cnt = (arrP (parse d) m1 (l.drop (p + (k0 + k))) c1).pre (L ++ [x]) (k0 + k) by rw [HREL2.out, arr_ok_step L k0 HP_.out, List.drop_drop, ← HPP1.out, Nat.add_assoc]);rw [hL'] at HR2;have hLL2 : L.length + 1 = L'.length := by rw [← hL']; simp
    try rw [hLL2]
    clear hL' hd9 hT9 hX9 hO9 hg10 hat10 b0 b1 b2 b3 hLL2;have KI : IntKind.u64.wrap ((i : Int) + 1) = (i : Int) + 1 := by rw [IntKind.wrap_u64]; have := HNB.out; omega
    rw [show P1 + k = p + (k0 + k) by have := HPP1.out; omega] at hd10;have hmi2 := Hh hmi1;clear hmi1;go_wp2_with fail
    go_roundw
    case rel => exact ⟨i + 1, H5, VA', vc', _, L', k0 + k, c1, by first | rfl | (simp; done) | go_num, rfl, by have := hmi2.out; omega, rfl, hd10, hT10, hn6, hX10, hXn6, hO10, hn10, HC2.out, by rw [HM1.out]; exact HR2.out⟩
    case measure => have := hmi2.out; simp [intOf]; omega
  ·have hm : n = i := by have := HIN.out; omega
   subst hm
   have E1 : Hid (contP 4 d n (l.drop p) cnt = .ok (.mk 4 0 [] L) k0 cc) := by
    rw [Hid, HRES.out, HREL.out, Nat.sub_self, arrP]; simp [PL.pre, elR]
   obtain ⟨H5, hl5, hh5, hf5, hz5, hle1, hle2, hel5⟩ := hOr.snap hdr.psr.holds (fun q hq => hnr q (own_of hq));have hlow : ∀ q, VA.map (·.block) = some q → X + 1 ≤ q := fun q hq => (hOr.lt q (own_of hq)).1
   have hn5 : H5 w.heap.size = none := snap_keep hf5 hTn (fun e => by have := hlow _ e; have := hlt3.out; omega);have hXn5 : H5 X = none := snap_keep hf5 hXrn (fun e => by have := hlow _ e; omega);have hd6 : Rdg 97 w H wr H5 g A c l (p + k0) cc := hdr.snap (B := X + 1) hl5 hh5 hf5 hlow (by have := hlt3.out; omega) hgl;have hii : IsItem H5 none 0 VA vc (.mk 4 0 [] L) := IsRowI.item ⟨hle1, hle2, hel5⟩ 4 (by omega) 0 (by have := HNN.out; omega);clear hOr hf5 hel5 hh5 hl5 hTn hXrn hnr hlow hdr HREL;go_wp2_with (with_reducible refine stop_store ?_)
   refine wpList_store_cell rfl _ _ _ rfl rfl X 3 (.slice VA L.length vc) rfl rfl _ _ hXr size_items (by simp) rfl fun w6 hX6 hg6 => ?_
   have hd7 := hd6.gb hXn5 (Nat.le_of_lt hlt3.out) hgl hg6;have hT7 := hTr.grown hg6 (by intro e; injection e with e; have := hlt3.out; omega);have b0 := hX6.cell 0 rfl;have b1 := hX6.cell 1 rfl;have b2 := hX6.cell 2 rfl;have b3 := hX6.cell 3 rfl;clear hd6 hTr hXr hg6;go_wp2_with (with_reducible refine stop_store ?_)
   refine stI hT7 fun wz hTy hgz => ?_
   have hdz := hd7.gb hn5 (Nat.le_refl _) hgl hgz;go_wp2_with fail
   refine ret_row_tmp rfl rfl hTy rfl rfl size_item rfl ?_
   exact ItemOut.ok E1.out rfl hdz hii
theorem r_elem_6 (ih : RItem d) (hTab : Tabs H) (hlv : lv + 1 + d = 8) (hn : n < 18446744073709551616) (hl0 : 0 < l.length) (hP : Psr 97 w g H A c l p cnt) : Calls Tryz.prog 76 #[.pointer (some ⟨g, 0, none⟩), .int .i64 6, .int .u64 (n : Int), .int .i64 (lv : Int)] w (ItemOut 97 w H g A c l p (contP 6 d n (l.drop p) cnt)) := by
 have hgl := hP.gt;have hn0 : H w.heap.size = none := hP.holds.none_of_ge (Nat.le_refl _);have hn1 : H (w.heap.size + 1) = none := hP.holds.none_of_ge (Nat.le_succ _);have hd0 := ((Rdg.refl hP).alloc zeroO).alloc zeroO;have hT0 := (Blk.new w 31 #[.int .i64 0, .int .u64 0, .slice none 0 0, .slice none 0 0]).alloc zeroO;have hX0 := Blk.new (w.alloc zeroO) 31 #[.int .i64 0, .int .u64 0, .slice none 0 0, .slice none 0 0];rw [show (w.alloc zeroO).heap.size = w.heap.size + 1 by simp] at hX0;have HNN := Hh hn;have HLL := Hh hP.small;have HLV := Hh hlv;have hlvi : (lv : Int) ≤ 8 := by omega
 have KLV : IntKind.i64.wrap ((lv : Int) + 1) = (lv : Int) + 1 := IntWalk.i64_in _ (by omega);have HNB := Hh (show 1 < 18446744073709551616 by omega);have HRES : Hid (contP 6 d n (l.drop p) cnt = elR 6 n (arrP (parse d) 1 (l.drop p) cnt)) := by rw [Hid, contP, cntOf, if_neg (by omega), if_pos rfl, elem_arr (by omega)]
 clear hn;go_enter Tryz.func76, Tryz.ntmps76
 go_wp2_with (with_reducible refine stop_store ?_)
 refine stI hX0 fun w4 hX4 hg4 => ?_
 have hd5 := hd0.grownRow (row := some (w.heap.size + 1)) (by rintro q ⟨⟩; exact hn1) (by rintro q ⟨⟩; exact Nat.le_succ _) hgl hg4;have hT5 := hT0.gr hg4 (by omega);clear hd0 hT0 hX0 hg4;obtain ⟨X, hXX⟩ : ∃ X, w.heap.size + 1 = X := ⟨_, rfl⟩
 have hlt3 : Hid (w.heap.size < X) := by rw [Hid]; omega
 rw [hXX] at hX4 hn1 ⊢;clear hXX;go_wp2_with (with_reducible refine stop_store ?_)
 refine wpList_store_cell rfl _ _ _ rfl rfl X 1 (.int .u64 (n : Int)) rfl rfl _ _ hX4 size_u64 (by simp) rfl fun w4b hX4b hg4b => ?_
 have hd5b := hd5.gb hn1 (Nat.le_of_lt hlt3.out) hgl hg4b;have hT5b := hT5.grown hg4b (by intro e; injection e with e; have := hlt3.out; omega);have hX4c : Blk w4b X 31 #[.int .i64 6, .int .u64 (n : Int), .slice none 0 0, .slice none 0 0] := hX4b;clear hd5 hT5 hX4 hX4b hg4b;have hd5 := hd5b;have hT5 := hT5b;have hX4 := hX4c;clear hd5b hT5b hX4c;go_wp2_with fail
 go_loopw [12, 13, 14] (fun v12 v13 v14 wr => ∃ (i : Nat) (Hr : Snap) (VA : Option Addr) (vc vn : Nat) (L : List Itm) (k0 cc : Nat) , v14 = .int .u64 (i : Int) ∧ v12 = .slice VA vn vc ∧ i ≤ 1 ∧ vn = L.length ∧
  Rdg 97 w H wr Hr g A c l (p + k0) cc ∧ Blk wr w.heap.size 31 #[.int .i64 0, .int .u64 0, .slice none 0 0, .slice none 0 0] ∧ Hr w.heap.size = none ∧
  Blk wr X 31 #[.int .i64 6, .int .u64 (n : Int), .slice none 0 0, .slice none 0 0] ∧ Hr X = none ∧ OwnI wr (X + 1) (.slice VA vn vc) Hr L ∧ (∀ q, (Value.slice VA vn vc).ownBlock = some q → Hr q = none) ∧ L.length ≤ cc ∧
  arrP (parse d) 1 (l.drop p) cnt = (arrP (parse d) (1 - i) (l.drop (p + k0)) cc).pre L k0) (fun _ _ v14 _ => 1 - (intOf v14).toNat)
 case atStart => exact ⟨0, H, none, 0, 0, [], 0, cnt, rfl, rfl, Nat.zero_le _, rfl, hd5, hT5, hn0, hX4, hn1, OwnI.nil _ _ H, by intro q hq; simp [Value.ownBlock] at hq, by simp, by rw [pre_nil]; rfl⟩
 case round =>
  clear hd5 hT5 hX4;obtain ⟨i, Hr, VA, vc, vn, L, k0, cc, rfl, rfl, hin, rfl, hdr, hTr, hTn, hXr, hXrn, hOr, hnr, hLc, hrel2⟩ := hrel;have HREL := Hh hrel2;have HLC := Hh hLc;have HIN := Hh hin
  
  clear hrel2 hLc hin 
  by_cases hi0 : i < 1
  ·obtain ⟨m1, hm1⟩ : ∃ m1, 1 - i = m1 + 1 := ⟨1 - i - 1, by omega⟩
   have HM1 := Hh (show 1 - (i + 1) = m1 by omega);have HREL2 : Hid (arrP (parse d) 1 (l.drop p) cnt = (arrP (parse d) (m1 + 1) (l.drop (p + k0)) cc).pre L k0) := by rw [Hid, HREL.out, hm1]
   obtain ⟨P1, hP1⟩ : ∃ P1, p + k0 = P1 := ⟨_, rfl⟩
   have HPP1 := Hh hP1;rw [hP1] at hdr HREL2;clear hP1;have hmi1 : (i : Int) < 1 := by omega
   have IT := ih wr Hr g A c l P1 cc (lv + 1) (hTab.mono hdr.grows.le) hlv hdr.psr;rw [show ((lv + 1 : Nat) : Int) = (lv : Int) + 1 by omega] at IT;have ITH := Hh IT;clear hm1 HREL IT;go_wp2_with fail
   refine ITH.out.mono ?_
   intro e w5 hs
   cases hp : parse d (l.drop P1) cc with
   | err q =>
    rw [hp, ItemOut] at hs;obtain ⟨rfl, H5, p5, cnt5, hd35⟩ := hs;have hq0 : ((q : Int) != 0) = true := by rw [bne_iff_ne]; have := parse_err _ _ _ _ hp; omega
    have hq0' : ((q : Int) = 0) = False := eq_false (by have := parse_err _ _ _ _ hp; omega);have E : Hid (contP 6 d n (l.drop p) cnt = .err q) := by rw [Hid, HRES.out, HREL2.out, arr_err_step L k0 hp]; rfl
    have hd6 := hdr.trans hd35;have hT6 := hTr.rdg hd35 (by omega);have hn6 := hd35.hid hTn hTr.lt;have hY := Blk.new w5 31 #[.int .i64 0, .int .u64 0, .slice none 0 0, .slice none 0 0];have hYn : H5 w5.heap.size = none := hd6.psr.holds.none_of_ge (Nat.le_refl _);have hTl := Hh hT6.lt;have hd7 := hd6.alloc zeroO;have hT7 := hT6.alloc zeroO;clear ITH hp hdr hd35 hTr hXr hOr hnr HREL2 HLC hd6 hT6;go_wp2_with (with_reducible refine stop_store ?_)
    refine stI hY fun w8 hY8 hg8 => ?_
    have hd8 := hd7.gb hYn (Nat.le_of_lt hTl.out) hgl hg8;have hT8 := hT7.grown hg8 (by intro e; injection e with e; have := hTl.out; omega);clear hd7 hT7 hY hg8 hY8;go_wp2_with (with_reducible refine stop_store ?_)
    refine stI hT8 fun wz hTy hgz => ?_
    have hdz := hd8.gb hn6 (Nat.le_refl _) hgl hgz;go_wp2_with fail
    refine ret_row_tmp rfl rfl hTy rfl rfl size_item rfl ?_
    exact ItemOut.err E.out rfl hdz
   | ok x k c1 =>
    rw [hp, ItemOut] at hs;obtain ⟨ja, jb, jc, jd, H5, rfl, hd35, hi5⟩ := hs;have HCC := Hh (parse_counts d _ _ _ _ _ hp);have hd6 := hdr.trans hd35;have hc6 := hd6.psr.cnt_le;have hT6 := hTr.rdg hd35 (by omega);have hn6 := hd35.hid hTn hTr.lt;have hX6 := hXr.rdg hd35 (by have := hlt3.out; omega);have hXn6 := hd35.hid hXrn hXr.lt;have hO6 := (hOr.rdg hd35 (by have := hlt3.out; omega)).mono hd35.grows.le;have hon6 : ∀ q, (Value.slice VA L.length vc).ownBlock = some q → H5 q = none := fun q hq => hd35.hid (hnr q hq) (hOr.lt q hq).2
    have hLE5 := Hh hd35.grows.le;have hY := Blk.new w5 31 #[.int .i64 0, .int .u64 0, .slice none 0 0, .slice none 0 0];have hYn : H5 w5.heap.size = none := hd6.psr.holds.none_of_ge (Nat.le_refl _);have hTl := Hh (And.intro hT6.lt hX6.lt);have hol := Hh (show ∀ q, (Value.slice VA L.length vc).ownBlock = some q → X + 1 ≤ q ∧ q < w5.heap.size from fun q hq => hO6.lt q hq);have hd7 := hd6.alloc zeroO;have hT7 := hT6.alloc zeroO;have hX7 := hX6.alloc zeroO;have hO7 := hO6.alloc zeroO;have HLN := Hh (show L.length ≤ 256 by have := HCC.out; have := HLC.out; omega);have HP_ := Hh hp;clear ITH hp hdr hd35 hTr hXr hOr hnr hd6 hT6 hX6 hO6;go_wp2_with (with_reducible refine stop_store ?_)
    refine stI hY fun w8 hY8 hg8 => ?_
    have hd8 := hd7.gb hYn (Nat.le_of_lt hTl.out.1) hgl hg8;have hT8 := hT7.grown hg8 (by intro e; injection e with e; have := hTl.out.1; omega);have hX8 := hX7.grown hg8 (by intro e; injection e with e; have := hTl.out.2; omega);have hO8 := hO7.kl hg8 (fun q hv => by have := (hol.out q hv).2; omega);obtain ⟨Y1, hY1⟩ : ∃ Y1, w5.heap.size = Y1 := ⟨_, rfl⟩
    rw [hY1] at hY8 hTl hYn hol ⊢;have b0 := hY8.cell 0 rfl;have b1 := hY8.cell 1 rfl;have b2 := hY8.cell 2 rfl;have b3 := hY8.cell 3 rfl;clear hd7 hT7 hX7 hO7 hY hg8 hY1
    have HC2 : Hid ((L ++ [x]).length ≤ c1) := by
     have := HCC.out;have := HLC.out;rw [Hid, List.length_append]; simp; omega
    have hd9 := hd8.alloc (.cells (itemC x ja jb jc jd).toArray 31);have hT9 := hT8.alloc (.cells (itemC x ja jb jc jd).toArray 31);have hX9 := hX8.alloc (.cells (itemC x ja jb jc jd).toArray 31);have hO9 := hO8.alloc (.cells (itemC x ja jb jc jd).toArray 31);go_wp2_with (at_builtin; refine stop_in ?_)
    refine wpList_app_items rfl (.tmp 75) (.tmp 77) rfl (X + 1) (.slice VA L.length vc) H5 _ rfl hO9 _ 1 _ (itemC x ja jb jc jd) [x] rfl rfl (ItemsC.one hi5) (Src.new _ _ _ _ rfl _ rfl) (by have := HLN.out; simp; omega) hX9.lt fun v' w10 hO10 hg10 hat10 => ?_
    obtain ⟨VA', vc', rfl, _⟩ := hO10.form;have hT10 := hT9.grown hg10 (fun e => by have := (hol.out _ e).1; have := hlt3.out; omega);have hX10 := hX9.grown hg10 (fun e => by have := (hol.out _ e).1; omega);have hn10 := own_hid3 hd9.psr.holds hon6 hat10;have hd10 := hd9.grownRow hon6 (fun q hq => by have := (hol.out q hq).1; have := hlt3.out; omega) hgl hg10;obtain ⟨L', hL'⟩ : ∃ L', L ++ [x] = L' := ⟨_, rfl⟩
    rw [hL'] at hO10 hn10 HC2 ⊢;have HR2 := Hh (show arrP (parse d) 1 (l.drop p) cnt = (arrP (parse d) m1 (l.drop (p + (k0 + k))) c1).pre (L ++ [x]) (k0 + k) by rw [HREL2.out, arr_ok_step L k0 HP_.out, List.drop_drop, ← HPP1.out, Nat.add_assoc]);rw [hL'] at HR2;have hLL2 : L.length + 1 = L'.length := by rw [← hL']; simp
    try rw [hLL2]
    clear hL' hd9 hT9 hX9 hO9 hg10 hat10 b0 b1 b2 b3 hLL2;have KI : IntKind.u64.wrap ((i : Int) + 1) = (i : Int) + 1 := by rw [IntKind.wrap_u64]; have := HNB.out; omega
    rw [show P1 + k = p + (k0 + k) by have := HPP1.out; omega] at hd10;have hmi2 := Hh hmi1;clear hmi1;go_wp2_with fail
    go_roundw
    case rel => exact ⟨i + 1, H5, VA', vc', _, L', k0 + k, c1, by first | rfl | (simp; done) | go_num, rfl, by have := hmi2.out; omega, rfl, hd10, hT10, hn6, hX10, hXn6, hO10, hn10, HC2.out, by rw [HM1.out]; exact HR2.out⟩
    case measure => have := hmi2.out; simp [intOf]; omega
  ·have hm : 1 = i := by have := HIN.out; omega
   subst hm
   have E1 : Hid (contP 6 d n (l.drop p) cnt = .ok (.mk 6 n [] L) k0 cc) := by
    rw [Hid, HRES.out, HREL.out, Nat.sub_self, arrP]; simp [PL.pre, elR]
   obtain ⟨H5, hl5, hh5, hf5, hz5, hle1, hle2, hel5⟩ := hOr.snap hdr.psr.holds (fun q hq => hnr q (own_of hq));have hlow : ∀ q, VA.map (·.block) = some q → X + 1 ≤ q := fun q hq => (hOr.lt q (own_of hq)).1
   have hn5 : H5 w.heap.size = none := snap_keep hf5 hTn (fun e => by have := hlow _ e; have := hlt3.out; omega);have hXn5 : H5 X = none := snap_keep hf5 hXrn (fun e => by have := hlow _ e; omega);have hd6 : Rdg 97 w H wr H5 g A c l (p + k0) cc := hdr.snap (B := X + 1) hl5 hh5 hf5 hlow (by have := hlt3.out; omega) hgl;have hii : IsItem H5 none 0 VA vc (.mk 6 n [] L) := IsRowI.item ⟨hle1, hle2, hel5⟩ 6 (by omega) n (by have := HNN.out; omega);clear hOr hf5 hel5 hh5 hl5 hTn hXrn hnr hlow hdr HREL;go_wp2_with (with_reducible refine stop_store ?_)
   refine wpList_store_cell rfl _ _ _ rfl rfl X 3 (.slice VA L.length vc) rfl rfl _ _ hXr size_items (by simp) rfl fun w6 hX6 hg6 => ?_
   have hd7 := hd6.gb hXn5 (Nat.le_of_lt hlt3.out) hgl hg6;have hT7 := hTr.grown hg6 (by intro e; injection e with e; have := hlt3.out; omega);have b0 := hX6.cell 0 rfl;have b1 := hX6.cell 1 rfl;have b2 := hX6.cell 2 rfl;have b3 := hX6.cell 3 rfl;clear hd6 hTr hXr hg6;go_wp2_with (with_reducible refine stop_store ?_)
   refine stI hT7 fun wz hTy hgz => ?_
   have hdz := hd7.gb hn5 (Nat.le_refl _) hgl hgz;go_wp2_with fail
   refine ret_row_tmp rfl rfl hTy rfl rfl size_item rfl ?_
   exact ItemOut.ok E1.out rfl hdz hii
end
end Go.Proofs.YtlebpackbfcfeaaGreatDoor
