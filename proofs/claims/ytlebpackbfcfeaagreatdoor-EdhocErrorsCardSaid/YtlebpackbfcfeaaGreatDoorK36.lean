/- squeezed. Walks: the reference's reader of i -/
import Derived.Test.YtlebpackbfcfeaaGreatDoorK32
set_option linter.unusedVariables false
set_option linter.unusedSimpArgs false
set_option maxRecDepth 100000
set_option maxHeartbeats 6400000
namespace Go.Proofs.YtlebpackbfcfeaaGreatDoor
open Go.RowKit
section
variable {d : Nat} {w : World} {H : Snap} {g : Nat} {A : Option Addr} {c : Nat} {l : List UInt8} {p cnt lv : Nat}
theorem r_item_3 (hTab : Tabs H) (hlv : lv + d = 8) (hP : Psr 97 w g H A c l p cnt) (hc : cnt < 256) (hp2 : p < l.length) {ch : UInt8} (hch : l[p] = ch) {low kd : Nat} (hlow : ch.toNat % 32 = low) (hkd : ch.toNat / 32 = kd) (h27 : low ≤ 27) (hk : kd = 3) : Calls Tryz.prog 61 #[.pointer (some ⟨g, 0, none⟩), .int .i64 (lv : Int)] w (ItemOut 97 w H g A c l p (parse d (l.drop p) cnt)) := by
 have hgl := hP.gt;have hd0 := (Rdg.refl hP).alloc zeroO;have hT0 := Blk.new w 31 #[.int .i64 0, .int .u64 0, .slice none 0 0, .slice none 0 0];have hn0 : H w.heap.size = none := hP.holds.none_of_ge (Nat.le_refl _);have c2 := hd0.psr.blk.cell 2 rfl;have ED := drop_cons hp2;rw [hch] at ED;subst hk
 have EH0 : Hid (headP (l.drop p) = if 27 < low then .error 3 else if low < 24 then .ok (ch.toNat, low, 1) else if (l.drop (p + 1)).length < 2 ^ (low - 24) then .error 2
    else if ch.toNat / 32 < 7 ∧ (headB 0 (beN ((l.drop (p + 1)).take (2 ^ (low - 24))))).length ≠ 1 + 2 ^ (low - 24) then .error 4
    else .ok (ch.toNat, beN ((l.drop (p + 1)).take (2 ^ (low - 24))), 1 + 2 ^ (low - 24))) := by rw [Hid, ED, headP, hlow]
 have z27 : ¬ ((27 : Int) < (low : Int)) := by omega
 have z27b : decide ((27 : Int) < (low : Int)) = false := decide_eq_false z27;have H27 := Hh h27;have HLV := Hh hlv;have HK6 : Hid (3 < 7) := by rw [Hid]; omega
 clear h27 ED;have z0 : ¬ (((l.length : Nat) : Int) ≤ (p : Int)) := by omega
 have z0' : decide (((l.length : Nat) : Int) ≤ (p : Int)) = false := decide_eq_false z0;have hpi : (p : Int) < (l.length : Int) := by omega
 have hp0 : (0 : Int) ≤ (p : Int) := by omega
 have hsm := hP.small;have K1 : IntKind.i64.wrap ((p : Int) + 1) = (p : Int) + 1 := IntWalk.i64_in _ (by omega);obtain ⟨b, off, rfl, HCELL0⟩ := hP.bytes.at_ (by omega);have KA := and31 ⟨ch.toNat, ch.toNat_lt⟩
 simp only at KA
 rw [hlow] at KA;have S : (ch.toNat : Int) / 32 = 3 := by omega
 have hkw := True.intro;have hlw : (low : Int) ≤ 31 := by omega
 have HCELL := Hh HCELL0;have HLOW := Hh (And.intro hlow (And.intro hkd hp2));have HCH := Hh (show H.cell? ⟨b, off + p, none⟩ = some (byteV ch) by have h := HCELL0 p hp2; rw [hch] at h; exact h);clear HCELL0 hlow hkd hsm hch;have hc256 : ¬ ((256 : Int) ≤ (cnt : Int)) := by omega
 have hc256' : decide ((256 : Int) ≤ (cnt : Int)) = false := decide_eq_false hc256;have KC : IntKind.i64.wrap ((cnt : Int) + 1) = (cnt : Int) + 1 := IntWalk.i64_in _ (by omega);have HC := Hh hc;clear hc;go_enter Tryz.func61, Tryz.ntmps61
 go_wp2_with (with_reducible refine stop_store ?_)
 refine wpList_store_cell rfl _ _ _ rfl rfl g 2 (.int .i64 ((cnt : Int) + 1)) rfl rfl _ _ hd0.psr.blk size_int1 (by simp) rfl fun w2 hB2 hG2 => ?_
 have hd2 : Rdg 97 w H w2 H g _ c l p (cnt + 1) := hd0.step hG2 hB2 hP.le (by have := HC.out; omega);have hT2 := hT0.gr hG2 (by omega);clear hd0 hT0 hB2 hG2 c2 KC hc256 hc256';have hpl := hd2.psr.le;have a0 := hd2.psr.blk.cell 0 rfl;have a1 := hd2.psr.blk.cell 1 rfl;go_wp2_with fail
 go_big_quiet (fail)
 have hd3' := hd2.drewN nq;have hT3' : Blk (w2.drewN nq) w.heap.size 31 #[.int .i64 0, .int .u64 0, .slice none 0 0, .slice none 0 0] := hT2
 generalize w2.drewN nq = w3 at hd3' hT3' ⊢
 obtain ⟨hd3, hT3⟩ := And.intro hd3' hT3';clear hd3' hT3' hd2 hT2 a0 a1 hpl;have a0 := hd3.psr.blk.cell 0 rfl;have a1 := hd3.psr.blk.cell 1 rfl;have q0 := hd3.psr.holds.cell HCH.out;go_upto_region 6 with fail
 go_big_quiet (fail)
 have hd4' := hd3.drewN nq;have hT4' : Blk (w3.drewN nq) w.heap.size 31 #[.int .i64 0, .int .u64 0, .slice none 0 0, .slice none 0 0] := hT3
 generalize w3.drewN nq = w4 at hd4' hT4' ⊢
 obtain ⟨hd4, hT4⟩ := And.intro hd4' hT4';clear hd4' hT4' hd3 hT3 a0 a1 q0;have a1 := hd4.psr.blk.cell 1 rfl;go_wp2_with (with_reducible refine stop_store ?_)
 refine wpList_store_cell rfl _ _ _ rfl rfl g 1 (.int .i64 ((p : Int) + 1)) rfl rfl _ _ hd4.psr.blk size_int1 (by simp) rfl fun w5 hB5 hG5 => ?_
 have hd5 : Rdg 97 w H w5 H g (some ⟨b, off, none⟩) c l (p + 1) (cnt + 1) := hd4.step hG5 hB5 HLOW.out.2.2 (by have := HC.out; omega);have hT5 := hT4.gr hG5 (by omega);clear hd4 hT4 hB5 hG5 a1 K1 z0 z0' hpi hp0 KA S;go_upto_region 12 with fail
 have KU : IntKind.u64.wrap (low : Int) = (low : Int) := by rw [IntKind.wrap_u64]; omega
 go_upto_if 80 with fail
 go_cut [8] (fun s8 wx => ∃ n k : Nat, headP (l.drop p) = .ok (ch.toNat, n, k) ∧ s8 = .int .u64 (n : Int) ∧ Rdg 97 w H wx H g (some ⟨b, off, none⟩) c l (p + k) (cnt + 1) ∧ Blk wx w.heap.size 31 #[.int .i64 0, .int .u64 0, .slice none 0 0, .slice none 0 0])
 case first =>
  by_cases hl24 : low < 24
  ·have z24 : ¬ ((23 : Int) < (low : Int)) := by omega
   have z24b : decide ((23 : Int) < (low : Int)) = false := decide_eq_false z24;have EH : Hid (headP (l.drop p) = .ok (ch.toNat, low, 1)) := by rw [Hid, EH0.out, if_neg (by have := H27.out; omega), if_pos hl24]
   clear hl24;go_wp2_with fail
   go_meet
   exact ⟨low, 1, EH.out, rfl, hd5, hT5⟩
  have z24 : (23 : Int) < (low : Int) := by omega
  have EH : Hid (headP (l.drop p) = if (l.drop (p + 1)).length < 2 ^ (low - 24) then .error 2
    else if ch.toNat / 32 < 7 ∧ (headB 0 (beN ((l.drop (p + 1)).take (2 ^ (low - 24))))).length ≠ 1 + 2 ^ (low - 24) then .error 4
    else .ok (ch.toNat, beN ((l.drop (p + 1)).take (2 ^ (low - 24))), 1 + 2 ^ (low - 24))) := by rw [Hid, EH0.out, if_neg (by have := H27.out; omega), if_neg hl24]
  clear EH0
  rcases (by have := H27.out; omega : low = 24 ∨ low = 25 ∨ low = 26 ∨ low = 27) with rfl | rfl | rfl | rfl
  ·have NM := Hh (r_number hd5.psr 1 (by omega) (by omega));have HD := Hh (fun n hn w => ref_Head 3 ((n : Nat) : Int) w (by omega) (by omega) (by omega) hn)
   simp only [Nat.reduceSub, Nat.reducePow, Nat.reduceAdd] at EH
   clear hl24 z24 hlw z27 z27b KU;go_wp2_with fail
   refine NM.out.mono ?_
   rintro e w6 (⟨hs, rfl, hB6, hG6⟩ | ⟨hs, rfl, hB6, hG6⟩)
   ·have E : Hid (parse d (l.drop p) cnt = .err 2) := by
     have h1 : headP (l.drop p) = .error 2 := by rw [EH.out, if_pos (by rw [List.length_drop]; have := HLOW.out.2.2; omega)]
     rw [Hid, parse_head d (l.drop p) cnt (by have := HC.out; omega) h1]
    have hd6 : Rdg 97 w H w6 H g (some ⟨b, off, none⟩) c l (p + 1) (cnt + 1) := hd5.step hG6 hB6 HLOW.out.2.2 (by have := HC.out; omega);have hT6 := hT5.gr hG6 (by omega);clear NM HD hs hd5 hT5 hB6 hG6 EH;go_wp2_with (with_reducible refine stop_store ?_)
    refine stI hT6 fun wz hTy hgz => ?_
    have hdz := hd6.gb hn0 (Nat.le_refl _) hgl hgz;go_wp2_with fail
    refine ret_row_tmp rfl rfl hTy rfl rfl size_item rfl ?_
    exact ItemOut.err E.out rfl hdz
   ·have hd6 : Rdg 97 w H w6 H g (some ⟨b, off, none⟩) c l (p + 1 + 1) (cnt + 1) := hd5.step hG6 hB6 hs (by have := HC.out; omega);have hT6 := hT5.gr hG6 (by omega);have hnb := beN_lt ((l.drop (p + 1)).take 1);have hnl : ((l.drop (p + 1)).take 1).length = 1 := by rw [List.length_take, List.length_drop]; omega
    rw [hnl] at hnb
    simp only [Nat.reducePow] at hnb
    obtain ⟨n, hn⟩ : ∃ n, beN ((l.drop (p + 1)).take 1) = n := ⟨_, rfl⟩
    have EH2 : Hid (headP (l.drop p) = if (headB 0 n).length ≠ 2 then .error 4 else .ok (ch.toNat, n, 2)) := by
     rw [Hid, EH.out, if_neg (by rw [List.length_drop]; omega), hn];have := HK6.out;have := HLOW.out.2.1
     by_cases h : (headB 0 n).length = 2 <;> simp [h] <;> omega
    have HDn := Hh (fun w => HD.out n (by omega) w);rw [hn];have hlen : (headB (3 : Int).toNat (n : Int).toNat).length = (headB 0 n).length := by rw [headB_length, headB_length]; rfl
    obtain ⟨fl, hfl⟩ : ∃ fl, (headB 0 n).length = fl := ⟨_, rfl⟩
    rw [hfl] at EH2 hlen;have HLN := Hh hlen;clear NM HD hs hd5 hT5 hB6 hG6 EH hn hnl hnb hfl hlen;go_wp2_with fail
    refine (HDn.out _).mono ?_
    rintro e w7 ⟨r, rfl, hf⟩
    have hd7 := hd6.below_ hf.2;have hT7 := hT6.below hf.2;obtain ⟨RA, rc, rfl, _⟩ := hf.own.form;rw [HLN.out];clear hf HDn hd6 hT6
    by_cases hq : fl = 2
    ·subst hq;have EH3 : Hid (headP (l.drop p) = .ok (ch.toNat, n, 2)) := by rw [Hid, EH2.out, if_neg (by simp)]
     clear EH2;go_wp2_with fail
     go_meet
     exact ⟨n, 2, EH3.out, rfl, by rw [show p + 2 = p + 1 + 1 by omega]; exact hd7, hT7⟩
    ·have zq : ((fl : Int) == 2) = false := by simp; omega
     have zq2 : ((fl : Int) = 2) = False := eq_false (by omega)
     have E : Hid (parse d (l.drop p) cnt = .err 4) := by
      have h1 : headP (l.drop p) = .error 4 := by rw [EH2.out, if_pos hq]
      rw [Hid, parse_head d (l.drop p) cnt (by have := HC.out; omega) h1]
     clear EH2 hq;go_wp2_with (with_reducible refine stop_store ?_)
     refine stI hT7 fun wz hTy hgz => ?_
     have hdz := hd7.gb hn0 (Nat.le_refl _) hgl hgz;go_wp2_with fail
     refine ret_row_tmp rfl rfl hTy rfl rfl size_item rfl ?_
     exact ItemOut.err E.out rfl hdz
  ·have NM := Hh (r_number hd5.psr 2 (by omega) (by omega));have HD := Hh (fun n hn w => ref_Head 3 ((n : Nat) : Int) w (by omega) (by omega) (by omega) hn)
   simp only [Nat.reduceSub, Nat.reducePow, Nat.reduceAdd] at EH
   clear hl24 z24 hlw z27 z27b KU;go_wp2_with fail
   refine NM.out.mono ?_
   rintro e w6 (⟨hs, rfl, hB6, hG6⟩ | ⟨hs, rfl, hB6, hG6⟩)
   ·have E : Hid (parse d (l.drop p) cnt = .err 2) := by
     have h1 : headP (l.drop p) = .error 2 := by rw [EH.out, if_pos (by rw [List.length_drop]; have := HLOW.out.2.2; omega)]
     rw [Hid, parse_head d (l.drop p) cnt (by have := HC.out; omega) h1]
    have hd6 : Rdg 97 w H w6 H g (some ⟨b, off, none⟩) c l (p + 1) (cnt + 1) := hd5.step hG6 hB6 HLOW.out.2.2 (by have := HC.out; omega);have hT6 := hT5.gr hG6 (by omega);clear NM HD hs hd5 hT5 hB6 hG6 EH;go_wp2_with (with_reducible refine stop_store ?_)
    refine stI hT6 fun wz hTy hgz => ?_
    have hdz := hd6.gb hn0 (Nat.le_refl _) hgl hgz;go_wp2_with fail
    refine ret_row_tmp rfl rfl hTy rfl rfl size_item rfl ?_
    exact ItemOut.err E.out rfl hdz
   ·have hd6 : Rdg 97 w H w6 H g (some ⟨b, off, none⟩) c l (p + 1 + 2) (cnt + 1) := hd5.step hG6 hB6 hs (by have := HC.out; omega);have hT6 := hT5.gr hG6 (by omega);have hnb := beN_lt ((l.drop (p + 1)).take 2);have hnl : ((l.drop (p + 1)).take 2).length = 2 := by rw [List.length_take, List.length_drop]; omega
    rw [hnl] at hnb
    simp only [Nat.reducePow] at hnb
    obtain ⟨n, hn⟩ : ∃ n, beN ((l.drop (p + 1)).take 2) = n := ⟨_, rfl⟩
    have EH2 : Hid (headP (l.drop p) = if (headB 0 n).length ≠ 3 then .error 4 else .ok (ch.toNat, n, 3)) := by
     rw [Hid, EH.out, if_neg (by rw [List.length_drop]; omega), hn];have := HK6.out;have := HLOW.out.2.1
     by_cases h : (headB 0 n).length = 3 <;> simp [h] <;> omega
    have HDn := Hh (fun w => HD.out n (by omega) w);rw [hn];have hlen : (headB (3 : Int).toNat (n : Int).toNat).length = (headB 0 n).length := by rw [headB_length, headB_length]; rfl
    obtain ⟨fl, hfl⟩ : ∃ fl, (headB 0 n).length = fl := ⟨_, rfl⟩
    rw [hfl] at EH2 hlen;have HLN := Hh hlen;clear NM HD hs hd5 hT5 hB6 hG6 EH hn hnl hnb hfl hlen;go_wp2_with fail
    refine (HDn.out _).mono ?_
    rintro e w7 ⟨r, rfl, hf⟩
    have hd7 := hd6.below_ hf.2;have hT7 := hT6.below hf.2;obtain ⟨RA, rc, rfl, _⟩ := hf.own.form;rw [HLN.out];clear hf HDn hd6 hT6
    by_cases hq : fl = 3
    ·subst hq;have EH3 : Hid (headP (l.drop p) = .ok (ch.toNat, n, 3)) := by rw [Hid, EH2.out, if_neg (by simp)]
     clear EH2;go_wp2_with fail
     go_meet
     exact ⟨n, 3, EH3.out, rfl, by rw [show p + 3 = p + 1 + 2 by omega]; exact hd7, hT7⟩
    ·have zq : ((fl : Int) == 3) = false := by simp; omega
     have zq2 : ((fl : Int) = 3) = False := eq_false (by omega)
     have E : Hid (parse d (l.drop p) cnt = .err 4) := by
      have h1 : headP (l.drop p) = .error 4 := by rw [EH2.out, if_pos hq]
      rw [Hid, parse_head d (l.drop p) cnt (by have := HC.out; omega) h1]
     clear EH2 hq;go_wp2_with (with_reducible refine stop_store ?_)
     refine stI hT7 fun wz hTy hgz => ?_
     have hdz := hd7.gb hn0 (Nat.le_refl _) hgl hgz;go_wp2_with fail
     refine ret_row_tmp rfl rfl hTy rfl rfl size_item rfl ?_
     exact ItemOut.err E.out rfl hdz
  ·have NM := Hh (r_number hd5.psr 4 (by omega) (by omega));have HD := Hh (fun n hn w => ref_Head 3 ((n : Nat) : Int) w (by omega) (by omega) (by omega) hn)
   simp only [Nat.reduceSub, Nat.reducePow, Nat.reduceAdd] at EH
   clear hl24 z24 hlw z27 z27b KU;go_wp2_with fail
   refine NM.out.mono ?_
   rintro e w6 (⟨hs, rfl, hB6, hG6⟩ | ⟨hs, rfl, hB6, hG6⟩)
   ·have E : Hid (parse d (l.drop p) cnt = .err 2) := by
     have h1 : headP (l.drop p) = .error 2 := by rw [EH.out, if_pos (by rw [List.length_drop]; have := HLOW.out.2.2; omega)]
     rw [Hid, parse_head d (l.drop p) cnt (by have := HC.out; omega) h1]
    have hd6 : Rdg 97 w H w6 H g (some ⟨b, off, none⟩) c l (p + 1) (cnt + 1) := hd5.step hG6 hB6 HLOW.out.2.2 (by have := HC.out; omega);have hT6 := hT5.gr hG6 (by omega);clear NM HD hs hd5 hT5 hB6 hG6 EH;go_wp2_with (with_reducible refine stop_store ?_)
    refine stI hT6 fun wz hTy hgz => ?_
    have hdz := hd6.gb hn0 (Nat.le_refl _) hgl hgz;go_wp2_with fail
    refine ret_row_tmp rfl rfl hTy rfl rfl size_item rfl ?_
    exact ItemOut.err E.out rfl hdz
   ·have hd6 : Rdg 97 w H w6 H g (some ⟨b, off, none⟩) c l (p + 1 + 4) (cnt + 1) := hd5.step hG6 hB6 hs (by have := HC.out; omega);have hT6 := hT5.gr hG6 (by omega);have hnb := beN_lt ((l.drop (p + 1)).take 4);have hnl : ((l.drop (p + 1)).take 4).length = 4 := by rw [List.length_take, List.length_drop]; omega
    rw [hnl] at hnb
    simp only [Nat.reducePow] at hnb
    obtain ⟨n, hn⟩ : ∃ n, beN ((l.drop (p + 1)).take 4) = n := ⟨_, rfl⟩
    have EH2 : Hid (headP (l.drop p) = if (headB 0 n).length ≠ 5 then .error 4 else .ok (ch.toNat, n, 5)) := by
     rw [Hid, EH.out, if_neg (by rw [List.length_drop]; omega), hn];have := HK6.out;have := HLOW.out.2.1
     by_cases h : (headB 0 n).length = 5 <;> simp [h] <;> omega
    have HDn := Hh (fun w => HD.out n (by omega) w);rw [hn];have hlen : (headB (3 : Int).toNat (n : Int).toNat).length = (headB 0 n).length := by rw [headB_length, headB_length]; rfl
    obtain ⟨fl, hfl⟩ : ∃ fl, (headB 0 n).length = fl := ⟨_, rfl⟩
    rw [hfl] at EH2 hlen;have HLN := Hh hlen;clear NM HD hs hd5 hT5 hB6 hG6 EH hn hnl hnb hfl hlen;go_wp2_with fail
    refine (HDn.out _).mono ?_
    rintro e w7 ⟨r, rfl, hf⟩
    have hd7 := hd6.below_ hf.2;have hT7 := hT6.below hf.2;obtain ⟨RA, rc, rfl, _⟩ := hf.own.form;rw [HLN.out];clear hf HDn hd6 hT6
    by_cases hq : fl = 5
    ·subst hq;have EH3 : Hid (headP (l.drop p) = .ok (ch.toNat, n, 5)) := by rw [Hid, EH2.out, if_neg (by simp)]
     clear EH2;go_wp2_with fail
     go_meet
     exact ⟨n, 5, EH3.out, rfl, by rw [show p + 5 = p + 1 + 4 by omega]; exact hd7, hT7⟩
    ·have zq : ((fl : Int) == 5) = false := by simp; omega
     have zq2 : ((fl : Int) = 5) = False := eq_false (by omega)
     have E : Hid (parse d (l.drop p) cnt = .err 4) := by
      have h1 : headP (l.drop p) = .error 4 := by rw [EH2.out, if_pos hq]
      rw [Hid, parse_head d (l.drop p) cnt (by have := HC.out; omega) h1]
     clear EH2 hq;go_wp2_with (with_reducible refine stop_store ?_)
     refine stI hT7 fun wz hTy hgz => ?_
     have hdz := hd7.gb hn0 (Nat.le_refl _) hgl hgz;go_wp2_with fail
     refine ret_row_tmp rfl rfl hTy rfl rfl size_item rfl ?_
     exact ItemOut.err E.out rfl hdz
  ·have NM := Hh (r_number hd5.psr 8 (by omega) (by omega));have HD := Hh (fun n hn w => ref_Head 3 ((n : Nat) : Int) w (by omega) (by omega) (by omega) hn)
   simp only [Nat.reduceSub, Nat.reducePow, Nat.reduceAdd] at EH
   clear hl24 z24 hlw z27 z27b KU;go_wp2_with fail
   refine NM.out.mono ?_
   rintro e w6 (⟨hs, rfl, hB6, hG6⟩ | ⟨hs, rfl, hB6, hG6⟩)
   ·have E : Hid (parse d (l.drop p) cnt = .err 2) := by
     have h1 : headP (l.drop p) = .error 2 := by rw [EH.out, if_pos (by rw [List.length_drop]; have := HLOW.out.2.2; omega)]
     rw [Hid, parse_head d (l.drop p) cnt (by have := HC.out; omega) h1]
    have hd6 : Rdg 97 w H w6 H g (some ⟨b, off, none⟩) c l (p + 1) (cnt + 1) := hd5.step hG6 hB6 HLOW.out.2.2 (by have := HC.out; omega);have hT6 := hT5.gr hG6 (by omega);clear NM HD hs hd5 hT5 hB6 hG6 EH;go_wp2_with (with_reducible refine stop_store ?_)
    refine stI hT6 fun wz hTy hgz => ?_
    have hdz := hd6.gb hn0 (Nat.le_refl _) hgl hgz;go_wp2_with fail
    refine ret_row_tmp rfl rfl hTy rfl rfl size_item rfl ?_
    exact ItemOut.err E.out rfl hdz
   ·have hd6 : Rdg 97 w H w6 H g (some ⟨b, off, none⟩) c l (p + 1 + 8) (cnt + 1) := hd5.step hG6 hB6 hs (by have := HC.out; omega);have hT6 := hT5.gr hG6 (by omega);have hnb := beN_lt ((l.drop (p + 1)).take 8);have hnl : ((l.drop (p + 1)).take 8).length = 8 := by rw [List.length_take, List.length_drop]; omega
    rw [hnl] at hnb
    simp only [Nat.reducePow] at hnb
    obtain ⟨n, hn⟩ : ∃ n, beN ((l.drop (p + 1)).take 8) = n := ⟨_, rfl⟩
    have EH2 : Hid (headP (l.drop p) = if (headB 0 n).length ≠ 9 then .error 4 else .ok (ch.toNat, n, 9)) := by
     rw [Hid, EH.out, if_neg (by rw [List.length_drop]; omega), hn];have := HK6.out;have := HLOW.out.2.1
     by_cases h : (headB 0 n).length = 9 <;> simp [h] <;> omega
    have HDn := Hh (fun w => HD.out n (by omega) w);rw [hn];have hlen : (headB (3 : Int).toNat (n : Int).toNat).length = (headB 0 n).length := by rw [headB_length, headB_length]; rfl
    obtain ⟨fl, hfl⟩ : ∃ fl, (headB 0 n).length = fl := ⟨_, rfl⟩
    rw [hfl] at EH2 hlen;have HLN := Hh hlen;clear NM HD hs hd5 hT5 hB6 hG6 EH hn hnl hnb hfl hlen;go_wp2_with fail
    refine (HDn.out _).mono ?_
    rintro e w7 ⟨r, rfl, hf⟩
    have hd7 := hd6.below_ hf.2;have hT7 := hT6.below hf.2;obtain ⟨RA, rc, rfl, _⟩ := hf.own.form;rw [HLN.out];clear hf HDn hd6 hT6
    by_cases hq : fl = 9
    ·subst hq;have EH3 : Hid (headP (l.drop p) = .ok (ch.toNat, n, 9)) := by rw [Hid, EH2.out, if_neg (by simp)]
     clear EH2;go_wp2_with fail
     go_meet
     exact ⟨n, 9, EH3.out, rfl, by rw [show p + 9 = p + 1 + 8 by omega]; exact hd7, hT7⟩
    ·have zq : ((fl : Int) == 9) = false := by simp; omega
     have zq2 : ((fl : Int) = 9) = False := eq_false (by omega)
     have E : Hid (parse d (l.drop p) cnt = .err 4) := by
      have h1 : headP (l.drop p) = .error 4 := by rw [EH2.out, if_pos hq]
      rw [Hid, parse_head d (l.drop p) cnt (by have := HC.out; omega) h1]
     clear EH2 hq;go_wp2_with (with_reducible refine stop_store ?_)
     refine stI hT7 fun wz hTy hgz => ?_
     have hdz := hd7.gb hn0 (Nat.le_refl _) hgl hgz;go_wp2_with fail
     refine ret_row_tmp rfl rfl hTy rfl rfl size_item rfl ?_
     exact ItemOut.err E.out rfl hdz
 case rest =>
  obtain ⟨n, k, hh, rfl, hd8, hT8⟩ := hcut;have HF := Hh (headP_spec hh);have HH := Hh hh;clear hh hd5 hT5
  have E0 : Hid (parse d (l.drop p) cnt = (if (l.drop p).length < k + n then .err 2 else if 3 = 3 ∧ Lib.validD (((l.drop p).drop k).take n) = false then .err 5 else .ok (.mk 3 0 (((l.drop p).drop k).take n) []) (k + n) (cnt + 1))) := by
   rw [Hid, parse_str d (l.drop p) cnt (by have := HC.out; omega) HH.out (by have := HLOW.out.2.1; omega) (by have := HLOW.out.2.1; omega), HLOW.out.2.1]; first | rfl | (simp only [true_and]; first | done | rfl) | simp
  have hsm := hd8.psr.small;have hcl := hd8.psr.bytes.le;have hcm := hd8.psr.bytes.max;have hle3 := hd8.psr.le;have hnl := HF.out.n_lt;have hdl : (l.drop p).length = l.length - p := List.length_drop;obtain ⟨P, hPk⟩ : ∃ P, p + k = P := ⟨_, rfl⟩
  obtain ⟨s, hss⟩ : ∃ s, ((l.drop p).drop k).take n = s := ⟨_, rfl⟩
  rw [hss] at E0;rw [List.drop_drop, hPk] at hss;rw [hPk] at hd8 hle3;have K1 : IntKind.i64.wrap ((l.length : Int) - (P : Int)) = (l.length : Int) - (P : Int) := IntWalk.i64_in _ (by omega);have K2 : IntKind.u64.wrap ((l.length : Int) - (P : Int)) = (l.length : Int) - (P : Int) := by rw [IntKind.wrap_u64]; omega
  have a0 := hd8.psr.blk.cell 0 rfl;have a1 := hd8.psr.blk.cell 1 rfl;have hPl : (P : Int) ≤ (l.length : Int) := by omega
  have hll : (l.length : Int) ≤ 4096 := by omega
  by_cases hlt : l.length < P + n
  ·have z0 : (l.length : Int) - (P : Int) < (n : Int) := by omega
   have E : Hid (parse d (l.drop p) cnt = .err 2) := by rw [Hid, E0.out, if_pos (by have := HLOW.out.2.2; omega)]
   clear hsm hcl hcm hnl hdl hPk hss E0 hlt hle3;go_wp2_with fail
   go_big_quiet (fail)
   have hd9 := hd8.drewN nq;have hT9 : Blk (wc.drewN nq) w.heap.size 31 #[.int .i64 0, .int .u64 0, .slice none 0 0, .slice none 0 0] := hT8;go_wp2_with (with_reducible refine stop_store ?_)
   refine stI hT9 fun wz hTy hgz => ?_
   have hdz := hd9.gb hn0 (Nat.le_refl _) hgl hgz;go_wp2_with fail
   refine ret_row_tmp rfl rfl hTy rfl rfl size_item rfl ?_
   exact ItemOut.err E.out rfl hdz
  ·have z0 : ¬ ((l.length : Int) - (P : Int) < (n : Int)) := by omega
   have z0b : decide ((l.length : Int) - (P : Int) < (n : Int)) = false := decide_eq_false z0;have E1 : Hid (parse d (l.drop p) cnt = (if 3 = 3 ∧ Lib.validD s = false then .err 5 else .ok (.mk 3 0 s []) (k + n) (cnt + 1))) := by rw [Hid, E0.out, if_neg (by have := HLOW.out.2.2; omega)]; try simp
   have hsn : n = s.length := by rw [← hss, List.length_take, List.length_drop]; omega
   have HSN := Hh hsn;clear hsn;have KN : IntKind.i64.wrap (n : Int) = (n : Int) := IntWalk.i64_in _ (by omega);have KP : IntKind.i64.wrap ((P : Int) + (n : Int)) = (P : Int) + (n : Int) := IntWalk.i64_in _ (by omega);have kt : ((P : Int) + (n : Int)).toNat = P + n := by omega
   have y0 : (0 : Int) ≤ (P : Int) + (n : Int) := by omega
   have y5 : P ≤ P + n := by omega
   have y6 : P + n - P = n := by omega
   have y1 : (P : Int) ≤ (P : Int) + (n : Int) := by omega
   have y2 : (P : Int) + (n : Int) ≤ (c : Int) := by omega
   have y3 : (P : Int) ≤ (c : Int) := by omega
   have y4 : (0 : Int) ≤ (P : Int) := by omega
   have HK := Hh (And.intro hsm (And.intro hcl (And.intro hcm hPk)));go_wp2_with fail
   go_big_quiet (fail)
   have hd9' := hd8.drewN nq;have hT9' : Blk (wc.drewN nq) w.heap.size 31 #[.int .i64 0, .int .u64 0, .slice none 0 0, .slice none 0 0] := hT8
   generalize wc.drewN nq = w9 at hd9' hT9' ⊢
   obtain ⟨hd9, hT9⟩ := And.intro hd9' hT9';clear hd9' hT9' hd8 hT8 a0 a1 E0 z0 z0b;have HCELL2 : ∀ j (hj : j < l.length), w9.cell? ⟨b, off + j, none⟩ = some (byteV l[j]) := fun j hj => hd9.psr.holds.cell (HCELL.out j hj)
   have a0 := hd9.psr.blk.cell 0 rfl;have a1 := hd9.psr.blk.cell 1 rfl
   by_cases hcp : c = P
   ·have hcp' : P = c := hcp.symm;subst hcp';clear hcp;have HS := Hh (show Src w9.drew (some ⟨b, off, none⟩) (s.map byteV) by have hz : s = [] := List.eq_nil_of_length_eq_zero (by have := HSN.out; omega); rw [hz]; exact Src.nil _ _);have hd9d : Rdg 97 w H w9.drew H g (some ⟨b, off, none⟩) P l P (cnt + 1) := hd9.drewN 1;have hT9d : Blk w9.drew w.heap.size 31 #[.int .i64 0, .int .u64 0, .slice none 0 0, .slice none 0 0] := hT9;clear hd9 hT9 HCELL2;go_upto_region 28 with fail
    refine wp_region_ways 17 (fun w' => w'.cell? ⟨g, 0, none⟩ = some (.slice (some ⟨b, off, none⟩) l.length P) ∧ w'.cell? ⟨g, 1, none⟩ = some (.int .i64 (P : Int))) (by kernel_rfl) (⟨a0, a1⟩) (fun hHeld => ?_)
    refine Tk 0 rfl hHeld ?_
    refine Tk 1 rfl hHeld ?_
    refine Tk 2 rfl hHeld ?_
    refine Tk 3 rfl hHeld ?_
    refine Tk 4 rfl hHeld ?_
    refine Tk 5 rfl hHeld ?_
    refine Tk 6 rfl hHeld ?_
    refine Tk 7 rfl hHeld ?_
    refine Tk 8 rfl hHeld ?_
    refine Tk 9 rfl hHeld ?_
    refine Tk 10 rfl hHeld ?_
    refine Tk 11 rfl hHeld ?_
    refine Tk 12 rfl hHeld ?_
    refine Tk 13 rfl hHeld ?_
    refine Tk 14 rfl hHeld ?_
    refine Tk 15 rfl hHeld ?_
    refine To 16 rfl fun K hK => ?_
    refine wp_app_bytes (.const (.slice none 0 0)) (.tmp 144) rfl w9.drew.heap.size (.slice none 0 0) [] rfl (OwnB.nil _ _) (some ⟨b, off, none⟩) n _ s rfl HSN.out HS.out (by have := HSN.out; simp; omega) (Nat.le_refl _) fun v' w10 hO hg hat => ?_
    rw [List.nil_append] at hO;have hb10 := grown_none (by simpa [Value.ownBlock] using hg);have hf10 : Fresh w9.drew s v' w10 := ⟨hO, hb10⟩
    obtain ⟨RA, rc, rfl, _⟩ := hO.form;have hd10 := hd9d.below_ hb10;go_simp
    refine hK.out _ _ (fun _ => ?_) (fun hHeld => ?_)
    ·exact ⟨hd10.psr.blk.cell 0 rfl, hd10.psr.blk.cell 1 rfl⟩
    clear hK K;have hHeld := hHeld (by decide)
    try simp only [Act.put, zz1, zz2, zz3, zz4, zz5, zz6]
    refine To 17 rfl fun K hK => ?_
    go_simp
    refine hK.out _ _ (fun h => absurd rfl h) (fun _ => ?_)
    clear hK K
    try simp only [Act.put, zz1, zz2, zz3, zz4, zz5, zz6]
    refine Ways.done (by kernel_rfl) ?_
    clear hHeld a0 a1 hO hg hat HS;have hT10 := hT9d.below hb10;obtain ⟨H6, hG6, hi6, _⟩ := Fresh.snapB hd9d.psr.holds hf10;have hd6 := hd9d.grown hG6;have hn6 := hG6.none hn0 hT9d.lt;clear hd10 hf10 hd9d hT9d hb10;have a1 := hd6.psr.blk.cell 1 rfl;go_wp2_with (with_reducible refine stop_store ?_)
    refine wpList_store_cell rfl _ _ _ rfl rfl g 1 (.int .i64 ((P : Int) + (n : Int))) rfl rfl _ _ hd6.psr.blk size_int1 (by simp) rfl fun w7 hB7 hG7 => ?_
    have hd7 : Rdg 97 w H w7 H6 g (some ⟨b, off, none⟩) P l (P + n) (cnt + 1) := hd6.step hG7 hB7 (by omega) (by have := HC.out; omega);have hT7 := hT10.gr hG7 (by omega);have hn7 := hn6;clear hd6 hT10 hB7 hG7 a1;have IB := hi6;have UV := Hh (utf8_Valid (hTab.mono hG6.le) w7 hd7.psr.holds RA s s.length rc rfl hi6)
    cases hv : Lib.validD s with
    | false =>
     rw [hv] at UV;have E : Hid (parse d (l.drop p) cnt = .err 5) := by rw [Hid, E1.out, if_pos (by first | exact ⟨rfl, hv⟩ | exact ⟨trivial, hv⟩)]
     clear hv E1;go_wp2_with fail
     refine UV.out.mono ?_
     rintro e w8 ⟨rfl, hb8⟩
     have hd8 := hd7.below_ hb8;have hT8 := hT7.below hb8;clear UV hd7 hT7;go_wp2_with (with_reducible refine stop_store ?_)
     refine stI hT8 fun wz hTy hgz => ?_
     have hdz := hd8.gb hn7 (Nat.le_refl _) hgl hgz;go_wp2_with fail
     refine ret_row_tmp rfl rfl hTy rfl rfl size_item rfl ?_
     exact ItemOut.err E.out rfl hdz
    | true =>
     rw [hv] at UV;have E : Hid (parse d (l.drop p) cnt = .ok (.mk 3 0 s []) (k + n) (cnt + 1)) := by rw [Hid, E1.out, if_neg (fun h => by rw [hv] at h; cases h.2)]
     clear hv E1;go_wp2_with fail
     refine UV.out.mono ?_
     rintro e w8 ⟨rfl, hb8⟩
     have hd8 := hd7.below_ hb8;have hT8 := hT7.below hb8;clear UV hd7 hT7;go_wp2_with (with_reducible refine stop_store ?_)
     refine stI hT8 fun wz hTy hgz => ?_
     have hdz := hd8.gb hn7 (Nat.le_refl _) hgl hgz;go_wp2_with fail
     refine ret_row_tmp rfl rfl hTy rfl rfl size_item rfl ?_
     exact ItemOut.ok E.out rfl (by rw [← Nat.add_assoc, HK.out.2.2.2]; exact hdz) (IsItem.str 3 (by omega) IB)
   ·have hcpF : (c = P) = False := eq_false hcp;have HS := Hh (show Src w9.drew (some ⟨b, off + P, none⟩) (s.map byteV) by have hq := src_sub (w := w9.drew) (n := n) HCELL2 P (some ⟨b, off + P, none⟩) (fun _ => rfl) (by omega); rw [hss] at hq; exact hq);have hd9d : Rdg 97 w H w9.drew H g (some ⟨b, off, none⟩) c l P (cnt + 1) := hd9.drewN 1;have hT9d : Blk w9.drew w.heap.size 31 #[.int .i64 0, .int .u64 0, .slice none 0 0, .slice none 0 0] := hT9;clear hd9 hT9 HCELL2;go_upto_region 28 with fail
    refine wp_region_ways 17 (fun w' => w'.cell? ⟨g, 0, none⟩ = some (.slice (some ⟨b, off, none⟩) l.length c) ∧ w'.cell? ⟨g, 1, none⟩ = some (.int .i64 (P : Int))) (by kernel_rfl) (⟨a0, a1⟩) (fun hHeld => ?_)
    refine Tk 0 rfl hHeld ?_
    refine Tk 1 rfl hHeld ?_
    refine Tk 2 rfl hHeld ?_
    refine Tk 3 rfl hHeld ?_
    refine Tk 4 rfl hHeld ?_
    refine Tk 5 rfl hHeld ?_
    refine Tk 6 rfl hHeld ?_
    refine Tk 7 rfl hHeld ?_
    refine Tk 8 rfl hHeld ?_
    refine Tk 9 rfl hHeld ?_
    refine Tk 10 rfl hHeld ?_
    refine Tk 11 rfl hHeld ?_
    refine Tk 12 rfl hHeld ?_
    refine Tk 13 rfl hHeld ?_
    refine Tk 14 rfl hHeld ?_
    refine Tk 15 rfl hHeld ?_
    refine To 16 rfl fun K hK => ?_
    refine wp_app_bytes (.const (.slice none 0 0)) (.tmp 144) rfl w9.drew.heap.size (.slice none 0 0) [] rfl (OwnB.nil _ _) (some ⟨b, off + P, none⟩) n _ s rfl HSN.out HS.out (by have := HSN.out; simp; omega) (Nat.le_refl _) fun v' w10 hO hg hat => ?_
    rw [List.nil_append] at hO;have hb10 := grown_none (by simpa [Value.ownBlock] using hg);have hf10 : Fresh w9.drew s v' w10 := ⟨hO, hb10⟩
    obtain ⟨RA, rc, rfl, _⟩ := hO.form;have hd10 := hd9d.below_ hb10;go_simp
    refine hK.out _ _ (fun _ => ?_) (fun hHeld => ?_)
    ·exact ⟨hd10.psr.blk.cell 0 rfl, hd10.psr.blk.cell 1 rfl⟩
    clear hK K;have hHeld := hHeld (by decide)
    try simp only [Act.put, zz1, zz2, zz3, zz4, zz5, zz6]
    refine To 17 rfl fun K hK => ?_
    go_simp
    refine hK.out _ _ (fun h => absurd rfl h) (fun _ => ?_)
    clear hK K
    try simp only [Act.put, zz1, zz2, zz3, zz4, zz5, zz6]
    refine Ways.done (by kernel_rfl) ?_
    clear hHeld a0 a1 hO hg hat HS;have hT10 := hT9d.below hb10;obtain ⟨H6, hG6, hi6, _⟩ := Fresh.snapB hd9d.psr.holds hf10;have hd6 := hd9d.grown hG6;have hn6 := hG6.none hn0 hT9d.lt;clear hd10 hf10 hd9d hT9d hb10;have a1 := hd6.psr.blk.cell 1 rfl;go_wp2_with (with_reducible refine stop_store ?_)
    refine wpList_store_cell rfl _ _ _ rfl rfl g 1 (.int .i64 ((P : Int) + (n : Int))) rfl rfl _ _ hd6.psr.blk size_int1 (by simp) rfl fun w7 hB7 hG7 => ?_
    have hd7 : Rdg 97 w H w7 H6 g (some ⟨b, off, none⟩) c l (P + n) (cnt + 1) := hd6.step hG7 hB7 (by omega) (by have := HC.out; omega);have hT7 := hT10.gr hG7 (by omega);have hn7 := hn6;clear hd6 hT10 hB7 hG7 a1;have IB := hi6;have UV := Hh (utf8_Valid (hTab.mono hG6.le) w7 hd7.psr.holds RA s s.length rc rfl hi6)
    cases hv : Lib.validD s with
    | false =>
     rw [hv] at UV;have E : Hid (parse d (l.drop p) cnt = .err 5) := by rw [Hid, E1.out, if_pos (by first | exact ⟨rfl, hv⟩ | exact ⟨trivial, hv⟩)]
     clear hv E1;go_wp2_with fail
     refine UV.out.mono ?_
     rintro e w8 ⟨rfl, hb8⟩
     have hd8 := hd7.below_ hb8;have hT8 := hT7.below hb8;clear UV hd7 hT7;go_wp2_with (with_reducible refine stop_store ?_)
     refine stI hT8 fun wz hTy hgz => ?_
     have hdz := hd8.gb hn7 (Nat.le_refl _) hgl hgz;go_wp2_with fail
     refine ret_row_tmp rfl rfl hTy rfl rfl size_item rfl ?_
     exact ItemOut.err E.out rfl hdz
    | true =>
     rw [hv] at UV;have E : Hid (parse d (l.drop p) cnt = .ok (.mk 3 0 s []) (k + n) (cnt + 1)) := by rw [Hid, E1.out, if_neg (fun h => by rw [hv] at h; cases h.2)]
     clear hv E1;go_wp2_with fail
     refine UV.out.mono ?_
     rintro e w8 ⟨rfl, hb8⟩
     have hd8 := hd7.below_ hb8;have hT8 := hT7.below hb8;clear UV hd7 hT7;go_wp2_with (with_reducible refine stop_store ?_)
     refine stI hT8 fun wz hTy hgz => ?_
     have hdz := hd8.gb hn7 (Nat.le_refl _) hgl hgz;go_wp2_with fail
     refine ret_row_tmp rfl rfl hTy rfl rfl size_item rfl ?_
     exact ItemOut.ok E.out rfl (by rw [← Nat.add_assoc, HK.out.2.2.2]; exact hdz) (IsItem.str 3 (by omega) IB)
end
end Go.Proofs.YtlebpackbfcfeaaGreatDoor
