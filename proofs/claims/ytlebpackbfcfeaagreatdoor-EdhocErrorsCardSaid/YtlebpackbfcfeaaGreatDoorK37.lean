/- squeezed. Walks: the reference's reader of i -/
import Derived.Test.YtlebpackbfcfeaaGreatDoorK32
import Derived.Test.YtlebpackbfcfeaaGreatDoorK34
import Derived.Test.YtlebpackbfcfeaaGreatDoorK35
import Derived.Test.YtlebpackbfcfeaaGreatDoorK36
import Derived.Test.YtlebpackbfcfeaaGreatDoorK33
import Derived.Test.YtlebpackbfcfeaaGreatDoorK30
set_option linter.unusedVariables false
set_option linter.unusedSimpArgs false
set_option maxRecDepth 100000
set_option maxHeartbeats 6400000
namespace Go.Proofs.YtlebpackbfcfeaaGreatDoor
open Go.RowKit
section
variable {d : Nat} {w : World} {H : Snap} {g : Nat} {A : Option Addr} {c : Nat} {l : List UInt8} {p cnt lv : Nat}
theorem r_item_deep (hTab : Tabs H) (hlv : lv + 0 = 8) (hP : Psr 97 w g H A c l p cnt) (hc : cnt < 256) (hp2 : p < l.length) {ch : UInt8} (hch : l[p] = ch) {low kd : Nat} (hlow : ch.toNat % 32 = low) (hkd : ch.toNat / 32 = kd) (h27 : low ≤ 27) (hk : 4 ≤ kd ∧ kd ≤ 6) : Calls Tryz.prog 61 #[.pointer (some ⟨g, 0, none⟩), .int .i64 (lv : Int)] w (ItemOut 97 w H g A c l p (parse 0 (l.drop p) cnt)) := by
 have hgl := hP.gt;have hd0 := (Rdg.refl hP).alloc zeroO;have hT0 := Blk.new w 31 #[.int .i64 0, .int .u64 0, .slice none 0 0, .slice none 0 0];have hn0 : H w.heap.size = none := hP.holds.none_of_ge (Nat.le_refl _);have c2 := hd0.psr.blk.cell 2 rfl;have ED := drop_cons hp2;rw [hch] at ED
 
 have EH0 : Hid (headP (l.drop p) = if 27 < low then .error 3 else if low < 24 then .ok (ch.toNat, low, 1) else if (l.drop (p + 1)).length < 2 ^ (low - 24) then .error 2
    else if ch.toNat / 32 < 7 ∧ (headB 0 (beN ((l.drop (p + 1)).take (2 ^ (low - 24))))).length ≠ 1 + 2 ^ (low - 24) then .error 4
    else .ok (ch.toNat, beN ((l.drop (p + 1)).take (2 ^ (low - 24))), 1 + 2 ^ (low - 24))) := by rw [Hid, ED, headP, hlow]
 have z27 : ¬ ((27 : Int) < (low : Int)) := by omega
 have z27b : decide ((27 : Int) < (low : Int)) = false := decide_eq_false z27;have H27 := Hh h27;have HLV := Hh hlv;have HK6 : Hid (kd < 7) := by rw [Hid]; omega
 have s7 : ((kd : Int) == 7) = false := by simp; omega
 have q7 : ((kd : Int) = 7) = False := eq_false (by omega);have hk4 : (4 : Int) ≤ (kd : Int) := by omega
 have hk6 : (kd : Int) ≤ 6 := by omega
 clear h27 ED;have z0 : ¬ (((l.length : Nat) : Int) ≤ (p : Int)) := by omega
 have z0' : decide (((l.length : Nat) : Int) ≤ (p : Int)) = false := decide_eq_false z0;have hpi : (p : Int) < (l.length : Int) := by omega
 have hp0 : (0 : Int) ≤ (p : Int) := by omega
 have hsm := hP.small;have K1 : IntKind.i64.wrap ((p : Int) + 1) = (p : Int) + 1 := IntWalk.i64_in _ (by omega);obtain ⟨b, off, rfl, HCELL0⟩ := hP.bytes.at_ (by omega);have KA := and31 ⟨ch.toNat, ch.toNat_lt⟩
 simp only at KA
 rw [hlow] at KA;have S : (ch.toNat : Int) / 32 = (kd : Int) := by omega
 have hkw : (kd : Int) ≤ 7 := by have := ch.toNat_lt; omega
 have hlw : (low : Int) ≤ 31 := by omega
 have HCELL := Hh HCELL0;have HLOW := Hh (And.intro hlow (And.intro hkd hp2));have HCH := Hh (show H.cell? ⟨b, off + p, none⟩ = some (byteV ch) by have h := HCELL0 p hp2; rw [hch] at h; exact h);clear HCELL0 hlow hkd hsm hch;have hc256 : ¬ ((256 : Int) ≤ (cnt : Int)) := by omega
 have hc256' : decide ((256 : Int) ≤ (cnt : Int)) = false := decide_eq_false hc256;have KC : IntKind.i64.wrap ((cnt : Int) + 1) = (cnt : Int) + 1 := IntWalk.i64_in _ (by omega);have HC := Hh hc;clear hc;go_enter Tryz.func61, Tryz.ntmps61
 go_wp2_with (with_reducible refine stop_store ?_)
 refine wpList_store_cell rfl _ _ _ rfl rfl g 2 (.int .i64 ((cnt : Int) + 1)) rfl rfl _ _ hd0.psr.blk size_int1 (by simp) rfl fun w2 hB2 hG2 => ?_
 have hd2 : Rdg 97 w H w2 H g _ c l p (cnt + 1) := hd0.step hG2 hB2 hP.le (by have := HC.out; omega);have hT2 := hT0.gr hG2 (by omega);clear hd0 hT0 hB2 hG2 c2 KC hc256 hc256';have hpl := hd2.psr.le;have a0 := hd2.psr.blk.cell 0 rfl;have a1 := hd2.psr.blk.cell 1 rfl;go_wp2_with fail
 go_big_quiet (fail)
 have hd3' := hd2.drewN nq;have hT3' : Blk (w2.drewN nq) w.heap.size 31 #[.int .i64 0, .int .u64 0, .slice none 0 0, .slice none 0 0] := hT2
 generalize w2.drewN nq = w3 at hd3' hT3' ⊢
 obtain ⟨hd3, hT3⟩ := And.intro hd3' hT3';clear hd3' hT3' hd2 hT2 a0 a1 hpl;have a0 := hd3.psr.blk.cell 0 rfl;have a1 := hd3.psr.blk.cell 1 rfl;have q0 := hd3.psr.holds.cell HCH.out;go_upto_region 6 with fail
 go_big_quiet (fail)
 have hd4' := hd3.drewN nq;have hT4' : Blk (w3.drewN nq) w.heap.size 31 #[.int .i64 0, .int .u64 0, .slice none 0 0, .slice none 0 0] := hT3
 generalize w3.drewN nq = w4 at hd4' hT4' ⊢
 obtain ⟨hd4, hT4⟩ := And.intro hd4' hT4';clear hd4' hT4' hd3 hT3 a0 a1 q0;have a1 := hd4.psr.blk.cell 1 rfl;go_wp2_with (with_reducible refine stop_store ?_)
 refine wpList_store_cell rfl _ _ _ rfl rfl g 1 (.int .i64 ((p : Int) + 1)) rfl rfl _ _ hd4.psr.blk size_int1 (by simp) rfl fun w5 hB5 hG5 => ?_
 have hd5 : Rdg 97 w H w5 H g (some ⟨b, off, none⟩) c l (p + 1) (cnt + 1) := hd4.step hG5 hB5 HLOW.out.2.2 (by have := HC.out; omega);have hT5 := hT4.gr hG5 (by omega);clear hd4 hT4 hB5 hG5 a1 K1 z0 z0' hpi hp0 KA S;go_upto_region 12 with fail
 have KU : IntKind.u64.wrap (low : Int) = (low : Int) := by rw [IntKind.wrap_u64]; omega
 go_upto_if 80 with fail
 go_cut [8] (fun s8 wx => ∃ n k : Nat, headP (l.drop p) = .ok (ch.toNat, n, k) ∧ s8 = .int .u64 (n : Int) ∧ Rdg 97 w H wx H g (some ⟨b, off, none⟩) c l (p + k) (cnt + 1) ∧ Blk wx w.heap.size 31 #[.int .i64 0, .int .u64 0, .slice none 0 0, .slice none 0 0])
 case first =>
  by_cases hl24 : low < 24
  ·have z24 : ¬ ((23 : Int) < (low : Int)) := by omega
   have z24b : decide ((23 : Int) < (low : Int)) = false := decide_eq_false z24;have EH : Hid (headP (l.drop p) = .ok (ch.toNat, low, 1)) := by rw [Hid, EH0.out, if_neg (by have := H27.out; omega), if_pos hl24]
   clear hl24;go_wp2_with fail
   go_meet
   exact ⟨low, 1, EH.out, rfl, hd5, hT5⟩
  have z24 : (23 : Int) < (low : Int) := by omega
  have EH : Hid (headP (l.drop p) = if (l.drop (p + 1)).length < 2 ^ (low - 24) then .error 2
    else if ch.toNat / 32 < 7 ∧ (headB 0 (beN ((l.drop (p + 1)).take (2 ^ (low - 24))))).length ≠ 1 + 2 ^ (low - 24) then .error 4
    else .ok (ch.toNat, beN ((l.drop (p + 1)).take (2 ^ (low - 24))), 1 + 2 ^ (low - 24))) := by rw [Hid, EH0.out, if_neg (by have := H27.out; omega), if_neg hl24]
  clear EH0
  rcases (by have := H27.out; omega : low = 24 ∨ low = 25 ∨ low = 26 ∨ low = 27) with rfl | rfl | rfl | rfl
  ·have NM := Hh (r_number hd5.psr 1 (by omega) (by omega));have HD := Hh (fun n hn w => ref_Head (kd : Int) ((n : Nat) : Int) w (by omega) (by omega) (by omega) hn)
   simp only [Nat.reduceSub, Nat.reducePow, Nat.reduceAdd] at EH
   clear hl24 z24 hlw z27 z27b KU;go_wp2_with fail
   refine NM.out.mono ?_
   rintro e w6 (⟨hs, rfl, hB6, hG6⟩ | ⟨hs, rfl, hB6, hG6⟩)
   ·have E : Hid (parse 0 (l.drop p) cnt = .err 2) := by
     have h1 : headP (l.drop p) = .error 2 := by rw [EH.out, if_pos (by rw [List.length_drop]; have := HLOW.out.2.2; omega)]
     rw [Hid, parse_head 0 (l.drop p) cnt (by have := HC.out; omega) h1]
    have hd6 : Rdg 97 w H w6 H g (some ⟨b, off, none⟩) c l (p + 1) (cnt + 1) := hd5.step hG6 hB6 HLOW.out.2.2 (by have := HC.out; omega);have hT6 := hT5.gr hG6 (by omega);clear NM HD hs hd5 hT5 hB6 hG6 EH;go_wp2_with (with_reducible refine stop_store ?_)
    refine stI hT6 fun wz hTy hgz => ?_
    have hdz := hd6.gb hn0 (Nat.le_refl _) hgl hgz;go_wp2_with fail
    refine ret_row_tmp rfl rfl hTy rfl rfl size_item rfl ?_
    exact ItemOut.err E.out rfl hdz
   ·have hd6 : Rdg 97 w H w6 H g (some ⟨b, off, none⟩) c l (p + 1 + 1) (cnt + 1) := hd5.step hG6 hB6 hs (by have := HC.out; omega);have hT6 := hT5.gr hG6 (by omega);have hnb := beN_lt ((l.drop (p + 1)).take 1);have hnl : ((l.drop (p + 1)).take 1).length = 1 := by rw [List.length_take, List.length_drop]; omega
    rw [hnl] at hnb
    simp only [Nat.reducePow] at hnb
    obtain ⟨n, hn⟩ : ∃ n, beN ((l.drop (p + 1)).take 1) = n := ⟨_, rfl⟩
    have EH2 : Hid (headP (l.drop p) = if (headB 0 n).length ≠ 2 then .error 4 else .ok (ch.toNat, n, 2)) := by
     rw [Hid, EH.out, if_neg (by rw [List.length_drop]; omega), hn];have := HK6.out;have := HLOW.out.2.1
     by_cases h : (headB 0 n).length = 2 <;> simp [h] <;> omega
    have HDn := Hh (fun w => HD.out n (by omega) w);rw [hn];have hlen : (headB (kd : Int).toNat (n : Int).toNat).length = (headB 0 n).length := by rw [headB_length, headB_length]; rfl
    obtain ⟨fl, hfl⟩ : ∃ fl, (headB 0 n).length = fl := ⟨_, rfl⟩
    rw [hfl] at EH2 hlen;have HLN := Hh hlen;clear NM HD hs hd5 hT5 hB6 hG6 EH hn hnl hnb hfl hlen;go_wp2_with fail
    refine (HDn.out _).mono ?_
    rintro e w7 ⟨r, rfl, hf⟩
    have hd7 := hd6.below_ hf.2;have hT7 := hT6.below hf.2;obtain ⟨RA, rc, rfl, _⟩ := hf.own.form;rw [HLN.out];clear hf HDn hd6 hT6
    by_cases hq : fl = 2
    ·subst hq;have EH3 : Hid (headP (l.drop p) = .ok (ch.toNat, n, 2)) := by rw [Hid, EH2.out, if_neg (by simp)]
     clear EH2;go_wp2_with fail
     go_meet
     exact ⟨n, 2, EH3.out, rfl, by rw [show p + 2 = p + 1 + 1 by omega]; exact hd7, hT7⟩
    ·have zq : ((fl : Int) == 2) = false := by simp; omega
     have zq2 : ((fl : Int) = 2) = False := eq_false (by omega)
     have E : Hid (parse 0 (l.drop p) cnt = .err 4) := by
      have h1 : headP (l.drop p) = .error 4 := by rw [EH2.out, if_pos hq]
      rw [Hid, parse_head 0 (l.drop p) cnt (by have := HC.out; omega) h1]
     clear EH2 hq;go_wp2_with (with_reducible refine stop_store ?_)
     refine stI hT7 fun wz hTy hgz => ?_
     have hdz := hd7.gb hn0 (Nat.le_refl _) hgl hgz;go_wp2_with fail
     refine ret_row_tmp rfl rfl hTy rfl rfl size_item rfl ?_
     exact ItemOut.err E.out rfl hdz
  ·have NM := Hh (r_number hd5.psr 2 (by omega) (by omega));have HD := Hh (fun n hn w => ref_Head (kd : Int) ((n : Nat) : Int) w (by omega) (by omega) (by omega) hn)
   simp only [Nat.reduceSub, Nat.reducePow, Nat.reduceAdd] at EH
   clear hl24 z24 hlw z27 z27b KU;go_wp2_with fail
   refine NM.out.mono ?_
   rintro e w6 (⟨hs, rfl, hB6, hG6⟩ | ⟨hs, rfl, hB6, hG6⟩)
   ·have E : Hid (parse 0 (l.drop p) cnt = .err 2) := by
     have h1 : headP (l.drop p) = .error 2 := by rw [EH.out, if_pos (by rw [List.length_drop]; have := HLOW.out.2.2; omega)]
     rw [Hid, parse_head 0 (l.drop p) cnt (by have := HC.out; omega) h1]
    have hd6 : Rdg 97 w H w6 H g (some ⟨b, off, none⟩) c l (p + 1) (cnt + 1) := hd5.step hG6 hB6 HLOW.out.2.2 (by have := HC.out; omega);have hT6 := hT5.gr hG6 (by omega);clear NM HD hs hd5 hT5 hB6 hG6 EH;go_wp2_with (with_reducible refine stop_store ?_)
    refine stI hT6 fun wz hTy hgz => ?_
    have hdz := hd6.gb hn0 (Nat.le_refl _) hgl hgz;go_wp2_with fail
    refine ret_row_tmp rfl rfl hTy rfl rfl size_item rfl ?_
    exact ItemOut.err E.out rfl hdz
   ·have hd6 : Rdg 97 w H w6 H g (some ⟨b, off, none⟩) c l (p + 1 + 2) (cnt + 1) := hd5.step hG6 hB6 hs (by have := HC.out; omega);have hT6 := hT5.gr hG6 (by omega);have hnb := beN_lt ((l.drop (p + 1)).take 2);have hnl : ((l.drop (p + 1)).take 2).length = 2 := by rw [List.length_take, List.length_drop]; omega
    rw [hnl] at hnb
    simp only [Nat.reducePow] at hnb
    obtain ⟨n, hn⟩ : ∃ n, beN ((l.drop (p + 1)).take 2) = n := ⟨_, rfl⟩
    have EH2 : Hid (headP (l.drop p) = if (headB 0 n).length ≠ 3 then .error 4 else .ok (ch.toNat, n, 3)) := by
     rw [Hid, EH.out, if_neg (by rw [List.length_drop]; omega), hn];have := HK6.out;have := HLOW.out.2.1
     by_cases h : (headB 0 n).length = 3 <;> simp [h] <;> omega
    have HDn := Hh (fun w => HD.out n (by omega) w);rw [hn];have hlen : (headB (kd : Int).toNat (n : Int).toNat).length = (headB 0 n).length := by rw [headB_length, headB_length]; rfl
    obtain ⟨fl, hfl⟩ : ∃ fl, (headB 0 n).length = fl := ⟨_, rfl⟩
    rw [hfl] at EH2 hlen;have HLN := Hh hlen;clear NM HD hs hd5 hT5 hB6 hG6 EH hn hnl hnb hfl hlen;go_wp2_with fail
    refine (HDn.out _).mono ?_
    rintro e w7 ⟨r, rfl, hf⟩
    have hd7 := hd6.below_ hf.2;have hT7 := hT6.below hf.2;obtain ⟨RA, rc, rfl, _⟩ := hf.own.form;rw [HLN.out];clear hf HDn hd6 hT6
    by_cases hq : fl = 3
    ·subst hq;have EH3 : Hid (headP (l.drop p) = .ok (ch.toNat, n, 3)) := by rw [Hid, EH2.out, if_neg (by simp)]
     clear EH2;go_wp2_with fail
     go_meet
     exact ⟨n, 3, EH3.out, rfl, by rw [show p + 3 = p + 1 + 2 by omega]; exact hd7, hT7⟩
    ·have zq : ((fl : Int) == 3) = false := by simp; omega
     have zq2 : ((fl : Int) = 3) = False := eq_false (by omega)
     have E : Hid (parse 0 (l.drop p) cnt = .err 4) := by
      have h1 : headP (l.drop p) = .error 4 := by rw [EH2.out, if_pos hq]
      rw [Hid, parse_head 0 (l.drop p) cnt (by have := HC.out; omega) h1]
     clear EH2 hq;go_wp2_with (with_reducible refine stop_store ?_)
     refine stI hT7 fun wz hTy hgz => ?_
     have hdz := hd7.gb hn0 (Nat.le_refl _) hgl hgz;go_wp2_with fail
     refine ret_row_tmp rfl rfl hTy rfl rfl size_item rfl ?_
     exact ItemOut.err E.out rfl hdz
  ·have NM := Hh (r_number hd5.psr 4 (by omega) (by omega));have HD := Hh (fun n hn w => ref_Head (kd : Int) ((n : Nat) : Int) w (by omega) (by omega) (by omega) hn)
   simp only [Nat.reduceSub, Nat.reducePow, Nat.reduceAdd] at EH
   clear hl24 z24 hlw z27 z27b KU;go_wp2_with fail
   refine NM.out.mono ?_
   rintro e w6 (⟨hs, rfl, hB6, hG6⟩ | ⟨hs, rfl, hB6, hG6⟩)
   ·have E : Hid (parse 0 (l.drop p) cnt = .err 2) := by
     have h1 : headP (l.drop p) = .error 2 := by rw [EH.out, if_pos (by rw [List.length_drop]; have := HLOW.out.2.2; omega)]
     rw [Hid, parse_head 0 (l.drop p) cnt (by have := HC.out; omega) h1]
    have hd6 : Rdg 97 w H w6 H g (some ⟨b, off, none⟩) c l (p + 1) (cnt + 1) := hd5.step hG6 hB6 HLOW.out.2.2 (by have := HC.out; omega);have hT6 := hT5.gr hG6 (by omega);clear NM HD hs hd5 hT5 hB6 hG6 EH;go_wp2_with (with_reducible refine stop_store ?_)
    refine stI hT6 fun wz hTy hgz => ?_
    have hdz := hd6.gb hn0 (Nat.le_refl _) hgl hgz;go_wp2_with fail
    refine ret_row_tmp rfl rfl hTy rfl rfl size_item rfl ?_
    exact ItemOut.err E.out rfl hdz
   ·have hd6 : Rdg 97 w H w6 H g (some ⟨b, off, none⟩) c l (p + 1 + 4) (cnt + 1) := hd5.step hG6 hB6 hs (by have := HC.out; omega);have hT6 := hT5.gr hG6 (by omega);have hnb := beN_lt ((l.drop (p + 1)).take 4);have hnl : ((l.drop (p + 1)).take 4).length = 4 := by rw [List.length_take, List.length_drop]; omega
    rw [hnl] at hnb
    simp only [Nat.reducePow] at hnb
    obtain ⟨n, hn⟩ : ∃ n, beN ((l.drop (p + 1)).take 4) = n := ⟨_, rfl⟩
    have EH2 : Hid (headP (l.drop p) = if (headB 0 n).length ≠ 5 then .error 4 else .ok (ch.toNat, n, 5)) := by
     rw [Hid, EH.out, if_neg (by rw [List.length_drop]; omega), hn];have := HK6.out;have := HLOW.out.2.1
     by_cases h : (headB 0 n).length = 5 <;> simp [h] <;> omega
    have HDn := Hh (fun w => HD.out n (by omega) w);rw [hn];have hlen : (headB (kd : Int).toNat (n : Int).toNat).length = (headB 0 n).length := by rw [headB_length, headB_length]; rfl
    obtain ⟨fl, hfl⟩ : ∃ fl, (headB 0 n).length = fl := ⟨_, rfl⟩
    rw [hfl] at EH2 hlen;have HLN := Hh hlen;clear NM HD hs hd5 hT5 hB6 hG6 EH hn hnl hnb hfl hlen;go_wp2_with fail
    refine (HDn.out _).mono ?_
    rintro e w7 ⟨r, rfl, hf⟩
    have hd7 := hd6.below_ hf.2;have hT7 := hT6.below hf.2;obtain ⟨RA, rc, rfl, _⟩ := hf.own.form;rw [HLN.out];clear hf HDn hd6 hT6
    by_cases hq : fl = 5
    ·subst hq;have EH3 : Hid (headP (l.drop p) = .ok (ch.toNat, n, 5)) := by rw [Hid, EH2.out, if_neg (by simp)]
     clear EH2;go_wp2_with fail
     go_meet
     exact ⟨n, 5, EH3.out, rfl, by rw [show p + 5 = p + 1 + 4 by omega]; exact hd7, hT7⟩
    ·have zq : ((fl : Int) == 5) = false := by simp; omega
     have zq2 : ((fl : Int) = 5) = False := eq_false (by omega)
     have E : Hid (parse 0 (l.drop p) cnt = .err 4) := by
      have h1 : headP (l.drop p) = .error 4 := by rw [EH2.out, if_pos hq]
      rw [Hid, parse_head 0 (l.drop p) cnt (by have := HC.out; omega) h1]
     clear EH2 hq;go_wp2_with (with_reducible refine stop_store ?_)
     refine stI hT7 fun wz hTy hgz => ?_
     have hdz := hd7.gb hn0 (Nat.le_refl _) hgl hgz;go_wp2_with fail
     refine ret_row_tmp rfl rfl hTy rfl rfl size_item rfl ?_
     exact ItemOut.err E.out rfl hdz
  ·have NM := Hh (r_number hd5.psr 8 (by omega) (by omega));have HD := Hh (fun n hn w => ref_Head (kd : Int) ((n : Nat) : Int) w (by omega) (by omega) (by omega) hn)
   simp only [Nat.reduceSub, Nat.reducePow, Nat.reduceAdd] at EH
   clear hl24 z24 hlw z27 z27b KU;go_wp2_with fail
   refine NM.out.mono ?_
   rintro e w6 (⟨hs, rfl, hB6, hG6⟩ | ⟨hs, rfl, hB6, hG6⟩)
   ·have E : Hid (parse 0 (l.drop p) cnt = .err 2) := by
     have h1 : headP (l.drop p) = .error 2 := by rw [EH.out, if_pos (by rw [List.length_drop]; have := HLOW.out.2.2; omega)]
     rw [Hid, parse_head 0 (l.drop p) cnt (by have := HC.out; omega) h1]
    have hd6 : Rdg 97 w H w6 H g (some ⟨b, off, none⟩) c l (p + 1) (cnt + 1) := hd5.step hG6 hB6 HLOW.out.2.2 (by have := HC.out; omega);have hT6 := hT5.gr hG6 (by omega);clear NM HD hs hd5 hT5 hB6 hG6 EH;go_wp2_with (with_reducible refine stop_store ?_)
    refine stI hT6 fun wz hTy hgz => ?_
    have hdz := hd6.gb hn0 (Nat.le_refl _) hgl hgz;go_wp2_with fail
    refine ret_row_tmp rfl rfl hTy rfl rfl size_item rfl ?_
    exact ItemOut.err E.out rfl hdz
   ·have hd6 : Rdg 97 w H w6 H g (some ⟨b, off, none⟩) c l (p + 1 + 8) (cnt + 1) := hd5.step hG6 hB6 hs (by have := HC.out; omega);have hT6 := hT5.gr hG6 (by omega);have hnb := beN_lt ((l.drop (p + 1)).take 8);have hnl : ((l.drop (p + 1)).take 8).length = 8 := by rw [List.length_take, List.length_drop]; omega
    rw [hnl] at hnb
    simp only [Nat.reducePow] at hnb
    obtain ⟨n, hn⟩ : ∃ n, beN ((l.drop (p + 1)).take 8) = n := ⟨_, rfl⟩
    have EH2 : Hid (headP (l.drop p) = if (headB 0 n).length ≠ 9 then .error 4 else .ok (ch.toNat, n, 9)) := by
     rw [Hid, EH.out, if_neg (by rw [List.length_drop]; omega), hn];have := HK6.out;have := HLOW.out.2.1
     by_cases h : (headB 0 n).length = 9 <;> simp [h] <;> omega
    have HDn := Hh (fun w => HD.out n (by omega) w);rw [hn];have hlen : (headB (kd : Int).toNat (n : Int).toNat).length = (headB 0 n).length := by rw [headB_length, headB_length]; rfl
    obtain ⟨fl, hfl⟩ : ∃ fl, (headB 0 n).length = fl := ⟨_, rfl⟩
    rw [hfl] at EH2 hlen;have HLN := Hh hlen;clear NM HD hs hd5 hT5 hB6 hG6 EH hn hnl hnb hfl hlen;go_wp2_with fail
    refine (HDn.out _).mono ?_
    rintro e w7 ⟨r, rfl, hf⟩
    have hd7 := hd6.below_ hf.2;have hT7 := hT6.below hf.2;obtain ⟨RA, rc, rfl, _⟩ := hf.own.form;rw [HLN.out];clear hf HDn hd6 hT6
    by_cases hq : fl = 9
    ·subst hq;have EH3 : Hid (headP (l.drop p) = .ok (ch.toNat, n, 9)) := by rw [Hid, EH2.out, if_neg (by simp)]
     clear EH2;go_wp2_with fail
     go_meet
     exact ⟨n, 9, EH3.out, rfl, by rw [show p + 9 = p + 1 + 8 by omega]; exact hd7, hT7⟩
    ·have zq : ((fl : Int) == 9) = false := by simp; omega
     have zq2 : ((fl : Int) = 9) = False := eq_false (by omega)
     have E : Hid (parse 0 (l.drop p) cnt = .err 4) := by
      have h1 : headP (l.drop p) = .error 4 := by rw [EH2.out, if_pos hq]
      rw [Hid, parse_head 0 (l.drop p) cnt (by have := HC.out; omega) h1]
     clear EH2 hq;go_wp2_with (with_reducible refine stop_store ?_)
     refine stI hT7 fun wz hTy hgz => ?_
     have hdz := hd7.gb hn0 (Nat.le_refl _) hgl hgz;go_wp2_with fail
     refine ret_row_tmp rfl rfl hTy rfl rfl size_item rfl ?_
     exact ItemOut.err E.out rfl hdz
 case rest =>
  obtain ⟨n, k, hh, rfl, hd8, hT8⟩ := hcut;have HF := Hh (headP_spec hh);have HH := Hh hh;clear hh hd5 hT5;have E := Hh (parse_deep (l.drop p) cnt (by have := HC.out; omega) HH.out (by have := HLOW.out.2.1; omega) (by have := HLOW.out.2.1; omega));have s0 : ((kd : Int) == 0) = false := by simp; omega
  have s1 : ((kd : Int) == 1) = false := by simp; omega
  have s2 : ((kd : Int) == 2) = false := by simp; omega
  have s3 : ((kd : Int) == 3) = false := by simp; omega
  have q0 : ((kd : Int) = 0) = False := eq_false (by omega);have q1 : ((kd : Int) = 1) = False := eq_false (by omega);have q2 : ((kd : Int) = 2) = False := eq_false (by omega);have q3 : ((kd : Int) = 3) = False := eq_false (by omega);have hlv8 : lv = 8 := by have := HLV.out; omega
  subst hlv8;go_wp2_with (with_reducible refine stop_store ?_)
  refine stI hT8 fun wz hTy hgz => ?_
  have hdz := hd8.gb hn0 (Nat.le_refl _) hgl hgz;go_wp2_with fail
  refine ret_row_tmp rfl rfl hTy rfl rfl size_item rfl ?_
  exact ItemOut.err E.out rfl hdz
theorem r_item_cont (hTab : Tabs H) (hE : RElem d) (hlv : lv + (d + 1) = 8) (hP : Psr 97 w g H A c l p cnt) (hc : cnt < 256) (hp2 : p < l.length) {ch : UInt8} (hch : l[p] = ch) {low kd : Nat} (hlow : ch.toNat % 32 = low) (hkd : ch.toNat / 32 = kd) (h27 : low ≤ 27) (hk : 4 ≤ kd ∧ kd ≤ 6) : Calls Tryz.prog 61 #[.pointer (some ⟨g, 0, none⟩), .int .i64 (lv : Int)] w (ItemOut 97 w H g A c l p (parse (d + 1) (l.drop p) cnt)) := by
 have hgl := hP.gt;have hd0 := (Rdg.refl hP).alloc zeroO;have hT0 := Blk.new w 31 #[.int .i64 0, .int .u64 0, .slice none 0 0, .slice none 0 0];have hn0 : H w.heap.size = none := hP.holds.none_of_ge (Nat.le_refl _);have c2 := hd0.psr.blk.cell 2 rfl;have ED := drop_cons hp2;rw [hch] at ED
 
 have EH0 : Hid (headP (l.drop p) = if 27 < low then .error 3 else if low < 24 then .ok (ch.toNat, low, 1) else if (l.drop (p + 1)).length < 2 ^ (low - 24) then .error 2
    else if ch.toNat / 32 < 7 ∧ (headB 0 (beN ((l.drop (p + 1)).take (2 ^ (low - 24))))).length ≠ 1 + 2 ^ (low - 24) then .error 4
    else .ok (ch.toNat, beN ((l.drop (p + 1)).take (2 ^ (low - 24))), 1 + 2 ^ (low - 24))) := by rw [Hid, ED, headP, hlow]
 have z27 : ¬ ((27 : Int) < (low : Int)) := by omega
 have z27b : decide ((27 : Int) < (low : Int)) = false := decide_eq_false z27;have H27 := Hh h27;have HLV := Hh hlv;have HK6 : Hid (kd < 7) := by rw [Hid]; omega
 have s7 : ((kd : Int) == 7) = false := by simp; omega
 have q7 : ((kd : Int) = 7) = False := eq_false (by omega);have hk4 : (4 : Int) ≤ (kd : Int) := by omega
 have hk6 : (kd : Int) ≤ 6 := by omega
 clear h27 ED;have z0 : ¬ (((l.length : Nat) : Int) ≤ (p : Int)) := by omega
 have z0' : decide (((l.length : Nat) : Int) ≤ (p : Int)) = false := decide_eq_false z0;have hpi : (p : Int) < (l.length : Int) := by omega
 have hp0 : (0 : Int) ≤ (p : Int) := by omega
 have hsm := hP.small;have K1 : IntKind.i64.wrap ((p : Int) + 1) = (p : Int) + 1 := IntWalk.i64_in _ (by omega);obtain ⟨b, off, rfl, HCELL0⟩ := hP.bytes.at_ (by omega);have KA := and31 ⟨ch.toNat, ch.toNat_lt⟩
 simp only at KA
 rw [hlow] at KA;have S : (ch.toNat : Int) / 32 = (kd : Int) := by omega
 have hkw : (kd : Int) ≤ 7 := by have := ch.toNat_lt; omega
 have hlw : (low : Int) ≤ 31 := by omega
 have HCELL := Hh HCELL0;have HLOW := Hh (And.intro hlow (And.intro hkd hp2));have HCH := Hh (show H.cell? ⟨b, off + p, none⟩ = some (byteV ch) by have h := HCELL0 p hp2; rw [hch] at h; exact h);clear HCELL0 hlow hkd hsm hch;have hc256 : ¬ ((256 : Int) ≤ (cnt : Int)) := by omega
 have hc256' : decide ((256 : Int) ≤ (cnt : Int)) = false := decide_eq_false hc256;have KC : IntKind.i64.wrap ((cnt : Int) + 1) = (cnt : Int) + 1 := IntWalk.i64_in _ (by omega);have HC := Hh hc;clear hc;go_enter Tryz.func61, Tryz.ntmps61
 go_wp2_with (with_reducible refine stop_store ?_)
 refine wpList_store_cell rfl _ _ _ rfl rfl g 2 (.int .i64 ((cnt : Int) + 1)) rfl rfl _ _ hd0.psr.blk size_int1 (by simp) rfl fun w2 hB2 hG2 => ?_
 have hd2 : Rdg 97 w H w2 H g _ c l p (cnt + 1) := hd0.step hG2 hB2 hP.le (by have := HC.out; omega);have hT2 := hT0.gr hG2 (by omega);clear hd0 hT0 hB2 hG2 c2 KC hc256 hc256';have hpl := hd2.psr.le;have a0 := hd2.psr.blk.cell 0 rfl;have a1 := hd2.psr.blk.cell 1 rfl;go_wp2_with fail
 go_big_quiet (fail)
 have hd3' := hd2.drewN nq;have hT3' : Blk (w2.drewN nq) w.heap.size 31 #[.int .i64 0, .int .u64 0, .slice none 0 0, .slice none 0 0] := hT2
 generalize w2.drewN nq = w3 at hd3' hT3' ⊢
 obtain ⟨hd3, hT3⟩ := And.intro hd3' hT3';clear hd3' hT3' hd2 hT2 a0 a1 hpl;have a0 := hd3.psr.blk.cell 0 rfl;have a1 := hd3.psr.blk.cell 1 rfl;have q0 := hd3.psr.holds.cell HCH.out;go_upto_region 6 with fail
 go_big_quiet (fail)
 have hd4' := hd3.drewN nq;have hT4' : Blk (w3.drewN nq) w.heap.size 31 #[.int .i64 0, .int .u64 0, .slice none 0 0, .slice none 0 0] := hT3
 generalize w3.drewN nq = w4 at hd4' hT4' ⊢
 obtain ⟨hd4, hT4⟩ := And.intro hd4' hT4';clear hd4' hT4' hd3 hT3 a0 a1 q0;have a1 := hd4.psr.blk.cell 1 rfl;go_wp2_with (with_reducible refine stop_store ?_)
 refine wpList_store_cell rfl _ _ _ rfl rfl g 1 (.int .i64 ((p : Int) + 1)) rfl rfl _ _ hd4.psr.blk size_int1 (by simp) rfl fun w5 hB5 hG5 => ?_
 have hd5 : Rdg 97 w H w5 H g (some ⟨b, off, none⟩) c l (p + 1) (cnt + 1) := hd4.step hG5 hB5 HLOW.out.2.2 (by have := HC.out; omega);have hT5 := hT4.gr hG5 (by omega);clear hd4 hT4 hB5 hG5 a1 K1 z0 z0' hpi hp0 KA S;go_upto_region 12 with fail
 have KU : IntKind.u64.wrap (low : Int) = (low : Int) := by rw [IntKind.wrap_u64]; omega
 go_upto_if 80 with fail
 go_cut [8] (fun s8 wx => ∃ n k : Nat, headP (l.drop p) = .ok (ch.toNat, n, k) ∧ s8 = .int .u64 (n : Int) ∧ Rdg 97 w H wx H g (some ⟨b, off, none⟩) c l (p + k) (cnt + 1) ∧ Blk wx w.heap.size 31 #[.int .i64 0, .int .u64 0, .slice none 0 0, .slice none 0 0])
 case first =>
  by_cases hl24 : low < 24
  ·have z24 : ¬ ((23 : Int) < (low : Int)) := by omega
   have z24b : decide ((23 : Int) < (low : Int)) = false := decide_eq_false z24;have EH : Hid (headP (l.drop p) = .ok (ch.toNat, low, 1)) := by rw [Hid, EH0.out, if_neg (by have := H27.out; omega), if_pos hl24]
   clear hl24;go_wp2_with fail
   go_meet
   exact ⟨low, 1, EH.out, rfl, hd5, hT5⟩
  have z24 : (23 : Int) < (low : Int) := by omega
  have EH : Hid (headP (l.drop p) = if (l.drop (p + 1)).length < 2 ^ (low - 24) then .error 2
    else if ch.toNat / 32 < 7 ∧ (headB 0 (beN ((l.drop (p + 1)).take (2 ^ (low - 24))))).length ≠ 1 + 2 ^ (low - 24) then .error 4
    else .ok (ch.toNat, beN ((l.drop (p + 1)).take (2 ^ (low - 24))), 1 + 2 ^ (low - 24))) := by rw [Hid, EH0.out, if_neg (by have := H27.out; omega), if_neg hl24]
  clear EH0
  rcases (by have := H27.out; omega : low = 24 ∨ low = 25 ∨ low = 26 ∨ low = 27) with rfl | rfl | rfl | rfl
  ·have NM := Hh (r_number hd5.psr 1 (by omega) (by omega));have HD := Hh (fun n hn w => ref_Head (kd : Int) ((n : Nat) : Int) w (by omega) (by omega) (by omega) hn)
   simp only [Nat.reduceSub, Nat.reducePow, Nat.reduceAdd] at EH
   clear hl24 z24 hlw z27 z27b KU;go_wp2_with fail
   refine NM.out.mono ?_
   rintro e w6 (⟨hs, rfl, hB6, hG6⟩ | ⟨hs, rfl, hB6, hG6⟩)
   ·have E : Hid (parse (d + 1) (l.drop p) cnt = .err 2) := by
     have h1 : headP (l.drop p) = .error 2 := by rw [EH.out, if_pos (by rw [List.length_drop]; have := HLOW.out.2.2; omega)]
     rw [Hid, parse_head (d + 1) (l.drop p) cnt (by have := HC.out; omega) h1]
    have hd6 : Rdg 97 w H w6 H g (some ⟨b, off, none⟩) c l (p + 1) (cnt + 1) := hd5.step hG6 hB6 HLOW.out.2.2 (by have := HC.out; omega);have hT6 := hT5.gr hG6 (by omega);clear NM HD hs hd5 hT5 hB6 hG6 EH;go_wp2_with (with_reducible refine stop_store ?_)
    refine stI hT6 fun wz hTy hgz => ?_
    have hdz := hd6.gb hn0 (Nat.le_refl _) hgl hgz;go_wp2_with fail
    refine ret_row_tmp rfl rfl hTy rfl rfl size_item rfl ?_
    exact ItemOut.err E.out rfl hdz
   ·have hd6 : Rdg 97 w H w6 H g (some ⟨b, off, none⟩) c l (p + 1 + 1) (cnt + 1) := hd5.step hG6 hB6 hs (by have := HC.out; omega);have hT6 := hT5.gr hG6 (by omega);have hnb := beN_lt ((l.drop (p + 1)).take 1);have hnl : ((l.drop (p + 1)).take 1).length = 1 := by rw [List.length_take, List.length_drop]; omega
    rw [hnl] at hnb
    simp only [Nat.reducePow] at hnb
    obtain ⟨n, hn⟩ : ∃ n, beN ((l.drop (p + 1)).take 1) = n := ⟨_, rfl⟩
    have EH2 : Hid (headP (l.drop p) = if (headB 0 n).length ≠ 2 then .error 4 else .ok (ch.toNat, n, 2)) := by
     rw [Hid, EH.out, if_neg (by rw [List.length_drop]; omega), hn];have := HK6.out;have := HLOW.out.2.1
     by_cases h : (headB 0 n).length = 2 <;> simp [h] <;> omega
    have HDn := Hh (fun w => HD.out n (by omega) w);rw [hn];have hlen : (headB (kd : Int).toNat (n : Int).toNat).length = (headB 0 n).length := by rw [headB_length, headB_length]; rfl
    obtain ⟨fl, hfl⟩ : ∃ fl, (headB 0 n).length = fl := ⟨_, rfl⟩
    rw [hfl] at EH2 hlen;have HLN := Hh hlen;clear NM HD hs hd5 hT5 hB6 hG6 EH hn hnl hnb hfl hlen;go_wp2_with fail
    refine (HDn.out _).mono ?_
    rintro e w7 ⟨r, rfl, hf⟩
    have hd7 := hd6.below_ hf.2;have hT7 := hT6.below hf.2;obtain ⟨RA, rc, rfl, _⟩ := hf.own.form;rw [HLN.out];clear hf HDn hd6 hT6
    by_cases hq : fl = 2
    ·subst hq;have EH3 : Hid (headP (l.drop p) = .ok (ch.toNat, n, 2)) := by rw [Hid, EH2.out, if_neg (by simp)]
     clear EH2;go_wp2_with fail
     go_meet
     exact ⟨n, 2, EH3.out, rfl, by rw [show p + 2 = p + 1 + 1 by omega]; exact hd7, hT7⟩
    ·have zq : ((fl : Int) == 2) = false := by simp; omega
     have zq2 : ((fl : Int) = 2) = False := eq_false (by omega)
     have E : Hid (parse (d + 1) (l.drop p) cnt = .err 4) := by
      have h1 : headP (l.drop p) = .error 4 := by rw [EH2.out, if_pos hq]
      rw [Hid, parse_head (d + 1) (l.drop p) cnt (by have := HC.out; omega) h1]
     clear EH2 hq;go_wp2_with (with_reducible refine stop_store ?_)
     refine stI hT7 fun wz hTy hgz => ?_
     have hdz := hd7.gb hn0 (Nat.le_refl _) hgl hgz;go_wp2_with fail
     refine ret_row_tmp rfl rfl hTy rfl rfl size_item rfl ?_
     exact ItemOut.err E.out rfl hdz
  ·have NM := Hh (r_number hd5.psr 2 (by omega) (by omega));have HD := Hh (fun n hn w => ref_Head (kd : Int) ((n : Nat) : Int) w (by omega) (by omega) (by omega) hn)
   simp only [Nat.reduceSub, Nat.reducePow, Nat.reduceAdd] at EH
   clear hl24 z24 hlw z27 z27b KU;go_wp2_with fail
   refine NM.out.mono ?_
   rintro e w6 (⟨hs, rfl, hB6, hG6⟩ | ⟨hs, rfl, hB6, hG6⟩)
   ·have E : Hid (parse (d + 1) (l.drop p) cnt = .err 2) := by
     have h1 : headP (l.drop p) = .error 2 := by rw [EH.out, if_pos (by rw [List.length_drop]; have := HLOW.out.2.2; omega)]
     rw [Hid, parse_head (d + 1) (l.drop p) cnt (by have := HC.out; omega) h1]
    have hd6 : Rdg 97 w H w6 H g (some ⟨b, off, none⟩) c l (p + 1) (cnt + 1) := hd5.step hG6 hB6 HLOW.out.2.2 (by have := HC.out; omega);have hT6 := hT5.gr hG6 (by omega);clear NM HD hs hd5 hT5 hB6 hG6 EH;go_wp2_with (with_reducible refine stop_store ?_)
    refine stI hT6 fun wz hTy hgz => ?_
    have hdz := hd6.gb hn0 (Nat.le_refl _) hgl hgz;go_wp2_with fail
    refine ret_row_tmp rfl rfl hTy rfl rfl size_item rfl ?_
    exact ItemOut.err E.out rfl hdz
   ·have hd6 : Rdg 97 w H w6 H g (some ⟨b, off, none⟩) c l (p + 1 + 2) (cnt + 1) := hd5.step hG6 hB6 hs (by have := HC.out; omega);have hT6 := hT5.gr hG6 (by omega);have hnb := beN_lt ((l.drop (p + 1)).take 2);have hnl : ((l.drop (p + 1)).take 2).length = 2 := by rw [List.length_take, List.length_drop]; omega
    rw [hnl] at hnb
    simp only [Nat.reducePow] at hnb
    obtain ⟨n, hn⟩ : ∃ n, beN ((l.drop (p + 1)).take 2) = n := ⟨_, rfl⟩
    have EH2 : Hid (headP (l.drop p) = if (headB 0 n).length ≠ 3 then .error 4 else .ok (ch.toNat, n, 3)) := by
     rw [Hid, EH.out, if_neg (by rw [List.length_drop]; omega), hn];have := HK6.out;have := HLOW.out.2.1
     by_cases h : (headB 0 n).length = 3 <;> simp [h] <;> omega
    have HDn := Hh (fun w => HD.out n (by omega) w);rw [hn];have hlen : (headB (kd : Int).toNat (n : Int).toNat).length = (headB 0 n).length := by rw [headB_length, headB_length]; rfl
    obtain ⟨fl, hfl⟩ : ∃ fl, (headB 0 n).length = fl := ⟨_, rfl⟩
    rw [hfl] at EH2 hlen;have HLN := Hh hlen;clear NM HD hs hd5 hT5 hB6 hG6 EH hn hnl hnb hfl hlen;go_wp2_with fail
    refine (HDn.out _).mono ?_
    rintro e w7 ⟨r, rfl, hf⟩
    have hd7 := hd6.below_ hf.2;have hT7 := hT6.below hf.2;obtain ⟨RA, rc, rfl, _⟩ := hf.own.form;rw [HLN.out];clear hf HDn hd6 hT6
    by_cases hq : fl = 3
    ·subst hq;have EH3 : Hid (headP (l.drop p) = .ok (ch.toNat, n, 3)) := by rw [Hid, EH2.out, if_neg (by simp)]
     clear EH2;go_wp2_with fail
     go_meet
     exact ⟨n, 3, EH3.out, rfl, by rw [show p + 3 = p + 1 + 2 by omega]; exact hd7, hT7⟩
    ·have zq : ((fl : Int) == 3) = false := by simp; omega
     have zq2 : ((fl : Int) = 3) = False := eq_false (by omega)
     have E : Hid (parse (d + 1) (l.drop p) cnt = .err 4) := by
      have h1 : headP (l.drop p) = .error 4 := by rw [EH2.out, if_pos hq]
      rw [Hid, parse_head (d + 1) (l.drop p) cnt (by have := HC.out; omega) h1]
     clear EH2 hq;go_wp2_with (with_reducible refine stop_store ?_)
     refine stI hT7 fun wz hTy hgz => ?_
     have hdz := hd7.gb hn0 (Nat.le_refl _) hgl hgz;go_wp2_with fail
     refine ret_row_tmp rfl rfl hTy rfl rfl size_item rfl ?_
     exact ItemOut.err E.out rfl hdz
  ·have NM := Hh (r_number hd5.psr 4 (by omega) (by omega));have HD := Hh (fun n hn w => ref_Head (kd : Int) ((n : Nat) : Int) w (by omega) (by omega) (by omega) hn)
   simp only [Nat.reduceSub, Nat.reducePow, Nat.reduceAdd] at EH
   clear hl24 z24 hlw z27 z27b KU;go_wp2_with fail
   refine NM.out.mono ?_
   rintro e w6 (⟨hs, rfl, hB6, hG6⟩ | ⟨hs, rfl, hB6, hG6⟩)
   ·have E : Hid (parse (d + 1) (l.drop p) cnt = .err 2) := by
     have h1 : headP (l.drop p) = .error 2 := by rw [EH.out, if_pos (by rw [List.length_drop]; have := HLOW.out.2.2; omega)]
     rw [Hid, parse_head (d + 1) (l.drop p) cnt (by have := HC.out; omega) h1]
    have hd6 : Rdg 97 w H w6 H g (some ⟨b, off, none⟩) c l (p + 1) (cnt + 1) := hd5.step hG6 hB6 HLOW.out.2.2 (by have := HC.out; omega);have hT6 := hT5.gr hG6 (by omega);clear NM HD hs hd5 hT5 hB6 hG6 EH;go_wp2_with (with_reducible refine stop_store ?_)
    refine stI hT6 fun wz hTy hgz => ?_
    have hdz := hd6.gb hn0 (Nat.le_refl _) hgl hgz;go_wp2_with fail
    refine ret_row_tmp rfl rfl hTy rfl rfl size_item rfl ?_
    exact ItemOut.err E.out rfl hdz
   ·have hd6 : Rdg 97 w H w6 H g (some ⟨b, off, none⟩) c l (p + 1 + 4) (cnt + 1) := hd5.step hG6 hB6 hs (by have := HC.out; omega);have hT6 := hT5.gr hG6 (by omega);have hnb := beN_lt ((l.drop (p + 1)).take 4);have hnl : ((l.drop (p + 1)).take 4).length = 4 := by rw [List.length_take, List.length_drop]; omega
    rw [hnl] at hnb
    simp only [Nat.reducePow] at hnb
    obtain ⟨n, hn⟩ : ∃ n, beN ((l.drop (p + 1)).take 4) = n := ⟨_, rfl⟩
    have EH2 : Hid (headP (l.drop p) = if (headB 0 n).length ≠ 5 then .error 4 else .ok (ch.toNat, n, 5)) := by
     rw [Hid, EH.out, if_neg (by rw [List.length_drop]; omega), hn];have := HK6.out;have := HLOW.out.2.1
     by_cases h : (headB 0 n).length = 5 <;> simp [h] <;> omega
    have HDn := Hh (fun w => HD.out n (by omega) w);rw [hn];have hlen : (headB (kd : Int).toNat (n : Int).toNat).length = (headB 0 n).length := by rw [headB_length, headB_length]; rfl
    obtain ⟨fl, hfl⟩ : ∃ fl, (headB 0 n).length = fl := ⟨_, rfl⟩
    rw [hfl] at EH2 hlen;have HLN := Hh hlen;clear NM HD hs hd5 hT5 hB6 hG6 EH hn hnl hnb hfl hlen;go_wp2_with fail
    refine (HDn.out _).mono ?_
    rintro e w7 ⟨r, rfl, hf⟩
    have hd7 := hd6.below_ hf.2;have hT7 := hT6.below hf.2;obtain ⟨RA, rc, rfl, _⟩ := hf.own.form;rw [HLN.out];clear hf HDn hd6 hT6
    by_cases hq : fl = 5
    ·subst hq;have EH3 : Hid (headP (l.drop p) = .ok (ch.toNat, n, 5)) := by rw [Hid, EH2.out, if_neg (by simp)]
     clear EH2;go_wp2_with fail
     go_meet
     exact ⟨n, 5, EH3.out, rfl, by rw [show p + 5 = p + 1 + 4 by omega]; exact hd7, hT7⟩
    ·have zq : ((fl : Int) == 5) = false := by simp; omega
     have zq2 : ((fl : Int) = 5) = False := eq_false (by omega)
     have E : Hid (parse (d + 1) (l.drop p) cnt = .err 4) := by
      have h1 : headP (l.drop p) = .error 4 := by rw [EH2.out, if_pos hq]
      rw [Hid, parse_head (d + 1) (l.drop p) cnt (by have := HC.out; omega) h1]
     clear EH2 hq;go_wp2_with (with_reducible refine stop_store ?_)
     refine stI hT7 fun wz hTy hgz => ?_
     have hdz := hd7.gb hn0 (Nat.le_refl _) hgl hgz;go_wp2_with fail
     refine ret_row_tmp rfl rfl hTy rfl rfl size_item rfl ?_
     exact ItemOut.err E.out rfl hdz
  ·have NM := Hh (r_number hd5.psr 8 (by omega) (by omega));have HD := Hh (fun n hn w => ref_Head (kd : Int) ((n : Nat) : Int) w (by omega) (by omega) (by omega) hn)
   simp only [Nat.reduceSub, Nat.reducePow, Nat.reduceAdd] at EH
   clear hl24 z24 hlw z27 z27b KU;go_wp2_with fail
   refine NM.out.mono ?_
   rintro e w6 (⟨hs, rfl, hB6, hG6⟩ | ⟨hs, rfl, hB6, hG6⟩)
   ·have E : Hid (parse (d + 1) (l.drop p) cnt = .err 2) := by
     have h1 : headP (l.drop p) = .error 2 := by rw [EH.out, if_pos (by rw [List.length_drop]; have := HLOW.out.2.2; omega)]
     rw [Hid, parse_head (d + 1) (l.drop p) cnt (by have := HC.out; omega) h1]
    have hd6 : Rdg 97 w H w6 H g (some ⟨b, off, none⟩) c l (p + 1) (cnt + 1) := hd5.step hG6 hB6 HLOW.out.2.2 (by have := HC.out; omega);have hT6 := hT5.gr hG6 (by omega);clear NM HD hs hd5 hT5 hB6 hG6 EH;go_wp2_with (with_reducible refine stop_store ?_)
    refine stI hT6 fun wz hTy hgz => ?_
    have hdz := hd6.gb hn0 (Nat.le_refl _) hgl hgz;go_wp2_with fail
    refine ret_row_tmp rfl rfl hTy rfl rfl size_item rfl ?_
    exact ItemOut.err E.out rfl hdz
   ·have hd6 : Rdg 97 w H w6 H g (some ⟨b, off, none⟩) c l (p + 1 + 8) (cnt + 1) := hd5.step hG6 hB6 hs (by have := HC.out; omega);have hT6 := hT5.gr hG6 (by omega);have hnb := beN_lt ((l.drop (p + 1)).take 8);have hnl : ((l.drop (p + 1)).take 8).length = 8 := by rw [List.length_take, List.length_drop]; omega
    rw [hnl] at hnb
    simp only [Nat.reducePow] at hnb
    obtain ⟨n, hn⟩ : ∃ n, beN ((l.drop (p + 1)).take 8) = n := ⟨_, rfl⟩
    have EH2 : Hid (headP (l.drop p) = if (headB 0 n).length ≠ 9 then .error 4 else .ok (ch.toNat, n, 9)) := by
     rw [Hid, EH.out, if_neg (by rw [List.length_drop]; omega), hn];have := HK6.out;have := HLOW.out.2.1
     by_cases h : (headB 0 n).length = 9 <;> simp [h] <;> omega
    have HDn := Hh (fun w => HD.out n (by omega) w);rw [hn];have hlen : (headB (kd : Int).toNat (n : Int).toNat).length = (headB 0 n).length := by rw [headB_length, headB_length]; rfl
    obtain ⟨fl, hfl⟩ : ∃ fl, (headB 0 n).length = fl := ⟨_, rfl⟩
    rw [hfl] at EH2 hlen;have HLN := Hh hlen;clear NM HD hs hd5 hT5 hB6 hG6 EH hn hnl hnb hfl hlen;go_wp2_with fail
    refine (HDn.out _).mono ?_
    rintro e w7 ⟨r, rfl, hf⟩
    have hd7 := hd6.below_ hf.2;have hT7 := hT6.below hf.2;obtain ⟨RA, rc, rfl, _⟩ := hf.own.form;rw [HLN.out];clear hf HDn hd6 hT6
    by_cases hq : fl = 9
    ·subst hq;have EH3 : Hid (headP (l.drop p) = .ok (ch.toNat, n, 9)) := by rw [Hid, EH2.out, if_neg (by simp)]
     clear EH2;go_wp2_with fail
     go_meet
     exact ⟨n, 9, EH3.out, rfl, by rw [show p + 9 = p + 1 + 8 by omega]; exact hd7, hT7⟩
    ·have zq : ((fl : Int) == 9) = false := by simp; omega
     have zq2 : ((fl : Int) = 9) = False := eq_false (by omega)
     have E : Hid (parse (d + 1) (l.drop p) cnt = .err 4) := by
      have h1 : headP (l.drop p) = .error 4 := by rw [EH2.out, if_pos hq]
      rw [Hid, parse_head (d + 1) (l.drop p) cnt (by have := HC.out; omega) h1]
     clear EH2 hq;go_wp2_with (with_reducible refine stop_store ?_)
     refine stI hT7 fun wz hTy hgz => ?_
     have hdz := hd7.gb hn0 (Nat.le_refl _) hgl hgz;go_wp2_with fail
     refine ret_row_tmp rfl rfl hTy rfl rfl size_item rfl ?_
     exact ItemOut.err E.out rfl hdz
 case rest =>
  obtain ⟨n, k, hh, rfl, hd8, hT8⟩ := hcut;have HF := Hh (headP_spec hh);have HH := Hh hh;clear hh hd5 hT5;have E0 := Hh (parse_cont d (l.drop p) cnt (by have := HC.out; omega) HH.out (by have := HLOW.out.2.1; omega) (by have := HLOW.out.2.1; omega));rw [HLOW.out.2.1, List.drop_drop] at E0;have s0 : ((kd : Int) == 0) = false := by simp; omega
  have s1 : ((kd : Int) == 1) = false := by simp; omega
  have s2 : ((kd : Int) == 2) = false := by simp; omega
  have s3 : ((kd : Int) == 3) = false := by simp; omega
  have q0 : ((kd : Int) = 0) = False := eq_false (by omega);have q1 : ((kd : Int) = 1) = False := eq_false (by omega);have q2 : ((kd : Int) = 2) = False := eq_false (by omega);have q3 : ((kd : Int) = 3) = False := eq_false (by omega);have hlv1 : ¬ ((8 : Int) ≤ (lv : Int)) := by have := HLV.out; omega
  have hlv1' : decide ((8 : Int) ≤ (lv : Int)) = false := decide_eq_false hlv1;have EL := Hh (hE wc H g (some ⟨b, off, none⟩) c l (p + k) (cnt + 1) lv kd n hTab (by have := HLV.out; omega) (by omega) (by omega) HF.out.n_lt (by have := HLOW.out.2.2; omega) hd8.psr);go_wp2_with fail
  refine EL.out.mono ?_
  intro e w6 hs
  cases hsp : contP kd d n (l.drop (p + k)) (cnt + 1) with
  | err q =>
   rw [hsp, ItemOut] at hs;obtain ⟨rfl, H4, p4, cnt4, hd56⟩ := hs;have E : Hid (parse (d + 1) (l.drop p) cnt = .err q) := by rw [Hid, E0.out, hsp]
   have hd6 := hd8.trans hd56;have hT6 := hT8.rdg hd56 (by omega);have hn6 := hd56.hid hn0 hT8.lt;clear hd56 hd8 hT8 EL hsp E0;go_wp2_with (with_reducible refine stop_store ?_)
   refine stI hT6 fun wz hTy hgz => ?_
   have hdz := hd6.gb hn6 (Nat.le_refl _) hgl hgz;go_wp2_with fail
   refine ret_row_tmp rfl rfl hTy rfl rfl size_item rfl ?_
   exact ItemOut.err E.out rfl hdz
  | ok x k' c' =>
   rw [hsp, ItemOut] at hs;obtain ⟨ja, jb, jc, jd, H4, rfl, hd56, hi4⟩ := hs;have E : Hid (parse (d + 1) (l.drop p) cnt = .ok x (k + k') c') := by rw [Hid, E0.out, hsp]
   have hd6 := hd8.trans hd56;have hT6 := hT8.rdg hd56 (by omega);have hn6 := hd56.hid hn0 hT8.lt;clear hd56 hd8 hT8 EL hsp E0;go_wp2_with (with_reducible refine stop_store ?_)
   refine stI hT6 fun wz hTy hgz => ?_
   have hdz := hd6.gb hn6 (Nat.le_refl _) hgl hgz;go_wp2_with fail
   refine ret_row_tmp rfl rfl hTy rfl rfl size_item rfl ?_
   exact ItemOut.ok E.out rfl (by rw [← Nat.add_assoc]; exact hdz) hi4
end
theorem r_item_of (hE : ∀ d, RItem d → RElem d) : ∀ d : Nat, RItem d := by
 intro d
 induction d with
 | zero =>
  intro w H g A c l p cnt lv hTab hlv hP
  by_cases hc : cnt = 256
  ·exact r_item_full hTab hlv hP hc
  have hc : cnt < 256 := by have := hP.cnt_le; omega
  by_cases hlt : p = l.length
  ·exact r_item_end hTab hlv hP hc hlt
  have hp2 : p < l.length := by have := hP.le; omega
  by_cases h27 : 27 < l[p].toNat % 32
  ·exact r_item_code hTab hlv hP hc hp2 rfl rfl rfl h27
  have h27 : l[p].toNat % 32 ≤ 27 := by omega
  have hf := l[p].toNat_lt
  rcases (by omega : l[p].toNat / 32 = 0 ∨ l[p].toNat / 32 = 1 ∨ l[p].toNat / 32 = 2 ∨ l[p].toNat / 32 = 3 ∨ l[p].toNat / 32 = 7 ∨ (4 ≤ l[p].toNat / 32 ∧ l[p].toNat / 32 ≤ 6)) with hk | hk | hk | hk | hk | hk
  ·exact r_item_0 hTab hlv hP hc hp2 rfl rfl rfl h27 hk
  ·exact r_item_1 hTab hlv hP hc hp2 rfl rfl rfl h27 hk
  ·exact r_item_2 hTab hlv hP hc hp2 rfl rfl rfl h27 hk
  ·exact r_item_3 hTab hlv hP hc hp2 rfl rfl rfl h27 hk
  ·exact r_item_7 hTab hlv hP hc hp2 rfl rfl rfl h27 hk
  ·exact r_item_deep hTab hlv hP hc hp2 rfl rfl rfl h27 hk
 | succ d ih =>
  intro w H g A c l p cnt lv hTab hlv hP
  by_cases hc : cnt = 256
  ·exact r_item_full hTab hlv hP hc
  have hc : cnt < 256 := by have := hP.cnt_le; omega
  by_cases hlt : p = l.length
  ·exact r_item_end hTab hlv hP hc hlt
  have hp2 : p < l.length := by have := hP.le; omega
  by_cases h27 : 27 < l[p].toNat % 32
  ·exact r_item_code hTab hlv hP hc hp2 rfl rfl rfl h27
  have h27 : l[p].toNat % 32 ≤ 27 := by omega
  have hf := l[p].toNat_lt
  rcases (by omega : l[p].toNat / 32 = 0 ∨ l[p].toNat / 32 = 1 ∨ l[p].toNat / 32 = 2 ∨ l[p].toNat / 32 = 3 ∨ l[p].toNat / 32 = 7 ∨ (4 ≤ l[p].toNat / 32 ∧ l[p].toNat / 32 ≤ 6)) with hk | hk | hk | hk | hk | hk
  ·exact r_item_0 hTab hlv hP hc hp2 rfl rfl rfl h27 hk
  ·exact r_item_1 hTab hlv hP hc hp2 rfl rfl rfl h27 hk
  ·exact r_item_2 hTab hlv hP hc hp2 rfl rfl rfl h27 hk
  ·exact r_item_3 hTab hlv hP hc hp2 rfl rfl rfl h27 hk
  ·exact r_item_7 hTab hlv hP hc hp2 rfl rfl rfl h27 hk
  ·exact r_item_cont hTab (hE d ih) hlv hP hc hp2 rfl rfl rfl h27 hk
theorem r_elem (d : Nat) (ih : RItem d) : RElem d := by
 intro w H g A c l p cnt lv maj n hTab hlv h4 h6 hn hl0 hP
 rcases (by omega : maj = 4 ∨ maj = 5 ∨ maj = 6) with rfl | rfl | rfl
 ·exact r_elem_4 ih hTab hlv hn hl0 hP
 ·exact r_elem_5 ih hTab hlv hn hl0 hP
 ·exact r_elem_6 ih hTab hlv hn hl0 hP
theorem r_item : ∀ d, RItem d := r_item_of r_elem
theorem ref_Prefix {H : Snap} (hTab : Tabs H) (w : World) (hH : Holds w H) {A : Option Addr} {n c : Nat} {l : List UInt8} (hn : n = l.length) (hl : IsBytes H A c l) :
  Calls Tryz.prog 38 #[.slice A n c] w (PrefixOut w H l) := ref_Prefix_of r_item hTab w hH hn hl
theorem ref_Decode {H : Snap} (hTab : Tabs H) (w : World) (hH : Holds w H) {A : Option Addr} {n c : Nat} {l : List UInt8} (hn : n = l.length) (hl : IsBytes H A c l) :
  Calls Tryz.prog 40 #[.slice A n c] w (DecodeOut w H l) := ref_Decode_of r_item hTab w hH hn hl
end Go.Proofs.YtlebpackbfcfeaaGreatDoor
