/- squeezed. Walks: reading error messages, the -/
import Derived.Test.YtlebpackbfcfeaaGreatDoorK44
set_option linter.unusedVariables false
set_option linter.unusedSimpArgs false
set_option maxRecDepth 100000
set_option maxHeartbeats 12800000
namespace Go.Proofs.YtlebpackbfcfeaaGreatDoor
open Go.RowKit
theorem ref_DecodeError {H : Snap} (hTab : Tabs H) (w : World) (hH : Holds w H) {A : Option Addr} {n c : Nat} {l : List UInt8} (hn : n = l.length) (hl : IsBytes H A c l) :
  Calls Tryz.prog 14 #[.slice A n c] w (ErrOut w H (decErr l)) := by
 by_cases hlong : 600 < n
 ·have z : (600 : Int) < (n : Int) := by omega
  have zd : decide ((600 : Int) < (n : Int)) = true := decide_eq_true z;have E : Hid (decErr l = .error 8) := by rw [Hid]; exact decErr_long (by rw [← hn]; exact hlong)
  have hT := Blk.new w 31 #[.int .i64 0, .int .u64 0, .slice none 0 0, .slice none 0 0];have nT : H w.heap.size = none := hH.none_of_ge (Nat.le_refl _);have hG := (Grows.refl hH).alloc zeroO;clear hlong hn;go_enter Tryz.func14, Tryz.ntmps14
  go_wp2_with (with_reducible refine stop_store ?_)
  refine stI hT fun wz hTz hgz => ?_
  have hGz := hG.grownOwn nT (Nat.le_refl _) hgz;go_wp2_with fail
  refine ret_tmp_row_tmp rfl rfl hTz rfl rfl size_item rfl ?_
  exact ErrOut.err (q := 8) E.out rfl hGz.below
 have z : ¬ ((600 : Int) < (n : Int)) := by omega
 have zd : decide ((600 : Int) < (n : Int)) = false := decide_eq_false z;have HLG := Hh (show ¬ 600 < l.length by omega);have nT : H w.heap.size = none := hH.none_of_ge (Nat.le_refl _);have hG := (Grows.refl hH).alloc zeroO;have hT0 := Blk.new w 31 #[.int .i64 0, .int .u64 0, .slice none 0 0, .slice none 0 0];have hT : Blk (w.alloc zeroO) w.heap.size 31 #[.int .i64 0, .int .u64 0, .slice none 0 0, .slice none 0 0] := hT0;have HN0 := Hh (show n = l.length ∧ n ≤ 600 ∧ n ≤ c from ⟨hn, by omega, by have := hl.le; omega⟩);clear hlong z hT0 hn;go_enter Tryz.func14, Tryz.ntmps14
 go_upto_region 3 with fail
 generalize w.alloc zeroO = w1 at hG hT ⊢
 obtain ⟨T, hTT⟩ : ∃ T, w.heap.size = T := ⟨_, rfl⟩
 have hTw : w.heap.size ≤ T := Nat.le_of_eq hTT;rw [hTT] at nT hT ⊢;clear hTT;have PF := Hh (ref_Prefix hTab w1 hG.holds HN0.out.1 hl);have HBL := Hh hl;have HTab := Hh hTab;clear hl hH hTab;go_wp2_with fail
 refine PF.out.mono ?_
 intro e w2 hs
 unfold PrefixOut at hs
 clear PF
 cases hp : prefixP l with
 | err q1 =>
  rw [hp] at hs;obtain ⟨rfl, hb⟩ := hs;have E : Hid (decErr l = .error q1) := by rw [Hid]; exact decErr_err HLG.out hp
  have HQ := Hh (parse_err _ _ _ _ hp);have hGn := Grows.of_below hG.holds hb;replace nT := hGn.none nT hT.lt;replace hT := hT.below hGn.below;replace hG := hG.trans hGn;clear hp hb hGn;have hX0 := Blk.new w2 31 #[.int .i64 0, .int .u64 0, .slice none 0 0, .slice none 0 0];have nX := hG.holds.none_of_ge (Nat.le_refl w2.heap.size);have hTX := hT.lt;have hXw : w.heap.size ≤ w2.heap.size := hG.size;replace hG := hG.alloc zeroO;replace hT := hT.alloc zeroO;go_wp2_with (with_reducible refine stop_store ?_)
  refine stI hX0 fun v9 hX hg' => ?_
  replace hG := hG.grownOwn nX hXw hg';replace hT := hT.gr hg' (by omega);obtain ⟨X, hXX⟩ : ∃ X, w2.heap.size = X := ⟨_, rfl⟩
  rw [hXX] at hX nX hTX hXw ⊢;clear hXX hg' hX0;have yq : ((q1 : Int) != 0) = true := by rw [bne_iff_ne]; have := HQ.out; omega
  have yq' : ((q1 : Int) = 0) = False := eq_false (by have := HQ.out; omega);go_wp2_with (with_reducible refine stop_store ?_)
  refine stI hT fun wz hTz hgz => ?_
  have hGz := hG.grownOwn nT hTw hgz;go_wp2_with fail
  refine ret_tmp_row_tmp rfl rfl hTz rfl rfl size_item rfl ?_
  exact ErrOut.err (q := q1) E.out rfl hGz.below
 | ok x k1 m1 =>
  rw [hp] at hs;obtain ⟨ja, jb, jc, jd, H2, rfl, hGn, hi⟩ := hs;have HP := Hh hp;have HKL1 := Hh (prefix_spec hp);have HBL2 := Hh (HBL.out.mono hGn.le);replace nT := hGn.none nT hT.lt;replace hT := hT.below hGn.below;replace hG := hG.trans hGn;clear hp hGn;have hX0 := Blk.new w2 31 #[.int .i64 0, .int .u64 0, .slice none 0 0, .slice none 0 0];have nX := hG.holds.none_of_ge (Nat.le_refl w2.heap.size);have hTX := hT.lt;have hXw : w.heap.size ≤ w2.heap.size := hG.size;replace hG := hG.alloc zeroO;replace hT := hT.alloc zeroO;go_wp2_with (with_reducible refine stop_store ?_)
  refine stI hX0 fun v10 hX hg' => ?_
  replace hG := hG.grownOwn nX hXw hg';replace hT := hT.gr hg' (by omega);obtain ⟨X, hXX⟩ : ∃ X, w2.heap.size = X := ⟨_, rfl⟩
  rw [hXX] at hX nX hTX hXw ⊢;clear hXX hg' hX0;have b0 := hX.cell 0 rfl;have b1 := hX.cell 1 rfl;have b2 := hX.cell 2 rfl;have b3 := hX.cell 3 rfl;have NM0 := ref_number x.kind x.n ja x.bytes.length jb jc x.items.length jd v10 65535 (by omega);rw [← numE_K] at NM0;have NM := Hh (show Calls Tryz.prog 39 #[.agg #[.int .i64 x.kind, .int .u64 (x.n : Int), .slice ja x.bytes.length jb, .slice jc x.items.length jd], .int .u64 65535] v10 _ from NM0);clear NM0;go_wp2_with fail
  refine NM.out.mono ?_
  rintro e w3 ⟨rfl, hb⟩
  have hGn := Grows.of_below hG.holds hb;replace nT := hGn.none nT hT.lt;replace hT := hT.below hGn.below;replace nX := hGn.none nX hX.lt;replace hX := hX.below hGn.below;replace hG := hG.trans hGn;clear NM hb hGn b0 b1 b2 b3 hi
  cases hv : numE x 65535 with
  | none =>
   have E : Hid (decErr l = .error 4) := by rw [Hid]; exact decErr_form HLG.out HP.out (numEE_none hv)
   rw [numV];clear hv;go_wp2_with (with_reducible refine stop_store ?_)
   refine stI hT fun wz hTz hgz => ?_
   have hGz := hG.grownOwn nT hTw hgz;go_wp2_with fail
   refine ret_tmp_row_tmp rfl rfl hTz rfl rfl size_item rfl ?_
   exact ErrOut.err (q := 4) E.out rfl hGz.below
  | some v =>
   rw [numV];have HV := Hh hv;clear hv
   by_cases hv0 : v < 1
   ·have v0d : decide (v < 1) = true := decide_eq_true hv0;have E : Hid (decErr l = .error 4) := by rw [Hid]; exact decErr_form HLG.out HP.out (numEE_lt HV.out hv0)
    go_wp2_with (with_reducible refine stop_store ?_)
    refine stI hT fun wz hTz hgz => ?_
    have hGz := hG.grownOwn nT hTw hgz;go_wp2_with fail
    refine ret_tmp_row_tmp rfl rfl hTz rfl rfl size_item rfl ?_
    exact ErrOut.err (q := 4) E.out rfl hGz.below
   have v0d : decide (v < 1) = false := decide_eq_false hv0;have HV3 := Hh (numEE_ok HV.out hv0);obtain ⟨l1, hl1⟩ : ∃ l1, l.drop k1 = l1 := ⟨_, rfl⟩
   have HL1 : Hid (n - k1 = l1.length) := by rw [Hid, ← hl1, List.length_drop]; have := HN0.out; omega
   have E0 : Hid (decErr l = match decodeP l1 with | .error e => .error e | .ok y => .ok (v, y)) := by
    rw [Hid, decErr_go HLG.out HP.out (by have := HV3.out; omega), HV3.out.2.2.2, ← hl1]; cases decodeP (l.drop k1) <;> rfl
   have HK1 := Hh (show k1 ≤ n by have := HKL1.out.1; have := HN0.out.1; omega);have HDR0 := Hh (HBL2.out.drop k1 HKL1.out.1);rw [hl1] at HDR0;obtain ⟨b, off, rfl, _⟩ := HBL2.out.at_ (by have := HKL1.out.1; have := HKL1.out.2.2.1; omega);have s1 : (k1 : Int) ≤ (n : Int) := by have := HK1.out; omega
   have s2 : (n : Int) ≤ (c : Int) := by have := HN0.out; omega
   have s3 : (k1 : Int) ≤ (c : Int) := by omega
   have s4 : (0 : Int) ≤ (k1 : Int) := by omega
   clear hl1 hv0
   by_cases hck : c = k1
   ·have h := HDR0.out;rw [if_pos hck] at h;have HD := Hh h;have hckT : (c = k1) = True := eq_true hck;clear h;subst hck;have DC := Hh (ref_Decode (HTab.out.mono hG.le) w3 hG.holds HL1.out (by have h := HD.out; rw [Nat.sub_self] at h; exact h));clear hX nX;go_wp2_with fail
    refine DC.out.mono ?_
    intro e w4 hs
    unfold DecodeOut at hs
    clear DC
    cases hde : decodeP l1 with
    | error q2 =>
     rw [hde] at hs;obtain ⟨rfl, hb⟩ := hs;have E : Hid (decErr l = .error q2) := by rw [Hid, E0.out, hde]
     have HQ := Hh (decodeP_err0 hde);have hGn := Grows.of_below hG.holds hb;replace nT := hGn.none nT hT.lt;replace hT := hT.below hGn.below;replace hG := hG.trans hGn;clear hb hGn hde E0;have hX0 := Blk.new w4 31 #[.int .i64 0, .int .u64 0, .slice none 0 0, .slice none 0 0];have nY := hG.holds.none_of_ge (Nat.le_refl w4.heap.size);have hTY := hT.lt;have hYw : w.heap.size ≤ w4.heap.size := hG.size;replace hG := hG.alloc zeroO;replace hT := hT.alloc zeroO;go_wp2_with (with_reducible refine stop_store ?_)
     refine stI hX0 fun v11 hY hg' => ?_
     replace hG := hG.grownOwn nY hYw hg';replace hT := hT.gr hg' (by omega);obtain ⟨Y, hYY⟩ : ∃ Y, w4.heap.size = Y := ⟨_, rfl⟩
     rw [hYY] at hY nY hTY hYw ⊢;clear hYY hg' hX0;have yq : ((q2 : Int) != 0) = true := by rw [bne_iff_ne]; have := HQ.out; omega
     have yq' : ((q2 : Int) = 0) = False := eq_false (by have := HQ.out; omega);go_wp2_with (with_reducible refine stop_store ?_)
     refine stI hT fun wz hTz hgz => ?_
     have hGz := hG.grownOwn nT hTw hgz;go_wp2_with fail
     refine ret_tmp_row_tmp rfl rfl hTz rfl rfl size_item rfl ?_
     exact ErrOut.err (q := q2) E.out rfl hGz.below
    | ok y =>
     rw [hde] at hs;obtain ⟨ka, kb, kc, kd2, H4, rfl, hGn, hi4⟩ := hs;have E : Hid (decErr l = .ok (v, y)) := by rw [Hid, E0.out, hde]
     replace nT := hGn.none nT hT.lt;replace hT := hT.below hGn.below;replace hG := hG.trans hGn;clear hGn hde E0;have hX0 := Blk.new w4 31 #[.int .i64 0, .int .u64 0, .slice none 0 0, .slice none 0 0];have nY := hG.holds.none_of_ge (Nat.le_refl w4.heap.size);have hTY := hT.lt;have hYw : w.heap.size ≤ w4.heap.size := hG.size;replace hG := hG.alloc zeroO;replace hT := hT.alloc zeroO;go_wp2_with (with_reducible refine stop_store ?_)
     refine stI hX0 fun v12 hY hg' => ?_
     replace hG := hG.grownOwn nY hYw hg';replace hT := hT.gr hg' (by omega);obtain ⟨Y, hYY⟩ : ∃ Y, w4.heap.size = Y := ⟨_, rfl⟩
     rw [hYY] at hY nY hTY hYw ⊢;clear hYY hg' hX0;have y0 := hY.cell 0 rfl;have y1 := hY.cell 1 rfl;have y2 := hY.cell 2 rfl;have y3 := hY.cell 3 rfl;go_upto_region 12 with fail
     have hGq := hG.drew;have hTq := hT.drew;have hYq := hY.drew;have nTq := nT
     refine wp_region_ways 5 (fun w' => w'.cell? ⟨Y, 0, none⟩ = some (.int .i64 y.kind) ∧ w'.cell? ⟨Y, 1, none⟩ = some (.int .u64 y.n) ∧ w'.cell? ⟨Y, 2, none⟩ = some (.slice ka y.bytes.length kb) ∧ w'.cell? ⟨Y, 3, none⟩ = some (.slice kc y.items.length kd2)) (by kernel_rfl) (⟨y0, y1, y2, y3⟩) (fun hHeld => ?_)
     refine TkS 0 rfl hHeld ?_
     refine TkS 1 rfl hHeld ?_
     refine TkS 2 rfl hHeld ?_
     refine To 3 rfl fun K hK => ?_
     refine wp_store_item _ _ _ rfl _ _ rfl rfl _ _ hTq size_item rfl (one4 _ _ _ _ rfl rfl rfl rfl) fun wz hTz hgz => ?_
     have hGz := hGq.grownOwn nTq hTw hgz;have hYz := hYq.gr hgz (by omega);go_simp
     refine hK.out _ _ (fun _ => ?_) (fun hHeld => ?_)
     ·exact ⟨hYz.cell 0 rfl, hYz.cell 1 rfl, hYz.cell 2 rfl, hYz.cell 3 rfl⟩
     clear hK K;have hHeld := hHeld (by decide)
     try simp only [Act.put, zz1, zz2, zz3, zz4, zz5, zz6]
     refine TkS 4 rfl hHeld ?_
     refine Ways.done (by kernel_rfl) ?_
     go_wp2_with fail
     refine ret_tmp_row_tmp rfl rfl hTz rfl rfl size_item rfl ?_
     exact ErrOut.ok E.out rfl hGz hi4
   ·have h := HDR0.out;rw [if_neg hck, Option.map_some, addr_add] at h;have HD := Hh h;have hckF : (c = k1) = False := eq_false hck;clear h hck;have DC := Hh (ref_Decode (HTab.out.mono hG.le) w3 hG.holds HL1.out (HD.out));clear hX nX;go_wp2_with fail
    refine DC.out.mono ?_
    intro e w4 hs
    unfold DecodeOut at hs
    clear DC
    cases hde : decodeP l1 with
    | error q2 =>
     rw [hde] at hs;obtain ⟨rfl, hb⟩ := hs;have E : Hid (decErr l = .error q2) := by rw [Hid, E0.out, hde]
     have HQ := Hh (decodeP_err0 hde);have hGn := Grows.of_below hG.holds hb;replace nT := hGn.none nT hT.lt;replace hT := hT.below hGn.below;replace hG := hG.trans hGn;clear hb hGn hde E0;have hX0 := Blk.new w4 31 #[.int .i64 0, .int .u64 0, .slice none 0 0, .slice none 0 0];have nY := hG.holds.none_of_ge (Nat.le_refl w4.heap.size);have hTY := hT.lt;have hYw : w.heap.size ≤ w4.heap.size := hG.size;replace hG := hG.alloc zeroO;replace hT := hT.alloc zeroO;go_wp2_with (with_reducible refine stop_store ?_)
     refine stI hX0 fun v13 hY hg' => ?_
     replace hG := hG.grownOwn nY hYw hg';replace hT := hT.gr hg' (by omega);obtain ⟨Y, hYY⟩ : ∃ Y, w4.heap.size = Y := ⟨_, rfl⟩
     rw [hYY] at hY nY hTY hYw ⊢;clear hYY hg' hX0;have yq : ((q2 : Int) != 0) = true := by rw [bne_iff_ne]; have := HQ.out; omega
     have yq' : ((q2 : Int) = 0) = False := eq_false (by have := HQ.out; omega);go_wp2_with (with_reducible refine stop_store ?_)
     refine stI hT fun wz hTz hgz => ?_
     have hGz := hG.grownOwn nT hTw hgz;go_wp2_with fail
     refine ret_tmp_row_tmp rfl rfl hTz rfl rfl size_item rfl ?_
     exact ErrOut.err (q := q2) E.out rfl hGz.below
    | ok y =>
     rw [hde] at hs;obtain ⟨ka, kb, kc, kd2, H4, rfl, hGn, hi4⟩ := hs;have E : Hid (decErr l = .ok (v, y)) := by rw [Hid, E0.out, hde]
     replace nT := hGn.none nT hT.lt;replace hT := hT.below hGn.below;replace hG := hG.trans hGn;clear hGn hde E0;have hX0 := Blk.new w4 31 #[.int .i64 0, .int .u64 0, .slice none 0 0, .slice none 0 0];have nY := hG.holds.none_of_ge (Nat.le_refl w4.heap.size);have hTY := hT.lt;have hYw : w.heap.size ≤ w4.heap.size := hG.size;replace hG := hG.alloc zeroO;replace hT := hT.alloc zeroO;go_wp2_with (with_reducible refine stop_store ?_)
     refine stI hX0 fun v14 hY hg' => ?_
     replace hG := hG.grownOwn nY hYw hg';replace hT := hT.gr hg' (by omega);obtain ⟨Y, hYY⟩ : ∃ Y, w4.heap.size = Y := ⟨_, rfl⟩
     rw [hYY] at hY nY hTY hYw ⊢;clear hYY hg' hX0;have y0 := hY.cell 0 rfl;have y1 := hY.cell 1 rfl;have y2 := hY.cell 2 rfl;have y3 := hY.cell 3 rfl;go_upto_region 12 with fail
     have hGq := hG.drew;have hTq := hT.drew;have hYq := hY.drew;have nTq := nT
     refine wp_region_ways 5 (fun w' => w'.cell? ⟨Y, 0, none⟩ = some (.int .i64 y.kind) ∧ w'.cell? ⟨Y, 1, none⟩ = some (.int .u64 y.n) ∧ w'.cell? ⟨Y, 2, none⟩ = some (.slice ka y.bytes.length kb) ∧ w'.cell? ⟨Y, 3, none⟩ = some (.slice kc y.items.length kd2)) (by kernel_rfl) (⟨y0, y1, y2, y3⟩) (fun hHeld => ?_)
     refine TkS 0 rfl hHeld ?_
     refine TkS 1 rfl hHeld ?_
     refine TkS 2 rfl hHeld ?_
     refine To 3 rfl fun K hK => ?_
     refine wp_store_item _ _ _ rfl _ _ rfl rfl _ _ hTq size_item rfl (one4 _ _ _ _ rfl rfl rfl rfl) fun wz hTz hgz => ?_
     have hGz := hGq.grownOwn nTq hTw hgz;have hYz := hYq.gr hgz (by omega);go_simp
     refine hK.out _ _ (fun _ => ?_) (fun hHeld => ?_)
     ·exact ⟨hYz.cell 0 rfl, hYz.cell 1 rfl, hYz.cell 2 rfl, hYz.cell 3 rfl⟩
     clear hK K;have hHeld := hHeld (by decide)
     try simp only [Act.put, zz1, zz2, zz3, zz4, zz5, zz6]
     refine TkS 4 rfl hHeld ?_
     refine Ways.done (by kernel_rfl) ?_
     go_wp2_with fail
     refine ret_tmp_row_tmp rfl rfl hTz rfl rfl size_item rfl ?_
     exact ErrOut.ok E.out rfl hGz hi4
end Go.Proofs.YtlebpackbfcfeaaGreatDoor
