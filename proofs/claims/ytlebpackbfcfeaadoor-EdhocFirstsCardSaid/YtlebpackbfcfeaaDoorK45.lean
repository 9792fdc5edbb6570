/- squeezed. Walks: reading the first message ( -/
import Derived.Test.YtlebpackbfcfeaaDoorK41
import Derived.Test.YtlebpackbfcfeaaDoorK44
set_option linter.unusedVariables false
set_option linter.unusedSimpArgs false
set_option maxRecDepth 100000
set_option maxHeartbeats 25600000
namespace Go.Proofs.YtlebpackbfcfeaaDoor
open Go.RowKit
theorem numE3_none {x : Itm} (h : numE x 3 = none) : x.kind ≠ 0 ∨ 3 < x.n := by
 rcases Classical.em (x.kind = 0 ∧ x.n ≤ 3) with h2 | h2
 ·rw [numE, if_pos h2] at h; cases h
 ·omega
theorem numE3_neg {x : Itm} {v : Int} (h : numE x 3 = some v) (hv : v < 0) : x.kind ≠ 0 := by
 unfold numE at h
 split at h
 ·injection h with h; omega
 ·split at h
  ·rename_i h2; have := h2.1; omega
  ·cases h
theorem numE3_pos {x : Itm} {v : Int} (h : numE x 3 = some v) (hv : ¬ v < 0) : x.kind = 0 ∧ x.n ≤ 3 ∧ v = (x.n : Int) := by
 unfold numE at h
 split at h
 ·rename_i h2; injection h with h; exact ⟨h2.1, h2.2, h.symm⟩
 ·split at h
  ·injection h with h; omega
  ·cases h
theorem ref_DecodeExt' {H : Snap} (hTab : Tabs H) (w : World) (hH : Holds w H) {A : Option Addr} {n c : Nat} {l : List UInt8} (hn : n = l.length) (hl : IsBytes H A c l) :
  Calls Tryd.prog 14 #[.slice A n c] w (ExtsOut w H (decExt l)) := by
 subst hn; exact ref_DecodeExt hTab w hH hl
theorem ref_DecodeFirst {H : Snap} (hTab : Tabs H) (w : World) (hH : Holds w H) {A : Option Addr} {n c : Nat} {l : List UInt8} (hn : n = l.length) (hl : IsBytes H A c l) :
  Calls Tryd.prog 27 #[.slice A n c] w (FirstOut w H (decFirst l)) := by
 by_cases hlong : 600 < n
 ·have z : (600 : Int) < (n : Int) := by omega
  have zd : decide ((600 : Int) < (n : Int)) = true := decide_eq_true z
  have E : Hid (decFirst l = .error 8) := by rw [Hid]; exact decFirst_long (by rw [← hn]; exact hlong)
  have hT := Blk.new w 44 #[.int .i64 0, .slice none 0 0, .slice none 0 0, .slice none 0 0, .slice none 0 0]
  have nT : H w.heap.size = none := hH.none_of_ge (Nat.le_refl _)
  have hG := (Grows.refl hH).alloc zeroFO
  clear hlong hn
  go_enter Tryd.func27, Tryd.ntmps27
  go_wp2_with (with_reducible refine stop_store ?_)
  unfold Stopped
  refine wpList_store_item rfl _ _ _ rfl rfl _ _ rfl rfl _ _ hT size_first rfl (one5 _ _ _ _ _ rfl rfl rfl rfl rfl) fun wz hTz hgz => ?_
  have hGz := hG.grownOwn nT (Nat.le_refl _) hgz
  go_wp2_with fail
  refine ret_row_tmp rfl rfl hTz rfl rfl size_first rfl ?_
  exact FirstOut.err (q := 8) E.out rfl hGz.below
 have z : ¬ ((600 : Int) < (n : Int)) := by omega
 have zd : decide ((600 : Int) < (n : Int)) = false := decide_eq_false z
 have HLG := Hh (show ¬ 600 < l.length by omega)
 have HN0 := Hh (show n = l.length ∧ n ≤ 600 ∧ n ≤ c from ⟨hn, by omega, by have := hl.le; omega⟩)
 have nT : H w.heap.size = none := hH.none_of_ge (Nat.le_refl _)
 have nF : H (w.heap.size + 1) = none := hH.none_of_ge (Nat.le_succ _)
 have hG := ((Grows.refl hH).alloc zeroFO).alloc zeroFO
 have hT' := (Blk.new w 44 #[.int .i64 0, .slice none 0 0, .slice none 0 0, .slice none 0 0, .slice none 0 0]).alloc zeroFO
 have hF' := Blk.new (w.alloc zeroFO) 44 #[.int .i64 0, .slice none 0 0, .slice none 0 0, .slice none 0 0, .slice none 0 0]
 rw [show (w.alloc zeroFO).heap.size = w.heap.size + 1 by simp] at hF'
 have hT : Blk ((w.alloc zeroFO).alloc zeroFO) w.heap.size 44 #[.int .i64 0, .slice none 0 0, .slice none 0 0, .slice none 0 0, .slice none 0 0] := hT'
 have hF : Blk ((w.alloc zeroFO).alloc zeroFO) (w.heap.size + 1) 44 #[.int .i64 0, .slice none 0 0, .slice none 0 0, .slice none 0 0, .slice none 0 0] := hF'
 clear hlong z hT' hF' hn
 go_enter Tryd.func27, Tryd.ntmps27
 go_upto_region 4 with fail
 generalize (w.alloc zeroFO).alloc zeroFO = w1 at hG hT hF ⊢
 obtain ⟨T, hTT⟩ : ∃ T, w.heap.size = T := ⟨_, rfl⟩
 obtain ⟨F, hFF⟩ : ∃ F, T + 1 = F := ⟨_, rfl⟩
 have hTw : w.heap.size ≤ T := Nat.le_of_eq hTT
 have hFw : w.heap.size ≤ F := by omega
 have hTF : T < F := by omega
 rw [hTT] at nT nF hT hF
 rw [hFF] at nF hF
 rw [hTT, hFF]
 clear hTT hFF
 have PF := Hh (ref_Prefix hTab w1 hG.holds HN0.out.1 hl)
 have HBL := Hh hl
 clear hl hH
 go_wp2_with fail
 refine PF.out.mono ?_
 intro e w2 hs
 unfold PrefixOut at hs
 clear PF
 cases hp : prefixP l with
 | err q1 =>
  rw [hp] at hs
  obtain ⟨rfl, hb⟩ := hs
  have E : Hid (decFirst l = .error q1) := by rw [Hid]; exact decFirst_err HLG.out hp
  have HQ := Hh (parse_err _ _ _ _ hp)
  have hGn := Grows.of_below hG.holds hb
  replace nT := hGn.none nT hT.lt
  replace nF := hGn.none nF hF.lt
  replace hT := hT.below hGn.below
  replace hF := hF.below hGn.below
  replace hG := hG.trans hGn
  clear hp hb hGn
  have hX0 := Blk.new w2 69 #[.int .i64 0, .int .u64 0, .slice none 0 0, .slice none 0 0]
  have nX := hG.holds.none_of_ge (Nat.le_refl w2.heap.size)
  have hFX := hF.lt
  have hXw : w.heap.size ≤ w2.heap.size := hG.size
  replace hG := hG.alloc zeroO
  replace hT := hT.alloc zeroO
  replace hF := hF.alloc zeroO
  go_wp2_with (with_reducible refine stop_store ?_)
  unfold Stopped
  refine stI rfl rfl rfl rfl rfl hX0 rfl rfl rfl rfl rfl fun v1 hX hg' => ?_
  replace hG := hG.grownOwn nX hXw hg'
  replace hT := hT.gr hg' (by omega)
  replace hF := hF.gr hg' (by omega)
  obtain ⟨X, hXX⟩ : ∃ X, w2.heap.size = X := ⟨_, rfl⟩
  rw [hXX] at hX nX hFX hXw ⊢
  clear hXX hg' hX0
  have hq0 : ((q1 : Int) != 0) = true := by rw [bne_iff_ne]; have := HQ.out; omega
  have hq0' : ((q1 : Int) = 0) = False := eq_false (by have := HQ.out; omega)
  go_wp2_with (with_reducible refine stop_store ?_)
  unfold Stopped
  refine wpList_store_item rfl _ _ _ rfl rfl _ _ rfl rfl _ _ hT size_first rfl (one5 _ _ _ _ _ rfl rfl rfl rfl rfl) fun wz hTz hgz => ?_
  have hGz := hG.grownOwn nT hTw hgz
  go_wp2_with fail
  refine ret_row_tmp rfl rfl hTz rfl rfl size_first rfl ?_
  exact FirstOut.err (q := q1) E.out rfl hGz.below
 | ok x k1 m1 =>
  rw [hp] at hs
  obtain ⟨ja, jb, jc, jd, H2, rfl, hGn, hi⟩ := hs
  have HP := Hh hp
  have HKL1 := Hh (prefix_spec hp)
  have HBL2 := Hh (HBL.out.mono hGn.le)
  replace nT := hGn.none nT hT.lt
  replace nF := hGn.none nF hF.lt
  replace hT := hT.below hGn.below
  replace hF := hF.below hGn.below
  replace hG := hG.trans hGn
  clear hp hGn
  have hX0 := Blk.new w2 69 #[.int .i64 0, .int .u64 0, .slice none 0 0, .slice none 0 0]
  have nX := hG.holds.none_of_ge (Nat.le_refl w2.heap.size)
  have hFX := hF.lt
  have hXw : w.heap.size ≤ w2.heap.size := hG.size
  replace hG := hG.alloc zeroO
  replace hT := hT.alloc zeroO
  replace hF := hF.alloc zeroO
  go_wp2_with (with_reducible refine stop_store ?_)
  unfold Stopped
  refine stI rfl rfl rfl rfl rfl hX0 rfl rfl rfl rfl rfl fun v2 hX hg' => ?_
  replace hG := hG.grownOwn nX hXw hg'
  replace hT := hT.gr hg' (by omega)
  replace hF := hF.gr hg' (by omega)
  obtain ⟨X, hXX⟩ : ∃ X, w2.heap.size = X := ⟨_, rfl⟩
  rw [hXX] at hX nX hFX hXw ⊢
  clear hXX hg' hX0
  have b0 := hX.cell 0 rfl
  have b1 := hX.cell 1 rfl
  have b2 := hX.cell 2 rfl
  have b3 := hX.cell 3 rfl
  have NM0 := ref_number x.kind x.n ja x.bytes.length jb jc x.items.length jd v2 3 (by omega)
  rw [← numE_K] at NM0
  have NM := Hh (show Calls Tryd.prog 42 #[.agg #[.int .i64 x.kind, .int .u64 (x.n : Int), .slice ja x.bytes.length jb, .slice jc x.items.length jd], .int .u64 3] v2 _ from NM0)
  clear NM0
  go_wp2_with fail
  refine NM.out.mono ?_
  rintro e w3 ⟨rfl, hb⟩
  have hGn := Grows.of_below hG.holds hb
  replace nT := hGn.none nT hT.lt
  replace nF := hGn.none nF hF.lt
  replace nX := hGn.none nX hX.lt
  replace hT := hT.below hGn.below
  replace hF := hF.below hGn.below
  replace hX := hX.below hGn.below
  replace hG := hG.trans hGn
  clear NM hb hGn b0 b1 b2 b3
  cases hv : numE x 3 with
  | none =>
   have E : Hid (decFirst l = .error 4) := by rw [Hid]; exact decFirst_form HLG.out HP.out (numE3_none hv)
   rw [numV]
   clear hv
   go_wp2_with (with_reducible refine stop_store ?_)
   unfold Stopped
   refine wpList_store_item rfl _ _ _ rfl rfl _ _ rfl rfl _ _ hT size_first rfl (one5 _ _ _ _ _ rfl rfl rfl rfl rfl) fun wz hTz hgz => ?_
   have hGz := hG.grownOwn nT hTw hgz
   go_wp2_with fail
   refine ret_row_tmp rfl rfl hTz rfl rfl size_first rfl ?_
   exact FirstOut.err (q := 4) E.out rfl hGz.below
  | some v =>
   rw [numV]
   have HV := Hh hv
   clear hv
   by_cases hv0 : v < 0
   ·have v0d : decide (v < 0) = true := decide_eq_true hv0
    have E : Hid (decFirst l = .error 4) := by rw [Hid]; exact decFirst_form HLG.out HP.out (.inl (numE3_neg HV.out hv0))
    go_wp2_with (with_reducible refine stop_store ?_)
    unfold Stopped
    refine wpList_store_item rfl _ _ _ rfl rfl _ _ rfl rfl _ _ hT size_first rfl (one5 _ _ _ _ _ rfl rfl rfl rfl rfl) fun wz hTz hgz => ?_
    have hGz := hG.grownOwn nT hTw hgz
    go_wp2_with fail
    refine ret_row_tmp rfl rfl hTz rfl rfl size_first rfl ?_
    exact FirstOut.err (q := 4) E.out rfl hGz.below
   have v0d : decide (v < 0) = false := decide_eq_false hv0
   have HV3 := Hh (numE3_pos HV.out hv0)
   obtain ⟨l1, hl1⟩ : ∃ l1, l.drop k1 = l1 := ⟨_, rfl⟩
   have HL1 : Hid (n - k1 = l1.length ∧ l1.length ≤ 600) := by rw [Hid, ← hl1, List.length_drop]; have := HN0.out; omega
   have E0 : Hid (decFirst l = d1 v l1) := by
    rw [Hid, decFirst_go HLG.out HP.out (by have := HV3.out; omega), HV3.out.2.2, ← hl1]
   have HK1 := Hh (show k1 ≤ n by have := HKL1.out.1; have := HN0.out.1; omega)
   have HLN1 := Hh HL1.out.1
   have HCL1 := Hh HN0.out.2.2
   obtain ⟨b, off, rfl, _⟩ := HBL2.out.at_ (by have := HKL1.out.1; have := HKL1.out.2.2.1; omega)
   have HDR0 := Hh (HBL2.out.drop k1 HKL1.out.1)
   rw [hl1] at HDR0
   clear hl1 hv0
   go_upto_region 10 with fail
   go_cut [0] (fun s0 wx => ∃ SA SC SN, s0 = .slice SA SN SC ∧ SN = l1.length ∧ IsBytes H2 SA SC l1 ∧ Grows w H wx H2 ∧ Blk wx T 44 #[.int .i64 0, .slice none 0 0, .slice none 0 0, .slice none 0 0, .slice none 0 0] ∧ Blk wx F 44 #[.int .i64 v, .slice none 0 0, .slice none 0 0, .slice none 0 0, .slice none 0 0] ∧ Blk wx X 69 #[.int .i64 x.kind, .int .u64 x.n, .slice ja x.bytes.length jb, .slice jc x.items.length jd])
   case first =>
    replace hG := hG.drew
    replace hT := hT.drew
    replace hF := hF.drew
    replace hX := hX.drew
    have s1 : (k1 : Int) ≤ (n : Int) := by have := HK1.out; omega
    have s2 : (n : Int) ≤ (c : Int) := by have := HCL1.out; omega
    have s3 : (k1 : Int) ≤ (c : Int) := by omega
    have s4 : (0 : Int) ≤ (k1 : Int) := by omega
    by_cases hck : c = k1
    ·have h := HDR0.out
     rw [if_pos hck] at h
     have HD := Hh h
     have hckT : (c = k1) = True := eq_true hck
     clear h
     subst hck
     refine wp_region_ways 5 (fun _ => True) (by kernel_rfl) (trivial) (fun hHeld => ?_)
     refine TkT 0 (v := ?_) rfl ?_ ?_
     rotate_left
     ·intro w s; go_simp; try with_reducible rfl
     try simp only [Act.put, zz1, zz2, zz3, zz4, zz5, zz6]
     refine TkT 1 (v := ?_) rfl ?_ ?_
     rotate_left
     ·intro w s; go_simp; try with_reducible rfl
     try simp only [Act.put, zz1, zz2, zz3, zz4, zz5, zz6]
     refine TkT 2 (v := ?_) rfl ?_ ?_
     rotate_left
     ·intro w s; go_simp; try with_reducible rfl
     try simp only [Act.put, zz1, zz2, zz3, zz4, zz5, zz6]
     refine TkT 3 (v := ?_) rfl ?_ ?_
     rotate_left
     ·intro w s; go_simp; try with_reducible rfl
     try simp only [Act.put, zz1, zz2, zz3, zz4, zz5, zz6]
     refine TkT 4 (v := ?_) rfl ?_ ?_
     rotate_left
     ·intro w s; go_simp; try with_reducible rfl
     try simp only [Act.put, zz1, zz2, zz3, zz4, zz5, zz6]
     refine To 5 rfl fun K hK => ?_
     refine wp_store_cell _ _ _ rfl F 0 (.int .i64 v) rfl rfl _ _ hF size_int1 (by simp) rfl fun wz hF' hg' => ?_
     have hG' := hG.grownOwn nF hFw hg'
     have hT' := hT.gr hg' (by omega)
     have hX' := hX.gr hg' (by omega)
     have hF2 : Blk wz F 44 #[.int .i64 v, .slice none 0 0, .slice none 0 0, .slice none 0 0, .slice none 0 0] := hF'
     go_simp
     refine hK.out _ _ (fun h => absurd rfl h) (fun _ => ?_)
     clear hK K
     try simp only [Act.put, zz1, zz2, zz3, zz4, zz5, zz6]
     refine TkT 6 (v := ?_) rfl ?_ ?_
     rotate_left
     ·intro w s; go_simp; try with_reducible rfl
     try simp only [Act.put, zz1, zz2, zz3, zz4, zz5, zz6]
     refine Ways.done (by kernel_rfl) ?_
     go_wp2_with fail
     go_meet
     exact ⟨_, _, _, rfl, HLN1.out, by have h := HD.out; rw [Nat.sub_self] at h; exact h, hG', hT', hF2, hX'⟩
    ·have h := HDR0.out
     rw [if_neg hck, Option.map_some, addr_add] at h
     have HD := Hh h
     have hckF : (c = k1) = False := eq_false hck
     clear h hck
     refine wp_region_ways 5 (fun _ => True) (by kernel_rfl) (trivial) (fun hHeld => ?_)
     refine TkT 0 (v := ?_) rfl ?_ ?_
     rotate_left
     ·intro w s; go_simp; try with_reducible rfl
     try simp only [Act.put, zz1, zz2, zz3, zz4, zz5, zz6]
     refine TkT 1 (v := ?_) rfl ?_ ?_
     rotate_left
     ·intro w s; go_simp; try with_reducible rfl
     try simp only [Act.put, zz1, zz2, zz3, zz4, zz5, zz6]
     refine TkT 2 (v := ?_) rfl ?_ ?_
     rotate_left
     ·intro w s; go_simp; try with_reducible rfl
     try simp only [Act.put, zz1, zz2, zz3, zz4, zz5, zz6]
     refine TkT 3 (v := ?_) rfl ?_ ?_
     rotate_left
     ·intro w s; go_simp; try with_reducible rfl
     try simp only [Act.put, zz1, zz2, zz3, zz4, zz5, zz6]
     refine TkT 4 (v := ?_) rfl ?_ ?_
     rotate_left
     ·intro w s; go_simp; try with_reducible rfl
     try simp only [Act.put, zz1, zz2, zz3, zz4, zz5, zz6]
     refine To 5 rfl fun K hK => ?_
     refine wp_store_cell _ _ _ rfl F 0 (.int .i64 v) rfl rfl _ _ hF size_int1 (by simp) rfl fun wz hF' hg' => ?_
     have hG' := hG.grownOwn nF hFw hg'
     have hT' := hT.gr hg' (by omega)
     have hX' := hX.gr hg' (by omega)
     have hF2 : Blk wz F 44 #[.int .i64 v, .slice none 0 0, .slice none 0 0, .slice none 0 0, .slice none 0 0] := hF'
     go_simp
     refine hK.out _ _ (fun h => absurd rfl h) (fun _ => ?_)
     clear hK K
     try simp only [Act.put, zz1, zz2, zz3, zz4, zz5, zz6]
     refine TkT 6 (v := ?_) rfl ?_ ?_
     rotate_left
     ·intro w s; go_simp; try with_reducible rfl
     try simp only [Act.put, zz1, zz2, zz3, zz4, zz5, zz6]
     refine Ways.done (by kernel_rfl) ?_
     go_wp2_with fail
     go_meet
     exact ⟨_, _, _, rfl, HLN1.out, HD.out, hG', hT', hF2, hX'⟩
   case rest =>
    clear hG hT hF hX
    obtain ⟨SA, SC, SN, rfl, hsn, hsb, hG, hT, hF, hX⟩ := hcut
    have HSN := Hh hsn
    clear hsn
    have HSB := Hh hsb
    have PF := Hh (ref_Prefix (hTab.mono hG.le) wc hG.holds HSN.out hsb)
    clear hsb HDR0 HLN1 HCL1
    go_wp2_with fail
    refine PF.out.mono ?_
    intro e w4 hs
    unfold PrefixOut at hs
    clear PF
    cases hp : prefixP l1 with
    | err q2 =>
     rw [hp] at hs
     obtain ⟨rfl, hb⟩ := hs
     have E : Hid (decFirst l = .error q2) := by rw [Hid, E0.out, d1, hp]
     have HQ := Hh (parse_err _ _ _ _ hp)
     have hGn := Grows.of_below hG.holds hb
     replace nT := hGn.none nT hT.lt
     replace nF := hGn.none nF hF.lt
     replace nX := hGn.none nX hX.lt
     replace hT := hT.below hGn.below
     replace hF := hF.below hGn.below
     replace hX := hX.below hGn.below
     replace hG := hG.trans hGn
     clear hp hb hGn
     go_wp2_with (with_reducible refine stop_store ?_)
     unfold Stopped
     refine stI rfl rfl rfl rfl rfl hX rfl rfl rfl rfl rfl fun v3 hX' hg' => ?_
     replace hG := hG.grownOwn nX hXw hg'
     replace hT := hT.gr hg' (by omega)
     replace hF := hF.gr hg' (by omega)
     replace hX := hX'
     clear hX' hg'
     have hq0 : ((q2 : Int) != 0) = true := by rw [bne_iff_ne]; have := HQ.out; omega
     have hq0' : ((q2 : Int) = 0) = False := eq_false (by have := HQ.out; omega)
     go_wp2_with (with_reducible refine stop_store ?_)
     unfold Stopped
     refine wpList_store_item rfl _ _ _ rfl rfl _ _ rfl rfl _ _ hT size_first rfl (one5 _ _ _ _ _ rfl rfl rfl rfl rfl) fun wz hTz hgz => ?_
     have hGz := hG.grownOwn nT hTw hgz
     go_wp2_with fail
     refine ret_row_tmp rfl rfl hTz rfl rfl size_first rfl ?_
     exact FirstOut.err (q := q2) E.out rfl hGz.below
    | ok y k2 m2 =>
     rw [hp] at hs
     obtain ⟨ka, kb, kc, kd2, H3, rfl, hGn, hi3⟩ := hs
     have HP2 := Hh hp
     have HKL2 := Hh (prefix_spec hp)
     have HML := Hh (show y.items.length ≤ 4096 by have h1 := (prefix_spec hp).2.2.2.2.2.2; have := items_cnt y; omega)
     have HSB3 := Hh (HSB.out.mono hGn.le)
     replace nT := hGn.none nT hT.lt
     replace nF := hGn.none nF hF.lt
     replace nX := hGn.none nX hX.lt
     replace hT := hT.below hGn.below
     replace hF := hF.below hGn.below
     replace hX := hX.below hGn.below
     replace hG := hG.trans hGn
     clear hp hGn HSB
     go_wp2_with (with_reducible refine stop_store ?_)
     unfold Stopped
     refine stI rfl rfl rfl rfl rfl hX rfl rfl rfl rfl rfl fun v4 hX' hg' => ?_
     replace hG := hG.grownOwn nX hXw hg'
     replace hT := hT.gr hg' (by omega)
     replace hF := hF.gr hg' (by omega)
     replace hX := hX'
     clear hX' hg'
     have b0 := hX.cell 0 rfl
     have b1 := hX.cell 1 rfl
     have b2 := hX.cell 2 rfl
     have b3 := hX.cell 3 rfl
     have SU := Hh (fun (W : World) (hW : Holds W H3) => r_list W hW hi3 HML.out)
     obtain ⟨l2, hl2⟩ : ∃ l2, l1.drop k2 = l2 := ⟨_, rfl⟩
     have HL2 : Hid (SN - k2 = l2.length ∧ l2.length ≤ 600) := by rw [Hid, ← hl2, List.length_drop]; have := HL1.out; have := HSN.out; omega
     have E1 : Hid (decFirst l = match suitesE y with | .error e => .error e | .ok su => d2 v su l2) := by rw [Hid, E0.out, d1, HP2.out, ← hl2]; simp only; cases suitesE y <;> rfl
     have HDR2 := Hh (HSB3.out.drop k2 HKL2.out.1)
     rw [hl2] at HDR2
     clear hl2 E0
     go_wp2_with fail
     refine (SU.out _ hG.holds).mono ?_
     intro e w5 hs
     unfold IntsOut at hs
     clear SU b0 b1 b2 b3
     cases hsu : suitesE y with
     | error q3 =>
      rw [hsu] at hs
      obtain ⟨rfl, hb⟩ := hs
      have E : Hid (decFirst l = .error q3) := by rw [Hid, E1.out, hsu]
      have HQ := Hh (suitesE_err hsu)
      have hGn := Grows.of_below hG.holds hb
      replace nT := hGn.none nT hT.lt
      replace nF := hGn.none nF hF.lt
      replace nX := hGn.none nX hX.lt
      replace hT := hT.below hGn.below
      replace hF := hF.below hGn.below
      replace hX := hX.below hGn.below
      replace hG := hG.trans hGn
      clear hsu hb hGn E1
      go_wp2_with (with_reducible refine stop_store ?_)
      unfold Stopped
      refine wpList_store_cell rfl _ _ _ rfl rfl F 1 (.slice none 0 0) rfl rfl _ _ hF size_ints (by simp) rfl fun v5 hF' hg' => ?_
      replace hG := hG.grownOwn nF hFw hg'
      replace hT := hT.gr hg' (by omega)
      replace hX := hX.gr hg' (by omega)
      replace hF : Blk v5 F 44 #[.int .i64 v, .slice none 0 0, .slice none 0 0, .slice none 0 0, .slice none 0 0] := hF'
      clear hF' hg'
      have hq0 : ((q3 : Int) != 0) = true := by rw [bne_iff_ne]; have := HQ.out; omega
      have hq0' : ((q3 : Int) = 0) = False := eq_false (by have := HQ.out; omega)
      go_wp2_with (with_reducible refine stop_store ?_)
      unfold Stopped
      refine wpList_store_item rfl _ _ _ rfl rfl _ _ rfl rfl _ _ hT size_first rfl (one5 _ _ _ _ _ rfl rfl rfl rfl rfl) fun wz hTz hgz => ?_
      have hGz := hG.grownOwn nT hTw hgz
      go_wp2_with fail
      refine ret_row_tmp rfl rfl hTz rfl rfl size_first rfl ?_
      exact FirstOut.err (q := q3) E.out rfl hGz.below
     | ok su =>
      rw [hsu] at hs
      obtain ⟨LA, lc, H4, rfl, hGn, hsr⟩ := hs
      have E2 : Hid (decFirst l = d2 v su l2) := by rw [Hid, E1.out, hsu]
      have HSB4 := Hh (HSB3.out.mono hGn.le)
      obtain ⟨b2_, off2, rfl, _⟩ := HSB3.out.at_ (by have := HKL2.out.1; have := HKL2.out.2.2.1; omega)
      have HDR4 := Hh (show IsBytes H4 _ _ _ from HDR2.out.mono hGn.le)
      have HK2 := Hh (show k2 ≤ SN by have := HKL2.out.1; have := HSN.out; omega)
      have HC2 := Hh (show SN ≤ SC by have := HSB3.out.le; have := HSN.out; omega)
      have HLN2 := Hh HL2.out.1
      replace nT := hGn.none nT hT.lt
      replace nF := hGn.none nF hF.lt
      replace nX := hGn.none nX hX.lt
      replace hT := hT.below hGn.below
      replace hF := hF.below hGn.below
      replace hX := hX.below hGn.below
      replace hG := hG.trans hGn
      clear hsu hGn E1 HSB3 HDR2
      go_wp2_with (with_reducible refine stop_store ?_)
      unfold Stopped
      refine wpList_store_cell rfl _ _ _ rfl rfl F 1 (.slice LA su.length lc) rfl rfl _ _ hF size_ints (by simp) rfl fun v6 hF' hg' => ?_
      replace hG := hG.grownOwn nF hFw hg'
      replace hT := hT.gr hg' (by omega)
      replace hX := hX.gr hg' (by omega)
      replace hF : Blk v6 F 44 #[.int .i64 v, .slice LA su.length lc, .slice none 0 0, .slice none 0 0, .slice none 0 0] := hF'
      clear hF' hg'
      have hz0 : ((0 : Int) != 0) = false := rfl
      go_upto_region 17 with fail
      go_cut [0] (fun s0 wx => ∃ SA SC SN, s0 = .slice SA SN SC ∧ SN = l2.length ∧ IsBytes H4 SA SC l2 ∧ v6 = wx)
      case first =>
       have s1 : (k2 : Int) ≤ (SN : Int) := by have := HK2.out; omega
       have s2 : (SN : Int) ≤ (SC : Int) := by have := HC2.out; omega
       have s3 : (k2 : Int) ≤ (SC : Int) := by omega
       have s4 : (0 : Int) ≤ (k2 : Int) := by omega
       by_cases hck : SC = k2
       ·have h := HDR4.out
        rw [if_pos hck] at h
        have HD := Hh h
        have hckT : (SC = k2) = True := eq_true hck
        clear h
        subst hck
        go_wp2_with fail
        go_meet
        exact ⟨_, _, _, rfl, HLN2.out, by have h := HD.out; rw [Nat.sub_self] at h; exact h, rfl⟩
       ·have h := HDR4.out
        rw [if_neg hck, Option.map_some, addr_add] at h
        have HD := Hh h
        have hckF : (SC = k2) = False := eq_false hck
        clear h hck
        go_wp2_with fail
        go_meet
        exact ⟨_, _, _, rfl, HLN2.out, HD.out, rfl⟩
      case rest =>
       obtain ⟨SA, SC, SN, rfl, hsn, hsb, hwc⟩ := hcut
       subst hwc
       have HSN := Hh hsn
       clear hsn
       have HSB5 := Hh hsb
       have PF := Hh (ref_Prefix (hTab.mono hG.le) v6 hG.holds HSN.out hsb)
       clear hsb HDR4 HLN2 HC2 HSB4
       go_wp2_with fail
       refine PF.out.mono ?_
       intro e w6 hs
       unfold PrefixOut at hs
       clear PF
       cases hp : prefixP l2 with
       | err q4 =>
        rw [hp] at hs
        obtain ⟨rfl, hb⟩ := hs
        have E : Hid (decFirst l = .error q4) := by rw [Hid, E2.out, d2, bytesE, hp]
        have HQ := Hh (parse_err _ _ _ _ hp)
        have hGn := Grows.of_below hG.holds hb
        replace nT := hGn.none nT hT.lt
        replace nF := hGn.none nF hF.lt
        replace nX := hGn.none nX hX.lt
        replace hT := hT.below hGn.below
        replace hF := hF.below hGn.below
        replace hX := hX.below hGn.below
        replace hG := hG.trans hGn
        clear hp hb hGn
        go_wp2_with (with_reducible refine stop_store ?_)
        unfold Stopped
        refine stI rfl rfl rfl rfl rfl hX rfl rfl rfl rfl rfl fun v7 hX' hg' => ?_
        replace hG := hG.grownOwn nX hXw hg'
        replace hT := hT.gr hg' (by omega)
        replace hF := hF.gr hg' (by omega)
        replace hX := hX'
        clear hX' hg'
        have hq0 : ((q4 : Int) != 0) = true := by rw [bne_iff_ne]; have := HQ.out; omega
        have hq0' : ((q4 : Int) = 0) = False := eq_false (by have := HQ.out; omega)
        go_wp2_with (with_reducible refine stop_store ?_)
        unfold Stopped
        refine wpList_store_item rfl _ _ _ rfl rfl _ _ rfl rfl _ _ hT size_first rfl (one5 _ _ _ _ _ rfl rfl rfl rfl rfl) fun wz hTz hgz => ?_
        have hGz := hG.grownOwn nT hTw hgz
        go_wp2_with fail
        refine ret_row_tmp rfl rfl hTz rfl rfl size_first rfl ?_
        exact FirstOut.err (q := q4) E.out rfl hGz.below
       | ok z k3 m3 =>
        rw [hp] at hs
        obtain ⟨na, nb, nc, nd, H6, rfl, hGn, hi6⟩ := hs
        have HP3 := Hh hp
        have HKL3 := Hh (prefix_spec hp)
        have HSB6 := Hh (HSB5.out.mono hGn.le)
        have HSR6 := Hh (hsr.mono hGn.le)
        replace nT := hGn.none nT hT.lt
        replace nF := hGn.none nF hF.lt
        replace nX := hGn.none nX hX.lt
        replace hT := hT.below hGn.below
        replace hF := hF.below hGn.below
        replace hX := hX.below hGn.below
        replace hG := hG.trans hGn
        clear hp hGn HSB5 hsr
        go_wp2_with (with_reducible refine stop_store ?_)
        unfold Stopped
        refine stI rfl rfl rfl rfl rfl hX rfl rfl rfl rfl rfl fun v8 hX' hg' => ?_
        replace hG := hG.grownOwn nX hXw hg'
        replace hT := hT.gr hg' (by omega)
        replace hF := hF.gr hg' (by omega)
        replace hX := hX'
        clear hX' hg'
        obtain ⟨zk, hzk⟩ : ∃ zk, z.kind = zk := ⟨_, rfl⟩
        obtain ⟨zl, hzl⟩ : ∃ zl, z.bytes.length = zl := ⟨_, rfl⟩
        rw [hzk, hzl] at hX
        have HZK := Hh (And.intro hzk hzl)
        clear hzk hzl
        have b0 := hX.cell 0 rfl
        have b1 := hX.cell 1 rfl
        have b2 := hX.cell 2 rfl
        have b3 := hX.cell 3 rfl
        by_cases c1 : zk = 2
        case neg =>
         have c1a : (zk != 2) = true := by rw [bne_iff_ne]; exact c1
         have c1b : (zk = 2) = False := eq_false c1
         have E : Hid (decFirst l = .error 4) := by rw [Hid, E2.out, d2, bytesE, HP3.out]; simp only; rw [if_pos (by have h1 := HZK.out; omega)]
         go_wp2_with (with_reducible refine stop_store ?_)
         unfold Stopped
         refine wpList_store_item rfl _ _ _ rfl rfl _ _ rfl rfl _ _ hT size_first rfl (one5 _ _ _ _ _ rfl rfl rfl rfl rfl) fun wz hTz hgz => ?_
         have hGz := hG.grownOwn nT hTw hgz
         go_wp2_with fail
         refine ret_row_tmp rfl rfl hTz rfl rfl size_first rfl ?_
         exact FirstOut.err (q := 4) E.out rfl hGz.below
        subst c1
        by_cases c2 : zl = 0
        ·subst c2
         have E : Hid (decFirst l = .error 4) := by rw [Hid, E2.out, d2, bytesE, HP3.out]; simp only; rw [if_pos (by have h1 := HZK.out; omega)]
         go_wp2_with (with_reducible refine stop_store ?_)
         unfold Stopped
         refine wpList_store_item rfl _ _ _ rfl rfl _ _ rfl rfl _ _ hT size_first rfl (one5 _ _ _ _ _ rfl rfl rfl rfl rfl) fun wz hTz hgz => ?_
         have hGz := hG.grownOwn nT hTw hgz
         go_wp2_with fail
         refine ret_row_tmp rfl rfl hTz rfl rfl size_first rfl ?_
         exact FirstOut.err (q := 4) E.out rfl hGz.below
        have c2a : ¬ ((zl : Int) < 1) := by omega
        have c2b : decide ((zl : Int) < 1) = false := decide_eq_false c2a
        by_cases c3 : 64 < zl
        ·have c3a : (64 : Int) < (zl : Int) := by omega
         have c3b : decide ((64 : Int) < (zl : Int)) = true := decide_eq_true c3a
         have E : Hid (decFirst l = .error 4) := by rw [Hid, E2.out, d2, bytesE, HP3.out]; simp only; rw [if_pos (by have h1 := HZK.out; omega)]
         go_wp2_with (with_reducible refine stop_store ?_)
         unfold Stopped
         refine wpList_store_item rfl _ _ _ rfl rfl _ _ rfl rfl _ _ hT size_first rfl (one5 _ _ _ _ _ rfl rfl rfl rfl rfl) fun wz hTz hgz => ?_
         have hGz := hG.grownOwn nT hTw hgz
         go_wp2_with fail
         refine ret_row_tmp rfl rfl hTz rfl rfl size_first rfl ?_
         exact FirstOut.err (q := 4) E.out rfl hGz.below
        have c3a : ¬ ((64 : Int) < (zl : Int)) := by omega
        have c3b : decide ((64 : Int) < (zl : Int)) = false := decide_eq_false c3a
        obtain ⟨l3, hl3⟩ : ∃ l3, l2.drop k3 = l3 := ⟨_, rfl⟩
        have HL3 : Hid (SN - k3 = l3.length ∧ l3.length ≤ 600) := by rw [Hid, ← hl3, List.length_drop]; have := HL2.out; have := HSN.out; omega
        have E3 : Hid (decFirst l = d3 v su z.bytes l3) := by rw [Hid, E2.out, d2, bytesE, HP3.out]; simp only; rw [if_neg (by have h1 := HZK.out; omega)]; simp only; rw [hl3]
        have HDR6 := Hh (HSB6.out.drop k3 HKL3.out.1)
        rw [hl3] at HDR6
        obtain ⟨b3_, off3, rfl, _⟩ := HSB6.out.at_ (by have := HKL3.out.1; have := HKL3.out.2.2.1; omega)
        have HK3 := Hh (show k3 ≤ SN by have := HKL3.out.1; have := HSN.out; omega)
        have HC3 := Hh (show SN ≤ SC by have := HSB6.out.le; have := HSN.out; omega)
        have HLN3 := Hh HL3.out.1
        have HGB := Hh (show IsBytes H6 na nb z.bytes from hi6.bytes)
        clear hl3 c2 c3 c2a c3a E2 hi6
        go_upto_region 23 with fail
        go_cut [0] (fun s0 wx => ∃ SA SC SN, s0 = .slice SA SN SC ∧ SN = l3.length ∧ IsBytes H6 SA SC l3 ∧ Grows w H wx H6 ∧ Blk wx T 44 #[.int .i64 0, .slice none 0 0, .slice none 0 0, .slice none 0 0, .slice none 0 0] ∧ Blk wx F 44 #[.int .i64 v, .slice LA su.length lc, .slice na zl nb, .slice none 0 0, .slice none 0 0] ∧ Blk wx X 69 #[.int .i64 2, .int .u64 z.n, .slice na zl nb, .slice nc z.items.length nd])
        case first =>
         replace hG := hG.drew
         replace hT := hT.drew
         replace hF := hF.drew
         replace hX := hX.drew
         have s1 : (k3 : Int) ≤ (SN : Int) := by have := HK3.out; omega
         have s2 : (SN : Int) ≤ (SC : Int) := by have := HC3.out; omega
         have s3 : (k3 : Int) ≤ (SC : Int) := by omega
         have s4 : (0 : Int) ≤ (k3 : Int) := by omega
         by_cases hck : SC = k3
         ·have h := HDR6.out
          rw [if_pos hck] at h
          have HD := Hh h
          have hckT : (SC = k3) = True := eq_true hck
          clear h
          subst hck
          refine wp_region_ways 7 (fun w' => w'.cell? ⟨X, 2, none⟩ = some (.slice na zl nb)) (by kernel_rfl) (b2) (fun hHeld => ?_)
          refine Tk 0 (v := ?_) rfl ?_ hHeld ?_
          rotate_left
          ·intro w s; (try dsimp only at s); go_simp; try with_reducible rfl
          try simp only [Act.put, zz1, zz2, zz3, zz4, zz5, zz6]
          refine Tk 1 (v := ?_) rfl ?_ hHeld ?_
          rotate_left
          ·intro w s; (try dsimp only at s); go_simp; try with_reducible rfl
          try simp only [Act.put, zz1, zz2, zz3, zz4, zz5, zz6]
          refine Tk 2 (v := ?_) rfl ?_ hHeld ?_
          rotate_left
          ·intro w s; (try dsimp only at s); go_simp; try with_reducible rfl
          try simp only [Act.put, zz1, zz2, zz3, zz4, zz5, zz6]
          refine Tk 3 (v := ?_) rfl ?_ hHeld ?_
          rotate_left
          ·intro w s; (try dsimp only at s); go_simp; try with_reducible rfl
          try simp only [Act.put, zz1, zz2, zz3, zz4, zz5, zz6]
          refine Tk 4 (v := ?_) rfl ?_ hHeld ?_
          rotate_left
          ·intro w s; (try dsimp only at s); go_simp; try with_reducible rfl
          try simp only [Act.put, zz1, zz2, zz3, zz4, zz5, zz6]
          refine Tk 5 (v := ?_) rfl ?_ hHeld ?_
          rotate_left
          ·intro w s; (try dsimp only at s); go_simp; try with_reducible rfl
          try simp only [Act.put, zz1, zz2, zz3, zz4, zz5, zz6]
          refine To 6 rfl fun K hK => ?_
          refine wp_store_cell _ _ _ rfl F 2 (.slice na zl nb) rfl rfl _ _ hF size_bytes (by simp) rfl fun wz hF' hg' => ?_
          have hG' := hG.grownOwn nF hFw hg'
          have hT' := hT.gr hg' (by omega)
          have hX' := hX.gr hg' (by omega)
          have hF2 : Blk wz F 44 #[.int .i64 v, .slice LA su.length lc, .slice na zl nb, .slice none 0 0, .slice none 0 0] := hF'
          go_simp
          refine hK.out _ _ (fun _ => ?_) (fun hHeld => ?_)
          ·exact hX'.cell 2 rfl
          clear hK K
          have hHeld := hHeld (by decide)
          try simp only [Act.put, zz1, zz2, zz3, zz4, zz5, zz6]
          refine To 7 rfl fun K hK => ?_
          go_simp
          refine hK.out _ _ (fun h => absurd rfl h) (fun _ => ?_)
          clear hK K
          try simp only [Act.put, zz1, zz2, zz3, zz4, zz5, zz6]
          refine Ways.done (by kernel_rfl) ?_
          go_wp2_with fail
          go_meet
          exact ⟨_, _, _, rfl, HLN3.out, by have h := HD.out; rw [Nat.sub_self] at h; exact h, hG', hT', hF2, hX'⟩
         ·have h := HDR6.out
          rw [if_neg hck, Option.map_some, addr_add] at h
          have HD := Hh h
          have hckF : (SC = k3) = False := eq_false hck
          clear h hck
          refine wp_region_ways 7 (fun w' => w'.cell? ⟨X, 2, none⟩ = some (.slice na zl nb)) (by kernel_rfl) (b2) (fun hHeld => ?_)
          refine Tk 0 (v := ?_) rfl ?_ hHeld ?_
          rotate_left
          ·intro w s; (try dsimp only at s); go_simp; try with_reducible rfl
          try simp only [Act.put, zz1, zz2, zz3, zz4, zz5, zz6]
          refine Tk 1 (v := ?_) rfl ?_ hHeld ?_
          rotate_left
          ·intro w s; (try dsimp only at s); go_simp; try with_reducible rfl
          try simp only [Act.put, zz1, zz2, zz3, zz4, zz5, zz6]
          refine Tk 2 (v := ?_) rfl ?_ hHeld ?_
          rotate_left
          ·intro w s; (try dsimp only at s); go_simp; try with_reducible rfl
          try simp only [Act.put, zz1, zz2, zz3, zz4, zz5, zz6]
          refine Tk 3 (v := ?_) rfl ?_ hHeld ?_
          rotate_left
          ·intro w s; (try dsimp only at s); go_simp; try with_reducible rfl
          try simp only [Act.put, zz1, zz2, zz3, zz4, zz5, zz6]
          refine Tk 4 (v := ?_) rfl ?_ hHeld ?_
          rotate_left
          ·intro w s; (try dsimp only at s); go_simp; try with_reducible rfl
          try simp only [Act.put, zz1, zz2, zz3, zz4, zz5, zz6]
          refine Tk 5 (v := ?_) rfl ?_ hHeld ?_
          rotate_left
          ·intro w s; (try dsimp only at s); go_simp; try with_reducible rfl
          try simp only [Act.put, zz1, zz2, zz3, zz4, zz5, zz6]
          refine To 6 rfl fun K hK => ?_
          refine wp_store_cell _ _ _ rfl F 2 (.slice na zl nb) rfl rfl _ _ hF size_bytes (by simp) rfl fun wz hF' hg' => ?_
          have hG' := hG.grownOwn nF hFw hg'
          have hT' := hT.gr hg' (by omega)
          have hX' := hX.gr hg' (by omega)
          have hF2 : Blk wz F 44 #[.int .i64 v, .slice LA su.length lc, .slice na zl nb, .slice none 0 0, .slice none 0 0] := hF'
          go_simp
          refine hK.out _ _ (fun _ => ?_) (fun hHeld => ?_)
          ·exact hX'.cell 2 rfl
          clear hK K
          have hHeld := hHeld (by decide)
          try simp only [Act.put, zz1, zz2, zz3, zz4, zz5, zz6]
          refine To 7 rfl fun K hK => ?_
          go_simp
          refine hK.out _ _ (fun h => absurd rfl h) (fun _ => ?_)
          clear hK K
          try simp only [Act.put, zz1, zz2, zz3, zz4, zz5, zz6]
          refine Ways.done (by kernel_rfl) ?_
          go_wp2_with fail
          go_meet
          exact ⟨_, _, _, rfl, HLN3.out, HD.out, hG', hT', hF2, hX'⟩
        case rest =>
         clear hG hT hF hX
         obtain ⟨SA, SC, SN, rfl, hsn, hsb, hG, hT, hF, hX⟩ := hcut
         have HSN := Hh hsn
         clear hsn
         have HSB7 := Hh hsb
         have PC := Hh (ref_ParseConn (l := l3) HSN.out (by have := HL3.out; omega) (by have := hsb.le; have := HSN.out; omega) hsb.max wc (Src.of_row hsb.row hG.holds))
         clear hsb HDR6 HLN3 HC3 HSB6 b0 b1 b2 b3
         go_wp2_with fail
         refine PC.out.mono ?_
         intro e w8 hs
         unfold ConnSaid at hs
         clear PC
         cases hp : parseConn l3 with
         | error q5 =>
          rw [hp] at hs
          obtain ⟨rfl, hb⟩ := hs
          have E : Hid (decFirst l = .error q5) := by rw [Hid, E3.out, d3, hp]
          have HQ := Hh (parseConn_err hp)
          have hGn := Grows.of_below hG.holds hb
          replace nT := hGn.none nT hT.lt
          replace nF := hGn.none nF hF.lt
          replace nX := hGn.none nX hX.lt
          replace hT := hT.below hGn.below
          replace hF := hF.below hGn.below
          replace hX := hX.below hGn.below
          replace hG := hG.trans hGn
          clear hp hb hGn
          go_wp2_with (with_reducible refine stop_store ?_)
          unfold Stopped
          refine wpList_store_cell rfl _ _ _ rfl rfl F 3 (.slice none 0 0) rfl rfl _ _ hF size_bytes (by simp) rfl fun v9 hF' hg' => ?_
          replace hG := hG.grownOwn nF hFw hg'
          replace hT := hT.gr hg' (by omega)
          replace hX := hX.gr hg' (by omega)
          replace hF : Blk v9 F 44 #[.int .i64 v, .slice LA su.length lc, .slice na zl nb, .slice none 0 0, .slice none 0 0] := hF'
          clear hF' hg'
          have hq0 : ((q5 : Int) != 0) = true := by rw [bne_iff_ne]; have := HQ.out; omega
          have hq0' : ((q5 : Int) = 0) = False := eq_false (by have := HQ.out; omega)
          go_wp2_with (with_reducible refine stop_store ?_)
          unfold Stopped
          refine wpList_store_item rfl _ _ _ rfl rfl _ _ rfl rfl _ _ hT size_first rfl (one5 _ _ _ _ _ rfl rfl rfl rfl rfl) fun wz hTz hgz => ?_
          have hGz := hG.grownOwn nT hTw hgz
          go_wp2_with fail
          refine ret_row_tmp rfl rfl hTz rfl rfl size_first rfl ?_
          exact FirstOut.err (q := q5) E.out rfl hGz.below
         | ok r =>
          obtain ⟨cn, k4⟩ := r
          rw [hp] at hs
          obtain ⟨r, rfl, hf⟩ := hs
          obtain ⟨CA, cc, rfl, hjunk⟩ := hf.own.form
          clear hjunk
          obtain ⟨H8, hGn, hcn, hjunk⟩ := Fresh.snapB hG.holds hf
          clear hjunk hf
          have HP4 := Hh (show parseConn l3 = .ok (cn, k4) from hp)
          have HKL4 := Hh (parseConn_le hp)
          obtain ⟨l4, hl4⟩ : ∃ l4, l3.drop k4 = l4 := ⟨_, rfl⟩
          have HL4 : Hid (SN - k4 = l4.length ∧ l4.length ≤ 600) := by rw [Hid, ← hl4, List.length_drop]; have := HL3.out; have := HSN.out; omega
          have E4 : Hid (decFirst l = d4 v su z.bytes cn l4) := by rw [Hid, E3.out, d3, HP4.out, ← hl4]
          have HDR8 := Hh ((HSB7.out.mono hGn.le).drop k4 HKL4.out.1)
          rw [hl4] at HDR8
          obtain ⟨b4_, off4, rfl, _⟩ := HSB7.out.at_ (by have := HKL4.out.1; have := HKL4.out.2.1; omega)
          have HK4 := Hh (show k4 ≤ SN by have := HKL4.out.1; have := HSN.out; omega)
          have HC4 := Hh (show SN ≤ SC by have := HSB7.out.le; have := HSN.out; omega)
          have HDONE := Hh (And.intro (HSR6.out.mono hGn.le) (HGB.out.mono hGn.le))
          replace nT := hGn.none nT hT.lt
          replace nF := hGn.none nF hF.lt
          replace nX := hGn.none nX hX.lt
          replace hT := hT.below hGn.below
          replace hF := hF.below hGn.below
          replace hX := hX.below hGn.below
          replace hG := hG.trans hGn
          clear hp hGn hl4 E3 HSB7 HSR6 HGB
          go_wp2_with (with_reducible refine stop_store ?_)
          unfold Stopped
          refine wpList_store_cell rfl _ _ _ rfl rfl F 3 (.slice CA cn.length cc) rfl rfl _ _ hF size_bytes (by simp) rfl fun v10 hF' hg' => ?_
          replace hG := hG.grownOwn nF hFw hg'
          replace hT := hT.gr hg' (by omega)
          replace hX := hX.gr hg' (by omega)
          replace hF : Blk v10 F 44 #[.int .i64 v, .slice LA su.length lc, .slice na zl nb, .slice CA cn.length cc, .slice none 0 0] := hF'
          clear hF' hg'
          have s1 : (k4 : Int) ≤ (SN : Int) := by have := HK4.out; omega
          have s2 : (SN : Int) ≤ (SC : Int) := by have := HC4.out; omega
          have s3 : (k4 : Int) ≤ (SC : Int) := by omega
          have s4 : (0 : Int) ≤ (k4 : Int) := by omega
          by_cases hck : SC = k4
          ·have h := HDR8.out
           rw [if_pos hck] at h
           have HD := Hh h
           have hckT : (SC = k4) = True := eq_true hck
           clear h
           subst hck
           have DX := Hh (ref_DecodeExt' (hTab.mono hG.le) v10 hG.holds HL4.out.1 (by have h := HD.out; rw [Nat.sub_self] at h; exact h))
           go_wp2_with fail
           refine DX.out.mono ?_
           intro e w9 hs
           unfold ExtsOut at hs
           clear DX
           cases hp : decExt l4 with
           | error q6 =>
            rw [hp] at hs
            obtain ⟨rfl, hb⟩ := hs
            have E : Hid (decFirst l = .error q6) := by rw [Hid, E4.out, d4, hp]
            have HQ := Hh (decExt_err hp)
            have hGn := Grows.of_below hG.holds hb
            replace nT := hGn.none nT hT.lt
            replace nF := hGn.none nF hF.lt
            replace nX := hGn.none nX hX.lt
            replace hT := hT.below hGn.below
            replace hF := hF.below hGn.below
            replace hX := hX.below hGn.below
            replace hG := hG.trans hGn
            clear hp hb hGn
            go_wp2_with (with_reducible refine stop_store ?_)
            unfold Stopped
            refine wpList_store_cell rfl _ _ _ rfl rfl F 4 (.slice none 0 0) rfl rfl _ _ hF size_exts (by simp) rfl fun v11 hF' hg' => ?_
            replace hG := hG.grownOwn nF hFw hg'
            replace hT := hT.gr hg' (by omega)
            replace hX := hX.gr hg' (by omega)
            replace hF : Blk v11 F 44 #[.int .i64 v, .slice LA su.length lc, .slice na zl nb, .slice CA cn.length cc, .slice none 0 0] := hF'
            clear hF' hg'
            have hq0 : ((q6 : Int) != 0) = true := by rw [bne_iff_ne]; have := HQ.out; omega
            have hq0' : ((q6 : Int) = 0) = False := eq_false (by have := HQ.out; omega)
            go_wp2_with (with_reducible refine stop_store ?_)
            unfold Stopped
            refine wpList_store_item rfl _ _ _ rfl rfl _ _ rfl rfl _ _ hT size_first rfl (one5 _ _ _ _ _ rfl rfl rfl rfl rfl) fun wz hTz hgz => ?_
            have hGz := hG.grownOwn nT hTw hgz
            go_wp2_with fail
            refine ret_row_tmp rfl rfl hTz rfl rfl size_first rfl ?_
            exact FirstOut.err (q := q6) E.out rfl hGz.below
           | ok ext =>
            rw [hp] at hs
            obtain ⟨EA, ec, H9, rfl, hGn, hex⟩ := hs
            have E : Hid (decFirst l = .ok ⟨v, su, z.bytes, cn, ext⟩) := by rw [Hid, E4.out, d4, hp]
            have HFA : Hid (FirstA H9 ⟨v, su, z.bytes, cn, ext⟩ LA lc na nb CA cc EA ec) := ⟨HDONE.out.1.mono hGn.le, HDONE.out.2.mono hGn.le, hcn.mono hGn.le, hex⟩
            replace nT := hGn.none nT hT.lt
            replace nF := hGn.none nF hF.lt
            replace nX := hGn.none nX hX.lt
            replace hT := hT.below hGn.below
            replace hF := hF.below hGn.below
            replace hX := hX.below hGn.below
            replace hG := hG.trans hGn
            clear hp hGn hex hcn HDONE E4
            go_wp2_with (with_reducible refine stop_store ?_)
            unfold Stopped
            refine wpList_store_cell rfl _ _ _ rfl rfl F 4 (.slice EA ext.length ec) rfl rfl _ _ hF size_exts (by simp) rfl fun v12 hF' hg' => ?_
            replace hG := hG.grownOwn nF hFw hg'
            replace hT := hT.gr hg' (by omega)
            replace hX := hX.gr hg' (by omega)
            replace hF : Blk v12 F 44 #[.int .i64 v, .slice LA su.length lc, .slice na zl nb, .slice CA cn.length cc, .slice EA ext.length ec] := hF'
            clear hF' hg'
            have f0 := hF.cell 0 rfl
            have f1 := hF.cell 1 rfl
            have f2 := hF.cell 2 rfl
            have f3 := hF.cell 3 rfl
            have f4 := hF.cell 4 rfl
            go_wp2_with (with_reducible refine stop_store ?_)
            unfold Stopped
            refine wpList_store_item rfl _ _ _ rfl rfl _ _ rfl rfl _ _ hT size_first rfl (one5 _ _ _ _ _ rfl rfl rfl rfl rfl) fun wz hTz hgz => ?_
            have hGz := hG.grownOwn nT hTw hgz
            go_wp2_with fail
            refine ret_row_tmp rfl rfl hTz rfl rfl size_first rfl ?_
            exact FirstOut.ok E.out (by rw [← HZK.out.2]; rfl) hGz HFA.out
          ·have h := HDR8.out
           rw [if_neg hck, Option.map_some, addr_add] at h
           have HD := Hh h
           have hckF : (SC = k4) = False := eq_false hck
           clear h hck
           have DX := Hh (ref_DecodeExt' (hTab.mono hG.le) v10 hG.holds HL4.out.1 (HD.out))
           go_wp2_with fail
           refine DX.out.mono ?_
           intro e w9 hs
           unfold ExtsOut at hs
           clear DX
           cases hp : decExt l4 with
           | error q6 =>
            rw [hp] at hs
            obtain ⟨rfl, hb⟩ := hs
            have E : Hid (decFirst l = .error q6) := by rw [Hid, E4.out, d4, hp]
            have HQ := Hh (decExt_err hp)
            have hGn := Grows.of_below hG.holds hb
            replace nT := hGn.none nT hT.lt
            replace nF := hGn.none nF hF.lt
            replace nX := hGn.none nX hX.lt
            replace hT := hT.below hGn.below
            replace hF := hF.below hGn.below
            replace hX := hX.below hGn.below
            replace hG := hG.trans hGn
            clear hp hb hGn
            go_wp2_with (with_reducible refine stop_store ?_)
            unfold Stopped
            refine wpList_store_cell rfl _ _ _ rfl rfl F 4 (.slice none 0 0) rfl rfl _ _ hF size_exts (by simp) rfl fun v13 hF' hg' => ?_
            replace hG := hG.grownOwn nF hFw hg'
            replace hT := hT.gr hg' (by omega)
            replace hX := hX.gr hg' (by omega)
            replace hF : Blk v13 F 44 #[.int .i64 v, .slice LA su.length lc, .slice na zl nb, .slice CA cn.length cc, .slice none 0 0] := hF'
            clear hF' hg'
            have hq0 : ((q6 : Int) != 0) = true := by rw [bne_iff_ne]; have := HQ.out; omega
            have hq0' : ((q6 : Int) = 0) = False := eq_false (by have := HQ.out; omega)
            go_wp2_with (with_reducible refine stop_store ?_)
            unfold Stopped
            refine wpList_store_item rfl _ _ _ rfl rfl _ _ rfl rfl _ _ hT size_first rfl (one5 _ _ _ _ _ rfl rfl rfl rfl rfl) fun wz hTz hgz => ?_
            have hGz := hG.grownOwn nT hTw hgz
            go_wp2_with fail
            refine ret_row_tmp rfl rfl hTz rfl rfl size_first rfl ?_
            exact FirstOut.err (q := q6) E.out rfl hGz.below
           | ok ext =>
            rw [hp] at hs
            obtain ⟨EA, ec, H9, rfl, hGn, hex⟩ := hs
            have E : Hid (decFirst l = .ok ⟨v, su, z.bytes, cn, ext⟩) := by rw [Hid, E4.out, d4, hp]
            have HFA : Hid (FirstA H9 ⟨v, su, z.bytes, cn, ext⟩ LA lc na nb CA cc EA ec) := ⟨HDONE.out.1.mono hGn.le, HDONE.out.2.mono hGn.le, hcn.mono hGn.le, hex⟩
            replace nT := hGn.none nT hT.lt
            replace nF := hGn.none nF hF.lt
            replace nX := hGn.none nX hX.lt
            replace hT := hT.below hGn.below
            replace hF := hF.below hGn.below
            replace hX := hX.below hGn.below
            replace hG := hG.trans hGn
            clear hp hGn hex hcn HDONE E4
            go_wp2_with (with_reducible refine stop_store ?_)
            unfold Stopped
            refine wpList_store_cell rfl _ _ _ rfl rfl F 4 (.slice EA ext.length ec) rfl rfl _ _ hF size_exts (by simp) rfl fun v14 hF' hg' => ?_
            replace hG := hG.grownOwn nF hFw hg'
            replace hT := hT.gr hg' (by omega)
            replace hX := hX.gr hg' (by omega)
            replace hF : Blk v14 F 44 #[.int .i64 v, .slice LA su.length lc, .slice na zl nb, .slice CA cn.length cc, .slice EA ext.length ec] := hF'
            clear hF' hg'
            have f0 := hF.cell 0 rfl
            have f1 := hF.cell 1 rfl
            have f2 := hF.cell 2 rfl
            have f3 := hF.cell 3 rfl
            have f4 := hF.cell 4 rfl
            go_wp2_with (with_reducible refine stop_store ?_)
            unfold Stopped
            refine wpList_store_item rfl _ _ _ rfl rfl _ _ rfl rfl _ _ hT size_first rfl (one5 _ _ _ _ _ rfl rfl rfl rfl rfl) fun wz hTz hgz => ?_
            have hGz := hG.grownOwn nT hTw hgz
            go_wp2_with fail
            refine ret_row_tmp rfl rfl hTz rfl rfl size_first rfl ?_
            exact FirstOut.ok E.out (by rw [← HZK.out.2]; rfl) hGz HFA.out
end Go.Proofs.YtlebpackbfcfeaaDoor
