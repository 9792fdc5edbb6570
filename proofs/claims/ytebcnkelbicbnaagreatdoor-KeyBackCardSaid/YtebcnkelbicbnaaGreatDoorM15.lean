/- Walks: the program's reader of items: what is no container. -/
import Derived.Test.YtebcnkelbicbnaaGreatDoorM14
set_option linter.unusedVariables false
set_option linter.unusedSimpArgs false
namespace Go.Proofs.YtebcnkelbicbnaaGreatDoor
open Go.RowKit

theorem headP_err {b : List UInt8} {q : Nat} (h : headP b = .error q) : q = 2 ∨ q = 3 ∨ q = 4 := by
  cases b with
  | nil => injection h with h; omega
  | cons f t =>
    simp only [headP] at h
    repeat' split at h
    all_goals first | (injection h with h; omega) | cases h
theorem sevenP_err {low n q : Nat} (h : sevenP low n = .error q) : q = 4 := by
  rw [sevenP] at h
  repeat' split at h
  all_goals first | (injection h with h; omega) | cases h
theorem sevenP_form {low n : Nat} {x : Itm} (h : sevenP low n = .ok x) : ∃ kd m, x = .mk kd m [] [] ∧ (kd = 7 ∨ kd = 8) := by
  rw [sevenP] at h
  split at h
  · injection h with h; exact ⟨7, n, h.symm, .inl rfl⟩
  split at h
  · split at h
    · cases h
    · injection h with h; exact ⟨7, n, h.symm, .inl rfl⟩
  · split at h
    · cases h
    · injection h with h; exact ⟨8, _, h.symm, .inr rfl⟩
theorem seven_item {H : Snap} {b : List UInt8} {f n k : Nat} {x : Itm} (HS : HeadIs b f n k) (h : sevenP (f % 32) n = .ok x) : IsItem H none 0 none 0 x := by
  have hx : x.n < 18446744073709551616 := by
    have := HS.low
    rcases Nat.lt_or_ge (f % 32) 24 with hl | hl
    · obtain ⟨s1, s2, s3⟩ := HS.small hl
      exact (seven_spec (low := f % 32) (t := []) (by omega) (fun _ => ⟨s1, rfl⟩) (fun h => by omega) h).2.2.1
    · obtain ⟨s1, t, s2, s3, s4⟩ := HS.wide hl
      exact (seven_spec (low := f % 32) (t := t) (by omega) (fun h => by omega) (fun _ => ⟨s2, s4⟩) h).2.2.1
  obtain ⟨kd, m, rfl, hk⟩ := sevenP_form h
  exact IsItem.plain _ kd m (by omega) hx
section
variable {d : Nat} {w : World} {H : Snap} {g : Nat} {A : Option Addr} {c : Nat} {l : List UInt8} {p cnt lv : Nat}
set_option maxRecDepth 100000 in
set_option maxHeartbeats 6400000 in
theorem p_item_full (hTab : Tabs H) (hlv : lv + d = 8) (hP : Psr 109 w g H A c l p cnt) (hc : cnt = 256) : Calls Tryz.prog 79 #[.pointer (some ⟨g, 0, none⟩), .int .i64 (lv : Int)] w (ItemOut 109 w H g A c l p (parse d (l.drop p) cnt)) := by
  have hgl := hP.gt
  have hd0 := (Rdg.refl hP).alloc zeroO
  have hT0 := Blk.new w 26 #[.int .i64 0, .int .u64 0, .slice none 0 0, .slice none 0 0]
  have hn0 : H w.heap.size = none := hP.holds.none_of_ge (Nat.le_refl _)
  have c2 := hd0.psr.blk.cell 2 rfl

  have hc256 : ((cnt : Int) == 256) = true := by simp; omega
  have hc256' : ((cnt : Int) = 256) = True := eq_true (by omega)
  have E := Lib.hid (parse_full d (l.drop p) cnt (by omega))
  clear hc
  go_enter Tryz.func79, Tryz.ntmps79

  go_wp2_with (with_reducible refine stop_store ?_)
  unfold Stopped
  refine wpList_store_item rfl _ _ _ rfl rfl _ _ rfl rfl _ _ hT0 size_item rfl (one4 _ _ _ _ rfl rfl rfl rfl) fun wz hTy hgz => ?_
  have hdz := hd0.grownRow (row := some w.heap.size) (by rintro q ⟨⟩; exact hn0) (by rintro q ⟨⟩; exact Nat.le_refl _) hgl hgz
  go_wp2_with fail
  refine ret_row_tmp rfl rfl hTy rfl rfl size_item rfl ?_

  exact ItemOut.err (q := 8) E.out rfl hdz
set_option maxRecDepth 100000 in
set_option maxHeartbeats 6400000 in
theorem p_item_head (hTab : Tabs H) (hlv : lv + d = 8) (hP : Psr 109 w g H A c l p cnt) (hc : cnt < 256) {q : Nat} (hh : headP (l.drop p) = .error q) : Calls Tryz.prog 79 #[.pointer (some ⟨g, 0, none⟩), .int .i64 (lv : Int)] w (ItemOut 109 w H g A c l p (parse d (l.drop p) cnt)) := by
  have hgl := hP.gt
  have hd0 := (Rdg.refl hP).alloc zeroO
  have hT0 := Blk.new w 26 #[.int .i64 0, .int .u64 0, .slice none 0 0, .slice none 0 0]
  have hn0 : H w.heap.size = none := hP.holds.none_of_ge (Nat.le_refl _)
  have c2 := hd0.psr.blk.cell 2 rfl

  have E := Lib.hid (parse_head d (l.drop p) cnt (by omega) hh)
  have hq0 : ((q : Int) != 0) = true := by rw [bne_iff_ne]; have := headP_err hh; omega
  have hq0' : ((q : Int) = 0) = False := eq_false (by have := headP_err hh; omega)
  have hc256 : ((cnt : Int) == 256) = false := by simp; omega
  have hc256' : ((cnt : Int) = 256) = False := eq_false (by omega)
  have KC : IntKind.i64.wrap ((cnt : Int) + 1) = (cnt : Int) + 1 := IntWalk.i64_in _ (by omega)
  have HC := Lib.hid hc
  clear hc
  go_enter Tryz.func79, Tryz.ntmps79
  go_wp2_with (with_reducible refine stop_store ?_)
  unfold Stopped
  refine wpList_store_cell rfl _ _ _ rfl rfl g 2 (.int .i64 ((cnt : Int) + 1)) rfl rfl _ _ hd0.psr.blk size_int1 (by simp) rfl fun w2 hB2 hG2 => ?_
  have hd2 : Rdg 109 w H w2 H g A c l p (cnt + 1) := hd0.step hG2 hB2 hP.le (by have := HC.out; omega)
  have hT2 := hT0.grown hG2 (by intro e; injection e with e; omega)
  have PH := Lib.hid (p_head hd2.psr)
  clear hd0 hT0 hB2 hG2 c2 KC hc256 hc256'
  go_wp2_with fail
  refine PH.out.mono ?_
  intro e w3 hs
  rw [HeadSaid, hh] at hs

  obtain ⟨rfl, ⟨p', hp', hB3⟩, hG3⟩ := hs
  have hd3 : Rdg 109 w H w3 H g A c l p' (cnt + 1) := hd2.step hG3 hB3 hp' (by have := HC.out; omega)
  have hT3 := hT2.grown hG3 (by intro e; injection e with e; omega)
  clear hd2 hT2 hB3 hG3 PH hh
  go_wp2_with (with_reducible refine stop_store ?_)
  unfold Stopped
  refine wpList_store_item rfl _ _ _ rfl rfl _ _ rfl rfl _ _ hT3 size_item rfl (one4 _ _ _ _ rfl rfl rfl rfl) fun wz hTy hgz => ?_
  have hdz := hd3.grownRow (row := some w.heap.size) (by rintro q ⟨⟩; exact hn0) (by rintro q ⟨⟩; exact Nat.le_refl _) hgl hgz
  go_wp2_with fail
  refine ret_row_tmp rfl rfl hTy rfl rfl size_item rfl ?_

  exact ItemOut.err E.out rfl hdz
set_option maxRecDepth 100000 in
set_option maxHeartbeats 6400000 in
theorem p_item_0 (hTab : Tabs H) (hlv : lv + d = 8) (hP : Psr 109 w g H A c l p cnt) (hc : cnt < 256) {f n k : Nat} (hh : headP (l.drop p) = .ok (f, n, k)) (hk : f / 32 = 0) : Calls Tryz.prog 79 #[.pointer (some ⟨g, 0, none⟩), .int .i64 (lv : Int)] w (ItemOut 109 w H g A c l p (parse d (l.drop p) cnt)) := by
  have hgl := hP.gt
  have hd0 := (Rdg.refl hP).alloc zeroO
  have hT0 := Blk.new w 26 #[.int .i64 0, .int .u64 0, .slice none 0 0, .slice none 0 0]
  have hn0 : H w.heap.size = none := hP.holds.none_of_ge (Nat.le_refl _)
  have c2 := hd0.psr.blk.cell 2 rfl

  have E : Hid (parse d (l.drop p) cnt = .ok (.mk 0 n [] []) k (cnt + 1)) := by rw [Hid, parse_num d (l.drop p) cnt (by omega) hh (by omega), hk]; rfl
  have S : (f : Int) / 32 = 0 := by omega
  have hc256 : ((cnt : Int) == 256) = false := by simp; omega
  have hc256' : ((cnt : Int) = 256) = False := eq_false (by omega)
  have KC : IntKind.i64.wrap ((cnt : Int) + 1) = (cnt : Int) + 1 := IntWalk.i64_in _ (by omega)
  have HC := Lib.hid hc
  clear hc
  go_enter Tryz.func79, Tryz.ntmps79
  go_wp2_with (with_reducible refine stop_store ?_)
  unfold Stopped
  refine wpList_store_cell rfl _ _ _ rfl rfl g 2 (.int .i64 ((cnt : Int) + 1)) rfl rfl _ _ hd0.psr.blk size_int1 (by simp) rfl fun w2 hB2 hG2 => ?_
  have hd2 : Rdg 109 w H w2 H g A c l p (cnt + 1) := hd0.step hG2 hB2 hP.le (by have := HC.out; omega)
  have hT2 := hT0.grown hG2 (by intro e; injection e with e; omega)
  have PH := Lib.hid (p_head hd2.psr)
  clear hd0 hT0 hB2 hG2 c2 KC hc256 hc256'
  go_wp2_with fail
  refine PH.out.mono ?_
  intro e w3 hs
  rw [HeadSaid, hh] at hs

  obtain ⟨rfl, hB3, hG3⟩ := hs
  have HS := headP_spec hh
  have hle3 : p + k ≤ l.length := by have := HS.le; rw [List.length_drop] at this; have := hP.le; omega
  have hd3 : Rdg 109 w H w3 H g A c l (p + k) (cnt + 1) := hd2.step hG3 hB3 hle3 (by have := HC.out; omega)
  have hT3 := hT2.grown hG3 (by intro e; injection e with e; omega)
  have HF := Lib.hid HS
  clear hd2 hT2 hB3 hG3 PH HS hh

  go_wp2_with (with_reducible refine stop_store ?_)
  unfold Stopped
  refine wpList_store_item rfl _ _ _ rfl rfl _ _ rfl rfl _ _ hT3 size_item rfl (one4 _ _ _ _ rfl rfl rfl rfl) fun wz hTy hgz => ?_
  have hdz := hd3.grownRow (row := some w.heap.size) (by rintro q ⟨⟩; exact hn0) (by rintro q ⟨⟩; exact Nat.le_refl _) hgl hgz
  go_wp2_with fail
  refine ret_row_tmp rfl rfl hTy rfl rfl size_item rfl ?_

  exact ItemOut.ok (ja := none) (jb := 0) (jc := none) (jd := 0) E.out rfl hdz (IsItem.plain _ 0 n (by omega) HF.out.n_lt)
set_option maxRecDepth 100000 in
set_option maxHeartbeats 6400000 in
theorem p_item_1 (hTab : Tabs H) (hlv : lv + d = 8) (hP : Psr 109 w g H A c l p cnt) (hc : cnt < 256) {f n k : Nat} (hh : headP (l.drop p) = .ok (f, n, k)) (hk : f / 32 = 1) : Calls Tryz.prog 79 #[.pointer (some ⟨g, 0, none⟩), .int .i64 (lv : Int)] w (ItemOut 109 w H g A c l p (parse d (l.drop p) cnt)) := by
  have hgl := hP.gt
  have hd0 := (Rdg.refl hP).alloc zeroO
  have hT0 := Blk.new w 26 #[.int .i64 0, .int .u64 0, .slice none 0 0, .slice none 0 0]
  have hn0 : H w.heap.size = none := hP.holds.none_of_ge (Nat.le_refl _)
  have c2 := hd0.psr.blk.cell 2 rfl

  have E : Hid (parse d (l.drop p) cnt = .ok (.mk 1 n [] []) k (cnt + 1)) := by rw [Hid, parse_num d (l.drop p) cnt (by omega) hh (by omega), hk]; rfl
  have S : (f : Int) / 32 = 1 := by omega
  have hc256 : ((cnt : Int) == 256) = false := by simp; omega
  have hc256' : ((cnt : Int) = 256) = False := eq_false (by omega)
  have KC : IntKind.i64.wrap ((cnt : Int) + 1) = (cnt : Int) + 1 := IntWalk.i64_in _ (by omega)
  have HC := Lib.hid hc
  clear hc
  go_enter Tryz.func79, Tryz.ntmps79
  go_wp2_with (with_reducible refine stop_store ?_)
  unfold Stopped
  refine wpList_store_cell rfl _ _ _ rfl rfl g 2 (.int .i64 ((cnt : Int) + 1)) rfl rfl _ _ hd0.psr.blk size_int1 (by simp) rfl fun w2 hB2 hG2 => ?_
  have hd2 : Rdg 109 w H w2 H g A c l p (cnt + 1) := hd0.step hG2 hB2 hP.le (by have := HC.out; omega)
  have hT2 := hT0.grown hG2 (by intro e; injection e with e; omega)
  have PH := Lib.hid (p_head hd2.psr)
  clear hd0 hT0 hB2 hG2 c2 KC hc256 hc256'
  go_wp2_with fail
  refine PH.out.mono ?_
  intro e w3 hs
  rw [HeadSaid, hh] at hs

  obtain ⟨rfl, hB3, hG3⟩ := hs
  have HS := headP_spec hh
  have hle3 : p + k ≤ l.length := by have := HS.le; rw [List.length_drop] at this; have := hP.le; omega
  have hd3 : Rdg 109 w H w3 H g A c l (p + k) (cnt + 1) := hd2.step hG3 hB3 hle3 (by have := HC.out; omega)
  have hT3 := hT2.grown hG3 (by intro e; injection e with e; omega)
  have HF := Lib.hid HS
  clear hd2 hT2 hB3 hG3 PH HS hh

  go_wp2_with (with_reducible refine stop_store ?_)
  unfold Stopped
  refine wpList_store_item rfl _ _ _ rfl rfl _ _ rfl rfl _ _ hT3 size_item rfl (one4 _ _ _ _ rfl rfl rfl rfl) fun wz hTy hgz => ?_
  have hdz := hd3.grownRow (row := some w.heap.size) (by rintro q ⟨⟩; exact hn0) (by rintro q ⟨⟩; exact Nat.le_refl _) hgl hgz
  go_wp2_with fail
  refine ret_row_tmp rfl rfl hTy rfl rfl size_item rfl ?_

  exact ItemOut.ok (ja := none) (jb := 0) (jc := none) (jd := 0) E.out rfl hdz (IsItem.plain _ 1 n (by omega) HF.out.n_lt)
set_option maxRecDepth 100000 in
set_option maxHeartbeats 6400000 in
theorem p_item_7 (hTab : Tabs H) (hlv : lv + d = 8) (hP : Psr 109 w g H A c l p cnt) (hc : cnt < 256) {f n k : Nat} (hh : headP (l.drop p) = .ok (f, n, k)) (hk : f / 32 = 7) : Calls Tryz.prog 79 #[.pointer (some ⟨g, 0, none⟩), .int .i64 (lv : Int)] w (ItemOut 109 w H g A c l p (parse d (l.drop p) cnt)) := by
  have hgl := hP.gt
  have hd0 := (Rdg.refl hP).alloc zeroO
  have hT0 := Blk.new w 26 #[.int .i64 0, .int .u64 0, .slice none 0 0, .slice none 0 0]
  have hn0 : H w.heap.size = none := hP.holds.none_of_ge (Nat.le_refl _)
  have c2 := hd0.psr.blk.cell 2 rfl

  have E0 := Lib.hid (parse_seven d (l.drop p) cnt (by omega) hh hk)
  have S : (f : Int) / 32 = 7 := by omega
  have hc256 : ((cnt : Int) == 256) = false := by simp; omega
  have hc256' : ((cnt : Int) = 256) = False := eq_false (by omega)
  have KC : IntKind.i64.wrap ((cnt : Int) + 1) = (cnt : Int) + 1 := IntWalk.i64_in _ (by omega)
  have HC := Lib.hid hc
  clear hc
  go_enter Tryz.func79, Tryz.ntmps79
  go_wp2_with (with_reducible refine stop_store ?_)
  unfold Stopped
  refine wpList_store_cell rfl _ _ _ rfl rfl g 2 (.int .i64 ((cnt : Int) + 1)) rfl rfl _ _ hd0.psr.blk size_int1 (by simp) rfl fun w2 hB2 hG2 => ?_
  have hd2 : Rdg 109 w H w2 H g A c l p (cnt + 1) := hd0.step hG2 hB2 hP.le (by have := HC.out; omega)
  have hT2 := hT0.grown hG2 (by intro e; injection e with e; omega)
  have PH := Lib.hid (p_head hd2.psr)
  clear hd0 hT0 hB2 hG2 c2 KC hc256 hc256'
  go_wp2_with fail
  refine PH.out.mono ?_
  intro e w3 hs
  rw [HeadSaid, hh] at hs

  obtain ⟨rfl, hB3, hG3⟩ := hs
  have HS := headP_spec hh
  have hle3 : p + k ≤ l.length := by have := HS.le; rw [List.length_drop] at this; have := hP.le; omega
  have hd3 : Rdg 109 w H w3 H g A c l (p + k) (cnt + 1) := hd2.step hG3 hB3 hle3 (by have := HC.out; omega)
  have hT3 := hT2.grown hG3 (by intro e; injection e with e; omega)
  have HF := Lib.hid HS
  clear hd2 hT2 hB3 hG3 PH HS hh

  have SV := Lib.hid (fun w => cbor_seven f n HF.out.f_lt HF.out.low HF.out.n_lt (by
    intro h25
    obtain ⟨_, t, h1, _, h2⟩ := HF.out.wide (by omega)
    have := beN_lt t
    rw [h1, h25] at this
    rw [h2]; simpa using this) (by
    intro h26
    obtain ⟨_, t, h1, _, h2⟩ := HF.out.wide (by omega)
    have := beN_lt t
    rw [h1, h26] at this
    rw [h2]; simpa using this) w)
  go_wp2_with fail
  refine (SV.out _).mono ?_
  intro e w4 hs
  obtain ⟨hb4, hs⟩ := hs
  have hd4 := hd3.below_ hb4
  have hT4 := hT3.below hb4
  clear hd3 hT3 SV hb4
  cases hsv : sevenP (f % 32) n with
  | error q =>
    rw [hsv] at hs
    simp only at hs
    subst hs
    have E : Hid (parse d (l.drop p) cnt = .err q) := by rw [Hid, E0.out, hsv]
    go_wp2_with (with_reducible refine stop_store ?_)
    unfold Stopped
    refine wpList_store_item rfl _ _ _ rfl rfl _ _ rfl rfl _ _ hT4 size_item rfl (one4 _ _ _ _ rfl rfl rfl rfl) fun wz hTy hgz => ?_
    have hdz := hd4.grownRow (row := some w.heap.size) (by rintro q ⟨⟩; exact hn0) (by rintro q ⟨⟩; exact Nat.le_refl _) hgl hgz
    go_wp2_with fail
    refine ret_row_tmp rfl rfl hTy rfl rfl size_item rfl ?_

    exact ItemOut.err E.out rfl hdz
  | ok x =>
    rw [hsv] at hs
    simp only at hs
    subst hs
    have E : Hid (parse d (l.drop p) cnt = .ok x k (cnt + 1)) := by rw [Hid, E0.out, hsv]
    have hxb : IsItem H none 0 none 0 x := seven_item HF.out hsv
    clear hsv
    go_wp2_with (with_reducible refine stop_store ?_)
    unfold Stopped
    refine wpList_store_item rfl _ _ _ rfl rfl _ _ rfl rfl _ _ hT4 size_item rfl (one4 _ _ _ _ rfl rfl rfl rfl) fun wz hTy hgz => ?_
    have hdz := hd4.grownRow (row := some w.heap.size) (by rintro q ⟨⟩; exact hn0) (by rintro q ⟨⟩; exact Nat.le_refl _) hgl hgz
    go_wp2_with fail
    refine ret_row_tmp rfl rfl hTy rfl rfl size_item rfl ?_

    exact ItemOut.ok E.out rfl hdz hxb
set_option maxRecDepth 100000 in
set_option maxHeartbeats 6400000 in
theorem p_item_deep (hTab : Tabs H) (hlv : lv = 8) (hP : Psr 109 w g H A c l p cnt) (hc : cnt < 256) {f n k : Nat} (hh : headP (l.drop p) = .ok (f, n, k)) (h4 : 4 ≤ f / 32) (h6 : f / 32 ≤ 6) : Calls Tryz.prog 79 #[.pointer (some ⟨g, 0, none⟩), .int .i64 (lv : Int)] w (ItemOut 109 w H g A c l p (parse 0 (l.drop p) cnt)) := by
  have hgl := hP.gt
  have hd0 := (Rdg.refl hP).alloc zeroO
  have hT0 := Blk.new w 26 #[.int .i64 0, .int .u64 0, .slice none 0 0, .slice none 0 0]
  have hn0 : H w.heap.size = none := hP.holds.none_of_ge (Nat.le_refl _)
  have c2 := hd0.psr.blk.cell 2 rfl

  have E := Lib.hid (parse_deep (l.drop p) cnt (by omega) hh h4 h6)
  obtain ⟨kd, hkd⟩ : ∃ kd, f / 32 = kd := ⟨_, rfl⟩
  have S : (f : Int) / 32 = (kd : Int) := by omega
  have s0 : ((kd : Int) == 0) = false := by simp; omega
  have s1 : ((kd : Int) == 1) = false := by simp; omega
  have s2 : ((kd : Int) == 2) = false := by simp; omega
  have s3 : ((kd : Int) == 3) = false := by simp; omega
  have s7 : ((kd : Int) == 7) = false := by simp; omega
  have q0 : ((kd : Int) = 0) = False := eq_false (by omega)
  have q1 : ((kd : Int) = 1) = False := eq_false (by omega)
  have q2 : ((kd : Int) = 2) = False := eq_false (by omega)
  have q3 : ((kd : Int) = 3) = False := eq_false (by omega)
  have q7 : ((kd : Int) = 7) = False := eq_false (by omega)
  have hkw : (kd : Int) ≤ 7 := by omega
  subst hlv
  clear hkd h4 h6
  have hc256 : ((cnt : Int) == 256) = false := by simp; omega
  have hc256' : ((cnt : Int) = 256) = False := eq_false (by omega)
  have KC : IntKind.i64.wrap ((cnt : Int) + 1) = (cnt : Int) + 1 := IntWalk.i64_in _ (by omega)
  have HC := Lib.hid hc
  clear hc
  go_enter Tryz.func79, Tryz.ntmps79
  go_wp2_with (with_reducible refine stop_store ?_)
  unfold Stopped
  refine wpList_store_cell rfl _ _ _ rfl rfl g 2 (.int .i64 ((cnt : Int) + 1)) rfl rfl _ _ hd0.psr.blk size_int1 (by simp) rfl fun w2 hB2 hG2 => ?_
  have hd2 : Rdg 109 w H w2 H g A c l p (cnt + 1) := hd0.step hG2 hB2 hP.le (by have := HC.out; omega)
  have hT2 := hT0.grown hG2 (by intro e; injection e with e; omega)
  have PH := Lib.hid (p_head hd2.psr)
  clear hd0 hT0 hB2 hG2 c2 KC hc256 hc256'
  go_wp2_with fail
  refine PH.out.mono ?_
  intro e w3 hs
  rw [HeadSaid, hh] at hs

  obtain ⟨rfl, hB3, hG3⟩ := hs
  have HS := headP_spec hh
  have hle3 : p + k ≤ l.length := by have := HS.le; rw [List.length_drop] at this; have := hP.le; omega
  have hd3 : Rdg 109 w H w3 H g A c l (p + k) (cnt + 1) := hd2.step hG3 hB3 hle3 (by have := HC.out; omega)
  have hT3 := hT2.grown hG3 (by intro e; injection e with e; omega)
  have HF := Lib.hid HS
  clear hd2 hT2 hB3 hG3 PH HS hh

  go_wp2_with (with_reducible refine stop_store ?_)
  unfold Stopped
  refine wpList_store_item rfl _ _ _ rfl rfl _ _ rfl rfl _ _ hT3 size_item rfl (one4 _ _ _ _ rfl rfl rfl rfl) fun wz hTy hgz => ?_
  have hdz := hd3.grownRow (row := some w.heap.size) (by rintro q ⟨⟩; exact hn0) (by rintro q ⟨⟩; exact Nat.le_refl _) hgl hgz
  go_wp2_with fail
  refine ret_row_tmp rfl rfl hTy rfl rfl size_item rfl ?_

  exact ItemOut.err E.out rfl hdz
end
end Go.Proofs.YtebcnkelbicbnaaGreatDoor
