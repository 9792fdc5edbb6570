/- squeezed. Readers of items: what a call does -/
import Derived.Test.YtlebpackbfcfeaaDoorK18
import Derived.Test.YtlebpackbfcfeaaDoorK12
set_option linter.unusedVariables false
set_option linter.unusedSimpArgs false
set_option maxRecDepth 100000
set_option maxHeartbeats 6400000
namespace Go.Proofs.YtlebpackbfcfeaaDoor
open Go.RowKit
section
variable {T : TypeId} {w w' w'' : World} {H H' H'' : Snap} {g : Nat} {A : Option Addr} {c : Nat} {l : List UInt8} {p cnt p' cnt' : Nat}
theorem Psr.gt (h : Psr T w g H A c l p cnt) : g < w.heap.size := h.blk.lt
structure Rdg (T : TypeId) (w : World) (H : Snap) (w' : World) (H' : Snap) (g : Nat) (A : Option Addr) (c : Nat) (l : List UInt8) (p cnt : Nat) : Prop where
 grows : GrowsBut w H w' H' g
 psr : Psr T w' g H' A c l p cnt
theorem Rdg.refl (h : Psr T w g H A c l p cnt) : Rdg T w H w H g A c l p cnt := ⟨GrowsBut.refl h.holds g, h⟩
theorem Rdg.trans (h : Rdg T w H w' H' g A c l p cnt) (k : Rdg T w' H' w'' H'' g A c l p' cnt') : Rdg T w H w'' H'' g A c l p' cnt' := ⟨h.grows.trans k.grows, k.psr⟩
theorem Psr.grows (h : Psr T w g H A c l p cnt) (k : Grows w H w' H') : Rdg T w H w' H' g A c l p cnt :=
 ⟨k.but g, ⟨h.blk.below k.below, h.bytes.mono k.le, k.holds, k.none h.apart h.gt, h.le, h.small, h.cnt_le⟩⟩
theorem Rdg.grown (h : Rdg T w H w' H' g A c l p cnt) (k : Grows w' H' w'' H'') : Rdg T w H w'' H'' g A c l p cnt := h.trans (h.psr.grows k)
theorem Rdg.alloc (h : Rdg T w H w' H' g A c l p cnt) (o : Obj) : Rdg T w H (w'.alloc o) H' g A c l p cnt := h.grown ((Grows.refl h.psr.holds).alloc o)
theorem Rdg.below_ (h : Rdg T w H w' H' g A c l p cnt) (k : Below w'.heap.size w' w'') : Rdg T w H w'' H' g A c l p cnt := h.grown (Grows.of_below h.psr.holds k)
theorem Rdg.drewN (h : Rdg T w H w' H' g A c l p cnt) (q : Nat) : Rdg T w H (w'.drewN q) H' g A c l p cnt := h.below_ (below_drewNv (Below.refl _ _) q)
theorem Rdg.size (h : Rdg T w H w' H' g A c l p cnt) : w.heap.size ≤ w'.heap.size := h.grows.grown.size
theorem Rdg.hid (h : Rdg T w H w' H' g A c l p cnt) {k : Nat} (hk : H k = .none) (hl : k < w.heap.size) : H' k = .none := h.grows.hid hk hl
theorem Rdg.step (h : Rdg T w H w' H' g A c l p cnt) (hg : w'.grownBy w'' (some g)) (hb : Blk w'' g T (psrC A l.length c p' cnt')) (hp : p' ≤ l.length) (hc : cnt' ≤ 256) : Rdg T w H w'' H' g A c l p' cnt' :=
 ⟨⟨grown_step h.grows.grown hg (.inl rfl), h.grows.le, h.psr.holds.grown hg (by rintro q ⟨⟩; exact h.psr.apart), h.grows.fresh⟩,
  hb, h.psr.bytes, h.psr.holds.grown hg (by rintro q ⟨⟩; exact h.psr.apart), h.psr.apart, hp, h.psr.small, hc⟩
theorem Rdg.grownRow {row : Option Nat} (h : Rdg T w H w' H' g A c l p cnt) (h0 : ∀ k, row = some k → H' k = .none) (hw : ∀ k, row = some k → w.heap.size ≤ k) (hlt : g < w.heap.size) (hg : w'.grownBy w'' row) : Rdg T w H w'' H' g A c l p cnt := by
 have hd := h.psr
 have hne : row ≠ some g := fun e => by have := hw g e; omega
 refine ⟨⟨?_, h.grows.le, hd.holds.grown hg h0, h.grows.fresh⟩, hd.blk.grown hg hne, hd.bytes, hd.holds.grown hg h0, hd.apart, hd.le, hd.small, hd.cnt_le⟩
 exact ⟨hg.os.trans h.grows.grown.os, hg.tape.trans h.grows.grown.tape, hg.output.trans h.grows.grown.output, Nat.le_trans h.size hg.size, fun i hi hne' =>
   (hg.block i (Nat.lt_of_lt_of_le hi h.size) (fun e => by have := hw i e.symm; omega)).trans (h.grows.grown.block i hi hne')⟩
theorem Blk.rdg {k : Nat} {t : TypeId} {cs : Array Value} (h : Blk w k t cs) (hd : Rdg T w H w' H' g A c l p cnt) (hk : k ≠ g) : Blk w' k t cs :=
 h.grown hd.grows.grown (by intro e; injection e with e; exact hk e.symm)
theorem OwnI.rdg {base : Nat} {v : Value} {K : Snap} {L : List Itm} (h : OwnI w base v K L) (hd : Rdg T w H w' H' g A c l p cnt) (hb : g < base) : OwnI w' base v K L := by
 refine h.kept hd.grows.grown ?_
 cases hv : v.ownBlock with
 | none => exact .inl rfl
 | some k => exact .inr (fun e => by injection e with e; have := h.lt k hv; omega)
def ItemOut (T : TypeId) (w : World) (H : Snap) (g : Nat) (A : Option Addr) (c : Nat) (l : List UInt8) (p : Nat) (r : PR) (e : Ending) (w' : World) : Prop :=
 match r with
 | .err q => e = .returned (.tuple #[zeroV, .int .i64 (q : Int)]) ∧ (∃ H' p' cnt', Rdg T w H w' H' g A c l p' cnt')
 | .ok x k c' => ∃ ja jb jc jd H', e = .returned (.tuple #[itemV x ja jb jc jd, .int .i64 0]) ∧ Rdg T w H w' H' g A c l (p + k) c' ∧ IsItem H' ja jb jc jd x
theorem ItemOut.err {e : Ending} {r : PR} {q : Nat} (hr : r = .err q) (he : e = .returned (.tuple #[zeroV, .int .i64 (q : Int)])) (h : Rdg T w H w' H' g A c l p' cnt') : ItemOut T w H g A c l p r e w' := by
 rw [hr, ItemOut]; exact ⟨he, H', p', cnt', h⟩
theorem ItemOut.ok {e : Ending} {r : PR} {x : Itm} {k c' : Nat} {ja : Option Addr} {jb : Nat} {jc : Option Addr} {jd : Nat} (hr : r = .ok x k c') (he : e = .returned (.tuple #[itemV x ja jb jc jd, .int .i64 0])) (h : Rdg T w H w' H' g A c l (p + k) c') (hi : IsItem H' ja jb jc jd x) : ItemOut T w H g A c l p r e w' := by
 rw [hr, ItemOut]; exact ⟨ja, jb, jc, jd, H', he, h, hi⟩
end
def PItem (d : Nat) : Prop := ∀ (w : World) (H : Snap) (g : Nat) (A : Option Addr) (c : Nat) (l : List UInt8) (p cnt lv : Nat), Tabs H → lv + d = 8 → Psr 110 w g H A c l p cnt →
 Calls Tryd.prog 77 #[.pointer (some ⟨g, 0, none⟩), .int .i64 (lv : Int)] w (ItemOut 110 w H g A c l p (parse d (l.drop p) cnt))
theorem parse_full (d : Nat) (b : List UInt8) (c : Nat) (h : 256 ≤ c) : parse d b c = .err 8 := by rw [parse.eq_def]; simp only; rw [if_pos h]
theorem parse_head (d : Nat) (b : List UInt8) (c : Nat) (h : ¬ 256 ≤ c) {q : Nat} (hq : headP b = .error q) : parse d b c = .err q := by rw [parse.eq_def]; simp only; rw [if_neg h, hq]
theorem parse_num (d : Nat) (b : List UInt8) (c : Nat) (h : ¬ 256 ≤ c) {f n k : Nat} (hq : headP b = .ok (f, n, k)) (hk : f / 32 ≤ 1) : parse d b c = .ok (.mk (f / 32 : Nat) n [] []) k (c + 1) := by
 rw [parse.eq_def]; simp only; rw [if_neg h, hq]; simp only; rw [if_pos hk]
theorem parse_str (d : Nat) (b : List UInt8) (c : Nat) (h : ¬ 256 ≤ c) {f n k : Nat} (hq : headP b = .ok (f, n, k)) (h1 : ¬ f / 32 ≤ 1) (h3 : f / 32 ≤ 3) : parse d b c =
  (if b.length < k + n then .err 2 else if f / 32 = 3 ∧ Lib.validD ((b.drop k).take n) = false then .err 5 else .ok (.mk (f / 32 : Nat) 0 ((b.drop k).take n) []) (k + n) (c + 1)) := by
 rw [parse.eq_def]; simp only; rw [if_neg h, hq]; simp only; rw [if_neg h1, if_pos h3]
theorem parse_seven (d : Nat) (b : List UInt8) (c : Nat) (h : ¬ 256 ≤ c) {f n k : Nat} (hq : headP b = .ok (f, n, k)) (h7 : f / 32 = 7) : parse d b c =
  (match sevenP (f % 32) n with | .error e => .err e | .ok x => .ok x k (c + 1)) := by
 rw [parse.eq_def]; simp only; rw [if_neg h, hq]; simp only; rw [if_neg (by omega), if_neg (by omega), if_pos h7]
 all_goals (cases sevenP (f % 32) n <;> rfl)
theorem parse_deep (b : List UInt8) (c : Nat) (h : ¬ 256 ≤ c) {f n k : Nat} (hq : headP b = .ok (f, n, k)) (h3 : 4 ≤ f / 32) (h7 : f / 32 ≤ 6) : parse 0 b c = .err 8 := by
 rw [parse.eq_def]; simp only; rw [if_neg h, hq]; simp only; rw [if_neg (by omega), if_neg (by omega), if_neg (by omega)]
theorem parse_tag (d : Nat) (b : List UInt8) (c : Nat) (h : ¬ 256 ≤ c) {f n k : Nat} (hq : headP b = .ok (f, n, k)) (h6 : f / 32 = 6) : parse (d + 1) b c =
  (match parse d (b.drop k) (c + 1) with | .err e => .err e | .ok x k' c' => .ok (.mk 6 n [] [x]) (k + k') c') := by
 rw [parse.eq_def]; simp only; rw [if_neg h, hq]; simp only; rw [if_neg (by omega), if_neg (by omega), if_neg (by omega), if_pos h6]
 all_goals (cases parse d (b.drop k) (c + 1) <;> rfl)
theorem parse_map (d : Nat) (b : List UInt8) (c : Nat) (h : ¬ 256 ≤ c) {f n k : Nat} (hq : headP b = .ok (f, n, k)) (h5 : f / 32 = 5) : parse (d + 1) b c =
  (match mapP (parse d) n (b.drop k) (c + 1) none with | .err e => .err e | .ok l k' c' => .ok (.mk 5 0 [] l) (k + k') c') := by
 rw [parse.eq_def]; simp only; rw [if_neg h, hq]; simp only; rw [if_neg (by omega), if_neg (by omega), if_neg (by omega), if_neg (by omega), if_pos h5]
 all_goals (cases mapP (parse d) n (b.drop k) (c + 1) none <;> rfl)
theorem parse_arr (d : Nat) (b : List UInt8) (c : Nat) (h : ¬ 256 ≤ c) {f n k : Nat} (hq : headP b = .ok (f, n, k)) (h4 : f / 32 = 4) : parse (d + 1) b c =
  (match arrP (parse d) n (b.drop k) (c + 1) with | .err e => .err e | .ok l k' c' => .ok (.mk 4 0 [] l) (k + k') c') := by
 rw [parse.eq_def]; simp only; rw [if_neg h, hq]; simp only; rw [if_neg (by omega), if_neg (by omega), if_neg (by omega), if_neg (by omega), if_neg (by omega)]
 all_goals (cases arrP (parse d) n (b.drop k) (c + 1) <;> rfl)
theorem headP_err {b : List UInt8} {q : Nat} (h : headP b = .error q) : q = 2 ∨ q = 3 ∨ q = 4 := by
 cases b with
 | nil => injection h with h; omega
 | cons f t =>
  simp only [headP] at h
  repeat' split at h
  all_goals first | (injection h with h; omega) | cases h
theorem sevenP_err {low n q : Nat} (h : sevenP low n = .error q) : q = 4 := by
 rw [sevenP] at h
 repeat' split at h
 all_goals first | (injection h with h; omega) | cases h
theorem sevenP_form {low n : Nat} {x : Itm} (h : sevenP low n = .ok x) : ∃ kd m, x = .mk kd m [] [] ∧ (kd = 7 ∨ kd = 8) := by
 rw [sevenP] at h
 split at h
 ·injection h with h; exact ⟨7, n, h.symm, .inl rfl⟩
 split at h
 ·split at h
  ·cases h
  ·injection h with h; exact ⟨7, n, h.symm, .inl rfl⟩
 ·split at h
  ·cases h
  ·injection h with h; exact ⟨8, _, h.symm, .inr rfl⟩
theorem seven_item {H : Snap} {b : List UInt8} {f n k : Nat} {x : Itm} (HS : HeadIs b f n k) (h : sevenP (f % 32) n = .ok x) : IsItem H none 0 none 0 x := by
 have hx : x.n < 18446744073709551616 := by
  have := HS.low
  rcases Nat.lt_or_ge (f % 32) 24 with hl | hl
  ·obtain ⟨s1, s2, s3⟩ := HS.small hl
   exact (seven_spec (low := f % 32) (t := []) (by omega) (fun _ => ⟨s1, rfl⟩) (fun h => by omega) h).2.2.1
  ·obtain ⟨s1, t, s2, s3, s4⟩ := HS.wide hl
   exact (seven_spec (low := f % 32) (t := t) (by omega) (fun h => by omega) (fun _ => ⟨s2, s4⟩) h).2.2.1
 obtain ⟨kd, m, rfl, hk⟩ := sevenP_form h
 exact IsItem.plain _ kd m (by omega) hx
section
variable {d : Nat} {w : World} {H : Snap} {g : Nat} {A : Option Addr} {c : Nat} {l : List UInt8} {p cnt lv : Nat}
theorem p_item_full (hTab : Tabs H) (hlv : lv + d = 8) (hP : Psr 110 w g H A c l p cnt) (hc : cnt = 256) : Calls Tryd.prog 77 #[.pointer (some ⟨g, 0, none⟩), .int .i64 (lv : Int)] w (ItemOut 110 w H g A c l p (parse d (l.drop p) cnt)) := by
 have hgl := hP.gt
 have hd0 := (Rdg.refl hP).alloc zeroO
 have hT0 := Blk.new w 69 #[.int .i64 0, .int .u64 0, .slice none 0 0, .slice none 0 0]
 have hn0 : H w.heap.size = none := hP.holds.none_of_ge (Nat.le_refl _)
 have c2 := hd0.psr.blk.cell 2 rfl
 have hc256 : ((cnt : Int) == 256) = true := by simp; omega
 have hc256' : ((cnt : Int) = 256) = True := eq_true (by omega)
 have E := Hh (parse_full d (l.drop p) cnt (by omega))
 clear hc
 go_enter Tryd.func77, Tryd.ntmps77
 go_wp2_with (with_reducible refine stop_store ?_)
 unfold Stopped
 refine stI rfl rfl rfl rfl rfl hT0 rfl rfl rfl rfl rfl fun wz hTy hgz => ?_
 have hdz := hd0.grownRow (row := some w.heap.size) (by rintro q ⟨⟩; exact hn0) (by rintro q ⟨⟩; exact Nat.le_refl _) hgl hgz
 go_wp2_with fail
 refine ret_row_tmp rfl rfl hTy rfl rfl size_item rfl ?_
 exact ItemOut.err (q := 8) E.out rfl hdz
theorem p_item_head (hTab : Tabs H) (hlv : lv + d = 8) (hP : Psr 110 w g H A c l p cnt) (hc : cnt < 256) {q : Nat} (hh : headP (l.drop p) = .error q) : Calls Tryd.prog 77 #[.pointer (some ⟨g, 0, none⟩), .int .i64 (lv : Int)] w (ItemOut 110 w H g A c l p (parse d (l.drop p) cnt)) := by
 have hgl := hP.gt
 have hd0 := (Rdg.refl hP).alloc zeroO
 have hT0 := Blk.new w 69 #[.int .i64 0, .int .u64 0, .slice none 0 0, .slice none 0 0]
 have hn0 : H w.heap.size = none := hP.holds.none_of_ge (Nat.le_refl _)
 have c2 := hd0.psr.blk.cell 2 rfl
 have E := Hh (parse_head d (l.drop p) cnt (by omega) hh)
 have hq0 : ((q : Int) != 0) = true := by rw [bne_iff_ne]; have := headP_err hh; omega
 have hq0' : ((q : Int) = 0) = False := eq_false (by have := headP_err hh; omega)
 have hc256 : ((cnt : Int) == 256) = false := by simp; omega
 have hc256' : ((cnt : Int) = 256) = False := eq_false (by omega)
 have KC : IntKind.i64.wrap ((cnt : Int) + 1) = (cnt : Int) + 1 := IntWalk.i64_in _ (by omega)
 have HC := Hh hc
 clear hc
 go_enter Tryd.func77, Tryd.ntmps77
 go_wp2_with (with_reducible refine stop_store ?_)
 unfold Stopped
 refine wpList_store_cell rfl _ _ _ rfl rfl g 2 (.int .i64 ((cnt : Int) + 1)) rfl rfl _ _ hd0.psr.blk size_int1 (by simp) rfl fun w2 hB2 hG2 => ?_
 have hd2 : Rdg 110 w H w2 H g A c l p (cnt + 1) := hd0.step hG2 hB2 hP.le (by have := HC.out; omega)
 have hT2 := hT0.gr hG2 (by omega)
 have PH := Hh (p_head hd2.psr)
 clear hd0 hT0 hB2 hG2 c2 KC hc256 hc256'
 go_wp2_with fail
 refine PH.out.mono ?_
 intro e w3 hs
 rw [HeadSaid, hh] at hs
 obtain ⟨rfl, ⟨p', hp', hB3⟩, hG3⟩ := hs
 have hd3 : Rdg 110 w H w3 H g A c l p' (cnt + 1) := hd2.step hG3 hB3 hp' (by have := HC.out; omega)
 have hT3 := hT2.gr hG3 (by omega)
 clear hd2 hT2 hB3 hG3 PH hh
 go_wp2_with (with_reducible refine stop_store ?_)
 unfold Stopped
 refine stI rfl rfl rfl rfl rfl hT3 rfl rfl rfl rfl rfl fun wz hTy hgz => ?_
 have hdz := hd3.grownRow (row := some w.heap.size) (by rintro q ⟨⟩; exact hn0) (by rintro q ⟨⟩; exact Nat.le_refl _) hgl hgz
 go_wp2_with fail
 refine ret_row_tmp rfl rfl hTy rfl rfl size_item rfl ?_
 exact ItemOut.err E.out rfl hdz
theorem p_item_0 (hTab : Tabs H) (hlv : lv + d = 8) (hP : Psr 110 w g H A c l p cnt) (hc : cnt < 256) {f n k : Nat} (hh : headP (l.drop p) = .ok (f, n, k)) (hk : f / 32 = 0) : Calls Tryd.prog 77 #[.pointer (some ⟨g, 0, none⟩), .int .i64 (lv : Int)] w (ItemOut 110 w H g A c l p (parse d (l.drop p) cnt)) := by
 have hgl := hP.gt
 have hd0 := (Rdg.refl hP).alloc zeroO
 have hT0 := Blk.new w 69 #[.int .i64 0, .int .u64 0, .slice none 0 0, .slice none 0 0]
 have hn0 : H w.heap.size = none := hP.holds.none_of_ge (Nat.le_refl _)
 have c2 := hd0.psr.blk.cell 2 rfl
 have E : Hid (parse d (l.drop p) cnt = .ok (.mk 0 n [] []) k (cnt + 1)) := by rw [Hid, parse_num d (l.drop p) cnt (by omega) hh (by omega), hk]; rfl
 have S : (f : Int) / 32 = 0 := by omega
 have hc256 : ((cnt : Int) == 256) = false := by simp; omega
 have hc256' : ((cnt : Int) = 256) = False := eq_false (by omega)
 have KC : IntKind.i64.wrap ((cnt : Int) + 1) = (cnt : Int) + 1 := IntWalk.i64_in _ (by omega)
 have HC := Hh hc
 clear hc
 go_enter Tryd.func77, Tryd.ntmps77
 go_wp2_with (with_reducible refine stop_store ?_)
 unfold Stopped
 refine wpList_store_cell rfl _ _ _ rfl rfl g 2 (.int .i64 ((cnt : Int) + 1)) rfl rfl _ _ hd0.psr.blk size_int1 (by simp) rfl fun w2 hB2 hG2 => ?_
 have hd2 : Rdg 110 w H w2 H g A c l p (cnt + 1) := hd0.step hG2 hB2 hP.le (by have := HC.out; omega)
 have hT2 := hT0.gr hG2 (by omega)
 have PH := Hh (p_head hd2.psr)
 clear hd0 hT0 hB2 hG2 c2 KC hc256 hc256'
 go_wp2_with fail
 refine PH.out.mono ?_
 intro e w3 hs
 rw [HeadSaid, hh] at hs
 obtain ⟨rfl, hB3, hG3⟩ := hs
 have HS := headP_spec hh
 have hle3 : p + k ≤ l.length := by have := HS.le; rw [List.length_drop] at this; have := hP.le; omega
 have hd3 : Rdg 110 w H w3 H g A c l (p + k) (cnt + 1) := hd2.step hG3 hB3 hle3 (by have := HC.out; omega)
 have hT3 := hT2.gr hG3 (by omega)
 have HF := Hh HS
 clear hd2 hT2 hB3 hG3 PH HS hh
 go_wp2_with (with_reducible refine stop_store ?_)
 unfold Stopped
 refine stI rfl rfl rfl rfl rfl hT3 rfl rfl rfl rfl rfl fun wz hTy hgz => ?_
 have hdz := hd3.grownRow (row := some w.heap.size) (by rintro q ⟨⟩; exact hn0) (by rintro q ⟨⟩; exact Nat.le_refl _) hgl hgz
 go_wp2_with fail
 refine ret_row_tmp rfl rfl hTy rfl rfl size_item rfl ?_
 exact ItemOut.ok (ja := none) (jb := 0) (jc := none) (jd := 0) E.out rfl hdz (IsItem.plain _ 0 n (by omega) HF.out.n_lt)
theorem p_item_1 (hTab : Tabs H) (hlv : lv + d = 8) (hP : Psr 110 w g H A c l p cnt) (hc : cnt < 256) {f n k : Nat} (hh : headP (l.drop p) = .ok (f, n, k)) (hk : f / 32 = 1) : Calls Tryd.prog 77 #[.pointer (some ⟨g, 0, none⟩), .int .i64 (lv : Int)] w (ItemOut 110 w H g A c l p (parse d (l.drop p) cnt)) := by
 have hgl := hP.gt
 have hd0 := (Rdg.refl hP).alloc zeroO
 have hT0 := Blk.new w 69 #[.int .i64 0, .int .u64 0, .slice none 0 0, .slice none 0 0]
 have hn0 : H w.heap.size = none := hP.holds.none_of_ge (Nat.le_refl _)
 have c2 := hd0.psr.blk.cell 2 rfl
 have E : Hid (parse d (l.drop p) cnt = .ok (.mk 1 n [] []) k (cnt + 1)) := by rw [Hid, parse_num d (l.drop p) cnt (by omega) hh (by omega), hk]; rfl
 have S : (f : Int) / 32 = 1 := by omega
 have hc256 : ((cnt : Int) == 256) = false := by simp; omega
 have hc256' : ((cnt : Int) = 256) = False := eq_false (by omega)
 have KC : IntKind.i64.wrap ((cnt : Int) + 1) = (cnt : Int) + 1 := IntWalk.i64_in _ (by omega)
 have HC := Hh hc
 clear hc
 go_enter Tryd.func77, Tryd.ntmps77
 go_wp2_with (with_reducible refine stop_store ?_)
 unfold Stopped
 refine wpList_store_cell rfl _ _ _ rfl rfl g 2 (.int .i64 ((cnt : Int) + 1)) rfl rfl _ _ hd0.psr.blk size_int1 (by simp) rfl fun w2 hB2 hG2 => ?_
 have hd2 : Rdg 110 w H w2 H g A c l p (cnt + 1) := hd0.step hG2 hB2 hP.le (by have := HC.out; omega)
 have hT2 := hT0.gr hG2 (by omega)
 have PH := Hh (p_head hd2.psr)
 clear hd0 hT0 hB2 hG2 c2 KC hc256 hc256'
 go_wp2_with fail
 refine PH.out.mono ?_
 intro e w3 hs
 rw [HeadSaid, hh] at hs
 obtain ⟨rfl, hB3, hG3⟩ := hs
 have HS := headP_spec hh
 have hle3 : p + k ≤ l.length := by have := HS.le; rw [List.length_drop] at this; have := hP.le; omega
 have hd3 : Rdg 110 w H w3 H g A c l (p + k) (cnt + 1) := hd2.step hG3 hB3 hle3 (by have := HC.out; omega)
 have hT3 := hT2.gr hG3 (by omega)
 have HF := Hh HS
 clear hd2 hT2 hB3 hG3 PH HS hh
 go_wp2_with (with_reducible refine stop_store ?_)
 unfold Stopped
 refine stI rfl rfl rfl rfl rfl hT3 rfl rfl rfl rfl rfl fun wz hTy hgz => ?_
 have hdz := hd3.grownRow (row := some w.heap.size) (by rintro q ⟨⟩; exact hn0) (by rintro q ⟨⟩; exact Nat.le_refl _) hgl hgz
 go_wp2_with fail
 refine ret_row_tmp rfl rfl hTy rfl rfl size_item rfl ?_
 exact ItemOut.ok (ja := none) (jb := 0) (jc := none) (jd := 0) E.out rfl hdz (IsItem.plain _ 1 n (by omega) HF.out.n_lt)
theorem p_item_7 (hTab : Tabs H) (hlv : lv + d = 8) (hP : Psr 110 w g H A c l p cnt) (hc : cnt < 256) {f n k : Nat} (hh : headP (l.drop p) = .ok (f, n, k)) (hk : f / 32 = 7) : Calls Tryd.prog 77 #[.pointer (some ⟨g, 0, none⟩), .int .i64 (lv : Int)] w (ItemOut 110 w H g A c l p (parse d (l.drop p) cnt)) := by
 have hgl := hP.gt
 have hd0 := (Rdg.refl hP).alloc zeroO
 have hT0 := Blk.new w 69 #[.int .i64 0, .int .u64 0, .slice none 0 0, .slice none 0 0]
 have hn0 : H w.heap.size = none := hP.holds.none_of_ge (Nat.le_refl _)
 have c2 := hd0.psr.blk.cell 2 rfl
 have E0 := Hh (parse_seven d (l.drop p) cnt (by omega) hh hk)
 have S : (f : Int) / 32 = 7 := by omega
 have hc256 : ((cnt : Int) == 256) = false := by simp; omega
 have hc256' : ((cnt : Int) = 256) = False := eq_false (by omega)
 have KC : IntKind.i64.wrap ((cnt : Int) + 1) = (cnt : Int) + 1 := IntWalk.i64_in _ (by omega)
 have HC := Hh hc
 clear hc
 go_enter Tryd.func77, Tryd.ntmps77
 go_wp2_with (with_reducible refine stop_store ?_)
 unfold Stopped
 refine wpList_store_cell rfl _ _ _ rfl rfl g 2 (.int .i64 ((cnt : Int) + 1)) rfl rfl _ _ hd0.psr.blk size_int1 (by simp) rfl fun w2 hB2 hG2 => ?_
 have hd2 : Rdg 110 w H w2 H g A c l p (cnt + 1) := hd0.step hG2 hB2 hP.le (by have := HC.out; omega)
 have hT2 := hT0.gr hG2 (by omega)
 have PH := Hh (p_head hd2.psr)
 clear hd0 hT0 hB2 hG2 c2 KC hc256 hc256'
 go_wp2_with fail
 refine PH.out.mono ?_
 intro e w3 hs
 rw [HeadSaid, hh] at hs
 obtain ⟨rfl, hB3, hG3⟩ := hs
 have HS := headP_spec hh
 have hle3 : p + k ≤ l.length := by have := HS.le; rw [List.length_drop] at this; have := hP.le; omega
 have hd3 : Rdg 110 w H w3 H g A c l (p + k) (cnt + 1) := hd2.step hG3 hB3 hle3 (by have := HC.out; omega)
 have hT3 := hT2.gr hG3 (by omega)
 have HF := Hh HS
 clear hd2 hT2 hB3 hG3 PH HS hh
 have SV := Hh (fun w => cbor_seven f n HF.out.f_lt HF.out.low HF.out.n_lt (by
  intro h25
  obtain ⟨_, t, h1, _, h2⟩ := HF.out.wide (by omega)
  have := beN_lt t
  rw [h1, h25] at this
  rw [h2]; simpa using this) (by
  intro h26
  obtain ⟨_, t, h1, _, h2⟩ := HF.out.wide (by omega)
  have := beN_lt t
  rw [h1, h26] at this
  rw [h2]; simpa using this) w)
 go_wp2_with fail
 refine (SV.out _).mono ?_
 intro e w4 hs
 obtain ⟨hb4, hs⟩ := hs
 have hd4 := hd3.below_ hb4
 have hT4 := hT3.below hb4
 clear hd3 hT3 SV hb4
 cases hsv : sevenP (f % 32) n with
 | error q =>
  rw [hsv] at hs
  simp only at hs
  subst hs
  have E : Hid (parse d (l.drop p) cnt = .err q) := by rw [Hid, E0.out, hsv]
  go_wp2_with (with_reducible refine stop_store ?_)
  unfold Stopped
  refine stI rfl rfl rfl rfl rfl hT4 rfl rfl rfl rfl rfl fun wz hTy hgz => ?_
  have hdz := hd4.grownRow (row := some w.heap.size) (by rintro q ⟨⟩; exact hn0) (by rintro q ⟨⟩; exact Nat.le_refl _) hgl hgz
  go_wp2_with fail
  refine ret_row_tmp rfl rfl hTy rfl rfl size_item rfl ?_
  exact ItemOut.err E.out rfl hdz
 | ok x =>
  rw [hsv] at hs
  simp only at hs
  subst hs
  have E : Hid (parse d (l.drop p) cnt = .ok x k (cnt + 1)) := by rw [Hid, E0.out, hsv]
  have hxb : IsItem H none 0 none 0 x := seven_item HF.out hsv
  clear hsv
  go_wp2_with (with_reducible refine stop_store ?_)
  unfold Stopped
  refine stI rfl rfl rfl rfl rfl hT4 rfl rfl rfl rfl rfl fun wz hTy hgz => ?_
  have hdz := hd4.grownRow (row := some w.heap.size) (by rintro q ⟨⟩; exact hn0) (by rintro q ⟨⟩; exact Nat.le_refl _) hgl hgz
  go_wp2_with fail
  refine ret_row_tmp rfl rfl hTy rfl rfl size_item rfl ?_
  exact ItemOut.ok E.out rfl hdz hxb
theorem p_item_deep (hTab : Tabs H) (hlv : lv = 8) (hP : Psr 110 w g H A c l p cnt) (hc : cnt < 256) {f n k : Nat} (hh : headP (l.drop p) = .ok (f, n, k)) (h4 : 4 ≤ f / 32) (h6 : f / 32 ≤ 6) : Calls Tryd.prog 77 #[.pointer (some ⟨g, 0, none⟩), .int .i64 (lv : Int)] w (ItemOut 110 w H g A c l p (parse 0 (l.drop p) cnt)) := by
 have hgl := hP.gt
 have hd0 := (Rdg.refl hP).alloc zeroO
 have hT0 := Blk.new w 69 #[.int .i64 0, .int .u64 0, .slice none 0 0, .slice none 0 0]
 have hn0 : H w.heap.size = none := hP.holds.none_of_ge (Nat.le_refl _)
 have c2 := hd0.psr.blk.cell 2 rfl
 have E := Hh (parse_deep (l.drop p) cnt (by omega) hh h4 h6)
 obtain ⟨kd, hkd⟩ : ∃ kd, f / 32 = kd := ⟨_, rfl⟩
 have S : (f : Int) / 32 = (kd : Int) := by omega
 have s0 : ((kd : Int) == 0) = false := by simp; omega
 have s1 : ((kd : Int) == 1) = false := by simp; omega
 have s2 : ((kd : Int) == 2) = false := by simp; omega
 have s3 : ((kd : Int) == 3) = false := by simp; omega
 have s7 : ((kd : Int) == 7) = false := by simp; omega
 have q0 : ((kd : Int) = 0) = False := eq_false (by omega)
 have q1 : ((kd : Int) = 1) = False := eq_false (by omega)
 have q2 : ((kd : Int) = 2) = False := eq_false (by omega)
 have q3 : ((kd : Int) = 3) = False := eq_false (by omega)
 have q7 : ((kd : Int) = 7) = False := eq_false (by omega)
 have hkw : (kd : Int) ≤ 7 := by omega
 subst hlv
 clear hkd h4 h6
 have hc256 : ((cnt : Int) == 256) = false := by simp; omega
 have hc256' : ((cnt : Int) = 256) = False := eq_false (by omega)
 have KC : IntKind.i64.wrap ((cnt : Int) + 1) = (cnt : Int) + 1 := IntWalk.i64_in _ (by omega)
 have HC := Hh hc
 clear hc
 go_enter Tryd.func77, Tryd.ntmps77
 go_wp2_with (with_reducible refine stop_store ?_)
 unfold Stopped
 refine wpList_store_cell rfl _ _ _ rfl rfl g 2 (.int .i64 ((cnt : Int) + 1)) rfl rfl _ _ hd0.psr.blk size_int1 (by simp) rfl fun w2 hB2 hG2 => ?_
 have hd2 : Rdg 110 w H w2 H g A c l p (cnt + 1) := hd0.step hG2 hB2 hP.le (by have := HC.out; omega)
 have hT2 := hT0.gr hG2 (by omega)
 have PH := Hh (p_head hd2.psr)
 clear hd0 hT0 hB2 hG2 c2 KC hc256 hc256'
 go_wp2_with fail
 refine PH.out.mono ?_
 intro e w3 hs
 rw [HeadSaid, hh] at hs
 obtain ⟨rfl, hB3, hG3⟩ := hs
 have HS := headP_spec hh
 have hle3 : p + k ≤ l.length := by have := HS.le; rw [List.length_drop] at this; have := hP.le; omega
 have hd3 : Rdg 110 w H w3 H g A c l (p + k) (cnt + 1) := hd2.step hG3 hB3 hle3 (by have := HC.out; omega)
 have hT3 := hT2.gr hG3 (by omega)
 have HF := Hh HS
 clear hd2 hT2 hB3 hG3 PH HS hh
 go_wp2_with (with_reducible refine stop_store ?_)
 unfold Stopped
 refine stI rfl rfl rfl rfl rfl hT3 rfl rfl rfl rfl rfl fun wz hTy hgz => ?_
 have hdz := hd3.grownRow (row := some w.heap.size) (by rintro q ⟨⟩; exact hn0) (by rintro q ⟨⟩; exact Nat.le_refl _) hgl hgz
 go_wp2_with fail
 refine ret_row_tmp rfl rfl hTy rfl rfl size_item rfl ?_
 exact ItemOut.err E.out rfl hdz
end
theorem Rdg.gb {T : TypeId} {w w' w'' : World} {H H' : Snap} {g k : Nat} {A : Option Addr} {c : Nat} {l : List UInt8} {p cnt : Nat} (h : Rdg T w H w' H' g A c l p cnt) (h0 : H' k = none) (hw : w.heap.size ≤ k) (hlt : g < w.heap.size) (hg : w'.grownBy w'' (some k)) : Rdg T w H w'' H' g A c l p cnt := h.grownRow (row := some k) (by rintro q ⟨⟩; exact h0) (by rintro q ⟨⟩; exact hw) hlt hg
end Go.Proofs.YtlebpackbfcfeaaDoor
