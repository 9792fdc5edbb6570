/- squeezed. Walks: the program's reader of ite -/
import Derived.Test.YtlebpackbfcfeaaGreatDoorK24
import Derived.Test.YtlebpackbfcfeaaGreatDoorK17
import Derived.Test.YtlebpackbfcfeaaGreatDoorK16
import Derived.Test.YtlebpackbfcfeaaGreatDoorK20
import Derived.Test.YtlebpackbfcfeaaGreatDoorK00
import Derived.Test.YtlebpackbfcfeaaGreatDoorK19
set_option linter.unusedVariables false
set_option linter.unusedSimpArgs false
set_option maxRecDepth 100000
set_option maxHeartbeats 6400000
namespace Go.Proofs.YtlebpackbfcfeaaGreatDoor
open Go.RowKit
theorem lit_items_own {w wr : World} {H Hr : Snap} (_h : Grows w H wr Hr) {l : List Itm} {cs : List Value} (hc : ItemsC Hr cs l) (hm : l.length ≤ 4096) :
  OwnI (wr.alloc (.cells cs.toArray 31)) wr.heap.size (.slice (some ⟨wr.heap.size, 0, none⟩) l.length l.length) Hr l := OwnI.lit hc _ (Nat.le_refl _) hm
theorem lit_items {w wr : World} {H Hr : Snap} (h : Grows w H wr Hr) {l : List Itm} {cs : List Value} (hc : ItemsC Hr cs l) (hm : l.length ≤ 4096) :
  ∃ H', Grows w H (wr.alloc (.cells cs.toArray 31)) H' ∧ Hr.le H' ∧ IsRowI H' (some ⟨wr.heap.size, 0, none⟩) l.length l := by
 have hO := lit_items_own h hc hm;have hG := h.alloc (.cells cs.toArray 31);obtain ⟨H', hl, hh, hf, hz, h1, h2, h3⟩ := hO.snap hG.holds (fun q hq => by cases hq; exact h.holds.none_of_ge (Nat.le_refl _))
 refine ⟨H', ⟨hG.below, hG.le.trans hl, hh, fun b o hb => ?_⟩, hl, ⟨h1, h2, h3⟩⟩
 rcases hf b o hb with h4 | h4
 ·exact hG.fresh b o h4
 ·simp at h4; exact .inr (by have := h.size; omega)
theorem map_err {p : List UInt8 → Nat → PR} (hp : ∀ b c q, p b c = .err q → q ≠ 0) : ∀ (n : Nat) (b : List UInt8) (c : Nat) (last : Option (List UInt8)) (q : Nat), mapP p n b c last = .err q → q ≠ 0
 | 0, b, c, last, q, h => by rw [mapP] at h; cases h
 | n + 1, b, c, last, q, h => by
  rw [mapP] at h
  split at h
  ·rename_i h1
   injection h with h
   subst h
   exact hp _ _ _ h1
  ·split at h
   ·rename_i h2
    injection h with h
    subst h
    unfold keyP at h2
    repeat' split at h2
    all_goals first | (injection h2 with h2; omega) | cases h2
   ·split at h
    ·rename_i h3
     injection h with h
     subst h
     exact hp _ _ _ h3
    ·split at h
     ·rename_i h4
      injection h with h
      subst h
      exact map_err hp n _ _ _ _ h4
     ·cases h
theorem arr_err {p : List UInt8 → Nat → PR} (hp : ∀ b c q, p b c = .err q → q ≠ 0) : ∀ (n : Nat) (b : List UInt8) (c : Nat) (q : Nat), arrP p n b c = .err q → q ≠ 0
 | 0, b, c, q, h => by rw [arrP] at h; cases h
 | n + 1, b, c, q, h => by
  rw [arrP] at h
  split at h
  ·rename_i h1
   injection h with h
   subst h
   exact hp _ _ _ h1
  ·split at h
   ·rename_i h4
    injection h with h
    subst h
    exact arr_err hp n _ _ _ h4
   ·cases h
theorem parse_err : ∀ (d : Nat) (b : List UInt8) (c q : Nat), parse d b c = .err q → q ≠ 0 := by
 intro d
 induction d with
 | zero =>
  intro b c q h
  rw [parse.eq_def] at h
  simp only at h
  repeat' split at h
  all_goals first
   | (injection h with h; omega)
   | cases h
   | skip
  ·rename_i h1; have := headP_err h1; omega
  ·rename_i h1; have := sevenP_err h1; omega
 | succ d ih =>
  intro b c q h
  rw [parse.eq_def] at h
  simp only at h
  repeat' split at h
  all_goals first
   | (injection h with h; omega)
   | cases h
   | skip
  ·rename_i h1; have := headP_err h1; omega
  ·rename_i h1; have := sevenP_err h1; omega
  ·rename_i h1; exact ih _ _ _ h1
  ·rename_i h1; exact map_err ih _ _ _ _ _ h1
  ·rename_i h1; exact arr_err ih _ _ _ _ h1
section
variable {d : Nat} {w : World} {H : Snap} {g : Nat} {A : Option Addr} {c : Nat} {l : List UInt8} {p cnt lv : Nat}
theorem p_item_6 (ih : PItem d) (hTab : Tabs H) (hlv : lv + (d + 1) = 8) (hP : Psr 116 w g H A c l p cnt) (hc : cnt < 256) {f n k : Nat} (hh : headP (l.drop p) = .ok (f, n, k)) (hk : f / 32 = 6) : Calls Tryz.prog 73 #[.pointer (some ⟨g, 0, none⟩), .int .i64 (lv : Int)] w (ItemOut 116 w H g A c l p (parse (d + 1) (l.drop p) cnt)) := by
 have hgl := hP.gt;have hd0 := (Rdg.refl hP).alloc zeroO;have hT0 := Blk.new w 31 #[.int .i64 0, .int .u64 0, .slice none 0 0, .slice none 0 0];have hn0 : H w.heap.size = none := hP.holds.none_of_ge (Nat.le_refl _);have c2 := hd0.psr.blk.cell 2 rfl;have E0 := Hh (parse_tag d (l.drop p) cnt (by omega) hh hk);have S : (f : Int) / 32 = 6 := by omega
 have hlv1 : ¬ ((8 : Int) ≤ (lv : Int)) := by omega
 have KL : IntKind.i64.wrap ((lv : Int) + 1) = (lv : Int) + 1 := IntWalk.i64_in _ (by omega);have hlvi : (lv : Int) ≤ 8 := by omega
 have hc256 : ((cnt : Int) == 256) = false := by simp; omega
 have hc256' : ((cnt : Int) = 256) = False := eq_false (by omega);have KC : IntKind.i64.wrap ((cnt : Int) + 1) = (cnt : Int) + 1 := IntWalk.i64_in _ (by omega);have HC := Hh hc;clear hc;go_enter Tryz.func73, Tryz.ntmps73
 go_wp2_with (with_reducible refine stop_store ?_)
 refine wpList_store_cell rfl _ _ _ rfl rfl g 2 (.int .i64 ((cnt : Int) + 1)) rfl rfl _ _ hd0.psr.blk size_int1 (by simp) rfl fun w2 hB2 hG2 => ?_
 have hd2 : Rdg 116 w H w2 H g A c l p (cnt + 1) := hd0.step hG2 hB2 hP.le (by have := HC.out; omega);have hT2 := hT0.gr hG2 (by omega);have PH := Hh (p_head hd2.psr);clear hd0 hT0 hB2 hG2 c2 KC hc256 hc256';go_wp2_with fail
 refine PH.out.mono ?_
 intro e w3 hs
 rw [HeadSaid, hh] at hs;obtain ⟨rfl, hB3, hG3⟩ := hs;have HS := headP_spec hh;have hle3 : p + k ≤ l.length := by have := HS.le; rw [List.length_drop] at this; have := hP.le; omega
 have hd3 : Rdg 116 w H w3 H g A c l (p + k) (cnt + 1) := hd2.step hG3 hB3 hle3 (by have := HC.out; omega);have hT3 := hT2.gr hG3 (by omega);have HF := Hh HS;clear hd2 hT2 hB3 hG3 PH HS hh;have IT := ih w3 H g A c l (p + k) (cnt + 1) (lv + 1) hTab (by omega) hd3.psr;rw [show ((lv + 1 : Nat) : Int) = (lv : Int) + 1 by omega] at IT;have ITH := Hh IT;rw [List.drop_drop] at E0;clear IT;go_wp2_with fail
 refine ITH.out.mono ?_
 intro e w4 hs
 cases hp : parse d (l.drop (p + k)) (cnt + 1) with
 | err q =>
  rw [hp, ItemOut] at hs;obtain ⟨rfl, H4, p4, cnt4, hd34⟩ := hs;have hq0 : ((q : Int) != 0) = true := by rw [bne_iff_ne]; have := parse_err _ _ _ _ hp; omega
  have hq0' : ((q : Int) = 0) = False := eq_false (by have := parse_err _ _ _ _ hp; omega);have E : Hid (parse (d + 1) (l.drop p) cnt = .err q) := by rw [Hid, E0.out, hp]
  have hd4 := hd3.trans hd34;have hT4 := hT3.rdg hd34 (by omega);have hn4 := hd34.hid hn0 hT3.lt;have hX := Blk.new w4 31 #[.int .i64 0, .int .u64 0, .slice none 0 0, .slice none 0 0];have hd5 := hd4.alloc zeroO;have hT5 := hT4.alloc zeroO;have hd4h := Hh hd4.psr.holds;have hT4l := Hh hT4.lt;clear hd34 hd3 hT3 ITH hp E0 hd4 hT4;have hge4 : w.heap.size ≤ w4.heap.size := Nat.le_of_lt hT4l.out;have hH5 := (Holds.none_of_ge (w := w4) (H := H4) (hd4h.out) (Nat.le_refl _))
  go_wp2_with (with_reducible refine stop_store ?_)
  refine stI hX fun w6 hX6 hg6 => ?_
  have hd6 := hd5.gb hH5 hge4 hgl hg6;have hT6 := hT5.grown hg6 (by intro e; injection e with e; have := hT4l.out; omega);clear hd5 hT5 hX hg6 hX6;go_wp2_with (with_reducible refine stop_store ?_)
  refine stI hT6 fun wz hTy hgz => ?_
  have hdz := hd6.gb hn4 (Nat.le_refl _) hgl hgz;go_wp2_with fail
  refine ret_row_tmp rfl rfl hTy rfl rfl size_item rfl ?_
  exact ItemOut.err E.out rfl hdz
 | ok x k' c' =>
  rw [hp, ItemOut] at hs;obtain ⟨ja, jb, jc, jd, H4, rfl, hd34, hi4⟩ := hs;have E : Hid (parse (d + 1) (l.drop p) cnt = .ok (.mk 6 n [] [x]) (k + k') c') := by rw [Hid, E0.out, hp]
  have hd4 := hd3.trans hd34;have hT4 := hT3.rdg hd34 (by omega);have hn4 := hd34.hid hn0 hT3.lt;have hX := Blk.new w4 31 #[.int .i64 0, .int .u64 0, .slice none 0 0, .slice none 0 0];have hd5 := hd4.alloc zeroO;have hT5 := hT4.alloc zeroO;have hd4h := Hh hd4.psr.holds;have hT4l := Hh hT4.lt;clear hd34 hd3 hT3 ITH hp E0 hd4 hT4;have hge4 : w.heap.size ≤ w4.heap.size := Nat.le_of_lt hT4l.out;have hH5 := (Holds.none_of_ge (w := w4) (H := H4) (hd4h.out) (Nat.le_refl _))
  go_wp2_with (with_reducible refine stop_store ?_)
  refine stI hX fun w6 hX6 hg6 => ?_
  have hd6 := hd5.gb hH5 hge4 hgl hg6;have hT6 := hT5.grown hg6 (by intro e; injection e with e; have := hT4l.out; omega);have b0 := hX6.cell 0 rfl;have b1 := hX6.cell 1 rfl;have b2 := hX6.cell 2 rfl;have b3 := hX6.cell 3 rfl;obtain ⟨H7, hG7, hl7, hr7⟩ := lit_items (Grows.refl hd6.psr.holds) (ItemsC.one hi4) (by simp);have hd7 := hd6.grown hG7;have hT7 := hT6.alloc (.cells (itemC x ja jb jc jd).toArray 31);have hn7 := hG7.none hn4 hT6.lt;have hnl := Hh HF.out.n_lt;clear hd5 hT5 hX hg6 hX6 hd6 hT6 hG7;go_wp2_with (with_reducible refine stop_store ?_)
  refine stI hT7 fun wz hTy hgz => ?_
  have hdz := hd7.gb hn7 (Nat.le_refl _) hgl hgz;go_wp2_with fail
  refine ret_row_tmp rfl rfl hTy rfl rfl size_item rfl ?_
  exact ItemOut.ok E.out rfl (by rw [← Nat.add_assoc]; exact hdz) (hr7.item 6 (by omega) n hnl.out)
end
def suitesL (L : List Itm) : Except Nat (List Int) :=
 match numsE L with
 | none => .error 4
 | some l => if twice l then .error 7 else if 8 < l.length then .error 8 else .ok l
theorem suitesE_0 (x : Itm) (h : x.kind = 0) : suitesE x = suitesL [x] := by
 rw [suitesE, if_pos h, suitesL, numsE]
 by_cases hn : x.n ≤ 65535
 ·have : numE x 65535 = some (x.n : Int) := by rw [numE, if_pos ⟨h, hn⟩]
  rw [if_pos hn, this]; simp only
  rw [if_neg (by omega), numsE]; simp [twice]
 ·have : numE x 65535 = none := by rw [numE, if_neg (fun h => hn h.2), if_neg (fun h' => by omega)]
  rw [if_neg hn, this]
theorem suitesE_4 (x : Itm) (h : x.kind = 4) (h2 : 2 ≤ x.items.length) : suitesE x = suitesL x.items := by
 rw [suitesE, if_neg (by omega), if_neg (by omega), suitesL]
 cases numsE x.items <;> rfl
theorem suitesE_no (x : Itm) (h0 : x.kind ≠ 0) (h : x.kind ≠ 4 ∨ x.items.length < 2) : suitesE x = .error 4 := by
 rw [suitesE, if_neg h0, if_pos h]
theorem numsE_take_bad {L : List Itm} {k : Nat} {a : List Int} (hk : k < L.length) (ha : numsE (L.take k) = some a) (h : numE L[k] 65535 = none ∨ ∃ v, numE L[k] 65535 = some v ∧ v < 0) : numsE L = none := by
 have e : L = L.take k ++ (L[k] :: L.drop (k + 1)) := by rw [← List.drop_eq_getElem_cons hk, List.take_append_drop]
 rw [e, numsE_app, ha]
 simp only
 rw [numsE]
 rcases h with h | ⟨v, h, hv⟩
 ·rw [h]
 ·rw [h]; simp only; rw [if_pos hv]
theorem numsE_take_ok {L : List Itm} {k : Nat} {a : List Int} {v : Int} (hk : k < L.length) (ha : numsE (L.take k) = some a) (h : numE L[k] 65535 = some v) (hv : ¬ v < 0) : numsE (L.take (k + 1)) = some (a ++ [v]) := by
 rw [List.take_succ_eq_append_getElem hk, numsE_app, ha]
 simp only
 rw [numsE, h]
 simp only
 rw [if_neg hv, numsE]
def bytesE (b : List UInt8) : Except Nat (List UInt8 × Nat) :=
 match prefixP b with
 | .err e => .error e
 | .ok x k _ => if x.kind ≠ 2 ∨ x.bytes.length < 1 ∨ 64 < x.bytes.length then .error 4 else .ok (x.bytes, k)
def d4 (m : Int) (su : List Int) (gx cn : List UInt8) (b : List UInt8) : Except Nat First :=
 match decExt b with
 | .error e => .error e
 | .ok ext => .ok ⟨m, su, gx, cn, ext⟩
def d3 (m : Int) (su : List Int) (gx : List UInt8) (b : List UInt8) : Except Nat First :=
 match parseConn b with
 | .error e => .error e
 | .ok (c, k4) => d4 m su gx c (b.drop k4)
def d2 (m : Int) (su : List Int) (b : List UInt8) : Except Nat First :=
 match bytesE b with
 | .error e => .error e
 | .ok (gx, k3) => d3 m su gx (b.drop k3)
def d1 (m : Int) (b : List UInt8) : Except Nat First :=
 match prefixP b with
 | .err e => .error e
 | .ok y k2 _ => match suitesE y with
  | .error e => .error e
  | .ok l => d2 m l (b.drop k2)
theorem decFirst_long {b : List UInt8} (h : 600 < b.length) : decFirst b = .error 8 := by rw [decFirst, if_pos h]
theorem decFirst_err {b : List UInt8} (h : ¬ 600 < b.length) {q : Nat} (hp : prefixP b = .err q) : decFirst b = .error q := by rw [decFirst, if_neg h, hp]
theorem decFirst_form {b : List UInt8} (h : ¬ 600 < b.length) {x : Itm} {k c : Nat} (hp : prefixP b = .ok x k c) (hx : x.kind ≠ 0 ∨ 3 < x.n) : decFirst b = .error 4 := by rw [decFirst, if_neg h, hp]; simp only; rw [if_pos hx]
theorem decFirst_go {b : List UInt8} (h : ¬ 600 < b.length) {x : Itm} {k c : Nat} (hp : prefixP b = .ok x k c) (hx : ¬ (x.kind ≠ 0 ∨ 3 < x.n)) : decFirst b = d1 (x.n : Int) (b.drop k) := by
 rw [decFirst, if_neg h, hp]; simp only; rw [if_neg hx, d1]
 cases prefixP (b.drop k) with
 | err e => rfl
 | ok y k2 c2 =>
  simp only
  cases suitesE y with
  | error e => rfl
  | ok l =>
   simp only
   rw [d2, bytesE]
   cases prefixP ((b.drop k).drop k2) with
   | err e => rfl
   | ok z k3 c3 =>
    simp only
    by_cases hz : z.kind ≠ 2 ∨ z.bytes.length < 1 ∨ 64 < z.bytes.length
    ·rw [if_pos hz, if_pos hz]
    ·rw [if_neg hz, if_neg hz]
     simp only
     rw [d3]
     cases parseConn (((b.drop k).drop k2).drop k3) with
     | error e => rfl
     | ok r =>
      obtain ⟨c, k4⟩ := r
      simp only
      rw [d4]
      cases decExt ((((b.drop k).drop k2).drop k3).drop k4) <;> rfl
theorem parseConn_le {b c : List UInt8} {k : Nat} (h : parseConn b = .ok (c, k)) : k ≤ b.length ∧ 0 < k ∧ c.length ≤ 7 := by
 cases b with
 | nil => simp [parseConn] at h
 | cons x t =>
  rw [parseConn] at h
  repeat' split at h
  all_goals (cases h)
  all_goals (simp only [List.length_cons, List.length_take, List.length_nil] at *; omega)
theorem parseConn_err {b : List UInt8} {q : Nat} (h : parseConn b = .error q) : q ≠ 0 := by
 cases b with
 | nil => simp [parseConn] at h; omega
 | cons x t =>
  rw [parseConn] at h
  repeat' split at h
  all_goals (cases h)
  all_goals omega
theorem decE_errs : ∀ (n : Nat) (out : List Ext) (b : List UInt8) (q : Nat), decExtN n out b = .error q → q ≠ 0
 | 0, out, b, q, h => by rw [decExtN] at h; cases h
 | n + 1, out, b, q, h => by
  rw [decExtN] at h
  split at h
  ·cases h
  split at h
  ·rename_i e hp; injection h with h; subst h; exact parse_err _ _ _ _ hp
  ·split at h
   ·split at h
    ·injection h with h; omega
    ·split at h
     ·injection h with h; omega
     ·split at h
      ·injection h with h; omega
      ·exact decE_errs n _ _ _ h
   ·split at h
    ·injection h with h; omega
    ·split at h
     ·injection h with h; omega
     ·exact decE_errs n _ _ _ h
theorem decExt_err {b : List UInt8} {q : Nat} (h : decExt b = .error q) : q ≠ 0 := decE_errs _ _ _ _ h
theorem suitesE_err {x : Itm} {q : Nat} (h : suitesE x = .error q) : q ≠ 0 := by
 rw [suitesE] at h
 repeat' split at h
 all_goals first
  | (injection h with h; omega)
  | cases h
theorem bytesE_err {b : List UInt8} {q : Nat} (h : bytesE b = .error q) : q ≠ 0 := by
 rw [bytesE] at h
 repeat' split at h
 all_goals first
  | (rename_i hp; injection h with h; subst h; exact parse_err _ _ _ _ hp)
  | (injection h with h; omega)
  | cases h
structure Lie (α : Type) where
 k : Nat
 pos : 0 < k
 E : Snap → α → List Value → Prop
 len : ∀ {H x c}, E H x c → c.length = k
 one : ∀ {H x c}, E H x c → ∀ u ∈ c, u.oneCell' = true
 mono : ∀ {H K x c}, H.le K → E H x c → E K x c
section
variable {α : Type} {L : Lie α}
def RowC (L : Lie α) (H : Snap) : List Value → List α → Prop
 | cs, [] => cs = []
 | cs, x :: l => ∃ c rest, cs = c ++ rest ∧ L.E H x c ∧ RowC L H rest l
theorem RowC.nil (L : Lie α) (H : Snap) : RowC L H [] [] := by rw [RowC]
theorem RowC.len {H : Snap} : ∀ {l : List α} {cs : List Value}, RowC L H cs l → cs.length = l.length * L.k
 | [], cs, h => by rw [RowC] at h; subst h; simp
 | x :: l, cs, h => by
  obtain ⟨c, rest, rfl, hx, hr⟩ := h;rw [List.length_append, L.len hx, hr.len, List.length_cons, Nat.succ_mul, Nat.add_comm]
theorem RowC.mono {H K : Snap} (hl : H.le K) : ∀ {l : List α} {cs : List Value}, RowC L H cs l → RowC L K cs l
 | [], cs, h => h
 | x :: l, cs, h => by
  obtain ⟨c, rest, e, hx, hr⟩ := h
  exact ⟨c, rest, e, L.mono hl hx, hr.mono hl⟩
theorem RowC.one {H : Snap} {x : α} {c : List Value} (h : L.E H x c) : RowC L H c [x] := ⟨c, [], by simp, h, RowC.nil L H⟩
theorem RowC.app {H : Snap} : ∀ {l m : List α} {cs ds : List Value}, RowC L H cs l → RowC L H ds m → RowC L H (cs ++ ds) (l ++ m)
 | [], m, cs, ds, h, hd => by rw [RowC] at h; subst h; exact hd
 | x :: l, m, cs, ds, h, hd => by
  obtain ⟨c, rest, rfl, hx, hr⟩ := h
  exact ⟨c, rest ++ ds, by simp, hx, hr.app hd⟩
theorem RowC.oneCell {H : Snap} : ∀ {l : List α} {cs : List Value}, RowC L H cs l → ∀ u ∈ cs, u.oneCell' = true
 | [], cs, h => by rw [RowC] at h; subst h; simp
 | x :: l, cs, h => by
  obtain ⟨c, rest, rfl, hx, hr⟩ := h
  intro u hu
  rw [List.mem_append] at hu
  rcases hu with hu | hu
  ·exact L.one hx u hu
  ·exact hr.oneCell u hu
theorem RowC.get {H : Snap} : ∀ {l : List α} {cs : List Value}, RowC L H cs l → ∀ (j : Nat) (hj : j < l.length), ∃ c, L.E H l[j] c ∧ ∀ i v, c[i]? = some v → cs[j * L.k + i]? = some v
 | [], _, _, j, hj => by simp at hj
 | x :: l, cs, h, 0, _ => by
  obtain ⟨c, rest, rfl, hx, hr⟩ := h
  refine ⟨c, hx, fun i v hi => ?_⟩
  rw [Nat.zero_mul, Nat.zero_add, List.getElem?_append_left (List.getElem?_eq_some_iff.1 hi).1]
  exact hi
 | x :: l, cs, h, j + 1, hj => by
  obtain ⟨c, rest, rfl, hx, hr⟩ := h;obtain ⟨c', hc', hi'⟩ := hr.get j (by simpa using hj)
  refine ⟨c', by simpa using hc', fun i v hi => ?_⟩
  have := hi' i v hi;rw [List.getElem?_append_right (by rw [L.len hx, Nat.succ_mul]; omega), L.len hx, show (j + 1) * L.k + i - L.k = j * L.k + i by rw [Nat.succ_mul]; omega]
  exact this
theorem RowC.snoc {H : Snap} : ∀ {l : List α} {x : α} {cs : List Value}, RowC L H cs (l ++ [x]) → ∃ cs0 c, cs = cs0 ++ c ∧ RowC L H cs0 l ∧ L.E H x c
 | [], x, cs, h => by
  obtain ⟨c, rest, rfl, hx, hr⟩ := h;rw [RowC] at hr;subst hr
  exact ⟨[], c, by simp, RowC.nil L H, hx⟩
 | y :: l, x, cs, h => by
  obtain ⟨c, rest, rfl, hy, hr⟩ := h;obtain ⟨cs0, c', rfl, h0, hx⟩ := RowC.snoc hr
  exact ⟨c ++ cs0, c', by simp, ⟨c, cs0, rfl, hy, h0⟩, hx⟩
structure IsRow (L : Lie α) (H : Snap) (A : Option Addr) (c : Nat) (l : List α) : Prop where
 le : l.length ≤ c
 max : c ≤ 9223372036854775807
 row : 0 < l.length → ∃ b off cs, A = some ⟨b, off, none⟩ ∧ RowC L H cs l ∧ Cells H b off cs
theorem IsRow.nil (L : Lie α) (H : Snap) : IsRow L H none 0 [] := ⟨by simp, by omega, by simp⟩
theorem IsRow.mono {H K : Snap} {A : Option Addr} {c : Nat} {l : List α} (h : IsRow L H A c l) (hl : H.le K) : IsRow L K A c l := ⟨h.le, h.max, fun h0 => by
 obtain ⟨b, off, cs, e, h1, h2⟩ := h.row h0
 exact ⟨b, off, cs, e, h1.mono hl, fun j v hj => hl.cell (h2 j v hj)⟩⟩
theorem IsRow.at_ {H : Snap} {A : Option Addr} {c : Nat} {l : List α} (h : IsRow L H A c l) (h0 : 0 < l.length) : ∃ b off, A = some ⟨b, off, none⟩ ∧ ∀ j (hj : j < l.length), ∃ d, L.E H l[j] d ∧ ∀ i v, d[i]? = some v → H.cell? ⟨b, off + (j * L.k + i), none⟩ = some v := by
 obtain ⟨b, off, cs, e, h1, h2⟩ := h.row h0
 refine ⟨b, off, e, fun j hj => ?_⟩
 obtain ⟨d, hd, hi⟩ := h1.get j hj
 exact ⟨d, hd, fun i v hv => h2 _ _ (hi i v hv)⟩
def OwnX (L : Lie α) (t : TypeId) (w : World) (base : Nat) (v : Value) (H : Snap) (l : List α) : Prop := ∃ cs, RowC L H cs l ∧ w.ownsRow base t L.k v l.length cs
variable {t : TypeId} {w w' : World} {base : Nat} {v : Value} {H : Snap} {l : List α}
theorem OwnX.nil (L : Lie α) (t : TypeId) (w : World) (base : Nat) (H : Snap) : OwnX L t w base (.slice none 0 0) H [] := ⟨[], RowC.nil L H, World.ownsRow_nil _ _ _ _⟩
theorem OwnX.lt (h : OwnX L t w base v H l) : ∀ k, v.ownBlock = some k → base ≤ k ∧ k < w.heap.size := by obtain ⟨_, _, h⟩ := h; exact World.ownsRow.lt h
theorem OwnX.kept {row : Option Nat} (h : OwnX L t w base v H l) (hg : w.grownBy w' row) (hne : v.ownBlock = none ∨ v.ownBlock ≠ row) : OwnX L t w' base v H l := by
 obtain ⟨cs, hc, h⟩ := h; exact ⟨cs, hc, World.ownsRow.kept h hg hne⟩
theorem OwnX.below (h : OwnX L t w base v H l) (hb : Below w.heap.size w w') : OwnX L t w' base v H l := by
 refine h.kept (grown_of_below hb none) ?_
 cases hv : v.ownBlock with
 | none => exact .inl rfl
 | some g => exact .inr (by simp)
theorem OwnX.alloc (h : OwnX L t w base v H l) (o : Obj) : OwnX L t (w.alloc o) base v H l := h.below (below_box w o)
theorem OwnX.mono {K : Snap} (h : OwnX L t w base v H l) (hl : H.le K) : OwnX L t w base v K l := by obtain ⟨cs, hc, h⟩ := h; exact ⟨cs, hc.mono hl, h⟩
theorem OwnX.form (h : OwnX L t w base v H l) : ∃ A c, v = .slice A l.length c ∧ l.length ≤ c ∧ c ≤ 9223372036854775807 := by
 obtain ⟨cs, hc, h⟩ := h
 rcases h.2 with ⟨rfl, hz⟩ | ⟨g, cap, cur, rfl, _, _, hn, hm, _⟩
 ·exact ⟨none, 0, by rw [hz], by omega, by omega⟩
 ·exact ⟨_, cap, rfl, hn, by simpa [maxLen] using hm⟩
theorem OwnX.snap {A : Option Addr} {m c : Nat} (h : OwnX L t w base (.slice A m c) H l) (hw : Holds w H) (hn : ∀ g, A.map (·.block) = some g → H g = none) :
  ∃ H', H.le H' ∧ Holds w H' ∧ (∀ b o, H' b = some o → H b = some o ∨ A.map (·.block) = some b) ∧ m = l.length ∧ IsRow L H' A c l := by
 obtain ⟨cs, hcs, h⟩ := h
 rcases h.2 with ⟨hv, hz⟩ | ⟨g, cap, cur, hv, _, hg, hc, hm, hcz, ht⟩
 ·cases hv
  exact ⟨H, Snap.le.refl _, hw, fun _ _ h => .inl h, hz.symm, ⟨by omega, by omega, by omega⟩⟩
 ·cases hv
  have hg0 : H g = none := hn g rfl
  refine ⟨H.with g (.cells cur t), Snap.le_with hg0, hw.with hg, fun b o hb => ?_, rfl, hc, by simpa [maxLen] using hm, fun _ => ⟨g, 0, cs, rfl, hcs.mono (Snap.le_with hg0), fun j v hj => ?_⟩⟩
  ·unfold Snap.with at hb
   split at hb
   ·subst b; exact .inr rfl
   ·exact .inl hb
  ·rw [← ht, List.getElem?_take] at hj
   split at hj
   ·simp [Snap.cell?, Snap.with]
    simpa using hj
   ·cases hj
theorem OwnX.at_ {A : Option Addr} {m c : Nat} (h : OwnX L t w base (.slice A m c) H l) (j : Nat) (hj : j < l.length) : ∃ g, A = some ⟨g, 0, none⟩ ∧ ∃ d, L.E H l[j] d ∧ ∀ i v, d[i]? = some v → w.cell? ⟨g, j * L.k + i, none⟩ = some v := by
 obtain ⟨cs, hcs, h⟩ := h
 rcases h.2 with ⟨hv, hz⟩ | ⟨g, cap, cur, hv, _, hg, hc, hm, hcz, ht⟩
 ·omega
 ·cases hv
  obtain ⟨d, hd, hi⟩ := hcs.get j hj
  refine ⟨g, rfl, d, hd, fun i v hv => ?_⟩
  have hx := hi i v hv;rw [← ht, List.getElem?_take] at hx
  split at hx
  ·exact (cell_of_row w g _ cur t (0, 0) hg).trans (by simpa using hx)
  ·cases hx
theorem OwnX.last {A : Option Addr} {m c : Nat} {x : α} (h : OwnX L t w base (.slice A m c) H (l ++ [x])) : ∃ g cur d, A = some ⟨g, 0, none⟩ ∧ base ≤ g ∧ Blk w g t cur ∧ l.length * L.k + L.k ≤ cur.size ∧ L.E H x d ∧ (∀ i v, d[i]? = some v → w.cell? ⟨g, l.length * L.k + i, none⟩ = some v) ∧
  ∀ (w' : World) (i : Nat) (u : Value) (y : α), i < L.k → Blk w' g t (cur.setIfInBounds (l.length * L.k + i) u) → L.E H y (d.set i u) → OwnX L t w' base (.slice A m c) H (l ++ [y]) := by
 obtain ⟨cs, hcs, h⟩ := h;obtain ⟨cs0, d, rfl, h0, hx⟩ := hcs.snoc
 rcases h.2 with ⟨hv, hz⟩ | ⟨g, cap, cur, hv, hb, hg, hc, hm, hcz, ht⟩
 ·simp at hz
 ·cases hv
  have hl := h0.len;have hd := L.len hx
  refine ⟨g, cur, d, rfl, hb, hg, ?_, hx, fun i v hv => ?_, fun w' i u y hi hB hy => ⟨cs0 ++ d.set i u, h0.app (RowC.one hy), ?_, .inr ⟨g, c, _, by rw [List.length_append, List.length_append]; rfl, hb, hB, by rw [List.length_append] at hc ⊢; exact hc, hm, by rw [Array.size_setIfInBounds, hcz], ?_⟩⟩⟩
  ·rw [hcz];have : (l ++ [x]).length * L.k ≤ c * L.k := Nat.mul_le_mul_right _ hc;rw [List.length_append, List.length_singleton, Nat.succ_mul] at this
   omega
  ·have hid := (List.getElem?_eq_some_iff.1 hv).1;have hx2 : (cs0 ++ d)[l.length * L.k + i]? = some v := by rw [List.getElem?_append_right (by omega), hl, Nat.add_sub_cancel_left]; exact hv
   rw [← ht, List.getElem?_take] at hx2
   split at hx2
   ·exact (cell_of_row w g _ cur t (0, 0) hg).trans (by simpa using hx2)
   ·cases hx2
  ·have := h.1
   simp only [List.length_append, List.length_set, List.length_singleton] at this ⊢
   exact this
  ·rw [Array.toList_setIfInBounds];have e1 : (l ++ [y]).length * L.k = (l ++ [x]).length * L.k := by simp
   rw [e1, List.take_set, ht, ← hl, List.set_append_right _ _ (by omega)];congr 2
   omega
theorem OwnX.append {ops : Array Oper} {rest : List Oper} {o : Oper} {a : Act} {Q : Exit → Act → World → Prop} (hgd : o.guard = none) (s x : Operand) (T : TypeId)
  (ho : o.op = .call { callee := .builtin .append, args := #[s, x], argTypes := #[T, T] }) (hT : Tryz.prog.underlying T = some (.slice t)) {z : Value} {bytes : Nat} (hzs : z.cells.size = L.k) (hby : bytes ≤ 128)
  (hinfo : (Tryz.prog.info? t).map (fun i => (i.zero, i.size, i.bytes)) = some (some z, L.k, bytes))
  (hs : a.eval s = v) (hown : OwnX L t w base v H l) (A : Option Addr) (m c : Nat) (cs : List Value) (news : List α) (hx : a.eval x = .slice A m c) (hm : m = news.length)
  (hn : RowC L H cs news) (hr : Src w A cs) (hlen : l.length + news.length ≤ 1099511627776) (hbase : base ≤ w.heap.size)
  (h : ∀ v' w', OwnX L t w' base v' H (l ++ news) → w.grownBy w' v.ownBlock → At0 w v.ownBlock v'.ownBlock → wpList Tryz.prog ops Q rest (a.put o.dst v') w') :
  wpList Tryz.prog ops Q (o :: rest) a w := by
 subst hm;obtain ⟨xs, hxs, hown⟩ := hown;obtain ⟨i0, hi0, hz0, hz1, hz2⟩ := info_parts hinfo
 refine wpList_plain hgd fun K hK => wp_append_src s x _ ho base t i0 _ L.k bytes hT hi0 hz0 hz1 hz2 hzs L.pos v l.length xs hs hown A news.length c cs hx hn.len hr hn.oneCell
  (by simp only [maxLen]; omega) (by have := Nat.mul_le_mul hlen hby; omega) hbase fun v' w' h2 h3 h4 => hK _ _ (h v' w' ?_ h3 ?_)
 ·exact ⟨xs ++ cs, hxs.app hn, by simpa using h2⟩
 ·rcases h4 with h4 | h4
  ·exact .inl h4
  ·exact .inr ⟨_, h4, Nat.le_refl _⟩
end
def lieI : Lie Int where
 k := 1
 pos := by omega
 E := fun _ x c => c = [.int .i64 x]
 len := by rintro _ _ _ rfl; rfl
 one := by rintro _ _ _ rfl; simp [Value.oneCell']
 mono := fun _ h => h
def lieB : Lie (List UInt8) where
 k := 1
 pos := by omega
 E := fun H x c => ∃ A cc, c = [.slice A x.length cc] ∧ IsBytes H A cc x
 len := by rintro _ _ _ ⟨_, _, rfl, _⟩; rfl
 one := by rintro _ _ _ ⟨_, _, rfl, _⟩; simp [Value.oneCell']
 mono := by rintro H K x c hl ⟨A, cc, e, h⟩; exact ⟨A, cc, e, h.mono hl⟩
def PL.pre (L : List Itm) (k0 : Nat) : PL → PL
 | .err q => .err q
 | .ok l k c => .ok (L ++ l) (k0 + k) c
theorem arr_err_step {p : List UInt8 → Nat → PR} {m : Nat} {b : List UInt8} {cc q : Nat} (L : List Itm) (k0 : Nat) (h : p b cc = .err q) : (arrP p (m + 1) b cc).pre L k0 = .err q := by rw [arrP, h]; rfl
theorem arr_ok_step {p : List UInt8 → Nat → PR} {m : Nat} {b : List UInt8} {cc k c' : Nat} {x : Itm} (L : List Itm) (k0 : Nat) (h : p b cc = .ok x k c') : (arrP p (m + 1) b cc).pre L k0 = (arrP p m (b.drop k) c').pre (L ++ [x]) (k0 + k) := by
 rw [arrP, h]
 simp only
 cases arrP p m (b.drop k) c' with
 | err q => rfl
 | ok l k2 c2 => simp [PL.pre, Nat.add_assoc]
theorem pre_nil (r : PL) : r.pre [] 0 = r := by cases r <;> simp [PL.pre]
theorem Rdg.snap {T : TypeId} {w w' : World} {H H' H'' : Snap} {g B : Nat} {A0 : Option Addr} {c : Nat} {l : List UInt8} {p cnt : Nat} {A : Option Addr} (h : Rdg T w H w' H' g A0 c l p cnt) (hl : H'.le H'') (hh : Holds w' H'') (hf : ∀ b o, H'' b = some o → H' b = some o ∨ A.map (·.block) = some b)
  (hA : ∀ q, A.map (·.block) = some q → B ≤ q) (hB : w.heap.size ≤ B) (hg : g < w.heap.size) : Rdg T w H w' H'' g A0 c l p cnt := by
 refine ⟨⟨h.grows.grown, h.grows.le.trans hl, hh, fun b o hb => ?_⟩, h.psr.blk, h.psr.bytes.mono hl, hh, ?_, h.psr.le, h.psr.small, h.psr.cnt_le⟩
 ·rcases hf b o hb with h1 | h1
  ·exact h.grows.fresh b o h1
  ·exact .inr (by have := hA _ h1; omega)
 ·cases hx : H'' g with
  | none => rfl
  | some o =>
   rcases hf g o hx with h1 | h1
   ·rw [h.psr.apart] at h1; cases h1
   ·have := hA _ h1; omega
section
variable {d : Nat} {w : World} {H : Snap} {g : Nat} {A : Option Addr} {c : Nat} {l : List UInt8} {p cnt lv : Nat}
theorem p_item_4 (ih : PItem d) (hTab : Tabs H) (hlv : lv + (d + 1) = 8) (hP : Psr 116 w g H A c l p cnt) (hc : cnt < 256) {f n k : Nat} (hh : headP (l.drop p) = .ok (f, n, k)) (hk : f / 32 = 4) : Calls Tryz.prog 73 #[.pointer (some ⟨g, 0, none⟩), .int .i64 (lv : Int)] w (ItemOut 116 w H g A c l p (parse (d + 1) (l.drop p) cnt)) := by
 have hgl := hP.gt;have hd0 := (Rdg.refl hP).alloc zeroO;have hT0 := Blk.new w 31 #[.int .i64 0, .int .u64 0, .slice none 0 0, .slice none 0 0];have hn0 : H w.heap.size = none := hP.holds.none_of_ge (Nat.le_refl _);have c2 := hd0.psr.blk.cell 2 rfl;have E0 := Hh (parse_arr d (l.drop p) cnt (by omega) hh hk);have S : (f : Int) / 32 = 4 := by omega
 have hlv1 : ¬ ((8 : Int) ≤ (lv : Int)) := by omega
 have KL : IntKind.i64.wrap ((lv : Int) + 1) = (lv : Int) + 1 := IntWalk.i64_in _ (by omega);have hlvi : (lv : Int) ≤ 8 := by omega
 have hc256 : ((cnt : Int) == 256) = false := by simp; omega
 have hc256' : ((cnt : Int) = 256) = False := eq_false (by omega);have KC : IntKind.i64.wrap ((cnt : Int) + 1) = (cnt : Int) + 1 := IntWalk.i64_in _ (by omega);have HC := Hh hc;clear hc;go_enter Tryz.func73, Tryz.ntmps73
 go_wp2_with (with_reducible refine stop_store ?_)
 refine wpList_store_cell rfl _ _ _ rfl rfl g 2 (.int .i64 ((cnt : Int) + 1)) rfl rfl _ _ hd0.psr.blk size_int1 (by simp) rfl fun w2 hB2 hG2 => ?_
 have hd2 : Rdg 116 w H w2 H g A c l p (cnt + 1) := hd0.step hG2 hB2 hP.le (by have := HC.out; omega);have hT2 := hT0.gr hG2 (by omega);have PH := Hh (p_head hd2.psr);clear hd0 hT0 hB2 hG2 c2 KC hc256 hc256';go_wp2_with fail
 refine PH.out.mono ?_
 intro e w3 hs
 rw [HeadSaid, hh] at hs;obtain ⟨rfl, hB3, hG3⟩ := hs;have HS := headP_spec hh;have hle3 : p + k ≤ l.length := by have := HS.le; rw [List.length_drop] at this; have := hP.le; omega
 have hd3 : Rdg 116 w H w3 H g A c l (p + k) (cnt + 1) := hd2.step hG3 hB3 hle3 (by have := HC.out; omega);have hT3 := hT2.gr hG3 (by omega);have HF := Hh HS;clear hd2 hT2 hB3 hG3 PH HS hh;rw [List.drop_drop] at E0;have hX0 := Blk.new w3 31 #[.int .i64 0, .int .u64 0, .slice none 0 0, .slice none 0 0];have hd4 := hd3.alloc zeroO;have hT4 := hT3.alloc zeroO;have hlt3 := Hh hT3.lt;have hXn : H w3.heap.size = none := hd3.psr.holds.none_of_ge (Nat.le_refl _);clear hd3 hT3;go_wp2_with (with_reducible refine stop_store ?_)
 refine stI hX0 fun w4 hX4 hg4 => ?_
 have hd5 := hd4.gb hXn (Nat.le_of_lt hlt3.out) hgl hg4;have hT5 := hT4.grown hg4 (by intro e; injection e with e; have := hlt3.out; omega);clear hd4 hT4 hX0 hg4;obtain ⟨X, hXX⟩ : ∃ X, w3.heap.size = X := ⟨_, rfl⟩
 rw [hXX] at hX4 hXn hlt3 ⊢;clear hXX;have HNL := Hh HF.out.n_lt;obtain ⟨P, hPP⟩ : ∃ P, p + k = P := ⟨_, rfl⟩
 rw [hPP] at hd5 E0;go_wp2_with fail
 go_loopw [7] (fun v7 wr => ∃ (m : Nat) (Hr : Snap) (VA : Option Addr) (vc vn : Nat) (L : List Itm) (k0 cc : Nat), v7 = .int .u64 (m : Int) ∧ m ≤ n ∧ vn = L.length ∧ Rdg 116 w H wr Hr g A c l (P + k0) cc ∧ Blk wr w.heap.size 31 #[.int .i64 0, .int .u64 0, .slice none 0 0, .slice none 0 0] ∧ Hr w.heap.size = none ∧
  Blk wr X 31 #[.int .i64 4, .int .u64 0, .slice none 0 0, .slice VA vn vc] ∧ Hr X = none ∧ OwnI wr (X + 1) (.slice VA vn vc) Hr L ∧ (∀ q, (Value.slice VA vn vc).ownBlock = some q → Hr q = none) ∧ L.length ≤ cc ∧
  arrP (parse d) n (l.drop P) (cnt + 1) = (arrP (parse d) m (l.drop (P + k0)) cc).pre L k0) (fun v7 _ => (intOf v7).toNat)
 case atStart => exact ⟨n, H, none, 0, 0, [], 0, cnt + 1, rfl, Nat.le_refl _, rfl, hd5, hT5, hn0, hX4, hXn, OwnI.nil _ _ H, by intro q hq; simp [Value.ownBlock] at hq, by simp, by rw [pre_nil]; rfl⟩
 case round =>
  clear hd5 hT5 hX4;obtain ⟨m, Hr, VA, vc, vn, L, k0, cc, rfl, hmn, rfl, hdr, hTr, hTn, hXr, hXrn, hOr, hnr, hLc, hrel2⟩ := hrel;have HREL := Hh hrel2;have HLC := Hh hLc;have HMN := Hh hmn;clear hrel2 hLc hmn
  by_cases hm0 : 0 < m
  ·obtain ⟨m1, rfl⟩ : ∃ m1, m = m1 + 1 := ⟨m - 1, by omega⟩
   have hmi : (0 : Int) < ((m1 + 1 : Nat) : Int) := by omega
   have IT := ih wr Hr g A c l (P + k0) cc (lv + 1) (hTab.mono hdr.grows.le) (by omega) hdr.psr;rw [show ((lv + 1 : Nat) : Int) = (lv : Int) + 1 by omega] at IT;have ITH := Hh IT;have hXl := Hh hXr.lt;clear IT;go_wp2_with fail
   refine ITH.out.mono ?_
   intro e w5 hs
   cases hp : parse d (l.drop (P + k0)) cc with
   | err q =>
    rw [hp, ItemOut] at hs;obtain ⟨rfl, H5, p5, cnt5, hd35⟩ := hs;have hq0 : ((q : Int) != 0) = true := by rw [bne_iff_ne]; have := parse_err _ _ _ _ hp; omega
    have hq0' : ((q : Int) = 0) = False := eq_false (by have := parse_err _ _ _ _ hp; omega);have E : Hid (parse (d + 1) (l.drop p) cnt = .err q) := by rw [Hid, E0.out, HREL.out, arr_err_step L k0 hp]
    have hd6 := hdr.trans hd35;have hT6 := hTr.rdg hd35 (by omega);have hn6 := hd35.hid hTn hTr.lt;have hY := Blk.new w5 31 #[.int .i64 0, .int .u64 0, .slice none 0 0, .slice none 0 0];have hYn : H5 w5.heap.size = none := hd6.psr.holds.none_of_ge (Nat.le_refl _);have hTl := Hh hT6.lt;have hd7 := hd6.alloc zeroO;have hT7 := hT6.alloc zeroO;clear ITH hp hdr hd35 hTr hXr hOr hnr HREL HLC hd6 hT6;go_wp2_with (with_reducible refine stop_store ?_)
    refine stI hY fun w8 hY8 hg8 => ?_
    have hd8 := hd7.gb hYn (Nat.le_of_lt hTl.out) hgl hg8;have hT8 := hT7.grown hg8 (by intro e; injection e with e; have := hTl.out; omega);clear hd7 hT7 hY hg8 hY8;go_wp2_with (with_reducible refine stop_store ?_)
    refine stI hT8 fun wz hTy hgz => ?_
    have hdz := hd8.gb hn6 (Nat.le_refl _) hgl hgz;go_wp2_with fail
    refine ret_row_tmp rfl rfl hTy rfl rfl size_item rfl ?_
    exact ItemOut.err E.out rfl hdz
   | ok x k' c' =>
    rw [hp, ItemOut] at hs;obtain ⟨ja, jb, jc, jd, H5, rfl, hd35, hi5⟩ := hs
    have HR2 : Hid (arrP (parse d) n (l.drop P) (cnt + 1) = (arrP (parse d) m1 (l.drop (P + (k0 + k'))) c').pre (L ++ [x]) (k0 + k')) := by
     rw [Hid, HREL.out, arr_ok_step L k0 hp, List.drop_drop, Nat.add_assoc]
    have HC2 : Hid ((L ++ [x]).length ≤ c') := by
     have := parse_counts d _ _ _ _ _ hp;have := HLC.out;rw [Hid, List.length_append]; simp; omega
    have hd6 := hdr.trans hd35;rw [Nat.add_assoc] at hd6;have hc6 := hd6.psr.cnt_le;have hT6 := hTr.rdg hd35 (by omega);have hn6 := hd35.hid hTn hTr.lt;have hX6 := hXr.rdg hd35 (by have := hlt3.out; omega);have hXn6 := hd35.hid hXrn hXr.lt;have hO6 := (hOr.rdg hd35 (by have := hlt3.out; omega)).mono hd35.grows.le;have hon6 : ∀ q, (Value.slice VA L.length vc).ownBlock = some q → H5 q = none := fun q hq => hd35.hid (hnr q hq) (hOr.lt q hq).2
    have hY := Blk.new w5 31 #[.int .i64 0, .int .u64 0, .slice none 0 0, .slice none 0 0];have hYn : H5 w5.heap.size = none := hd6.psr.holds.none_of_ge (Nat.le_refl _);have hTl := Hh (And.intro hT6.lt hX6.lt);have hol := Hh (show ∀ q, (Value.slice VA L.length vc).ownBlock = some q → X + 1 ≤ q ∧ q < w5.heap.size from fun q hq => hO6.lt q hq);have hd7 := hd6.alloc zeroO;have hT7 := hT6.alloc zeroO;have hX7 := hX6.alloc zeroO;have hO7 := hO6.alloc zeroO;have HLN := Hh (show L.length ≤ 256 by have := HC2.out; simp at this; omega);clear ITH hp hdr hd35 hTr hXr hOr hnr HREL HLC hd6 hT6 hX6 hO6;go_wp2_with (with_reducible refine stop_store ?_)
    refine stI hY fun w8 hY8 hg8 => ?_
    have hd8 := hd7.gb hYn (Nat.le_of_lt hTl.out.1) hgl hg8;have hT8 := hT7.grown hg8 (by intro e; injection e with e; have := hTl.out.1; omega);have hX8 := hX7.grown hg8 (by intro e; injection e with e; have := hTl.out.2; omega)
    have hO8 := hO7.kept hg8 (by
     cases hv : (Value.slice VA L.length vc).ownBlock with
     | none => exact .inl rfl
     | some q => exact .inr (fun e => by injection e with e; have := (hol.out q hv).2; omega))
    have b0 := hY8.cell 0 rfl;have b1 := hY8.cell 1 rfl;have b2 := hY8.cell 2 rfl;have b3 := hY8.cell 3 rfl;have x3 := hX8.cell 3 rfl;have hd9 := hd8.alloc (.cells (itemC x ja jb jc jd).toArray 31);have hT9 := hT8.alloc (.cells (itemC x ja jb jc jd).toArray 31);have hX9 := hX8.alloc (.cells (itemC x ja jb jc jd).toArray 31);have hO9 := hO8.alloc (.cells (itemC x ja jb jc jd).toArray 31);clear hd7 hT7 hX7 hO7 hY hg8 hd8 hT8 hX8 hO8;go_wp2_with (at_builtin; refine stop_in ?_)
    refine wpList_app_items rfl (.tmp 159) (.tmp 161) rfl (X + 1) (.slice VA L.length vc) H5 _ rfl hO9 _ 1 _ (itemC x ja jb jc jd) [x] rfl rfl (ItemsC.one hi5) (Src.new _ _ _ _ rfl _ rfl) (by have := HLN.out; simp; omega) hX9.lt fun v' w10 hO10 hg10 hat10 => ?_
    obtain ⟨VA', vc', rfl, _⟩ := hO10.form;have hT10 := hT9.grown hg10 (fun e => by have := (hol.out _ e).1; have := hlt3.out; omega);have hX10 := hX9.grown hg10 (fun e => by have := (hol.out _ e).1; omega);have hn10 := own_hid3 hd9.psr.holds hon6 hat10;have hd10 := hd9.grownRow hon6 (fun q hq => by have := (hol.out q hq).1; have := hlt3.out; omega) hgl hg10;obtain ⟨L', hL'⟩ : ∃ L', L ++ [x] = L' := ⟨_, rfl⟩
    rw [hL'] at hO10 hn10 HR2 HC2 ⊢;have HLL : Hid (L'.length = L.length + 1) := by rw [Hid, ← hL']; simp
    clear hL' hd9 hT9 hX9 hO9 hg10 hat10 x3;have hO10l := Hh (show ∀ q, (Value.slice VA' L'.length vc').ownBlock = some q → X + 1 ≤ q from fun q hq => (hO10.lt q hq).1);go_wp2_with (with_reducible refine stop_store ?_)
    refine wpList_store_cell rfl _ _ _ rfl rfl X 3 _ rfl rfl _ _ hX10 size_items (by simp) rfl fun w11 hX11 hg11 => ?_
    have hd11 := hd10.gb hXn6 (Nat.le_of_lt hlt3.out) hgl hg11;have hT11 := hT10.grown hg11 (by intro e; injection e with e; have := hlt3.out; omega)
    have hO11 := hO10.kept hg11 (by
     cases hv : (Value.slice VA' L'.length vc').ownBlock with
     | none => exact .inl rfl
     | some q => exact .inr (fun e => by injection e with e; have := hO10l.out q hv; omega))
    have KM : IntKind.u64.wrap (((m1 + 1 : Nat) : Int) - 1) = (m1 : Int) := by rw [show ((m1 + 1 : Nat) : Int) - 1 = (m1 : Int) by omega, IntKind.wrap_u64]; have := HNL.out; have := HMN.out; omega
    have KM2 : IntKind.u64.wrap (m1 : Int) = (m1 : Int) := by rw [IntKind.wrap_u64]; have := HNL.out; have := HMN.out; omega
    clear hd10 hT10 hX10 hO10 hg11;go_wp2_with fail
    go_roundw
    case rel => exact ⟨m1, H5, VA', vc', _, L', k0 + k', c', by first | rfl | (simp; done) | go_num, by have := HMN.out; omega, rfl, hd11, hT11, hn6, hX11, hXn6, hO11, hn10, HC2.out, HR2.out⟩
    case measure => simp [intOf]; try omega
  ·have hm : m = 0 := by omega
   subst hm
   have E1 : Hid (parse (d + 1) (l.drop p) cnt = .ok (.mk 4 0 [] L) (k + k0) cc) := by
    rw [Hid, E0.out, HREL.out, arrP]; simp [PL.pre]
   obtain ⟨H5, hl5, hh5, hf5, hz5, hle1, hle2, hel5⟩ := hOr.snap hdr.psr.holds (fun q hq => hnr q (own_of hq));have hlow : ∀ q, VA.map (·.block) = some q → X + 1 ≤ q := fun q hq => (hOr.lt q (own_of hq)).1
   have hn5 : H5 w.heap.size = none := snap_keep hf5 hTn (fun e => by have := hlow _ e; have := hlt3.out; omega);have hd6 : Rdg 116 w H wr H5 g A c l (P + k0) cc := hdr.snap (B := X + 1) hl5 hh5 hf5 hlow (by have := hlt3.out; omega) hgl;have b0 := hXr.cell 0 rfl;have b1 := hXr.cell 1 rfl;have b2 := hXr.cell 2 rfl;have b3 := hXr.cell 3 rfl;have hii : IsItem H5 none 0 VA vc (.mk 4 0 [] L) := IsRowI.item ⟨hle1, hle2, hel5⟩ 4 (by omega) 0 (by omega);have HPP := Hh hPP;clear hOr hf5 hel5 hh5 hl5 hTn hnr hlow hdr HREL hPP;go_wp2_with (with_reducible refine stop_store ?_)
   refine stI hTr fun wz hTy hgz => ?_
   have hdz := hd6.gb hn5 (Nat.le_refl _) hgl hgz;go_wp2_with fail
   refine ret_row_tmp rfl rfl hTy rfl rfl size_item rfl ?_
   exact ItemOut.ok E1.out rfl (by rw [← Nat.add_assoc, HPP.out]; exact hdz) hii
end
theorem OwnX.kl {α : Type} {L : Lie α} {t : TypeId} {w w' : World} {base N : Nat} {v : Value} {H : Snap} {l : List α} (h : OwnX L t w base v H l) (hg : w.grownBy w' (some N)) (hl : ∀ q, v.ownBlock = some q → q < N) : OwnX L t w' base v H l := h.kept hg (by cases hv : v.ownBlock with | none => exact .inl rfl | some q => exact .inr (fun e => by injection e with e; exact Nat.lt_irrefl _ (e ▸ hl q hv)))
end Go.Proofs.YtlebpackbfcfeaaGreatDoor
