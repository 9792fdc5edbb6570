/- squeezed. Reading data items: the elements o -/
import Derived.Test.YtlebpackbfcfeaaDoorK23
import Derived.Test.YtlebpackbfcfeaaDoorK27
import Derived.Test.YtlebpackbfcfeaaDoorK25
set_option linter.unusedVariables false
set_option linter.unusedSimpArgs false
set_option maxRecDepth 100000
set_option maxHeartbeats 6400000
namespace Go.Proofs.YtlebpackbfcfeaaDoor
open Go.RowKit
def elemP (maj : Nat) (p : List UInt8 → Nat → PR) : Nat → Bool → List UInt8 → Nat → Option (List UInt8) → PL
 | 0, _, _, c, _ => .ok [] 0 c
 | m + 1, ev, b, c, last => match p b c with
  | .err e => .err e
  | .ok x k c' =>
   if maj = 5 ∧ ev = true then
    match keyP last (b.take k) with
    | some e => .err e
    | none => (elemP maj p m false (b.drop k) c' (some (b.take k))).pre [x] k
   else (elemP maj p m (!ev) (b.drop k) c' last).pre [x] k
theorem pre_pre (L M : List Itm) (a b : Nat) (r : PL) : (r.pre M b).pre L a = r.pre (L ++ M) (a + b) := by
 cases r <;> simp [PL.pre, Nat.add_assoc]
section
variable {maj : Nat} {p : List UInt8 → Nat → PR} {m : Nat} {ev : Bool} {b : List UInt8} {cc q k c1 : Nat} {x : Itm} {last : Option (List UInt8)}
theorem elem_err (L : List Itm) (k0 : Nat) (h : p b cc = .err q) : (elemP maj p (m + 1) ev b cc last).pre L k0 = .err q := by rw [elemP, h]; rfl
theorem elem_key (L : List Itm) (k0 : Nat) (h : p b cc = .ok x k c1) (hm : maj = 5) (he : ev = true) (h2 : keyP last (b.take k) = some q) : (elemP maj p (m + 1) ev b cc last).pre L k0 = .err q := by
 rw [elemP, h]; simp only; rw [if_pos ⟨hm, he⟩, h2]; rfl
theorem elem_ok_key (L : List Itm) (k0 : Nat) (h : p b cc = .ok x k c1) (hm : maj = 5) (he : ev = true) (h2 : keyP last (b.take k) = none) : (elemP maj p (m + 1) ev b cc last).pre L k0 = (elemP maj p m false (b.drop k) c1 (some (b.take k))).pre (L ++ [x]) (k0 + k) := by
 rw [elemP, h]; simp only; rw [if_pos ⟨hm, he⟩, h2]; simp only; rw [pre_pre]
theorem elem_ok (L : List Itm) (k0 : Nat) (h : p b cc = .ok x k c1) (hm : ¬ (maj = 5 ∧ ev = true)) : (elemP maj p (m + 1) ev b cc last).pre L k0 = (elemP maj p m (!ev) (b.drop k) c1 last).pre (L ++ [x]) (k0 + k) := by
 rw [elemP, h]; simp only; rw [if_neg hm, pre_pre]
end
theorem elem_arr {maj : Nat} (hm : maj ≠ 5) (p : List UInt8 → Nat → PR) : ∀ (n : Nat) (ev : Bool) (b : List UInt8) (c : Nat) (last : Option (List UInt8)), elemP maj p n ev b c last = arrP p n b c
 | 0, _, _, _, _ => rfl
 | n + 1, ev, b, c, last => by
  rw [elemP, arrP]
  cases h : p b c with
  | err e => rfl
  | ok x k c1 =>
   simp only
   rw [if_neg (fun h => hm h.1), elem_arr hm p n]
   cases arrP p n (b.drop k) c1 <;> rfl
theorem elem_map (p : List UInt8 → Nat → PR) : ∀ (n : Nat) (b : List UInt8) (c : Nat) (last : Option (List UInt8)), elemP 5 p (2 * n) true b c last = mapP p n b c last
 | 0, _, _, _ => rfl
 | n + 1, b, c, last => by
  rw [show 2 * (n + 1) = (2 * n + 1) + 1 by omega, elemP, mapP]
  cases h : p b c with
  | err e => rfl
  | ok x k c1 =>
   simp only
   rw [if_pos (by simp)]
   cases hk : keyP last (b.take k) with
   | some e => rfl
   | none =>
    simp only
    rw [elemP]
    cases h2 : p (b.drop k) c1 with
    | err e => rfl
    | ok y k2 c2 =>
     simp only
     rw [if_neg (by simp), List.drop_drop, Bool.not_false, elem_map p n]
     cases mapP p n (b.drop (k + k2)) c2 (some (b.take k)) with
     | err e => rfl
     | ok l k3 c3 => simp [PL.pre, Nat.add_assoc]
def cntOf (maj n : Nat) : Nat := if maj = 5 then 2 * min n 4294967296 else if maj = 6 then 1 else n
def elR (maj n : Nat) : PL → PR
 | .err q => .err q
 | .ok L k c => .ok (.mk (maj : Int) (if maj = 6 then n else 0) [] L) k c
def contP (maj d n : Nat) (b : List UInt8) (c : Nat) : PR := elR maj n (elemP maj (parse d) (cntOf maj n) true b c none)
theorem parse_cont (d : Nat) (b : List UInt8) (c : Nat) (h : ¬ 256 ≤ c) {f n k : Nat} (hq : headP b = .ok (f, n, k)) (h4 : 4 ≤ f / 32) (h6 : f / 32 ≤ 6) :
  parse (d + 1) b c = (match contP (f / 32) d n (b.drop k) (c + 1) with | .err e => .err e | .ok x k' c' => .ok x (k + k') c') := by
 rcases (by omega : f / 32 = 4 ∨ f / 32 = 5 ∨ f / 32 = 6) with hk | hk | hk
 ·rw [parse_arr d b c h hq hk, hk, contP, elem_arr (by omega), cntOf, if_neg (by omega), if_neg (by omega)]
  cases arrP (parse d) n (b.drop k) (c + 1) <;> rfl
 ·rw [parse_map d b c h hq hk, hk, contP, cntOf, if_pos rfl, elem_map]
  have e : mapP (parse d) (min n 4294967296) (b.drop k) (c + 1) none = mapP (parse d) n (b.drop k) (c + 1) none := by
   rcases Nat.le_total n 4294967296 with hn | hn
   ·rw [Nat.min_eq_left hn]
   ·rw [Nat.min_eq_right hn]
    exact map_min (parse_counts d) _ _ _ _ _ (by omega) (by omega) (by omega)
  rw [e]
  cases mapP (parse d) n (b.drop k) (c + 1) none <;> rfl
 ·rw [parse_tag d b c h hq hk, hk, contP, cntOf, if_neg (by omega), if_pos rfl, elem_arr (by omega), arrP]
  cases parse d (b.drop k) (c + 1) with
  | err e => rfl
  | ok x k' c' => simp [arrP, elR]
def RElem (d : Nat) : Prop := ∀ (w : World) (H : Snap) (g : Nat) (A : Option Addr) (c : Nat) (l : List UInt8) (p cnt lv maj n : Nat), Tabs H → lv + 1 + d = 8 → 4 ≤ maj → maj ≤ 6 → n < 18446744073709551616 → 0 < l.length → Psr 101 w g H A c l p cnt →
 Calls Tryd.prog 81 #[.pointer (some ⟨g, 0, none⟩), .int .i64 (maj : Int), .int .u64 (n : Int), .int .i64 (lv : Int)] w (ItemOut 101 w H g A c l p (contP maj d n (l.drop p) cnt))
theorem parse_7 (d : Nat) {l : List UInt8} {p c : Nat} (h : ¬ 256 ≤ c) {ch : UInt8} {low : Nat} (hd : l.drop p = ch :: l.drop (p + 1)) (hl : ch.toNat % 32 = low) (h27 : low ≤ 27) (h7 : ch.toNat / 32 = 7) :
  parse d (l.drop p) c = (match specP low (l.drop (p + 1)) (c + 1) with | .err e => .err e | .ok x k c' => .ok x (1 + k) c') := by
 subst hl
 obtain ⟨t, ht⟩ : ∃ t, l.drop (p + 1) = t := ⟨_, rfl⟩
 rw [ht] at hd
 rw [ht]
 by_cases h24 : ch.toNat % 32 < 24
 ·have hh : headP (l.drop p) = .ok (ch.toNat, ch.toNat % 32, 1) := by rw [hd, headP, if_neg (by omega), if_pos h24]
  rw [parse_seven d _ c h hh h7, specP, if_pos h24]
  cases sevenP (ch.toNat % 32) (ch.toNat % 32) <;> rfl
 ·by_cases hs : t.length < 2 ^ (ch.toNat % 32 - 24)
  ·have hh : headP (l.drop p) = .error 2 := by rw [hd, headP, if_neg (by omega), if_neg h24, if_pos hs]
   rw [parse_head d _ c h hh, specP, if_neg h24, if_pos hs]
  ·have hh : headP (l.drop p) = .ok (ch.toNat, beN (t.take (2 ^ (ch.toNat % 32 - 24))), 1 + 2 ^ (ch.toNat % 32 - 24)) := by rw [hd, headP, if_neg (by omega), if_neg h24, if_neg hs, if_neg (by omega)]
   rw [parse_seven d _ c h hh h7, specP, if_neg h24, if_neg hs]
   cases sevenP (ch.toNat % 32) (beN (t.take (2 ^ (ch.toNat % 32 - 24)))) <;> rfl
section
variable {d : Nat} {w : World} {H : Snap} {g : Nat} {A : Option Addr} {c : Nat} {l : List UInt8} {p cnt lv : Nat}
theorem r_item_full (hTab : Tabs H) (hlv : lv + d = 8) (hP : Psr 101 w g H A c l p cnt) (hc : cnt = 256) : Calls Tryd.prog 68 #[.pointer (some ⟨g, 0, none⟩), .int .i64 (lv : Int)] w (ItemOut 101 w H g A c l p (parse d (l.drop p) cnt)) := by
 have hgl := hP.gt
 have hd0 := (Rdg.refl hP).alloc zeroO
 have hT0 := Blk.new w 69 #[.int .i64 0, .int .u64 0, .slice none 0 0, .slice none 0 0]
 have hn0 : H w.heap.size = none := hP.holds.none_of_ge (Nat.le_refl _)
 have c2 := hd0.psr.blk.cell 2 rfl
 have hc256 : (256 : Int) ≤ (cnt : Int) := by omega
 have hc256' : decide ((256 : Int) ≤ (cnt : Int)) = true := decide_eq_true hc256
 have E := Hh (parse_full d (l.drop p) cnt (by omega))
 clear hc
 go_enter Tryd.func68, Tryd.ntmps68
 go_wp2_with (with_reducible refine stop_store ?_)
 unfold Stopped
 refine stI rfl rfl rfl rfl rfl hT0 rfl rfl rfl rfl rfl fun wz hTy hgz => ?_
 have hdz := hd0.gb hn0 (Nat.le_refl _) hgl hgz
 go_wp2_with fail
 refine ret_row_tmp rfl rfl hTy rfl rfl size_item rfl ?_
 exact ItemOut.err (q := 8) E.out rfl hdz
theorem r_item_end (hTab : Tabs H) (hlv : lv + d = 8) (hP : Psr 101 w g H A c l p cnt) (hc : cnt < 256) (hlt : p = l.length) : Calls Tryd.prog 68 #[.pointer (some ⟨g, 0, none⟩), .int .i64 (lv : Int)] w (ItemOut 101 w H g A c l p (parse d (l.drop p) cnt)) := by
 have hgl := hP.gt
 have hd0 := (Rdg.refl hP).alloc zeroO
 have hT0 := Blk.new w 69 #[.int .i64 0, .int .u64 0, .slice none 0 0, .slice none 0 0]
 have hn0 : H w.heap.size = none := hP.holds.none_of_ge (Nat.le_refl _)
 have c2 := hd0.psr.blk.cell 2 rfl
 have E := Hh (parse_head d (l.drop p) cnt (by omega) (q := 2) (by rw [hlt, List.drop_length]; rfl))
 have z0 : ((l.length : Nat) : Int) ≤ (p : Int) := by omega
 have z0' : decide (((l.length : Nat) : Int) ≤ (p : Int)) = true := decide_eq_true z0
 clear hlt
 have hc256 : ¬ ((256 : Int) ≤ (cnt : Int)) := by omega
 have hc256' : decide ((256 : Int) ≤ (cnt : Int)) = false := decide_eq_false hc256
 have KC : IntKind.i64.wrap ((cnt : Int) + 1) = (cnt : Int) + 1 := IntWalk.i64_in _ (by omega)
 have HC := Hh hc
 clear hc
 go_enter Tryd.func68, Tryd.ntmps68
 go_wp2_with (with_reducible refine stop_store ?_)
 unfold Stopped
 refine wpList_store_cell rfl _ _ _ rfl rfl g 2 (.int .i64 ((cnt : Int) + 1)) rfl rfl _ _ hd0.psr.blk size_int1 (by simp) rfl fun w2 hB2 hG2 => ?_
 have hd2 : Rdg 101 w H w2 H g _ c l p (cnt + 1) := hd0.step hG2 hB2 hP.le (by have := HC.out; omega)
 have hT2 := hT0.gr hG2 (by omega)
 clear hd0 hT0 hB2 hG2 c2 KC hc256 hc256'
 have hpl := hd2.psr.le
 have a0 := hd2.psr.blk.cell 0 rfl
 have a1 := hd2.psr.blk.cell 1 rfl
 go_wp2_with fail
 go_big_quiet (fail)
 have hd3 := hd2.drewN nq
 have hT3 : Blk (w2.drewN nq) w.heap.size 69 #[.int .i64 0, .int .u64 0, .slice none 0 0, .slice none 0 0] := hT2
 go_wp2_with (with_reducible refine stop_store ?_)
 unfold Stopped
 refine stI rfl rfl rfl rfl rfl hT3 rfl rfl rfl rfl rfl fun wz hTy hgz => ?_
 have hdz := hd3.gb hn0 (Nat.le_refl _) hgl hgz
 go_wp2_with fail
 refine ret_row_tmp rfl rfl hTy rfl rfl size_item rfl ?_
 exact ItemOut.err E.out rfl hdz
theorem r_item_code (hTab : Tabs H) (hlv : lv + d = 8) (hP : Psr 101 w g H A c l p cnt) (hc : cnt < 256) (hp2 : p < l.length) {ch : UInt8} (hch : l[p] = ch) {low kd : Nat} (hlow : ch.toNat % 32 = low) (hkd : ch.toNat / 32 = kd) (h27 : 27 < low) : Calls Tryd.prog 68 #[.pointer (some ⟨g, 0, none⟩), .int .i64 (lv : Int)] w (ItemOut 101 w H g A c l p (parse d (l.drop p) cnt)) := by
 have hgl := hP.gt
 have hd0 := (Rdg.refl hP).alloc zeroO
 have hT0 := Blk.new w 69 #[.int .i64 0, .int .u64 0, .slice none 0 0, .slice none 0 0]
 have hn0 : H w.heap.size = none := hP.holds.none_of_ge (Nat.le_refl _)
 have c2 := hd0.psr.blk.cell 2 rfl
 have ED := drop_cons hp2
 rw [hch] at ED
 have E := Hh (parse_head d (l.drop p) cnt (by omega) (q := 3) (by rw [ED, headP, hlow, if_pos h27]))
 have z27 : (27 : Int) < (low : Int) := by omega
 clear h27 ED
 have z0 : ¬ (((l.length : Nat) : Int) ≤ (p : Int)) := by omega
 have z0' : decide (((l.length : Nat) : Int) ≤ (p : Int)) = false := decide_eq_false z0
 have hpi : (p : Int) < (l.length : Int) := by omega
 have hp0 : (0 : Int) ≤ (p : Int) := by omega
 have hsm := hP.small
 have K1 : IntKind.i64.wrap ((p : Int) + 1) = (p : Int) + 1 := IntWalk.i64_in _ (by omega)
 obtain ⟨b, off, rfl, HCELL0⟩ := hP.bytes.at_ (by omega)
 have KA := and31 ⟨ch.toNat, ch.toNat_lt⟩
 simp only at KA
 rw [hlow] at KA
 have S : (ch.toNat : Int) / 32 = (kd : Int) := by omega
 have hkw : (kd : Int) ≤ 7 := by have := ch.toNat_lt; omega
 have hlw : (low : Int) ≤ 31 := by omega
 have HCELL := Hh HCELL0
 have HLOW := Hh (And.intro hlow (And.intro hkd hp2))
 have HCH := Hh (show H.cell? ⟨b, off + p, none⟩ = some (byteV ch) by have h := HCELL0 p hp2; rw [hch] at h; exact h)
 clear HCELL0 hlow hkd hsm hch
 have hc256 : ¬ ((256 : Int) ≤ (cnt : Int)) := by omega
 have hc256' : decide ((256 : Int) ≤ (cnt : Int)) = false := decide_eq_false hc256
 have KC : IntKind.i64.wrap ((cnt : Int) + 1) = (cnt : Int) + 1 := IntWalk.i64_in _ (by omega)
 have HC := Hh hc
 clear hc
 go_enter Tryd.func68, Tryd.ntmps68
 go_wp2_with (with_reducible refine stop_store ?_)
 unfold Stopped
 refine wpList_store_cell rfl _ _ _ rfl rfl g 2 (.int .i64 ((cnt : Int) + 1)) rfl rfl _ _ hd0.psr.blk size_int1 (by simp) rfl fun w2 hB2 hG2 => ?_
 have hd2 : Rdg 101 w H w2 H g _ c l p (cnt + 1) := hd0.step hG2 hB2 hP.le (by have := HC.out; omega)
 have hT2 := hT0.gr hG2 (by omega)
 clear hd0 hT0 hB2 hG2 c2 KC hc256 hc256'
 have hpl := hd2.psr.le
 have a0 := hd2.psr.blk.cell 0 rfl
 have a1 := hd2.psr.blk.cell 1 rfl
 go_wp2_with fail
 go_big_quiet (fail)
 have hd3' := hd2.drewN nq
 have hT3' : Blk (w2.drewN nq) w.heap.size 69 #[.int .i64 0, .int .u64 0, .slice none 0 0, .slice none 0 0] := hT2
 generalize w2.drewN nq = w3 at hd3' hT3' ⊢
 obtain ⟨hd3, hT3⟩ := And.intro hd3' hT3'
 clear hd3' hT3' hd2 hT2 a0 a1 hpl
 have a0 := hd3.psr.blk.cell 0 rfl
 have a1 := hd3.psr.blk.cell 1 rfl
 have q0 := hd3.psr.holds.cell HCH.out
 go_upto_region 6 with fail
 go_big_quiet (fail)
 have hd4' := hd3.drewN nq
 have hT4' : Blk (w3.drewN nq) w.heap.size 69 #[.int .i64 0, .int .u64 0, .slice none 0 0, .slice none 0 0] := hT3
 generalize w3.drewN nq = w4 at hd4' hT4' ⊢
 obtain ⟨hd4, hT4⟩ := And.intro hd4' hT4'
 clear hd4' hT4' hd3 hT3 a0 a1 q0
 have a1 := hd4.psr.blk.cell 1 rfl
 go_wp2_with (with_reducible refine stop_store ?_)
 unfold Stopped
 refine wpList_store_cell rfl _ _ _ rfl rfl g 1 (.int .i64 ((p : Int) + 1)) rfl rfl _ _ hd4.psr.blk size_int1 (by simp) rfl fun w5 hB5 hG5 => ?_
 have hd5 : Rdg 101 w H w5 H g (some ⟨b, off, none⟩) c l (p + 1) (cnt + 1) := hd4.step hG5 hB5 HLOW.out.2.2 (by have := HC.out; omega)
 have hT5 := hT4.gr hG5 (by omega)
 clear hd4 hT4 hB5 hG5 a1 K1 z0 z0' hpi hp0 KA S
 go_wp2_with (with_reducible refine stop_store ?_)
 unfold Stopped
 refine stI rfl rfl rfl rfl rfl hT5 rfl rfl rfl rfl rfl fun wz hTy hgz => ?_
 have hdz := hd5.gb hn0 (Nat.le_refl _) hgl hgz
 go_wp2_with fail
 refine ret_row_tmp rfl rfl hTy rfl rfl size_item rfl ?_
 exact ItemOut.err E.out rfl hdz
theorem r_item_7 (hTab : Tabs H) (hlv : lv + d = 8) (hP : Psr 101 w g H A c l p cnt) (hc : cnt < 256) (hp2 : p < l.length) {ch : UInt8} (hch : l[p] = ch) {low kd : Nat} (hlow : ch.toNat % 32 = low) (hkd : ch.toNat / 32 = kd) (h27 : low ≤ 27) (h7 : kd = 7) : Calls Tryd.prog 68 #[.pointer (some ⟨g, 0, none⟩), .int .i64 (lv : Int)] w (ItemOut 101 w H g A c l p (parse d (l.drop p) cnt)) := by
 have hgl := hP.gt
 have hd0 := (Rdg.refl hP).alloc zeroO
 have hT0 := Blk.new w 69 #[.int .i64 0, .int .u64 0, .slice none 0 0, .slice none 0 0]
 have hn0 : H w.heap.size = none := hP.holds.none_of_ge (Nat.le_refl _)
 have c2 := hd0.psr.blk.cell 2 rfl
 have ED := drop_cons hp2
 rw [hch] at ED
 subst h7
 have E0 := Hh (parse_7 d (l := l) (p := p) (c := cnt) (by omega) ED hlow h27 hkd)
 have z27 : ¬ ((27 : Int) < (low : Int)) := by omega
 have z27b : decide ((27 : Int) < (low : Int)) = false := decide_eq_false z27
 have H27 := Hh h27
 clear h27 ED
 have z0 : ¬ (((l.length : Nat) : Int) ≤ (p : Int)) := by omega
 have z0' : decide (((l.length : Nat) : Int) ≤ (p : Int)) = false := decide_eq_false z0
 have hpi : (p : Int) < (l.length : Int) := by omega
 have hp0 : (0 : Int) ≤ (p : Int) := by omega
 have hsm := hP.small
 have K1 : IntKind.i64.wrap ((p : Int) + 1) = (p : Int) + 1 := IntWalk.i64_in _ (by omega)
 obtain ⟨b, off, rfl, HCELL0⟩ := hP.bytes.at_ (by omega)
 have KA := and31 ⟨ch.toNat, ch.toNat_lt⟩
 simp only at KA
 rw [hlow] at KA
 have S : (ch.toNat : Int) / 32 = 7 := by omega
 have hkw := True.intro
 have hlw : (low : Int) ≤ 31 := by omega
 have HCELL := Hh HCELL0
 have HLOW := Hh (And.intro hlow (And.intro hkd hp2))
 have HCH := Hh (show H.cell? ⟨b, off + p, none⟩ = some (byteV ch) by have h := HCELL0 p hp2; rw [hch] at h; exact h)
 clear HCELL0 hlow hkd hsm hch
 have hc256 : ¬ ((256 : Int) ≤ (cnt : Int)) := by omega
 have hc256' : decide ((256 : Int) ≤ (cnt : Int)) = false := decide_eq_false hc256
 have KC : IntKind.i64.wrap ((cnt : Int) + 1) = (cnt : Int) + 1 := IntWalk.i64_in _ (by omega)
 have HC := Hh hc
 clear hc
 go_enter Tryd.func68, Tryd.ntmps68
 go_wp2_with (with_reducible refine stop_store ?_)
 unfold Stopped
 refine wpList_store_cell rfl _ _ _ rfl rfl g 2 (.int .i64 ((cnt : Int) + 1)) rfl rfl _ _ hd0.psr.blk size_int1 (by simp) rfl fun w2 hB2 hG2 => ?_
 have hd2 : Rdg 101 w H w2 H g _ c l p (cnt + 1) := hd0.step hG2 hB2 hP.le (by have := HC.out; omega)
 have hT2 := hT0.gr hG2 (by omega)
 clear hd0 hT0 hB2 hG2 c2 KC hc256 hc256'
 have hpl := hd2.psr.le
 have a0 := hd2.psr.blk.cell 0 rfl
 have a1 := hd2.psr.blk.cell 1 rfl
 go_wp2_with fail
 go_big_quiet (fail)
 have hd3' := hd2.drewN nq
 have hT3' : Blk (w2.drewN nq) w.heap.size 69 #[.int .i64 0, .int .u64 0, .slice none 0 0, .slice none 0 0] := hT2
 generalize w2.drewN nq = w3 at hd3' hT3' ⊢
 obtain ⟨hd3, hT3⟩ := And.intro hd3' hT3'
 clear hd3' hT3' hd2 hT2 a0 a1 hpl
 have a0 := hd3.psr.blk.cell 0 rfl
 have a1 := hd3.psr.blk.cell 1 rfl
 have q0 := hd3.psr.holds.cell HCH.out
 go_upto_region 6 with fail
 go_big_quiet (fail)
 have hd4' := hd3.drewN nq
 have hT4' : Blk (w3.drewN nq) w.heap.size 69 #[.int .i64 0, .int .u64 0, .slice none 0 0, .slice none 0 0] := hT3
 generalize w3.drewN nq = w4 at hd4' hT4' ⊢
 obtain ⟨hd4, hT4⟩ := And.intro hd4' hT4'
 clear hd4' hT4' hd3 hT3 a0 a1 q0
 have a1 := hd4.psr.blk.cell 1 rfl
 go_wp2_with (with_reducible refine stop_store ?_)
 unfold Stopped
 refine wpList_store_cell rfl _ _ _ rfl rfl g 1 (.int .i64 ((p : Int) + 1)) rfl rfl _ _ hd4.psr.blk size_int1 (by simp) rfl fun w5 hB5 hG5 => ?_
 have hd5 : Rdg 101 w H w5 H g (some ⟨b, off, none⟩) c l (p + 1) (cnt + 1) := hd4.step hG5 hB5 HLOW.out.2.2 (by have := HC.out; omega)
 have hT5 := hT4.gr hG5 (by omega)
 clear hd4 hT4 hB5 hG5 a1 K1 z0 z0' hpi hp0 KA S
 have SP := Hh (r_special hd5.psr low H27.out)
 go_wp2_with fail
 refine SP.out.mono ?_
 intro e w6 hs
 cases hsp : specP low (l.drop (p + 1)) (cnt + 1) with
 | err q =>
  rw [hsp, ItemOut] at hs
  obtain ⟨rfl, H4, p4, cnt4, hd56⟩ := hs
  have E : Hid (parse d (l.drop p) cnt = .err q) := by rw [Hid, E0.out, hsp]
  have hd6 := hd5.trans hd56
  have hT6 := hT5.rdg hd56 (by omega)
  have hn6 := hd56.hid hn0 hT5.lt
  clear hd56 hd5 hT5 SP hsp E0
  go_wp2_with (with_reducible refine stop_store ?_)
  unfold Stopped
  refine stI rfl rfl rfl rfl rfl hT6 rfl rfl rfl rfl rfl fun wz hTy hgz => ?_
  have hdz := hd6.gb hn6 (Nat.le_refl _) hgl hgz
  go_wp2_with fail
  refine ret_row_tmp rfl rfl hTy rfl rfl size_item rfl ?_
  exact ItemOut.err E.out rfl hdz
 | ok x k' c' =>
  rw [hsp, ItemOut] at hs
  obtain ⟨ja, jb, jc, jd, H4, rfl, hd56, hi4⟩ := hs
  have E : Hid (parse d (l.drop p) cnt = .ok x (1 + k') c') := by rw [Hid, E0.out, hsp]
  have hd6 := hd5.trans hd56
  have hT6 := hT5.rdg hd56 (by omega)
  have hn6 := hd56.hid hn0 hT5.lt
  clear hd56 hd5 hT5 SP hsp E0
  go_wp2_with (with_reducible refine stop_store ?_)
  unfold Stopped
  refine stI rfl rfl rfl rfl rfl hT6 rfl rfl rfl rfl rfl fun wz hTy hgz => ?_
  have hdz := hd6.gb hn6 (Nat.le_refl _) hgl hgz
  go_wp2_with fail
  refine ret_row_tmp rfl rfl hTy rfl rfl size_item rfl ?_
  exact ItemOut.ok E.out rfl (by rw [← Nat.add_assoc]; exact hdz) hi4
end
end Go.Proofs.YtlebpackbfcfeaaDoor
