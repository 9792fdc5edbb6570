/- squeezed. Reading data items: plain mathemat -/
import Derived.Test.YtlebpackbfcfeaaGreatDoorK07
import Derived.Test.YtlebpackbfcfeaaGreatDoorK03
set_option linter.unusedVariables false
set_option linter.unusedSimpArgs false
set_option maxRecDepth 100000
namespace Go.Proofs.YtlebpackbfcfeaaGreatDoor
open Go.RowKit
def beN (l : List UInt8) : Nat := l.foldl (fun x c => x * 256 + c.toNat) 0
theorem beN_snoc (l : List UInt8) (c : UInt8) : beN (l ++ [c]) = beN l * 256 + c.toNat := by simp [beN]
theorem beN_lt (l : List UInt8) : beN l < 256 ^ l.length := by
 suffices h : ∀ (l : List UInt8) (a : Nat), l.foldl (fun x c => x * 256 + c.toNat) a < (a + 1) * 256 ^ l.length by
  have := h l 0
  rw [Nat.zero_add, Nat.one_mul] at this
  exact this
 intro l
 induction l with
 | nil => intro a; simp
 | cons c l ih =>
  intro a
  have hc := c.toNat_lt
  rw [List.foldl_cons, List.length_cons, Nat.pow_succ]
  refine Nat.lt_of_lt_of_le (ih _) ?_
  have : (a * 256 + c.toNat + 1) * 256 ^ l.length ≤ ((a + 1) * 256) * 256 ^ l.length := Nat.mul_le_mul_right _ (by omega)
  rw [Nat.mul_assoc, Nat.mul_comm 256] at this
  exact this
theorem u8_of {c : UInt8} {n : Nat} (h : n % 256 = c.toNat) : u8 n = c := by
 apply UInt8.toNat_inj.1
 rw [u8_toNat, h]
theorem list1 {l : List UInt8} (h : l.length = 1) : ∃ a, l = [a] := by
 match l, h with
 | [a], _ => exact ⟨a, rfl⟩
theorem list2 {l : List UInt8} (h : l.length = 2) : ∃ a b, l = [a, b] := by
 match l, h with
 | [a, b], _ => exact ⟨a, b, rfl⟩
theorem list4' {l : List UInt8} (h : l.length = 4) : ∃ a b c d, l = [a, b, c, d] := by
 match l, h with
 | [a, b, c, d], _ => exact ⟨a, b, c, d, rfl⟩
theorem list8 {l : List UInt8} (h : l.length = 8) : ∃ a b c d e f g i, l = [a, b, c, d, e, f, g, i] := by
 match l, h with
 | [a, b, c, d, e, f, g, i], _ => exact ⟨a, b, c, d, e, f, g, i, rfl⟩
theorem beN1 (a : UInt8) : beN [a] = a.toNat := by simp [beN]
theorem beN2 (a b : UInt8) : beN [a, b] = a.toNat * 256 + b.toNat := by simp [beN]
theorem beN4 (a b c d : UInt8) : beN [a, b, c, d] = a.toNat * 16777216 + b.toNat * 65536 + c.toNat * 256 + d.toNat := by simp [beN]; omega
theorem beN8 (a b c d e f g i : UInt8) : beN [a, b, c, d, e, f, g, i] = a.toNat * 72057594037927936 + b.toNat * 281474976710656 + c.toNat * 1099511627776 + d.toNat * 4294967296 + e.toNat * 16777216 + f.toNat * 65536 + g.toNat * 256 + i.toNat := by simp [beN]; omega
theorem be8_beN {l : List UInt8} (h : l.length = 8) : be8 (beN l) 8 = l := by
 obtain ⟨a, b, c, d, e, f, g, i, rfl⟩ := list8 h
 have ha := a.toNat_lt; have hb := b.toNat_lt; have hc := c.toNat_lt; have hd := d.toNat_lt; have he := e.toNat_lt; have hf := f.toNat_lt; have hg := g.toNat_lt; have hi := i.toNat_lt
 rw [beN8]
 simp only [be8, Nat.reducePow, Nat.reduceMul, Nat.reduceSub, List.nil_append, List.cons_append]
 rw [u8_of (c := a) (by omega), u8_of (c := b) (by omega), u8_of (c := c) (by omega), u8_of (c := d) (by omega), u8_of (c := e) (by omega), u8_of (c := f) (by omega), u8_of (c := g) (by omega), u8_of (c := i) (by omega)]
def headP : List UInt8 → Except Nat (Nat × Nat × Nat)
 | [] => .error 2
 | f :: t =>
  if 27 < f.toNat % 32 then .error 3
  else if f.toNat % 32 < 24 then .ok (f.toNat, f.toNat % 32, 1)
  else if t.length < 2 ^ (f.toNat % 32 - 24) then .error 2
  else if f.toNat / 32 < 7 ∧ (headB 0 (beN (t.take (2 ^ (f.toNat % 32 - 24))))).length ≠ 1 + 2 ^ (f.toNat % 32 - 24) then .error 4
  else .ok (f.toNat, beN (t.take (2 ^ (f.toNat % 32 - 24))), 1 + 2 ^ (f.toNat % 32 - 24))
def widen5 (v : Nat) : Nat :=
 if v / 1024 % 32 = 31 then v / 32768 * 9223372036854775808 + 9218868437227405312 + v % 1024 * 4398046511104
 else if v / 1024 % 32 = 0 then (if v % 1024 = 0 then v / 32768 * 9223372036854775808 else v / 32768 * 9223372036854775808 + (999 + (v % 1024).log2) * 4503599627370496 + (v % 1024 * 2 ^ (52 - (v % 1024).log2) - 4503599627370496))
 else v / 32768 * 9223372036854775808 + (v / 1024 % 32 + 1008) * 4503599627370496 + v % 1024 * 4398046511104
def widen8 (v : Nat) : Nat :=
 if v / 8388608 % 256 = 255 then v / 2147483648 * 9223372036854775808 + 9218868437227405312 + v % 8388608 * 536870912
 else if v / 8388608 % 256 = 0 then (if v % 8388608 = 0 then v / 2147483648 * 9223372036854775808 else v / 2147483648 * 9223372036854775808 + (874 + (v % 8388608).log2) * 4503599627370496 + (v % 8388608 * 2 ^ (52 - (v % 8388608).log2) - 4503599627370496))
 else v / 2147483648 * 9223372036854775808 + (v / 8388608 % 256 + 896) * 4503599627370496 + v % 8388608 * 536870912
def wideP (low n : Nat) : Nat := if low = 25 then widen5 n else if low = 26 then widen8 n else n
def sevenP (low n : Nat) : Except Nat Itm :=
 if low < 24 then .ok (.mk 7 n [] [])
 else if low = 24 then (if n < 32 then .error 4 else .ok (.mk 7 n [] []))
 else if (isNaN (wideP low n) && wideP low n != notNumber) || (floatB (wideP low n)).length != 1 + 2 ^ (low - 24) then .error 4
 else .ok (.mk 8 (wideP low n) [] [])
inductive PL where
 | err (e : Nat)
 | ok (l : List Itm) (k c : Nat)
inductive PR where
 | err (e : Nat)
 | ok (x : Itm) (k c : Nat)
def arrP (p : List UInt8 → Nat → PR) : Nat → List UInt8 → Nat → PL
 | 0, _, c => .ok [] 0 c
 | n + 1, b, c => match p b c with
  | .err e => .err e
  | .ok x k c' => match arrP p n (b.drop k) c' with
   | .err e => .err e
   | .ok l k' c'' => .ok (x :: l) (k + k') c''
def keyP (last : Option (List UInt8)) (key : List UInt8) : Option Nat :=
 match last with
 | none => none
 | some l => if Lib.compareBytes key l = 0 then some 7 else if Lib.compareBytes key l < 0 then some 6 else none
def mapP (p : List UInt8 → Nat → PR) : Nat → List UInt8 → Nat → Option (List UInt8) → PL
 | 0, _, c, _ => .ok [] 0 c
 | n + 1, b, c, last => match p b c with
  | .err e => .err e
  | .ok x k c' => match keyP last (b.take k) with
   | some e => .err e
   | none => match p (b.drop k) c' with
    | .err e => .err e
    | .ok y k' c'' => match mapP p n (b.drop (k + k')) c'' (some (b.take k)) with
     | .err e => .err e
     | .ok l k'' c3 => .ok (x :: y :: l) (k + k' + k'') c3
def parse : Nat → List UInt8 → Nat → PR
 | d, b, c =>
  if 256 ≤ c then .err 8
  else match headP b with
   | .error e => .err e
   | .ok (f, n, k) =>
    if f / 32 ≤ 1 then .ok (.mk (f / 32 : Nat) n [] []) k (c + 1)
    else if f / 32 ≤ 3 then
     (if b.length < k + n then .err 2
     else if f / 32 = 3 ∧ Lib.validD ((b.drop k).take n) = false then .err 5
     else .ok (.mk (f / 32 : Nat) 0 ((b.drop k).take n) []) (k + n) (c + 1))
    else if f / 32 = 7 then
     (match sevenP (f % 32) n with
     | .error e => .err e
     | .ok x => .ok x k (c + 1))
    else match d with
     | 0 => .err 8
     | d + 1 =>
      if f / 32 = 6 then (match parse d (b.drop k) (c + 1) with
       | .err e => .err e
       | .ok x k' c' => .ok (.mk 6 n [] [x]) (k + k') c')
      else if f / 32 = 5 then (match mapP (parse d) n (b.drop k) (c + 1) none with
       | .err e => .err e
       | .ok l k' c' => .ok (.mk 5 0 [] l) (k + k') c')
      else (match arrP (parse d) n (b.drop k) (c + 1) with
       | .err e => .err e
       | .ok l k' c' => .ok (.mk 4 0 [] l) (k + k') c')
theorem head_canon {m low : Nat} (hlow : 24 ≤ low ∧ low ≤ 27) {t : List UInt8} (ht : t.length = 2 ^ (low - 24)) (h : (headB 0 (beN t)).length = 1 + 2 ^ (low - 24)) : headB m (beN t) = u8 (m * 32 + low) :: t := by
 rw [headB_length] at h
 rcases (by omega : low = 24 ∨ low = 25 ∨ low = 26 ∨ low = 27) with rfl | rfl | rfl | rfl
 ·obtain ⟨a, rfl⟩ := list1 (by simpa using ht)
  have := a.toNat_lt
  rw [beN1] at h ⊢
  rw [headB_XY]
  have h1 : 24 ≤ a.toNat := by
   simp at h
   repeat' split at h
   all_goals omega
  simp only [headX, headY, show ¬ a.toNat < 24 by omega, show a.toNat < 256 by omega, if_true, if_false]
  rw [u8_of (n := a.toNat) (c := a) (by omega)]
 ·obtain ⟨a, b, rfl⟩ := list2 (by simpa using ht)
  have ha := a.toNat_lt; have hb := b.toNat_lt
  rw [beN2] at h ⊢
  obtain ⟨q, hq⟩ : ∃ q, a.toNat * 256 + b.toNat = q := ⟨_, rfl⟩
  rw [hq] at h ⊢
  have h1 : 256 ≤ q := by
   simp at h
   repeat' split at h
   all_goals omega
  rw [headB_XY]
  simp only [headX, headY, show ¬ q < 24 by omega, show ¬ q < 256 by omega, show q < 65536 by omega, if_true, if_false]
  rw [u8_of (n := q / 256) (c := a) (by omega), u8_of (n := q) (c := b) (by omega)]
 ·obtain ⟨a, b, c, d, rfl⟩ := list4' (by simpa using ht)
  have ha := a.toNat_lt; have hb := b.toNat_lt; have hc := c.toNat_lt; have hd := d.toNat_lt
  rw [beN4] at h ⊢
  obtain ⟨q, hq⟩ : ∃ q, a.toNat * 16777216 + b.toNat * 65536 + c.toNat * 256 + d.toNat = q := ⟨_, rfl⟩
  rw [hq] at h ⊢
  have h1 : 65536 ≤ q := by
   simp at h
   repeat' split at h
   all_goals omega
  rw [headB_XY]
  simp only [headX, headY, show ¬ q < 24 by omega, show ¬ q < 256 by omega, show ¬ q < 65536 by omega, show q < 4294967296 by omega, if_true, if_false]
  rw [u8_of (n := q / 16777216) (c := a) (by omega), u8_of (n := q / 65536) (c := b) (by omega), u8_of (n := q / 256) (c := c) (by omega), u8_of (n := q) (c := d) (by omega)]
 ·have h1 : 4294967296 ≤ beN t := by
   simp at h
   repeat' split at h
   all_goals omega
  rw [headB_XY]
  simp only [headX, headY, show ¬ beN t < 24 by omega, show ¬ beN t < 256 by omega, show ¬ beN t < 65536 by omega, show ¬ beN t < 4294967296 by omega, if_false]
  rw [be8_beN (by simpa using ht)]
structure HeadIs (b : List UInt8) (f n k : Nat) : Prop where
 le : k ≤ b.length
 pos : 0 < k
 f_lt : f < 256
 low : f % 32 ≤ 27
 small : f % 32 < 24 → n = f % 32 ∧ k = 1 ∧ b.take k = [u8 f]
 wide : 24 ≤ f % 32 → k = 1 + 2 ^ (f % 32 - 24) ∧ ∃ t, t.length = 2 ^ (f % 32 - 24) ∧ b.take k = u8 f :: t ∧ n = beN t
 n_lt : n < 18446744073709551616
 enc : f / 32 < 7 → headB (f / 32) n = b.take k
theorem headP_spec {b : List UInt8} {f n k : Nat} (h : headP b = .ok (f, n, k)) : HeadIs b f n k := by
 cases b with
 | nil => cases h
 | cons g t =>
  have hg := g.toNat_lt
  simp only [headP] at h
  split at h
  ·cases h
  rename_i q1
  split at h
  ·rename_i q2
   injection h with h
   simp only [Prod.mk.injEq] at h
   obtain ⟨rfl, rfl, rfl⟩ := h
   have hu : u8 g.toNat = g := u8_of (by omega)
   refine ⟨by simp, by omega, hg, by omega, fun _ => ⟨rfl, rfl, by simp [hu]⟩, fun h => by omega, by omega, fun h7 => ?_⟩
   rw [headB_XY]
   simp only [headX, headY, q2, if_true]
   rw [show g.toNat / 32 * 32 + g.toNat % 32 = g.toNat by omega, hu]
   simp
  rename_i q2
  split at h
  ·cases h
  rename_i q3
  split at h
  ·cases h
  rename_i q4
  injection h with h
  simp only [Prod.mk.injEq] at h
  obtain ⟨rfl, rfl, rfl⟩ := h
  have hu : u8 g.toNat = g := u8_of (by omega)
  obtain ⟨low, hlow⟩ : ∃ low, g.toNat % 32 = low := ⟨_, rfl⟩
  rw [hlow] at q1 q2 q3 q4 ⊢
  have hz : 2 ^ (low - 24) ≤ 8 := by
   rcases (by omega : low = 24 ∨ low = 25 ∨ low = 26 ∨ low = 27) with rfl | rfl | rfl | rfl <;> decide
  have htl : (t.take (2 ^ (low - 24))).length = 2 ^ (low - 24) := by rw [List.length_take]; omega
  have ht : (g :: t).take (1 + 2 ^ (low - 24)) = g :: t.take (2 ^ (low - 24)) := by rw [Nat.add_comm, List.take_succ_cons]
  refine ⟨by rw [List.length_cons]; omega, by omega, hg, by omega, fun h => by omega, fun _ => ⟨by rw [hlow], _, by rw [hlow]; exact htl, by rw [ht, hu], rfl⟩, ?_, fun h7 => ?_⟩
  ·refine Nat.lt_of_lt_of_le (beN_lt _) ?_
   rw [htl]
   exact Nat.pow_le_pow_right (n := 256) (by omega) hz
  ·rw [ht, head_canon (low := low) (by omega) htl (by
    rcases Nat.lt_or_ge 0 1 with _ | _
    ·exact Classical.byContradiction fun h => q4 ⟨h7, h⟩
    ·exact absurd ‹1 ≤ 0› (by omega)), show g.toNat / 32 * 32 + low = g.toNat by omega, hu]
theorem nar_split {n s e m : Nat} (h : n = s * 9223372036854775808 + e * 4503599627370496 + m) (hs : s ≤ 1) (he : e < 2048) (hm : m < 4503599627370496) :
  n / 4503599627370496 % 2048 = e ∧ n % 4503599627370496 = m ∧ n / 9223372036854775808 = s := by subst h; refine ⟨?_, ?_, ?_⟩ <;> omega
theorem narrow15_of {n v s x f : Nat} (h : Nar15 n v s x f) : narrow n 5 10 = some v := by
 obtain ⟨a1, a2, a3, a4, h⟩ := h
 rcases h with ⟨h1, h2, h3⟩ | ⟨h1, h2, h3⟩ | ⟨h1, h2, h3⟩ | ⟨h1, t, full, h2, h3, h4, h5, h6, h7⟩
 ·obtain ⟨k1, k2, k3⟩ := nar_split (n := n) (s := s) (e := 2047) (m := 0) (by rw [h3]) a1 (by omega) (by omega)
  rw [narrow]
  simp only [Nat.reducePow, Nat.reduceSub, Nat.reduceAdd, Nat.reduceMul]
  rw [k1, k2, k3, if_pos rfl, if_pos rfl]
  congr 1; omega
 ·obtain ⟨k1, k2, k3⟩ := nar_split (n := n) (s := s) (e := 0) (m := 0) (by rw [h3, Nat.zero_mul, Nat.add_zero]) a1 (by omega) (by omega)
  rw [narrow]
  simp only [Nat.reducePow, Nat.reduceSub, Nat.reduceAdd, Nat.reduceMul]
  rw [k1, k2, k3, if_neg (by omega), if_pos rfl, if_pos rfl]
  congr 1; omega
 ·obtain ⟨k1, k2, k3⟩ := nar_split (n := n) (s := s) (e := x + 1008) (m := f * 4398046511104) (by omega) a1 (by omega) (by omega)
  rw [narrow]
  simp only [Nat.reducePow, Nat.reduceSub, Nat.reduceAdd, Nat.reduceMul]
  rw [k1, k2, k3]
  rw [if_neg (by omega), if_neg (by omega), if_neg (by omega), if_pos (by omega), if_pos (by omega)]
  congr 1; omega
 ·have e2 : 2 ^ (t + 1) * 2 ^ (52 - t) = 9007199254740992 := by
   rw [← Nat.pow_add, show t + 1 + (52 - t) = 53 by omega]
  have b2 := Nat.mul_lt_mul_of_pos_right h4 (Nat.two_pow_pos (52 - t))
  rw [e2, ← h5] at b2
  obtain ⟨k1, k2, k3⟩ := nar_split (n := n) (s := s) (e := 999 + t) (m := full - 4503599627370496) h7 a1 (by omega) (by omega)
  rw [narrow]
  simp only [Nat.reducePow, Nat.reduceSub, Nat.reduceAdd, Nat.reduceMul]
  rw [k1, k2, k3]
  rw [if_neg (by omega), if_neg (by omega), if_neg (by omega), if_neg (by omega), if_neg (by omega), show 43 + (1023 - (999 + t) - 15) = 52 - t by omega, show full - 4503599627370496 + 4503599627370496 = full by omega, h5, if_pos (Nat.mul_mod_left _ _), Nat.mul_div_cancel _ (Nat.two_pow_pos _)]
  congr 1; omega
theorem sub_full {f t : Nat} (h1 : 2 ^ t ≤ f) (h2 : f < 2 ^ (t + 1)) (ht : t ≤ 52) : 4503599627370496 ≤ f * 2 ^ (52 - t) ∧ f * 2 ^ (52 - t) < 9007199254740992 := by
 have e1 : 2 ^ t * 2 ^ (52 - t) = 4503599627370496 := by
  rw [← Nat.pow_add, show t + (52 - t) = 52 by omega]
 have e2 : 2 ^ (t + 1) * 2 ^ (52 - t) = 9007199254740992 := by
  rw [← Nat.pow_add, show t + 1 + (52 - t) = 53 by omega]
 have b1 := Nat.mul_le_mul_right (2 ^ (52 - t)) h1
 have b2 := Nat.mul_lt_mul_of_pos_right h2 (Nat.two_pow_pos (52 - t))
 omega
theorem widen5_nar {v : Nat} (hv : v < 65536) (hn : ¬ (v / 1024 % 32 = 31 ∧ v % 1024 ≠ 0)) : Nar15 (widen5 v) v (v / 32768) (v / 1024 % 32) (v % 1024) ∧ widen5 v < 18446744073709551616 := by
 obtain ⟨s, hs⟩ : ∃ s, v / 32768 = s := ⟨_, rfl⟩
 obtain ⟨x, hx⟩ : ∃ x, v / 1024 % 32 = x := ⟨_, rfl⟩
 obtain ⟨f, hf⟩ : ∃ f, v % 1024 = f := ⟨_, rfl⟩
 have hs1 : s ≤ 1 := by omega
 have hx1 : x ≤ 31 := by omega
 have hf1 : f < 1024 := by omega
 have hv2 : v = s * 32768 + x * 1024 + f := by omega
 rw [hx, hf] at hn
 rw [widen5, hs, hx, hf]
 clear hs hx hf
 by_cases h1 : x = 31
 ·have h0 : f = 0 := by omega
  subst h0
  rw [if_pos h1]
  exact ⟨⟨hs1, hv2, by omega, hx1, .inl ⟨h1, rfl, by omega⟩⟩, by omega⟩
 rw [if_neg h1]
 by_cases h2 : x = 0
 ·rw [if_pos h2]
  by_cases h0 : f = 0
  ·rw [if_pos h0]
   exact ⟨⟨hs1, hv2, by omega, hx1, .inr (.inl ⟨h2, h0, rfl⟩)⟩, by omega⟩
  ·rw [if_neg h0]
   have a1 : 2 ^ f.log2 ≤ f := Nat.log2_self_le h0
   have a2 : f < 2 ^ (f.log2 + 1) := Nat.lt_log2_self
   have a3 : f.log2 < 10 := (Nat.log2_lt h0).2 (by simpa using hf1)
   generalize f.log2 = t at a1 a2 a3
   have b := sub_full a1 a2 (by omega)
   obtain ⟨full, hfull⟩ : ∃ full, f * 2 ^ (52 - t) = full := ⟨_, rfl⟩
   rw [hfull] at b ⊢
   exact ⟨⟨hs1, hv2, by omega, hx1, .inr (.inr (.inr ⟨h2, t, full, a3, a1, a2, hfull.symm, b.1, rfl⟩))⟩, by omega⟩
 ·rw [if_neg h2]
  exact ⟨⟨hs1, hv2, by omega, hx1, .inr (.inr (.inl ⟨by omega, by omega, rfl⟩))⟩, by omega⟩
theorem widen8_nar {v : Nat} (hv : v < 4294967296) (hn : ¬ (v / 8388608 % 256 = 255 ∧ v % 8388608 ≠ 0)) : Nar31 (widen8 v) v (v / 2147483648) (v / 8388608 % 256) (v % 8388608) ∧ widen8 v < 18446744073709551616 := by
 obtain ⟨s, hs⟩ : ∃ s, v / 2147483648 = s := ⟨_, rfl⟩
 obtain ⟨x, hx⟩ : ∃ x, v / 8388608 % 256 = x := ⟨_, rfl⟩
 obtain ⟨f, hf⟩ : ∃ f, v % 8388608 = f := ⟨_, rfl⟩
 have hs1 : s ≤ 1 := by omega
 have hx1 : x ≤ 255 := by omega
 have hf1 : f < 8388608 := by omega
 have hv2 : v = s * 2147483648 + x * 8388608 + f := by omega
 rw [hx, hf] at hn
 rw [widen8, hs, hx, hf]
 clear hs hx hf
 by_cases h1 : x = 255
 ·have h0 : f = 0 := by omega
  subst h0
  rw [if_pos h1]
  exact ⟨⟨hs1, hv2, by omega, hx1, .inl ⟨h1, rfl, by omega⟩⟩, by omega⟩
 rw [if_neg h1]
 by_cases h2 : x = 0
 ·rw [if_pos h2]
  by_cases h0 : f = 0
  ·rw [if_pos h0]
   exact ⟨⟨hs1, hv2, by omega, hx1, .inr (.inl ⟨h2, h0, rfl⟩)⟩, by omega⟩
  ·rw [if_neg h0]
   have a1 : 2 ^ f.log2 ≤ f := Nat.log2_self_le h0
   have a2 : f < 2 ^ (f.log2 + 1) := Nat.lt_log2_self
   have a3 : f.log2 < 23 := (Nat.log2_lt h0).2 (by simpa using hf1)
   generalize f.log2 = t at a1 a2 a3
   have b := sub_full a1 a2 (by omega)
   obtain ⟨full, hfull⟩ : ∃ full, f * 2 ^ (52 - t) = full := ⟨_, rfl⟩
   rw [hfull] at b ⊢
   exact ⟨⟨hs1, hv2, by omega, hx1, .inr (.inr (.inr ⟨h2, t, full, a3, a1, a2, hfull.symm, b.1, rfl⟩))⟩, by omega⟩
 ·rw [if_neg h2]
  exact ⟨⟨hs1, hv2, by omega, hx1, .inr (.inr (.inl ⟨by omega, by omega, rfl⟩))⟩, by omega⟩
theorem nan_of {n s m : Nat} (h : n = s * 9223372036854775808 + 2047 * 4503599627370496 + m) (hs : s ≤ 1) (hm : m < 4503599627370496) (h0 : m ≠ 0) : isNaN n = true := by
 obtain ⟨k1, k2, _⟩ := nar_split h hs (by omega) hm
 rw [isNaN]
 simp only [Nat.reducePow, k1, k2]
 simp [h0]
theorem notNaN_of {n e m s : Nat} (h : n = s * 9223372036854775808 + e * 4503599627370496 + m) (hs : s ≤ 1) (he : e ≤ 2047) (hm : m < 4503599627370496) (h0 : e = 2047 → m = 0) : isNaN n = false := by
 obtain ⟨k1, k2, _⟩ := nar_split h hs (by omega) hm
 rw [isNaN]
 simp only [Nat.reducePow, k1, k2]
 rcases Nat.lt_or_ge e 2047 with h' | h'
 ·have : (e == 2047) = false := by simp; omega
  rw [this]; rfl
 ·rw [h0 (by omega)]; simp
theorem nar15_notNaN {n v s x f : Nat} (h : Nar15 n v s x f) : isNaN n = false := by
 obtain ⟨a1, a2, a3, a4, h⟩ := h
 rcases h with ⟨h1, h2, h3⟩ | ⟨h1, h2, h3⟩ | ⟨h1, h2, h3⟩ | ⟨h1, t, full, h2, h3, h4, h5, h6, h7⟩
 ·exact notNaN_of (s := s) (e := 2047) (m := 0) (by rw [h3]) a1 (by omega) (by omega) (fun _ => rfl)
 ·exact notNaN_of (s := s) (e := 0) (m := 0) (by rw [h3, Nat.zero_mul, Nat.add_zero]) a1 (by omega) (by omega) (fun _ => rfl)
 ·exact notNaN_of (s := s) (e := x + 1008) (m := f * 4398046511104) (by omega) a1 (by omega) (by omega) (fun h => by omega)
 ·have b := sub_full h3 h4 (by omega)
  rw [← h5] at b
  exact notNaN_of (s := s) (e := 999 + t) (m := full - 4503599627370496) h7 a1 (by omega) (by omega) (fun h => by omega)
theorem nar31_notNaN {n v s x f : Nat} (h : Nar31 n v s x f) : isNaN n = false := by
 obtain ⟨a1, a2, a3, a4, h⟩ := h
 rcases h with ⟨h1, h2, h3⟩ | ⟨h1, h2, h3⟩ | ⟨h1, h2, h3⟩ | ⟨h1, t, full, h2, h3, h4, h5, h6, h7⟩
 ·exact notNaN_of (s := s) (e := 2047) (m := 0) (by rw [h3]) a1 (by omega) (by omega) (fun _ => rfl)
 ·exact notNaN_of (s := s) (e := 0) (m := 0) (by rw [h3, Nat.zero_mul, Nat.add_zero]) a1 (by omega) (by omega) (fun _ => rfl)
 ·exact notNaN_of (s := s) (e := x + 896) (m := f * 536870912) (by omega) a1 (by omega) (by omega) (fun h => by omega)
 ·have b := sub_full h3 h4 (by omega)
  rw [← h5] at b
  exact notNaN_of (s := s) (e := 874 + t) (m := full - 4503599627370496) h7 a1 (by omega) (by omega) (fun h => by omega)
theorem widen5_nan {v : Nat} (hv : v < 65536) (h : v / 1024 % 32 = 31 ∧ v % 1024 ≠ 0) : isNaN (widen5 v) = true ∧ (widen5 v = notNumber ↔ v = 32256) := by
 obtain ⟨h1, h2⟩ := h
 have e : widen5 v = v / 32768 * 9223372036854775808 + 2047 * 4503599627370496 + v % 1024 * 4398046511104 := by rw [widen5, if_pos h1]
 refine ⟨nan_of e (by omega) (by omega) (by omega), ?_⟩
 rw [e, notNumber]
 omega
theorem widen8_nan {v : Nat} (hv : v < 4294967296) (h : v / 8388608 % 256 = 255 ∧ v % 8388608 ≠ 0) : isNaN (widen8 v) = true := by
 obtain ⟨h1, h2⟩ := h
 have e : widen8 v = v / 2147483648 * 9223372036854775808 + 2047 * 4503599627370496 + v % 8388608 * 536870912 := by rw [widen8, if_pos h1]
 exact nan_of e (by omega) (by omega) (by omega)
theorem floatB_nan {n : Nat} (h : isNaN n = true) : floatB n = [u8 249, u8 126, u8 0] := by rw [floatB, if_pos h]
theorem floatB_len3 {n : Nat} (h : isNaN n = false) : (floatB n).length = (if (narrow n 5 10).isSome then 3 else if (narrow n 8 23).isSome then 5 else 9) := by
 rw [floatB, if_neg (by simp [h])]
 cases narrow n 5 10 with
 | some v => rfl
 | none => cases narrow n 8 23 with
  | some v => rfl
  | none => simp [be8_length]
theorem float_spec {low n f : Nat} (hl : 25 ≤ low ∧ low ≤ 27) {t : List UInt8} (ht : t.length = 2 ^ (low - 24)) (hn : n = beN t) (hf : f = wideP low n)
  (h1 : ¬ (isNaN f = true ∧ f ≠ notNumber)) (h2 : (floatB f).length = 1 + 2 ^ (low - 24)) : floatB f = u8 (7 * 32 + low) :: t ∧ f < 18446744073709551616 := by
 rcases (by omega : low = 25 ∨ low = 26 ∨ low = 27) with rfl | rfl | rfl
 ·obtain ⟨a, b, rfl⟩ := list2 (by simpa using ht)
  have ha := a.toNat_lt; have hb := b.toNat_lt
  rw [beN2] at hn
  have hv : n < 65536 := by omega
  rw [wideP, if_pos rfl] at hf
  by_cases hx : n / 1024 % 32 = 31 ∧ n % 1024 ≠ 0
  ·obtain ⟨q1, q2⟩ := widen5_nan hv hx
   rw [← hf] at q1 q2
   have hf2 : f = notNumber := Classical.byContradiction fun h => h1 ⟨q1, h⟩
   have hn2 := q2.1 hf2
   rw [floatB_nan q1]
   refine ⟨?_, by rw [hf2]; decide⟩
   rw [u8_of (n := 126) (c := a) (by omega), u8_of (n := 0) (c := b) (by omega)]
  ·obtain ⟨q1, q2⟩ := widen5_nar hv hx
   rw [← hf] at q1 q2
   refine ⟨?_, q2⟩
   rw [floatB, if_neg (by rw [nar15_notNaN q1]; simp), narrow15_of q1]
   simp only
   rw [u8_of (n := n / 256) (c := a) (by omega), u8_of (n := n) (c := b) (by omega)]
 ·obtain ⟨a, b, c, d, rfl⟩ := list4' (by simpa using ht)
  have ha := a.toNat_lt; have hb := b.toNat_lt; have hc := c.toNat_lt; have hd := d.toNat_lt
  rw [beN4] at hn
  have hv : n < 4294967296 := by omega
  rw [wideP, if_neg (by omega), if_pos rfl] at hf
  by_cases hx : n / 8388608 % 256 = 255 ∧ n % 8388608 ≠ 0
  ·have q1 := widen8_nan hv hx
   rw [← hf] at q1
   rw [floatB_nan q1] at h2
   simp at h2
  ·obtain ⟨q1, q2⟩ := widen8_nar hv hx
   rw [← hf] at q1 q2
   refine ⟨?_, q2⟩
   have q3 := nar31_notNaN q1
   have q4 := narrow31_of q1
   rw [floatB_len3 q3, q4] at h2
   have q5 : narrow f 5 10 = none := by
    cases h : narrow f 5 10 with
    | none => rfl
    | some v => rw [h] at h2; simp at h2
   rw [floatB, if_neg (by rw [q3]; simp), q5, q4]
   simp only
   rw [u8_of (n := n / 16777216) (c := a) (by omega), u8_of (n := n / 65536) (c := b) (by omega), u8_of (n := n / 256) (c := c) (by omega), u8_of (n := n) (c := d) (by omega)]
 ·have ht8 : t.length = 8 := by simpa using ht
  have hb := beN_lt t
  rw [ht8, ← hn] at hb
  rw [wideP, if_neg (by omega), if_neg (by omega)] at hf
  subst hf
  refine ⟨?_, by omega⟩
  cases q3 : isNaN f with
  | true =>
   rw [floatB_nan q3] at h2
   simp at h2
  | false =>
   rw [floatB_len3 q3] at h2
   have q5 : narrow f 5 10 = none := by
    cases h : narrow f 5 10 with
    | none => rfl
    | some v => rw [h] at h2; simp at h2
   have q6 : narrow f 8 23 = none := by
    cases h : narrow f 8 23 with
    | none => rfl
    | some v => rw [h, q5] at h2; simp at h2
   rw [floatB, if_neg (by rw [q3]; simp), q5, q6]
   simp only
   rw [hn, be8_beN ht8]
theorem seven_spec {low n : Nat} {x : Itm} (hl : low ≤ 27) {t : List UInt8} (h24 : low < 24 → n = low ∧ t = []) (hw : 24 ≤ low → t.length = 2 ^ (low - 24) ∧ n = beN t) (h : sevenP low n = .ok x) :
  encB x = u8 (7 * 32 + low) :: t ∧ (∀ lv, Good x lv) ∧ x.n < 18446744073709551616 ∧ x.items = [] ∧ cnt x = 1 := by
 rw [sevenP] at h
 have good7 : ∀ (n : Nat), (n < 24 ∨ 32 ≤ n ∧ n < 256) → ∀ lv, Good (.mk 7 n [] []) lv := fun n hn lv => by
  rw [Good]
  refine ⟨?_, ?_, fun h => by omega⟩
  ·rw [nodeOk, if_pos (by simp [isPlain, Itm.kind])]
   rcases hn with hn | ⟨h1, h2⟩ <;> simp [okPlain, Itm.kind, Itm.n, Itm.bytes, Itm.items, *]
  ·rw [GoodL]; trivial
 split at h
 ·rename_i q1
  injection h with h
  subst h
  obtain ⟨rfl, rfl⟩ := h24 q1
  refine ⟨?_, good7 _ (.inl q1), by simp only [Itm.n]; omega, rfl, by simp [cnt, cntL]⟩
  rw [encB_eq, if_neg (by simp [Itm.kind]), if_neg (by simp [Itm.n]; omega)]
  have e : numP (.mk 7 n [] []) = n := by simp [numP, Itm.kind, Itm.n]
  rw [e, headB, if_pos q1]
  simp [Itm.bytes, Itm.items, Itm.kind, encL]
 split at h
 ·rename_i q1 q2
  subst q2
  split at h
  ·cases h
  rename_i q3
  injection h with h
  subst h
  obtain ⟨ht, hn⟩ := hw (by omega)
  obtain ⟨a, rfl⟩ := list1 (by simpa using ht)
  have ha := a.toNat_lt
  rw [beN1] at hn
  refine ⟨?_, good7 _ (.inr (by omega)), by simp only [Itm.n]; omega, rfl, by simp [cnt, cntL]⟩
  rw [encB_eq, if_neg (by simp [Itm.kind]), if_pos (by simp [Itm.n, Itm.kind]; omega)]
  simp only [Itm.n]
  rw [u8_of (n := n) (c := a) (by omega)]
 ·rename_i q1 q2
  split at h
  ·cases h
  rename_i q3
  injection h with h
  subst h
  obtain ⟨ht, hn⟩ := hw (by omega)
  simp only [Bool.or_eq_true, Bool.and_eq_true, bne_iff_ne, ne_eq, not_or] at q3
  obtain ⟨q3, q4⟩ := q3
  have q4' := Classical.not_not.1 q4
  obtain ⟨e, he⟩ := float_spec (low := low) (n := n) (by omega) ht hn rfl q3 q4'
  refine ⟨?_, fun lv => ?_, he, rfl, by simp [cnt, cntL]⟩
  ·rw [encB_eq, if_pos (by simp [Itm.kind])]
   exact e
  ·rw [Good]
   refine ⟨?_, by rw [GoodL]; trivial, fun h => by omega⟩
   rw [nodeOk, if_pos (by simp [isPlain, Itm.kind])]
   simp [okPlain, Itm.kind, Itm.n, Itm.bytes, Itm.items]
   cases hN : isNaN (wideP low n) with
   | false => exact .inl rfl
   | true => exact .inr (Classical.byContradiction fun h => q3 ⟨hN, h⟩)
structure Read (d : Nat) (b : List UInt8) (c : Nat) (x : Itm) (k c' : Nat) : Prop where
 le : k ≤ b.length
 pos : 0 < k
 enc : encB x = b.take k
 cnt : c' = c + cnt x
 lim : c' ≤ 256
 good : ∀ lv, lv + d = 8 → Good x lv
 nums : Nums x
structure ReadL (d : Nat) (b : List UInt8) (c : Nat) (l : List Itm) (n k c' : Nat) : Prop where
 le : k ≤ b.length
 enc : encL l = b.take k
 cnt : c' = c + cntL l
 lim : c' ≤ 256
 good : ∀ lv, lv + d = 8 → GoodL l lv
 nums : NumsL l
 len : l.length = n
theorem take_drop_app {α : Type} (b : List α) (k k' : Nat) : b.take (k + k') = b.take k ++ (b.drop k).take k' := List.take_add
theorem arr_spec {d : Nat} {p : List UInt8 → Nat → PR} (hp : ∀ b c x k c', p b c = .ok x k c' → Read d b c x k c') :
  ∀ (n : Nat) (b : List UInt8) (c : Nat) (l : List Itm) (k c' : Nat), c ≤ 256 → arrP p n b c = .ok l k c' → ReadL d b c l n k c'
 | 0, b, c, l, k, c', hc, h => by
  rw [arrP] at h
  injection h with h1 h2 h3
  subst h1 h2 h3
  exact ⟨by omega, by simp [encL], by simp [cntL], hc, fun lv _ => by rw [GoodL]; trivial, by rw [NumsL]; trivial, rfl⟩
 | n + 1, b, c, l, k, c', hc, h => by
  rw [arrP] at h
  split at h
  ·cases h
  rename_i x k1 c1 h1
  split at h
  ·cases h
  rename_i l1 k2 c2 h2
  injection h with e1 e2 e3
  subst e1 e2 e3
  have r1 := hp _ _ _ _ _ h1
  have r2 := arr_spec hp n _ _ _ _ _ r1.lim h2
  have hl := r2.le
  rw [List.length_drop] at hl
  have := r1.le
  refine ⟨by omega, ?_, ?_, r2.lim, fun lv hlv => ?_, ?_, by rw [List.length_cons, r2.len]⟩
  ·rw [encL, r1.enc, r2.enc, take_drop_app]
  ·rw [cntL, r2.cnt, r1.cnt]; omega
  ·rw [GoodL]; exact ⟨r1.good lv hlv, r2.good lv hlv⟩
  ·rw [NumsL]; exact ⟨r1.nums, r2.nums⟩
def AscFrom (last : Option (List UInt8)) (l : List Itm) : Prop :=
 ascP l = true ∧ ∀ q, last = some q → ∀ x t, l = x :: t → Lib.compareBytes q (encB x) < 0
theorem cmp_not : ∀ a b : List UInt8, ¬ Lib.compareBytes a b = 0 → ¬ Lib.compareBytes a b < 0 → Lib.compareBytes b a < 0
 | [], [], h, _ => absurd rfl h
 | [], _ :: _, _, h => absurd (by show (-1 : Int) < 0; decide) h
 | _ :: _, [], _, _ => by show (-1 : Int) < 0; decide
 | x :: a, y :: b, h, k => by
  rw [Lib.compareBytes] at h k ⊢
  split at h
  ·rename_i h1
   rw [if_pos h1] at k
   exact absurd (by decide) k
  rename_i h1
  rw [if_neg h1] at k
  split at h
  ·rename_i h2
   rw [if_pos h2]
   decide
  rename_i h2
  rw [if_neg h2] at k
  rw [if_neg h2, if_neg h1]
  exact cmp_not a b h k
theorem keyP_none {last : Option (List UInt8)} {key : List UInt8} (h : keyP last key = none) : ∀ q, last = some q → Lib.compareBytes q key < 0 := by
 intro q hq
 subst hq
 rw [keyP] at h
 split at h
 ·cases h
 split at h
 ·cases h
 rename_i h1 h2
 exact cmp_not _ _ h1 h2
theorem map_spec {d : Nat} {p : List UInt8 → Nat → PR} (hp : ∀ b c x k c', p b c = .ok x k c' → Read d b c x k c') :
  ∀ (n : Nat) (b : List UInt8) (c : Nat) (last : Option (List UInt8)) (l : List Itm) (k c' : Nat), c ≤ 256 → mapP p n b c last = .ok l k c' → ReadL d b c l (2 * n) k c' ∧ AscFrom last l
 | 0, b, c, last, l, k, c', hc, h => by
  rw [mapP] at h
  injection h with h1 h2 h3
  subst h1 h2 h3
  exact ⟨⟨by omega, by simp [encL], by simp [cntL], hc, fun lv _ => by rw [GoodL]; trivial, by rw [NumsL]; trivial, rfl⟩, rfl, fun _ _ _ _ h => by cases h⟩
 | n + 1, b, c, last, l, k, c', hc, h => by
  rw [mapP] at h
  split at h
  ·cases h
  rename_i x k1 c1 h1
  split at h
  ·cases h
  rename_i hk
  split at h
  ·cases h
  rename_i y k2 c2 h2
  split at h
  ·cases h
  rename_i l1 k3 c3 h3
  injection h with e1 e2 e3
  subst e1 e2 e3
  have r1 := hp _ _ _ _ _ h1
  have r2 := hp _ _ _ _ _ h2
  obtain ⟨r3, a1, a2⟩ := map_spec hp n _ _ _ _ _ _ r2.lim h3
  have hl2 := r2.le
  have hl3 := r3.le
  rw [List.length_drop] at hl2 hl3
  have := r1.le
  refine ⟨⟨by omega, ?_, ?_, r3.lim, fun lv hlv => ?_, ?_, by rw [List.length_cons, List.length_cons, r3.len]; omega⟩, ?_, fun q hq x' t ht => ?_⟩
  ·rw [encL, encL, r1.enc, r2.enc, r3.enc, ← List.append_assoc, ← take_drop_app, ← take_drop_app]
  ·rw [cntL, cntL, r3.cnt, r2.cnt, r1.cnt]; omega
  ·rw [GoodL, GoodL]; exact ⟨r1.good lv hlv, r2.good lv hlv, r3.good lv hlv⟩
  ·rw [NumsL, NumsL]; exact ⟨r1.nums, r2.nums, r3.nums⟩
  ·cases l1 with
   | nil => rfl
   | cons z l2 =>
    rw [ascP, a1]
    have := a2 _ rfl z l2 rfl
    rw [← r1.enc] at this
    simp [this]
  ·injection ht with ht _
   subst ht
   rw [r1.enc]
   exact keyP_none hk q hq
theorem good_leaf {x : Itm} (h : ∀ lv, nodeOk x lv = true) (hi : x.items = []) (h5 : x.kind ≠ 5) : ∀ lv, Good x lv := fun lv =>
 Good.of (h lv) (by rw [hi, GoodL]; trivial) (fun h => absurd h h5)
theorem parse_spec : ∀ (d : Nat) (b : List UInt8) (c : Nat) (x : Itm) (k c' : Nat), parse d b c = .ok x k c' → Read d b c x k c' := by
 intro d
 induction d using Nat.strongRecOn with
 | _ d ih =>
  intro b c x k c' h
  rw [parse.eq_def] at h
  simp only at h
  split at h
  ·cases h
  rename_i hc
  split at h
  ·cases h
  rename_i f n k1 hh
  have H := headP_spec hh
  have hlow := H.low
  have hf := H.f_lt
  split at h
  ·rename_i h1
   injection h with e1 e2 e3
   subst e1 e2 e3
   have hk : f / 32 = 0 ∨ f / 32 = 1 := by omega
   refine ⟨H.le, H.pos, ?_, by simp [cnt, cntL], by omega, fun lv _ => good_leaf (fun lv => ?_) rfl (by simp only [Itm.kind]; omega) lv, ?_⟩
   ·rw [← H.enc (by omega), encB_eq, if_neg (by simp only [Itm.kind]; omega), if_neg (by simp only [Itm.kind]; omega)]
    have e : numP (.mk (f / 32 : Nat) n [] []) = n := by
     rw [numP, if_neg (by simp only [Itm.kind]; omega), if_neg (by simp only [Itm.kind]; omega), if_neg (by simp only [Itm.kind]; omega)]; rfl
    rw [e, show (Itm.mk (f / 32 : Nat) n [] []).kind.toNat = f / 32 from rfl]
    simp [Itm.bytes, Itm.items, encL]
   ·rw [nodeOk]
    rcases hk with hk | hk <;> simp [isPlain, okPlain, Itm.kind, Itm.bytes, Itm.items, hk]
   ·rw [Nums]; exact ⟨H.n_lt, by rw [NumsL]; trivial⟩
  rename_i h1
  split at h
  ·rename_i h3
   split at h
   ·cases h
   rename_i h4
   split at h
   ·cases h
   rename_i h5
   injection h with e1 e2 e3
   subst e1 e2 e3
   have hk : f / 32 = 2 ∨ f / 32 = 3 := by omega
   have hle := H.le
   have hlen : ((b.drop k1).take n).length = n := by rw [List.length_take, List.length_drop]; omega
   have hn := H.n_lt
   have hpos := H.pos
   refine ⟨by omega, by omega, ?_, by simp [cnt, cntL], by omega, fun lv _ => good_leaf (fun lv => ?_) rfl (by simp only [Itm.kind]; omega) lv, ?_⟩
   ·rw [take_drop_app, ← H.enc (by omega), encB_eq, if_neg (by simp only [Itm.kind]; omega), if_neg (by simp only [Itm.kind]; omega)]
    have e : numP (.mk (f / 32 : Nat) 0 ((b.drop k1).take n) []) = n := by
     rw [numP, if_pos (by simp only [Itm.kind]; omega)]
     exact hlen
    rw [e, show (Itm.mk (f / 32 : Nat) 0 ((b.drop k1).take n) []).kind.toNat = f / 32 from rfl]
    simp [Itm.bytes, Itm.items, encL]
   ·rw [nodeOk]
    rcases hk with hk | hk
    ·simp [isPlain, okPlain, Itm.kind, Itm.bytes, Itm.items, Itm.n, hk]
    ·have : Lib.validD ((b.drop k1).take n) = true := by
      cases h : Lib.validD ((b.drop k1).take n) with
      | true => rfl
      | false => exact absurd ⟨hk, h⟩ h5
     simp [isPlain, okPlain, Itm.kind, Itm.bytes, Itm.items, Itm.n, hk, this]
   ·rw [Nums]; exact ⟨by omega, by rw [NumsL]; trivial⟩
  rename_i h3
  split at h
  ·rename_i h7
   split at h
   ·cases h
   rename_i y hs
   injection h with e1 e2 e3
   subst e1 e2 e3
   have hu : u8 f = u8 (7 * 32 + f % 32) := by rw [show 7 * 32 + f % 32 = f by omega]
   rcases Nat.lt_or_ge (f % 32) 24 with hl | hl
   ·obtain ⟨s1, s2, s3⟩ := H.small hl
    obtain ⟨g1, g2, g3, g4, g5⟩ := seven_spec (low := f % 32) (t := []) (by omega) (fun _ => ⟨s1, rfl⟩) (fun h => by omega) hs
    refine ⟨H.le, H.pos, by rw [s3, g1, hu], by rw [g5], by omega, fun lv _ => g2 lv, ?_⟩
    cases y
    rw [Nums]
    simp only [Itm.items] at g4
    subst g4
    exact ⟨g3, by rw [NumsL]; trivial⟩
   ·obtain ⟨s1, t, s2, s3, s4⟩ := H.wide hl
    obtain ⟨g1, g2, g3, g4, g5⟩ := seven_spec (low := f % 32) (t := t) (by omega) (fun h => by omega) (fun _ => ⟨s2, s4⟩) hs
    refine ⟨H.le, H.pos, by rw [s3, g1, hu], by rw [g5], by omega, fun lv _ => g2 lv, ?_⟩
    cases y
    rw [Nums]
    simp only [Itm.items] at g4
    subst g4
    exact ⟨g3, by rw [NumsL]; trivial⟩
  rename_i h7
  cases d with
  | zero => cases h
  | succ d =>
   simp only at h
   have hd : d < d + 1 := by omega
   have hpos := H.pos
   split at h
   ·rename_i h6
    split at h
    ·cases h
    rename_i y k2 c2 hy
    injection h with e1 e2 e3
    subst e1 e2 e3
    have r := ih d hd _ _ _ _ _ hy
    have hle := H.le
    have hl := r.le
    rw [List.length_drop] at hl
    refine ⟨by omega, by omega, ?_, ?_, r.lim, fun lv hlv => Good.of ?_ ?_ (fun h => by simp only [Itm.kind] at h; omega), ?_⟩
    ·rw [take_drop_app, ← H.enc (by omega), encB_eq, if_neg (by simp only [Itm.kind]; omega), if_neg (by simp only [Itm.kind]; omega), h6]
     have e : numP (.mk 6 n [] [y]) = n := by simp [numP, Itm.kind, Itm.n]
     rw [e, ← r.enc]
     simp [Itm.kind, Itm.bytes, Itm.items, encL]
    ·rw [cnt, cntL, cntL, r.cnt]; omega
    ·rw [nodeOk, if_neg (by simp [isPlain, Itm.kind])]
     simp [frameOk, Itm.kind, Itm.bytes, Itm.items, Itm.n]
     omega
    ·simp only [Itm.items]
     rw [GoodL, GoodL]
     exact ⟨r.good _ (by omega), trivial⟩
    ·rw [Nums, NumsL, NumsL]
     exact ⟨H.n_lt, r.nums, trivial⟩
   rename_i h6
   split at h
   ·rename_i h5
    split at h
    ·cases h
    rename_i l k2 c2 hy
    injection h with e1 e2 e3
    subst e1 e2 e3
    obtain ⟨r, asc, _⟩ := map_spec (ih d hd) _ _ _ _ _ _ _ (by omega) hy
    have hle := H.le
    have hl := r.le
    have hlen := r.len
    rw [List.length_drop] at hl
    refine ⟨by omega, by omega, ?_, ?_, r.lim, fun lv hlv => Good.of ?_ ?_ (fun _ => asc), ?_⟩
    ·rw [take_drop_app, ← H.enc (by omega), encB_eq, if_neg (by simp only [Itm.kind]; omega), if_neg (by simp only [Itm.kind]; omega), h5]
     have e : numP (.mk 5 0 [] l) = n := by simp [numP, Itm.kind, Itm.n, Itm.items, hlen]
     rw [e, ← r.enc]
     simp [Itm.kind, Itm.bytes, Itm.items]
    ·rw [cnt, r.cnt]; omega
    ·rw [nodeOk, if_neg (by simp [isPlain, Itm.kind])]
     simp [frameOk, Itm.kind, Itm.bytes, Itm.items, Itm.n, hlen]
     omega
    ·exact r.good _ (by omega)
    ·rw [Nums]
     exact ⟨by omega, r.nums⟩
   rename_i h5
   split at h
   ·cases h
   rename_i l k2 c2 hy
   injection h with e1 e2 e3
   subst e1 e2 e3
   have h4 : f / 32 = 4 := by omega
   have r := arr_spec (ih d hd) _ _ _ _ _ _ (by omega) hy
   have hle := H.le
   have hl := r.le
   have hlen := r.len
   rw [List.length_drop] at hl
   refine ⟨by omega, by omega, ?_, ?_, r.lim, fun lv hlv => Good.of ?_ ?_ (fun h => by simp only [Itm.kind] at h; omega), ?_⟩
   ·rw [take_drop_app, ← H.enc (by omega), encB_eq, if_neg (by simp only [Itm.kind]; omega), if_neg (by simp only [Itm.kind]; omega), h4]
    have e : numP (.mk 4 0 [] l) = n := by simp [numP, Itm.kind, Itm.n, Itm.items, hlen]
    rw [e, ← r.enc]
    simp [Itm.kind, Itm.bytes, Itm.items]
   ·rw [cnt, r.cnt]; omega
   ·rw [nodeOk, if_neg (by simp [isPlain, Itm.kind])]
    simp [frameOk, Itm.kind, Itm.bytes, Itm.items, Itm.n, hlen]
    omega
   ·exact r.good _ (by omega)
   ·rw [Nums]
    exact ⟨by omega, r.nums⟩
def ReadsUp (p : List UInt8 → Nat → PR) : Prop := ∀ b c x k c', p b c = .ok x k c' → c < c' ∧ c' ≤ 256
theorem cnt_pos (x : Itm) : 0 < cnt x := by rw [cnt_eq]; omega
theorem parse_counts (d : Nat) : ReadsUp (parse d) := fun b c x k c' h => by
 have r := parse_spec d b c x k c' h
 have := cnt_pos x
 exact ⟨by rw [r.cnt]; omega, r.lim⟩
theorem map_min {p : List UInt8 → Nat → PR} (hp : ReadsUp p) : ∀ (m n : Nat) (b : List UInt8) (c : Nat) (last : Option (List UInt8)), 256 < c + m → 256 < c + n → c ≤ 256 → mapP p m b c last = mapP p n b c last
 | 0, n, b, c, last, h1, _, h3 => by omega
 | m + 1, 0, b, c, last, _, h2, h3 => by omega
 | m + 1, n + 1, b, c, last, h1, h2, h3 => by
  rw [mapP, mapP]
  cases h : p b c with
  | err e => rfl
  | ok x k c1 =>
   have a1 := hp _ _ _ _ _ h
   simp only
   cases keyP last (b.take k) with
   | some e => rfl
   | none =>
    simp only
    cases h' : p (b.drop k) c1 with
    | err e => rfl
    | ok y k2 c2 =>
     have a2 := hp _ _ _ _ _ h'
     simp only
     rw [map_min hp m n (b.drop (k + k2)) c2 (some (b.take k)) (by omega) (by omega) a2.2]
def prefixP (b : List UInt8) : PR := parse 8 (b.take 4096) 0
theorem prefix_spec {b : List UInt8} {x : Itm} {k c : Nat} (h : prefixP b = .ok x k c) : k ≤ b.length ∧ k ≤ 4096 ∧ 0 < k ∧ encB x = b.take k ∧ Good x 0 ∧ Nums x ∧ cnt x ≤ 256 := by
 have r := parse_spec _ _ _ _ _ _ h
 have hl := r.le
 rw [List.length_take] at hl
 have h1 := r.cnt
 have h2 := r.lim
 refine ⟨by omega, by omega, r.pos, ?_, r.good 0 rfl, r.nums, by omega⟩
 rw [r.enc, List.take_take, show min k 4096 = k by omega]
def decodeP (b : List UInt8) : Except Nat Itm :=
 if 4096 < b.length then .error 8 else match prefixP b with
 | .err e => .error e
 | .ok x k _ => if k < b.length then .error 9 else .ok x
structure Ext where
 label : Int
 has : Bool
 val : List UInt8
def numE (x : Itm) (lim : Nat) : Option Int :=
 if x.kind = 0 ∧ x.n ≤ lim then some (x.n : Int) else if x.kind = 1 ∧ x.n < lim then some (-1 - (x.n : Int)) else none
def extOk (x : Ext) : Bool := decide (-65535 ≤ x.label) && decide (x.label ≤ 65535) && decide (x.val.length ≤ 600) && (x.has || decide (x.val.length = 0))
def goodExt (l : List Ext) : Bool := decide (l.length ≤ 4) && l.all extOk
def intB (n : Int) : List UInt8 := if n < 0 then headB 1 (-1 - n).toNat else headB 0 n.toNat
def strB (b : List UInt8) : List UInt8 := headB 2 b.length ++ b
def extB (x : Ext) : List UInt8 := intB x.label ++ if x.has then strB x.val else []
def extsB : List Ext → List UInt8
 | [] => []
 | x :: l => extB x ++ extsB l
def encExt (l : List Ext) : Except Nat (List UInt8) := if goodExt l then .ok (extsB l) else .error 1
def decExtN : Nat → List Ext → List UInt8 → Except Nat (List Ext)
 | 0, out, _ => .ok out
 | n + 1, out, b =>
  if b.length = 0 then .ok out
  else match prefixP b with
   | .err e => .error e
   | .ok x k _ =>
    if x.kind = 2 then
     (match out.getLast? with
     | none => .error 4
     | some l =>
      if l.has then .error 4 else if 600 < x.bytes.length then .error 8
      else decExtN n (out.dropLast ++ [{ l with has := true, val := x.bytes }]) (b.drop k))
    else match numE x 65535 with
     | none => .error 4
     | some v => if out.length = 4 then .error 8 else decExtN n (out ++ [{ label := v, has := false, val := [] }]) (b.drop k)
def decExt (b : List UInt8) : Except Nat (List Ext) := decExtN (b.length + 1) [] b
theorem decExtN_more : ∀ (n m : Nat) (out : List Ext) (b : List UInt8), b.length < n → b.length < m → decExtN n out b = decExtN m out b
 | 0, _, _, _, h, _ => by omega
 | _ + 1, 0, _, _, _, h => by omega
 | n + 1, m + 1, out, b, h1, h2 => by
  rw [decExtN, decExtN]
  by_cases h0 : b.length = 0
  ·rw [if_pos h0, if_pos h0]
  rw [if_neg h0, if_neg h0]
  cases hp : prefixP b with
  | err e => rfl
  | ok x k c =>
   obtain ⟨k1, _, k2, _⟩ := prefix_spec hp
   have hd : (b.drop k).length = b.length - k := List.length_drop
   simp only
   repeat' split
   all_goals first | rfl | exact decExtN_more n m _ _ (by omega) (by omega)
def shortB (c : UInt8) : Bool := decide (c.toNat < 24) || decide (32 ≤ c.toNat) && decide (c.toNat < 56)
def connB (c : List UInt8) : List UInt8 :=
 match c with
 | [x] => if shortB x then [x] else strB [x]
 | _ => strB c
def parseConn (b : List UInt8) : Except Nat (List UInt8 × Nat) :=
 match b with
 | [] => .error 2
 | x :: t =>
  if shortB x then .ok ([x], 1)
  else if x.toNat < 64 ∨ 88 < x.toNat then .error 4
  else if 7 < x.toNat - 64 then .error 8
  else if b.length < 1 + (x.toNat - 64) then .error 2
  else if x.toNat - 64 = 1 ∧ shortB (b.getD 1 0) then .error 4
  else .ok (t.take (x.toNat - 64), 1 + (x.toNat - 64))
def twice : List Int → Bool
 | [] => false
 | x :: l => l.contains x || twice l
def goodSuites (l : List Int) : Bool := decide (1 ≤ l.length) && decide (l.length ≤ 8) && l.all (fun n => decide (0 ≤ n) && decide (n ≤ 65535)) && !twice l
structure First where
 method : Int
 suites : List Int
 gx : List UInt8
 conn : List UInt8
 ext : List Ext
def intsB : List Int → List UInt8
 | [] => []
 | n :: l => intB n ++ intsB l
def suitesB (l : List Int) : List UInt8 := if l.length = 1 then intsB l else headB 4 l.length ++ intsB l
def firstOk (f : First) : Bool := decide (0 ≤ f.method) && decide (f.method ≤ 3) && goodSuites f.suites && goodExt f.ext && decide (1 ≤ f.gx.length) && decide (f.gx.length ≤ 64) && decide (f.conn.length ≤ 7)
def firstB (f : First) : List UInt8 := intB f.method ++ suitesB f.suites ++ strB f.gx ++ connB f.conn ++ extsB f.ext
def limited (b : List UInt8) : Except Nat (List UInt8) := if 600 < b.length then .error 1 else .ok b
def encFirst (f : First) : Except Nat (List UInt8) := if firstOk f then limited (firstB f) else .error 1
def numsE : List Itm → Option (List Int)
 | [] => some []
 | x :: l => match numE x 65535 with
  | none => none
  | some v => if v < 0 then none else match numsE l with
   | none => none
   | some t => some (v :: t)
def suitesE (x : Itm) : Except Nat (List Int) :=
 if x.kind = 0 then (if x.n ≤ 65535 then .ok [(x.n : Int)] else .error 4)
 else if x.kind ≠ 4 ∨ x.items.length < 2 then .error 4
 else match numsE x.items with
  | none => .error 4
  | some l => if twice l then .error 7 else if 8 < l.length then .error 8 else .ok l
def decFirst (b : List UInt8) : Except Nat First :=
 if 600 < b.length then .error 8
 else match prefixP b with
  | .err e => .error e
  | .ok x k _ =>
   if x.kind ≠ 0 ∨ 3 < x.n then .error 4
   else match prefixP (b.drop k) with
    | .err e => .error e
    | .ok y k2 _ => match suitesE y with
     | .error e => .error e
     | .ok l => match prefixP ((b.drop k).drop k2) with
      | .err e => .error e
      | .ok z k3 _ =>
       if z.kind ≠ 2 ∨ z.bytes.length < 1 ∨ 64 < z.bytes.length then .error 4
       else match parseConn (((b.drop k).drop k2).drop k3) with
        | .error e => .error e
        | .ok (c, k4) => match decExt ((((b.drop k).drop k2).drop k3).drop k4) with
         | .error e => .error e
         | .ok ext => .ok ⟨(x.n : Int), l, z.bytes, c, ext⟩
def decSecond (b : List UInt8) : Except Nat (List UInt8 × List UInt8) :=
 if 635 < b.length then .error 8
 else match decodeP b with
  | .error e => .error e
  | .ok x => if x.kind ≠ 2 then .error 4 else if x.bytes.length < 33 then .error 2 else if 632 < x.bytes.length then .error 8 else .ok (x.bytes.take 32, x.bytes.drop 32)
def encErr (code : Int) (x : Itm) : Except Nat (List UInt8) :=
 if code < 1 ∨ 65535 < code ∨ validP x = false then .error 1 else limited (intB code ++ encB x)
def decErr (b : List UInt8) : Except Nat (Int × Itm) :=
 if 600 < b.length then .error 8
 else match prefixP b with
  | .err e => .error e
  | .ok x k _ =>
   if x.kind ≠ 0 ∨ x.n < 1 ∨ 65535 < x.n then .error 4
   else match decodeP (b.drop k) with
    | .error e => .error e
    | .ok y => .ok ((x.n : Int), y)
def decE (out : List Ext) (b : List UInt8) : Except Nat (List Ext) := decExtN (b.length + 1) out b
theorem decE_start (b : List UInt8) : decExt b = decE [] b := rfl
section
variable {out : List Ext} {b : List UInt8} {q k c : Nat} {x : Itm}
theorem decE_end (h : b.length = 0) : decE out b = .ok out := by rw [decE, decExtN, if_pos h]
theorem decE_err (h : b.length ≠ 0) (hp : prefixP b = .err q) : decE out b = .error q := by rw [decE, decExtN, if_neg h, hp]
theorem decE_more (hp : prefixP b = .ok x k c) (o : List Ext) : decExtN b.length o (b.drop k) = decE o (b.drop k) := by
 obtain ⟨k1, _, k2, _⟩ := prefix_spec hp
 have hd : (b.drop k).length = b.length - k := List.length_drop
 exact decExtN_more _ _ _ _ (by omega) (by omega)
theorem decE_val0 (h : b.length ≠ 0) (hp : prefixP b = .ok x k c) (hk : x.kind = 2) : decE [] b = .error 4 := by
 rw [decE, decExtN, if_neg h, hp]; simp only; rw [if_pos hk]; rfl
theorem decE_val1 {y : Ext} (h : b.length ≠ 0) (hp : prefixP b = .ok x k c) (hk : x.kind = 2) (hy : y.has = true) : decE (out ++ [y]) b = .error 4 := by
 rw [decE, decExtN, if_neg h, hp]; simp only; rw [if_pos hk]; simp [hy]
theorem decE_val2 {y : Ext} (h : b.length ≠ 0) (hp : prefixP b = .ok x k c) (hk : x.kind = 2) (hy : y.has = false) (hl : 600 < x.bytes.length) : decE (out ++ [y]) b = .error 8 := by
 rw [decE, decExtN, if_neg h, hp]; simp only; rw [if_pos hk]; simp [hy, hl]
theorem decE_val3 {y : Ext} (h : b.length ≠ 0) (hp : prefixP b = .ok x k c) (hk : x.kind = 2) (hy : y.has = false) (hl : ¬ 600 < x.bytes.length) : decE (out ++ [y]) b = decE (out ++ [{ y with has := true, val := x.bytes }]) (b.drop k) := by
 rw [decE, decExtN, if_neg h, hp]; simp only; rw [if_pos hk]; simp only [List.getLast?_append, List.getLast?_singleton, Option.some_or, hy, if_false, List.dropLast_concat, if_neg hl]
 simp only [Bool.false_eq_true, if_false]
 exact decE_more hp _
theorem decE_num0 (h : b.length ≠ 0) (hp : prefixP b = .ok x k c) (hk : x.kind ≠ 2) (hv : numE x 65535 = none) : decE out b = .error 4 := by
 rw [decE, decExtN, if_neg h, hp]; simp only; rw [if_neg hk, hv]
theorem decE_num1 {v : Int} (h : b.length ≠ 0) (hp : prefixP b = .ok x k c) (hk : x.kind ≠ 2) (hv : numE x 65535 = some v) (hl : out.length = 4) : decE out b = .error 8 := by
 rw [decE, decExtN, if_neg h, hp]; simp only; rw [if_neg hk, hv]; simp only; rw [if_pos hl]
theorem decE_num2 {v : Int} (h : b.length ≠ 0) (hp : prefixP b = .ok x k c) (hk : x.kind ≠ 2) (hv : numE x 65535 = some v) (hl : out.length ≠ 4) : decE out b = decE (out ++ [{ label := v, has := false, val := [] }]) (b.drop k) := by
 rw [decE, decExtN, if_neg h, hp]; simp only; rw [if_neg hk, hv]; simp only; rw [if_neg hl]
 exact decE_more hp _
end
theorem good_intP (n : Int) (lv : Nat) : Good (intP n) lv := by
 rw [intP]
 split <;> (rw [Good]; refine ⟨?_, by rw [GoodL]; trivial, by intro h; omega⟩; simp [nodeOk, isPlain, okPlain, frameOk, Itm.kind, Itm.bytes, Itm.items, Itm.n])
theorem encB_intP (n : Int) : encB (intP n) = intB n := by
 rw [enc_num (good_intP n 0) (by rw [intP]; split <;> simp [Itm.kind]), intP, intB]
 split <;> rfl
theorem intB_le (n : Int) : 1 ≤ (intB n).length ∧ (intB n).length ≤ 9 := by
 rw [intB]; split <;> exact headB_le _ _
theorem strB_le (l : List UInt8) : (strB l).length ≤ l.length + 9 := by
 have := (headB_le 2 l.length).2
 rw [strB, List.length_append]; omega
theorem extsB_app : ∀ (l m : List Ext), extsB (l ++ m) = extsB l ++ extsB m
 | [], m => rfl
 | x :: l, m => by rw [List.cons_append, extsB, extsB, extsB_app l m, List.append_assoc]
theorem extsB_take (l : List Ext) (k : Nat) (hk : k < l.length) : extsB (l.take (k + 1)) = extsB (l.take k) ++ extB l[k] := by
 rw [List.take_succ_eq_append_getElem hk, extsB_app, extsB, extsB, List.append_nil]
theorem extB_le {x : Ext} (h : x.val.length ≤ 1099511) : (extB x).length ≤ 1099600 := by
 have h1 := (intB_le x.label).2
 have h2 := strB_le x.val
 rw [extB]
 split <;> simp only [List.length_append, List.length_nil] <;> omega
theorem extsB_le : ∀ (l : List Ext), (∀ x ∈ l, x.val.length ≤ 1099511) → (extsB l).length ≤ 1099600 * l.length
 | [], _ => by simp [extsB]
 | x :: l, h => by
  have h1 := extB_le (h x (by simp))
  have h2 := extsB_le l (fun y hy => h y (by simp [hy]))
  rw [extsB, List.length_append, List.length_cons]; omega
theorem extOk_iff (x : Ext) : extOk x = true ↔ (-65535 ≤ x.label ∧ x.label ≤ 65535 ∧ x.val.length ≤ 600 ∧ (x.has = true ∨ x.val.length = 0)) := by
 simp [extOk, and_assoc]
theorem goodExt_iff (l : List Ext) : goodExt l = true ↔ (l.length ≤ 4 ∧ ∀ x ∈ l, extOk x = true) := by
 simp [goodExt]
theorem goodExt_bad {l : List Ext} {k : Nat} (hk : k < l.length) (h : extOk l[k] = false) : goodExt l = false := by
 cases hg : goodExt l with
 | false => rfl
 | true => have := ((goodExt_iff l).1 hg).2 _ (List.getElem_mem hk); rw [h] at this; cases this
theorem goodExt_all {l : List Ext} (hl : l.length ≤ 4) (h : ∀ j (hj : j < l.length), extOk l[j] = true) : goodExt l = true := by
 rw [goodExt_iff]
 refine ⟨hl, fun x hx => ?_⟩
 obtain ⟨j, hj, rfl⟩ := List.mem_iff_getElem.1 hx
 exact h j hj
theorem getD_lt {l : List Int} {j : Nat} (h : j < l.length) : l.getD j 0 = l[j] := by rw [List.getD_eq_getElem?_getD, List.getElem?_eq_getElem h]; rfl
theorem twice_iff : ∀ l : List Int, twice l = true ↔ ∃ i j, j < i ∧ i < l.length ∧ l.getD j 0 = l.getD i 0
 | [] => by simp [twice]
 | x :: l => by
  rw [twice, Bool.or_eq_true, twice_iff l, List.contains_iff_mem]
  constructor
  ·rintro (h | ⟨i, j, h1, h2, h3⟩)
   ·obtain ⟨i, hi, e⟩ := List.mem_iff_getElem.1 h
    exact ⟨i + 1, 0, by omega, by simpa using hi, by rw [List.getD_cons_zero, List.getD_cons_succ, getD_lt hi, e]⟩
   ·exact ⟨i + 1, j + 1, by omega, by simpa using h2, by rw [List.getD_cons_succ, List.getD_cons_succ]; exact h3⟩
  ·rintro ⟨i, j, h1, h2, h3⟩
   obtain ⟨i, rfl⟩ : ∃ i', i = i' + 1 := ⟨i - 1, by omega⟩
   have hi : i < l.length := by simpa using h2
   cases j with
   | zero => left; rw [List.getD_cons_zero, List.getD_cons_succ, getD_lt hi] at h3; rw [h3]; exact List.getElem_mem hi
   | succ j => right; exact ⟨i, j, by omega, hi, by rwa [List.getD_cons_succ, List.getD_cons_succ] at h3⟩
theorem twice_no {l : List Int} (h : ∀ i j, j < i → i < l.length → l.getD j 0 ≠ l.getD i 0) : twice l = false := by
 cases ht : twice l with
 | false => rfl
 | true => obtain ⟨i, j, h1, h2, h3⟩ := (twice_iff l).1 ht; exact absurd h3 (h i j h1 h2)
theorem twice_yes {l : List Int} {i j : Nat} (h1 : j < i) (h2 : i < l.length) (h3 : l.getD j 0 = l.getD i 0) : twice l = true := (twice_iff l).2 ⟨i, j, h1, h2, h3⟩
theorem all_getD {l : List Int} {p : Int → Bool} : l.all p = true ↔ ∀ j, j < l.length → p (l.getD j 0) = true := by
 rw [List.all_eq_true]
 constructor
 ·intro h j hj; rw [getD_lt hj]; exact h _ (List.getElem_mem hj)
 ·intro h x hx
  obtain ⟨j, hj, rfl⟩ := List.mem_iff_getElem.1 hx
  rw [← getD_lt hj]; exact h j hj
theorem goodSuites_iff (l : List Int) : goodSuites l = true ↔ (1 ≤ l.length ∧ l.length ≤ 8 ∧ (∀ j, j < l.length → 0 ≤ l.getD j 0 ∧ l.getD j 0 ≤ 65535) ∧ twice l = false) := by
 rw [goodSuites, Bool.and_eq_true, Bool.and_eq_true, Bool.and_eq_true, all_getD]
 simp only [decide_eq_true_eq, Bool.not_eq_true', Bool.and_eq_true, and_assoc]
theorem goodSuites_no {l : List Int} (h : ¬ (1 ≤ l.length ∧ l.length ≤ 8 ∧ (∀ j, j < l.length → 0 ≤ l.getD j 0 ∧ l.getD j 0 ≤ 65535) ∧ twice l = false)) : goodSuites l = false := by
 cases hg : goodSuites l with
 | false => rfl
 | true => exact absurd ((goodSuites_iff l).1 hg) h
theorem intsB_le : ∀ (l : List Int), (intsB l).length ≤ 9 * l.length
 | [] => by simp [intsB]
 | x :: l => by
  have h1 := (intB_le x).2
  have h2 := intsB_le l
  rw [intsB, List.length_append, List.length_cons]; omega
theorem intsB_flat : ∀ (l : List Int), (l.map intB).flatten = intsB l
 | [] => rfl
 | x :: l => by rw [List.map_cons, List.flatten_cons, intsB_flat l, intsB]
theorem numsE_app : ∀ (l m : List Itm), numsE (l ++ m) = (match numsE l with | none => none | some a => match numsE m with | none => none | some b => some (a ++ b))
 | [], m => by rw [List.nil_append, numsE]; cases numsE m <;> rfl
 | x :: l, m => by
  rw [List.cons_append, numsE, numsE]
  cases numE x 65535 with
  | none => rfl
  | some v =>
   simp only
   split
   ·rfl
   ·rw [numsE_app l m]
    cases numsE l with
    | none => rfl
    | some a => simp only; cases numsE m <;> rfl
end Go.Proofs.YtlebpackbfcfeaaGreatDoor
