/- squeezed. Encodings of items: plain mathemat -/
import Derived.Test.YtlebpackbfcfeaaGreatDoorK00
import Derived.Lib.ValidU
import Derived.Lib.Bytealg
import Derived.Shelf.Unicode.DecodeSlow
import Derived.Laws.IdiomStrings
import Derived.Deep.RegionHeld
import Derived.Deep.DeepCutAuto
set_option linter.unusedVariables false
set_option linter.unusedSimpArgs false
set_option maxRecDepth 100000
set_option maxHeartbeats 1600000
namespace Go.Proofs.YtlebpackbfcfeaaGreatDoor
open Go.RowKit
def isNaN (n : Nat) : Bool := n / 2 ^ 52 % 2048 == 2047 && n % 2 ^ 52 != 0
def narrow (n eb mb : Nat) : Option Nat :=
 let sign := n / 2 ^ 63 * 2 ^ (eb + mb)
 let e := n / 2 ^ 52 % 2048
 let m := n % 2 ^ 52
 let top := 2 ^ eb - 1
 let bias := 2 ^ (eb - 1) - 1
 if e = 2047 then (if m = 0 then some (sign + top * 2 ^ mb) else none)
 else if e = 0 then (if m = 0 then some sign else none)
 else if 1023 + top ≤ e + bias then none
 else if 1023 < e + bias then (if m % 2 ^ (52 - mb) = 0 then some (sign + (e + bias - 1023) * 2 ^ mb + m / 2 ^ (52 - mb)) else none)
 else
  let shift := 53 - mb + (1023 - e - bias)
  if 52 < shift then none else if (m + 2 ^ 52) % 2 ^ shift = 0 then some (sign + (m + 2 ^ 52) / 2 ^ shift) else none
def floatB (n : Nat) : List UInt8 :=
 if isNaN n then [u8 249, u8 126, u8 0] else
 match narrow n 5 10 with
 | some v => [u8 249, u8 (v / 256), u8 v]
 | none => match narrow n 8 23 with
  | some v => [u8 250, u8 (v / 16777216), u8 (v / 65536), u8 (v / 256), u8 v]
  | none => u8 251 :: be8 n 8
theorem floatB_length (n : Nat) : (floatB n).length = 3 ∨ (floatB n).length = 5 ∨ (floatB n).length = 9 := by
 unfold floatB
 repeat' split
 all_goals simp [be8_length]
def numP (x : Itm) : Nat :=
 if x.kind = 2 ∨ x.kind = 3 then x.bytes.length else if x.kind = 4 then x.items.length else if x.kind = 5 then x.items.length / 2 else x.n
mutual
def encB : Itm → List UInt8
 | .mk k n bs l =>
  if k = 8 then floatB n
  else if k = 7 ∧ 24 ≤ n then [u8 248, u8 n]
  else headB k.toNat (numP (.mk k n bs l)) ++ bs ++ encL l
def encL : List Itm → List UInt8
 | [] => []
 | x :: l => encB x ++ encL l
end
theorem encL_append (l m : List Itm) : encL (l ++ m) = encL l ++ encL m := by
 induction l with
 | nil => rw [List.nil_append, encL, List.nil_append]
 | cons x l ih => rw [List.cons_append, encL, encL, ih, List.append_assoc]
theorem encL_take_succ (l : List Itm) (k : Nat) (h : k < l.length) : encL (l.take (k + 1)) = encL (l.take k) ++ encB l[k] := by
 rw [List.take_succ_eq_append_getElem h, encL_append, encL, encL, List.append_nil]
theorem encB_eq (x : Itm) : encB x = if x.kind = 8 then floatB x.n else if x.kind = 7 ∧ 24 ≤ x.n then [u8 248, u8 x.n] else headB x.kind.toNat (numP x) ++ x.bytes ++ encL x.items := by
 cases x
 rw [encB]
 rfl
theorem encL_take_le (l : List Itm) (k : Nat) : (encL (l.take k)).length ≤ (encL l).length := by
 have h := encL_append (l.take k) (l.drop k)
 rw [List.take_append_drop] at h
 rw [h]
 simp
mutual
def Kinds : Itm → Prop
 | .mk k _ _ l => (0 ≤ k ∧ k ≤ 8) ∧ KindsL l
def KindsL : List Itm → Prop
 | [] => True
 | x :: l => Kinds x ∧ KindsL l
end
theorem Kinds.kind {x : Itm} (h : Kinds x) : 0 ≤ x.kind ∧ x.kind ≤ 8 := by cases x; rw [Kinds] at h; exact h.1
theorem Kinds.items {x : Itm} (h : Kinds x) : KindsL x.items := by cases x; rw [Kinds] at h; exact h.2
theorem KindsL.get : ∀ {l : List Itm}, KindsL l → ∀ (k : Nat) (hk : k < l.length), Kinds l[k]
 | [], _, k, hk => by simp at hk
 | x :: l, h, 0, _ => by rw [KindsL] at h; exact h.1
 | x :: l, h, k + 1, hk => by rw [KindsL] at h; exact h.2.get k (by simpa using hk)
mutual
def cnt : Itm → Nat
 | .mk _ _ _ l => cntL l + 1
def cntL : List Itm → Nat
 | [] => 0
 | x :: l => cnt x + cntL l
end
theorem cntL_get : ∀ (l : List Itm) (k : Nat) (hk : k < l.length), cnt l[k] ≤ cntL l
 | [], k, hk => by simp at hk
 | x :: l, 0, _ => by rw [cntL]; simp
 | x :: l, k + 1, hk => by
  have := cntL_get l k (by simpa using hk)
  rw [cntL]
  simp only [List.getElem_cons_succ]
  omega
theorem cnt_items (x : Itm) (k : Nat) (hk : k < x.items.length) : cnt x.items[k] < cnt x := by
 cases x with
 | mk a b c l =>
  have := cntL_get l k hk
  rw [cnt]
  simp only [Itm.items]
  omega
def notNumber : Nat := 9221120237041090560
def isPlain (x : Itm) : Bool := x.kind == 0 || x.kind == 1 || x.kind == 2 || x.kind == 3 || x.kind == 7 || x.kind == 8
def okPlain (x : Itm) : Bool :=
 if x.kind = 0 ∨ x.kind = 1 then x.bytes.isEmpty && x.items.isEmpty
 else if x.kind = 2 then x.n == 0 && x.items.isEmpty
 else if x.kind = 3 then x.n == 0 && x.items.isEmpty && Lib.validD x.bytes
 else if x.kind = 7 then x.bytes.isEmpty && x.items.isEmpty && (decide (x.n < 24) || decide (32 ≤ x.n) && decide (x.n < 256))
 else if x.kind = 8 then x.bytes.isEmpty && x.items.isEmpty && (!isNaN x.n || x.n == notNumber)
 else false
def spendP (x : Itm) : Nat :=
 if x.kind = 8 then (floatB x.n).length else if x.kind = 7 then (if 24 ≤ x.n then 2 else 1) else (headB x.kind.toNat (numP x)).length + x.bytes.length
def ascP : List Itm → Bool
 | a :: b :: c :: l => decide (Lib.compareBytes (encB a) (encB c) < 0) && ascP (c :: l)
 | _ => true
theorem ascP_drop (l : List Itm) (j : Nat) (h2 : 2 ≤ j) (h : j < l.length) :
  ascP (l.drop (j - 2)) = (decide (Lib.compareBytes (encB (l[j - 2]'(by omega))) (encB l[j]) < 0) && ascP (l.drop j)) := by
 have e1 : l.drop (j - 2) = l[j - 2]'(by omega) :: l.drop (j - 1) := by
  rw [List.drop_eq_getElem_cons (by omega)]
  rw [show j - 2 + 1 = j - 1 by omega]
 have e2 : l.drop (j - 1) = l[j - 1]'(by omega) :: l.drop j := by
  rw [List.drop_eq_getElem_cons (by omega)]
  rw [show j - 1 + 1 = j by omega]
 have e3 : l.drop j = l[j] :: l.drop (j + 1) := List.drop_eq_getElem_cons h
 rw [e1, e2, e3, ascP]
theorem ascP_end (l : List Itm) (j : Nat) (h2 : 2 ≤ j) (h : l.length ≤ j) : ascP (l.drop (j - 2)) = true := by
 have hl : (l.drop (j - 2)).length ≤ 2 := by rw [List.length_drop]; omega
 match l.drop (j - 2), hl with
 | [], _ => rfl
 | [_], _ => rfl
 | [_, _], _ => rfl
 | _ :: _ :: _ :: _, h => simp at h
def frameOk (x : Itm) (lv : Nat) : Bool :=
 decide (4 ≤ x.kind ∧ x.kind ≤ 6 ∧ lv < 8 ∧ x.bytes.length = 0 ∧ (x.kind = 6 → x.items.length = 1) ∧ (x.kind ≠ 6 → x.n = 0) ∧ (x.kind = 5 → x.items.length % 2 = 0))
mutual
def chk : Itm → Nat → Nat → Nat → Option (Nat × Nat)
 | .mk k n bs l, lv, i, s =>
  if 256 < i + 1 ∨ 4096 < bs.length ∨ 256 < l.length then none
  else if isPlain (.mk k n bs l) = true then (if okPlain (.mk k n bs l) = true ∧ s + spendP (.mk k n bs l) ≤ 4096 then some (i + 1, s + spendP (.mk k n bs l)) else none)
  else if frameOk (.mk k n bs l) lv = false then none
  else if 4096 < s + spendP (.mk k n bs l) then none
  else match chkL l (lv + 1) (i + 1) (s + spendP (.mk k n bs l)) with
   | none => none
   | some p => if k = 5 ∧ ascP l = false then none else some p
def chkL : List Itm → Nat → Nat → Nat → Option (Nat × Nat)
 | [], _, i, s => some (i, s)
 | x :: l, lv, i, s => match chk x lv i s with
  | none => none
  | some p => chkL l lv p.1 p.2
end
theorem chk_eq (x : Itm) (lv i s : Nat) : chk x lv i s =
  if 256 < i + 1 ∨ 4096 < x.bytes.length ∨ 256 < x.items.length then none
  else if isPlain x = true then (if okPlain x = true ∧ s + spendP x ≤ 4096 then some (i + 1, s + spendP x) else none)
  else if frameOk x lv = false then none
  else if 4096 < s + spendP x then none
  else match chkL x.items (lv + 1) (i + 1) (s + spendP x) with
   | none => none
   | some p => if x.kind = 5 ∧ ascP x.items = false then none else some p := by
 cases x
 rw [chk]
 rfl
theorem isPlain_iff (x : Itm) : isPlain x = true ↔ x.kind = 0 ∨ x.kind = 1 ∨ x.kind = 2 ∨ x.kind = 3 ∨ x.kind = 7 ∨ x.kind = 8 := by
 simp [isPlain]
 omega
theorem spend_enc (x : Itm) (h : x.items = []) (h8 : x.kind = 8 ∨ x.kind = 7 → x.bytes = []) : spendP x = (encB x).length := by
 rw [encB_eq, spendP]
 by_cases h1 : x.kind = 8
 ·rw [if_pos h1, if_pos h1]
 rw [if_neg h1, if_neg h1]
 by_cases h2 : x.kind = 7
 ·rw [if_pos h2]
  by_cases h3 : 24 ≤ x.n
  ·rw [if_pos h3, if_pos ⟨h2, h3⟩]; rfl
  ·have hn : numP x = x.n := by simp [numP, h2]
   rw [if_neg h3, if_neg (by omega), h8 (.inr h2), h, encL, hn, headB, if_pos (by omega)]
   rfl
 ·rw [if_neg h2, if_neg (by omega), h, encL]
  simp
theorem spend_mid (x : Itm) (h8 : x.kind ≠ 8) (h7 : x.kind ≠ 7) : spendP x = (headB x.kind.toNat (numP x)).length + x.bytes.length := by
 rw [spendP, if_neg h8, if_neg h7]
theorem frameOk_spec {x : Itm} {lv : Nat} (h : frameOk x lv = true) : 4 ≤ x.kind ∧ x.kind ≤ 6 ∧ lv < 8 ∧ x.bytes.length = 0 ∧ (x.kind = 6 → x.items.length = 1) ∧ (x.kind ≠ 6 → x.n = 0) ∧ (x.kind = 5 → x.items.length % 2 = 0) :=
 of_decide_eq_true h
theorem okPlain_items {x : Itm} (hp : isPlain x = true) (ho : okPlain x = true) : x.items = [] ∧ (x.kind = 8 ∨ x.kind = 7 → x.bytes = []) := by
 rw [isPlain_iff] at hp
 unfold okPlain at ho
 rcases hp with h | h | h | h | h | h <;> simp [h] at ho ⊢ <;> simp [ho]
mutual
theorem chk_spec : ∀ (x : Itm) (lv i s : Nat) (p : Nat × Nat), chk x lv i s = some p → Kinds x ∧ p = (i + cnt x, s + (encB x).length) ∧ p.1 ≤ 256 ∧ p.2 ≤ 4096
 | .mk k n bs l, lv, i, s, p, h => by
  rw [chk] at h
  split at h
  ·cases h
  rename_i h0
  split at h
  ·rename_i hp
   split at h
   ·rename_i ho
    obtain ⟨hi, hb⟩ := okPlain_items hp ho.1
    have hk := (isPlain_iff _).1 hp
    have hs := spend_enc (.mk k n bs l) hi hb
    simp only [Itm.items, Itm.kind] at hi hk
    subst hi
    injection h with h
    subst h
    rw [← hs]
    refine ⟨?_, ?_, ?_, ?_⟩
    ·rw [Kinds, KindsL]; exact ⟨by omega, trivial⟩
    ·rw [cnt, cntL]
    ·simp only; omega
    ·exact ho.2
   ·cases h
  rename_i hp
  split at h
  ·cases h
  rename_i hf
  split at h
  ·cases h
  rename_i h4
  have hf' := frameOk_spec (by simpa using hf)
  simp only [Itm.kind, Itm.bytes, Itm.items, List.length_eq_zero_iff] at hf'
  split at h
  ·cases h
  rename_i q hq
  split at h
  ·cases h
  injection h with h
  subst h
  obtain ⟨hk, hq', h1, h2⟩ := chkL_spec l _ _ _ _ hq (by omega) (by omega)
  have hsp := spend_mid (.mk k n bs l) (by simp only [Itm.kind]; omega) (by simp only [Itm.kind]; omega)
  simp only [Itm.kind, Itm.bytes] at hsp
  rw [hf'.2.2.2.1] at hsp
  refine ⟨by rw [Kinds]; exact ⟨by omega, hk⟩, ?_, h1, h2⟩
  rw [hq', cnt, encB, if_neg (by omega), if_neg (by omega), hf'.2.2.2.1, hsp]
  simp only [List.length_append, List.length_nil, Prod.mk.injEq]
  omega
theorem chkL_spec : ∀ (l : List Itm) (lv i s : Nat) (p : Nat × Nat), chkL l lv i s = some p → i ≤ 256 → s ≤ 4096 → KindsL l ∧ p = (i + cntL l, s + (encL l).length) ∧ p.1 ≤ 256 ∧ p.2 ≤ 4096
 | [], lv, i, s, p, h, hi, hs => by
  rw [chkL] at h
  injection h with h
  subst h
  rw [KindsL, cntL, encL]
  exact ⟨trivial, rfl, hi, hs⟩
 | x :: l, lv, i, s, p, h, hi, hs => by
  rw [chkL] at h
  split at h
  ·cases h
  rename_i q hq
  obtain ⟨hk, hq', h1, h2⟩ := chk_spec x _ _ _ _ hq
  obtain ⟨hkl, hp, h3, h4⟩ := chkL_spec l _ _ _ _ h h1 h2
  refine ⟨by rw [KindsL]; exact ⟨hk, hkl⟩, ?_, h3, h4⟩
  rw [hp, hq', cntL, encL]
  simp
  omega
end
def validP (x : Itm) : Bool := (chk x 0 0 0).isSome
theorem validP_spec {x : Itm} (h : validP x = true) : Kinds x ∧ cnt x ≤ 256 ∧ (encB x).length ≤ 4096 := by
 obtain ⟨p, hp⟩ := Option.isSome_iff_exists.1 h
 obtain ⟨hk, he, h1, h2⟩ := chk_spec _ _ _ _ _ hp
 subst he
 simp only at h1 h2
 exact ⟨hk, by omega, by omega⟩
mutual
def Modest : Itm → Prop
 | .mk _ _ bs l => bs.length ≤ 1099511627776 ∧ l.length ≤ 1099511627776 ∧ ModestL l
def ModestL : List Itm → Prop
 | [] => True
 | x :: l => Modest x ∧ ModestL l
end
theorem Modest.parts {x : Itm} (h : Modest x) : x.bytes.length ≤ 1099511627776 ∧ x.items.length ≤ 1099511627776 ∧ ModestL x.items := by cases x; rw [Modest] at h; exact h
theorem ModestL.get : ∀ {l : List Itm}, ModestL l → ∀ (k : Nat) (hk : k < l.length), Modest l[k]
 | [], _, k, hk => by simp at hk
 | x :: l, h, 0, hk => by rw [ModestL] at h; exact h.1
 | x :: l, h, k + 1, hk => by rw [ModestL] at h; exact h.2.get k (by simpa using hk)
theorem ModestL.of : ∀ {l : List Itm}, (∀ x ∈ l, Modest x) → ModestL l
 | [], _ => by rw [ModestL]; trivial
 | x :: l, h => by rw [ModestL]; exact ⟨h x (by simp), ModestL.of fun y hy => h y (by simp [hy])⟩
abbrev zeroItm : Itm := .mk 0 0 [] []
mutual
theorem chk_modest : ∀ (x : Itm) (lv i s : Nat) (p : Nat × Nat), chk x lv i s = some p → Modest x
 | .mk k n bs l, lv, i, s, p, h => by
  rw [chk] at h
  split at h
  ·cases h
  rename_i h0
  rw [Modest]
  refine ⟨by omega, by omega, ?_⟩
  split at h
  ·rename_i h1
   split at h
   ·rename_i h2
    rw [show l = [] from (okPlain_items h1 h2.1).1, ModestL]
    trivial
   ·cases h
  split at h
  ·cases h
  split at h
  ·cases h
  split at h
  ·cases h
  ·rename_i q hq
   exact chkL_modest l _ _ _ _ hq
theorem chkL_modest : ∀ (l : List Itm) (lv i s : Nat) (p : Nat × Nat), chkL l lv i s = some p → ModestL l
 | [], _, _, _, _, _ => by rw [ModestL]; trivial
 | x :: l, lv, i, s, p, h => by
  rw [chkL] at h
  split at h
  ·cases h
  ·rename_i q hq
   rw [ModestL]
   exact ⟨chk_modest x _ _ _ _ hq, chkL_modest l _ _ _ _ h⟩
end
theorem validP_modest {x : Itm} (h : validP x = true) : Modest x := by
 obtain ⟨p, hp⟩ := Option.isSome_iff_exists.1 h
 exact chk_modest _ _ _ _ _ hp
def intP (n : Int) : Itm := if n < 0 then .mk 1 (-1 - n).toNat [] [] else .mk 0 n.toNat [] []
def Tabs (H : Snap) : Prop := ∀ w, Holds w H → Lib.Utf8Tabs 0 1 w
theorem Tabs.mono {H K : Snap} (h : Tabs H) (hl : H.le K) : Tabs K := fun w hw => h w (hw.mono hl)
theorem IsItem.plain (H : Snap) (k : Int) (n : Nat) (hk : -9223372036854775808 ≤ k ∧ k ≤ 9223372036854775807) (hn : n < 18446744073709551616) : IsItem H none 0 none 0 (.mk k n [] []) := by
 rw [IsItem]
 exact ⟨⟨hk.1, hk.2, hn, Nat.le_refl _, by omega⟩, IsBytes.nil H, fun h => absurd h (by simp)⟩
theorem Gives.plain {w w' : World} {H : Snap} {k n : Int} {m : Nat} (hH : Holds w H) (hb : Below w.heap.size w w') (hk : -9223372036854775808 ≤ k ∧ k ≤ 9223372036854775807) (hm : m < 18446744073709551616) (hn : n = (m : Int)) :
  Gives w H (.mk k m [] []) (.agg #[.int .i64 k, .int .u64 n, .slice none 0 0, .slice none 0 0]) w' := by
 subst hn
 exact ⟨none, 0, none, 0, H, rfl, Grows.of_below hH hb, IsItem.plain H k m hk hm⟩
theorem Fresh.gives {w w1 : World} {H : Snap} {l : List UInt8} {r : Value} {k : Int} (hH : Holds w H) (h : Fresh w l r w1) (hk : -9223372036854775808 ≤ k ∧ k ≤ 9223372036854775807) :
  Gives w H (.mk k 0 l []) (.agg #[.int .i64 k, .int .u64 0, r, .slice none 0 0]) w1 := by
 obtain ⟨A, c, rfl, _⟩ := h.own.form
 obtain ⟨H', hl, hh, hf, _, hi⟩ := h.own.snap (hH.below h.2 (Nat.le_refl _)) (fun g hg => hH.none_of_ge (h.own.lt g (by cases A <;> simp_all [Value.ownBlock])).1)
 refine ⟨A, c, none, 0, H', rfl, ⟨h.2, hl, hh, fun b o hb => ?_⟩, ?_⟩
 ·rcases hf b o hb with h1 | h1
  ·exact .inl h1
  ·exact .inr (h.own.lt b (by cases A <;> simp_all [Value.ownBlock])).1
 ·rw [IsItem]
  exact ⟨⟨hk.1, hk.2, by omega, Nat.le_refl _, by omega⟩, hi, fun h => absurd h (by simp)⟩
theorem Grows.own {w wA w1 w' : World} {H H' : Snap} {g : Nat} (hA : Below w.heap.size w wA) (hH : Holds w H) (h : Grows wA H w1 H') (hg : w1.grownBy w' (some g)) (h1 : w.heap.size ≤ g) (h2 : g < wA.heap.size) : Grows w H w' H' :=
 ⟨(hA.trans (h.below.mono hA.size)).grown hg (Nat.le_trans hA.size h.below.size) (by rintro k ⟨⟩; exact h1), h.le, h.holds.grown hg (by rintro k ⟨⟩; exact h.none (hH.none_of_ge h1) h2), fun b o hb => by
  rcases h.fresh b o hb with h | h
  ·exact .inl h
  ·exact .inr (Nat.le_trans hA.size h)⟩
theorem Gives.own {w wA w1 w' : World} {H : Snap} {x : Itm} {v : Value} {g : Nat} (hA : Below w.heap.size w wA) (hH : Holds w H) (h : Gives wA H x v w1) (hg : w1.grownBy w' (some g)) (h1 : w.heap.size ≤ g) (h2 : g < wA.heap.size) : Gives w H x v w' := by
 obtain ⟨ba, bc, ia, ic, H', e, hG, hi⟩ := h
 exact ⟨ba, bc, ia, ic, H', e, hG.own hA hH hg h1 h2, hi⟩
theorem one4 (a b c d : Value) (ha : a.oneCell' = true) (hb : b.oneCell' = true) (hc : c.oneCell' = true) (hd : d.oneCell' = true) : (#[a, b, c, d] : Array Value).all (·.oneCell') = true := by simp [ha, hb, hc, hd]
theorem conv_string {w : World} {H : Snap} (hH : Holds w H) (s : ByteArray) (hl : s.size ≤ 1099511627776) :
  ∃ g c w', (convert 9 23 (.string s)).run Tryz.prog w = .ok (.slice (some ⟨g, 0, none⟩) s.size c) w' ∧ Below w.heap.size w w' ∧ ∃ H', Grows w H w' H' ∧ IsBytes H' (some ⟨g, 0, none⟩) c s.data.toList := by
 refine ⟨_, _, _, run_bytes_of_string (P := Tryz.prog) w 9 23 5 s Tryz.underlying9 Tryz.underlying23 Tryz.underlying5, ?_, ?_⟩
 ·exact (Below.refl _ _).drew.alloc (Nat.le_refl _) _
 ·obtain ⟨o, ho⟩ : ∃ o, o = Obj.cells (bytesRow s (grownCap w s.size 0 5)) 5 ((bytesRow s (grownCap w s.size 0 5)).size, (bytesRow s (grownCap w s.size 0 5)).size + 1) := ⟨_, rfl⟩
  rw [← ho]
  have h0 : H w.heap.size = none := hH.none_of_ge (Nat.le_refl _)
  refine ⟨H.with w.heap.size o, ⟨(Below.refl _ _).drew.alloc (Nat.le_refl _) _, Snap.le_with h0, (hH.drew.alloc o).with (heap_alloc_new w.drew o), fun b x hb => ?_⟩, ?_, ?_, ?_⟩
  ·unfold Snap.with at hb
   split at hb
   ·subst b; exact .inr (Nat.le_refl _)
   ·exact .inl hb
  ·simpa using grownCap_ge w s.size 0 5
  ·have := grownCap_le_maxLen w s.size 0 5 (by simp only [maxLen]; omega)
   simpa [maxLen] using this
  ·refine fun _ => ⟨w.heap.size, 0, rfl, fun j v hj => ?_⟩
   have hjl : j < s.data.size := by
    have := (List.getElem?_eq_some_iff.1 hj).1
    simpa using this
   subst ho
   simp only [Snap.cell?, Snap.with, if_true, Nat.zero_add, Option.isSome, Bool.false_eq_true, if_false]
   rw [bytesRow_at s _ j hjl]
   simp at hj
   obtain ⟨a, h1, h2⟩ := hj
   rw [Array.getElem?_eq_getElem hjl] at h1
   injection h1 with h1
   rw [h1, ← h2]
def nodeOk (x : Itm) (lv : Nat) : Bool := if isPlain x = true then okPlain x else frameOk x lv
mutual
def Good : Itm → Nat → Prop
 | .mk k n bs l, lv => nodeOk (.mk k n bs l) lv = true ∧ GoodL l (lv + 1) ∧ (k = 5 → ascP l = true)
def GoodL : List Itm → Nat → Prop
 | [], _ => True
 | x :: l, lv => Good x lv ∧ GoodL l lv
end
theorem Good.node {x : Itm} {lv : Nat} (h : Good x lv) : nodeOk x lv = true := by cases x; rw [Good] at h; exact h.1
theorem Good.items {x : Itm} {lv : Nat} (h : Good x lv) : GoodL x.items (lv + 1) := by cases x; rw [Good] at h; exact h.2.1
theorem Good.asc {x : Itm} {lv : Nat} (h : Good x lv) (h5 : x.kind = 5) : ascP x.items = true := by cases x; rw [Good] at h; exact h.2.2 h5
theorem Good.of {x : Itm} {lv : Nat} (h1 : nodeOk x lv = true) (h2 : GoodL x.items (lv + 1)) (h3 : x.kind = 5 → ascP x.items = true) : Good x lv := by cases x; rw [Good]; exact ⟨h1, h2, h3⟩
theorem GoodL.get : ∀ {l : List Itm} {lv : Nat}, GoodL l lv → ∀ x ∈ l, Good x lv
 | [], _, _, x, hx => by cases hx
 | y :: l, lv, h, x, hx => by
  rw [GoodL] at h
  rcases List.mem_cons.1 hx with rfl | hx
  ·exact h.1
  ·exact h.2.get x hx
theorem nodeOk_cases {x : Itm} {lv : Nat} (h : nodeOk x lv = true) : (isPlain x = true ∧ okPlain x = true) ∨ (isPlain x = false ∧ frameOk x lv = true) := by
 unfold nodeOk at h
 cases hp : isPlain x with
 | true => rw [if_pos hp] at h; exact .inl ⟨rfl, h⟩
 | false => rw [if_neg (by simp [hp])] at h; exact .inr ⟨rfl, h⟩
theorem nodeOk_kind {x : Itm} {lv : Nat} (h : nodeOk x lv = true) : 0 ≤ x.kind ∧ x.kind ≤ 8 := by
 rcases nodeOk_cases h with ⟨h1, _⟩ | ⟨_, h1⟩
 ·rw [isPlain_iff] at h1; omega
 ·have := frameOk_spec h1; omega
theorem node_plain {x : Itm} {lv : Nat} (h : nodeOk x lv = true) (hp : isPlain x = true) : x.items = [] ∧ (x.kind = 8 ∨ x.kind = 7 → x.bytes = []) := by
 rcases nodeOk_cases h with ⟨_, h2⟩ | ⟨h1, _⟩
 ·exact okPlain_items hp h2
 ·rw [hp] at h1; cases h1
theorem node_enc {x : Itm} {lv : Nat} (h : nodeOk x lv = true) : (encB x).length = spendP x + (encL x.items).length := by
 cases hp : isPlain x with
 | true =>
  obtain ⟨h1, h2⟩ := node_plain h hp
  rw [← spend_enc x h1 h2, h1, encL]; simp
 | false =>
  rcases nodeOk_cases h with ⟨h1, _⟩ | ⟨_, h2⟩
  ·rw [hp] at h1; cases h1
  ·have hf := frameOk_spec h2
   rw [encB_eq, if_neg (by omega), if_neg (by omega), spend_mid x (by omega) (by omega)]
   simp; omega
theorem spend_bytes {x : Itm} {lv : Nat} (h : nodeOk x lv = true) : x.bytes.length ≤ spendP x := by
 by_cases h8 : x.kind = 8
 ·have := (node_plain h ((isPlain_iff x).2 (by omega))).2 (by omega)
  rw [this]; simp
 by_cases h7 : x.kind = 7
 ·have := (node_plain h ((isPlain_iff x).2 (by omega))).2 (by omega)
  rw [this]; simp
 rw [spend_mid x h8 h7]; omega
theorem cntL_len : ∀ l : List Itm, l.length ≤ cntL l
 | [] => by simp [cntL]
 | x :: l => by
  have := cntL_len l
  have h : 0 < cnt x := by cases x; rw [cnt]; omega
  rw [cntL]; simp; omega
theorem cnt_eq (x : Itm) : cnt x = cntL x.items + 1 := by cases x; rw [cnt]; rfl
mutual
theorem chk_good : ∀ (x : Itm) (lv i s : Nat) (p : Nat × Nat), chk x lv i s = some p → Good x lv
 | .mk k n bs l, lv, i, s, p, h => by
  rw [chk] at h
  split at h
  ·cases h
  split at h
  ·rename_i hp
   split at h
   ·rename_i ho
    have hi := (okPlain_items hp ho.1).1
    have hk := (isPlain_iff _).1 hp
    simp only [Itm.items, Itm.kind] at hi hk
    subst hi
    rw [Good, GoodL]
    exact ⟨by rw [nodeOk, if_pos hp]; exact ho.1, trivial, fun h => by omega⟩
   ·cases h
  rename_i hp
  split at h
  ·cases h
  rename_i hf
  split at h
  ·cases h
  split at h
  ·cases h
  rename_i q hq
  split at h
  ·cases h
  rename_i ha
  rw [Good]
  refine ⟨by rw [nodeOk, if_neg hp]; simpa using hf, chkL_good l _ _ _ _ hq, fun h5 => ?_⟩
  cases hs : ascP l with
  | true => rfl
  | false => exact absurd ⟨h5, hs⟩ ha
theorem chkL_good : ∀ (l : List Itm) (lv i s : Nat) (p : Nat × Nat), chkL l lv i s = some p → GoodL l lv
 | [], _, _, _, _, _ => by rw [GoodL]; trivial
 | x :: l, lv, i, s, p, h => by
  rw [chkL] at h
  split at h
  ·cases h
  rename_i q hq
  rw [GoodL]
  exact ⟨chk_good x _ _ _ _ hq, chkL_good l _ _ _ _ h⟩
end
mutual
theorem good_chk : ∀ (x : Itm) (lv i s : Nat), Good x lv → i + cnt x ≤ 256 → s + (encB x).length ≤ 4096 → chk x lv i s = some (i + cnt x, s + (encB x).length)
 | .mk k n bs l, lv, i, s, h, hi, hs => by
  have hn := h.node
  have hit := h.items
  have has := h.asc
  have hsp := node_enc hn
  have hby := spend_bytes hn
  have hc := cnt_eq (.mk k n bs l)
  have hl := cntL_len l
  simp only [Itm.items, Itm.bytes, Itm.kind] at *
  rw [chk, if_neg (by omega)]
  rcases nodeOk_cases hn with ⟨h1, h2⟩ | ⟨h1, h2⟩
  ·have h0 := (okPlain_items h1 h2).1
   simp only [Itm.items] at h0
   subst h0
   rw [encL] at hsp
   rw [cntL] at hc
   simp only [List.length_nil] at hsp
   rw [if_pos h1, if_pos ⟨h2, by omega⟩, hc, hsp]
   congr 2
  ·rw [if_neg (by simp [h1]), if_neg (by simp [h2]), if_neg (by omega), goodL_chk l (lv + 1) (i + 1) _ hit (by omega) (by omega)]
   simp only
   rw [if_neg (by rintro ⟨h5, ha⟩; rw [has h5] at ha; cases ha)]
   congr 2 <;> omega
theorem goodL_chk : ∀ (l : List Itm) (lv i s : Nat), GoodL l lv → i + cntL l ≤ 256 → s + (encL l).length ≤ 4096 → chkL l lv i s = some (i + cntL l, s + (encL l).length)
 | [], lv, i, s, _, _, _ => by rw [chkL, cntL, encL]; rfl
 | x :: l, lv, i, s, h, hi, hs => by
  rw [GoodL] at h
  rw [cntL] at hi ⊢
  rw [encL] at hs ⊢
  simp only [List.length_append] at hs ⊢
  rw [chkL, good_chk x lv i s h.1 (by omega) (by omega)]
  simp only
  rw [goodL_chk l lv _ _ h.2 (by omega) (by omega)]
  congr 2 <;> omega
end
theorem validP_iff (x : Itm) : validP x = true ↔ Good x 0 ∧ cnt x ≤ 256 ∧ (encB x).length ≤ 4096 := by
 constructor
 ·intro h
  obtain ⟨p, hp⟩ := Option.isSome_iff_exists.1 h
  have := validP_spec h
  exact ⟨chk_good _ _ _ _ _ hp, this.2.1, this.2.2⟩
 ·rintro ⟨h1, h2, h3⟩
  rw [validP, good_chk x 0 0 0 h1 (by omega) (by omega)]
  rfl
mutual
def Small : Itm → Prop
 | .mk _ _ bs l => bs.length ≤ 4096 ∧ SmallL l
def SmallL : List Itm → Prop
 | [] => True
 | x :: l => Small x ∧ SmallL l
end
def nodeR (x : Itm) (d m : Nat) : Bool := nodeOk x d && decide (x.bytes.length ≤ 4096) && decide (x.items.length ≤ m)
mutual
def leftP : Itm → Nat → Nat → Option Nat
 | .mk k n bs l, c, d =>
  if c < 1 then none
  else if nodeR (.mk k n bs l) d (c - 1) = false then none
  else match leftL l (c - 1) (d + 1) with
   | none => none
   | some r => if k = 5 ∧ ascP l = false then none else some r
def leftL : List Itm → Nat → Nat → Option Nat
 | [], c, _ => some c
 | x :: l, c, d => match leftP x c d with
  | none => none
  | some r => leftL l r d
end
theorem leftP_eq (x : Itm) (c d : Nat) : leftP x c d =
  if c < 1 then none
  else if nodeR x d (c - 1) = false then none
  else match leftL x.items (c - 1) (d + 1) with
   | none => none
   | some r => if x.kind = 5 ∧ ascP x.items = false then none else some r := by
 cases x
 rw [leftP]
 rfl
theorem nodeR_spec {x : Itm} {d m : Nat} (h : nodeR x d m = true) : nodeOk x d = true ∧ x.bytes.length ≤ 4096 ∧ x.items.length ≤ m := by
 simpa [nodeR, and_assoc] using h
mutual
theorem left_spec : ∀ (x : Itm) (c d r : Nat), leftP x c d = some r → Good x d ∧ Small x ∧ r + cnt x = c
 | .mk k n bs l, c, d, r, h => by
  rw [leftP] at h
  split at h
  ·cases h
  split at h
  ·cases h
  rename_i hn
  obtain ⟨h1, h2, h3⟩ := nodeR_spec (by simpa using hn)
  split at h
  ·cases h
  rename_i q hq
  split at h
  ·cases h
  rename_i ha
  injection h with h
  subst h
  obtain ⟨g1, g2, g3⟩ := leftL_spec l _ _ _ hq
  rw [Good, Small, cnt]
  refine ⟨⟨h1, g1, fun h5 => ?_⟩, ⟨h2, g2⟩, by omega⟩
  cases hs : ascP l with
  | true => rfl
  | false => exact absurd ⟨h5, hs⟩ ha
theorem leftL_spec : ∀ (l : List Itm) (c d r : Nat), leftL l c d = some r → GoodL l d ∧ SmallL l ∧ r + cntL l = c
 | [], c, d, r, h => by
  rw [leftL] at h
  injection h with h
  subst h
  rw [GoodL, SmallL, cntL]
  exact ⟨trivial, trivial, rfl⟩
 | x :: l, c, d, r, h => by
  rw [leftL] at h
  split at h
  ·cases h
  rename_i q hq
  obtain ⟨h1, h2, h3⟩ := left_spec x _ _ _ hq
  obtain ⟨g1, g2, g3⟩ := leftL_spec l _ _ _ h
  rw [GoodL, SmallL, cntL]
  exact ⟨⟨h1, g1⟩, ⟨h2, g2⟩, by omega⟩
end
mutual
theorem good_left : ∀ (x : Itm) (c d : Nat), Good x d → Small x → cnt x ≤ c → leftP x c d = some (c - cnt x)
 | .mk k n bs l, c, d, h, hs, hc => by
  have hn := h.node
  have hit := h.items
  have has := h.asc
  have hcn := cnt_eq (.mk k n bs l)
  have hl := cntL_len l
  rw [Small] at hs
  simp only [Itm.items, Itm.bytes, Itm.kind] at *
  have hr : nodeR (.mk k n bs l) d (c - 1) = true := by
   have e2 : l.length ≤ c - 1 := by omega
   simp [nodeR, hn, Itm.bytes, Itm.items, hs.1, e2]
  rw [leftP, if_neg (by omega), if_neg (by simp [hr]), goodL_left l (c - 1) (d + 1) hit hs.2 (by omega)]
  simp only
  rw [if_neg (by rintro ⟨h5, ha⟩; rw [has h5] at ha; cases ha)]
  congr 1; omega
theorem goodL_left : ∀ (l : List Itm) (c d : Nat), GoodL l d → SmallL l → cntL l ≤ c → leftL l c d = some (c - cntL l)
 | [], c, d, _, _, _ => by rw [leftL, cntL]; rfl
 | x :: l, c, d, h, hs, hc => by
  rw [GoodL] at h
  rw [SmallL] at hs
  rw [cntL] at hc ⊢
  rw [leftL, good_left x c d h.1 hs.1 (by omega)]
  simp only
  rw [goodL_left l _ d h.2 hs.2 (by omega)]
  congr 1; omega
end
mutual
theorem Good.small : ∀ {x : Itm} {lv : Nat}, Good x lv → (encB x).length ≤ 4096 → Small x
 | .mk k n bs l, lv, h, hl => by
  have h1 := node_enc h.node
  have h2 := spend_bytes h.node
  have h3 := h.items
  simp only [Itm.items, Itm.bytes] at *
  rw [Small]
  exact ⟨by omega, GoodL.small h3 (by omega)⟩
theorem GoodL.small : ∀ {l : List Itm} {lv : Nat}, GoodL l lv → (encL l).length ≤ 4096 → SmallL l
 | [], _, _, _ => by rw [SmallL]; trivial
 | x :: l, lv, h, hl => by
  rw [GoodL] at h
  rw [encL] at hl
  simp only [List.length_append] at hl
  rw [SmallL]
  exact ⟨Good.small h.1 (by omega), GoodL.small h.2 (by omega)⟩
end
theorem spend_le {x : Itm} {lv : Nat} (h : nodeOk x lv = true) : spendP x ≤ x.bytes.length + 9 := by
 unfold spendP
 split
 ·have := floatB_length x.n; omega
 split
 ·split <;> omega
 ·have := (headB_le x.kind.toNat (numP x)).2; omega
mutual
theorem Good.bytes : ∀ {x : Itm} {lv : Nat}, Good x lv → Small x → (encB x).length ≤ cnt x * 4105
 | .mk k n bs l, lv, h, hs => by
  have h1 := node_enc h.node
  have h2 := spend_le h.node
  have h3 := h.items
  have h4 := cnt_eq (.mk k n bs l)
  rw [Small] at hs
  simp only [Itm.items, Itm.bytes] at *
  have := GoodL.bytes h3 hs.2
  omega
theorem GoodL.bytes : ∀ {l : List Itm} {lv : Nat}, GoodL l lv → SmallL l → (encL l).length ≤ cntL l * 4105
 | [], _, _, _ => by rw [encL, cntL]; simp
 | x :: l, lv, h, hs => by
  rw [GoodL] at h
  rw [SmallL] at hs
  rw [encL, cntL]
  have h1 := Good.bytes h.1 hs.1
  have h2 := GoodL.bytes h.2 hs.2
  simp only [List.length_append]
  omega
end
def validR (x : Itm) : Bool := (leftP x 256 0).isSome && decide ((encB x).length ≤ 4096)
theorem validR_eq (x : Itm) : validR x = validP x := by
 rw [Bool.eq_iff_iff, validP_iff]
 constructor
 ·intro h
  simp only [validR, Bool.and_eq_true, decide_eq_true_eq] at h
  obtain ⟨r, hr⟩ := Option.isSome_iff_exists.1 h.1
  obtain ⟨h1, h2, h3⟩ := left_spec _ _ _ _ hr
  exact ⟨h1, by omega, h.2⟩
 ·rintro ⟨h1, h2, h3⟩
  simp only [validR, Bool.and_eq_true, decide_eq_true_eq]
  rw [good_left x 256 0 h1 (h1.small h3) h2]
  exact ⟨rfl, h3⟩
theorem cmp_refl : ∀ a : List UInt8, Lib.compareBytes a a = 0
 | [] => by rw [Lib.compareBytes]
 | x :: a => by rw [Lib.compareBytes, if_neg (UInt8.lt_irrefl x), if_neg (UInt8.lt_irrefl x)]; exact cmp_refl a
theorem cmp_trans : ∀ a b c : List UInt8, Lib.compareBytes a b < 0 → Lib.compareBytes b c < 0 → Lib.compareBytes a c < 0
 | [], [], c, h, _ => by rw [Lib.compareBytes] at h; omega
 | [], y :: b, [], _, h => by rw [Lib.compareBytes] at h; omega
 | [], y :: b, z :: c, _, _ => by rw [Lib.compareBytes]; omega
 | x :: a, [], c, h, _ => by rw [Lib.compareBytes] at h; omega
 | x :: a, y :: b, [], _, h => by rw [Lib.compareBytes] at h; omega
 | x :: a, y :: b, z :: c, h, k => by
  rw [Lib.compareBytes] at h k ⊢
  by_cases h1 : x < y
  ·by_cases h2 : y < z
   ·have h3 : x < z := UInt8.lt_trans h1 h2
    rw [if_pos h3]; omega
   ·rw [if_neg h2] at k
    by_cases h3 : z < y
    ·rw [if_pos h3] at k; omega
    ·have e : y = z := UInt8.toNat_inj.1 (by rw [UInt8.lt_iff_toNat_lt] at h2 h3; omega)
     subst e
     rw [if_pos h1]; omega
  ·rw [if_neg h1] at h
   by_cases h2 : y < x
   ·rw [if_pos h2] at h; omega
   ·rw [if_neg h2] at h
    have e : x = y := UInt8.toNat_inj.1 (by rw [UInt8.lt_iff_toNat_lt] at h1 h2; omega)
    subst e
    by_cases h3 : x < z
    ·rw [if_pos h3]; omega
    ·rw [if_neg h3] at k ⊢
     by_cases h4 : z < x
     ·rw [if_pos h4] at k; omega
     ·rw [if_neg h4] at k ⊢
      exact cmp_trans a b c h k
def pairsOf : List Itm → List (Itm × Itm)
 | a :: b :: r => (a, b) :: pairsOf r
 | _ => []
mutual
def sameB : Itm → Itm → Bool
 | .mk k n bs l, .mk k' n' bs' l' => k == k' && n == n' && bs == bs' && sameL l l'
def sameL : List Itm → List Itm → Bool
 | [], [] => true
 | x :: l, y :: m => sameB x y && sameL l m
 | _, _ => false
end
mutual
theorem sameB_iff : ∀ (x y : Itm), sameB x y = true ↔ x = y
 | .mk k n bs l, .mk k' n' bs' l' => by
  rw [sameB]
  simp only [Bool.and_eq_true, beq_iff_eq, sameL_iff l l', Itm.mk.injEq, and_assoc]
theorem sameL_iff : ∀ (l m : List Itm), sameL l m = true ↔ l = m
 | [], [] => by simp [sameL]
 | [], y :: m => by simp [sameL]
 | x :: l, [] => by simp [sameL]
 | x :: l, y :: m => by
  rw [sameL]
  simp only [Bool.and_eq_true, sameB_iff x y, sameL_iff l m, List.cons.injEq]
end
def headX (n : Nat) : Nat := if n < 24 then n else if n < 256 then 24 else if n < 65536 then 25 else if n < 4294967296 then 26 else 27
def headY (n : Nat) : List UInt8 := if n < 24 then [] else if n < 256 then [u8 n] else if n < 65536 then [u8 (n / 256), u8 n] else if n < 4294967296 then [u8 (n / 16777216), u8 (n / 65536), u8 (n / 256), u8 n] else be8 n 8
theorem headB_XY (m n : Nat) : headB m n = u8 (m * 32 + headX n) :: headY n := by
 unfold headB headX headY
 repeat' split
 all_goals rfl
section
variable {P : Program} {ops : Array Oper} {Q : Exit → Act → World → Prop} {md : Region.Mode} {S : World → Prop} {z : Nat}
def Ways (P : Program) (md : Region.Mode) (ops : Array Oper) (Q : Exit → Act → World → Prop) (S : World → Prop) (z : Nat) : Nat → Array Bool → Act → World → Prop
 | 0, L, a, w => Region.ready md ops L = [] ∧ Q .normal a w
 | n + 1, L, a, w => (Region.ready md ops L = [] → Q .normal a w) ∧
   ∀ i ∈ Region.ready md ops L, wpOp P ops Q i (fun a' w' => (i ≠ z → S w') ∧ Ways P md ops Q S z n (L.setIfInBounds i true) a' w') a w
theorem Ways.any : ∀ (n : Nat) (L : Array Bool) (a : Act) (w : World), Ways P md ops Q S z n L a w → wpAny P md ops Q n L a w
 | 0, _, _, _, h => h
 | n + 1, _, _, _, h => ⟨h.1, fun i hi => wpOp_mono (fun a' w' k => Ways.any n _ a' w' k.2) (h.2 i hi)⟩
def Closed (md : Region.Mode) (ops : Array Oper) (L : Array Bool) : Prop :=
 ∀ (j : Nat) (o : Oper), ops[j]? = some o → L.getD j false = true → ∀ e ∈ o.after, Region.binds md e = true → L.getD e.on false = true
theorem Closed.step {L : Array Bool} (h : Closed md ops L) {i : Nat} (hi : i ∈ Region.ready md ops L) : Closed md ops (L.setIfInBounds i true) := by
 intro j o ho hj e he hb
 obtain ⟨_, oi, hoi, hall⟩ := mem_ready.1 hi
 by_cases hij : i = j
 ·subst hij
  rw [ho] at hoi
  cases hoi
  exact getD_set_true (hall e he hb)
 ·rw [getD_set_ne false hij] at hj
  exact getD_set_true (h j o ho hj e he hb)
def Later (md : Region.Mode) (ops : Array Oper) (z i : Nat) : Prop := ∀ L, Closed md ops L → L.getD i true = false → z ∉ Region.ready md ops L
def chain (md : Region.Mode) (ops : Array Oper) : Nat → Nat → Nat → Bool
 | 0, k, i => k == i
 | n + 1, k, i => k == i || match ops[k]? with
  | some o => o.after.any fun e => Region.binds md e && chain md ops n e.on i
  | none => false
theorem chain_listed : ∀ (n k i : Nat) (L : Array Bool), Closed md ops L → chain md ops n k i = true → L.getD k false = true → L.getD i false = true
 | 0, k, i, L, _, h, hk => by
  have : k = i := by simpa [chain] using h
  exact this ▸ hk
 | n + 1, k, i, L, hc, h, hk => by
  unfold chain at h
  rw [Bool.or_eq_true] at h
  rcases h with h | h
  ·have : k = i := by simpa using h
   exact this ▸ hk
  ·cases ho : ops[k]? with
   | none => rw [ho] at h; cases h
   | some o =>
    rw [ho] at h
    obtain ⟨e, he, hb⟩ := Array.any_eq_true'.1 h
    rw [Bool.and_eq_true] at hb
    exact chain_listed n e.on i L hc hb.2 (hc k o ho hk e he hb.1)
theorem later_of {i : Nat} (n : Nat) (h : (match ops[z]? with | some o => o.after.any fun e => Region.binds md e && chain md ops n e.on i | none => false) = true) : Later md ops z i := by
 intro L hc hi hz
 obtain ⟨_, o, ho, hall⟩ := mem_ready.1 hz
 rw [ho] at h
 obtain ⟨e, he, hb⟩ := Array.any_eq_true'.1 h
 rw [Bool.and_eq_true] at hb
 have h1 := chain_listed n e.on i L hc hb.2 (hall e he hb.1)
 rcases Nat.lt_or_ge i L.size with h' | h'
 ·simp [h'] at hi h1
  rw [hi] at h1
  cases h1
 ·simp [Array.getElem?_eq_none h'] at hi
theorem Ways.first {i : Nat} {oi : Oper} {v : Value} (hi : ops[i]? = some oi) (hsel : ∀ (j : Nat) (o : Oper) cs b, ops[j]? = some o → o.op ≠ .select cs b)
  (hQ : ∀ c a w, Q (.panic c) (a.put oi.dst v) w → Q (.panic c) a w) (hz : Later md ops z i) (hiz : i ≠ z) :
  ∀ (n : Nat) (L : Array Bool) (a : Act) (w : World), Closed md ops L →
   (∀ j oj, ops[j]? = some oj → j ≠ i → L.getD j true = false → (∀ e ∈ oj.after, Region.binds md e = true → e.on ≠ i) → oi.apart ops oj = true) →
   i ∈ Region.ready md ops L → YieldsIf P ops S oi v a → S w →
   Ways P md ops Q S z n (L.setIfInBounds i true) (a.put oi.dst v) w → Ways P md ops Q S z (n + 1) L a w := by
 intro n
 induction n with
 | zero =>
  intro L a w _ _ hr hy hS H
  refine ⟨fun h => (by rw [h] at hr; cases hr), fun j hj => ?_⟩
  by_cases hji : j = i
  ·subst hji; exact hy.wpOp hi hS ⟨fun _ => hS, H⟩
  ·have := ready_mono hj hji
   rw [H.1] at this
   cases this
 | succ n ih =>
  intro L a w hcl hfree hr hy hS H
  refine ⟨fun h => (by rw [h] at hr; cases hr), fun j hj => ?_⟩
  by_cases hji : j = i
  ·subst hji; exact hy.wpOp hi hS ⟨fun _ => hS, H⟩
  have hjz : j ≠ z := fun h => hz L hcl (mem_ready.1 hr).1 (h ▸ hj)
  have h1 := H.2 j (ready_mono hj hji)
  obtain ⟨hjun, oj, hoj, hall⟩ := mem_ready.1 hj
  have hnot : ∀ e ∈ oj.after, Region.binds md e = true → e.on ≠ i := fun e he hb heq => by
   have h1 := hall e he hb
   have h0 := (mem_ready.1 hr).1
   rw [heq] at h1
   rcases Nat.lt_or_ge i L.size with h' | h'
   ·simp [h'] at h0 h1; rw [h0] at h1; cases h1
   ·simp [Array.getElem?_eq_none h'] at h1
  have h2 := wpOp_putIf hoj (hfree j oj hoj hji hjun hnot) (fun cs b => hsel i oi cs b hi) (fun cs b => hsel j oj cs b hoj) hQ hy h1
  refine wpOp_mono (fun a' w' h3 => ?_) h2
  obtain ⟨hy', hSw, hW⟩ := h3
  refine ⟨fun _ => hSw hjz, ih (L.setIfInBounds j true) a' w' (hcl.step hj) ?_ (ready_mono hr (Ne.symm hji)) hy' (hSw hjz) ?_⟩
  ·intro k ok hk hki hun hno
   refine hfree k ok hk hki ?_ hno
   by_cases hjk : j = k
   ·subst hjk; exact hjun
   ·rw [getD_set_ne true hjk] at hun; exact hun
  ·rw [Array.setIfInBounds_comm _ _ hji]
   exact hW
def closedB (md : Region.Mode) (ops : Array Oper) (L : Array Bool) : Bool :=
 (List.range ops.size).all fun j => !(L.getD j false) || match ops[j]? with
  | some o => o.after.all fun e => !(Region.binds md e) || L.getD e.on false
  | none => true
theorem closedB_spec {L : Array Bool} (h : closedB md ops L = true) : Closed md ops L := by
 intro j o ho hj e he hb
 have hjl : j < ops.size := (Array.getElem?_eq_some_iff.1 ho).1
 have h1 := List.all_eq_true.1 h j (List.mem_range.2 hjl)
 rw [hj, ho] at h1
 simp only [Bool.not_true, Bool.false_or] at h1
 have h2 := Array.all_eq_true'.1 h1 e he
 rw [hb] at h2
 simpa using h2
theorem Ways.take {i : Nat} {oi : Oper} {v : Value} {n : Nat} {L : Array Bool} {a : Act} {w : World} (hi : ops[i]? = some oi)
  (hs : (Region.noSelect ops && (Region.free md ops L i && ((Region.ready md ops L).contains i && (closedB md ops L && (i != z && (match ops[z]? with | some o => o.after.any fun e => Region.binds md e && chain md ops 8 e.on i | none => false)))))) = true)
  (hQ : ∀ c a w, Q (.panic c) (a.put oi.dst v) w → Q (.panic c) a w) (hy : YieldsIf P ops S oi v a) (hS : S w)
  (h : Ways P md ops Q S z n (L.setIfInBounds i true) (a.put oi.dst v) w) : Ways P md ops Q S z (n + 1) L a w := by
 simp only [Bool.and_eq_true] at hs
 obtain ⟨h1, h2, h3, h4, h5, h6⟩ := hs
 exact Ways.first hi (Region.noSelect_spec h1) hQ (later_of 8 h6) (by simpa using h5) n L a w (closedB_spec h4) (Region.free_spec hi h2) (by simpa using h3) hy hS h
theorem Ways.one {i : Nat} {o : Oper} {n : Nat} {L : Array Bool} {a : Act} {w : World} (hi : ops[i]? = some o) (hr : Region.ready md ops L = [i])
  (h : ∀ K : Act → World → Prop, Shut (∀ a w, (i ≠ z → S w) → ((i ≠ z → S w) → Ways P md ops Q S z n (L.setIfInBounds i true) a w) → K a w) →
   if Region.wanted o (yielded ops a.tmps) = true then Oper.wp P o a w K Q else K (a.put o.dst undef) w) : Ways P md ops Q S z (n + 1) L a w := by
 refine ⟨fun h0 => (by rw [hr] at h0; cases h0), fun j hj => ?_⟩
 rw [hr] at hj
 have hji : j = i := by simpa using hj
 subst hji
 exact wpOp_step hi fun K hK => h K fun a w hS hW => hK a w ⟨hS, hW hS⟩
theorem Ways.two {i j : Nat} {o o' : Oper} {n : Nat} {L : Array Bool} {a : Act} {w : World} (hi : ops[i]? = some o) (hj : ops[j]? = some o') (hr : Region.ready md ops L = [i, j])
  (h : ∀ K : Act → World → Prop, Shut (∀ a w, (i ≠ z → S w) → ((i ≠ z → S w) → Ways P md ops Q S z n (L.setIfInBounds i true) a w) → K a w) →
   if Region.wanted o (yielded ops a.tmps) = true then Oper.wp P o a w K Q else K (a.put o.dst undef) w)
  (h' : ∀ K : Act → World → Prop, Shut (∀ a w, (j ≠ z → S w) → ((j ≠ z → S w) → Ways P md ops Q S z n (L.setIfInBounds j true) a w) → K a w) →
   if Region.wanted o' (yielded ops a.tmps) = true then Oper.wp P o' a w K Q else K (a.put o'.dst undef) w) : Ways P md ops Q S z (n + 1) L a w := by
 refine ⟨fun h0 => (by rw [hr] at h0; cases h0), fun k hk => ?_⟩
 rw [hr] at hk
 rcases (by simpa using hk : k = i ∨ k = j) with hk | hk
 ·subst hk
  exact wpOp_step hi fun K hK => h K fun a w hS hW => hK a w ⟨hS, hW hS⟩
 ·subst hk
  exact wpOp_step hj fun K hK => h' K fun a w hS hW => hK a w ⟨hS, hW hS⟩
theorem Ways.done {L : Array Bool} {a : Act} {w : World} {n : Nat} (hr : Region.ready md ops L = []) (h : Q .normal a w) : Ways P md ops Q S z n L a w := by
 cases n with
 | zero => exact ⟨hr, h⟩
 | succ n => exact ⟨fun _ => h, by rw [hr]; simp⟩
theorem wp_region_ways {id : Nat} {a : Act} {w : World} (z : Nat) (S : World → Prop) (hm : P.follows .mixedOrders = true) (hS : S w.drew)
  (h : S w.drew → Ways P .any ops Q S z ops.size (Array.replicate ops.size false) a w.drew) : (Code.region id ops true).wp P Q a w :=
 wp_region_any hm (Ways.any _ _ _ _ (h hS))
end
theorem ref_Compare (w : World) (A B : Option Addr) (a b : List UInt8) (n m c d : Nat) (hn : n = a.length) (hm : m = b.length) (hna : n ≤ 1099511627776) (hmb : m ≤ 1099511627776) (ha : Src w A (a.map byteV)) (hb : Src w B (b.map byteV)) :
  Calls Tryz.prog 41 #[.slice A n c, .slice B m d] w fun e w' => e = .returned (.int .i64 (Lib.compareBytes a b)) ∧ Below w.heap.size w w' := by
 have HN := Hh hn
 have HM := Hh hm
 clear hn hm
 go_enter Tryz.func41, Tryz.ntmps41
 go_wp2_with fail
 go_loopw [5] (fun vi wr => ∃ k : Nat, k ≤ n ∧ k ≤ m ∧ vi = .int .i64 k ∧ Lib.compareBytes (a.drop k) (b.drop k) = Lib.compareBytes a b ∧ Below w.heap.size w wr) (fun vi _ => n - (intOf vi).toNat)
 case atStart => exact ⟨0, by omega, by omega, rfl, by simp, Below.refl _ _⟩
 case round =>
  obtain ⟨k, hk1, hk2, rfl, hc, hbr⟩ := hrel
  have hn := HN.out
  have hm := HM.out
  by_cases h1 : k < n
  ·by_cases h2 : k < m
   ·obtain ⟨ab, ao, rfl, hsa⟩ := (ha.below hbr) (by intro h; simp at h; subst h; simp at hn; omega)
    obtain ⟨bb, bo, rfl, hsb⟩ := (hb.below hbr) (by intro h; simp at h; subst h; simp at hm; omega)
    have ka : k < a.length := by omega
    have kb : k < b.length := by omega
    have p0 := hsa k (byteV a[k]) (by simp [ka])
    have q0 := hsb k (byteV b[k]) (by simp [kb])
    have hd : Lib.compareBytes (a.drop k) (b.drop k) = if a[k] < b[k] then -1 else if b[k] < a[k] then 1 else Lib.compareBytes (a.drop (k + 1)) (b.drop (k + 1)) := by
     rw [List.drop_eq_getElem_cons ka, List.drop_eq_getElem_cons kb, Lib.compareBytes]
    rw [hc] at hd
    generalize a[k]'ka = x at *
    generalize b[k]'kb = y at *
    have HD := Hh hd
    clear hd hc hn hm hsa hsb ka kb
    go_upto_region 4 with fail
    refine wp_region_ways 8 (fun w' => w'.cell? ⟨ab, ao + k, none⟩ = some (byteV x) ∧ w'.cell? ⟨bb, bo + k, none⟩ = some (byteV y)) (by kernel_rfl) (⟨p0, q0⟩) (fun hHeld => ?_)
    refine Ways.take (i := 0) (v := ?_) rfl (by kernel_rfl) (fun _ _ _ h => h) (Or.inl ⟨by rfl, ?_⟩) hHeld ?_
    rotate_left
    ·(intro w hSw; (try dsimp only at hSw); go_simp; try with_reducible rfl)
    try simp only [Act.put, List.setIfInBounds_toArray, List.set_cons_zero, List.set_cons_succ]
    refine Ways.take (i := 1) (v := ?_) rfl (by kernel_rfl) (fun _ _ _ h => h) (Or.inl ⟨by rfl, ?_⟩) hHeld ?_
    rotate_left
    ·(intro w hSw; (try dsimp only at hSw); go_simp; try with_reducible rfl)
    try simp only [Act.put, List.setIfInBounds_toArray, List.set_cons_zero, List.set_cons_succ]
    refine Ways.take (i := 2) (v := ?_) rfl (by kernel_rfl) (fun _ _ _ h => h) (Or.inl ⟨by rfl, ?_⟩) hHeld ?_
    rotate_left
    ·(intro w hSw; (try dsimp only at hSw); go_simp; try with_reducible rfl)
    try simp only [Act.put, List.setIfInBounds_toArray, List.set_cons_zero, List.set_cons_succ]
    refine Ways.take (i := 3) (v := ?_) rfl (by kernel_rfl) (fun _ _ _ h => h) (Or.inl ⟨by rfl, ?_⟩) hHeld ?_
    rotate_left
    ·(intro w hSw; (try dsimp only at hSw); go_simp; try with_reducible rfl)
    try simp only [Act.put, List.setIfInBounds_toArray, List.set_cons_zero, List.set_cons_succ]
    refine Ways.take (i := 4) (v := ?_) rfl (by kernel_rfl) (fun _ _ _ h => h) (Or.inl ⟨by rfl, ?_⟩) hHeld ?_
    rotate_left
    ·(intro w hSw; (try dsimp only at hSw); go_simp; try with_reducible rfl)
    try simp only [Act.put, List.setIfInBounds_toArray, List.set_cons_zero, List.set_cons_succ]
    refine Ways.take (i := 5) (v := ?_) rfl (by kernel_rfl) (fun _ _ _ h => h) (Or.inl ⟨by rfl, ?_⟩) hHeld ?_
    rotate_left
    ·(intro w hSw; (try dsimp only at hSw); go_simp; try with_reducible rfl)
    try simp only [Act.put, List.setIfInBounds_toArray, List.set_cons_zero, List.set_cons_succ]
    refine Ways.take (i := 6) (v := ?_) rfl (by kernel_rfl) (fun _ _ _ h => h) (Or.inl ⟨by rfl, ?_⟩) hHeld ?_
    rotate_left
    ·(intro w hSw; (try dsimp only at hSw); go_simp; try with_reducible rfl)
    try simp only [Act.put, List.setIfInBounds_toArray, List.set_cons_zero, List.set_cons_succ]
    refine Ways.take (i := 7) (v := ?_) rfl (by kernel_rfl) (fun _ _ _ h => h) (Or.inl ⟨by rfl, ?_⟩) hHeld ?_
    rotate_left
    ·(intro w hSw; (try dsimp only at hSw); go_simp; try with_reducible rfl)
    try simp only [Act.put, List.setIfInBounds_toArray, List.set_cons_zero, List.set_cons_succ]
    refine Ways.one (i := 8) rfl (by kernel_rfl) (fun K hK => ?_)
    go_simp
    refine hK.out _ _ (fun h => absurd rfl h) (fun _ => ?_)
    clear hK K
    try simp only [Act.put, List.setIfInBounds_toArray, List.set_cons_zero, List.set_cons_succ]
    refine Ways.done (by kernel_rfl) ?_
    clear hHeld
    by_cases hxy : x = y
    ·subst hxy
     have E : Hid (Lib.compareBytes (a.drop (k + 1)) (b.drop (k + 1)) = Lib.compareBytes a b) := by rw [Hid, HD.out, if_neg (UInt8.lt_irrefl x), if_neg (UInt8.lt_irrefl x)]
     have hb2 := hbr.drew
     go_wp2_with fail
     go_roundw
     case rel => exact ⟨k + 1, by omega, by omega, by go_num, E.out, hb2⟩
     case measure => simp [intOf]; omega
    ·have hne : ((x.toNat : Int) != (y.toNat : Int)) = true := by
      rw [bne_iff_ne]
      intro h
      exact hxy (UInt8.toNat_inj.1 (by omega))
     have hb2 := hbr.drew.drew
     have HXY := Hh hxy
     clear hxy
     go_upto_region 5 with fail
     refine wp_region_ways 8 (fun w' => w'.cell? ⟨ab, ao + k, none⟩ = some (byteV x) ∧ w'.cell? ⟨bb, bo + k, none⟩ = some (byteV y)) (by kernel_rfl) (⟨p0, q0⟩) (fun hHeld => ?_)
     refine Ways.take (i := 0) (v := ?_) rfl (by kernel_rfl) (fun _ _ _ h => h) (Or.inl ⟨by rfl, ?_⟩) hHeld ?_
     rotate_left
     ·(intro w hSw; (try dsimp only at hSw); go_simp; try with_reducible rfl)
     try simp only [Act.put, List.setIfInBounds_toArray, List.set_cons_zero, List.set_cons_succ]
     refine Ways.take (i := 1) (v := ?_) rfl (by kernel_rfl) (fun _ _ _ h => h) (Or.inl ⟨by rfl, ?_⟩) hHeld ?_
     rotate_left
     ·(intro w hSw; (try dsimp only at hSw); go_simp; try with_reducible rfl)
     try simp only [Act.put, List.setIfInBounds_toArray, List.set_cons_zero, List.set_cons_succ]
     refine Ways.take (i := 2) (v := ?_) rfl (by kernel_rfl) (fun _ _ _ h => h) (Or.inl ⟨by rfl, ?_⟩) hHeld ?_
     rotate_left
     ·(intro w hSw; (try dsimp only at hSw); go_simp; try with_reducible rfl)
     try simp only [Act.put, List.setIfInBounds_toArray, List.set_cons_zero, List.set_cons_succ]
     refine Ways.take (i := 3) (v := ?_) rfl (by kernel_rfl) (fun _ _ _ h => h) (Or.inl ⟨by rfl, ?_⟩) hHeld ?_
     rotate_left
     ·(intro w hSw; (try dsimp only at hSw); go_simp; try with_reducible rfl)
     try simp only [Act.put, List.setIfInBounds_toArray, List.set_cons_zero, List.set_cons_succ]
     refine Ways.take (i := 4) (v := ?_) rfl (by kernel_rfl) (fun _ _ _ h => h) (Or.inl ⟨by rfl, ?_⟩) hHeld ?_
     rotate_left
     ·(intro w hSw; (try dsimp only at hSw); go_simp; try with_reducible rfl)
     try simp only [Act.put, List.setIfInBounds_toArray, List.set_cons_zero, List.set_cons_succ]
     refine Ways.take (i := 5) (v := ?_) rfl (by kernel_rfl) (fun _ _ _ h => h) (Or.inl ⟨by rfl, ?_⟩) hHeld ?_
     rotate_left
     ·(intro w hSw; (try dsimp only at hSw); go_simp; try with_reducible rfl)
     try simp only [Act.put, List.setIfInBounds_toArray, List.set_cons_zero, List.set_cons_succ]
     refine Ways.take (i := 6) (v := ?_) rfl (by kernel_rfl) (fun _ _ _ h => h) (Or.inl ⟨by rfl, ?_⟩) hHeld ?_
     rotate_left
     ·(intro w hSw; (try dsimp only at hSw); go_simp; try with_reducible rfl)
     try simp only [Act.put, List.setIfInBounds_toArray, List.set_cons_zero, List.set_cons_succ]
     refine Ways.take (i := 7) (v := ?_) rfl (by kernel_rfl) (fun _ _ _ h => h) (Or.inl ⟨by rfl, ?_⟩) hHeld ?_
     rotate_left
     ·(intro w hSw; (try dsimp only at hSw); go_simp; try with_reducible rfl)
     try simp only [Act.put, List.setIfInBounds_toArray, List.set_cons_zero, List.set_cons_succ]
     refine Ways.one (i := 8) rfl (by kernel_rfl) (fun K hK => ?_)
     go_simp
     refine hK.out _ _ (fun h => absurd rfl h) (fun _ => ?_)
     clear hK K
     try simp only [Act.put, List.setIfInBounds_toArray, List.set_cons_zero, List.set_cons_succ]
     refine Ways.done (by kernel_rfl) ?_
     clear hHeld
     by_cases hl : x < y
     ·have E : Hid (Lib.compareBytes a b = -1) := by rw [Hid, HD.out, if_pos hl]
      have hl2 : (x.toNat : Int) < (y.toNat : Int) := by have := UInt8.lt_iff_toNat_lt.1 hl; omega
      clear hl
      go_wp2_with fail
      go_ret
      exact ⟨by rw [E.out]; rfl, hb2⟩
     ·have hg : y < x := by
       have := HXY.out
       rcases Nat.lt_trichotomy x.toNat y.toNat with h | h | h
       ·exact absurd (UInt8.lt_iff_toNat_lt.2 h) hl
       ·exact absurd (UInt8.toNat_inj.1 h) this
       ·exact UInt8.lt_iff_toNat_lt.2 h
      have E : Hid (Lib.compareBytes a b = 1) := by rw [Hid, HD.out, if_neg hl, if_pos hg]
      have hl2 : (y.toNat : Int) ≤ (x.toNat : Int) := by have := UInt8.lt_iff_toNat_lt.1 hg; omega
      clear hl hg
      go_wp2_with fail
      go_ret
      exact ⟨by rw [E.out]; rfl, hbr.drew.drew⟩
   ·have hkm : k = m := by omega
    have E : Hid (Lib.compareBytes a b = 1) := by
     rw [Hid, ← hc, List.drop_eq_getElem_cons (show k < a.length by omega), List.drop_eq_nil_of_le (show b.length ≤ k by omega), Lib.compareBytes]
    clear hc hn hm
    go_wp2_with fail
    go_ret
    exact ⟨by rw [E.out]; rfl, hbr⟩
  ·have hkn : k = n := by omega
   by_cases h2 : k < m
   ·have E : Hid (Lib.compareBytes a b = -1) := by
     rw [Hid, ← hc, List.drop_eq_nil_of_le (show a.length ≤ k by omega), List.drop_eq_getElem_cons (show k < b.length by omega), Lib.compareBytes]
    clear hc hn hm
    go_wp2_with fail
    go_ret
    exact ⟨by rw [E.out]; rfl, hbr⟩
   ·have E : Hid (Lib.compareBytes a b = 0) := by
     rw [Hid, ← hc, List.drop_eq_nil_of_le (show a.length ≤ k by omega), List.drop_eq_nil_of_le (show b.length ≤ k by omega), Lib.compareBytes]
    clear hc hn hm
    go_wp2_with fail
    go_ret
    exact ⟨by rw [E.out]; rfl, hbr⟩
theorem stI {w : World} {ops : Array Oper} {rest : List Oper} {o : Oper} {a : Act} {Q : Exit → Act → World → Prop} {x y : Operand} {g : Nat} {c0 c1 c2 c3 : Value} {t : TypeId} {old : Array Value} (hB : Blk w g t old)
  (h : ∀ w', Blk w' g t #[c0, c1, c2, c3] → w.grownBy w' (some g) → wpList Tryz.prog ops Q rest a w')
  (hgd : o.guard = none := by rfl) (ho : o.op = .store 31 x y := by rfl) (hd : o.dst = none := by rfl) (hx : a.eval x = .pointer (some ⟨g, 0, none⟩) := by rfl) (hy : a.eval y = .agg #[c0, c1, c2, c3] := by rfl) (hold : (#[c0, c1, c2, c3] : Array Value).size = old.size := by rfl) (h1 : c0.oneCell' = true := by rfl) (h2 : c1.oneCell' = true := by rfl) (h3 : c2.oneCell' = true := by rfl) (h4 : c3.oneCell' = true := by rfl) : wpList Tryz.prog ops Q (o :: rest) a w :=
 wpList_store_item hgd _ _ _ ho hd _ _ hx hy _ _ hB size_item hold (one4 _ _ _ _ h1 h2 h3 h4) h
abbrev zz1 := @List.getElem_toArray
abbrev zz2 := @List.getElem_cons_zero
abbrev zz3 := @List.getElem_cons_succ
abbrev zz4 := @List.setIfInBounds_toArray
abbrev zz5 := @List.set_cons_zero
abbrev zz6 := @List.set_cons_succ
theorem Tk {P : Program} {md : Region.Mode} {ops : Array Oper} {Q : Exit → Act → World → Prop} {z : Nat} {S : World → Prop} (i : Nat) {oi : Oper} {v : Value} {n : Nat} {L : Array Bool} {a : Act} {w : World} {a' : Act} (hi : ops[i]? = some oi) (hS : S w) (h : Ways P md ops Q S z n (L.setIfInBounds i true) a' w)
  (hs : (Region.noSelect ops && (Region.free md ops L i && ((Region.ready md ops L).contains i && (closedB md ops L && (i != z && (match ops[z]? with | some o => o.after.any fun e => Region.binds md e && chain md ops 8 e.on i | none => false)))))) = true := by kernel_rfl) (hw : Region.wanted oi (yielded ops a.tmps) = true := by rfl) (hy : ∀ w, S w → Sem.run P (execOp a.eval oi) w = Result.ok (Next.value v) w := by intro w s; (try dsimp only at s); go_simp; try with_reducible rfl) (ha : a.put oi.dst v = a' := by (try simp only [Act.put, zz1, zz2, zz3, zz4, zz5, zz6]); with_reducible rfl) (hQ : ∀ c a w, Q (.panic c) (a.put oi.dst v) w → Q (.panic c) a w := by exact fun _ _ _ h => h) : Ways P md ops Q S z (n + 1) L a w := by subst ha; exact Ways.take hi hs hQ (Or.inl ⟨hw, hy⟩) hS h
theorem TkG {P : Program} {md : Region.Mode} {ops : Array Oper} {Q : Exit → Act → World → Prop} {z : Nat} {S : World → Prop} (i : Nat) {oi : Oper} {v : Value} {n : Nat} {L : Array Bool} {a : Act} {w : World} {a' : Act} (hi : ops[i]? = some oi) (hS : S w) (h : Ways P md ops Q S z n (L.setIfInBounds i true) a' w)
  (hs : (Region.noSelect ops && (Region.free md ops L i && ((Region.ready md ops L).contains i && (closedB md ops L && (i != z && (match ops[z]? with | some o => o.after.any fun e => Region.binds md e && chain md ops 8 e.on i | none => false)))))) = true := by kernel_rfl) (hw : Region.wanted oi (yielded ops a.tmps) = true := by kernel_rfl) (hy : ∀ w, S w → Sem.run P (execOp a.eval oi) w = Result.ok (Next.value v) w := by intro w s; (try dsimp only at s); go_simp; try with_reducible rfl) (ha : a.put oi.dst v = a' := by (try simp only [Act.put, zz1, zz2, zz3, zz4, zz5, zz6]); with_reducible rfl) (hQ : ∀ c a w, Q (.panic c) (a.put oi.dst v) w → Q (.panic c) a w := by exact fun _ _ _ h => h) : Ways P md ops Q S z (n + 1) L a w := by subst ha; exact Ways.take hi hs hQ (Or.inl ⟨hw, hy⟩) hS h
theorem TkU {P : Program} {md : Region.Mode} {ops : Array Oper} {Q : Exit → Act → World → Prop} {z : Nat} {S : World → Prop} (i : Nat) {oi : Oper} {n : Nat} {L : Array Bool} {a : Act} {w : World} {a' : Act} (hi : ops[i]? = some oi) (hS : S w) (h : Ways P md ops Q S z n (L.setIfInBounds i true) a' w)
  (hs : (Region.noSelect ops && (Region.free md ops L i && ((Region.ready md ops L).contains i && (closedB md ops L && (i != z && (match ops[z]? with | some o => o.after.any fun e => Region.binds md e && chain md ops 8 e.on i | none => false)))))) = true := by kernel_rfl) (hw : Region.wanted oi (yielded ops a.tmps) = false := by kernel_rfl) (ha : a.put oi.dst undef = a' := by (try simp only [Act.put, zz1, zz2, zz3, zz4, zz5, zz6]); with_reducible rfl) (hQ : ∀ c a w, Q (.panic c) (a.put oi.dst undef) w → Q (.panic c) a w := by exact fun _ _ _ h => h) : Ways P md ops Q S z (n + 1) L a w := by subst ha; exact Ways.take hi hs hQ (Or.inr ⟨hw, rfl⟩) hS h
theorem To {P : Program} {md : Region.Mode} {ops : Array Oper} {Q : Exit → Act → World → Prop} {z : Nat} {S : World → Prop} (i : Nat) {o : Oper} {n : Nat} {L : Array Bool} {a : Act} {w : World} (hi : ops[i]? = some o)
  (h : ∀ K : Act → World → Prop, Shut (∀ a w, (i ≠ z → S w) → ((i ≠ z → S w) → Ways P md ops Q S z n (L.setIfInBounds i true) a w) → K a w) → if Region.wanted o (yielded ops a.tmps) = true then Oper.wp P o a w K Q else K (a.put o.dst undef) w)
  (hr : Region.ready md ops L = [i] := by kernel_rfl) : Ways P md ops Q S z (n + 1) L a w := Ways.one hi hr h
end Go.Proofs.YtlebpackbfcfeaaGreatDoor
