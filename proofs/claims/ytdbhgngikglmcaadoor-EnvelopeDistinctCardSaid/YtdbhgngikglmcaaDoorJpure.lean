/- Heads of data items as lists of bytes: plain mathematics. Encodings of items: plain mathematics. Which items are valid: plain mathematics. The count of items and bytes: plain mathematics. Validity of items and of header parameters: plain mathematics. Two ways of counting an item's parts agree: plain mathematics. The two readings of header parameters agree: plain mathematics. The two readings of header parameters agree, second part: plain mathematics. Encodings are prefix-free: plain mathematics. Floats of 64, 32 and 16 bits: what converting them gives; plain mathematics. -/
import Derived.Test.YtdbhgngikglmcaaDoorJmem
import Derived.Lib.ValidU
import Derived.Lib.Bytealg
import Derived.Shelf.Unicode.DecodeSlow
import Derived.Laws.FloatArith
set_option linter.unusedVariables false
set_option linter.unusedSimpArgs false
namespace Go.Proofs.YtdbhgngikglmcaaDoor
open Go.RowKit

def u8 (n : Nat) : UInt8 := UInt8.ofNat n
theorem u8_toNat (n : Nat) : (u8 n).toNat = n % 256 := by simp [u8]
theorem byteV_u8 (n : Nat) : byteV (u8 n) = .int .u8 ((n % 256 : Nat) : Int) := by simp [byteV, u8_toNat]
theorem byteV_of (x : Int) (n : Nat) (h : x = ((n % 256 : Nat) : Int)) : Value.int .u8 x = byteV (u8 n) := by rw [byteV_u8, h]
theorem u8_mod (n : Nat) : u8 (n % 256) = u8 n := by
  apply UInt8.toNat_inj.1
  simp [u8_toNat]

/-- The first k bytes of n as eight bytes, big-endian. -/
def be8 (n : Nat) : Nat → List UInt8
  | 0 => []
  | k + 1 => be8 n k ++ [u8 (n / 2 ^ (56 - 8 * k))]
theorem be8_length (n k : Nat) : (be8 n k).length = k := by induction k <;> simp [be8, *]

/-- The head of a major type m and a number n. -/
def headB (m n : Nat) : List UInt8 :=
  if n < 24 then [u8 (m * 32 + n)]
  else if n < 256 then [u8 (m * 32 + 24), u8 n]
  else if n < 65536 then [u8 (m * 32 + 25), u8 (n / 256), u8 n]
  else if n < 4294967296 then [u8 (m * 32 + 26), u8 (n / 16777216), u8 (n / 65536), u8 (n / 256), u8 n]
  else u8 (m * 32 + 27) :: be8 n 8
theorem headB_length (m n : Nat) : (headB m n).length = if n < 24 then 1 else if n < 256 then 2 else if n < 65536 then 3 else if n < 4294967296 then 5 else 9 := by
  unfold headB
  repeat' split
  all_goals simp [be8_length]
theorem headB_le (m n : Nat) : 1 ≤ (headB m n).length ∧ (headB m n).length ≤ 9 := by
  rw [headB_length]
  repeat' split
  all_goals omega

theorem ofInt_u8 (a : Nat) (ha : a < 256) : (BitVec.ofInt 8 (a : Int)).toNat = a := by
  rw [BitVec.ofInt_natCast, BitVec.toNat_ofNat]; exact Nat.mod_eq_of_lt (by omega)
theorem u8_or_nat (a b : Nat) (ha : a < 256) (hb : b < 256) : bits .or .u8 (a : Int) (b : Int) = ((a ||| b : Nat) : Int) := by
  have hx : a ||| b < 2 ^ 8 := Nat.or_lt_two_pow (by omega) (by omega)
  show IntKind.u8.wrap ((BitVec.ofInt 8 (a : Int) ||| BitVec.ofInt 8 (b : Int)).toNat : Int) = _
  rw [BitVec.toNat_or, ofInt_u8 a ha, ofInt_u8 b hb, IntKind.wrap_u8]
  omega
theorem or_head (m n : Nat) (hn : n < 32) : m * 32 ||| n = m * 32 + n := by
  have h := Nat.two_pow_add_eq_or_of_lt (i := 5) (b := n) (by omega) m
  rw [show 2 ^ 5 * m = m * 32 by omega] at h
  exact h.symm
theorem u8_head (m n : Nat) (hm : m < 8) (hn : n < 32) : bits .or .u8 ((m : Int) * 32) (n : Int) = ((m * 32 + n : Nat) : Int) := by
  have h := u8_or_nat (m * 32) n (by omega) (by omega)
  rw [or_head m n hn] at h
  simpa using h
end Go.Proofs.YtdbhgngikglmcaaDoor
namespace Go.Proofs.YtdbhgngikglmcaaDoor
open Go.RowKit

def isNaN (n : Nat) : Bool := n / 2 ^ 52 % 2048 == 2047 && n % 2 ^ 52 != 0
/-- The bits of a number in a format with eb bits of exponent and mb of fraction, if it has one there. -/
def narrow (n eb mb : Nat) : Option Nat :=
  let sign := n / 2 ^ 63 * 2 ^ (eb + mb)
  let e := n / 2 ^ 52 % 2048
  let m := n % 2 ^ 52
  let top := 2 ^ eb - 1
  let bias := 2 ^ (eb - 1) - 1
  if e = 2047 then (if m = 0 then some (sign + top * 2 ^ mb) else none)
  else if e = 0 then (if m = 0 then some sign else none)
  else if 1023 + top ≤ e + bias then none
  else if 1023 < e + bias then (if m % 2 ^ (52 - mb) = 0 then some (sign + (e + bias - 1023) * 2 ^ mb + m / 2 ^ (52 - mb)) else none)
  else
    let shift := 53 - mb + (1023 - e - bias)
    if 52 < shift then none else if (m + 2 ^ 52) % 2 ^ shift = 0 then some (sign + (m + 2 ^ 52) / 2 ^ shift) else none
def floatB (n : Nat) : List UInt8 :=
  if isNaN n then [u8 249, u8 126, u8 0] else
  match narrow n 5 10 with
  | some v => [u8 249, u8 (v / 256), u8 v]
  | none => match narrow n 8 23 with
    | some v => [u8 250, u8 (v / 16777216), u8 (v / 65536), u8 (v / 256), u8 v]
    | none => u8 251 :: be8 n 8
theorem floatB_length (n : Nat) : (floatB n).length = 3 ∨ (floatB n).length = 5 ∨ (floatB n).length = 9 := by
  unfold floatB
  repeat' split
  all_goals simp [be8_length]

def numP (x : Itm) : Nat :=
  if x.kind = 2 ∨ x.kind = 3 then x.bytes.length else if x.kind = 4 then x.items.length else if x.kind = 5 then x.items.length / 2 else x.n

mutual
/-- The encoding of an item. -/
def encB : Itm → List UInt8
  | .mk k n bs l =>
    if k = 8 then floatB n
    else if k = 7 ∧ 24 ≤ n then [u8 248, u8 n]
    else headB k.toNat (numP (.mk k n bs l)) ++ bs ++ encL l
def encL : List Itm → List UInt8
  | [] => []
  | x :: l => encB x ++ encL l
end
theorem encL_append (l m : List Itm) : encL (l ++ m) = encL l ++ encL m := by
  induction l with
  | nil => rw [List.nil_append, encL, List.nil_append]
  | cons x l ih => rw [List.cons_append, encL, encL, ih, List.append_assoc]
theorem encL_take_succ (l : List Itm) (k : Nat) (h : k < l.length) : encL (l.take (k + 1)) = encL (l.take k) ++ encB l[k] := by
  rw [List.take_succ_eq_append_getElem h, encL_append, encL, encL, List.append_nil]
theorem encB_eq (x : Itm) : encB x = if x.kind = 8 then floatB x.n else if x.kind = 7 ∧ 24 ≤ x.n then [u8 248, u8 x.n] else headB x.kind.toNat (numP x) ++ x.bytes ++ encL x.items := by
  cases x
  rw [encB]
  rfl
theorem encL_take_le (l : List Itm) (k : Nat) : (encL (l.take k)).length ≤ (encL l).length := by
  have h := encL_append (l.take k) (l.drop k)
  rw [List.take_append_drop] at h
  rw [h]
  simp

mutual
/-- The kinds are those of items. -/
def Kinds : Itm → Prop
  | .mk k _ _ l => (0 ≤ k ∧ k ≤ 8) ∧ KindsL l
def KindsL : List Itm → Prop
  | [] => True
  | x :: l => Kinds x ∧ KindsL l
end
theorem Kinds.kind {x : Itm} (h : Kinds x) : 0 ≤ x.kind ∧ x.kind ≤ 8 := by cases x; rw [Kinds] at h; exact h.1
theorem Kinds.items {x : Itm} (h : Kinds x) : KindsL x.items := by cases x; rw [Kinds] at h; exact h.2
theorem KindsL.get : ∀ {l : List Itm}, KindsL l → ∀ (k : Nat) (hk : k < l.length), Kinds l[k]
  | [], _, k, hk => by simp at hk
  | x :: l, h, 0, _ => by rw [KindsL] at h; exact h.1
  | x :: l, h, k + 1, hk => by rw [KindsL] at h; exact h.2.get k (by simpa using hk)

mutual
/-- The number of nodes. -/
def cnt : Itm → Nat
  | .mk _ _ _ l => cntL l + 1
def cntL : List Itm → Nat
  | [] => 0
  | x :: l => cnt x + cntL l
end
theorem cntL_get : ∀ (l : List Itm) (k : Nat) (hk : k < l.length), cnt l[k] ≤ cntL l
  | [], k, hk => by simp at hk
  | x :: l, 0, _ => by rw [cntL]; simp
  | x :: l, k + 1, hk => by
    have := cntL_get l k (by simpa using hk)
    rw [cntL]
    simp only [List.getElem_cons_succ]
    omega
theorem cnt_items (x : Itm) (k : Nat) (hk : k < x.items.length) : cnt x.items[k] < cnt x := by
  cases x with
  | mk a b c l =>
    have := cntL_get l k hk
    rw [cnt]
    simp only [Itm.items]
    omega
end Go.Proofs.YtdbhgngikglmcaaDoor
namespace Go.Proofs.YtdbhgngikglmcaaDoor
open Go.RowKit

def notNumber : Nat := 9221120237041090560
def isPlain (x : Itm) : Bool := x.kind == 0 || x.kind == 1 || x.kind == 2 || x.kind == 3 || x.kind == 7 || x.kind == 8
def okPlain (x : Itm) : Bool :=
  if x.kind = 0 ∨ x.kind = 1 then x.bytes.isEmpty && x.items.isEmpty
  else if x.kind = 2 then x.n == 0 && x.items.isEmpty
  else if x.kind = 3 then x.n == 0 && x.items.isEmpty && Lib.validD x.bytes
  else if x.kind = 7 then x.bytes.isEmpty && x.items.isEmpty && (decide (x.n < 24) || decide (32 ≤ x.n) && decide (x.n < 256))
  else if x.kind = 8 then x.bytes.isEmpty && x.items.isEmpty && (!isNaN x.n || x.n == notNumber)
  else false
/-- The bytes of an item without its elements. -/
def spendP (x : Itm) : Nat :=
  if x.kind = 8 then (floatB x.n).length else if x.kind = 7 then (if 24 ≤ x.n then 2 else 1) else (headB x.kind.toNat (numP x)).length + x.bytes.length
/-- The keys of pairs ascend. -/
def ascP : List Itm → Bool
  | a :: b :: c :: l => decide (Lib.compareBytes (encB a) (encB c) < 0) && ascP (c :: l)
  | _ => true
theorem ascP_drop (l : List Itm) (j : Nat) (h2 : 2 ≤ j) (h : j < l.length) :
    ascP (l.drop (j - 2)) = (decide (Lib.compareBytes (encB (l[j - 2]'(by omega))) (encB l[j]) < 0) && ascP (l.drop j)) := by
  have e1 : l.drop (j - 2) = l[j - 2]'(by omega) :: l.drop (j - 1) := by
    rw [List.drop_eq_getElem_cons (by omega)]
    rw [show j - 2 + 1 = j - 1 by omega]
  have e2 : l.drop (j - 1) = l[j - 1]'(by omega) :: l.drop j := by
    rw [List.drop_eq_getElem_cons (by omega)]
    rw [show j - 1 + 1 = j by omega]
  have e3 : l.drop j = l[j] :: l.drop (j + 1) := List.drop_eq_getElem_cons h
  rw [e1, e2, e3, ascP]
theorem ascP_end (l : List Itm) (j : Nat) (h2 : 2 ≤ j) (h : l.length ≤ j) : ascP (l.drop (j - 2)) = true := by
  have hl : (l.drop (j - 2)).length ≤ 2 := by rw [List.length_drop]; omega
  match l.drop (j - 2), hl with
  | [], _ => rfl
  | [_], _ => rfl
  | [_, _], _ => rfl
  | _ :: _ :: _ :: _, h => simp at h
end Go.Proofs.YtdbhgngikglmcaaDoor
namespace Go.Proofs.YtdbhgngikglmcaaDoor
open Go.RowKit

/-- What an item may be before its elements are looked at. -/
def frameOk (x : Itm) (lv : Nat) : Bool :=
  decide (4 ≤ x.kind ∧ x.kind ≤ 6 ∧ lv < 8 ∧ x.bytes.length = 0 ∧ (x.kind = 6 → x.items.length = 1) ∧ (x.kind ≠ 6 → x.n = 0) ∧ (x.kind = 5 → x.items.length % 2 = 0))
mutual
/-- The checker: the counts behind an item, if it is valid as far as that goes. -/
def chk : Itm → Nat → Nat → Nat → Option (Nat × Nat)
  | .mk k n bs l, lv, i, s =>
    if 256 < i + 1 ∨ 4096 < bs.length ∨ 256 < l.length then none
    else if isPlain (.mk k n bs l) = true then (if okPlain (.mk k n bs l) = true ∧ s + spendP (.mk k n bs l) ≤ 4096 then some (i + 1, s + spendP (.mk k n bs l)) else none)
    else if frameOk (.mk k n bs l) lv = false then none
    else if 4096 < s + spendP (.mk k n bs l) then none
    else match chkL l (lv + 1) (i + 1) (s + spendP (.mk k n bs l)) with
      | none => none
      | some p => if k = 5 ∧ ascP l = false then none else some p
def chkL : List Itm → Nat → Nat → Nat → Option (Nat × Nat)
  | [], _, i, s => some (i, s)
  | x :: l, lv, i, s => match chk x lv i s with
    | none => none
    | some p => chkL l lv p.1 p.2
end
theorem chk_eq (x : Itm) (lv i s : Nat) : chk x lv i s =
    if 256 < i + 1 ∨ 4096 < x.bytes.length ∨ 256 < x.items.length then none
    else if isPlain x = true then (if okPlain x = true ∧ s + spendP x ≤ 4096 then some (i + 1, s + spendP x) else none)
    else if frameOk x lv = false then none
    else if 4096 < s + spendP x then none
    else match chkL x.items (lv + 1) (i + 1) (s + spendP x) with
      | none => none
      | some p => if x.kind = 5 ∧ ascP x.items = false then none else some p := by
  cases x
  rw [chk]
  rfl
theorem isPlain_iff (x : Itm) : isPlain x = true ↔ x.kind = 0 ∨ x.kind = 1 ∨ x.kind = 2 ∨ x.kind = 3 ∨ x.kind = 7 ∨ x.kind = 8 := by
  simp [isPlain]
  omega
theorem spend_enc (x : Itm) (h : x.items = []) (h8 : x.kind = 8 ∨ x.kind = 7 → x.bytes = []) : spendP x = (encB x).length := by
  rw [encB_eq, spendP]
  by_cases h1 : x.kind = 8
  · rw [if_pos h1, if_pos h1]
  rw [if_neg h1, if_neg h1]
  by_cases h2 : x.kind = 7
  · rw [if_pos h2]
    by_cases h3 : 24 ≤ x.n
    · rw [if_pos h3, if_pos ⟨h2, h3⟩]; rfl
    · have hn : numP x = x.n := by simp [numP, h2]
      rw [if_neg h3, if_neg (by omega), h8 (.inr h2), h, encL, hn, headB, if_pos (by omega)]
      rfl
  · rw [if_neg h2, if_neg (by omega), h, encL]
    simp
theorem spend_mid (x : Itm) (h8 : x.kind ≠ 8) (h7 : x.kind ≠ 7) : spendP x = (headB x.kind.toNat (numP x)).length + x.bytes.length := by
  rw [spendP, if_neg h8, if_neg h7]
theorem frameOk_spec {x : Itm} {lv : Nat} (h : frameOk x lv = true) : 4 ≤ x.kind ∧ x.kind ≤ 6 ∧ lv < 8 ∧ x.bytes.length = 0 ∧ (x.kind = 6 → x.items.length = 1) ∧ (x.kind ≠ 6 → x.n = 0) ∧ (x.kind = 5 → x.items.length % 2 = 0) :=
  of_decide_eq_true h
theorem okPlain_items {x : Itm} (hp : isPlain x = true) (ho : okPlain x = true) : x.items = [] ∧ (x.kind = 8 ∨ x.kind = 7 → x.bytes = []) := by
  rw [isPlain_iff] at hp
  unfold okPlain at ho
  rcases hp with h | h | h | h | h | h <;> simp [h] at ho ⊢ <;> simp [ho]
theorem KindsL.of : ∀ {l : List Itm}, (∀ x ∈ l, Kinds x) → KindsL l
  | [], _ => by rw [KindsL]; trivial
  | x :: l, h => by
    rw [KindsL]
    exact ⟨h x (by simp), KindsL.of fun y hy => h y (by simp [hy])⟩
mutual
theorem chk_spec : ∀ (x : Itm) (lv i s : Nat) (p : Nat × Nat), chk x lv i s = some p → Kinds x ∧ p = (i + cnt x, s + (encB x).length) ∧ p.1 ≤ 256 ∧ p.2 ≤ 4096
  | .mk k n bs l, lv, i, s, p, h => by
    rw [chk] at h
    split at h
    · cases h
    rename_i h0
    split at h
    · rename_i hp
      split at h
      · rename_i ho
        obtain ⟨hi, hb⟩ := okPlain_items hp ho.1
        have hk := (isPlain_iff _).1 hp
        have hs := spend_enc (.mk k n bs l) hi hb
        simp only [Itm.items, Itm.kind] at hi hk
        subst hi
        injection h with h
        subst h
        rw [← hs]
        refine ⟨?_, ?_, ?_, ?_⟩
        · rw [Kinds, KindsL]; exact ⟨by omega, trivial⟩
        · rw [cnt, cntL]
        · simp only; omega
        · exact ho.2
      · cases h
    rename_i hp
    split at h
    · cases h
    rename_i hf
    split at h
    · cases h
    rename_i h4
    have hf' := frameOk_spec (by simpa using hf)
    simp only [Itm.kind, Itm.bytes, Itm.items, List.length_eq_zero_iff] at hf'
    split at h
    · cases h
    rename_i q hq
    split at h
    · cases h
    injection h with h
    subst h
    obtain ⟨hk, hq', h1, h2⟩ := chkL_spec l _ _ _ _ hq (by omega) (by omega)
    have hsp := spend_mid (.mk k n bs l) (by simp only [Itm.kind]; omega) (by simp only [Itm.kind]; omega)
    simp only [Itm.kind, Itm.bytes] at hsp
    rw [hf'.2.2.2.1] at hsp
    refine ⟨by rw [Kinds]; exact ⟨by omega, hk⟩, ?_, h1, h2⟩
    rw [hq', cnt, encB, if_neg (by omega), if_neg (by omega), hf'.2.2.2.1, hsp]
    simp only [List.length_append, List.length_nil, Prod.mk.injEq]
    omega
theorem chkL_spec : ∀ (l : List Itm) (lv i s : Nat) (p : Nat × Nat), chkL l lv i s = some p → i ≤ 256 → s ≤ 4096 → KindsL l ∧ p = (i + cntL l, s + (encL l).length) ∧ p.1 ≤ 256 ∧ p.2 ≤ 4096
  | [], lv, i, s, p, h, hi, hs => by
    rw [chkL] at h
    injection h with h
    subst h
    rw [KindsL, cntL, encL]
    exact ⟨trivial, rfl, hi, hs⟩
  | x :: l, lv, i, s, p, h, hi, hs => by
    rw [chkL] at h
    split at h
    · cases h
    rename_i q hq
    obtain ⟨hk, hq', h1, h2⟩ := chk_spec x _ _ _ _ hq
    obtain ⟨hkl, hp, h3, h4⟩ := chkL_spec l _ _ _ _ h h1 h2
    refine ⟨by rw [KindsL]; exact ⟨hk, hkl⟩, ?_, h3, h4⟩
    rw [hp, hq', cntL, encL]
    simp
    omega
end
end Go.Proofs.YtdbhgngikglmcaaDoor
namespace Go.Proofs.YtdbhgngikglmcaaDoor
open Go.RowKit

/-- Is the item valid? -/
def validP (x : Itm) : Bool := (chk x 0 0 0).isSome
theorem validP_spec {x : Itm} (h : validP x = true) : Kinds x ∧ cnt x ≤ 256 ∧ (encB x).length ≤ 4096 := by
  obtain ⟨p, hp⟩ := Option.isSome_iff_exists.1 h
  obtain ⟨hk, he, h1, h2⟩ := chk_spec _ _ _ _ _ hp
  subst he
  simp only at h1 h2
  exact ⟨hk, by omega, by omega⟩
mutual
/-- No length in the item goes beyond what memory bears. -/
def Modest : Itm → Prop
  | .mk _ _ bs l => bs.length ≤ 1099511627776 ∧ l.length ≤ 1099511627776 ∧ ModestL l
def ModestL : List Itm → Prop
  | [] => True
  | x :: l => Modest x ∧ ModestL l
end
theorem Modest.parts {x : Itm} (h : Modest x) : x.bytes.length ≤ 1099511627776 ∧ x.items.length ≤ 1099511627776 ∧ ModestL x.items := by cases x; rw [Modest] at h; exact h
theorem ModestL.get : ∀ {l : List Itm}, ModestL l → ∀ (k : Nat) (hk : k < l.length), Modest l[k]
  | [], _, k, hk => by simp at hk
  | x :: l, h, 0, hk => by rw [ModestL] at h; exact h.1
  | x :: l, h, k + 1, hk => by rw [ModestL] at h; exact h.2.get k (by simpa using hk)
theorem ModestL.of : ∀ {l : List Itm}, (∀ x ∈ l, Modest x) → ModestL l
  | [], _ => by rw [ModestL]; trivial
  | x :: l, h => by rw [ModestL]; exact ⟨h x (by simp), ModestL.of fun y hy => h y (by simp [hy])⟩
/-- The value behind the key, in the pairs of a map. -/
def findL (key : List UInt8) : List Itm → Option Itm
  | a :: b :: r => if encB a = key then some b else findL key r
  | _ => none
def findP (m key : Itm) : Option Itm := if m.kind = 5 ∧ validP m = true ∧ validP key = true then findL (encB key) m.items else none
abbrev zeroItm : Itm := .mk 0 0 [] []

theorem validP_even {x : Itm} (h : validP x = true) (h5 : x.kind = 5) : x.items.length % 2 = 0 := by
  obtain ⟨p, hp⟩ := Option.isSome_iff_exists.1 h
  rw [chk_eq] at hp
  split at hp
  · cases hp
  split at hp
  · rename_i h1
    rw [isPlain_iff] at h1
    omega
  split at hp
  · cases hp
  · rename_i h1
    exact (frameOk_spec (by simpa using h1)).2.2.2.2.2.2 h5
theorem validP_items {x : Itm} (h : validP x = true) : x.bytes.length ≤ 4096 ∧ x.items.length ≤ 256 ∧ KindsL x.items ∧ (encL x.items).length ≤ 4096 := by
  obtain ⟨hk, hc, he⟩ := validP_spec h
  obtain ⟨p, hp⟩ := Option.isSome_iff_exists.1 h
  rw [chk_eq] at hp
  split at hp
  · cases hp
  rename_i h0
  refine ⟨by omega, by omega, hk.items, ?_⟩
  split at hp
  · rename_i h1
    split at hp
    · rename_i h2
      rw [(okPlain_items h1 h2.1).1]
      simp [encL]
    · cases hp
  split at hp
  · cases hp
  rename_i h1
  have := frameOk_spec (by simpa using h1)
  rw [encB_eq, if_neg (by omega), if_neg (by omega)] at he
  simp only [List.length_append] at he
  omega
theorem encL_get (l : List Itm) (k : Nat) (hk : k < l.length) : (encB l[k]).length ≤ (encL l).length := by
  have a1 := encL_take_succ l k hk
  have a2 := encL_take_le l (k + 1)
  rw [a1] at a2
  simp only [List.length_append] at a2
  omega
mutual
theorem chk_modest : ∀ (x : Itm) (lv i s : Nat) (p : Nat × Nat), chk x lv i s = some p → Modest x
  | .mk k n bs l, lv, i, s, p, h => by
    rw [chk] at h
    split at h
    · cases h
    rename_i h0
    rw [Modest]
    refine ⟨by omega, by omega, ?_⟩
    split at h
    · rename_i h1
      split at h
      · rename_i h2
        rw [show l = [] from (okPlain_items h1 h2.1).1, ModestL]
        trivial
      · cases h
    split at h
    · cases h
    split at h
    · cases h
    split at h
    · cases h
    · rename_i q hq
      exact chkL_modest l _ _ _ _ hq
theorem chkL_modest : ∀ (l : List Itm) (lv i s : Nat) (p : Nat × Nat), chkL l lv i s = some p → ModestL l
  | [], _, _, _, _, _ => by rw [ModestL]; trivial
  | x :: l, lv, i, s, p, h => by
    rw [chkL] at h
    split at h
    · cases h
    · rename_i q hq
      rw [ModestL]
      exact ⟨chk_modest x _ _ _ _ hq, chkL_modest l _ _ _ _ h⟩
end
theorem validP_modest {x : Itm} (h : validP x = true) : Modest x := by
  obtain ⟨p, hp⟩ := Option.isSome_iff_exists.1 h
  exact chk_modest _ _ _ _ _ hp
theorem findL_step (key : List UInt8) (l : List Itm) (k : Nat) (hk : k + 1 < l.length) : findL key (l.drop k) = if encB l[k] = key then some l[k + 1] else findL key (l.drop (k + 2)) := by
  rw [List.drop_eq_getElem_cons (show k < l.length by omega), List.drop_eq_getElem_cons hk, findL]
/-- The item of an int. -/
def intP (n : Int) : Itm := if n < 0 then .mk 1 (-1 - n).toNat [] [] else .mk 0 n.toNat [] []
/-- A label that is a number; a label that may bear a value. -/
def numberP (x : Itm) : Bool := (x.kind == 0 || x.kind == 1) && decide (x.n ≤ 65535)
def permP (a b : Itm) : Bool :=
  if a.kind = 3 then true else if numberP a = false then false else if a.kind = 1 then true
  else if a.n = 1 then numberP b && (b.kind == 1 || b.n != 0) else if a.n = 4 ∨ a.n = 5 ∨ a.n = 6 ∨ a.n = 12 then b.kind == 2 else true
/-- Where the parts of an item lie. -/
structure Ad where
  ba : Option Addr
  bc : Nat
  ia : Option Addr
  ic : Nat
abbrev hdrC (p : Itm) (a : Ad) (u : Itm) (b : Ad) : Array Value :=
  #[.int .i64 p.kind, .int .u64 p.n, .slice a.ba p.bytes.length a.bc, .slice a.ia p.items.length a.ic, .int .i64 u.kind, .int .u64 u.n, .slice b.ba u.bytes.length b.bc, .slice b.ia u.items.length b.ic]
def findH (p u : Itm) (n : Int) : Option Itm := match findP p (intP n) with
  | some x => some x
  | none => findP u (intP n)
def permL : List Itm → Bool
  | a :: b :: r => permP a b && permL r
  | _ => true
def okMap (m : Itm) : Bool := m.kind == 5 && validP m && permL m.items
def keysFree (u : Itm) : List Itm → Bool
  | a :: _ :: r => (findP u a).isNone && keysFree u r
  | _ => true
def critP (p : Itm) : Bool := match findP p (intP 2) with
  | none => true
  | some c => (c.items.all fun x => (findP p x).isSome) && c.kind == 4 && decide (0 < c.items.length)
def validH (p u : Itm) : Bool := okMap p && okMap u && keysFree u p.items && !((findP u (intP 2)).isSome || ((findH p u 5).isSome && (findH p u 6).isSome)) && critP p
theorem permL_step (l : List Itm) (k : Nat) (hk : k + 1 < l.length) : permL (l.drop k) = (permP l[k] l[k + 1] && permL (l.drop (k + 2))) := by
  rw [List.drop_eq_getElem_cons (show k < l.length by omega), List.drop_eq_getElem_cons hk, permL]
theorem keysFree_step (u : Itm) (l : List Itm) (k : Nat) (hk : k + 1 < l.length) : keysFree u (l.drop k) = ((findP u l[k]).isNone && keysFree u (l.drop (k + 2))) := by
  rw [List.drop_eq_getElem_cons (show k < l.length by omega), List.drop_eq_getElem_cons hk, keysFree]
/-- The protected bytes of valid headers. -/
def protB (p : Itm) : List UInt8 := if p.items.length = 0 then [] else encB p
theorem validH_valid {p u : Itm} (h : validH p u = true) : validP p = true ∧ validP u = true ∧ p.kind = 5 ∧ u.kind = 5 := by
  simp [validH, okMap] at h
  exact ⟨h.1.1.1.1.1.2, h.1.1.1.2.1.2, h.1.1.1.1.1.1, h.1.1.1.2.1.1⟩
/-- The tables of package utf8 lie in the snapshot. -/
def Tabs (H : Snap) : Prop := ∀ w, Holds w H → Lib.Utf8Tabs 0 1 w
theorem Tabs.mono {H K : Snap} (h : Tabs H) (hl : H.le K) : Tabs K := fun w hw => h w (hw.mono hl)
end Go.Proofs.YtdbhgngikglmcaaDoor
namespace Go.Proofs.YtdbhgngikglmcaaDoor
open Go.RowKit

/-- What a node may be at a level, its elements left aside. -/
def nodeOk (x : Itm) (lv : Nat) : Bool := if isPlain x = true then okPlain x else frameOk x lv
mutual
/-- An item whose form is right: sizes left aside. -/
def Good : Itm → Nat → Prop
  | .mk k n bs l, lv => nodeOk (.mk k n bs l) lv = true ∧ GoodL l (lv + 1) ∧ (k = 5 → ascP l = true)
def GoodL : List Itm → Nat → Prop
  | [], _ => True
  | x :: l, lv => Good x lv ∧ GoodL l lv
end
theorem Good.node {x : Itm} {lv : Nat} (h : Good x lv) : nodeOk x lv = true := by cases x; rw [Good] at h; exact h.1
theorem Good.items {x : Itm} {lv : Nat} (h : Good x lv) : GoodL x.items (lv + 1) := by cases x; rw [Good] at h; exact h.2.1
theorem Good.asc {x : Itm} {lv : Nat} (h : Good x lv) (h5 : x.kind = 5) : ascP x.items = true := by cases x; rw [Good] at h; exact h.2.2 h5
theorem Good.of {x : Itm} {lv : Nat} (h1 : nodeOk x lv = true) (h2 : GoodL x.items (lv + 1)) (h3 : x.kind = 5 → ascP x.items = true) : Good x lv := by cases x; rw [Good]; exact ⟨h1, h2, h3⟩
theorem GoodL.get : ∀ {l : List Itm} {lv : Nat}, GoodL l lv → ∀ x ∈ l, Good x lv
  | [], _, _, x, hx => by cases hx
  | y :: l, lv, h, x, hx => by
    rw [GoodL] at h
    rcases List.mem_cons.1 hx with rfl | hx
    · exact h.1
    · exact h.2.get x hx
theorem GoodL.of : ∀ {l : List Itm} {lv : Nat}, (∀ x ∈ l, Good x lv) → GoodL l lv
  | [], _, _ => by rw [GoodL]; trivial
  | y :: l, lv, h => by
    rw [GoodL]
    exact ⟨h y (by simp), GoodL.of fun x hx => h x (by simp [hx])⟩
/-- An item of a plain kind, or a frame. -/
theorem nodeOk_cases {x : Itm} {lv : Nat} (h : nodeOk x lv = true) : (isPlain x = true ∧ okPlain x = true) ∨ (isPlain x = false ∧ frameOk x lv = true) := by
  unfold nodeOk at h
  cases hp : isPlain x with
  | true => rw [if_pos hp] at h; exact .inl ⟨rfl, h⟩
  | false => rw [if_neg (by simp [hp])] at h; exact .inr ⟨rfl, h⟩
theorem nodeOk_kind {x : Itm} {lv : Nat} (h : nodeOk x lv = true) : 0 ≤ x.kind ∧ x.kind ≤ 8 := by
  rcases nodeOk_cases h with ⟨h1, _⟩ | ⟨_, h1⟩
  · rw [isPlain_iff] at h1; omega
  · have := frameOk_spec h1; omega
theorem frameOk_le {x : Itm} {lv lv' : Nat} (h : frameOk x lv = true) (hl : lv' ≤ lv) : frameOk x lv' = true := by
  obtain ⟨h1, h2, h3, h4⟩ := frameOk_spec h
  exact decide_eq_true ⟨h1, h2, by omega, h4⟩
theorem nodeOk_le {x : Itm} {lv lv' : Nat} (h : nodeOk x lv = true) (hl : lv' ≤ lv) : nodeOk x lv' = true := by
  rcases nodeOk_cases h with ⟨h1, h2⟩ | ⟨h1, h2⟩
  · rw [nodeOk, if_pos h1]; exact h2
  · rw [nodeOk, if_neg (by simp [h1])]; exact frameOk_le h2 hl
mutual
theorem Good.le : ∀ {x : Itm} {lv lv' : Nat}, Good x lv → lv' ≤ lv → Good x lv'
  | .mk k n bs l, lv, lv', h, hl => by
    rw [Good] at h ⊢
    exact ⟨nodeOk_le h.1 hl, GoodL.le h.2.1 (by omega), h.2.2⟩
theorem GoodL.le : ∀ {l : List Itm} {lv lv' : Nat}, GoodL l lv → lv' ≤ lv → GoodL l lv'
  | [], _, _, _, _ => by rw [GoodL]; trivial
  | x :: l, lv, lv', h, hl => by
    rw [GoodL] at h ⊢
    exact ⟨Good.le h.1 hl, GoodL.le h.2 hl⟩
end
mutual
theorem Good.kinds : ∀ {x : Itm} {lv : Nat}, Good x lv → Kinds x
  | .mk k n bs l, lv, h => by
    rw [Good] at h
    rw [Kinds]
    exact ⟨nodeOk_kind h.1, GoodL.kinds h.2.1⟩
theorem GoodL.kinds : ∀ {l : List Itm} {lv : Nat}, GoodL l lv → KindsL l
  | [], _, _ => by rw [KindsL]; trivial
  | x :: l, lv, h => by
    rw [GoodL] at h
    rw [KindsL]
    exact ⟨Good.kinds h.1, GoodL.kinds h.2⟩
end
theorem node_plain {x : Itm} {lv : Nat} (h : nodeOk x lv = true) (hp : isPlain x = true) : x.items = [] ∧ (x.kind = 8 ∨ x.kind = 7 → x.bytes = []) := by
  rcases nodeOk_cases h with ⟨_, h2⟩ | ⟨h1, _⟩
  · exact okPlain_items hp h2
  · rw [hp] at h1; cases h1
/-- The bytes of a node, with its elements behind it. -/
theorem node_enc {x : Itm} {lv : Nat} (h : nodeOk x lv = true) : (encB x).length = spendP x + (encL x.items).length := by
  cases hp : isPlain x with
  | true =>
    obtain ⟨h1, h2⟩ := node_plain h hp
    rw [← spend_enc x h1 h2, h1, encL]; simp
  | false =>
    rcases nodeOk_cases h with ⟨h1, _⟩ | ⟨_, h2⟩
    · rw [hp] at h1; cases h1
    · have hf := frameOk_spec h2
      rw [encB_eq, if_neg (by omega), if_neg (by omega), spend_mid x (by omega) (by omega)]
      simp; omega
theorem spend_bytes {x : Itm} {lv : Nat} (h : nodeOk x lv = true) : x.bytes.length ≤ spendP x := by
  by_cases h8 : x.kind = 8
  · have := (node_plain h ((isPlain_iff x).2 (by omega))).2 (by omega)
    rw [this]; simp
  by_cases h7 : x.kind = 7
  · have := (node_plain h ((isPlain_iff x).2 (by omega))).2 (by omega)
    rw [this]; simp
  rw [spend_mid x h8 h7]; omega
theorem cntL_len : ∀ l : List Itm, l.length ≤ cntL l
  | [] => by simp [cntL]
  | x :: l => by
    have := cntL_len l
    have h : 0 < cnt x := by cases x; rw [cnt]; omega
    rw [cntL]; simp; omega
theorem cnt_eq (x : Itm) : cnt x = cntL x.items + 1 := by cases x; rw [cnt]; rfl
mutual
theorem chk_good : ∀ (x : Itm) (lv i s : Nat) (p : Nat × Nat), chk x lv i s = some p → Good x lv
  | .mk k n bs l, lv, i, s, p, h => by
    rw [chk] at h
    split at h
    · cases h
    split at h
    · rename_i hp
      split at h
      · rename_i ho
        have hi := (okPlain_items hp ho.1).1
        have hk := (isPlain_iff _).1 hp
        simp only [Itm.items, Itm.kind] at hi hk
        subst hi
        rw [Good, GoodL]
        exact ⟨by rw [nodeOk, if_pos hp]; exact ho.1, trivial, fun h => by omega⟩
      · cases h
    rename_i hp
    split at h
    · cases h
    rename_i hf
    split at h
    · cases h
    split at h
    · cases h
    rename_i q hq
    split at h
    · cases h
    rename_i ha
    rw [Good]
    refine ⟨by rw [nodeOk, if_neg hp]; simpa using hf, chkL_good l _ _ _ _ hq, fun h5 => ?_⟩
    cases hs : ascP l with
    | true => rfl
    | false => exact absurd ⟨h5, hs⟩ ha
theorem chkL_good : ∀ (l : List Itm) (lv i s : Nat) (p : Nat × Nat), chkL l lv i s = some p → GoodL l lv
  | [], _, _, _, _, _ => by rw [GoodL]; trivial
  | x :: l, lv, i, s, p, h => by
    rw [chkL] at h
    split at h
    · cases h
    rename_i q hq
    rw [GoodL]
    exact ⟨chk_good x _ _ _ _ hq, chkL_good l _ _ _ _ h⟩
end
mutual
theorem good_chk : ∀ (x : Itm) (lv i s : Nat), Good x lv → i + cnt x ≤ 256 → s + (encB x).length ≤ 4096 → chk x lv i s = some (i + cnt x, s + (encB x).length)
  | .mk k n bs l, lv, i, s, h, hi, hs => by
    have hn := h.node
    have hit := h.items
    have has := h.asc
    have hsp := node_enc hn
    have hby := spend_bytes hn
    have hc := cnt_eq (.mk k n bs l)
    have hl := cntL_len l
    simp only [Itm.items, Itm.bytes, Itm.kind] at *
    rw [chk, if_neg (by omega)]
    rcases nodeOk_cases hn with ⟨h1, h2⟩ | ⟨h1, h2⟩
    · have h0 := (okPlain_items h1 h2).1
      simp only [Itm.items] at h0
      subst h0
      rw [encL] at hsp
      rw [cntL] at hc
      simp only [List.length_nil] at hsp
      rw [if_pos h1, if_pos ⟨h2, by omega⟩, hc, hsp]
      congr 2
    · rw [if_neg (by simp [h1]), if_neg (by simp [h2]), if_neg (by omega), goodL_chk l (lv + 1) (i + 1) _ hit (by omega) (by omega)]
      simp only
      rw [if_neg (by rintro ⟨h5, ha⟩; rw [has h5] at ha; cases ha)]
      congr 2 <;> omega
theorem goodL_chk : ∀ (l : List Itm) (lv i s : Nat), GoodL l lv → i + cntL l ≤ 256 → s + (encL l).length ≤ 4096 → chkL l lv i s = some (i + cntL l, s + (encL l).length)
  | [], lv, i, s, _, _, _ => by rw [chkL, cntL, encL]; rfl
  | x :: l, lv, i, s, h, hi, hs => by
    rw [GoodL] at h
    rw [cntL] at hi ⊢
    rw [encL] at hs ⊢
    simp only [List.length_append] at hs ⊢
    rw [chkL, good_chk x lv i s h.1 (by omega) (by omega)]
    simp only
    rw [goodL_chk l lv _ _ h.2 (by omega) (by omega)]
    congr 2 <;> omega
end
theorem validP_iff (x : Itm) : validP x = true ↔ Good x 0 ∧ cnt x ≤ 256 ∧ (encB x).length ≤ 4096 := by
  constructor
  · intro h
    obtain ⟨p, hp⟩ := Option.isSome_iff_exists.1 h
    have := validP_spec h
    exact ⟨chk_good _ _ _ _ _ hp, this.2.1, this.2.2⟩
  · rintro ⟨h1, h2, h3⟩
    rw [validP, good_chk x 0 0 0 h1 (by omega) (by omega)]
    rfl

mutual
/-- No byte string is too long. -/
def Small : Itm → Prop
  | .mk _ _ bs l => bs.length ≤ 4096 ∧ SmallL l
def SmallL : List Itm → Prop
  | [] => True
  | x :: l => Small x ∧ SmallL l
end
/-- The references' checks of a node; m: how many items may follow it. -/
def nodeR (x : Itm) (d m : Nat) : Bool := nodeOk x d && decide (x.bytes.length ≤ 4096) && decide (x.items.length ≤ m)
mutual
/-- The references' count: how many items are left. -/
def leftP : Itm → Nat → Nat → Option Nat
  | .mk k n bs l, c, d =>
    if c < 1 then none
    else if nodeR (.mk k n bs l) d (c - 1) = false then none
    else match leftL l (c - 1) (d + 1) with
      | none => none
      | some r => if k = 5 ∧ ascP l = false then none else some r
def leftL : List Itm → Nat → Nat → Option Nat
  | [], c, _ => some c
  | x :: l, c, d => match leftP x c d with
    | none => none
    | some r => leftL l r d
end
theorem leftP_eq (x : Itm) (c d : Nat) : leftP x c d =
    if c < 1 then none
    else if nodeR x d (c - 1) = false then none
    else match leftL x.items (c - 1) (d + 1) with
      | none => none
      | some r => if x.kind = 5 ∧ ascP x.items = false then none else some r := by
  cases x
  rw [leftP]
  rfl
theorem nodeR_spec {x : Itm} {d m : Nat} (h : nodeR x d m = true) : nodeOk x d = true ∧ x.bytes.length ≤ 4096 ∧ x.items.length ≤ m := by
  simpa [nodeR, and_assoc] using h
mutual
theorem left_spec : ∀ (x : Itm) (c d r : Nat), leftP x c d = some r → Good x d ∧ Small x ∧ r + cnt x = c
  | .mk k n bs l, c, d, r, h => by
    rw [leftP] at h
    split at h
    · cases h
    split at h
    · cases h
    rename_i hn
    obtain ⟨h1, h2, h3⟩ := nodeR_spec (by simpa using hn)
    split at h
    · cases h
    rename_i q hq
    split at h
    · cases h
    rename_i ha
    injection h with h
    subst h
    obtain ⟨g1, g2, g3⟩ := leftL_spec l _ _ _ hq
    rw [Good, Small, cnt]
    refine ⟨⟨h1, g1, fun h5 => ?_⟩, ⟨h2, g2⟩, by omega⟩
    cases hs : ascP l with
    | true => rfl
    | false => exact absurd ⟨h5, hs⟩ ha
theorem leftL_spec : ∀ (l : List Itm) (c d r : Nat), leftL l c d = some r → GoodL l d ∧ SmallL l ∧ r + cntL l = c
  | [], c, d, r, h => by
    rw [leftL] at h
    injection h with h
    subst h
    rw [GoodL, SmallL, cntL]
    exact ⟨trivial, trivial, rfl⟩
  | x :: l, c, d, r, h => by
    rw [leftL] at h
    split at h
    · cases h
    rename_i q hq
    obtain ⟨h1, h2, h3⟩ := left_spec x _ _ _ hq
    obtain ⟨g1, g2, g3⟩ := leftL_spec l _ _ _ h
    rw [GoodL, SmallL, cntL]
    exact ⟨⟨h1, g1⟩, ⟨h2, g2⟩, by omega⟩
end
mutual
theorem good_left : ∀ (x : Itm) (c d : Nat), Good x d → Small x → cnt x ≤ c → leftP x c d = some (c - cnt x)
  | .mk k n bs l, c, d, h, hs, hc => by
    have hn := h.node
    have hit := h.items
    have has := h.asc
    have hcn := cnt_eq (.mk k n bs l)
    have hl := cntL_len l
    rw [Small] at hs
    simp only [Itm.items, Itm.bytes, Itm.kind] at *
    have hr : nodeR (.mk k n bs l) d (c - 1) = true := by
      have e2 : l.length ≤ c - 1 := by omega
      simp [nodeR, hn, Itm.bytes, Itm.items, hs.1, e2]
    rw [leftP, if_neg (by omega), if_neg (by simp [hr]), goodL_left l (c - 1) (d + 1) hit hs.2 (by omega)]
    simp only
    rw [if_neg (by rintro ⟨h5, ha⟩; rw [has h5] at ha; cases ha)]
    congr 1; omega
theorem goodL_left : ∀ (l : List Itm) (c d : Nat), GoodL l d → SmallL l → cntL l ≤ c → leftL l c d = some (c - cntL l)
  | [], c, d, _, _, _ => by rw [leftL, cntL]; rfl
  | x :: l, c, d, h, hs, hc => by
    rw [GoodL] at h
    rw [SmallL] at hs
    rw [cntL] at hc ⊢
    rw [leftL, good_left x c d h.1 hs.1 (by omega)]
    simp only
    rw [goodL_left l _ d h.2 hs.2 (by omega)]
    congr 1; omega
end
mutual
theorem Good.small : ∀ {x : Itm} {lv : Nat}, Good x lv → (encB x).length ≤ 4096 → Small x
  | .mk k n bs l, lv, h, hl => by
    have h1 := node_enc h.node
    have h2 := spend_bytes h.node
    have h3 := h.items
    simp only [Itm.items, Itm.bytes] at *
    rw [Small]
    exact ⟨by omega, GoodL.small h3 (by omega)⟩
theorem GoodL.small : ∀ {l : List Itm} {lv : Nat}, GoodL l lv → (encL l).length ≤ 4096 → SmallL l
  | [], _, _, _ => by rw [SmallL]; trivial
  | x :: l, lv, h, hl => by
    rw [GoodL] at h
    rw [encL] at hl
    simp only [List.length_append] at hl
    rw [SmallL]
    exact ⟨Good.small h.1 (by omega), GoodL.small h.2 (by omega)⟩
end
theorem spend_le {x : Itm} {lv : Nat} (h : nodeOk x lv = true) : spendP x ≤ x.bytes.length + 9 := by
  unfold spendP
  split
  · have := floatB_length x.n; omega
  split
  · split <;> omega
  · have := (headB_le x.kind.toNat (numP x)).2; omega
mutual
/-- A bound on the bytes, by the count. -/
theorem Good.bytes : ∀ {x : Itm} {lv : Nat}, Good x lv → Small x → (encB x).length ≤ cnt x * 4105
  | .mk k n bs l, lv, h, hs => by
    have h1 := node_enc h.node
    have h2 := spend_le h.node
    have h3 := h.items
    have h4 := cnt_eq (.mk k n bs l)
    rw [Small] at hs
    simp only [Itm.items, Itm.bytes] at *
    have := GoodL.bytes h3 hs.2
    omega
theorem GoodL.bytes : ∀ {l : List Itm} {lv : Nat}, GoodL l lv → SmallL l → (encL l).length ≤ cntL l * 4105
  | [], _, _, _ => by rw [encL, cntL]; simp
  | x :: l, lv, h, hs => by
    rw [GoodL] at h
    rw [SmallL] at hs
    rw [encL, cntL]
    have h1 := Good.bytes h.1 hs.1
    have h2 := GoodL.bytes h.2 hs.2
    simp only [List.length_append]
    omega
end
/-- The references' validity. -/
def validR (x : Itm) : Bool := (leftP x 256 0).isSome && decide ((encB x).length ≤ 4096)
theorem validR_eq (x : Itm) : validR x = validP x := by
  rw [Bool.eq_iff_iff, validP_iff]
  constructor
  · intro h
    simp only [validR, Bool.and_eq_true, decide_eq_true_eq] at h
    obtain ⟨r, hr⟩ := Option.isSome_iff_exists.1 h.1
    obtain ⟨h1, h2, h3⟩ := left_spec _ _ _ _ hr
    exact ⟨h1, by omega, h.2⟩
  · rintro ⟨h1, h2, h3⟩
    simp only [validR, Bool.and_eq_true, decide_eq_true_eq]
    rw [good_left x 256 0 h1 (h1.small h3) h2]
    exact ⟨rfl, h3⟩
end Go.Proofs.YtdbhgngikglmcaaDoor
namespace Go.Proofs.YtdbhgngikglmcaaDoor
open Go.RowKit

theorem cmp_refl : ∀ a : List UInt8, Lib.compareBytes a a = 0
  | [] => by rw [Lib.compareBytes]
  | x :: a => by rw [Lib.compareBytes, if_neg (UInt8.lt_irrefl x), if_neg (UInt8.lt_irrefl x)]; exact cmp_refl a
theorem cmp_trans : ∀ a b c : List UInt8, Lib.compareBytes a b < 0 → Lib.compareBytes b c < 0 → Lib.compareBytes a c < 0
  | [], [], c, h, _ => by rw [Lib.compareBytes] at h; omega
  | [], y :: b, [], _, h => by rw [Lib.compareBytes] at h; omega
  | [], y :: b, z :: c, _, _ => by rw [Lib.compareBytes]; omega
  | x :: a, [], c, h, _ => by rw [Lib.compareBytes] at h; omega
  | x :: a, y :: b, [], _, h => by rw [Lib.compareBytes] at h; omega
  | x :: a, y :: b, z :: c, h, k => by
    rw [Lib.compareBytes] at h k ⊢
    by_cases h1 : x < y
    · by_cases h2 : y < z
      · have h3 : x < z := UInt8.lt_trans h1 h2
        rw [if_pos h3]; omega
      · rw [if_neg h2] at k
        by_cases h3 : z < y
        · rw [if_pos h3] at k; omega
        · have e : y = z := UInt8.toNat_inj.1 (by rw [UInt8.lt_iff_toNat_lt] at h2 h3; omega)
          subst e
          rw [if_pos h1]; omega
    · rw [if_neg h1] at h
      by_cases h2 : y < x
      · rw [if_pos h2] at h; omega
      · rw [if_neg h2] at h
        have e : x = y := UInt8.toNat_inj.1 (by rw [UInt8.lt_iff_toNat_lt] at h1 h2; omega)
        subst e
        by_cases h3 : x < z
        · rw [if_pos h3]; omega
        · rw [if_neg h3] at k ⊢
          by_cases h4 : z < x
          · rw [if_pos h4] at k; omega
          · rw [if_neg h4] at k ⊢
            exact cmp_trans a b c h k

/-- The pairs of a map. -/
def pairsOf : List Itm → List (Itm × Itm)
  | a :: b :: r => (a, b) :: pairsOf r
  | _ => []
theorem pairsOf_mem : ∀ {l : List Itm} {p : Itm × Itm}, p ∈ pairsOf l → p.1 ∈ l ∧ p.2 ∈ l
  | [], p, h => by rw [pairsOf] at h; cases h; intro _ _ _ h; cases h
  | [_], p, h => by rw [pairsOf] at h; cases h; intro _ _ _ h; cases h
  | a :: b :: r, p, h => by
    rw [pairsOf] at h
    rcases List.mem_cons.1 h with rfl | h
    · simp
    · have := pairsOf_mem h
      simp [this.1, this.2]
theorem permL_pairs : ∀ l : List Itm, permL l = (pairsOf l).all fun p => permP p.1 p.2
  | [] => rfl
  | [_] => rfl
  | a :: b :: r => by rw [permL, pairsOf, List.all_cons, permL_pairs r]
theorem keysFree_pairs (u : Itm) : ∀ l : List Itm, keysFree u l = (pairsOf l).all fun p => (findP u p.1).isNone
  | [] => rfl
  | [_] => rfl
  | a :: b :: r => by rw [keysFree, pairsOf, List.all_cons, keysFree_pairs u r]
theorem findL_pairs (k : List UInt8) : ∀ l : List Itm, findL k l = ((pairsOf l).find? fun p => decide (encB p.1 = k)).map (·.2)
  | [] => rfl
  | [_] => rfl
  | a :: b :: r => by
    rw [findL, pairsOf, List.find?_cons]
    by_cases h : encB a = k
    · simp [h]
    · simp [h, findL_pairs k r]

mutual
/-- Are two items the same? -/
def sameB : Itm → Itm → Bool
  | .mk k n bs l, .mk k' n' bs' l' => k == k' && n == n' && bs == bs' && sameL l l'
def sameL : List Itm → List Itm → Bool
  | [], [] => true
  | x :: l, y :: m => sameB x y && sameL l m
  | _, _ => false
end
mutual
theorem sameB_iff : ∀ (x y : Itm), sameB x y = true ↔ x = y
  | .mk k n bs l, .mk k' n' bs' l' => by
    rw [sameB]
    simp only [Bool.and_eq_true, beq_iff_eq, sameL_iff l l', Itm.mk.injEq, and_assoc]
theorem sameL_iff : ∀ (l m : List Itm), sameL l m = true ↔ l = m
  | [], [] => by simp [sameL]
  | [], y :: m => by simp [sameL]
  | x :: l, [] => by simp [sameL]
  | x :: l, y :: m => by
    rw [sameL]
    simp only [Bool.and_eq_true, sameB_iff x y, sameL_iff l m, List.cons.injEq]
end
/-- The references' look into a map. -/
def atL (key : Itm) : List Itm → Option Itm
  | a :: b :: r => if sameB a key = true then some b else atL key r
  | _ => none
theorem atL_pairs (k : Itm) : ∀ l : List Itm, atL k l = ((pairsOf l).find? fun p => sameB p.1 k).map (·.2)
  | [] => rfl
  | [_] => rfl
  | a :: b :: r => by
    rw [atL, pairsOf, List.find?_cons]
    by_cases h : sameB a k = true
    · simp [h]
    · simp [h, atL_pairs k r]
theorem atL_some {k : Itm} {l : List Itm} : (atL k l).isSome = true ↔ ∃ v, (k, v) ∈ pairsOf l := by
  rw [atL_pairs]
  simp only [Option.isSome_map, List.find?_isSome]
  constructor
  · rintro ⟨⟨a, b⟩, h1, h2⟩
    rw [sameB_iff] at h2
    exact ⟨b, h2 ▸ h1⟩
  · rintro ⟨v, h⟩
    exact ⟨_, h, (sameB_iff _ _).2 rfl⟩

def labelP (x : Itm) : Bool := x.kind == 3 || numberP x
/-- May a label have a value? m: the map's elements. -/
def valueP (k v : Itm) (m : List Itm) : Bool :=
  if sameB k (intP 1) = true then ((v.kind == 0 && decide (0 < v.n)) || v.kind == 1) && decide (v.n ≤ 65535)
  else if sameB k (intP 2) = true then v.kind == 4 && decide (0 < v.items.length) && v.items.all fun x => (atL x m).isSome
  else if (sameB k (intP 4) || sameB k (intP 5) || sameB k (intP 6) || sameB k (intP 12)) = true then v.kind == 2 else true
def pairsOkR (m : List Itm) : List Itm → Bool
  | a :: b :: r => labelP a && valueP a b m && pairsOkR m r
  | _ => true
def keysR (p : List Itm) : List Itm → Bool
  | a :: _ :: r => !((atL a p).isSome || sameB a (intP 2)) && keysR p r
  | _ => true
def findR (p u : Itm) (n : Int) : Option Itm := match atL (intP n) p.items with
  | some x => some x
  | none => atL (intP n) u.items
/-- The references' validity of headers. -/
def validHR (p u : Itm) : Bool :=
  p.kind == 5 && u.kind == 5 && validP p && validP u && pairsOkR p.items p.items && pairsOkR u.items u.items && keysR p.items u.items && (!(findR p u 5).isSome || !(findR p u 6).isSome)
theorem pairsOkR_pairs (m : List Itm) : ∀ l : List Itm, pairsOkR m l = (pairsOf l).all fun p => labelP p.1 && valueP p.1 p.2 m
  | [] => rfl
  | [_] => rfl
  | a :: b :: r => by rw [pairsOkR, pairsOf, List.all_cons, pairsOkR_pairs m r]
theorem keysR_pairs (p : List Itm) : ∀ l : List Itm, keysR p l = (pairsOf l).all fun q => !((atL q.1 p).isSome || sameB q.1 (intP 2))
  | [] => rfl
  | [_] => rfl
  | a :: b :: r => by rw [keysR, pairsOf, List.all_cons, keysR_pairs p r]

theorem intP_nat (n : Nat) : intP (n : Int) = .mk 0 n [] [] := by
  rw [intP, if_neg (by omega)]; simp
theorem labelP_int (n : Nat) (h : n ≤ 65535) : labelP (intP (n : Int)) = true := by
  rw [intP_nat]; simp [labelP, numberP, Itm.kind, Itm.n, h]
theorem good_int (n : Nat) (lv : Nat) : Good (intP (n : Int)) lv := by
  rw [intP_nat, Good, GoodL]
  exact ⟨rfl, trivial, fun h => by omega⟩
theorem validP_int (n : Nat) : validP (intP (n : Int)) = true := by
  rw [validP_iff]
  refine ⟨good_int n 0, ?_, ?_⟩
  · rw [intP_nat, cnt, cntL]; omega
  · rw [intP_nat, encB_eq]
    have := (headB_le (0 : Int).toNat (numP (.mk 0 n [] []))).2
    simp [Itm.kind, Itm.bytes, Itm.items, encL] at *
    omega

/-- The first byte of an encoding. -/
def topB (x : Itm) : Nat := if x.kind = 8 then 7 else x.kind.toNat
theorem headB_cons (m n : Nat) : ∃ a t, headB m n = u8 (m * 32 + a) :: t ∧ a < 28 := by
  unfold headB
  repeat' split
  all_goals exact ⟨_, _, rfl, by omega⟩
theorem floatB_cons (n : Nat) : ∃ a t, floatB n = u8 (7 * 32 + a) :: t ∧ 25 ≤ a ∧ a < 28 := by
  unfold floatB
  repeat' split
  · exact ⟨25, _, rfl, by omega⟩
  · exact ⟨25, _, rfl, by omega⟩
  · exact ⟨26, _, rfl, by omega⟩
  · exact ⟨27, _, rfl, by omega⟩
theorem encB_cons (x : Itm) (h : 0 ≤ x.kind ∧ x.kind ≤ 8) : ∃ a t, encB x = u8 (topB x * 32 + a) :: t ∧ a < 28 := by
  rw [encB_eq, topB]
  by_cases h8 : x.kind = 8
  · obtain ⟨a, t, e, h1, h2⟩ := floatB_cons x.n
    rw [if_pos h8, if_pos h8]
    exact ⟨a, t, e, h2⟩
  rw [if_neg h8, if_neg h8]
  by_cases h7 : x.kind = 7 ∧ 24 ≤ x.n
  · rw [if_pos h7, h7.1]
    exact ⟨24, [u8 x.n], rfl, by omega⟩
  · rw [if_neg h7]
    obtain ⟨a, t, e, h2⟩ := headB_cons x.kind.toNat (numP x)
    rw [e]
    exact ⟨a, _, by rw [List.cons_append, List.cons_append], h2⟩
theorem top_eq {x y : Itm} (hx : 0 ≤ x.kind ∧ x.kind ≤ 8) (hy : 0 ≤ y.kind ∧ y.kind ≤ 8) {r s : List UInt8} (h : encB x ++ r = encB y ++ s) : topB x = topB y := by
  obtain ⟨a, t, e, ha⟩ := encB_cons x hx
  obtain ⟨b, v, f, hb⟩ := encB_cons y hy
  rw [e, f, List.cons_append, List.cons_append] at h
  injection h with h _
  have h' := congrArg UInt8.toNat h
  rw [u8_toNat, u8_toNat] at h'
  have h1 : topB x ≤ 7 := by unfold topB; split <;> omega
  have h2 : topB y ≤ 7 := by unfold topB; split <;> omega
  omega

theorem two_cons {a b c d : UInt8} {r s : List UInt8} (h : a :: b :: r = c :: d :: s) : a = c ∧ b = d ∧ r = s := by
  injection h with h1 h
  injection h with h2 h
  exact ⟨h1, h2, h⟩
theorem u8_eq {a b : Nat} (h : u8 a = u8 b) : a % 256 = b % 256 := by
  have := congrArg UInt8.toNat h
  rwa [u8_toNat, u8_toNat] at this
def headX (n : Nat) : Nat := if n < 24 then n else if n < 256 then 24 else if n < 65536 then 25 else if n < 4294967296 then 26 else 27
def headY (n : Nat) : List UInt8 := if n < 24 then [] else if n < 256 then [u8 n] else if n < 65536 then [u8 (n / 256), u8 n] else if n < 4294967296 then [u8 (n / 16777216), u8 (n / 65536), u8 (n / 256), u8 n] else be8 n 8
theorem headB_XY (m n : Nat) : headB m n = u8 (m * 32 + headX n) :: headY n := by
  unfold headB headX headY
  repeat' split
  all_goals rfl
theorem headX_lt (n : Nat) : headX n < 28 := by
  unfold headX
  repeat' split
  all_goals omega
theorem headY_len (n : Nat) : (headY n).length = if headX n < 24 then 0 else if headX n = 24 then 1 else if headX n = 25 then 2 else if headX n = 26 then 4 else 8 := by
  unfold headX headY
  by_cases h1 : n < 24
  · simp [h1]
  by_cases h2 : n < 256
  · simp [h1, h2]
  by_cases h3 : n < 65536
  · simp [h1, h2, h3]
  by_cases h4 : n < 4294967296
  · simp [h1, h2, h3, h4]
  · simp [h1, h2, h3, h4, be8_length]
theorem be8_eq {n m : Nat} (hn : n < 18446744073709551616) (hm : m < 18446744073709551616) (h : be8 n 8 = be8 m 8) : n = m := by
  simp only [be8, List.nil_append, List.cons_append, List.cons.injEq] at h
  obtain ⟨h0, h1, h2, h3, h4, h5, h6, h7, _⟩ := h
  have h0 := u8_eq h0
  have h1 := u8_eq h1
  have h2 := u8_eq h2
  have h3 := u8_eq h3
  have h4 := u8_eq h4
  have h5 := u8_eq h5
  have h6 := u8_eq h6
  have h7 := u8_eq h7
  simp only [Nat.reduceMul, Nat.reduceSub, Nat.reducePow, Nat.sub_zero, Nat.mul_zero] at *
  have g0 : n / 72057594037927936 = m / 72057594037927936 := by omega
  have g1 : n / 281474976710656 = m / 281474976710656 := by omega
  have g2 : n / 1099511627776 = m / 1099511627776 := by omega
  have g3 : n / 4294967296 = m / 4294967296 := by omega
  have g4 : n / 16777216 = m / 16777216 := by omega
  have g5 : n / 65536 = m / 65536 := by omega
  have g6 : n / 256 = m / 256 := by omega
  omega
theorem headY_eq {n m : Nat} (hn : n < 18446744073709551616) (hm : m < 18446744073709551616) (hx : headX n = headX m) (h : headY n = headY m) : n = m := by
  unfold headX at hx
  unfold headY at h
  by_cases a1 : n < 24
  · simp only [a1, if_true] at hx
    repeat' split at hx
    all_goals omega
  by_cases a2 : n < 256
  · have b1 : ¬ m < 24 := by intro k; simp only [a1, a2, k, if_true, if_false] at hx; omega
    have b2 : m < 256 := by
      simp only [a1, a2, b1, if_true, if_false] at hx
      repeat' split at hx
      all_goals omega
    simp only [a1, a2, b1, b2, if_true, if_false, List.cons.injEq, and_true] at h
    have := u8_eq h
    omega
  by_cases a3 : n < 65536
  · have b1 : ¬ m < 24 := by intro k; simp only [a1, a2, a3, k, if_true, if_false] at hx; omega
    have b2 : ¬ m < 256 := by intro k; simp only [a1, a2, a3, b1, k, if_true, if_false] at hx; omega
    have b3 : m < 65536 := by
      simp only [a1, a2, a3, b1, b2, if_true, if_false] at hx
      repeat' split at hx
      all_goals omega
    simp only [a1, a2, a3, b1, b2, b3, if_true, if_false, List.cons.injEq, and_true] at h
    have h1 := u8_eq h.1
    have h2 := u8_eq h.2
    omega
  by_cases a4 : n < 4294967296
  · have b1 : ¬ m < 24 := by intro k; simp only [a1, a2, a3, a4, k, if_true, if_false] at hx; omega
    have b2 : ¬ m < 256 := by intro k; simp only [a1, a2, a3, a4, b1, k, if_true, if_false] at hx; omega
    have b3 : ¬ m < 65536 := by intro k; simp only [a1, a2, a3, a4, b1, b2, k, if_true, if_false] at hx; omega
    have b4 : m < 4294967296 := by
      simp only [a1, a2, a3, a4, b1, b2, b3, if_true, if_false] at hx
      repeat' split at hx
      all_goals omega
    simp only [a1, a2, a3, a4, b1, b2, b3, b4, if_true, if_false, List.cons.injEq, and_true] at h
    obtain ⟨h0, h1, h2, h3⟩ := h
    have h0 := u8_eq h0
    have h1 := u8_eq h1
    have h2 := u8_eq h2
    have h3 := u8_eq h3
    have g0 : n / 16777216 = m / 16777216 := by omega
    have g1 : n / 65536 = m / 65536 := by omega
    have g2 : n / 256 = m / 256 := by omega
    omega
  · have b1 : ¬ m < 24 := by intro k; simp only [a1, a2, a3, a4, k, if_true, if_false] at hx; omega
    have b2 : ¬ m < 256 := by intro k; simp only [a1, a2, a3, a4, b1, k, if_true, if_false] at hx; omega
    have b3 : ¬ m < 65536 := by intro k; simp only [a1, a2, a3, a4, b1, b2, k, if_true, if_false] at hx; omega
    have b4 : ¬ m < 4294967296 := by intro k; simp only [a1, a2, a3, a4, b1, b2, b3, k, if_true, if_false] at hx; omega
    simp only [a1, a2, a3, a4, b1, b2, b3, b4, if_false] at h
    exact be8_eq hn hm h
/-- Heads are prefix-free. -/
theorem headB_inj {a b n m : Nat} (ha : a < 8) (hb : b < 8) (hn : n < 18446744073709551616) (hm : m < 18446744073709551616) {r s : List UInt8} (h : headB a n ++ r = headB b m ++ s) : a = b ∧ n = m ∧ r = s := by
  rw [headB_XY, headB_XY, List.cons_append, List.cons_append] at h
  injection h with h1 h2
  have h1 := u8_eq h1
  have x1 := headX_lt n
  have x2 := headX_lt m
  have hx : headX n = headX m := by omega
  have hl : (headY n).length = (headY m).length := by rw [headY_len, headY_len, hx]
  obtain ⟨h3, h4⟩ := List.append_inj h2 hl
  exact ⟨by omega, headY_eq hn hm hx h3, h4⟩
/-- The number's bound. -/
def Num (x : Itm) : Prop := x.n < 18446744073709551616 ∧ x.bytes.length < 18446744073709551616
/-- A label that has the encoding of an item is that item. -/
theorem label_enc {x y : Itm} {lv lv' : Nat} (hx : Good x lv) (hy : Good y lv') (hl : labelP x = true) (nx : Num x) (ny : Num y) (h : encB x = encB y) : x = y := by
  have hkx := nodeOk_kind hx.node
  have hky := nodeOk_kind hy.node
  have ht := top_eq hkx hky (r := []) (s := []) (by simpa using h)
  have hk : x.kind = 0 ∨ x.kind = 1 ∨ x.kind = 3 := by
    simp only [labelP, numberP, Bool.or_eq_true, Bool.and_eq_true, beq_iff_eq, decide_eq_true_eq] at hl
    omega
  have hkk : y.kind = x.kind := by
    unfold topB at ht
    repeat' split at ht
    all_goals omega
  have hpx := (isPlain_iff x).2 (by omega)
  have hpy := (isPlain_iff y).2 (by omega)
  have ox : okPlain x = true := by rcases nodeOk_cases hx.node with ⟨_, h⟩ | ⟨h, _⟩; exact h; rw [hpx] at h; cases h
  have oy : okPlain y = true := by rcases nodeOk_cases hy.node with ⟨_, h⟩ | ⟨h, _⟩; exact h; rw [hpy] at h; cases h
  rw [encB_eq x, encB_eq y, if_neg (by omega), if_neg (by omega), if_neg (by omega), if_neg (by omega), hkk, List.append_assoc, List.append_assoc] at h
  have hn1 : numP x < 18446744073709551616 := by
    unfold numP
    rcases hk with h | h | h <;> simp [h] <;> first | exact nx.1 | exact nx.2
  have hn2 : numP y < 18446744073709551616 := by
    unfold numP
    rcases hk with h | h | h <;> simp [hkk, h] <;> first | exact ny.1 | exact ny.2
  obtain ⟨_, hn, hr⟩ := headB_inj (by omega) (by omega) hn1 hn2 h
  cases x with
  | mk k n bs l =>
    cases y with
    | mk k' n' bs' l' =>
      simp only [Itm.kind, Itm.bytes, Itm.items, numP, Itm.n] at *
      subst hkk
      rcases hk with hk | hk | hk
      · subst hk
        simp [okPlain, Itm.kind, Itm.bytes, Itm.items] at ox oy hn
        simp [ox, oy, hn]
      · subst hk
        simp [okPlain, Itm.kind, Itm.bytes, Itm.items] at ox oy hn
        simp [ox, oy, hn]
      · subst hk
        simp [okPlain, Itm.kind, Itm.bytes, Itm.items, Itm.n] at ox oy
        rw [ox.1.2, oy.1.2, encL] at hr
        simp at hr
        simp [ox, oy, hr]
end Go.Proofs.YtdbhgngikglmcaaDoor
namespace Go.Proofs.YtdbhgngikglmcaaDoor
open Go.RowKit

mutual
/-- The numbers are those of 64 bits. -/
def Nums : Itm → Prop
  | .mk _ n _ l => n < 18446744073709551616 ∧ NumsL l
def NumsL : List Itm → Prop
  | [] => True
  | x :: l => Nums x ∧ NumsL l
end
theorem Nums.n_ {x : Itm} (h : Nums x) : x.n < 18446744073709551616 := by cases x; rw [Nums] at h; exact h.1
theorem Nums.items {x : Itm} (h : Nums x) : NumsL x.items := by cases x; rw [Nums] at h; exact h.2
theorem NumsL.get : ∀ {l : List Itm}, NumsL l → ∀ x ∈ l, Nums x
  | [], _, x, hx => by cases hx
  | y :: l, h, x, hx => by
    rw [NumsL] at h
    rcases List.mem_cons.1 hx with rfl | hx
    · exact h.1
    · exact h.2.get x hx
theorem NumsL.of : ∀ {l : List Itm}, (∀ x ∈ l, Nums x) → NumsL l
  | [], _ => by rw [NumsL]; trivial
  | y :: l, h => by
    rw [NumsL]
    exact ⟨h y (by simp), NumsL.of fun x hx => h x (by simp [hx])⟩
mutual
theorem IsItem.nums {H : Snap} : ∀ {x : Itm} {ba : Option Addr} {bc : Nat} {ia : Option Addr} {ic : Nat}, IsItem H ba bc ia ic x → Nums x
  | .mk k n bs l, ba, bc, ia, ic, h => by
    rw [IsItem] at h
    rw [Nums]
    refine ⟨h.1.2.2.1, ?_⟩
    by_cases h0 : 0 < l.length
    · obtain ⟨b, off, _, he⟩ := h.2.2 h0
      exact IsElems.nums he
    · have : l = [] := List.eq_nil_of_length_eq_zero (by omega)
      subst this
      rw [NumsL]; trivial
theorem IsElems.nums {H : Snap} : ∀ {l : List Itm} {b off : Nat}, IsElems H b off l → NumsL l
  | [], _, _, _ => by rw [NumsL]; trivial
  | x :: l, b, off, h => by
    rw [IsElems] at h
    obtain ⟨⟨ba, bc, ia, ic, _, _, _, _, hx⟩, hr⟩ := h
    rw [NumsL]
    exact ⟨IsItem.nums hx, IsElems.nums hr⟩
end
theorem cntL_mem : ∀ {l : List Itm} {x : Itm}, x ∈ l → cnt x ≤ cntL l
  | [], x, h => by cases h
  | y :: l, x, h => by
    rw [cntL]
    rcases List.mem_cons.1 h with rfl | h
    · omega
    · have := cntL_mem h; omega
theorem encL_mem : ∀ {l : List Itm} {x : Itm}, x ∈ l → (encB x).length ≤ (encL l).length
  | [], x, h => by cases h
  | y :: l, x, h => by
    rw [encL, List.length_append]
    rcases List.mem_cons.1 h with rfl | h
    · omega
    · have := encL_mem h; omega
/-- An element of a valid item is valid. -/
theorem validP_elem {m x : Itm} (h : validP m = true) (hx : x ∈ m.items) : validP x = true := by
  rw [validP_iff] at h ⊢
  obtain ⟨h1, h2, h3⟩ := h
  refine ⟨(h1.items.get x hx).le (by omega), ?_, ?_⟩
  · have := cntL_mem hx; have := cnt_eq m; omega
  · have := encL_mem hx; have := node_enc h1.node; omega
theorem validP_num {x : Itm} (h : validP x = true) (hn : Nums x) : Num x := by
  rw [validP_iff] at h
  have h1 := node_enc h.1.node
  have h2 := spend_bytes h.1.node
  exact ⟨hn.n_, by omega⟩

theorem asc_lt : ∀ (l : List Itm) (a b : Itm), ascP (a :: b :: l) = true → ∀ q ∈ pairsOf l, Lib.compareBytes (encB a) (encB q.1) < 0
  | [], a, b, _, q, hq => by rw [pairsOf] at hq; cases hq; intro _ _ _ h; cases h
  | [_], a, b, _, q, hq => by rw [pairsOf] at hq; cases hq; intro _ _ _ h; cases h
  | c :: d :: r, a, b, h, q, hq => by
    rw [ascP, Bool.and_eq_true, decide_eq_true_eq] at h
    rw [pairsOf] at hq
    rcases List.mem_cons.1 hq with rfl | hq
    · exact h.1
    · exact cmp_trans _ _ _ h.1 (asc_lt r c d h.2 q hq)
theorem ascP_tail {a b : Itm} {l : List Itm} (h : ascP (a :: b :: l) = true) : ascP l = true := by
  match l with
  | [] => rfl
  | c :: r => rw [ascP, Bool.and_eq_true] at h; exact h.2
theorem asc_uniq : ∀ (l : List Itm), ascP l = true → ∀ k v v', (k, v) ∈ pairsOf l → (k, v') ∈ pairsOf l → v = v'
  | [], _, k, v, v', h, _ => by rw [pairsOf] at h; cases h; intro _ _ _ h; cases h
  | [_], _, k, v, v', h, _ => by rw [pairsOf] at h; cases h; intro _ _ _ h; cases h
  | a :: b :: r, ha, k, v, v', h, h' => by
    rw [pairsOf] at h h'
    have hlt := asc_lt r a b ha
    rcases List.mem_cons.1 h with e | m
    · injection e with h1 h2
      rcases List.mem_cons.1 h' with e' | m'
      · injection e' with _ h3
        rw [h2, h3]
      · have hz := hlt _ m'
        simp only at hz
        rw [← h1, cmp_refl] at hz
        omega
    · rcases List.mem_cons.1 h' with e' | m'
      · injection e' with h1 h2
        have hz := hlt _ m
        simp only at hz
        rw [← h1, cmp_refl] at hz
        omega
      · exact asc_uniq r (ascP_tail ha) k v v' m m'

theorem find_congr {α : Type} {p q : α → Bool} : ∀ {l : List α}, (∀ x ∈ l, p x = q x) → l.find? p = l.find? q
  | [], _ => rfl
  | a :: l, h => by
    rw [List.find?_cons, List.find?_cons, h a (by simp), find_congr fun x hx => h x (by simp [hx])]
/-- The program's look into a map is the references'. -/
theorem findP_at {m x : Itm} (h5 : m.kind = 5) (hm : validP m = true) (hn : Nums m) (hl : ∀ q ∈ pairsOf m.items, labelP q.1 = true) (hx : validP x = true) (nx : Nums x) : findP m x = atL x m.items := by
  rw [findP, if_pos ⟨h5, hm, hx⟩, findL_pairs, atL_pairs, find_congr]
  intro q hq
  have hv := validP_elem hm (pairsOf_mem hq).1
  have hg := ((validP_iff _).1 hv).1
  rw [Bool.eq_iff_iff, decide_eq_true_eq, sameB_iff]
  constructor
  · intro h
    exact label_enc hg ((validP_iff _).1 hx).1 (hl q hq) (validP_num hv (hn.items.get _ (pairsOf_mem hq).1)) (validP_num hx nx) h
  · intro h; rw [h]

def critOk (v : Itm) (m : List Itm) : Bool := v.kind == 4 && decide (0 < v.items.length) && v.items.all fun x => (atL x m).isSome
theorem perm_label {a b : Itm} (h : permP a b = true) : labelP a = true := by
  unfold permP at h
  unfold labelP
  by_cases h3 : a.kind = 3
  · simp [h3]
  · rw [if_neg h3] at h
    cases hn : numberP a with
    | true => simp
    | false => rw [hn] at h; simp at h
theorem same_int {a : Itm} (j : Nat) (h : a.kind ≠ 0) : sameB a (intP (j : Int)) = false := by
  cases hs : sameB a (intP (j : Int)) with
  | false => rfl
  | true =>
    rw [sameB_iff] at hs
    rw [hs, intP_nat] at h
    exact absurd rfl h
theorem perm_value {a b : Itm} {m : List Itm} {lv : Nat} (hg : Good a lv) (hl : labelP a = true) : valueP a b m = true ↔ permP a b = true ∧ (a = intP 2 → critOk b m = true) := by
  have j1 : (1 : Int) = ((1 : Nat) : Int) := rfl
  have j2 : (2 : Int) = ((2 : Nat) : Int) := rfl
  have j4 : (4 : Int) = ((4 : Nat) : Int) := rfl
  have j5 : (5 : Int) = ((5 : Nat) : Int) := rfl
  have j6 : (6 : Int) = ((6 : Nat) : Int) := rfl
  have j12 : (12 : Int) = ((12 : Nat) : Int) := rfl
  by_cases h0 : a.kind = 0
  · have hp := (isPlain_iff a).2 (by omega)
    have ho : okPlain a = true := by rcases nodeOk_cases hg.node with ⟨_, h⟩ | ⟨h, _⟩; exact h; rw [hp] at h; cases h
    obtain ⟨k, n, bs, l⟩ := a
    simp only [Itm.kind] at h0
    subst h0
    simp [okPlain, Itm.kind, Itm.bytes, Itm.items] at ho
    obtain ⟨rfl, rfl⟩ := ho
    have hn : n ≤ 65535 := by
      by_cases hn : n ≤ 65535
      · exact hn
      · exfalso; simp [labelP, numberP, Itm.kind, Itm.n, hn] at hl
    have hs : ∀ j : Nat, sameB (.mk 0 n [] []) (intP (j : Int)) = decide (n = j) := by
      intro j
      rw [Bool.eq_iff_iff, sameB_iff, intP_nat, decide_eq_true_eq]
      simp
    have he : (Itm.mk 0 n [] [] = intP 2) ↔ n = 2 := by
      rw [j2, intP_nat]; simp
    unfold valueP permP
    rw [j1, j2, j4, j5, j6, j12, hs, hs, hs, hs, hs, hs, ← j2, he]
    obtain ⟨bk, bn, bb, bi⟩ := b
    simp only [Itm.kind, Itm.n, Itm.items, numberP, decide_eq_true_eq, critOk]
    by_cases n1 : n = 1
    · subst n1
      by_cases b0 : bk = 0
      · subst b0
        by_cases b1 : bn = 0
        · simp [b1]
        · have : 0 < bn := by omega
          simp [b1, this]
      · by_cases b1 : bk = 1 <;> simp [b0, b1]
    by_cases n2 : n = 2
    · subst n2
      simp
    · simp [n1, n2, hn]
      by_cases n4 : n = 4
      · subst n4; simp
      by_cases n5 : n = 5
      · subst n5; simp
      by_cases n6 : n = 6
      · subst n6; simp
      by_cases n12 : n = 12
      · subst n12; simp
      · simp [n4, n5, n6, n12]
  · have hne : a ≠ intP 2 := by
      intro h
      rw [h, j2, intP_nat] at h0
      exact h0 rfl
    have hv : valueP a b m = true := by
      unfold valueP
      rw [j1, j2, j4, j5, j6, j12, same_int 1 h0, same_int 2 h0, same_int 4 h0, same_int 5 h0, same_int 6 h0, same_int 12 h0]
      simp
    have hp : permP a b = true := by
      unfold permP
      by_cases h3 : a.kind = 3
      · rw [if_pos h3]
      · have hn : numberP a = true := by simpa [labelP, h3] using hl
        have h1 : a.kind = 1 := by
          simp only [numberP, Bool.and_eq_true, Bool.or_eq_true, beq_iff_eq] at hn
          omega
        rw [if_neg h3, if_neg (by simp [hn]), if_pos h1]
    rw [hv, hp]
    simp [hne]

theorem validHR_eq {p u : Itm} (np : Nums p) (nu : Nums u) : validHR p u = validH p u := by
  rw [Bool.eq_iff_iff]
  have E2 : intP 2 = intP ((2 : Nat) : Int) := rfl
  have N2 : ∀ j : Nat, j < 100 → Nums (intP (j : Int)) := fun j hj => by rw [intP_nat, Nums, NumsL]; exact ⟨by omega, trivial⟩
  -- either way the maps are valid and their keys are labels
  have core : ∀ (hp5 : p.kind = 5) (hu5 : u.kind = 5) (vp : validP p = true) (vu : validP u = true) (lp : ∀ q ∈ pairsOf p.items, labelP q.1 = true) (lu : ∀ q ∈ pairsOf u.items, labelP q.1 = true),
      (validHR p u = true ↔ validH p u = true) := by
    intro hp5 hu5 vp vu lp lu
    have fp : ∀ x, validP x = true → Nums x → findP p x = atL x p.items := fun x hx nx => findP_at hp5 vp np lp hx nx
    have fu : ∀ x, validP x = true → Nums x → findP u x = atL x u.items := fun x hx nx => findP_at hu5 vu nu lu hx nx
    have F : ∀ j : Nat, j < 100 → findH p u (j : Int) = findR p u (j : Int) := by
      intro j hj
      rw [findH, findR, fp _ (validP_int j) (N2 j hj), fu _ (validP_int j) (N2 j hj)]
      all_goals (cases atL (intP (j : Int)) p.items <;> rfl)
    have F5 := F 5 (by omega)
    have F6 := F 6 (by omega)
    simp only [Int.cast_ofNat_Int] at F5 F6
    have gp : ∀ q ∈ pairsOf p.items, Good q.1 1 := fun q hq => ((validP_iff _).1 vp).1.items.get _ (pairsOf_mem hq).1
    have gu : ∀ q ∈ pairsOf u.items, Good q.1 1 := fun q hq => ((validP_iff _).1 vu).1.items.get _ (pairsOf_mem hq).1
    have C : critP p = true ↔ ∀ q ∈ pairsOf p.items, q.1 = intP 2 → critOk q.2 p.items = true := by
      have hall : ∀ c : Itm, c ∈ p.items → (c.items.all fun x => (findP p x).isSome) = c.items.all fun x => (atL x p.items).isSome := by
        intro c hc
        rw [Bool.eq_iff_iff, List.all_eq_true, List.all_eq_true]
        constructor
        · intro h x hx
          rw [← fp x (validP_elem (validP_elem vp hc) hx) ((np.items.get c hc).items.get x hx)]
          exact h x hx
        · intro h x hx
          rw [fp x (validP_elem (validP_elem vp hc) hx) ((np.items.get c hc).items.get x hx)]
          exact h x hx
      have hf := fp (intP 2) (validP_int 2) (N2 2 (by omega))
      rw [critP, hf]
      cases hq : atL (intP 2) p.items with
      | none =>
        simp only [true_iff]
        intro q hq1 hq2
        have : (atL (intP 2) p.items).isSome = true := atL_some.2 ⟨q.2, by rw [← hq2]; exact hq1⟩
        rw [hq] at this
        cases this
      | some c =>
        simp only
        have hmem : (intP 2, c) ∈ pairsOf p.items := by
          rw [atL_pairs] at hq
          cases hx : (pairsOf p.items).find? (fun p => sameB p.1 (intP 2)) with
          | none => rw [hx] at hq; cases hq
          | some y =>
            rw [hx] at hq
            injection hq with hq
            have h1 := List.mem_of_find?_eq_some hx
            have h2 := List.find?_some hx
            rw [sameB_iff] at h2
            rw [← hq, ← h2]
            exact h1
        rw [hall c (pairsOf_mem hmem).2]
        constructor
        · intro h q hq1 hq2
          have : q.2 = c := asc_uniq _ (((validP_iff _).1 vp).1.asc hp5) (intP 2) _ _ (by rw [← hq2]; exact hq1) hmem
          rw [this, critOk]
          simp only [Bool.and_eq_true] at h ⊢
          exact ⟨⟨h.1.2, h.2⟩, h.1.1⟩
        · intro h
          have := h _ hmem rfl
          rw [critOk] at this
          simp only [Bool.and_eq_true] at this ⊢
          exact ⟨⟨this.2, this.1.1⟩, this.1.2⟩
    have kf : keysFree u p.items = true ↔ ∀ q ∈ pairsOf p.items, ∀ r ∈ pairsOf u.items, q.1 ≠ r.1 := by
      rw [keysFree_pairs, List.all_eq_true]
      constructor
      · intro h q hq r hr he
        have h1 := h q hq
        rw [fu q.1 (validP_elem vp (pairsOf_mem hq).1) (np.items.get _ (pairsOf_mem hq).1)] at h1
        have h2 : (atL q.1 u.items).isSome = true := atL_some.2 ⟨r.2, by rw [he]; exact hr⟩
        cases hz : atL q.1 u.items with
        | none => rw [hz] at h2; cases h2
        | some _ => rw [hz] at h1; cases h1
      · intro h q hq
        rw [fu q.1 (validP_elem vp (pairsOf_mem hq).1) (np.items.get _ (pairsOf_mem hq).1)]
        cases hz : atL q.1 u.items with
        | none => rfl
        | some v =>
          have h2 : (atL q.1 u.items).isSome = true := by rw [hz]; rfl
          obtain ⟨v', hv'⟩ := atL_some.1 h2
          exact absurd rfl (h q hq (q.1, v') hv')
    have kr : keysR p.items u.items = true ↔ (∀ q ∈ pairsOf p.items, ∀ r ∈ pairsOf u.items, q.1 ≠ r.1) ∧ (findP u (intP 2)).isSome = false := by
      rw [keysR_pairs, List.all_eq_true, fu (intP 2) (validP_int 2) (N2 2 (by omega))]
      constructor
      · intro h
        refine ⟨fun q hq r hr he => ?_, ?_⟩
        · have h1 := h r hr
          have h2 : (atL r.1 p.items).isSome = true := atL_some.2 ⟨q.2, by rw [← he]; exact hq⟩
          rw [h2] at h1
          simp at h1
        · cases hz : (atL (intP 2) u.items).isSome with
          | false => rfl
          | true =>
            obtain ⟨v, hv⟩ := atL_some.1 hz
            have h1 := h _ hv
            have : sameB (intP 2) (intP 2) = true := (sameB_iff _ _).2 rfl
            simp [this] at h1
      · rintro ⟨h1, h2⟩ r hr
        have a1 : (atL r.1 p.items).isSome = false := by
          cases hz : (atL r.1 p.items).isSome with
          | false => rfl
          | true =>
            obtain ⟨v, hv⟩ := atL_some.1 hz
            exact absurd rfl (h1 _ hv r hr)
        have a2 : sameB r.1 (intP 2) = false := by
          cases hz : sameB r.1 (intP 2) with
          | false => rfl
          | true =>
            rw [sameB_iff] at hz
            have : (atL (intP 2) u.items).isSome = true := atL_some.2 ⟨r.2, by rw [← hz]; exact hr⟩
            rw [h2] at this
            cases this
        rw [a1, a2]; rfl
    have pr : pairsOkR p.items p.items = true ↔ permL p.items = true ∧ critP p = true := by
      rw [C, pairsOkR_pairs, permL_pairs, List.all_eq_true, List.all_eq_true]
      constructor
      · intro h
        refine ⟨fun q hq => ?_, fun q hq => ?_⟩
        · have := h q hq
          rw [Bool.and_eq_true] at this
          exact ((perm_value (gp q hq) (lp q hq)).1 this.2).1
        · have := h q hq
          rw [Bool.and_eq_true] at this
          exact ((perm_value (gp q hq) (lp q hq)).1 this.2).2
      · rintro ⟨h1, h2⟩ q hq
        rw [Bool.and_eq_true]
        exact ⟨lp q hq, (perm_value (gp q hq) (lp q hq)).2 ⟨h1 q hq, h2 q hq⟩⟩
    have ur : (findP u (intP 2)).isSome = false → (pairsOkR u.items u.items = true ↔ permL u.items = true) := by
      intro h2
      rw [fu (intP 2) (validP_int 2) (N2 2 (by omega))] at h2
      rw [pairsOkR_pairs, permL_pairs, List.all_eq_true, List.all_eq_true]
      constructor
      · intro h q hq
        have := h q hq
        rw [Bool.and_eq_true] at this
        exact ((perm_value (gu q hq) (lu q hq)).1 this.2).1
      · intro h q hq
        rw [Bool.and_eq_true]
        refine ⟨lu q hq, (perm_value (gu q hq) (lu q hq)).2 ⟨h q hq, fun he => ?_⟩⟩
        have : (atL (intP 2) u.items).isSome = true := atL_some.2 ⟨q.2, by rw [← he]; exact hq⟩
        rw [h2] at this
        cases this
    unfold validHR validH okMap
    rw [F5, F6]
    simp only [Bool.and_eq_true, hp5, hu5, vp, vu, beq_self_eq_true, true_and, kf, kr, pr]
    cases h2 : (findP u (intP 2)).isSome with
    | true => simp
    | false =>
      have := ur h2
      rw [this]
      simp only [Bool.false_or, Bool.not_and, true_and, and_true]
      constructor
      · rintro ⟨⟨⟨⟨a, b⟩, c⟩, d⟩, e⟩
        exact ⟨⟨⟨⟨a, c⟩, d⟩, e⟩, b⟩
      · rintro ⟨⟨⟨⟨a, c⟩, d⟩, e⟩, b⟩
        exact ⟨⟨⟨⟨a, b⟩, c⟩, d⟩, e⟩
  constructor
  · intro h
    have h' := h
    simp only [validHR, Bool.and_eq_true, beq_iff_eq] at h'
    obtain ⟨⟨⟨⟨⟨⟨⟨h1, h2⟩, h3⟩, h4⟩, h5⟩, h6⟩, _⟩, _⟩ := h'
    rw [pairsOkR_pairs, List.all_eq_true] at h5 h6
    exact (core h1 h2 h3 h4 (fun q hq => by have := h5 q hq; rw [Bool.and_eq_true] at this; exact this.1) (fun q hq => by have := h6 q hq; rw [Bool.and_eq_true] at this; exact this.1)).1 h
  · intro h
    have h' := h
    simp only [validH, okMap, Bool.and_eq_true, beq_iff_eq] at h'
    obtain ⟨⟨⟨⟨⟨⟨h1, h3⟩, h5⟩, ⟨h2, h4⟩, h6⟩, _⟩, _⟩, _⟩ := h'
    rw [permL_pairs, List.all_eq_true] at h5 h6
    exact (core h1 h2 h3 h4 (fun q hq => perm_label (h5 q hq)) (fun q hq => perm_label (h6 q hq))).2 h
end Go.Proofs.YtdbhgngikglmcaaDoor
namespace Go.Proofs.YtdbhgngikglmcaaDoor
open Go.RowKit

/-- What bits a narrow number has, and which wide one it is. -/
def Nar15 (n v s x f : Nat) : Prop := s ≤ 1 ∧ v = s * 32768 + x * 1024 + f ∧ f < 1024 ∧ x ≤ 31 ∧
  ((x = 31 ∧ f = 0 ∧ n = s * 9223372036854775808 + 9218868437227405312) ∨ (x = 0 ∧ f = 0 ∧ n = s * 9223372036854775808) ∨
   (1 ≤ x ∧ x ≤ 30 ∧ n = s * 9223372036854775808 + (x + 1008) * 4503599627370496 + f * 4398046511104) ∨
   (x = 0 ∧ ∃ t full, t < 10 ∧ 2 ^ t ≤ f ∧ f < 2 ^ (t + 1) ∧ full = f * 2 ^ (52 - t) ∧ 4503599627370496 ≤ full ∧ n = s * 9223372036854775808 + (999 + t) * 4503599627370496 + (full - 4503599627370496)))
theorem nar15_mk (n v s x f : Nat) (h1 : s ≤ 1) (h2 : v = s * 32768 + x * 1024 + f) (h3 : f < 1024) (h4 : x ≤ 31)
    (h : (x = 31 ∧ f = 0 ∧ n = s * 9223372036854775808 + 9218868437227405312) ∨ (x = 0 ∧ f = 0 ∧ n = s * 9223372036854775808) ∨
   (1 ≤ x ∧ x ≤ 30 ∧ n = s * 9223372036854775808 + (x + 1008) * 4503599627370496 + f * 4398046511104) ∨
   (x = 0 ∧ ∃ t full, t < 10 ∧ 2 ^ t ≤ f ∧ f < 2 ^ (t + 1) ∧ full = f * 2 ^ (52 - t) ∧ 4503599627370496 ≤ full ∧ n = s * 9223372036854775808 + (999 + t) * 4503599627370496 + (full - 4503599627370496))) : ∃ s x f, Nar15 n v s x f :=
  ⟨s, x, f, h1, h2, h3, h4, h⟩
theorem narrow15_spec {n v : Nat} (hn : n < 18446744073709551616) (h : narrow n 5 10 = some v) : ∃ s x f, Nar15 n v s x f := by
  obtain ⟨ex, hex⟩ : ∃ ex, n / 4503599627370496 % 2048 = ex := ⟨_, rfl⟩
  obtain ⟨mx, hmx⟩ : ∃ mx, n % 4503599627370496 = mx := ⟨_, rfl⟩
  obtain ⟨sg, hsg⟩ : ∃ sg, n / 9223372036854775808 = sg := ⟨_, rfl⟩
  have hs1 : sg ≤ 1 := by omega
  have hnn : n = sg * 9223372036854775808 + ex * 4503599627370496 + mx := by omega
  have he1 : ex < 2048 := by omega
  have hm1 : mx < 4503599627370496 := by omega
  rw [narrow] at h
  simp only [Nat.reducePow, Nat.reduceSub, Nat.reduceAdd, Nat.reduceMul, hex, hmx, hsg] at h
  clear hex hmx hsg hn
  split at h
  · rename_i q1
    split at h
    · rename_i q2
      injection h with h
      subst q1 q2
      exact nar15_mk _ _ _ _ _ hs1 (by omega) (by omega) (by omega) (.inl (And.intro rfl (And.intro rfl (by omega))))
    · cases h
  rename_i c1
  split at h
  · rename_i q1
    split at h
    · rename_i q2
      injection h with h
      subst q1 q2
      exact nar15_mk _ _ _ 0 0 hs1 (by omega) (by omega) (by omega) (.inr (.inl (And.intro rfl (And.intro rfl (by rw [hnn, Nat.zero_mul]; simp only [Nat.add_zero])))))
    · cases h
  rename_i c2
  split at h
  · cases h
  rename_i c3
  split at h
  · rename_i c4
    split at h
    · rename_i c5
      injection h with h
      obtain ⟨x, hx⟩ : ∃ x, ex = x + 1008 := ⟨ex - 1008, by omega⟩
      obtain ⟨f, hf⟩ : ∃ f, mx = f * 4398046511104 := ⟨mx / 4398046511104, by omega⟩
      subst hx hf
      exact nar15_mk _ _ _ x f hs1 (by omega) (by omega) (by omega) (.inr (.inr (.inl (And.intro (by omega) (And.intro (by omega) hnn)))))
    · cases h
  rename_i c4
  split at h
  · cases h
  rename_i c5
  split at h
  · rename_i c6
    injection h with h
    obtain ⟨t, ht⟩ : ∃ t, ex = 999 + t := ⟨ex - 999, by omega⟩
    have hsh : 43 + (1023 - ex - 15) = 52 - t := by omega
    rw [hsh] at h c6
    obtain ⟨f, hf⟩ : ∃ f, (mx + 4503599627370496) / 2 ^ (52 - t) = f := ⟨_, rfl⟩
    have hfull : mx + 4503599627370496 = f * 2 ^ (52 - t) := by
      rw [← hf, Nat.div_mul_cancel (Nat.dvd_of_mod_eq_zero c6)]
    have hpos : 0 < 2 ^ (52 - t) := Nat.two_pow_pos _
    have e1 : 2 ^ t * 2 ^ (52 - t) = 4503599627370496 := by
      rw [← Nat.pow_add, show t + (52 - t) = 52 by omega]
    have e2 : 2 ^ (t + 1) * 2 ^ (52 - t) = 9007199254740992 := by
      rw [← Nat.pow_add, show t + 1 + (52 - t) = 53 by omega]
    have b1 : 2 ^ t ≤ f := by
      apply Nat.le_of_mul_le_mul_right _ hpos
      omega
    have b2 : f < 2 ^ (t + 1) := by
      apply Nat.lt_of_mul_lt_mul_right (a := 2 ^ (52 - t))
      omega
    have b3 : 2 ^ (t + 1) ≤ 2 ^ 10 := Nat.pow_le_pow_right (by omega) (by omega)
    simp only [Nat.reducePow] at b3
    rw [hf] at h
    have hn' : n = sg * 9223372036854775808 + (999 + t) * 4503599627370496 + (mx + 4503599627370496 - 4503599627370496) := by rw [hnn, ht, Nat.add_sub_cancel]
    exact nar15_mk _ _ _ 0 f hs1 (by omega) (by omega) (by omega) (.inr (.inr (.inr (And.intro rfl ⟨t, mx + 4503599627370496, by omega, b1, b2, hfull, by omega, hn'⟩))))
  · cases h
theorem pow_uniq15 {f t t' : Nat} (h1 : 2 ^ t ≤ f) (h2 : f < 2 ^ (t + 1)) (h3 : 2 ^ t' ≤ f) (h4 : f < 2 ^ (t' + 1)) : t = t' := by
  rcases Nat.lt_trichotomy t t' with h | h | h
  · have : 2 ^ (t + 1) ≤ 2 ^ t' := Nat.pow_le_pow_right (by omega) h
    omega
  · exact h
  · have : 2 ^ (t' + 1) ≤ 2 ^ t := Nat.pow_le_pow_right (by omega) h
    omega
theorem narrow15_inj {n n' v : Nat} (hn : n < 18446744073709551616) (hn' : n' < 18446744073709551616) (h : narrow n 5 10 = some v) (h' : narrow n' 5 10 = some v) : n = n' := by
  obtain ⟨s, x, f, a1, a2, a3, a4, a5⟩ := narrow15_spec hn h
  obtain ⟨s', x', f', b1, b2, b3, b4, b5⟩ := narrow15_spec hn' h'
  obtain rfl : s = s' := by omega
  obtain rfl : x = x' := by omega
  obtain rfl : f = f' := by omega
  rcases a5 with ⟨c1, c2, c3⟩ | ⟨c1, c2, c3⟩ | ⟨c1, c2, c3⟩ | ⟨c1, t, full, c2, c3, c4, c5, c6, c7⟩ <;> rcases b5 with ⟨d1, d2, d3⟩ | ⟨d1, d2, d3⟩ | ⟨d1, d2, d3⟩ | ⟨d1, t', full', d2, d3, d4, d5, d6, d7⟩
  all_goals try omega
  · obtain rfl := pow_uniq15 c3 c4 d3 d4
    rw [← c5] at d5
    omega
theorem narrow15_lt {n v : Nat} (hn : n < 18446744073709551616) (h : narrow n 5 10 = some v) : v < 65536 := by
  obtain ⟨s, x, f, a1, a2, a3, a4, a5⟩ := narrow15_spec hn h
  omega

/-- What bits a narrow number has, and which wide one it is. -/
def Nar31 (n v s x f : Nat) : Prop := s ≤ 1 ∧ v = s * 2147483648 + x * 8388608 + f ∧ f < 8388608 ∧ x ≤ 255 ∧
  ((x = 255 ∧ f = 0 ∧ n = s * 9223372036854775808 + 9218868437227405312) ∨ (x = 0 ∧ f = 0 ∧ n = s * 9223372036854775808) ∨
   (1 ≤ x ∧ x ≤ 254 ∧ n = s * 9223372036854775808 + (x + 896) * 4503599627370496 + f * 536870912) ∨
   (x = 0 ∧ ∃ t full, t < 23 ∧ 2 ^ t ≤ f ∧ f < 2 ^ (t + 1) ∧ full = f * 2 ^ (52 - t) ∧ 4503599627370496 ≤ full ∧ n = s * 9223372036854775808 + (874 + t) * 4503599627370496 + (full - 4503599627370496)))
theorem nar31_mk (n v s x f : Nat) (h1 : s ≤ 1) (h2 : v = s * 2147483648 + x * 8388608 + f) (h3 : f < 8388608) (h4 : x ≤ 255)
    (h : (x = 255 ∧ f = 0 ∧ n = s * 9223372036854775808 + 9218868437227405312) ∨ (x = 0 ∧ f = 0 ∧ n = s * 9223372036854775808) ∨
   (1 ≤ x ∧ x ≤ 254 ∧ n = s * 9223372036854775808 + (x + 896) * 4503599627370496 + f * 536870912) ∨
   (x = 0 ∧ ∃ t full, t < 23 ∧ 2 ^ t ≤ f ∧ f < 2 ^ (t + 1) ∧ full = f * 2 ^ (52 - t) ∧ 4503599627370496 ≤ full ∧ n = s * 9223372036854775808 + (874 + t) * 4503599627370496 + (full - 4503599627370496))) : ∃ s x f, Nar31 n v s x f :=
  ⟨s, x, f, h1, h2, h3, h4, h⟩
theorem narrow31_spec {n v : Nat} (hn : n < 18446744073709551616) (h : narrow n 8 23 = some v) : ∃ s x f, Nar31 n v s x f := by
  obtain ⟨ex, hex⟩ : ∃ ex, n / 4503599627370496 % 2048 = ex := ⟨_, rfl⟩
  obtain ⟨mx, hmx⟩ : ∃ mx, n % 4503599627370496 = mx := ⟨_, rfl⟩
  obtain ⟨sg, hsg⟩ : ∃ sg, n / 9223372036854775808 = sg := ⟨_, rfl⟩
  have hs1 : sg ≤ 1 := by omega
  have hnn : n = sg * 9223372036854775808 + ex * 4503599627370496 + mx := by omega
  have he1 : ex < 2048 := by omega
  have hm1 : mx < 4503599627370496 := by omega
  rw [narrow] at h
  simp only [Nat.reducePow, Nat.reduceSub, Nat.reduceAdd, Nat.reduceMul, hex, hmx, hsg] at h
  clear hex hmx hsg hn
  split at h
  · rename_i q1
    split at h
    · rename_i q2
      injection h with h
      subst q1 q2
      exact nar31_mk _ _ _ _ _ hs1 (by omega) (by omega) (by omega) (.inl (And.intro rfl (And.intro rfl (by omega))))
    · cases h
  rename_i c1
  split at h
  · rename_i q1
    split at h
    · rename_i q2
      injection h with h
      subst q1 q2
      exact nar31_mk _ _ _ 0 0 hs1 (by omega) (by omega) (by omega) (.inr (.inl (And.intro rfl (And.intro rfl (by rw [hnn, Nat.zero_mul]; simp only [Nat.add_zero])))))
    · cases h
  rename_i c2
  split at h
  · cases h
  rename_i c3
  split at h
  · rename_i c4
    split at h
    · rename_i c5
      injection h with h
      obtain ⟨x, hx⟩ : ∃ x, ex = x + 896 := ⟨ex - 896, by omega⟩
      obtain ⟨f, hf⟩ : ∃ f, mx = f * 536870912 := ⟨mx / 536870912, by omega⟩
      subst hx hf
      exact nar31_mk _ _ _ x f hs1 (by omega) (by omega) (by omega) (.inr (.inr (.inl (And.intro (by omega) (And.intro (by omega) hnn)))))
    · cases h
  rename_i c4
  split at h
  · cases h
  rename_i c5
  split at h
  · rename_i c6
    injection h with h
    obtain ⟨t, ht⟩ : ∃ t, ex = 874 + t := ⟨ex - 874, by omega⟩
    have hsh : 30 + (1023 - ex - 127) = 52 - t := by omega
    rw [hsh] at h c6
    obtain ⟨f, hf⟩ : ∃ f, (mx + 4503599627370496) / 2 ^ (52 - t) = f := ⟨_, rfl⟩
    have hfull : mx + 4503599627370496 = f * 2 ^ (52 - t) := by
      rw [← hf, Nat.div_mul_cancel (Nat.dvd_of_mod_eq_zero c6)]
    have hpos : 0 < 2 ^ (52 - t) := Nat.two_pow_pos _
    have e1 : 2 ^ t * 2 ^ (52 - t) = 4503599627370496 := by
      rw [← Nat.pow_add, show t + (52 - t) = 52 by omega]
    have e2 : 2 ^ (t + 1) * 2 ^ (52 - t) = 9007199254740992 := by
      rw [← Nat.pow_add, show t + 1 + (52 - t) = 53 by omega]
    have b1 : 2 ^ t ≤ f := by
      apply Nat.le_of_mul_le_mul_right _ hpos
      omega
    have b2 : f < 2 ^ (t + 1) := by
      apply Nat.lt_of_mul_lt_mul_right (a := 2 ^ (52 - t))
      omega
    have b3 : 2 ^ (t + 1) ≤ 2 ^ 23 := Nat.pow_le_pow_right (by omega) (by omega)
    simp only [Nat.reducePow] at b3
    rw [hf] at h
    have hn' : n = sg * 9223372036854775808 + (874 + t) * 4503599627370496 + (mx + 4503599627370496 - 4503599627370496) := by rw [hnn, ht, Nat.add_sub_cancel]
    exact nar31_mk _ _ _ 0 f hs1 (by omega) (by omega) (by omega) (.inr (.inr (.inr (And.intro rfl ⟨t, mx + 4503599627370496, by omega, b1, b2, hfull, by omega, hn'⟩))))
  · cases h
theorem pow_uniq31 {f t t' : Nat} (h1 : 2 ^ t ≤ f) (h2 : f < 2 ^ (t + 1)) (h3 : 2 ^ t' ≤ f) (h4 : f < 2 ^ (t' + 1)) : t = t' := by
  rcases Nat.lt_trichotomy t t' with h | h | h
  · have : 2 ^ (t + 1) ≤ 2 ^ t' := Nat.pow_le_pow_right (by omega) h
    omega
  · exact h
  · have : 2 ^ (t' + 1) ≤ 2 ^ t := Nat.pow_le_pow_right (by omega) h
    omega
theorem narrow31_inj {n n' v : Nat} (hn : n < 18446744073709551616) (hn' : n' < 18446744073709551616) (h : narrow n 8 23 = some v) (h' : narrow n' 8 23 = some v) : n = n' := by
  obtain ⟨s, x, f, a1, a2, a3, a4, a5⟩ := narrow31_spec hn h
  obtain ⟨s', x', f', b1, b2, b3, b4, b5⟩ := narrow31_spec hn' h'
  obtain rfl : s = s' := by omega
  obtain rfl : x = x' := by omega
  obtain rfl : f = f' := by omega
  rcases a5 with ⟨c1, c2, c3⟩ | ⟨c1, c2, c3⟩ | ⟨c1, c2, c3⟩ | ⟨c1, t, full, c2, c3, c4, c5, c6, c7⟩ <;> rcases b5 with ⟨d1, d2, d3⟩ | ⟨d1, d2, d3⟩ | ⟨d1, d2, d3⟩ | ⟨d1, t', full', d2, d3, d4, d5, d6, d7⟩
  all_goals try omega
  · obtain rfl := pow_uniq31 c3 c4 d3 d4
    rw [← c5] at d5
    omega
theorem narrow31_lt {n v : Nat} (hn : n < 18446744073709551616) (h : narrow n 8 23 = some v) : v < 4294967296 := by
  obtain ⟨s, x, f, a1, a2, a3, a4, a5⟩ := narrow31_spec hn h
  omega

theorem narrow15_nan {n : Nat} (hn : n < 18446744073709551616) : narrow n 5 10 ≠ some 32256 := by
  intro h
  obtain ⟨s, x, f, a1, a2, a3, a4, a5⟩ := narrow15_spec hn h
  rcases a5 with ⟨c1, c2, c3⟩ | ⟨c1, c2, c3⟩ | ⟨c1, c2, c3⟩ | ⟨c1, t, full, c2, c3, c4, c5, c6, c7⟩ <;> omega
/-- The numbers of floats are in their one form. -/
def FloatOk (n : Nat) : Prop := n < 18446744073709551616 ∧ (isNaN n = true → n = notNumber)
theorem floatB_inj {n m : Nat} (hn : FloatOk n) (hm : FloatOk m) {r s : List UInt8} (h : floatB n ++ r = floatB m ++ s) : n = m ∧ r = s := by
  have key : ∀ n, FloatOk n → (∃ v, floatB n = [u8 249, u8 (v / 256), u8 v] ∧ v < 65536 ∧ ((isNaN n = true ∧ v = 32256) ∨ (isNaN n = false ∧ narrow n 5 10 = some v))) ∨
      (∃ v, floatB n = [u8 250, u8 (v / 16777216), u8 (v / 65536), u8 (v / 256), u8 v] ∧ v < 4294967296 ∧ narrow n 8 23 = some v) ∨ floatB n = u8 251 :: be8 n 8 := by
    intro n hn
    unfold floatB
    by_cases h1 : isNaN n = true
    · rw [if_pos h1]
      exact .inl ⟨32256, rfl, by omega, .inl ⟨h1, rfl⟩⟩
    · rw [if_neg h1]
      cases h2 : narrow n 5 10 with
      | some v => exact .inl ⟨v, rfl, narrow15_lt hn.1 h2, .inr ⟨by simpa using h1, rfl⟩⟩
      | none =>
        cases h3 : narrow n 8 23 with
        | some v => exact .inr (.inl ⟨v, rfl, narrow31_lt hn.1 h3, rfl⟩)
        | none => exact .inr (.inr rfl)
  rcases key n hn with ⟨v, e, hv, hc⟩ | ⟨v, e, hv, hc⟩ | e <;> rcases key m hm with ⟨v', e', hv', hc'⟩ | ⟨v', e', hv', hc'⟩ | e' <;> rw [e, e'] at h <;> simp only [List.cons_append, List.nil_append] at h <;> injection h with h0 h
  any_goals (have := u8_eq h0; omega)
  · obtain ⟨h1, h2, h3⟩ := two_cons h
    have h1 := u8_eq h1
    have h2 := u8_eq h2
    obtain rfl : v = v' := by omega
    refine ⟨?_, h3⟩
    rcases hc with ⟨c1, c2⟩ | ⟨c1, c2⟩ <;> rcases hc' with ⟨d1, d2⟩ | ⟨d1, d2⟩
    · rw [hn.2 c1, hm.2 d1]
    · rw [c2] at d2; exact absurd d2 (narrow15_nan hm.1)
    · rw [d2] at c2; exact absurd c2 (narrow15_nan hn.1)
    · exact narrow15_inj hn.1 hm.1 c2 d2
  · obtain ⟨h1, h2, h3⟩ := two_cons h
    obtain ⟨h4, h5, h6⟩ := two_cons h3
    have h1 := u8_eq h1
    have h2 := u8_eq h2
    have h4 := u8_eq h4
    have h5 := u8_eq h5
    have g0 : v / 16777216 = v' / 16777216 := by omega
    have g1 : v / 65536 = v' / 65536 := by omega
    have g2 : v / 256 = v' / 256 := by omega
    obtain rfl : v = v' := by omega
    exact ⟨narrow31_inj hn.1 hm.1 hc hc', h6⟩
  · obtain ⟨h1, h2⟩ := List.append_inj h (by rw [be8_length, be8_length])
    exact ⟨be8_eq hn.1 hm.1 h1, h2⟩

theorem okPlain_float {x : Itm} (h8 : x.kind = 8) (h : okPlain x = true) (hn : Nums x) : FloatOk x.n := by
  refine ⟨hn.n_, fun hq => ?_⟩
  simp [okPlain, h8, hq] at h
  exact h.2
theorem head_plain {x : Itm} (h : 0 ≤ x.kind ∧ x.kind ≤ 8) (h8 : x.kind ≠ 8) (h7 : ¬ (x.kind = 7 ∧ 24 ≤ x.n)) (r : List UInt8) : encB x ++ r = headB x.kind.toNat (numP x) ++ (x.bytes ++ (encL x.items ++ r)) := by
  rw [encB_eq, if_neg h8, if_neg h7, List.append_assoc, List.append_assoc]
/-- What the laws ask of an item. -/
structure Fits (x : Itm) (lv : Nat) : Prop where
  good : Good x lv
  small : Small x
  nums : Nums x
  cnt : cnt x ≤ 256
theorem Fits.of {x : Itm} (h : validP x = true) (hn : Nums x) : Fits x 0 := by
  rw [validP_iff] at h
  exact ⟨h.1, h.1.small h.2.2, hn, h.2.1⟩
theorem SmallL.get : ∀ {l : List Itm}, SmallL l → ∀ x ∈ l, Small x
  | [], _, x, hx => by cases hx
  | y :: l, h, x, hx => by
    rw [SmallL] at h
    rcases List.mem_cons.1 hx with rfl | hx
    · exact h.1
    · exact h.2.get x hx
theorem Small.items {x : Itm} (h : Small x) : SmallL x.items := by cases x; rw [Small] at h; exact h.2
theorem Small.bytes {x : Itm} (h : Small x) : x.bytes.length ≤ 4096 := by cases x; rw [Small] at h; exact h.1
theorem Fits.elem {x y : Itm} {lv : Nat} (h : Fits x lv) (hy : y ∈ x.items) : Fits y (lv + 1) :=
  ⟨h.good.items.get y hy, h.small.items.get y hy, h.nums.items.get y hy, by have := cntL_mem hy; have := cnt_eq x; have := h.cnt; omega⟩
theorem Fits.numP {x : Itm} {lv : Nat} (h : Fits x lv) : numP x < 18446744073709551616 := by
  have h1 := h.small.bytes
  have h2 := cntL_len x.items
  have h3 := cnt_eq x
  have h4 := h.cnt
  have h5 := h.nums.n_
  unfold Proofs.YtdbhgngikglmcaaDoor.numP
  repeat' split
  all_goals omega
theorem frame_of {x : Itm} {lv : Nat} (h : Good x lv) (hk : 4 ≤ x.kind ∧ x.kind ≤ 6) : frameOk x lv = true := by
  rcases nodeOk_cases h.node with ⟨h1, _⟩ | ⟨_, h1⟩
  · rw [isPlain_iff] at h1; omega
  · exact h1
theorem plain_of {x : Itm} {lv : Nat} (h : Good x lv) (hk : x.kind = 0 ∨ x.kind = 1 ∨ x.kind = 2 ∨ x.kind = 3 ∨ x.kind = 7 ∨ x.kind = 8) : okPlain x = true := by
  rcases nodeOk_cases h.node with ⟨_, h1⟩ | ⟨h1, _⟩
  · exact h1
  · rw [(isPlain_iff x).2 hk] at h1; cases h1
theorem topB_of {x : Itm} (h : topB x = 7) : x.kind = 7 ∨ x.kind = 8 := by
  unfold topB at h
  by_cases h8 : x.kind = 8
  · exact .inr h8
  · rw [if_neg h8] at h; omega
theorem topB_8 {x : Itm} (h : x.kind = 8) : topB x = 7 := by rw [topB, if_pos h]
theorem topB_7 {x : Itm} (h : x.kind = 7) : topB x = 7 := by rw [topB, if_neg (by omega)]; omega
theorem topB_no {x : Itm} (h : x.kind ≠ 8) : topB x = x.kind.toNat := by rw [topB, if_neg h]
mutual
theorem encB_inj : ∀ (x y : Itm) (lv lv' : Nat) (r s : List UInt8), Fits x lv → Fits y lv' → encB x ++ r = encB y ++ s → x = y ∧ r = s
  | .mk k n bs l, y, lv, lv', r, s, hx, hy, h => by
    have hkx := nodeOk_kind hx.good.node
    have hky := nodeOk_kind hy.good.node
    have ht := top_eq hkx hky h
    have hnx := hx.numP
    have hny := hy.numP
    by_cases h7 : topB (.mk k n bs l) = 7
    · -- simple values and floats
      have ky : y.kind = 7 ∨ y.kind = 8 := by
        rw [h7] at ht
        exact topB_of ht.symm
      have kx : k = 7 ∨ k = 8 := by
        have h7 := topB_of h7
        simp only [Itm.kind] at h7 hkx
        omega
      have ox := plain_of hx.good (by simp only [Itm.kind]; omega)
      have oy := plain_of hy.good (by omega)
      have F8 : ∀ z : Itm, z.kind = 8 → encB z = floatB z.n := fun z hz => by rw [encB_eq, if_pos hz]
      have F7 : ∀ z : Itm, z.kind = 7 → okPlain z = true → z.n < 256 ∧ z.bytes = [] ∧ z.items = [] ∧ ((24 ≤ z.n ∧ encB z = [u8 248, u8 z.n]) ∨ (z.n < 24 ∧ encB z = [u8 (224 + z.n)])) := by
        intro z hz ho
        have hi := okPlain_items ((isPlain_iff z).2 (by omega)) ho
        have hb := hi.2 (by omega)
        have hn : z.n < 256 := by simp [okPlain, hz] at ho; omega
        refine ⟨hn, hb, hi.1, ?_⟩
        by_cases h24 : 24 ≤ z.n
        · exact .inl ⟨h24, by rw [encB_eq, if_neg (by omega), if_pos ⟨hz, h24⟩]⟩
        · refine .inr ⟨by omega, ?_⟩
          have hp : Proofs.YtdbhgngikglmcaaDoor.numP z = z.n := by simp [Proofs.YtdbhgngikglmcaaDoor.numP, hz]
          rw [encB_eq, if_neg (by omega), if_neg (by omega), hb, hi.1, encL, hp, headB, if_pos (by omega), hz]
          rfl
      have G8 : ∀ z : Itm, z.kind = 8 → okPlain z = true → z.bytes = [] ∧ z.items = [] := by
        intro z hz ho
        have hi := okPlain_items ((isPlain_iff z).2 (by omega)) ho
        exact ⟨hi.2 (by omega), hi.1⟩
      obtain ⟨k', n', bs', l'⟩ := y
      simp only [Itm.kind] at ky
      rcases kx with rfl | rfl <;> rcases ky with rfl | rfl
      · obtain ⟨a1, a2, a3, a4⟩ := F7 _ rfl ox
        obtain ⟨b1, b2, b3, b4⟩ := F7 _ rfl oy
        simp only [Itm.n, Itm.bytes, Itm.items] at *
        subst a2 a3 b2 b3
        rcases a4 with ⟨a4, a5⟩ | ⟨a4, a5⟩ <;> rcases b4 with ⟨b4, b5⟩ | ⟨b4, b5⟩ <;> rw [a5, b5] at h <;> simp only [List.cons_append, List.nil_append] at h
        · obtain ⟨_, h2, h3⟩ := two_cons h
          have := u8_eq h2
          exact ⟨by congr 1; omega, h3⟩
        · injection h with h1 _
          have := u8_eq h1
          omega
        · injection h with h1 _
          have := u8_eq h1
          omega
        · injection h with h1 h2
          have := u8_eq h1
          exact ⟨by congr 1; omega, h2⟩
      · obtain ⟨_, _, _, a4⟩ := F7 _ rfl ox
        rw [F8 (.mk 8 n' bs' l') rfl] at h
        obtain ⟨c, t, e, c1, c2⟩ := floatB_cons n'
        simp only [Itm.n] at h a4
        rw [e] at h
        rcases a4 with ⟨a4, a5⟩ | ⟨a4, a5⟩ <;> rw [a5] at h <;> simp only [List.cons_append, List.nil_append] at h <;> injection h with h1 _ <;> have := u8_eq h1 <;> omega
      · obtain ⟨_, _, _, a4⟩ := F7 _ rfl oy
        rw [F8 (.mk 8 n bs l) rfl] at h
        obtain ⟨c, t, e, c1, c2⟩ := floatB_cons n
        simp only [Itm.n] at h a4
        rw [e] at h
        rcases a4 with ⟨a4, a5⟩ | ⟨a4, a5⟩ <;> rw [a5] at h <;> simp only [List.cons_append, List.nil_append] at h <;> injection h with h1 _ <;> have := u8_eq h1 <;> omega
      · rw [F8 (.mk 8 n bs l) rfl, F8 (.mk 8 n' bs' l') rfl] at h
        obtain ⟨a1, a2⟩ := G8 _ rfl ox
        obtain ⟨b1, b2⟩ := G8 _ rfl oy
        obtain ⟨h1, h2⟩ := floatB_inj (okPlain_float rfl ox hx.nums) (okPlain_float rfl oy hy.nums) h
        simp only [Itm.n, Itm.bytes, Itm.items] at *
        subst a1 a2 b1 b2 h1 h2
        exact ⟨rfl, rfl⟩
    · have h7' : topB y ≠ 7 := by rw [← ht]; exact h7
      have kx : k ≠ 8 ∧ k ≠ 7 := by
        constructor
        · intro h8; exact h7 (topB_8 h8)
        · intro h8; exact h7 (topB_7 h8)
      have ky : y.kind = k := by
        have a1 := topB_no (x := .mk k n bs l) kx.1
        have a2 := topB_no (x := y) (fun h8 => h7' (topB_8 h8))
        simp only [Itm.kind] at a1 hkx
        omega
      rw [head_plain hkx kx.1 (fun h => kx.2 h.1), head_plain hky (by rw [ky]; exact kx.1) (fun h => kx.2 (by rw [← ky]; exact h.1)), ky] at h
      simp only [Itm.kind, Itm.bytes, Itm.items] at h hkx
      obtain ⟨_, hnum, hz⟩ := headB_inj (by omega) (by omega) hnx hny h
      obtain ⟨k', n', bs', l'⟩ := y
      simp only [Itm.kind] at ky
      subst ky
      simp only [Proofs.YtdbhgngikglmcaaDoor.numP, Itm.kind, Itm.n, Itm.bytes, Itm.items] at hnum hz
      by_cases hp : k' = 0 ∨ k' = 1 ∨ k' = 2 ∨ k' = 3
      · have ox := plain_of hx.good (by simp only [Itm.kind]; omega)
        have oy := plain_of hy.good (by simp only [Itm.kind]; omega)
        have ix := (okPlain_items ((isPlain_iff _).2 (by simp only [Itm.kind]; omega)) ox).1
        have iy := (okPlain_items ((isPlain_iff _).2 (by simp only [Itm.kind]; omega)) oy).1
        simp only [Itm.items] at ix iy
        subst ix iy
        rw [encL, List.nil_append, List.nil_append] at hz
        rcases hp with rfl | rfl | rfl | rfl
        · simp [okPlain, Itm.kind, Itm.bytes, Itm.items] at ox oy hnum
          subst ox oy hnum
          exact ⟨rfl, by simpa using hz⟩
        · simp [okPlain, Itm.kind, Itm.bytes, Itm.items] at ox oy hnum
          subst ox oy hnum
          exact ⟨rfl, by simpa using hz⟩
        · simp [okPlain, Itm.kind, Itm.bytes, Itm.items, Itm.n] at ox oy hnum
          obtain ⟨h1, h2⟩ := List.append_inj hz hnum
          subst ox oy h1 h2
          exact ⟨rfl, rfl⟩
        · simp [okPlain, Itm.kind, Itm.bytes, Itm.items, Itm.n] at ox oy hnum
          obtain ⟨h1, h2⟩ := List.append_inj hz hnum
          obtain ⟨ox, _⟩ := ox
          obtain ⟨oy, _⟩ := oy
          subst ox oy h1 h2
          exact ⟨rfl, rfl⟩
      · have fx := frameOk_spec (frame_of hx.good (by simp only [Itm.kind]; omega))
        have fy := frameOk_spec (frame_of hy.good (by simp only [Itm.kind]; omega))
        simp only [Itm.kind, Itm.bytes, Itm.items, Itm.n, List.length_eq_zero_iff] at fx fy
        obtain ⟨_, _, _, hb, x6, xn, x5⟩ := fx
        obtain ⟨_, _, _, hb', y6, yn, y5⟩ := fy
        subst hb hb'
        rw [List.nil_append, List.nil_append] at hz
        have hll : l.length = l'.length ∧ n = n' := by
          by_cases e4 : k' = 4
          · have := xn (by omega)
            have := yn (by omega)
            simp [e4] at hnum
            omega
          by_cases e5 : k' = 5
          · have := xn (by omega)
            have := yn (by omega)
            have := x5 e5
            have := y5 e5
            simp [e5] at hnum
            omega
          · have e6 : k' = 6 := by omega
            have := x6 e6
            have := y6 e6
            simp [e6] at hnum
            omega
        obtain ⟨h1, h2⟩ := encL_inj l l' (lv + 1) (lv' + 1) r s hll.1 (fun z hz' => hx.elem hz') (fun z hz' => hy.elem hz') hz
        exact ⟨by rw [h1, hll.2], h2⟩
theorem encL_inj : ∀ (l m : List Itm) (lv lv' : Nat) (r s : List UInt8), l.length = m.length → (∀ x ∈ l, Fits x lv) → (∀ x ∈ m, Fits x lv') → encL l ++ r = encL m ++ s → l = m ∧ r = s
  | [], [], _, _, r, s, _, _, _, h => by
    rw [encL, List.nil_append, List.nil_append] at h
    exact ⟨rfl, h⟩
  | [], _ :: _, _, _, _, _, hl, _, _, _ => by simp at hl
  | _ :: _, [], _, _, _, _, hl, _, _, _ => by simp at hl
  | x :: l, y :: m, lv, lv', r, s, hl, hx, hy, h => by
    rw [encL, encL, List.append_assoc, List.append_assoc] at h
    obtain ⟨h1, h2⟩ := encB_inj x y lv lv' _ _ (hx x (by simp)) (hy y (by simp)) h
    obtain ⟨h3, h4⟩ := encL_inj l m lv lv' r s (by simpa using hl) (fun z hz => hx z (by simp [hz])) (fun z hz => hy z (by simp [hz])) h2
    exact ⟨by rw [h1, h3], h4⟩
end
end Go.Proofs.YtdbhgngikglmcaaDoor
namespace Go.Proofs.YtdbhgngikglmcaaDoor
open Go.RowKit

theorem log2_of {n t : Nat} (h1 : 2 ^ t ≤ n) (h2 : n < 2 ^ (t + 1)) : n.log2 = t := by
  have hn : n ≠ 0 := by have := Nat.two_pow_pos t; omega
  have a := (Nat.le_log2 hn).2 h1
  have b := (Nat.log2_lt hn).2 h2
  omega
theorem cut_exact (neg : Bool) (q d : Nat) (h : d ≤ (q * 2 ^ d).log2 + 2) : Ieee.Toward.even.cut neg (q * 2 ^ d) d = q := by
  have hg : (1 : Nat) <<< min d ((q * 2 ^ d).log2 + 2) = 2 ^ d := by rw [Nat.min_eq_left h, Nat.shiftLeft_eq, Nat.one_mul]
  have hp : 0 < 2 ^ d := Nat.two_pow_pos d
  have h1 : q * 2 ^ d / 2 ^ d = q := Nat.mul_div_cancel _ hp
  have h2 : q * 2 ^ d % 2 ^ d = 0 := Nat.mul_mod_left _ _
  unfold Ieee.Toward.cut
  simp only [hg, h1, h2]
  have e1 : decide (2 ^ d < 2 * 0) = false := by simp
  have e2 : (2 ^ d == 2 * 0) = false := by rw [beq_eq_false_iff_ne]; omega
  rw [e1, e2]
  simp
/-- A word of 32 bits that is a number, and the word of 64 bits with its value. -/
theorem single_fields {r : Nat} (hr : r < 4294967296) (hn : (Ieee.single.read r).isNaN = false) : ∃ n s x f, n < 18446744073709551616 ∧ Nar31 n r s x f := by
  obtain ⟨s, hs⟩ : ∃ s, r / 2147483648 = s := ⟨_, rfl⟩
  obtain ⟨x, hx⟩ : ∃ x, r / 8388608 % 256 = x := ⟨_, rfl⟩
  obtain ⟨f, hf⟩ : ∃ f, r % 8388608 = f := ⟨_, rfl⟩
  have hs1 : s ≤ 1 := by omega
  have hx1 : x ≤ 255 := by omega
  have hf1 : f < 8388608 := by omega
  have hv : r = s * 2147483648 + x * 8388608 + f := by omega
  by_cases h1 : x = 255
  · by_cases h0 : f = 0
    · exact ⟨s * 9223372036854775808 + 9218868437227405312, s, x, f, by omega, hs1, by omega, by omega, by omega, .inl ⟨h1, h0, rfl⟩⟩
    · exfalso
      have e1 : Ieee.single.signWeight = 2147483648 := rfl
      have e2 : Ieee.single.binade = 8388608 := rfl
      have e3 : Ieee.single.infRung = 2139095040 := rfl
      unfold Ieee.Format.read at hn
      rw [e1, e2, e3] at hn
      simp only [show ¬ r % 2147483648 < 8388608 by omega, show ¬ r % 2147483648 < 2139095040 by omega, show ¬ r % 2147483648 = 2139095040 by omega, if_false] at hn
      cases hn
  by_cases h2 : x = 0
  · by_cases h0 : f = 0
    · exact ⟨s * 9223372036854775808, s, x, f, by omega, hs1, by omega, by omega, by omega, .inr (.inl ⟨h2, h0, rfl⟩)⟩
    · have a1 : 2 ^ f.log2 ≤ f := Nat.log2_self_le h0
      have a2 : f < 2 ^ (f.log2 + 1) := Nat.lt_log2_self
      have a3 : f.log2 < 23 := (Nat.log2_lt h0).2 (by simpa using hf1)
      generalize f.log2 = t at a1 a2 a3
      have e1 : 2 ^ t * 2 ^ (52 - t) = 4503599627370496 := by
        rw [← Nat.pow_add, show t + (52 - t) = 52 by omega]
      have e2 : 2 ^ (t + 1) * 2 ^ (52 - t) = 9007199254740992 := by
        rw [← Nat.pow_add, show t + 1 + (52 - t) = 53 by omega]
      have b1 := Nat.mul_le_mul_right (2 ^ (52 - t)) a1
      have b2 := Nat.mul_lt_mul_of_pos_right a2 (Nat.two_pow_pos (52 - t))
      refine ⟨s * 9223372036854775808 + (874 + t) * 4503599627370496 + (f * 2 ^ (52 - t) - 4503599627370496), s, x, f, by omega, hs1, by omega, by omega, by omega, .inr (.inr (.inr ⟨h2, t, _, a3, a1, a2, rfl, by omega, rfl⟩))⟩
  · exact ⟨s * 9223372036854775808 + (x + 896) * 4503599627370496 + f * 536870912, s, x, f, by omega, hs1, by omega, by omega, by omega, .inr (.inr (.inl ⟨by omega, by omega, rfl⟩))⟩
theorem word_d (s r : Nat) (hs : s ≤ 1) : Ieee.double.word (s % 2 == 1) r = s * 9223372036854775808 + r := by
  have e : Ieee.double.signWeight = 9223372036854775808 := rfl
  unfold Ieee.Format.word
  rcases (by omega : s = 0 ∨ s = 1) with rfl | rfl <;> simp [e]
theorem word_s (s r : Nat) (hs : s ≤ 1) : Ieee.single.word (s % 2 == 1) r = s * 2147483648 + r := by
  have e : Ieee.single.signWeight = 2147483648 := rfl
  unfold Ieee.Format.word
  rcases (by omega : s = 0 ∨ s = 1) with rfl | rfl <;> simp [e]
/-- Reading 32 bits. -/
theorem read_s {n v s x f : Nat} (h : Nar31 n v s x f) : Ieee.single.read v = if x = 255 then .infinity (s % 2 == 1) else if x = 0 then .number (s % 2 == 1) f (-149) else .number (s % 2 == 1) (8388608 + f) ((x : Int) - 150) := by
  obtain ⟨a1, a2, a3, a4, a5⟩ := h
  have e1 : Ieee.single.signWeight = 2147483648 := rfl
  have e2 : Ieee.single.binade = 8388608 := rfl
  have e3 : Ieee.single.infRung = 2139095040 := rfl
  have e4 : Ieee.single.leastPlace = -149 := rfl
  have hd : v / 2147483648 = s := by omega
  have hm : v % 2147483648 = x * 8388608 + f := by omega
  unfold Ieee.Format.read
  rw [e1, e2, e3, e4, hd, hm]
  simp only
  by_cases h0 : x = 0
  · rw [if_pos (by omega), if_neg (by omega), if_pos h0, h0]; simp
  rw [if_neg (by omega)]
  by_cases h1 : x = 255
  · have : f = 0 := by omega
    rw [if_neg (by omega), if_pos (by omega), if_pos h1]
  · rw [if_pos (by omega), if_neg h1, if_neg h0]
    congr 1
    · omega
    · omega
theorem read_d {n v s x f : Nat} (h : Nar31 n v s x f) : ∃ e m, e ≤ 2047 ∧ m < 4503599627370496 ∧ n = s * 9223372036854775808 + e * 4503599627370496 + m ∧
    (x = 255 → e = 2047 ∧ m = 0) ∧ (x = 0 ∧ f = 0 → e = 0 ∧ m = 0) ∧ (1 ≤ x ∧ x ≤ 254 → e = x + 896 ∧ m = f * 536870912) ∧ (x = 0 ∧ 0 < f → ∃ t, t < 23 ∧ 2 ^ t ≤ f ∧ f < 2 ^ (t + 1) ∧ e = 874 + t ∧ m + 4503599627370496 = f * 2 ^ (52 - t)) ∧
    Ieee.double.read n = if e = 2047 then .infinity (s % 2 == 1) else if e = 0 then .number (s % 2 == 1) m (-1074) else .number (s % 2 == 1) (4503599627370496 + m) ((e : Int) - 1075) := by
  obtain ⟨a1, a2, a3, a4, a5⟩ := h
  have key : ∀ e m, e ≤ 2047 → m < 4503599627370496 → (e = 2047 → m = 0) → n = s * 9223372036854775808 + e * 4503599627370496 + m → Ieee.double.read n = if e = 2047 then .infinity (s % 2 == 1) else if e = 0 then .number (s % 2 == 1) m (-1074) else .number (s % 2 == 1) (4503599627370496 + m) ((e : Int) - 1075) := by
    intro e m he hm h7 hn
    have e1 : Ieee.double.signWeight = 9223372036854775808 := rfl
    have e2 : Ieee.double.binade = 4503599627370496 := rfl
    have e3 : Ieee.double.infRung = 9218868437227405312 := rfl
    have e4 : Ieee.double.leastPlace = -1074 := rfl
    have hd : n / 9223372036854775808 = s := by omega
    have hmm : n % 9223372036854775808 = e * 4503599627370496 + m := by omega
    unfold Ieee.Format.read
    rw [e1, e2, e3, e4, hd, hmm]
    simp only
    by_cases h0 : e = 0
    · rw [if_pos (by omega), if_neg (by omega), if_pos h0, h0]; simp
    rw [if_neg (by omega)]
    by_cases h1 : e = 2047
    · have := h7 h1
      rw [if_neg (by omega), if_pos (by omega), if_pos h1]
    · rw [if_pos (by omega), if_neg h1, if_neg h0]
      congr 1
      · omega
      · omega
  rcases a5 with ⟨c1, c2, c3⟩ | ⟨c1, c2, c3⟩ | ⟨c1, c2, c3⟩ | ⟨c1, t, full, c2, c3, c4, c5, c6, c7⟩
  · exact ⟨2047, 0, by omega, by omega, by omega, fun _ => ⟨rfl, rfl⟩, by omega, by omega, by omega, key 2047 0 (by omega) (by omega) (fun _ => rfl) (by omega)⟩
  · have C3 : n = s * 9223372036854775808 + 0 * 4503599627370496 + 0 := by rw [c3]; simp only [Nat.zero_mul, Nat.add_zero]
    have C3 := Lib.hid C3
    clear c3
    have x1 : x ≠ 255 := by omega
    have x3 : ¬ (1 ≤ x ∧ x ≤ 254) := by omega
    have x4 : ¬ (x = 0 ∧ 0 < f) := by omega
    exact ⟨0, 0, by omega, by omega, C3.out, fun h => absurd h x1, fun _ => ⟨rfl, rfl⟩, fun h => absurd h x3, fun h => absurd h x4, key 0 0 (by omega) (by omega) (by omega) C3.out⟩
  · have C3 := Lib.hid c3
    clear c3
    have t1 : x + 896 ≤ 2047 := by omega
    have t2 : x + 896 ≠ 2047 := by omega
    have m1 : f * 536870912 < 4503599627370496 := by omega
    have x1 : x ≠ 255 := by omega
    have x2 : x ≠ 0 := by omega
    exact ⟨x + 896, f * 536870912, t1, m1, C3.out, fun h => absurd h x1, fun h => absurd h.1 x2, fun _ => ⟨rfl, rfl⟩, fun h => absurd h.1 x2, key _ _ t1 m1 (fun h => absurd h t2) C3.out⟩
  · have hp : 0 < f := by have := Nat.two_pow_pos t; omega
    have e2 : 2 ^ (t + 1) * 2 ^ (52 - t) = 9007199254740992 := by
      rw [← Nat.pow_add, show t + 1 + (52 - t) = 53 by omega]
    have b2 := Nat.mul_lt_mul_of_pos_right c4 (Nat.two_pow_pos (52 - t))
    rw [e2, ← c5] at b2
    have C7 := Lib.hid c7
    clear c7
    have m1 : full - 4503599627370496 < 4503599627370496 := by clear a2; omega
    have m2 : full - 4503599627370496 + 4503599627370496 = f * 2 ^ (52 - t) := by rw [← c5]; clear a2; omega
    have t1 : 874 + t ≤ 2047 := by omega
    have t2 : 874 + t ≠ 2047 := by omega
    have x1 : x ≠ 255 := by omega
    have x2 : ¬ (x = 0 ∧ f = 0) := by omega
    have x3 : ¬ (1 ≤ x ∧ x ≤ 254) := by omega
    exact ⟨874 + t, full - 4503599627370496, t1, m1, C7.out, fun h => absurd h x1, fun h => absurd h x2, fun h => absurd h x3, fun _ => ⟨t, c2, c3, c4, rfl, m2⟩, key _ _ t1 m1 (fun h => absurd h t2) C7.out⟩
/-- From 32 bits to 64. -/
theorem wide_of {n v s x f : Nat} (h : Nar31 n v s x f) : floatToFloatBits .f32 v .f64 = some n := by
  have hr := read_s h
  obtain ⟨e, m, he, hm, hn, g1, g2, g3, g4, hd⟩ := read_d h
  obtain ⟨a1, a2, a3, a4, _⟩ := h
  have e1 : Ieee.double.fractionBits = 52 := rfl
  have e2 : Ieee.double.binade = 4503599627370496 := rfl
  have e3 : Ieee.double.infRung = 9218868437227405312 := rfl
  have e4 : Ieee.double.leastPlace = -1074 := rfl
  have hw : Ieee.double.write (Ieee.single.read v) = n := by
    rw [hr]
    by_cases h1 : x = 255
    · obtain ⟨rfl, rfl⟩ := g1 h1
      rw [if_pos h1]
      show Ieee.double.word _ Ieee.double.infRung = n
      rw [word_d _ _ a1, e3]; omega
    rw [if_neg h1]
    have near : ∀ (mag : Nat) (pl : Int) (t : Nat), t ≤ 52 → 2 ^ t ≤ mag → mag < 2 ^ (t + 1) → -149 ≤ pl → pl ≤ 104 → e = (pl + t + 1023).toNat → mag * 2 ^ (52 - t) = 4503599627370496 + m → Ieee.double.nearest (s % 2 == 1) mag pl = n := by
      intro mag pl t ht b1 b2 p1 p2 he' hmm
      have hl := log2_of b1 b2
      have h0 : mag ≠ 0 := by have := Nat.two_pow_pos t; omega
      unfold Ieee.Format.nearest
      rw [if_neg h0, hl, e1, e2, e3, e4]
      have hlast : max (pl + (t : Int) - (52 : Nat)) (-1074) = pl + t - 52 := by omega
      simp only [hlast]
      rw [show (pl - (pl + (t : Int) - 52)).toNat = 52 - t by omega, show ((pl + (t : Int) - 52) - pl).toNat = 0 by omega, Nat.shiftLeft_eq, hmm]
      have hc := cut_exact (s % 2 == 1) (4503599627370496 + m) 0 (by omega)
      rw [Nat.pow_zero, Nat.mul_one] at hc
      rw [hc, word_d _ _ a1, Nat.min_eq_left (by omega)]
      omega
    by_cases h2 : x = 0
    · rw [if_pos h2]
      by_cases h3 : f = 0
      · obtain ⟨rfl, rfl⟩ := g2 ⟨h2, h3⟩
        subst h3
        show Ieee.double.nearest _ 0 _ = n
        unfold Ieee.Format.nearest
        rw [if_pos rfl, word_d _ _ a1]; omega
      · obtain ⟨t, t1, t2, t3, t4, t5⟩ := g4 ⟨h2, by omega⟩
        exact near f (-149) t (by omega) t2 t3 (by omega) (by omega) (by omega) (by omega)
    · rw [if_neg h2]
      obtain ⟨k1, k2⟩ := g3 ⟨by omega, by omega⟩
      refine near (8388608 + f) ((x : Int) - 150) 23 (by omega) (by simp) (by simp; omega) (by omega) (by omega) (by omega) ?_
      simp only [Nat.reduceSub, Nat.reducePow]
      omega
  unfold floatToFloatBits
  rw [if_neg (by decide)]
  show (match Ieee.single.read v with | .nan _ _ => none | .infinity s => some (Ieee.double.write (.infinity s)) | .number s m e => if (Ieee.double.read (Ieee.double.write (.number s m e))).isInfinity then none else some (Ieee.double.write (.number s m e))) = some n
  cases hq : Ieee.single.read v with
  | nan a b =>
    rw [hq] at hr
    split at hr
    · cases hr
    · split at hr <;> cases hr
  | infinity q => simp only; rw [← hq, hw]
  | number a b c =>
    simp only
    rw [← hq, hw]
    have hx : x ≠ 255 := by
      intro h1
      rw [hq, if_pos h1] at hr
      cases hr
    have he7 : e ≠ 2047 := by
      by_cases h2 : x = 0
      · by_cases h3 : f = 0
        · have := g2 ⟨h2, h3⟩; omega
        · obtain ⟨t, t1, t2, t3, t4, t5⟩ := g4 ⟨h2, by omega⟩; omega
      · have := g3 ⟨by omega, by omega⟩; omega
    rw [hd, if_neg he7]
    by_cases h0 : e = 0
    · rw [if_pos h0]; rfl
    · rw [if_neg h0]; rfl
/-- From 64 bits to 32, where the number has 32. -/
theorem slim_of {n v s x f : Nat} (h : Nar31 n v s x f) : floatToFloatBits .f64 n .f32 = some v := by
  have hr := read_s h
  obtain ⟨e, m, he, hm, hn, g1, g2, g3, g4, hd⟩ := read_d h
  obtain ⟨a1, a2, a3, a4, _⟩ := h
  have e1 : Ieee.single.fractionBits = 23 := rfl
  have e2 : Ieee.single.binade = 8388608 := rfl
  have e3 : Ieee.single.infRung = 2139095040 := rfl
  have e4 : Ieee.single.leastPlace = -149 := rfl
  have hw : Ieee.single.write (Ieee.double.read n) = v := by
    rw [hd]
    by_cases h1 : x = 255
    · obtain ⟨h5, h6⟩ := g1 h1
      rw [if_pos h5]
      show Ieee.single.word _ Ieee.single.infRung = v
      rw [word_s _ _ a1, e3]
      omega
    by_cases h2 : x = 0
    · by_cases h3 : f = 0
      · obtain ⟨h5, h6⟩ := g2 ⟨h2, h3⟩
        rw [if_neg (by omega), if_pos h5, h6]
        show Ieee.single.nearest _ 0 _ = v
        unfold Ieee.Format.nearest
        rw [if_pos rfl, word_s _ _ a1]; omega
      · obtain ⟨t, t1, t2, t3, t4, t5⟩ := g4 ⟨h2, by omega⟩
        rw [if_neg (by omega), if_neg (by omega)]
        show Ieee.single.nearest _ _ _ = v
        have hl : (4503599627370496 + m).log2 = 52 := log2_of (by simp) (by simp; omega)
        unfold Ieee.Format.nearest
        rw [if_neg (by omega), hl, e1, e2, e3, e4]
        have hlast : max ((e : Int) - 1075 + (52 : Nat) - (23 : Nat)) (-149) = -149 := by omega
        simp only [hlast]
        rw [show ((e : Int) - 1075 - -149).toNat = 0 by omega, show (-149 - ((e : Int) - 1075)).toNat = 52 - t by omega, Nat.shiftLeft_eq, Nat.pow_zero, Nat.mul_one, show 4503599627370496 + m = f * 2 ^ (52 - t) by omega]
        rw [cut_exact _ _ _ (by rw [← t5, Nat.add_comm m, hl]; omega), word_s _ _ a1, Nat.min_eq_left (by omega)]
        rw [a2, h2, show ((-149 : Int) - -149).toNat = 0 from rfl]
        simp only [Nat.zero_mul, Nat.zero_add, Nat.add_zero]
    · obtain ⟨k1, k2⟩ := g3 ⟨by omega, by omega⟩
      rw [if_neg (by omega), if_neg (by omega)]
      show Ieee.single.nearest _ _ _ = v
      have hl : (4503599627370496 + m).log2 = 52 := log2_of (by simp) (by simp; omega)
      unfold Ieee.Format.nearest
      rw [if_neg (by omega), hl, e1, e2, e3, e4]
      have hlast : max ((e : Int) - 1075 + (52 : Nat) - (23 : Nat)) (-149) = (e : Int) - 1046 := by omega
      simp only [hlast]
      have hq : 4503599627370496 + m = (8388608 + f) * 2 ^ 29 := by simp only [Nat.reducePow]; omega
      rw [show ((e : Int) - 1075 - ((e : Int) - 1046)).toNat = 0 by omega, show (((e : Int) - 1046) - ((e : Int) - 1075)).toNat = 29 by omega, Nat.shiftLeft_eq, Nat.pow_zero, Nat.mul_one, hq]
      rw [cut_exact _ _ _ (by rw [← hq, hl]; omega), word_s _ _ a1, Nat.min_eq_left (by omega)]
      omega
  unfold floatToFloatBits
  rw [if_neg (by decide)]
  show (match Ieee.double.read n with | .nan _ _ => none | .infinity s => some (Ieee.single.write (.infinity s)) | .number s m e => if (Ieee.single.read (Ieee.single.write (.number s m e))).isInfinity then none else some (Ieee.single.write (.number s m e))) = some v
  cases hq : Ieee.double.read n with
  | nan a b =>
    rw [hq] at hd
    split at hd
    · cases hd
    · split at hd <;> cases hd
  | infinity q => simp only; rw [← hq, hw]
  | number a b c =>
    simp only
    rw [← hq, hw]
    have hx : x ≠ 255 := by
      intro h1
      have := g1 h1
      rw [hq, if_pos this.1] at hd
      cases hd
    rw [hr, if_neg hx]
    by_cases h0 : x = 0
    · rw [if_pos h0]; rfl
    · rw [if_neg h0]; rfl
/-- The bits fix the narrow number. -/
theorem narrow31_of {n v s x f : Nat} (h : Nar31 n v s x f) : narrow n 8 23 = some v := by
  obtain ⟨e, m, he, hm, hn, g1, g2, g3, g4, hd⟩ := read_d h
  obtain ⟨a1, a2, a3, a4, _⟩ := h
  have k1 : n / 4503599627370496 % 2048 = e := by omega
  have k2 : n % 4503599627370496 = m := by omega
  have k3 : n / 9223372036854775808 = s := by omega
  rw [narrow]
  simp only [Nat.reducePow, Nat.reduceSub, Nat.reduceAdd, Nat.reduceMul, k1, k2, k3]
  by_cases h1 : x = 255
  · obtain ⟨h5, h6⟩ := g1 h1
    rw [if_pos h5, if_pos h6]
    congr 1; omega
  by_cases h2 : x = 0
  · by_cases h3 : f = 0
    · obtain ⟨h5, h6⟩ := g2 ⟨h2, h3⟩
      rw [if_neg (by omega), if_pos h5, if_pos h6]
      congr 1; omega
    · obtain ⟨t, t1, t2, t3, t4, t5⟩ := g4 ⟨h2, by omega⟩
      rw [if_neg (by omega), if_neg (by omega), if_neg (by omega), if_neg (by omega), if_neg (by omega), show 30 + (1023 - e - 127) = 52 - t by omega, t5, if_pos (Nat.mul_mod_left _ _), Nat.mul_div_cancel _ (Nat.two_pow_pos _)]
      congr 1; omega
  · obtain ⟨h5, h6⟩ := g3 ⟨by omega, by omega⟩
    rw [if_neg (by omega), if_neg (by omega), if_neg (by omega), if_pos (by omega), if_pos (by omega)]
    congr 1; omega
/-- If the bits of 32 have the value of n, n has 32 bits. -/
theorem back_narrow {n r : Nat} (hr : r < 4294967296) (h : floatToFloatBits .f32 r .f64 = some n) : narrow n 8 23 = some r := by
  have hn : (Ieee.single.read r).isNaN = false := by
    cases hq : Ieee.single.read r with
    | nan a b =>
      unfold floatToFloatBits at h
      rw [if_neg (by decide)] at h
      have : FloatKind.decode .f32 r = .nan a b := hq
      rw [this] at h
      cases h
    | infinity _ => rfl
    | number _ _ _ => rfl
  obtain ⟨n', s, x, f, _, hx⟩ := single_fields hr hn
  have := wide_of hx
  rw [h] at this
  injection this with this
  subst this
  exact narrow31_of hx
/-- What the program's half makes of 32 bits. -/
def halfP (v : Nat) : Option Nat :=
  let s := v / 2147483648
  let e := v / 8388608 % 256
  let m := v % 8388608
  if e = 255 then some (s * 32768 + 31744) else if e = 0 then (if m = 0 then some (s * 32768) else none)
  else if 113 ≤ e ∧ e ≤ 142 then (if m % 8192 = 0 then some (s * 32768 + (e - 112) * 1024 + m / 8192) else none)
  else if 103 ≤ e ∧ e < 113 then (if (m + 8388608) % 2 ^ (126 - e) = 0 then some (s * 32768 + (m + 8388608) / 2 ^ (126 - e)) else none) else none
theorem half_of {n v s x f : Nat} (h : Nar31 n v s x f) : halfP v = narrow n 5 10 := by
  obtain ⟨e, m, he, hm, hn, g1, g2, g3, g4, hd⟩ := read_d h
  obtain ⟨a1, a2, a3, a4, _⟩ := h
  have k1 : n / 4503599627370496 % 2048 = e := by omega
  have k2 : n % 4503599627370496 = m := by omega
  have k3 : n / 9223372036854775808 = s := by omega
  have j1 : v / 2147483648 = s := by omega
  have j2 : v / 8388608 % 256 = x := by omega
  have j3 : v % 8388608 = f := by omega
  rw [narrow, halfP]
  simp only [Nat.reducePow, Nat.reduceSub, Nat.reduceAdd, Nat.reduceMul, k1, k2, k3, j1, j2, j3]
  by_cases h1 : x = 255
  · obtain ⟨h5, h6⟩ := g1 h1
    rw [if_pos h5, if_pos h6, if_pos h1]
  by_cases h2 : x = 0
  · by_cases h3 : f = 0
    · obtain ⟨h5, h6⟩ := g2 ⟨h2, h3⟩
      rw [if_neg (by omega), if_pos h2, if_pos h3, if_neg (by omega), if_pos h5, if_pos h6]
    · obtain ⟨t, t1, t2, t3, t4, t5⟩ := g4 ⟨h2, by omega⟩
      rw [if_neg (by omega), if_pos h2, if_neg h3, if_neg (by omega), if_neg (by omega), if_neg (by omega), if_neg (by omega), if_pos (by omega)]
  · obtain ⟨h5, h6⟩ := g3 ⟨by omega, by omega⟩
    have n1 : ¬ e = 2047 := by omega
    have n2 : ¬ e = 0 := by omega
    rw [if_neg h1, if_neg h2, if_neg n1, if_neg n2]
    by_cases h7 : 143 ≤ x
    · have p1 : ¬ (113 ≤ x ∧ x ≤ 142) := by omega
      have p2 : ¬ (103 ≤ x ∧ x < 113) := by omega
      have p3 : 1023 + 31 ≤ e + 15 := by omega
      rw [if_neg p1, if_neg p2, if_pos p3]
    · have p3 : ¬ (1023 + 31 ≤ e + 15) := by omega
      by_cases h8 : 113 ≤ x
      · have p1 : 113 ≤ x ∧ x ≤ 142 := by omega
        have p4 : 1023 < e + 15 := by omega
        rw [if_pos p1, if_neg p3, if_pos p4]
        by_cases h9 : f % 8192 = 0
        · have p5 : m % 4398046511104 = 0 := by omega
          rw [if_pos h9, if_pos p5]
          obtain ⟨q, rfl⟩ : ∃ q, f = 8192 * q := ⟨f / 8192, by omega⟩
          have z1 : m / 4398046511104 = 8192 * q / 8192 := by omega
          have z2 : e + 15 - 1023 = x - 112 := by omega
          rw [z1, z2]
        · have p5 : ¬ m % 4398046511104 = 0 := by omega
          rw [if_neg h9, if_neg p5]
      · have p1 : ¬ (113 ≤ x ∧ x ≤ 142) := by omega
        have p4 : ¬ 1023 < e + 15 := by omega
        rw [if_neg p1, if_neg p3, if_neg p4]
        by_cases h9 : 103 ≤ x
        · have p2 : 103 ≤ x ∧ x < 113 := by omega
          have p6 : ¬ 52 < 43 + (1023 - e - 15) := by omega
          rw [if_pos p2, if_neg p6]
          have hs : 43 + (1023 - e - 15) = 126 - x + 29 := by omega
          have hq : m + 4503599627370496 = (f + 8388608) * 2 ^ 29 := by simp only [Nat.reducePow]; omega
          rw [hs, hq, Nat.pow_add, Nat.mul_mod_mul_right, Nat.mul_div_mul_right _ _ (Nat.two_pow_pos 29)]
          by_cases h10 : (f + 8388608) % 2 ^ (126 - x) = 0
          · have h11 : (f + 8388608) % 2 ^ (126 - x) * 2 ^ 29 = 0 := by rw [h10, Nat.zero_mul]
            rw [if_pos h10, if_pos h11]
          · have h11 : ¬ (f + 8388608) % 2 ^ (126 - x) * 2 ^ 29 = 0 := by
              intro h
              have := Nat.two_pow_pos 29
              rcases Nat.mul_eq_zero.1 h with h | h <;> omega
            rw [if_neg h10, if_neg h11]
        · have p2 : ¬ (103 ≤ x ∧ x < 113) := by omega
          have p6 : 52 < 43 + (1023 - e - 15) := by omega
          rw [if_neg p2, if_pos p6]
end Go.Proofs.YtdbhgngikglmcaaDoor
