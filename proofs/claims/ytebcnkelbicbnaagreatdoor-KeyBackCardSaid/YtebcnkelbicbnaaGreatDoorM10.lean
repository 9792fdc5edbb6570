/- The world's memory as data: what the arguments are. Rows of elements of k cells each (external data, numbers, byte strings): owned by a call, and as data that stays. Reading data items: plain mathematics. What a parser makes of bytes, and that its items encode to the bytes they were read from. Reading data items, second part: floats that were read have the bytes they were read from; plain mathematics. -/
import Derived.Test.YtebcnkelbicbnaaGreatDoorM09
import Derived.ChangeSlices
import Derived.OpenShut
import Derived.Test.YtebcnkelbicbnaaGreatDoorM01
import Derived.Test.YtebcnkelbicbnaaGreatDoorM07
set_option linter.unusedVariables false
set_option linter.unusedSimpArgs false
namespace Go.Proofs.YtebcnkelbicbnaaGreatDoor
open Go.RowKit

/-- All that lies in the world's memory. -/
def heapS (W : World) : Snap := fun b => W.heap[b]?
theorem heapS_cell (W : World) (a : Addr) : (heapS W).cell? a = W.cell? a := rfl
theorem heapS_holds (W : World) : Holds W (heapS W) := fun _ _ h => h
theorem heapS_tabs {W : World} (h : Lib.Utf8Tabs 0 1 W) : Tabs (heapS W) := fun _ hw =>
  ⟨fun c hc => hw.cell (h.1 c hc), fun i hi => ⟨hw.cell (h.2 i hi).1, hw.cell (h.2 i hi).2⟩⟩
theorem wf_i64_bnd {n : Int} (h : (Lit.int .i64 n).wf = true) : -9223372036854775808 ≤ n ∧ n ≤ 9223372036854775807 := by
  simp [Lit.wf, IntKind.min, IntKind.max, IntKind.signed, IntKind.bits] at h
  omega
theorem ints_heap {W : World} {a : Addr} {len cap : Nat} {zs : List Int} (hl : len ≤ cap) (hm : cap ≤ maxLen) (hz : len ≤ zs.length)
    (hc : ∀ i, i < zs.length → W.cell? (a.add i) = some (.int .i64 (zs.getD i 0))) (wf : ∀ n ∈ zs, (Lit.int .i64 n).wf = true) : IsInts (heapS W) (some a) cap (zs.take len) ∧ (zs.take len).length = len := by
  have hlen : (zs.take len).length = len := by rw [List.length_take]; omega
  refine ⟨⟨by rw [hlen]; exact hl, by simpa [maxLen] using hm, fun hne => ?_, fun x hx => wf_i64_bnd (wf x (List.mem_of_mem_take hx))⟩, hlen⟩
  have h0 : 0 < len := by
    rcases Nat.eq_zero_or_pos len with h | h
    · subst h; simp at hne
    · exact h
  obtain ⟨b, off, rfl, hcell⟩ := ints_at hc (by omega)
  refine ⟨b, off, rfl, fun j v hj => ?_⟩
  rw [List.getElem?_map] at hj
  obtain ⟨x, hx, rfl⟩ := Option.map_eq_some_iff.1 hj
  have hjl := (List.getElem?_eq_some_iff.1 hx).1
  rw [hlen] at hjl
  rw [heapS_cell, hcell j (by omega)]
  rw [List.getElem?_take, if_pos hjl] at hx
  simp [List.getD, hx]
end Go.Proofs.YtebcnkelbicbnaaGreatDoor
namespace Go.Proofs.YtebcnkelbicbnaaGreatDoor
open Go.RowKit

/-- How an element lies in k cells. -/
structure Lie (α : Type) where
  k : Nat
  pos : 0 < k
  E : Snap → α → List Value → Prop
  len : ∀ {H x c}, E H x c → c.length = k
  one : ∀ {H x c}, E H x c → ∀ u ∈ c, u.oneCell' = true
  mono : ∀ {H K x c}, H.le K → E H x c → E K x c
section
variable {α : Type} {L : Lie α}
/-- The cells cs are those of the elements l. -/
def RowC (L : Lie α) (H : Snap) : List Value → List α → Prop
  | cs, [] => cs = []
  | cs, x :: l => ∃ c rest, cs = c ++ rest ∧ L.E H x c ∧ RowC L H rest l
theorem RowC.nil (L : Lie α) (H : Snap) : RowC L H [] [] := by rw [RowC]
theorem RowC.len {H : Snap} : ∀ {l : List α} {cs : List Value}, RowC L H cs l → cs.length = l.length * L.k
  | [], cs, h => by rw [RowC] at h; subst h; simp
  | x :: l, cs, h => by
    obtain ⟨c, rest, rfl, hx, hr⟩ := h
    rw [List.length_append, L.len hx, hr.len, List.length_cons, Nat.succ_mul, Nat.add_comm]
theorem RowC.mono {H K : Snap} (hl : H.le K) : ∀ {l : List α} {cs : List Value}, RowC L H cs l → RowC L K cs l
  | [], cs, h => h
  | x :: l, cs, h => by
    obtain ⟨c, rest, e, hx, hr⟩ := h
    exact ⟨c, rest, e, L.mono hl hx, hr.mono hl⟩
theorem RowC.one {H : Snap} {x : α} {c : List Value} (h : L.E H x c) : RowC L H c [x] := ⟨c, [], by simp, h, RowC.nil L H⟩
theorem RowC.app {H : Snap} : ∀ {l m : List α} {cs ds : List Value}, RowC L H cs l → RowC L H ds m → RowC L H (cs ++ ds) (l ++ m)
  | [], m, cs, ds, h, hd => by rw [RowC] at h; subst h; exact hd
  | x :: l, m, cs, ds, h, hd => by
    obtain ⟨c, rest, rfl, hx, hr⟩ := h
    exact ⟨c, rest ++ ds, by simp, hx, hr.app hd⟩
theorem RowC.oneCell {H : Snap} : ∀ {l : List α} {cs : List Value}, RowC L H cs l → ∀ u ∈ cs, u.oneCell' = true
  | [], cs, h => by rw [RowC] at h; subst h; simp
  | x :: l, cs, h => by
    obtain ⟨c, rest, rfl, hx, hr⟩ := h
    intro u hu
    rw [List.mem_append] at hu
    rcases hu with hu | hu
    · exact L.one hx u hu
    · exact hr.oneCell u hu
/-- The cells of element j. -/
theorem RowC.get {H : Snap} : ∀ {l : List α} {cs : List Value}, RowC L H cs l → ∀ (j : Nat) (hj : j < l.length), ∃ c, L.E H l[j] c ∧ ∀ i v, c[i]? = some v → cs[j * L.k + i]? = some v
  | [], _, _, j, hj => by simp at hj
  | x :: l, cs, h, 0, _ => by
    obtain ⟨c, rest, rfl, hx, hr⟩ := h
    refine ⟨c, hx, fun i v hi => ?_⟩
    rw [Nat.zero_mul, Nat.zero_add, List.getElem?_append_left (List.getElem?_eq_some_iff.1 hi).1]
    exact hi
  | x :: l, cs, h, j + 1, hj => by
    obtain ⟨c, rest, rfl, hx, hr⟩ := h
    obtain ⟨c', hc', hi'⟩ := hr.get j (by simpa using hj)
    refine ⟨c', by simpa using hc', fun i v hi => ?_⟩
    have := hi' i v hi
    rw [List.getElem?_append_right (by rw [L.len hx, Nat.succ_mul]; omega), L.len hx, show (j + 1) * L.k + i - L.k = j * L.k + i by rw [Nat.succ_mul]; omega]
    exact this
/-- The slice at A (capacity c) has these elements, and they stay. -/
structure IsRow (L : Lie α) (H : Snap) (A : Option Addr) (c : Nat) (l : List α) : Prop where
  le : l.length ≤ c
  max : c ≤ 9223372036854775807
  row : 0 < l.length → ∃ b off cs, A = some ⟨b, off, none⟩ ∧ RowC L H cs l ∧ Cells H b off cs
theorem IsRow.at_ {H : Snap} {A : Option Addr} {c : Nat} {l : List α} (h : IsRow L H A c l) (h0 : 0 < l.length) : ∃ b off, A = some ⟨b, off, none⟩ ∧ ∀ j (hj : j < l.length), ∃ d, L.E H l[j] d ∧ ∀ i v, d[i]? = some v → H.cell? ⟨b, off + (j * L.k + i), none⟩ = some v := by
  obtain ⟨b, off, cs, e, h1, h2⟩ := h.row h0
  refine ⟨b, off, e, fun j hj => ?_⟩
  obtain ⟨d, hd, hi⟩ := h1.get j hj
  exact ⟨d, hd, fun i v hv => h2 _ _ (hi i v hv)⟩

/-- The value v owns a row of the elements l (elements of type t). -/
def OwnX (L : Lie α) (t : TypeId) (w : World) (base : Nat) (v : Value) (H : Snap) (l : List α) : Prop := ∃ cs, RowC L H cs l ∧ w.ownsRow base t L.k v l.length cs
variable {t : TypeId} {w w' : World} {base : Nat} {v : Value} {H : Snap} {l : List α}
theorem OwnX.lt (h : OwnX L t w base v H l) : ∀ k, v.ownBlock = some k → base ≤ k ∧ k < w.heap.size := by obtain ⟨_, _, h⟩ := h; exact World.ownsRow.lt h
theorem OwnX.kept {row : Option Nat} (h : OwnX L t w base v H l) (hg : w.grownBy w' row) (hne : v.ownBlock = none ∨ v.ownBlock ≠ row) : OwnX L t w' base v H l := by
  obtain ⟨cs, hc, h⟩ := h; exact ⟨cs, hc, World.ownsRow.kept h hg hne⟩
theorem OwnX.below (h : OwnX L t w base v H l) (hb : Below w.heap.size w w') : OwnX L t w' base v H l := by
  refine h.kept (grown_of_below hb none) ?_
  cases hv : v.ownBlock with
  | none => exact .inl rfl
  | some g => exact .inr (by simp)
theorem OwnX.alloc (h : OwnX L t w base v H l) (o : Obj) : OwnX L t (w.alloc o) base v H l := h.below (below_box w o)
theorem OwnX.mono {K : Snap} (h : OwnX L t w base v H l) (hl : H.le K) : OwnX L t w base v K l := by obtain ⟨cs, hc, h⟩ := h; exact ⟨cs, hc.mono hl, h⟩
theorem OwnX.form (h : OwnX L t w base v H l) : ∃ A c, v = .slice A l.length c ∧ l.length ≤ c ∧ c ≤ 9223372036854775807 := by
  obtain ⟨cs, hc, h⟩ := h
  rcases h.2 with ⟨rfl, hz⟩ | ⟨g, cap, cur, rfl, _, _, hn, hm, _⟩
  · exact ⟨none, 0, by rw [hz], by omega, by omega⟩
  · exact ⟨_, cap, rfl, hn, by simpa [maxLen] using hm⟩
/-- The row as data that does not change any more. -/
theorem OwnX.snap {A : Option Addr} {m c : Nat} (h : OwnX L t w base (.slice A m c) H l) (hw : Holds w H) (hn : ∀ g, A.map (·.block) = some g → H g = none) :
    ∃ H', H.le H' ∧ Holds w H' ∧ (∀ b o, H' b = some o → H b = some o ∨ A.map (·.block) = some b) ∧ m = l.length ∧ IsRow L H' A c l := by
  obtain ⟨cs, hcs, h⟩ := h
  rcases h.2 with ⟨hv, hz⟩ | ⟨g, cap, cur, hv, _, hg, hc, hm, hcz, ht⟩
  · cases hv
    exact ⟨H, Snap.le.refl _, hw, fun _ _ h => .inl h, hz.symm, ⟨by omega, by omega, by omega⟩⟩
  · cases hv
    have hg0 : H g = none := hn g rfl
    refine ⟨H.with g (.cells cur t), Snap.le_with hg0, hw.with hg, fun b o hb => ?_, rfl, hc, by simpa [maxLen] using hm, fun _ => ⟨g, 0, cs, rfl, hcs.mono (Snap.le_with hg0), fun j v hj => ?_⟩⟩
    · unfold Snap.with at hb
      split at hb
      · subst b; exact .inr rfl
      · exact .inl hb
    · rw [← ht, List.getElem?_take] at hj
      split at hj
      · simp [Snap.cell?, Snap.with]
        simpa using hj
      · cases hj
end
end Go.Proofs.YtebcnkelbicbnaaGreatDoor
namespace Go.Proofs.YtebcnkelbicbnaaGreatDoor
open Go.RowKit

/-- The number that bytes are, the greatest first. -/
def beN (l : List UInt8) : Nat := l.foldl (fun x c => x * 256 + c.toNat) 0
theorem beN_snoc (l : List UInt8) (c : UInt8) : beN (l ++ [c]) = beN l * 256 + c.toNat := by simp [beN]
theorem beN_lt (l : List UInt8) : beN l < 256 ^ l.length := by
  suffices h : ∀ (l : List UInt8) (a : Nat), l.foldl (fun x c => x * 256 + c.toNat) a < (a + 1) * 256 ^ l.length by
    have := h l 0
    rw [Nat.zero_add, Nat.one_mul] at this
    exact this
  intro l
  induction l with
  | nil => intro a; simp
  | cons c l ih =>
    intro a
    have hc := c.toNat_lt
    rw [List.foldl_cons, List.length_cons, Nat.pow_succ]
    refine Nat.lt_of_lt_of_le (ih _) ?_
    have : (a * 256 + c.toNat + 1) * 256 ^ l.length ≤ ((a + 1) * 256) * 256 ^ l.length := Nat.mul_le_mul_right _ (by omega)
    rw [Nat.mul_assoc, Nat.mul_comm 256] at this
    exact this
theorem u8_of {c : UInt8} {n : Nat} (h : n % 256 = c.toNat) : u8 n = c := by
  apply UInt8.toNat_inj.1
  rw [u8_toNat, h]
theorem list1 {l : List UInt8} (h : l.length = 1) : ∃ a, l = [a] := by
  match l, h with
  | [a], _ => exact ⟨a, rfl⟩
theorem list2 {l : List UInt8} (h : l.length = 2) : ∃ a b, l = [a, b] := by
  match l, h with
  | [a, b], _ => exact ⟨a, b, rfl⟩
theorem list4' {l : List UInt8} (h : l.length = 4) : ∃ a b c d, l = [a, b, c, d] := by
  match l, h with
  | [a, b, c, d], _ => exact ⟨a, b, c, d, rfl⟩
theorem list8 {l : List UInt8} (h : l.length = 8) : ∃ a b c d e f g i, l = [a, b, c, d, e, f, g, i] := by
  match l, h with
  | [a, b, c, d, e, f, g, i], _ => exact ⟨a, b, c, d, e, f, g, i, rfl⟩
theorem beN1 (a : UInt8) : beN [a] = a.toNat := by simp [beN]
theorem beN2 (a b : UInt8) : beN [a, b] = a.toNat * 256 + b.toNat := by simp [beN]
theorem beN4 (a b c d : UInt8) : beN [a, b, c, d] = a.toNat * 16777216 + b.toNat * 65536 + c.toNat * 256 + d.toNat := by simp [beN]; omega
theorem beN8 (a b c d e f g i : UInt8) : beN [a, b, c, d, e, f, g, i] = a.toNat * 72057594037927936 + b.toNat * 281474976710656 + c.toNat * 1099511627776 + d.toNat * 4294967296 + e.toNat * 16777216 + f.toNat * 65536 + g.toNat * 256 + i.toNat := by simp [beN]; omega
theorem be8_beN {l : List UInt8} (h : l.length = 8) : be8 (beN l) 8 = l := by
  obtain ⟨a, b, c, d, e, f, g, i, rfl⟩ := list8 h
  have ha := a.toNat_lt; have hb := b.toNat_lt; have hc := c.toNat_lt; have hd := d.toNat_lt; have he := e.toNat_lt; have hf := f.toNat_lt; have hg := g.toNat_lt; have hi := i.toNat_lt
  rw [beN8]
  simp only [be8, Nat.reducePow, Nat.reduceMul, Nat.reduceSub, List.nil_append, List.cons_append]
  rw [u8_of (c := a) (by omega), u8_of (c := b) (by omega), u8_of (c := c) (by omega), u8_of (c := d) (by omega), u8_of (c := e) (by omega), u8_of (c := f) (by omega), u8_of (c := g) (by omega), u8_of (c := i) (by omega)]

/-- The first byte, the number, and how many bytes they take. -/
def headP : List UInt8 → Except Nat (Nat × Nat × Nat)
  | [] => .error 2
  | f :: t =>
    if 27 < f.toNat % 32 then .error 3
    else if f.toNat % 32 < 24 then .ok (f.toNat, f.toNat % 32, 1)
    else if t.length < 2 ^ (f.toNat % 32 - 24) then .error 2
    else if f.toNat / 32 < 7 ∧ (headB 0 (beN (t.take (2 ^ (f.toNat % 32 - 24))))).length ≠ 1 + 2 ^ (f.toNat % 32 - 24) then .error 4
    else .ok (f.toNat, beN (t.take (2 ^ (f.toNat % 32 - 24))), 1 + 2 ^ (f.toNat % 32 - 24))

/-- The bits of 64 of a float that is given by 16 bits. -/
def widen5 (v : Nat) : Nat :=
  if v / 1024 % 32 = 31 then v / 32768 * 9223372036854775808 + 9218868437227405312 + v % 1024 * 4398046511104
  else if v / 1024 % 32 = 0 then (if v % 1024 = 0 then v / 32768 * 9223372036854775808 else v / 32768 * 9223372036854775808 + (999 + (v % 1024).log2) * 4503599627370496 + (v % 1024 * 2 ^ (52 - (v % 1024).log2) - 4503599627370496))
  else v / 32768 * 9223372036854775808 + (v / 1024 % 32 + 1008) * 4503599627370496 + v % 1024 * 4398046511104
/-- The bits of 64 of a float that is given by 32 bits. -/
def widen8 (v : Nat) : Nat :=
  if v / 8388608 % 256 = 255 then v / 2147483648 * 9223372036854775808 + 9218868437227405312 + v % 8388608 * 536870912
  else if v / 8388608 % 256 = 0 then (if v % 8388608 = 0 then v / 2147483648 * 9223372036854775808 else v / 2147483648 * 9223372036854775808 + (874 + (v % 8388608).log2) * 4503599627370496 + (v % 8388608 * 2 ^ (52 - (v % 8388608).log2) - 4503599627370496))
  else v / 2147483648 * 9223372036854775808 + (v / 8388608 % 256 + 896) * 4503599627370496 + v % 8388608 * 536870912
def wideP (low n : Nat) : Nat := if low = 25 then widen5 n else if low = 26 then widen8 n else n
def sevenP (low n : Nat) : Except Nat Itm :=
  if low < 24 then .ok (.mk 7 n [] [])
  else if low = 24 then (if n < 32 then .error 4 else .ok (.mk 7 n [] []))
  else if (isNaN (wideP low n) && wideP low n != notNumber) || (floatB (wideP low n)).length != 1 + 2 ^ (low - 24) then .error 4
  else .ok (.mk 8 (wideP low n) [] [])

/-- A list of items, read one behind the other. -/
inductive PL where
  | err (e : Nat)
  | ok (l : List Itm) (k c : Nat)
inductive PR where
  | err (e : Nat)
  | ok (x : Itm) (k c : Nat)
def arrP (p : List UInt8 → Nat → PR) : Nat → List UInt8 → Nat → PL
  | 0, _, c => .ok [] 0 c
  | n + 1, b, c => match p b c with
    | .err e => .err e
    | .ok x k c' => match arrP p n (b.drop k) c' with
      | .err e => .err e
      | .ok l k' c'' => .ok (x :: l) (k + k') c''
/-- Whether a key may follow another. -/
def keyP (last : Option (List UInt8)) (key : List UInt8) : Option Nat :=
  match last with
  | none => none
  | some l => if Lib.compareBytes key l = 0 then some 7 else if Lib.compareBytes key l < 0 then some 6 else none
def mapP (p : List UInt8 → Nat → PR) : Nat → List UInt8 → Nat → Option (List UInt8) → PL
  | 0, _, c, _ => .ok [] 0 c
  | n + 1, b, c, last => match p b c with
    | .err e => .err e
    | .ok x k c' => match keyP last (b.take k) with
      | some e => .err e
      | none => match p (b.drop k) c' with
        | .err e => .err e
        | .ok y k' c'' => match mapP p n (b.drop (k + k')) c'' (some (b.take k)) with
          | .err e => .err e
          | .ok l k'' c3 => .ok (x :: y :: l) (k + k' + k'') c3
/-- The item that the bytes begin with, within d levels, behind c items. -/
def parse : Nat → List UInt8 → Nat → PR
  | d, b, c =>
    if 256 ≤ c then .err 8
    else match headP b with
      | .error e => .err e
      | .ok (f, n, k) =>
        if f / 32 ≤ 1 then .ok (.mk (f / 32 : Nat) n [] []) k (c + 1)
        else if f / 32 ≤ 3 then
          (if b.length < k + n then .err 2
          else if f / 32 = 3 ∧ Lib.validD ((b.drop k).take n) = false then .err 5
          else .ok (.mk (f / 32 : Nat) 0 ((b.drop k).take n) []) (k + n) (c + 1))
        else if f / 32 = 7 then
          (match sevenP (f % 32) n with
          | .error e => .err e
          | .ok x => .ok x k (c + 1))
        else match d with
          | 0 => .err 8
          | d + 1 =>
            if f / 32 = 6 then (match parse d (b.drop k) (c + 1) with
              | .err e => .err e
              | .ok x k' c' => .ok (.mk 6 n [] [x]) (k + k') c')
            else if f / 32 = 5 then (match mapP (parse d) n (b.drop k) (c + 1) none with
              | .err e => .err e
              | .ok l k' c' => .ok (.mk 5 0 [] l) (k + k') c')
            else (match arrP (parse d) n (b.drop k) (c + 1) with
              | .err e => .err e
              | .ok l k' c' => .ok (.mk 4 0 [] l) (k + k') c')

/-! ### The head -/
theorem head_canon {m low : Nat} (hlow : 24 ≤ low ∧ low ≤ 27) {t : List UInt8} (ht : t.length = 2 ^ (low - 24)) (h : (headB 0 (beN t)).length = 1 + 2 ^ (low - 24)) : headB m (beN t) = u8 (m * 32 + low) :: t := by
  rw [headB_length] at h
  rcases (by omega : low = 24 ∨ low = 25 ∨ low = 26 ∨ low = 27) with rfl | rfl | rfl | rfl
  · obtain ⟨a, rfl⟩ := list1 (by simpa using ht)
    have := a.toNat_lt
    rw [beN1] at h ⊢
    rw [headB_XY]
    have h1 : 24 ≤ a.toNat := by
      simp at h
      repeat' split at h
      all_goals omega
    simp only [headX, headY, show ¬ a.toNat < 24 by omega, show a.toNat < 256 by omega, if_true, if_false]
    rw [u8_of (n := a.toNat) (c := a) (by omega)]
  · obtain ⟨a, b, rfl⟩ := list2 (by simpa using ht)
    have ha := a.toNat_lt; have hb := b.toNat_lt
    rw [beN2] at h ⊢
    obtain ⟨q, hq⟩ : ∃ q, a.toNat * 256 + b.toNat = q := ⟨_, rfl⟩
    rw [hq] at h ⊢
    have h1 : 256 ≤ q := by
      simp at h
      repeat' split at h
      all_goals omega
    rw [headB_XY]
    simp only [headX, headY, show ¬ q < 24 by omega, show ¬ q < 256 by omega, show q < 65536 by omega, if_true, if_false]
    rw [u8_of (n := q / 256) (c := a) (by omega), u8_of (n := q) (c := b) (by omega)]
  · obtain ⟨a, b, c, d, rfl⟩ := list4' (by simpa using ht)
    have ha := a.toNat_lt; have hb := b.toNat_lt; have hc := c.toNat_lt; have hd := d.toNat_lt
    rw [beN4] at h ⊢
    obtain ⟨q, hq⟩ : ∃ q, a.toNat * 16777216 + b.toNat * 65536 + c.toNat * 256 + d.toNat = q := ⟨_, rfl⟩
    rw [hq] at h ⊢
    have h1 : 65536 ≤ q := by
      simp at h
      repeat' split at h
      all_goals omega
    rw [headB_XY]
    simp only [headX, headY, show ¬ q < 24 by omega, show ¬ q < 256 by omega, show ¬ q < 65536 by omega, show q < 4294967296 by omega, if_true, if_false]
    rw [u8_of (n := q / 16777216) (c := a) (by omega), u8_of (n := q / 65536) (c := b) (by omega), u8_of (n := q / 256) (c := c) (by omega), u8_of (n := q) (c := d) (by omega)]
  · have h1 : 4294967296 ≤ beN t := by
      simp at h
      repeat' split at h
      all_goals omega
    rw [headB_XY]
    simp only [headX, headY, show ¬ beN t < 24 by omega, show ¬ beN t < 256 by omega, show ¬ beN t < 65536 by omega, show ¬ beN t < 4294967296 by omega, if_false]
    rw [be8_beN (by simpa using ht)]
structure HeadIs (b : List UInt8) (f n k : Nat) : Prop where
  le : k ≤ b.length
  pos : 0 < k
  f_lt : f < 256
  low : f % 32 ≤ 27
  small : f % 32 < 24 → n = f % 32 ∧ k = 1 ∧ b.take k = [u8 f]
  wide : 24 ≤ f % 32 → k = 1 + 2 ^ (f % 32 - 24) ∧ ∃ t, t.length = 2 ^ (f % 32 - 24) ∧ b.take k = u8 f :: t ∧ n = beN t
  n_lt : n < 18446744073709551616
  enc : f / 32 < 7 → headB (f / 32) n = b.take k
theorem headP_spec {b : List UInt8} {f n k : Nat} (h : headP b = .ok (f, n, k)) : HeadIs b f n k := by
  cases b with
  | nil => cases h
  | cons g t =>
    have hg := g.toNat_lt
    simp only [headP] at h
    split at h
    · cases h
    rename_i q1
    split at h
    · rename_i q2
      injection h with h
      simp only [Prod.mk.injEq] at h
      obtain ⟨rfl, rfl, rfl⟩ := h
      have hu : u8 g.toNat = g := u8_of (by omega)
      refine ⟨by simp, by omega, hg, by omega, fun _ => ⟨rfl, rfl, by simp [hu]⟩, fun h => by omega, by omega, fun h7 => ?_⟩
      rw [headB_XY]
      simp only [headX, headY, q2, if_true]
      rw [show g.toNat / 32 * 32 + g.toNat % 32 = g.toNat by omega, hu]
      simp
    rename_i q2
    split at h
    · cases h
    rename_i q3
    split at h
    · cases h
    rename_i q4
    injection h with h
    simp only [Prod.mk.injEq] at h
    obtain ⟨rfl, rfl, rfl⟩ := h
    have hu : u8 g.toNat = g := u8_of (by omega)
    obtain ⟨low, hlow⟩ : ∃ low, g.toNat % 32 = low := ⟨_, rfl⟩
    rw [hlow] at q1 q2 q3 q4 ⊢
    have hz : 2 ^ (low - 24) ≤ 8 := by
      rcases (by omega : low = 24 ∨ low = 25 ∨ low = 26 ∨ low = 27) with rfl | rfl | rfl | rfl <;> decide
    have htl : (t.take (2 ^ (low - 24))).length = 2 ^ (low - 24) := by rw [List.length_take]; omega
    have ht : (g :: t).take (1 + 2 ^ (low - 24)) = g :: t.take (2 ^ (low - 24)) := by rw [Nat.add_comm, List.take_succ_cons]
    refine ⟨by rw [List.length_cons]; omega, by omega, hg, by omega, fun h => by omega, fun _ => ⟨by rw [hlow], _, by rw [hlow]; exact htl, by rw [ht, hu], rfl⟩, ?_, fun h7 => ?_⟩
    · refine Nat.lt_of_lt_of_le (beN_lt _) ?_
      rw [htl]
      exact Nat.pow_le_pow_right (n := 256) (by omega) hz
    · rw [ht, head_canon (low := low) (by omega) htl (by
        rcases Nat.lt_or_ge 0 1 with _ | _
        · exact Classical.byContradiction fun h => q4 ⟨h7, h⟩
        · exact absurd ‹1 ≤ 0› (by omega)), show g.toNat / 32 * 32 + low = g.toNat by omega, hu]
end Go.Proofs.YtebcnkelbicbnaaGreatDoor
namespace Go.Proofs.YtebcnkelbicbnaaGreatDoor
open Go.RowKit

theorem nar_split {n s e m : Nat} (h : n = s * 9223372036854775808 + e * 4503599627370496 + m) (hs : s ≤ 1) (he : e < 2048) (hm : m < 4503599627370496) :
    n / 4503599627370496 % 2048 = e ∧ n % 4503599627370496 = m ∧ n / 9223372036854775808 = s := by subst h; refine ⟨?_, ?_, ?_⟩ <;> omega
theorem narrow15_of {n v s x f : Nat} (h : Nar15 n v s x f) : narrow n 5 10 = some v := by
  obtain ⟨a1, a2, a3, a4, h⟩ := h
  rcases h with ⟨h1, h2, h3⟩ | ⟨h1, h2, h3⟩ | ⟨h1, h2, h3⟩ | ⟨h1, t, full, h2, h3, h4, h5, h6, h7⟩
  · obtain ⟨k1, k2, k3⟩ := nar_split (n := n) (s := s) (e := 2047) (m := 0) (by rw [h3]) a1 (by omega) (by omega)
    rw [narrow]
    simp only [Nat.reducePow, Nat.reduceSub, Nat.reduceAdd, Nat.reduceMul]
    rw [k1, k2, k3, if_pos rfl, if_pos rfl]
    congr 1; omega
  · obtain ⟨k1, k2, k3⟩ := nar_split (n := n) (s := s) (e := 0) (m := 0) (by rw [h3, Nat.zero_mul, Nat.add_zero]) a1 (by omega) (by omega)
    rw [narrow]
    simp only [Nat.reducePow, Nat.reduceSub, Nat.reduceAdd, Nat.reduceMul]
    rw [k1, k2, k3, if_neg (by omega), if_pos rfl, if_pos rfl]
    congr 1; omega
  · obtain ⟨k1, k2, k3⟩ := nar_split (n := n) (s := s) (e := x + 1008) (m := f * 4398046511104) (by omega) a1 (by omega) (by omega)
    rw [narrow]
    simp only [Nat.reducePow, Nat.reduceSub, Nat.reduceAdd, Nat.reduceMul]
    rw [k1, k2, k3]
    rw [if_neg (by omega), if_neg (by omega), if_neg (by omega), if_pos (by omega), if_pos (by omega)]
    congr 1; omega
  · have e2 : 2 ^ (t + 1) * 2 ^ (52 - t) = 9007199254740992 := by
      rw [← Nat.pow_add, show t + 1 + (52 - t) = 53 by omega]
    have b2 := Nat.mul_lt_mul_of_pos_right h4 (Nat.two_pow_pos (52 - t))
    rw [e2, ← h5] at b2
    obtain ⟨k1, k2, k3⟩ := nar_split (n := n) (s := s) (e := 999 + t) (m := full - 4503599627370496) h7 a1 (by omega) (by omega)
    rw [narrow]
    simp only [Nat.reducePow, Nat.reduceSub, Nat.reduceAdd, Nat.reduceMul]
    rw [k1, k2, k3]
    rw [if_neg (by omega), if_neg (by omega), if_neg (by omega), if_neg (by omega), if_neg (by omega), show 43 + (1023 - (999 + t) - 15) = 52 - t by omega, show full - 4503599627370496 + 4503599627370496 = full by omega, h5, if_pos (Nat.mul_mod_left _ _), Nat.mul_div_cancel _ (Nat.two_pow_pos _)]
    congr 1; omega
theorem sub_full {f t : Nat} (h1 : 2 ^ t ≤ f) (h2 : f < 2 ^ (t + 1)) (ht : t ≤ 52) : 4503599627370496 ≤ f * 2 ^ (52 - t) ∧ f * 2 ^ (52 - t) < 9007199254740992 := by
  have e1 : 2 ^ t * 2 ^ (52 - t) = 4503599627370496 := by
    rw [← Nat.pow_add, show t + (52 - t) = 52 by omega]
  have e2 : 2 ^ (t + 1) * 2 ^ (52 - t) = 9007199254740992 := by
    rw [← Nat.pow_add, show t + 1 + (52 - t) = 53 by omega]
  have b1 := Nat.mul_le_mul_right (2 ^ (52 - t)) h1
  have b2 := Nat.mul_lt_mul_of_pos_right h2 (Nat.two_pow_pos (52 - t))
  omega
theorem widen5_nar {v : Nat} (hv : v < 65536) (hn : ¬ (v / 1024 % 32 = 31 ∧ v % 1024 ≠ 0)) : Nar15 (widen5 v) v (v / 32768) (v / 1024 % 32) (v % 1024) ∧ widen5 v < 18446744073709551616 := by
  obtain ⟨s, hs⟩ : ∃ s, v / 32768 = s := ⟨_, rfl⟩
  obtain ⟨x, hx⟩ : ∃ x, v / 1024 % 32 = x := ⟨_, rfl⟩
  obtain ⟨f, hf⟩ : ∃ f, v % 1024 = f := ⟨_, rfl⟩
  have hs1 : s ≤ 1 := by omega
  have hx1 : x ≤ 31 := by omega
  have hf1 : f < 1024 := by omega
  have hv2 : v = s * 32768 + x * 1024 + f := by omega
  rw [hx, hf] at hn
  rw [widen5, hs, hx, hf]
  clear hs hx hf
  by_cases h1 : x = 31
  · have h0 : f = 0 := by omega
    subst h0
    rw [if_pos h1]
    exact ⟨⟨hs1, hv2, by omega, hx1, .inl ⟨h1, rfl, by omega⟩⟩, by omega⟩
  rw [if_neg h1]
  by_cases h2 : x = 0
  · rw [if_pos h2]
    by_cases h0 : f = 0
    · rw [if_pos h0]
      exact ⟨⟨hs1, hv2, by omega, hx1, .inr (.inl ⟨h2, h0, rfl⟩)⟩, by omega⟩
    · rw [if_neg h0]
      have a1 : 2 ^ f.log2 ≤ f := Nat.log2_self_le h0
      have a2 : f < 2 ^ (f.log2 + 1) := Nat.lt_log2_self
      have a3 : f.log2 < 10 := (Nat.log2_lt h0).2 (by simpa using hf1)
      generalize f.log2 = t at a1 a2 a3
      have b := sub_full a1 a2 (by omega)
      obtain ⟨full, hfull⟩ : ∃ full, f * 2 ^ (52 - t) = full := ⟨_, rfl⟩
      rw [hfull] at b ⊢
      exact ⟨⟨hs1, hv2, by omega, hx1, .inr (.inr (.inr ⟨h2, t, full, a3, a1, a2, hfull.symm, b.1, rfl⟩))⟩, by omega⟩
  · rw [if_neg h2]
    exact ⟨⟨hs1, hv2, by omega, hx1, .inr (.inr (.inl ⟨by omega, by omega, rfl⟩))⟩, by omega⟩
theorem widen8_nar {v : Nat} (hv : v < 4294967296) (hn : ¬ (v / 8388608 % 256 = 255 ∧ v % 8388608 ≠ 0)) : Nar31 (widen8 v) v (v / 2147483648) (v / 8388608 % 256) (v % 8388608) ∧ widen8 v < 18446744073709551616 := by
  obtain ⟨s, hs⟩ : ∃ s, v / 2147483648 = s := ⟨_, rfl⟩
  obtain ⟨x, hx⟩ : ∃ x, v / 8388608 % 256 = x := ⟨_, rfl⟩
  obtain ⟨f, hf⟩ : ∃ f, v % 8388608 = f := ⟨_, rfl⟩
  have hs1 : s ≤ 1 := by omega
  have hx1 : x ≤ 255 := by omega
  have hf1 : f < 8388608 := by omega
  have hv2 : v = s * 2147483648 + x * 8388608 + f := by omega
  rw [hx, hf] at hn
  rw [widen8, hs, hx, hf]
  clear hs hx hf
  by_cases h1 : x = 255
  · have h0 : f = 0 := by omega
    subst h0
    rw [if_pos h1]
    exact ⟨⟨hs1, hv2, by omega, hx1, .inl ⟨h1, rfl, by omega⟩⟩, by omega⟩
  rw [if_neg h1]
  by_cases h2 : x = 0
  · rw [if_pos h2]
    by_cases h0 : f = 0
    · rw [if_pos h0]
      exact ⟨⟨hs1, hv2, by omega, hx1, .inr (.inl ⟨h2, h0, rfl⟩)⟩, by omega⟩
    · rw [if_neg h0]
      have a1 : 2 ^ f.log2 ≤ f := Nat.log2_self_le h0
      have a2 : f < 2 ^ (f.log2 + 1) := Nat.lt_log2_self
      have a3 : f.log2 < 23 := (Nat.log2_lt h0).2 (by simpa using hf1)
      generalize f.log2 = t at a1 a2 a3
      have b := sub_full a1 a2 (by omega)
      obtain ⟨full, hfull⟩ : ∃ full, f * 2 ^ (52 - t) = full := ⟨_, rfl⟩
      rw [hfull] at b ⊢
      exact ⟨⟨hs1, hv2, by omega, hx1, .inr (.inr (.inr ⟨h2, t, full, a3, a1, a2, hfull.symm, b.1, rfl⟩))⟩, by omega⟩
  · rw [if_neg h2]
    exact ⟨⟨hs1, hv2, by omega, hx1, .inr (.inr (.inl ⟨by omega, by omega, rfl⟩))⟩, by omega⟩
theorem nan_of {n s m : Nat} (h : n = s * 9223372036854775808 + 2047 * 4503599627370496 + m) (hs : s ≤ 1) (hm : m < 4503599627370496) (h0 : m ≠ 0) : isNaN n = true := by
  obtain ⟨k1, k2, _⟩ := nar_split h hs (by omega) hm
  rw [isNaN]
  simp only [Nat.reducePow, k1, k2]
  simp [h0]
theorem notNaN_of {n e m s : Nat} (h : n = s * 9223372036854775808 + e * 4503599627370496 + m) (hs : s ≤ 1) (he : e ≤ 2047) (hm : m < 4503599627370496) (h0 : e = 2047 → m = 0) : isNaN n = false := by
  obtain ⟨k1, k2, _⟩ := nar_split h hs (by omega) hm
  rw [isNaN]
  simp only [Nat.reducePow, k1, k2]
  rcases Nat.lt_or_ge e 2047 with h' | h'
  · have : (e == 2047) = false := by simp; omega
    rw [this]; rfl
  · rw [h0 (by omega)]; simp
theorem nar15_notNaN {n v s x f : Nat} (h : Nar15 n v s x f) : isNaN n = false := by
  obtain ⟨a1, a2, a3, a4, h⟩ := h
  rcases h with ⟨h1, h2, h3⟩ | ⟨h1, h2, h3⟩ | ⟨h1, h2, h3⟩ | ⟨h1, t, full, h2, h3, h4, h5, h6, h7⟩
  · exact notNaN_of (s := s) (e := 2047) (m := 0) (by rw [h3]) a1 (by omega) (by omega) (fun _ => rfl)
  · exact notNaN_of (s := s) (e := 0) (m := 0) (by rw [h3, Nat.zero_mul, Nat.add_zero]) a1 (by omega) (by omega) (fun _ => rfl)
  · exact notNaN_of (s := s) (e := x + 1008) (m := f * 4398046511104) (by omega) a1 (by omega) (by omega) (fun h => by omega)
  · have b := sub_full h3 h4 (by omega)
    rw [← h5] at b
    exact notNaN_of (s := s) (e := 999 + t) (m := full - 4503599627370496) h7 a1 (by omega) (by omega) (fun h => by omega)
theorem nar31_notNaN {n v s x f : Nat} (h : Nar31 n v s x f) : isNaN n = false := by
  obtain ⟨a1, a2, a3, a4, h⟩ := h
  rcases h with ⟨h1, h2, h3⟩ | ⟨h1, h2, h3⟩ | ⟨h1, h2, h3⟩ | ⟨h1, t, full, h2, h3, h4, h5, h6, h7⟩
  · exact notNaN_of (s := s) (e := 2047) (m := 0) (by rw [h3]) a1 (by omega) (by omega) (fun _ => rfl)
  · exact notNaN_of (s := s) (e := 0) (m := 0) (by rw [h3, Nat.zero_mul, Nat.add_zero]) a1 (by omega) (by omega) (fun _ => rfl)
  · exact notNaN_of (s := s) (e := x + 896) (m := f * 536870912) (by omega) a1 (by omega) (by omega) (fun h => by omega)
  · have b := sub_full h3 h4 (by omega)
    rw [← h5] at b
    exact notNaN_of (s := s) (e := 874 + t) (m := full - 4503599627370496) h7 a1 (by omega) (by omega) (fun h => by omega)
theorem widen5_nan {v : Nat} (hv : v < 65536) (h : v / 1024 % 32 = 31 ∧ v % 1024 ≠ 0) : isNaN (widen5 v) = true ∧ (widen5 v = notNumber ↔ v = 32256) := by
  obtain ⟨h1, h2⟩ := h
  have e : widen5 v = v / 32768 * 9223372036854775808 + 2047 * 4503599627370496 + v % 1024 * 4398046511104 := by rw [widen5, if_pos h1]
  refine ⟨nan_of e (by omega) (by omega) (by omega), ?_⟩
  rw [e, notNumber]
  omega
theorem widen8_nan {v : Nat} (hv : v < 4294967296) (h : v / 8388608 % 256 = 255 ∧ v % 8388608 ≠ 0) : isNaN (widen8 v) = true := by
  obtain ⟨h1, h2⟩ := h
  have e : widen8 v = v / 2147483648 * 9223372036854775808 + 2047 * 4503599627370496 + v % 8388608 * 536870912 := by rw [widen8, if_pos h1]
  exact nan_of e (by omega) (by omega) (by omega)
theorem floatB_nan {n : Nat} (h : isNaN n = true) : floatB n = [u8 249, u8 126, u8 0] := by rw [floatB, if_pos h]
theorem floatB_len3 {n : Nat} (h : isNaN n = false) : (floatB n).length = (if (narrow n 5 10).isSome then 3 else if (narrow n 8 23).isSome then 5 else 9) := by
  rw [floatB, if_neg (by simp [h])]
  cases narrow n 5 10 with
  | some v => rfl
  | none => cases narrow n 8 23 with
    | some v => rfl
    | none => simp [be8_length]
theorem float_spec {low n f : Nat} (hl : 25 ≤ low ∧ low ≤ 27) {t : List UInt8} (ht : t.length = 2 ^ (low - 24)) (hn : n = beN t) (hf : f = wideP low n)
    (h1 : ¬ (isNaN f = true ∧ f ≠ notNumber)) (h2 : (floatB f).length = 1 + 2 ^ (low - 24)) : floatB f = u8 (7 * 32 + low) :: t ∧ f < 18446744073709551616 := by
  rcases (by omega : low = 25 ∨ low = 26 ∨ low = 27) with rfl | rfl | rfl
  · obtain ⟨a, b, rfl⟩ := list2 (by simpa using ht)
    have ha := a.toNat_lt; have hb := b.toNat_lt
    rw [beN2] at hn
    have hv : n < 65536 := by omega
    rw [wideP, if_pos rfl] at hf
    by_cases hx : n / 1024 % 32 = 31 ∧ n % 1024 ≠ 0
    · obtain ⟨q1, q2⟩ := widen5_nan hv hx
      rw [← hf] at q1 q2
      have hf2 : f = notNumber := Classical.byContradiction fun h => h1 ⟨q1, h⟩
      have hn2 := q2.1 hf2
      rw [floatB_nan q1]
      refine ⟨?_, by rw [hf2]; decide⟩
      rw [u8_of (n := 126) (c := a) (by omega), u8_of (n := 0) (c := b) (by omega)]
    · obtain ⟨q1, q2⟩ := widen5_nar hv hx
      rw [← hf] at q1 q2
      refine ⟨?_, q2⟩
      rw [floatB, if_neg (by rw [nar15_notNaN q1]; simp), narrow15_of q1]
      simp only
      rw [u8_of (n := n / 256) (c := a) (by omega), u8_of (n := n) (c := b) (by omega)]
  · obtain ⟨a, b, c, d, rfl⟩ := list4' (by simpa using ht)
    have ha := a.toNat_lt; have hb := b.toNat_lt; have hc := c.toNat_lt; have hd := d.toNat_lt
    rw [beN4] at hn
    have hv : n < 4294967296 := by omega
    rw [wideP, if_neg (by omega), if_pos rfl] at hf
    by_cases hx : n / 8388608 % 256 = 255 ∧ n % 8388608 ≠ 0
    · have q1 := widen8_nan hv hx
      rw [← hf] at q1
      rw [floatB_nan q1] at h2
      simp at h2
    · obtain ⟨q1, q2⟩ := widen8_nar hv hx
      rw [← hf] at q1 q2
      refine ⟨?_, q2⟩
      have q3 := nar31_notNaN q1
      have q4 := narrow31_of q1
      rw [floatB_len3 q3, q4] at h2
      have q5 : narrow f 5 10 = none := by
        cases h : narrow f 5 10 with
        | none => rfl
        | some v => rw [h] at h2; simp at h2
      rw [floatB, if_neg (by rw [q3]; simp), q5, q4]
      simp only
      rw [u8_of (n := n / 16777216) (c := a) (by omega), u8_of (n := n / 65536) (c := b) (by omega), u8_of (n := n / 256) (c := c) (by omega), u8_of (n := n) (c := d) (by omega)]
  · have ht8 : t.length = 8 := by simpa using ht
    have hb := beN_lt t
    rw [ht8, ← hn] at hb
    rw [wideP, if_neg (by omega), if_neg (by omega)] at hf
    subst hf
    refine ⟨?_, by omega⟩
    cases q3 : isNaN f with
    | true =>
      rw [floatB_nan q3] at h2
      simp at h2
    | false =>
      rw [floatB_len3 q3] at h2
      have q5 : narrow f 5 10 = none := by
        cases h : narrow f 5 10 with
        | none => rfl
        | some v => rw [h] at h2; simp at h2
      have q6 : narrow f 8 23 = none := by
        cases h : narrow f 8 23 with
        | none => rfl
        | some v => rw [h, q5] at h2; simp at h2
      rw [floatB, if_neg (by rw [q3]; simp), q5, q6]
      simp only
      rw [hn, be8_beN ht8]
theorem seven_spec {low n : Nat} {x : Itm} (hl : low ≤ 27) {t : List UInt8} (h24 : low < 24 → n = low ∧ t = []) (hw : 24 ≤ low → t.length = 2 ^ (low - 24) ∧ n = beN t) (h : sevenP low n = .ok x) :
    encB x = u8 (7 * 32 + low) :: t ∧ (∀ lv, Good x lv) ∧ x.n < 18446744073709551616 ∧ x.items = [] ∧ cnt x = 1 := by
  rw [sevenP] at h
  have good7 : ∀ (n : Nat), (n < 24 ∨ 32 ≤ n ∧ n < 256) → ∀ lv, Good (.mk 7 n [] []) lv := fun n hn lv => by
    rw [Good]
    refine ⟨?_, ?_, fun h => by omega⟩
    · rw [nodeOk, if_pos (by simp [isPlain, Itm.kind])]
      rcases hn with hn | ⟨h1, h2⟩ <;> simp [okPlain, Itm.kind, Itm.n, Itm.bytes, Itm.items, *]
    · rw [GoodL]; trivial
  split at h
  · rename_i q1
    injection h with h
    subst h
    obtain ⟨rfl, rfl⟩ := h24 q1
    refine ⟨?_, good7 _ (.inl q1), by simp only [Itm.n]; omega, rfl, by simp [cnt, cntL]⟩
    rw [encB_eq, if_neg (by simp [Itm.kind]), if_neg (by simp [Itm.n]; omega)]
    have e : numP (.mk 7 n [] []) = n := by simp [numP, Itm.kind, Itm.n]
    rw [e, headB, if_pos q1]
    simp [Itm.bytes, Itm.items, Itm.kind, encL]
  split at h
  · rename_i q1 q2
    subst q2
    split at h
    · cases h
    rename_i q3
    injection h with h
    subst h
    obtain ⟨ht, hn⟩ := hw (by omega)
    obtain ⟨a, rfl⟩ := list1 (by simpa using ht)
    have ha := a.toNat_lt
    rw [beN1] at hn
    refine ⟨?_, good7 _ (.inr (by omega)), by simp only [Itm.n]; omega, rfl, by simp [cnt, cntL]⟩
    rw [encB_eq, if_neg (by simp [Itm.kind]), if_pos (by simp [Itm.n, Itm.kind]; omega)]
    simp only [Itm.n]
    rw [u8_of (n := n) (c := a) (by omega)]
  · rename_i q1 q2
    split at h
    · cases h
    rename_i q3
    injection h with h
    subst h
    obtain ⟨ht, hn⟩ := hw (by omega)
    simp only [Bool.or_eq_true, Bool.and_eq_true, bne_iff_ne, ne_eq, not_or] at q3
    obtain ⟨q3, q4⟩ := q3
    have q4' := Classical.not_not.1 q4
    obtain ⟨e, he⟩ := float_spec (low := low) (n := n) (by omega) ht hn rfl q3 q4'
    refine ⟨?_, fun lv => ?_, he, rfl, by simp [cnt, cntL]⟩
    · rw [encB_eq, if_pos (by simp [Itm.kind])]
      exact e
    · rw [Good]
      refine ⟨?_, by rw [GoodL]; trivial, fun h => by omega⟩
      rw [nodeOk, if_pos (by simp [isPlain, Itm.kind])]
      simp [okPlain, Itm.kind, Itm.n, Itm.bytes, Itm.items]
      cases hN : isNaN (wideP low n) with
      | false => exact .inl rfl
      | true => exact .inr (Classical.byContradiction fun h => q3 ⟨hN, h⟩)
end Go.Proofs.YtebcnkelbicbnaaGreatDoor
