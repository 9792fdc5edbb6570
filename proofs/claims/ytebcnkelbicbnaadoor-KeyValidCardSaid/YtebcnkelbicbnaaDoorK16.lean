/- The world's memory as data: what the arguments are. Reading data items: plain mathematics. What a parser makes of bytes, and that its items encode to the bytes they were read from. Reading data items, fourth part: long counts, prefixes, whole items; plain mathematics. The messages of a key exchange as lists of bytes: plain mathematics. External data, suites: their bytes; plain mathematics. Walks: the deck's bytes. Walks: the deck's texts and numbers. -/
import Derived.Test.YtebcnkelbicbnaaDoorK15
import Derived.ChangeSlices
import Derived.OpenShut
import Derived.Test.YtebcnkelbicbnaaDoorK09
import Derived.Test.YtebcnkelbicbnaaDoorK05
set_option linter.unusedVariables false
set_option linter.unusedSimpArgs false
namespace Go.Proofs.YtebcnkelbicbnaaDoor
open Go.RowKit

/-- All that lies in the world's memory. -/
def heapS (W : World) : Snap := fun b => W.heap[b]?
theorem heapS_cell (W : World) (a : Addr) : (heapS W).cell? a = W.cell? a := rfl
theorem heapS_holds (W : World) : Holds W (heapS W) := fun _ _ h => h
theorem heapS_tabs {W : World} (h : Lib.Utf8Tabs 2 3 W) : Tabs (heapS W) := fun _ hw =>
  ⟨fun c hc => hw.cell (h.1 c hc), fun i hi => ⟨hw.cell (h.2 i hi).1, hw.cell (h.2 i hi).2⟩⟩
theorem wf_i64_bnd {n : Int} (h : (Lit.int .i64 n).wf = true) : -9223372036854775808 ≤ n ∧ n ≤ 9223372036854775807 := by
  simp [Lit.wf, IntKind.min, IntKind.max, IntKind.signed, IntKind.bits] at h
  omega
theorem wf_u8_bnd {n : Int} (h : (Lit.int .u8 n).wf = true) : 0 ≤ n ∧ n < 256 := by
  simp [Lit.wf, IntKind.min, IntKind.max, IntKind.signed, IntKind.bits] at h
  omega
theorem ints_heap {W : World} {a : Addr} {len cap : Nat} {zs : List Int} (hl : len ≤ cap) (hm : cap ≤ maxLen) (hz : len ≤ zs.length)
    (hc : ∀ i, i < zs.length → W.cell? (a.add i) = some (.int .i64 (zs.getD i 0))) (wf : ∀ n ∈ zs, (Lit.int .i64 n).wf = true) : IsInts (heapS W) (some a) cap (zs.take len) ∧ (zs.take len).length = len := by
  have hlen : (zs.take len).length = len := by rw [List.length_take]; omega
  refine ⟨⟨by rw [hlen]; exact hl, by simpa [maxLen] using hm, fun hne => ?_, fun x hx => wf_i64_bnd (wf x (List.mem_of_mem_take hx))⟩, hlen⟩
  have h0 : 0 < len := by
    rcases Nat.eq_zero_or_pos len with h | h
    · subst h; simp at hne
    · exact h
  obtain ⟨b, off, rfl, hcell⟩ := ints_at hc (by omega)
  refine ⟨b, off, rfl, fun j v hj => ?_⟩
  rw [List.getElem?_map] at hj
  obtain ⟨x, hx, rfl⟩ := Option.map_eq_some_iff.1 hj
  have hjl := (List.getElem?_eq_some_iff.1 hx).1
  rw [hlen] at hjl
  rw [heapS_cell, hcell j (by omega)]
  rw [List.getElem?_take, if_pos hjl] at hx
  simp [List.getD, hx]
/-- Bytes that are given as numbers. -/
def bytesOfInts (zs : List Int) : List UInt8 := zs.map fun n => u8 n.toNat
theorem bytes_heap {W : World} {a : Addr} {len cap : Nat} {zs : List Int} (hl : len ≤ cap) (hm : cap ≤ maxLen) (hz : len ≤ zs.length)
    (hc : ∀ i, i < zs.length → W.cell? (a.add i) = some (.int .u8 (zs.getD i 0))) (wf : ∀ n ∈ zs, (Lit.int .u8 n).wf = true) : IsBytes (heapS W) (some a) cap (bytesOfInts (zs.take len)) ∧ (bytesOfInts (zs.take len)).length = len := by
  have hlen : (bytesOfInts (zs.take len)).length = len := by rw [bytesOfInts, List.length_map, List.length_take]; omega
  refine ⟨⟨by rw [hlen]; exact hl, by simpa [maxLen] using hm, fun hne => ?_⟩, hlen⟩
  have h0 : 0 < len := by
    rcases Nat.eq_zero_or_pos len with h | h
    · subst h; simp [bytesOfInts] at hne
    · exact h
  obtain ⟨b, off, rfl, hcell⟩ := ints_at hc (by omega)
  refine ⟨b, off, rfl, fun j v hj => ?_⟩
  rw [bytesOfInts, List.map_map, List.getElem?_map] at hj
  obtain ⟨x, hx, rfl⟩ := Option.map_eq_some_iff.1 hj
  rw [List.getElem?_take] at hx
  split at hx
  · rename_i hjl
    have hb := wf_u8_bnd (wf x (List.mem_of_getElem? hx))
    rw [heapS_cell, hcell j (by omega)]
    simp [List.getD, hx, byteV, u8_toNat]
    omega
  · cases hx
end Go.Proofs.YtebcnkelbicbnaaDoor
namespace Go.Proofs.YtebcnkelbicbnaaDoor
open Go.RowKit

/-- The number that bytes are, the greatest first. -/
def beN (l : List UInt8) : Nat := l.foldl (fun x c => x * 256 + c.toNat) 0
/-- The first byte, the number, and how many bytes they take. -/
def headP : List UInt8 → Except Nat (Nat × Nat × Nat)
  | [] => .error 2
  | f :: t =>
    if 27 < f.toNat % 32 then .error 3
    else if f.toNat % 32 < 24 then .ok (f.toNat, f.toNat % 32, 1)
    else if t.length < 2 ^ (f.toNat % 32 - 24) then .error 2
    else if f.toNat / 32 < 7 ∧ (headB 0 (beN (t.take (2 ^ (f.toNat % 32 - 24))))).length ≠ 1 + 2 ^ (f.toNat % 32 - 24) then .error 4
    else .ok (f.toNat, beN (t.take (2 ^ (f.toNat % 32 - 24))), 1 + 2 ^ (f.toNat % 32 - 24))

/-- The bits of 64 of a float that is given by 16 bits. -/
def widen5 (v : Nat) : Nat :=
  if v / 1024 % 32 = 31 then v / 32768 * 9223372036854775808 + 9218868437227405312 + v % 1024 * 4398046511104
  else if v / 1024 % 32 = 0 then (if v % 1024 = 0 then v / 32768 * 9223372036854775808 else v / 32768 * 9223372036854775808 + (999 + (v % 1024).log2) * 4503599627370496 + (v % 1024 * 2 ^ (52 - (v % 1024).log2) - 4503599627370496))
  else v / 32768 * 9223372036854775808 + (v / 1024 % 32 + 1008) * 4503599627370496 + v % 1024 * 4398046511104
/-- The bits of 64 of a float that is given by 32 bits. -/
def widen8 (v : Nat) : Nat :=
  if v / 8388608 % 256 = 255 then v / 2147483648 * 9223372036854775808 + 9218868437227405312 + v % 8388608 * 536870912
  else if v / 8388608 % 256 = 0 then (if v % 8388608 = 0 then v / 2147483648 * 9223372036854775808 else v / 2147483648 * 9223372036854775808 + (874 + (v % 8388608).log2) * 4503599627370496 + (v % 8388608 * 2 ^ (52 - (v % 8388608).log2) - 4503599627370496))
  else v / 2147483648 * 9223372036854775808 + (v / 8388608 % 256 + 896) * 4503599627370496 + v % 8388608 * 536870912
def wideP (low n : Nat) : Nat := if low = 25 then widen5 n else if low = 26 then widen8 n else n
def sevenP (low n : Nat) : Except Nat Itm :=
  if low < 24 then .ok (.mk 7 n [] [])
  else if low = 24 then (if n < 32 then .error 4 else .ok (.mk 7 n [] []))
  else if (isNaN (wideP low n) && wideP low n != notNumber) || (floatB (wideP low n)).length != 1 + 2 ^ (low - 24) then .error 4
  else .ok (.mk 8 (wideP low n) [] [])

/-- A list of items, read one behind the other. -/
inductive PL where
  | err (e : Nat)
  | ok (l : List Itm) (k c : Nat)
inductive PR where
  | err (e : Nat)
  | ok (x : Itm) (k c : Nat)
def arrP (p : List UInt8 → Nat → PR) : Nat → List UInt8 → Nat → PL
  | 0, _, c => .ok [] 0 c
  | n + 1, b, c => match p b c with
    | .err e => .err e
    | .ok x k c' => match arrP p n (b.drop k) c' with
      | .err e => .err e
      | .ok l k' c'' => .ok (x :: l) (k + k') c''
/-- Whether a key may follow another. -/
def keyP (last : Option (List UInt8)) (key : List UInt8) : Option Nat :=
  match last with
  | none => none
  | some l => if Lib.compareBytes key l = 0 then some 7 else if Lib.compareBytes key l < 0 then some 6 else none
def mapP (p : List UInt8 → Nat → PR) : Nat → List UInt8 → Nat → Option (List UInt8) → PL
  | 0, _, c, _ => .ok [] 0 c
  | n + 1, b, c, last => match p b c with
    | .err e => .err e
    | .ok x k c' => match keyP last (b.take k) with
      | some e => .err e
      | none => match p (b.drop k) c' with
        | .err e => .err e
        | .ok y k' c'' => match mapP p n (b.drop (k + k')) c'' (some (b.take k)) with
          | .err e => .err e
          | .ok l k'' c3 => .ok (x :: y :: l) (k + k' + k'') c3
/-- The item that the bytes begin with, within d levels, behind c items. -/
def parse : Nat → List UInt8 → Nat → PR
  | d, b, c =>
    if 256 ≤ c then .err 8
    else match headP b with
      | .error e => .err e
      | .ok (f, n, k) =>
        if f / 32 ≤ 1 then .ok (.mk (f / 32 : Nat) n [] []) k (c + 1)
        else if f / 32 ≤ 3 then
          (if b.length < k + n then .err 2
          else if f / 32 = 3 ∧ Lib.validD ((b.drop k).take n) = false then .err 5
          else .ok (.mk (f / 32 : Nat) 0 ((b.drop k).take n) []) (k + n) (c + 1))
        else if f / 32 = 7 then
          (match sevenP (f % 32) n with
          | .error e => .err e
          | .ok x => .ok x k (c + 1))
        else match d with
          | 0 => .err 8
          | d + 1 =>
            if f / 32 = 6 then (match parse d (b.drop k) (c + 1) with
              | .err e => .err e
              | .ok x k' c' => .ok (.mk 6 n [] [x]) (k + k') c')
            else if f / 32 = 5 then (match mapP (parse d) n (b.drop k) (c + 1) none with
              | .err e => .err e
              | .ok l k' c' => .ok (.mk 5 0 [] l) (k + k') c')
            else (match arrP (parse d) n (b.drop k) (c + 1) with
              | .err e => .err e
              | .ok l k' c' => .ok (.mk 4 0 [] l) (k + k') c')

end Go.Proofs.YtebcnkelbicbnaaDoor
namespace Go.Proofs.YtebcnkelbicbnaaDoor
open Go.RowKit

/-- An item at the beginning of bytes. -/
def prefixP (b : List UInt8) : PR := parse 8 (b.take 4096) 0
end Go.Proofs.YtebcnkelbicbnaaDoor
namespace Go.Proofs.YtebcnkelbicbnaaDoor
open Go.RowKit

structure Ext where
  label : Int
  has : Bool
  val : List UInt8
/-- The number of an item, if its magnitude is at most lim. -/
def numE (x : Itm) (lim : Nat) : Option Int :=
  if x.kind = 0 ∧ x.n ≤ lim then some (x.n : Int) else if x.kind = 1 ∧ x.n < lim then some (-1 - (x.n : Int)) else none
def intB (n : Int) : List UInt8 := if n < 0 then headB 1 (-1 - n).toNat else headB 0 n.toNat
/-- Reading external data; n: more than there are bytes. -/
def decExtN : Nat → List Ext → List UInt8 → Except Nat (List Ext)
  | 0, out, _ => .ok out
  | n + 1, out, b =>
    if b.length = 0 then .ok out
    else match prefixP b with
      | .err e => .error e
      | .ok x k _ =>
        if x.kind = 2 then
          (match out.getLast? with
          | none => .error 4
          | some l =>
            if l.has then .error 4 else if 600 < x.bytes.length then .error 8
            else decExtN n (out.dropLast ++ [{ l with has := true, val := x.bytes }]) (b.drop k))
        else match numE x 65535 with
          | none => .error 4
          | some v => if out.length = 4 then .error 8 else decExtN n (out ++ [{ label := v, has := false, val := [] }]) (b.drop k)
def decExt (b : List UInt8) : Except Nat (List Ext) := decExtN (b.length + 1) [] b
def shortB (c : UInt8) : Bool := decide (c.toNat < 24) || decide (32 ≤ c.toNat) && decide (c.toNat < 56)
def parseConn (b : List UInt8) : Except Nat (List UInt8 × Nat) :=
  match b with
  | [] => .error 2
  | x :: t =>
    if shortB x then .ok ([x], 1)
    else if x.toNat < 64 ∨ 88 < x.toNat then .error 4
    else if 7 < x.toNat - 64 then .error 8
    else if b.length < 1 + (x.toNat - 64) then .error 2
    else if x.toNat - 64 = 1 ∧ shortB (b.getD 1 0) then .error 4
    else .ok (t.take (x.toNat - 64), 1 + (x.toNat - 64))
/-- An element stands twice. -/
def twice : List Int → Bool
  | [] => false
  | x :: l => l.contains x || twice l
structure First where
  method : Int
  suites : List Int
  gx : List UInt8
  conn : List UInt8
  ext : List Ext
def numsE : List Itm → Option (List Int)
  | [] => some []
  | x :: l => match numE x 65535 with
    | none => none
    | some v => if v < 0 then none else match numsE l with
      | none => none
      | some t => some (v :: t)
def suitesE (x : Itm) : Except Nat (List Int) :=
  if x.kind = 0 then (if x.n ≤ 65535 then .ok [(x.n : Int)] else .error 4)
  else if x.kind ≠ 4 ∨ x.items.length < 2 then .error 4
  else match numsE x.items with
    | none => .error 4
    | some l => if twice l then .error 7 else if 8 < l.length then .error 8 else .ok l
end Go.Proofs.YtebcnkelbicbnaaDoor
namespace Go.Proofs.YtebcnkelbicbnaaDoor
open Go.RowKit

theorem good_intP (n : Int) (lv : Nat) : Good (intP n) lv := by
  rw [intP]
  split <;> (rw [Good]; refine ⟨?_, by rw [GoodL]; trivial, by intro h; omega⟩; simp [nodeOk, isPlain, okPlain, frameOk, Itm.kind, Itm.bytes, Itm.items, Itm.n])
theorem encB_intP (n : Int) : encB (intP n) = intB n := by
  rw [enc_num (good_intP n 0) (by rw [intP]; split <;> simp [Itm.kind]), intP, intB]
  split <;> rfl
end Go.Proofs.YtebcnkelbicbnaaDoor
namespace Go.Proofs.YtebcnkelbicbnaaDoor
open Go.RowKit

section
variable {w w' w'' : World} {H H' H'' : Snap} {g : Nat}
theorem GrowsBut.refl (hH : Holds w H) (g : Nat) : GrowsBut w H w H g := ⟨grown_refl w _, Snap.le.refl _, hH, fun _ _ h => .inl h⟩
theorem GrowsBut.trans (h : GrowsBut w H w' H' g) (k : GrowsBut w' H' w'' H'' g) : GrowsBut w H w'' H'' g :=
  ⟨grown_step h.grown k.grown (.inl rfl), h.le.trans k.le, k.holds, fun b o hb => by
    rcases k.fresh b o hb with h1 | h1
    · exact h.fresh b o h1
    · exact .inr (Nat.le_trans h.grown.size h1)⟩
theorem Grows.but (h : Grows w H w' H') (g : Nat) : GrowsBut w H w' H' g := ⟨grown_of_below h.below _, h.le, h.holds, h.fresh⟩
theorem GrowsBut.hid (h : GrowsBut w H w' H' g) {k : Nat} (hk : H k = .none) (hl : k < w.heap.size) : H' k = .none := by
  cases hH : H' k with
  | none => rfl
  | some o =>
    rcases h.fresh k o hH with hx | hx
    · rw [hk] at hx; cases hx
    · omega
/-- A deck, and data that stay. -/
structure DeckIn (w : World) (g : Nat) (H : Snap) : Prop where
  deck : Deck w g H
  holds : Holds w H
  apart : H g = .none
/-- A deck was drawn from; there is new memory. -/
structure Dealt (w : World) (H : Snap) (w' : World) (H' : Snap) (g : Nat) : Prop where
  grows : GrowsBut w H w' H' g
  deck : DeckIn w' g H'
theorem Dealt.refl (h : DeckIn w g H) : Dealt w H w H g := ⟨GrowsBut.refl h.holds g, h⟩
theorem Dealt.trans (h : Dealt w H w' H' g) (k : Dealt w' H' w'' H'' g) : Dealt w H w'' H'' g := ⟨h.grows.trans k.grows, k.deck⟩
theorem DeckIn.grows (h : DeckIn w g H) (k : Grows w H w' H') : Dealt w H w' H' g :=
  ⟨k.but g, ⟨(h.deck.below k.below).mono k.le, k.holds, k.none h.apart h.deck.lt⟩⟩
theorem Dealt.grown (h : Dealt w H w' H' g) (k : Grows w' H' w'' H'') : Dealt w H w'' H'' g := h.trans (h.deck.grows k)
theorem Dealt.alloc (h : Dealt w H w' H' g) (o : Obj) : Dealt w H (w'.alloc o) H' g := h.grown ((Grows.refl h.deck.holds).alloc o)
theorem Dealt.le (h : Dealt w H w' H' g) : H.le H' := h.grows.le
theorem Dealt.holds (h : Dealt w H w' H' g) : Holds w' H' := h.deck.holds
theorem Dealt.size (h : Dealt w H w' H' g) : w.heap.size ≤ w'.heap.size := h.grows.grown.size
theorem Dealt.hid (h : Dealt w H w' H' g) {k : Nat} (hk : H k = .none) (hl : k < w.heap.size) : H' k = .none := h.grows.hid hk hl
theorem Dealt.grownRow {row : Option Nat} (h : Dealt w H w' H' g) (h0 : ∀ k, row = some k → H' k = .none) (hw : ∀ k, row = some k → w.heap.size ≤ k) (hlt : g < w.heap.size) (hg : w'.grownBy w'' row) : Dealt w H w'' H' g := by
  have hd := h.deck
  have hne : row ≠ some g := fun e => by have := hw g e; omega
  refine ⟨⟨?_, h.le, h.holds.grown hg h0, h.grows.fresh⟩, ?_, h.holds.grown hg h0, hd.apart⟩
  · exact ⟨hg.os.trans h.grows.grown.os, hg.tape.trans h.grows.grown.tape, hg.output.trans h.grows.grown.output, Nat.le_trans h.size hg.size, fun i hi hne' =>
      (hg.block i (Nat.lt_of_lt_of_le hi h.size) (fun e => by have := hw i e.symm; omega)).trans (h.grows.grown.block i hi hne')⟩
  · obtain ⟨A, c, l, k, h1, h2, h3⟩ := hd.deck
    exact ⟨A, c, l, k, h1.grown hg hne, h2, h3⟩
theorem Blk.dealt {k : Nat} {t : TypeId} {cs : Array Value} (h : Blk w k t cs) (hd : Dealt w H w' H' g) (hk : k ≠ g) : Blk w' k t cs :=
  h.grown hd.grows.grown (by intro e; injection e with e; exact hk e.symm)
theorem OwnB.dealt {base : Nat} {v : Value} {l : List UInt8} (h : OwnB w base v l) (hd : Dealt w H w' H' g) (hb : g < base) : OwnB w' base v l := by
  refine h.kept hd.grows.grown ?_
  cases hv : v.ownBlock with
  | none => exact .inl rfl
  | some k => exact .inr (fun e => by injection e with e; have := h.lt k hv; omega)
end

theorem deck_Next {H : Snap} {g : Nat} (w : World) (hD : DeckIn w g H) (n : Int) (hn : 0 < n) (hn2 : n ≤ 1099511627776) :
    Calls Tryd.prog 16 #[.pointer (some ⟨g, 0, none⟩), .int .i64 n] w fun e w' => ∃ r : Nat, e = .returned (.int .i64 (r : Int)) ∧ (r : Int) < n ∧ Dealt w H w' H g := by
  refine (mk_Next w hD.deck hD.holds hD.apart n hn hn2).mono ?_
  rintro e w' ⟨r, rfl, h0, h1, h2, h3⟩
  obtain ⟨k, rfl⟩ := Int.eq_ofNat_of_zero_le h0
  have hH := hD.holds.grown h3 (by rintro q ⟨⟩; exact hD.apart)
  exact ⟨k, rfl, h1, ⟨h3, Snap.le.refl _, hH, fun _ _ h => .inl h⟩, h2, hH, hD.apart⟩

set_option maxRecDepth 100000 in
set_option maxHeartbeats 1600000 in
theorem mk_Bytes {H : Snap} {g : Nat} (w : World) (hD : DeckIn w g H) (n : Int) (hn : 0 ≤ n) (hn2 : n ≤ 1048576) :
    Calls Tryd.prog 15 #[.pointer (some ⟨g, 0, none⟩), .int .i64 n] w fun e w' =>
      ∃ A c l, e = .returned (.slice A l.length c) ∧ (l.length : Int) ≤ n ∧ ∃ H', IsBytes H' A c l ∧ Dealt w H w' H' g := by
  have NX := Lib.hid (deck_Next w hD (n + 1) (by omega) (by omega))
  have K0 : IntKind.i64.wrap (n + 1) = n + 1 := IntWalk.i64_in _ (by omega)
  have hgl := hD.deck.lt
  have HN := Lib.hid (And.intro hn hn2)
  have HD := Lib.hid hD
  clear hn hn2 hD
  go_enter Tryd.func15, Tryd.ntmps15
  go_wp2_with fail
  refine NX.out.mono ?_
  rintro e w1 ⟨r, rfl, hr, hd1⟩
  have hO1 := OwnB.nil w1 w.heap.size
  go_wp2_with fail
  go_loopw [5, 6] (fun v5 v6 wr => ∃ (k : Nat) (VA : Option Addr) (vc vn : Nat) (l : List UInt8), v6 = .int .i64 (k : Int) ∧ v5 = .slice VA vn vc ∧ OwnB wr w.heap.size (.slice VA vn vc) l ∧ vn = l.length ∧ (l.length : Int) + k ≤ n ∧ Dealt w H wr H g ∧ (∀ q, (Value.slice VA vn vc).ownBlock = some q → H q = none)) (fun _ v6 _ => (intOf v6).toNat)
  case atStart => exact ⟨r, _, _, _, _, rfl, rfl, hO1, rfl, by simp; omega, hd1, by intro q hq; simp [Value.ownBlock] at hq⟩
  case round =>
    obtain ⟨k, VA, vc, vn, l, rfl, rfl, hOr, hvn, hlk, hdr, hnr⟩ := hrel
    have HV := Lib.hid hvn
    have HLK := Lib.hid hlk
    clear hvn hlk
    by_cases hlt : (0 : Int) < (k : Int)
    · have NX := Lib.hid (deck_Next wr hdr.deck 256 (by omega) (by omega))
      go_wp2_with fail
      refine NX.out.mono ?_
      rintro e w2 ⟨q, rfl, hq, hd2⟩
      have hd := hdr.trans hd2
      have hO2 := hOr.dealt hd2 hgl
      have K1 : IntKind.u8.wrap (q : Int) = (q : Int) := IntWalk.u8_in _ (by omega)
      have hO3 := hO2.alloc (.cells #[.int .u8 (q : Int)] 5)
      have hd3 := hd.alloc (.cells #[.int .u8 (q : Int)] 5)
      have HC : Hid ((#[.int .u8 (q : Int)] : Array Value).toList = [u8 q].map byteV) := by
        simp only [Hid, List.map_cons, List.map_nil, byteV_u8]
        congr 2
        omega
      have hk1 : (-9223372036854775808 : Int) ≤ (k : Int) - 1 ∧ (k : Int) - 1 ≤ 9223372036854775807 := by have := HLK.out; have := HN.out; omega
      clear hq NX hdr hOr hd2 hO2 hd
      go_wp2_with (at_builtin; refine stop_in ?_)
      unfold Stopped
      obtain rfl := HV.out
      refine wpList_app_bytes rfl (.tmp 15) (.tmp 19) rfl w.heap.size (.slice VA l.length vc) _ rfl hO3 _ 1 _ [u8 q] rfl rfl (Src.new _ _ _ _ rfl _ HC.out) (by have := HLK.out; have := HN.out; simp; omega) hd3.size fun v' w7 hO7 hg7 hat7 => ?_
      obtain ⟨VA', vc', rfl, _⟩ := hO7.form
      have hd7 := hd3.grownRow hnr (fun q hq => (hO3.lt q hq).1) hgl hg7
      have hn7 : ∀ q', (Value.slice VA' (l ++ [u8 q]).length vc').ownBlock = some q' → H q' = none := fun q' hq' => by
        rcases hat7 with h | ⟨g', h1, h2⟩
        · exact hnr q' (by rw [← h, hq'])
        · rw [hq'] at h1
          injection h1 with h1
          subst h1
          exact hd3.holds.none_of_ge h2
      have hl9 : (l ++ [u8 q]).length = l.length + 1 := by simp
      rw [hl9] at hO7 hn7
      rw [hl9]
      clear hl9
      have hk2 : IntKind.i64.wrap ((k : Int) - 1) = (k : Int) - 1 := IntWalk.i64_in _ hk1
      clear hO3 hg7 hat7 hd3 hk1
      go_wp2_with fail
      go_roundw
      case rel => exact ⟨k - 1, VA', vc', _, _, by rw [show ((k - 1 : Nat) : Int) = (k : Int) - 1 by omega], rfl, hO7, by simp, by have := HLK.out; simp; omega, hd7, hn7⟩
      case measure => simp [intOf]; omega
    · go_wp2_with fail
      obtain rfl := HV.out
      obtain ⟨H', hl8, hh8, hf8, hz8, hi8⟩ := hOr.snap hdr.holds (fun q hq => hnr q (by cases VA <;> simp_all [Value.ownBlock]))
      have hG : Grows wr H wr H' → True := fun _ => trivial
      go_ret
      refine ⟨VA, vc, l, rfl, by have := HLK.out; omega, H', hi8, ⟨⟨hdr.grows.grown, hl8, hh8, fun b o hb => ?_⟩, hdr.deck.deck.mono hl8, hh8, ?_⟩⟩
      · rcases hf8 b o hb with h | h
        · exact .inl h
        · exact .inr (hOr.lt b (by cases VA <;> simp_all [Value.ownBlock])).1
      · cases hH : H' g with
        | none => rfl
        | some o =>
          rcases hf8 g o hH with h | h
          · rw [HD.out.apart] at h; cases h
          · have := (hOr.lt g (by cases VA <;> simp_all [Value.ownBlock])).1
            omega
end Go.Proofs.YtebcnkelbicbnaaDoor
namespace Go.Proofs.YtebcnkelbicbnaaDoor
open Go.RowKit

def isU64 : Value → Bool | .int .u64 x => decide (0 ≤ x) && decide (x < 18446744073709551616) | _ => false
def isI64 : Value → Bool | .int .i64 x => decide (-1000 ≤ x) && decide (x ≤ 1000) | _ => false
theorem isI64_spec {v : Value} (h : isI64 v = true) : ∃ x : Int, v = .int .i64 x ∧ -1000 ≤ x ∧ x ≤ 1000 := by
  unfold isI64 at h
  split at h
  · rename_i x
    rw [Bool.and_eq_true, decide_eq_true_eq, decide_eq_true_eq] at h
    exact ⟨x, rfl, h.1, h.2⟩
  · cases h
/-- What stands in a table at a place. -/
theorem Blk.pick {w : World} {g : Nat} {t : TypeId} {cs : Array Value} (h : Blk w g t cs) (P : Value → Bool) (hall : cs.all P = true) (k : Nat) (hk : k < cs.size) : ∃ v, w.cell? ⟨g, k, none⟩ = some v ∧ P v = true :=
  ⟨cs[k], h.cell k (Array.getElem?_eq_getElem hk), by rw [Array.all_eq_true] at hall; exact hall k hk⟩

end Go.Proofs.YtebcnkelbicbnaaDoor
