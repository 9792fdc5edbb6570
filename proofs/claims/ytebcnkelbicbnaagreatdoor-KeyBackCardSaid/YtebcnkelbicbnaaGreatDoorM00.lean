/- Predicates on memory: a partial heap of blocks that never change, byte strings and items that lie in it, and how they are kept. The built-in append onto a row of the call's own, for bytes and for items. Rows of items that a call owns; results that are items. -/
import Derived.WalkKit
import Derived.Outline
import Derived.WalkSpells
import Derived.WalkLawsBesides
import Derived.Lib.Hide
import Derived.Maps.AppendAt
import Derived.Deep.AppendLies
import Derived.Test.YtebcnkelbicbnaaGreatDoorChecked
set_option linter.unusedVariables false
set_option linter.unusedSimpArgs false
namespace Go.Proofs.YtebcnkelbicbnaaGreatDoor
open Go.RowKit

/-- A goal at which the walk stops: 'go_wp2_with (at_builtin; refine stop_in ?_)', then 'unfold Stopped'. -/
def Stopped (p : Prop) : Prop := p
theorem stop_in {p : Prop} (h : Stopped p) : p := h

abbrev Snap := Nat → Option Obj
def Snap.le (H K : Snap) : Prop := ∀ b o, H b = some o → K b = some o
def Snap.cell? (H : Snap) (a : Addr) : Option Value :=
  match H a.block with
  | some (.cells c _ _) => if a.spot.isSome then none else c[a.off]?
  | _ => none
/-- The world holds the blocks of H as they are there. -/
def Holds (w : World) (H : Snap) : Prop := ∀ b o, H b = some o → w.heap[b]? = some o

theorem Snap.le.refl (H : Snap) : H.le H := fun _ _ h => h
theorem Snap.le.trans {H K L : Snap} (h : H.le K) (k : K.le L) : H.le L := fun b o x => k b o (h b o x)
theorem Snap.le.cell {H K : Snap} (h : H.le K) {a : Addr} {v : Value} (hc : H.cell? a = some v) : K.cell? a = some v := by
  unfold Snap.cell? at hc ⊢
  cases hb : H a.block with
  | none => rw [hb] at hc; cases hc
  | some o => rw [hb] at hc; rw [h _ _ hb]; exact hc
theorem Holds.cell {w : World} {H : Snap} (h : Holds w H) {a : Addr} {v : Value} (hc : H.cell? a = some v) : w.cell? a = some v := by
  unfold Snap.cell? at hc
  unfold World.cell?
  cases hb : H a.block with
  | none => rw [hb] at hc; cases hc
  | some o => rw [hb] at hc; rw [h _ _ hb]; exact hc
theorem Holds.lt {w : World} {H : Snap} (h : Holds w H) {b : Nat} {o : Obj} (hb : H b = some o) : b < w.heap.size := by
  have := h b o hb
  exact (Array.getElem?_eq_some_iff.1 this).1
theorem Holds.none_of_ge {w : World} {H : Snap} (h : Holds w H) {b : Nat} (hb : w.heap.size ≤ b) : H b = none := by
  cases hH : H b with
  | none => rfl
  | some o => have := h.lt hH; omega
theorem Holds.mono {w : World} {H K : Snap} (h : Holds w K) (hl : H.le K) : Holds w H := fun b o hb => h b o (hl b o hb)
theorem Holds.below {w w' : World} {H : Snap} {B : Nat} (h : Holds w H) (hb : Below B w w') (hB : w.heap.size ≤ B) : Holds w' H :=
  fun b o hH => (hb.block b (by have := h.lt hH; omega)).trans (h b o hH)
theorem Holds.grown {w w' : World} {H : Snap} {row : Option Nat} (h : Holds w H) (hg : w.grownBy w' row) (hr : ∀ g, row = some g → H g = none) : Holds w' H :=
  fun b o hH => (hg.block b (h.lt hH) (fun e => by rw [hr b e.symm] at hH; cases hH)).trans (h b o hH)
theorem Holds.alloc {w : World} {H : Snap} (h : Holds w H) (o : Obj) : Holds (w.alloc o) H :=
  fun b x hH => (Below.heap_alloc w o b (h.lt hH)).trans (h b x hH)
theorem Holds.drew {w : World} {H : Snap} (h : Holds w H) : Holds w.drew H := h
theorem Holds.drewN {w : World} {H : Snap} (h : Holds w H) (n : Nat) : Holds (w.drewN n) H := h
theorem Holds.setCell {w : World} {H : Snap} (h : Holds w H) {p : Addr} (hp : H p.block = none) (u : Value) : Holds (w.setCell p u) H :=
  fun b o hH => (Below.heap_setCell w p u b (fun e => by subst e; rw [hp] at hH; cases hH)).trans (h b o hH)

/-- A snapshot with one block more. -/
def Snap.with (H : Snap) (g : Nat) (o : Obj) : Snap := fun b => if b = g then some o else H b
theorem Snap.le_with {H : Snap} {g : Nat} {o : Obj} (h : H g = none) : H.le (H.with g o) := fun b x hb => by
  unfold Snap.with
  split
  · subst b; rw [h] at hb; cases hb
  · exact hb
theorem Holds.with {w : World} {H : Snap} (h : Holds w H) {g : Nat} {o : Obj} (hg : w.heap[g]? = some o) : Holds w (H.with g o) := fun b x hb => by
  unfold Snap.with at hb
  split at hb
  · subst b; rw [hg]; exact hb
  · exact h b x hb

/-- What a call that only makes memory does: nothing that was there has turned; the snapshot has grown by new blocks. -/
structure Grows (w : World) (H : Snap) (w' : World) (H' : Snap) : Prop where
  below : Below w.heap.size w w'
  le : H.le H'
  holds : Holds w' H'
  fresh : ∀ b o, H' b = some o → H b = some o ∨ w.heap.size ≤ b

theorem Grows.refl {w : World} {H : Snap} (h : Holds w H) : Grows w H w H := ⟨Below.refl _ _, Snap.le.refl _, h, fun _ _ hb => .inl hb⟩
theorem Grows.trans {a b c : World} {H K L : Snap} (h : Grows a H b K) (k : Grows b K c L) : Grows a H c L :=
  ⟨h.below.trans (k.below.mono h.below.size), h.le.trans k.le, k.holds, fun x o hx => by
    rcases k.fresh x o hx with hx | hx
    · exact h.fresh x o hx
    · exact .inr (Nat.le_trans h.below.size hx)⟩
theorem Grows.none {w w' : World} {H H' : Snap} (h : Grows w H w' H') {g : Nat} (hg : H g = none) (hl : g < w.heap.size) : H' g = none := by
  cases hH : H' g with
  | none => rfl
  | some o =>
    rcases h.fresh g o hH with hx | hx
    · rw [hg] at hx; cases hx
    · omega
theorem Grows.of_below {w w' : World} {H : Snap} (h : Holds w H) (hb : Below w.heap.size w w') : Grows w H w' H :=
  ⟨hb, Snap.le.refl _, h.below hb (Nat.le_refl _), fun _ _ hb => .inl hb⟩

/-- A byte as a cell. -/
abbrev byteV (u : UInt8) : Value := .int .u8 (u.toNat : Int)

/-- The cells from (b, off) on are those of the list. -/
def Cells (H : Snap) (b off : Nat) (xs : List Value) : Prop := ∀ j v, xs[j]? = some v → H.cell? ⟨b, off + j, none⟩ = some v

/-- A slice value's address A leads to the list xs (n elements of 'size' cells). -/
def Row (H : Snap) (A : Option Addr) (xs : List Value) : Prop := xs ≠ [] → ∃ b off, A = some ⟨b, off, none⟩ ∧ Cells H b off xs

theorem Row.mono {H K : Snap} {A : Option Addr} {xs : List Value} (h : Row H A xs) (hl : H.le K) : Row K A xs := fun hx => by
  obtain ⟨b, off, e, hc⟩ := h hx
  exact ⟨b, off, e, fun j v hj => hl.cell (hc j v hj)⟩
theorem Row.nil (H : Snap) (A : Option Addr) : Row H A [] := fun h => absurd rfl h

/-- The slice '.slice A l.length c' holds the bytes l. -/
structure IsBytes (H : Snap) (A : Option Addr) (c : Nat) (l : List UInt8) : Prop where
  le : l.length ≤ c
  max : c ≤ 9223372036854775807
  row : Row H A (l.map byteV)

theorem IsBytes.mono {H K : Snap} {A : Option Addr} {c : Nat} {l : List UInt8} (h : IsBytes H A c l) (hl : H.le K) : IsBytes K A c l := ⟨h.le, h.max, h.row.mono hl⟩
theorem IsBytes.nil (H : Snap) : IsBytes H none 0 [] := ⟨by simp, by omega, Row.nil _ _⟩
theorem IsBytes.at_ {H : Snap} {A : Option Addr} {c : Nat} {l : List UInt8} (h : IsBytes H A c l) (hl : 0 < l.length) :
    ∃ b off, A = some ⟨b, off, none⟩ ∧ ∀ j (hj : j < l.length), H.cell? ⟨b, off + j, none⟩ = some (byteV l[j]) := by
  obtain ⟨b, off, e, hc⟩ := h.row (by intro e; rw [List.map_eq_nil_iff] at e; subst e; simp at hl)
  exact ⟨b, off, e, fun j hj => hc j _ (by simp [hj])⟩

/-- A data item. -/
inductive Itm where
  | mk (kind : Int) (n : Nat) (bytes : List UInt8) (items : List Itm)
def Itm.kind : Itm → Int | .mk k _ _ _ => k
def Itm.n : Itm → Nat | .mk _ n _ _ => n
def Itm.bytes : Itm → List UInt8 | .mk _ _ b _ => b
def Itm.items : Itm → List Itm | .mk _ _ _ l => l

mutual
/-- The item x whose byte string lies at ba (capacity bc), and whose elements lie at ia (capacity ic). -/
def IsItem (H : Snap) (ba : Option Addr) (bc : Nat) (ia : Option Addr) (ic : Nat) : Itm → Prop
  | .mk k n bs l => (-9223372036854775808 ≤ k ∧ k ≤ 9223372036854775807 ∧ n < 18446744073709551616 ∧ l.length ≤ ic ∧ ic ≤ 9223372036854775807) ∧ IsBytes H ba bc bs ∧
      (0 < l.length → ∃ b off, ia = some ⟨b, off, none⟩ ∧ IsElems H b off l)
def IsElems (H : Snap) (b off : Nat) : List Itm → Prop
  | [] => True
  | x :: l => (∃ ba bc ia ic, H.cell? ⟨b, off, none⟩ = some (.int .i64 x.kind) ∧ H.cell? ⟨b, off + 1, none⟩ = some (.int .u64 x.n) ∧
      H.cell? ⟨b, off + 2, none⟩ = some (.slice ba x.bytes.length bc) ∧ H.cell? ⟨b, off + 3, none⟩ = some (.slice ia x.items.length ic) ∧ IsItem H ba bc ia ic x) ∧ IsElems H b (off + 4) l
end

theorem IsElems.get {H : Snap} {b : Nat} : ∀ {l : List Itm} {off : Nat}, IsElems H b off l → ∀ (k : Nat) (hk : k < l.length),
    ∃ ba bc ia ic, H.cell? ⟨b, off + k * 4, none⟩ = some (.int .i64 l[k].kind) ∧ H.cell? ⟨b, off + k * 4 + 1, none⟩ = some (.int .u64 l[k].n) ∧
      H.cell? ⟨b, off + k * 4 + 2, none⟩ = some (.slice ba l[k].bytes.length bc) ∧ H.cell? ⟨b, off + k * 4 + 3, none⟩ = some (.slice ia l[k].items.length ic) ∧ IsItem H ba bc ia ic l[k]
  | [], _, _, k, hk => by simp at hk
  | x :: l, off, h, 0, _ => by
    rw [IsElems] at h
    simpa using h.1
  | x :: l, off, h, k + 1, hk => by
    rw [IsElems] at h
    have := h.2.get k (by simpa using hk)
    simp only [List.getElem_cons_succ]
    rw [show off + (k + 1) * 4 = off + 4 + k * 4 by omega]
    exact this

mutual
theorem IsItem.mono {H K : Snap} (hl : H.le K) : ∀ {x : Itm} {ba : Option Addr} {bc : Nat} {ia : Option Addr} {ic : Nat}, IsItem H ba bc ia ic x → IsItem K ba bc ia ic x
  | .mk k n bs l, ba, bc, ia, ic, h => by
    rw [IsItem] at h ⊢
    refine ⟨h.1, h.2.1.mono hl, fun h0 => ?_⟩
    obtain ⟨b, off, e, he⟩ := h.2.2 h0
    exact ⟨b, off, e, IsElems.mono hl he⟩
theorem IsElems.mono {H K : Snap} (hl : H.le K) : ∀ {l : List Itm} {b off : Nat}, IsElems H b off l → IsElems K b off l
  | [], _, _, _ => by rw [IsElems]; trivial
  | x :: l, b, off, h => by
    rw [IsElems] at h ⊢
    obtain ⟨⟨ba, bc, ia, ic, h0, h1, h2, h3, hx⟩, hr⟩ := h
    exact ⟨⟨ba, bc, ia, ic, hl.cell h0, hl.cell h1, hl.cell h2, hl.cell h3, IsItem.mono hl hx⟩, IsElems.mono hl hr⟩
end

section
variable {H : Snap} {ba : Option Addr} {bc : Nat} {ia : Option Addr} {ic : Nat} {x : Itm}
theorem IsItem.bounds (h : IsItem H ba bc ia ic x) : -9223372036854775808 ≤ x.kind ∧ x.kind ≤ 9223372036854775807 ∧ x.n < 18446744073709551616 ∧ x.bytes.length ≤ bc ∧ bc ≤ 9223372036854775807 ∧ x.items.length ≤ ic ∧ ic ≤ 9223372036854775807 := by
  cases x
  rw [IsItem] at h
  exact ⟨h.1.1, h.1.2.1, h.1.2.2.1, h.2.1.le, h.2.1.max, h.1.2.2.2.1, h.1.2.2.2.2⟩
theorem IsItem.bytes (h : IsItem H ba bc ia ic x) : IsBytes H ba bc x.bytes := by
  cases x
  rw [IsItem] at h
  exact h.2.1
theorem IsItem.items (h : IsItem H ba bc ia ic x) (h0 : 0 < x.items.length) : ∃ b off, ia = some ⟨b, off, none⟩ ∧ IsElems H b off x.items := by
  cases x
  rw [IsItem] at h
  exact h.2.2 h0
end

/-- An item as a value. -/
abbrev itemV (x : Itm) (ba : Option Addr) (bc : Nat) (ia : Option Addr) (ic : Nat) : Value :=
  .agg #[.int .i64 x.kind, .int .u64 x.n, .slice ba x.bytes.length bc, .slice ia x.items.length ic]

/-- The four values of an argument are those of the item x. -/
structure ItemA (H : Snap) (k n : Int) (ba : Option Addr) (bl bc : Nat) (ia : Option Addr) (il ic : Nat) (x : Itm) : Prop where
  kind : k = x.kind
  n_ : n = (x.n : Int)
  bl_ : bl = x.bytes.length
  il_ : il = x.items.length
  is : IsItem H ba bc ia ic x
theorem IsItem.arg {H : Snap} {ba : Option Addr} {bc : Nat} {ia : Option Addr} {ic : Nat} {x : Itm} (h : IsItem H ba bc ia ic x) : ItemA H x.kind x.n ba x.bytes.length bc ia x.items.length ic x := ⟨rfl, rfl, rfl, rfl, h⟩
/-- A new byte string of the call's own, and nothing that was there has turned. -/
def Fresh (w : World) (l : List UInt8) (r : Value) (w' : World) : Prop := w'.ownsRow w.heap.size 5 1 r l.length (l.map byteV) ∧ Below w.heap.size w w'

end Go.Proofs.YtebcnkelbicbnaaGreatDoor
namespace Go.Proofs.YtebcnkelbicbnaaGreatDoor
open Go.RowKit

/-- The cells of xs can be read at A in the world as it stands. -/
def Src (w : World) (A : Option Addr) (xs : List Value) : Prop := xs ≠ [] → ∃ b off, A = some ⟨b, off, none⟩ ∧ ∀ j v, xs[j]? = some v → w.cell? ⟨b, off + j, none⟩ = some v

theorem Src.of_row {w : World} {H : Snap} {A : Option Addr} {xs : List Value} (h : Row H A xs) (hw : Holds w H) : Src w A xs := fun hx => by
  obtain ⟨b, off, e, hc⟩ := h hx
  exact ⟨b, off, e, fun j v hj => hw.cell (hc j v hj)⟩
theorem Src.of_own {w : World} {base e size n : Nat} {A : Option Addr} {m c : Nat} {xs : List Value} (h : w.ownsRow base e size (.slice A m c) n xs) : Src w A xs := fun hx => by
  rcases h.2 with ⟨hv, hn⟩ | ⟨g, cap, cur, hv, _⟩
  · have h1 := h.1
    rw [hn] at h1
    simp at h1
    exact absurd h1 hx
  · cases hv
    refine ⟨g, 0, rfl, fun j v hj => ?_⟩
    have := h.cells (g := g) rfl j v hj
    have hadd : (⟨g, 0, none⟩ : Addr).add j = ⟨g, 0 + j, none⟩ := by unfold Addr.add; split <;> simp_all
    rw [hadd] at this
    exact this
theorem Src.lit (w : World) (cs : Array Value) (e : TypeId) : Src (w.alloc (.cells cs e)) (some ⟨w.heap.size, 0, none⟩) cs.toList := fun _ =>
  ⟨w.heap.size, 0, rfl, fun j v hj => by
    rw [cell_of_row _ w.heap.size (0 + j) cs e (0, 0) (heap_alloc_new w _)]
    simpa using hj⟩
theorem Src.new (w : World) (cs : Array Value) (e : TypeId) (b : Nat) (hb : b = w.heap.size) (xs : List Value) (hx : cs.toList = xs) : Src (w.alloc (.cells cs e)) (some ⟨b, 0, none⟩) xs := by
  subst hb hx
  exact Src.lit w cs e
theorem Src.nil (w : World) (A : Option Addr) : Src w A [] := fun h => absurd rfl h

theorem Src.keep {w w' : World} {A : Option Addr} {xs : List Value} (h : Src w A xs) (hk : ∀ p : Addr, p.block < w.heap.size → w'.cell? p = w.cell? p) : Src w' A xs := fun hx => by
  obtain ⟨b, off, e, hc⟩ := h hx
  exact ⟨b, off, e, fun j v hj => (hk _ (World.block_lt_of_cell? w _ (hc j v hj))).trans (hc j v hj)⟩
theorem Src.alloc {w : World} {A : Option Addr} {xs : List Value} (h : Src w A xs) (o : Obj) : Src (w.alloc o) A xs := h.keep fun p hp => World.cell?_alloc_lt w o p hp
theorem Src.below {w w' : World} {A : Option Addr} {xs : List Value} (h : Src w A xs) (hb : Below w.heap.size w w') : Src w' A xs := h.keep fun _ hp => hb.cell hp
theorem below_box (w : World) (o : Obj) : Below w.heap.size w (w.alloc o) := (Below.refl _ _).alloc (Nat.le_refl _) _
theorem addr_add (b off j : Nat) : (⟨b, off, none⟩ : Addr).add j = ⟨b, off + j, none⟩ := by unfold Addr.add; split <;> simp_all

/-- Block g is just these cells. -/
def Blk (w : World) (g : Nat) (t : TypeId) (cs : Array Value) : Prop := w.heap[g]? = some (.cells cs t (0, 0))
section
variable {w w' : World} {g : Nat} {t : TypeId} {cs : Array Value}
theorem Blk.lt (h : Blk w g t cs) : g < w.heap.size := (Array.getElem?_eq_some_iff.1 h).1
theorem Blk.cell (h : Blk w g t cs) (i : Nat) {v : Value} (hv : cs[i]? = some v) : w.cell? ⟨g, i, none⟩ = some v := (cell_of_row w g i cs t (0, 0) h).trans hv
theorem Blk.frozen (h : Blk w g t cs) (i : Nat) : w.frozen? ⟨g, i, none⟩ = false := by unfold Blk at h; simp [World.frozen?, h]
theorem Blk.new (w : World) (t : TypeId) (cs : Array Value) : Blk (w.alloc (.cells cs t)) w.heap.size t cs := heap_alloc_new w _
theorem Blk.drew (h : Blk w g t cs) : Blk w.drew g t cs := h
theorem Blk.below (h : Blk w g t cs) (hb : Below w.heap.size w w') : Blk w' g t cs := (hb.block g h.lt).trans h
theorem Blk.alloc (h : Blk w g t cs) (o : Obj) : Blk (w.alloc o) g t cs := h.below (below_box w o)
theorem Blk.grown {row : Option Nat} (h : Blk w g t cs) (hb : w.grownBy w' row) (hg : row ≠ some g) : Blk w' g t cs := (hb.block g h.lt (Ne.symm hg)).trans h
theorem Blk.set_ (h : Blk w g t cs) (i : Nat) (u : Value) : Blk (w.setCell ⟨g, i, none⟩ u) g t (cs.setIfInBounds i u) := by
  unfold Blk at h ⊢
  simp [World.setCell, Array.getElem?_modify, h]
theorem Blk.far (h : Blk w g t cs) {p : Addr} (hp : g ≠ p.block) (u : Value) : Blk (w.setCell p u) g t cs := (Below.heap_setCell w p u g hp).trans h
end
theorem grown_set {w0 w : World} {g : Nat} (h : w0.grownBy w (some g)) {p : Addr} (hp : p.block = g ∨ w0.heap.size ≤ p.block) (u : Value) : w0.grownBy (w.setCell p u) (some g) :=
  ⟨h.os, h.tape, h.output, by simpa [World.setCell] using h.size, fun i hi hne => (Below.heap_setCell w p u i (by
    rintro rfl
    rcases hp with hp | hp
    · exact hne (by rw [hp])
    · omega)).trans (h.block i hi hne)⟩
theorem grown_drew {w0 w : World} {r : Option Nat} (h : w0.grownBy w r) : w0.grownBy w.drew r := ⟨h.os, h.tape, h.output, h.size, h.block⟩

/-- r is the row r0, or one that was made behind w0. -/
def At0 (w0 : World) (r0 r : Option Nat) : Prop := r = r0 ∨ ∃ g, r = some g ∧ w0.heap.size ≤ g
theorem At0.step {w0 w : World} {r0 r r' : Option Nat} (h : At0 w0 r0 r) (hs : w0.heap.size ≤ w.heap.size) (k : At0 w r r') : At0 w0 r0 r' := by
  rcases k with rfl | ⟨g, rfl, hg⟩
  · exact h
  · exact .inr ⟨g, rfl, Nat.le_trans hs hg⟩
theorem grown_refl (w : World) (r : Option Nat) : w.grownBy w r := ⟨rfl, rfl, rfl, Nat.le_refl _, fun _ _ _ => rfl⟩
theorem grown_step {w0 w w' : World} {r0 r : Option Nat} (h : w0.grownBy w r0) (k : w.grownBy w' r) (hr : At0 w0 r0 r) : w0.grownBy w' r0 :=
  ⟨k.os.trans h.os, k.tape.trans h.tape, k.output.trans h.output, Nat.le_trans h.size k.size, fun i hi hne =>
    (k.block i (Nat.lt_of_lt_of_le hi h.size) (fun e => by
      rcases hr with rfl | ⟨g, rfl, hg⟩
      · exact hne e
      · injection e with e; omega)).trans (h.block i hi hne)⟩
theorem grown_of_below {w w' : World} (h : Below w.heap.size w w') (r : Option Nat) : w.grownBy w' r := ⟨h.os, h.tape, h.output, h.size, fun i hi _ => h.block i hi⟩
theorem below_of_grown {w0 w w' : World} {r : Option Nat} (h : Below w0.heap.size w0 w) (k : w.grownBy w' r) (hr : ∀ g, r = some g → w0.heap.size ≤ g) : Below w0.heap.size w0 w' :=
  h.grown k h.size hr
theorem grown_alloc {w0 w : World} {r : Option Nat} (h : w0.grownBy w r) (o : Obj) : w0.grownBy (w.alloc o) r :=
  ⟨h.os, h.tape, h.output, Nat.le_trans h.size (by simp), fun i hi hne => (Below.heap_alloc w o i (Nat.lt_of_lt_of_le hi h.size)).trans (h.block i hi hne)⟩
theorem grown_below {w0 w w' : World} {r : Option Nat} (h : w0.grownBy w r) (hb : Below w.heap.size w w') : w0.grownBy w' r :=
  ⟨hb.os.trans h.os, hb.tape.trans h.tape, hb.output.trans h.output, Nat.le_trans h.size hb.size, fun i hi hne => (hb.block i (Nat.lt_of_lt_of_le hi h.size)).trans (h.block i hi hne)⟩
theorem grown_none {w w' : World} (h : w.grownBy w' none) : Below w.heap.size w w' := ⟨h.os, h.tape, h.output, h.size, fun k hk => h.block k hk (by simp)⟩

theorem run_append_src {P : Program} (w : World) (base : Nat) (t ty e : TypeId) (i : TypeInfo) (z : Value) (size bytes : Nat) (ht : P.underlying t = some (.slice e)) (hi : P.info? e = some i) (hz : i.zero = some z)
    (hsize : i.size = size) (hby : i.bytes = bytes) (hzs : z.cells.size = size) (hsz : 0 < size)
    (v : Value) (n : Nat) (xs : List Value) (hown : w.ownsRow base e size v n xs)
    (A : Option Addr) (m c : Nat) (news : List Value) (hl : news.length = m * size) (hr : Src w A news) (h1 : ∀ u ∈ news, u.oneCell' = true)
    (h63 : n + m ≤ maxLen) (hbytes : (n + m) * bytes ≤ 140737488355328) (hbase : base ≤ w.heap.size) :
    ∃ v' w', (Builtin.append_ #[t, t] ty #[v, .slice A m c]).run P w = .ok v' w' ∧ w'.ownsRow base e size v' (n + m) (xs ++ news) ∧ w.grownBy w' v.ownBlock ∧
      (v'.ownBlock = v.ownBlock ∨ v'.ownBlock = some w.heap.size) := by
  rcases Nat.eq_zero_or_pos m with h0 | h0
  · subst h0
    have hn : news = [] := List.eq_nil_of_length_eq_zero (by simpa using hl)
    subst hn
    refine ⟨v, w, ?_, by simpa using hown, grown_refl w _, .inl rfl⟩
    rcases hown.2 with ⟨rfl, rfl⟩ | ⟨g, cap, cur, rfl, _, _, hnc, _⟩
    · cases A <;> simp [Builtin.append_, run_underlying ht, sizeOf, typeInfo, hi, Builtin.lenOf, Builtin.firstCells, loadCells, loadCellsFrom]
    · cases A <;> simp [Builtin.append_, run_underlying ht, sizeOf, typeInfo, hi, Builtin.lenOf, Builtin.firstCells, hnc, storeCells, loadCells, loadCellsFrom]
  · have hx : news ≠ [] := by
      intro e; subst e
      have := Nat.mul_pos h0 hsz
      simp only [List.length_nil] at hl
      omega
    obtain ⟨b, off, rfl, hc⟩ := hr hx
    obtain ⟨v', w', hrun, h2, h3, _, h5⟩ := run_append_own_at (P := P) w base t ty e i z size bytes ht hi hz hsize hby hzs hsz v n xs hown ⟨b, off, none⟩ m c news hl
      (fun j u hu => by rw [addr_add]; exact hc j u hu) h1 h63 hbytes hbase
    exact ⟨v', w', hrun, h2, h3, h5⟩

theorem wp_append_src {P : Program} {w : World} {o : Oper} {a : Act} {K : Act → World → Prop} {Q : Exit → Act → World → Prop} (s x : Operand) (t : TypeId)
    (ho : o.op = .call { callee := .builtin .append, args := #[s, x], argTypes := #[t, t] })
    (base : Nat) (e : TypeId) (i : TypeInfo) (z : Value) (size bytes : Nat) (ht : P.underlying t = some (.slice e)) (hi : P.info? e = some i) (hz : i.zero = some z)
    (hsize : i.size = size) (hby : i.bytes = bytes) (hzs : z.cells.size = size) (hsz : 0 < size)
    (v : Value) (n : Nat) (xs : List Value) (hs : a.eval s = v) (hown : w.ownsRow base e size v n xs)
    (A : Option Addr) (m c : Nat) (news : List Value) (hx : a.eval x = .slice A m c) (hl : news.length = m * size) (hr : Src w A news) (h1 : ∀ u ∈ news, u.oneCell' = true)
    (h63 : n + m ≤ maxLen) (hbytes : (n + m) * bytes ≤ 140737488355328) (hbase : base ≤ w.heap.size)
    (h : ∀ v' w', w'.ownsRow base e size v' (n + m) (xs ++ news) → w.grownBy w' v.ownBlock → (v'.ownBlock = v.ownBlock ∨ v'.ownBlock = some w.heap.size) → K (a.put o.dst v') w') : o.wp P a w K Q := by
  obtain ⟨v', w', hrun, h2, h3, h4⟩ := run_append_src (P := P) w base t o.type e i z size bytes ht hi hz hsize hby hzs hsz v n xs hown A m c news hl hr h1 h63 hbytes hbase
  unfold Oper.wp execOp
  simp only [ho, resolve, invoke, builtin, Sem.run_bind, Sem.run_pure, Result.andThen_ok, List.map_toArray, List.map_cons, List.map_nil, hs, hx, hrun]
  exact h v' w' h2 h3 h4

theorem info_u8 : (Tryz.prog.info? 5).map (fun i => (i.zero, i.size, i.bytes)) = some (some (.int .u8 0), 1, 1) := by kernel_rfl

/-- The value v owns the bytes l. -/
def OwnB (w : World) (base : Nat) (v : Value) (l : List UInt8) : Prop := w.ownsRow base 5 1 v l.length (l.map byteV)

theorem OwnB.nil (w : World) (base : Nat) : OwnB w base (.slice none 0 0) [] := World.ownsRow_nil _ _ _ _
theorem OwnB.lt {w : World} {base : Nat} {v : Value} {l : List UInt8} (h : OwnB w base v l) : ∀ k, v.ownBlock = some k → base ≤ k ∧ k < w.heap.size := World.ownsRow.lt h
theorem OwnB.kept {w w' : World} {base : Nat} {v : Value} {l : List UInt8} {row : Option Nat} (h : OwnB w base v l) (hg : w.grownBy w' row) (hne : v.ownBlock = none ∨ v.ownBlock ≠ row) : OwnB w' base v l :=
  World.ownsRow.kept h hg hne
theorem OwnB.below {w w' : World} {base : Nat} {v : Value} {l : List UInt8} (h : OwnB w base v l) (hb : Below w.heap.size w w') : OwnB w' base v l :=
  h.kept (grown_of_below hb none) (by cases v.ownBlock <;> simp)
theorem OwnB.alloc {w : World} {base : Nat} {v : Value} {l : List UInt8} (h : OwnB w base v l) (o : Obj) : OwnB (w.alloc o) base v l := World.ownsRow.alloc h o
theorem OwnB.form {w : World} {base : Nat} {v : Value} {l : List UInt8} (h : OwnB w base v l) : ∃ A c, v = .slice A l.length c ∧ l.length ≤ c ∧ c ≤ 9223372036854775807 ∧ Src w A (l.map byteV) := by
  have h' := h
  rcases h.2 with ⟨rfl, hn⟩ | ⟨g, cap, cur, rfl, _, _, hc, hm, _⟩
  · rw [List.length_eq_zero_iff] at hn
    subst hn
    exact ⟨none, 0, rfl, by simp, by omega, Src.nil _ _⟩
  · exact ⟨_, cap, rfl, hc, by simpa [maxLen] using hm, Src.of_own h'⟩
theorem OwnB.src {w : World} {base : Nat} {A : Option Addr} {m c : Nat} {l : List UInt8} (h : OwnB w base (.slice A m c) l) : Src w A (l.map byteV) := Src.of_own h
theorem OwnB.more {w : World} {base base' : Nat} {v : Value} {l : List UInt8} (h : OwnB w base v l) (hb : base' ≤ base) : OwnB w base' v l := by
  refine ⟨h.1, ?_⟩
  rcases h.2 with h2 | ⟨g, cap, cur, hv, hg, r⟩
  · exact .inl h2
  · exact .inr ⟨g, cap, cur, hv, by omega, r⟩
theorem OwnB.lit (w : World) (base : Nat) (l : List UInt8) (cs : Array Value) (k : Nat) (hk : k = l.length) (hc : cs.toList = l.map byteV) (hb : base ≤ w.heap.size) (hm : l.length ≤ 4096) :
    OwnB (w.alloc (.cells cs 5)) base (.slice (some ⟨w.heap.size, 0, none⟩) k k) l := by
  subst hk
  refine ⟨by simp, .inr ⟨w.heap.size, l.length, cs, rfl, hb, heap_alloc_new w _, Nat.le_refl _, by simp only [maxLen]; omega, ?_, ?_⟩⟩
  · rw [← Array.length_toList, hc]; simp
  · rw [hc, Nat.mul_one]; exact List.take_of_length_le (by simp)
/-- The row as data that does not change any more. -/
theorem OwnB.snap {w : World} {base : Nat} {A : Option Addr} {m c : Nat} {l : List UInt8} (h : OwnB w base (.slice A m c) l) {H : Snap} (hw : Holds w H) (hn : ∀ g, A.map (·.block) = some g → H g = none) :
    ∃ H', H.le H' ∧ Holds w H' ∧ (∀ b o, H' b = some o → H b = some o ∨ A.map (·.block) = some b) ∧ m = l.length ∧ IsBytes H' A c l := by
  rcases h.2 with ⟨hv, hz⟩ | ⟨g, cap, cur, hv, _, hg, hc, hm, hcs, ht⟩
  · cases hv
    rw [List.length_eq_zero_iff] at hz
    subst hz
    exact ⟨H, Snap.le.refl _, hw, fun _ _ h => .inl h, rfl, IsBytes.nil _⟩
  · cases hv
    have hg0 : H g = none := hn g rfl
    refine ⟨H.with g (.cells cur 5), Snap.le_with hg0, hw.with hg, fun b o hb => ?_, rfl, ⟨hc, by simpa [maxLen] using hm, fun _ => ⟨g, 0, rfl, fun j v hj => ?_⟩⟩⟩
    · unfold Snap.with at hb
      split at hb
      · subst b; exact .inr rfl
      · exact .inl hb
    · rw [← ht, List.getElem?_take] at hj
      split at hj
      · simp [Snap.cell?, Snap.with]
        simpa using hj
      · cases hj

theorem byteV_one (l : List UInt8) : ∀ u ∈ l.map byteV, u.oneCell' = true := by
  intro u hu
  obtain ⟨x, _, rfl⟩ := List.mem_map.1 hu
  rfl

theorem wpList_app_bytes {w : World} {ops : Array Oper} {rest : List Oper} {o : Oper} {a : Act} {Q : Exit → Act → World → Prop} (hgd : o.guard = none) (s x : Operand)
    (ho : o.op = .call { callee := .builtin .append, args := #[s, x], argTypes := #[23, 23] })
    (base : Nat) (v : Value) (l : List UInt8) (hs : a.eval s = v) (hown : OwnB w base v l) (A : Option Addr) (m c : Nat) (news : List UInt8) (hx : a.eval x = .slice A m c) (hm : m = news.length)
    (hr : Src w A (news.map byteV)) (hlen : l.length + news.length ≤ 1099511627776) (hbase : base ≤ w.heap.size)
    (h : ∀ v' w', OwnB w' base v' (l ++ news) → w.grownBy w' v.ownBlock → At0 w v.ownBlock v'.ownBlock → wpList Tryz.prog ops Q rest (a.put o.dst v') w') :
    wpList Tryz.prog ops Q (o :: rest) a w := by
  subst hm
  obtain ⟨i0, hi0, hz0, hz1, hz2⟩ := info_parts info_u8
  refine wpList_plain hgd fun K hK => wp_append_src s x _ ho base 5 i0 _ 1 1 Tryz.underlying23 hi0 hz0 hz1 hz2 rfl (by omega) v l.length (l.map byteV) hs hown A news.length c (news.map byteV) hx (by simp) hr (byteV_one _)
    (by simp only [maxLen]; omega) (by omega) hbase fun v' w' h2 h3 h4 => hK _ _ (h v' w' ?_ h3 ?_)
  · unfold OwnB; simpa using h2
  · rcases h4 with h4 | h4
    · exact .inl h4
    · exact .inr ⟨_, h4, Nat.le_refl _⟩

theorem Fresh.own {w w' : World} {l : List UInt8} {r : Value} (h : Fresh w l r w') : OwnB w' w.heap.size r l := h.1
theorem Fresh.lit (w : World) (l : List UInt8) (cs : Array Value) (k : Nat) (hk : k = l.length) (hm : l.length ≤ 4096) (hc : cs.toList = l.map byteV) :
    Fresh w l (.slice (some ⟨w.heap.size, 0, none⟩) k k) (w.alloc (.cells cs 5)) :=
  ⟨OwnB.lit w _ l cs k hk hc (Nat.le_refl _) hm, (Below.refl _ _).alloc (Nat.le_refl _) _⟩
end Go.Proofs.YtebcnkelbicbnaaGreatDoor
namespace Go.Proofs.YtebcnkelbicbnaaGreatDoor
open Go.RowKit

/-- The four cells of an item. -/
def itemC (x : Itm) (ba : Option Addr) (bc : Nat) (ia : Option Addr) (ic : Nat) : List Value := [.int .i64 x.kind, .int .u64 x.n, .slice ba x.bytes.length bc, .slice ia x.items.length ic]

/-- The cells cs are those of the items l. -/
def ItemsC (H : Snap) : List Value → List Itm → Prop
  | cs, [] => cs = []
  | cs, x :: l => ∃ ba bc ia ic rest, cs = itemC x ba bc ia ic ++ rest ∧ IsItem H ba bc ia ic x ∧ ItemsC H rest l

theorem ItemsC.nil (H : Snap) : ItemsC H [] [] := by rw [ItemsC]
theorem ItemsC.one {H : Snap} {x : Itm} {ba : Option Addr} {bc : Nat} {ia : Option Addr} {ic : Nat} (h : IsItem H ba bc ia ic x) : ItemsC H (itemC x ba bc ia ic) [x] :=
  ⟨ba, bc, ia, ic, [], by simp, h, ItemsC.nil H⟩
theorem ItemsC.len {H : Snap} : ∀ {l : List Itm} {cs : List Value}, ItemsC H cs l → cs.length = l.length * 4
  | [], cs, h => by rw [ItemsC] at h; subst h; rfl
  | x :: l, cs, h => by
    obtain ⟨_, _, _, _, rest, rfl, _, hr⟩ := h
    have := hr.len
    simp [itemC]
    omega
theorem ItemsC.mono {H K : Snap} (hl : H.le K) : ∀ {l : List Itm} {cs : List Value}, ItemsC H cs l → ItemsC K cs l
  | [], cs, h => h
  | x :: l, cs, h => by
    obtain ⟨ba, bc, ia, ic, rest, e, hx, hr⟩ := h
    exact ⟨ba, bc, ia, ic, rest, e, hx.mono hl, hr.mono hl⟩
theorem ItemsC.app {H : Snap} : ∀ {l m : List Itm} {cs ds : List Value}, ItemsC H cs l → ItemsC H ds m → ItemsC H (cs ++ ds) (l ++ m)
  | [], m, cs, ds, h, hd => by rw [ItemsC] at h; subst h; exact hd
  | x :: l, m, cs, ds, h, hd => by
    obtain ⟨ba, bc, ia, ic, rest, rfl, hx, hr⟩ := h
    exact ⟨ba, bc, ia, ic, rest ++ ds, by simp, hx, hr.app hd⟩
theorem ItemsC.elems {H : Snap} {b : Nat} : ∀ {l : List Itm} {cs : List Value} {off : Nat}, ItemsC H cs l → Cells H b off cs → IsElems H b off l
  | [], cs, off, h, hc => by rw [IsElems]; trivial
  | x :: l, cs, off, h, hc => by
    obtain ⟨ba, bc, ia, ic, rest, rfl, hx, hr⟩ := h
    rw [IsElems]
    refine ⟨⟨ba, bc, ia, ic, hc 0 _ rfl, hc 1 _ rfl, hc 2 _ rfl, hc 3 _ rfl, hx⟩, hr.elems fun j v hj => ?_⟩
    have := hc (j + 4) v (by simpa [itemC] using hj)
    rwa [show off + (j + 4) = off + 4 + j by omega] at this
theorem ItemsC.oneCell {H : Snap} : ∀ {l : List Itm} {cs : List Value}, ItemsC H cs l → ∀ u ∈ cs, u.oneCell' = true
  | [], cs, h => by rw [ItemsC] at h; subst h; simp
  | x :: l, cs, h => by
    obtain ⟨ba, bc, ia, ic, rest, rfl, hx, hr⟩ := h
    intro u hu
    rw [List.mem_append] at hu
    rcases hu with hu | hu
    · simp [itemC] at hu
      rcases hu with rfl | rfl | rfl | rfl <;> rfl
    · exact hr.oneCell u hu
theorem ItemsC.split {H : Snap} : ∀ {l : List Itm} {cs : List Value} (k : Nat), ItemsC H cs l → ItemsC H (cs.take (k * 4)) (l.take k) ∧ ItemsC H (cs.drop (k * 4)) (l.drop k)
  | [], cs, k, h => by rw [ItemsC] at h; subst h; simp [ItemsC]
  | x :: l, cs, 0, h => by simp [ItemsC.nil]; exact h
  | x :: l, cs, k + 1, h => by
    obtain ⟨ba, bc, ia, ic, rest, rfl, hx, hr⟩ := h
    have := hr.split k
    rw [show (k + 1) * 4 = k * 4 + 4 by omega]
    refine ⟨⟨ba, bc, ia, ic, rest.take (k * 4), ?_, hx, this.1⟩, ?_⟩
    · simp [itemC]
    · simpa [itemC] using this.2

/-- The value v owns a row of the items l. -/
def OwnI (w : World) (base : Nat) (v : Value) (H : Snap) (l : List Itm) : Prop := ∃ cs, ItemsC H cs l ∧ w.ownsRow base 26 4 v l.length cs

section
variable {w w' : World} {base : Nat} {v : Value} {H : Snap} {l : List Itm}
theorem OwnI.nil (w : World) (base : Nat) (H : Snap) : OwnI w base (.slice none 0 0) H [] := ⟨[], ItemsC.nil H, World.ownsRow_nil _ _ _ _⟩
theorem OwnI.lt (h : OwnI w base v H l) : ∀ k, v.ownBlock = some k → base ≤ k ∧ k < w.heap.size := by obtain ⟨_, _, h⟩ := h; exact World.ownsRow.lt h
theorem OwnI.kept {row : Option Nat} (h : OwnI w base v H l) (hg : w.grownBy w' row) (hne : v.ownBlock = none ∨ v.ownBlock ≠ row) : OwnI w' base v H l := by
  obtain ⟨cs, hc, h⟩ := h; exact ⟨cs, hc, World.ownsRow.kept h hg hne⟩
theorem OwnI.below (h : OwnI w base v H l) (hb : Below w.heap.size w w') : OwnI w' base v H l := by
  refine h.kept (grown_of_below hb none) ?_
  cases hv : v.ownBlock with
  | none => exact .inl rfl
  | some g => exact .inr (by simp)
theorem OwnI.alloc (h : OwnI w base v H l) (o : Obj) : OwnI (w.alloc o) base v H l := h.below (below_box w o)
theorem OwnI.mono {K : Snap} (h : OwnI w base v H l) (hl : H.le K) : OwnI w base v K l := by obtain ⟨cs, hc, h⟩ := h; exact ⟨cs, hc.mono hl, h⟩
theorem OwnI.form (h : OwnI w base v H l) : ∃ A c, v = .slice A l.length c ∧ l.length ≤ c ∧ c ≤ 9223372036854775807 := by
  obtain ⟨cs, hc, h⟩ := h
  rcases h.2 with ⟨rfl, hz⟩ | ⟨g, cap, cur, rfl, _, _, hn, hm, _⟩
  · exact ⟨none, 0, by rw [hz], by omega, by omega⟩
  · exact ⟨_, cap, rfl, hn, by simpa [maxLen] using hm⟩
/-- The row as data that does not change any more. -/
theorem OwnI.snap {A : Option Addr} {m c : Nat} (h : OwnI w base (.slice A m c) H l) (hw : Holds w H) (hn : ∀ g, A.map (·.block) = some g → H g = none) :
    ∃ H', H.le H' ∧ Holds w H' ∧ (∀ b o, H' b = some o → H b = some o ∨ A.map (·.block) = some b) ∧ m = l.length ∧ l.length ≤ c ∧ c ≤ 9223372036854775807 ∧ (0 < l.length → ∃ b off, A = some ⟨b, off, none⟩ ∧ IsElems H' b off l) := by
  obtain ⟨cs, hcs, h⟩ := h
  rcases h.2 with ⟨hv, hz⟩ | ⟨g, cap, cur, hv, _, hg, hc, hm, hcz, ht⟩
  · cases hv
    exact ⟨H, Snap.le.refl _, hw, fun _ _ h => .inl h, hz.symm, by omega, by omega, by omega⟩
  · cases hv
    have hg0 : H g = none := hn g rfl
    refine ⟨H.with g (.cells cur 26), Snap.le_with hg0, hw.with hg, fun b o hb => ?_, rfl, hc, by simpa [maxLen] using hm, fun _ => ⟨g, 0, rfl, (hcs.mono (Snap.le_with hg0)).elems fun j v hj => ?_⟩⟩
    · unfold Snap.with at hb
      split at hb
      · subst b; exact .inr rfl
      · exact .inl hb
    · rw [← ht, List.getElem?_take] at hj
      split at hj
      · simp [Snap.cell?, Snap.with]
        simpa using hj
      · cases hj
end

theorem info_item : (Tryz.prog.info? 26).map (fun i => (i.zero, i.size, i.bytes)) = some (some (.agg #[.int .i64 0, .int .u64 0, .slice none 0 0, .slice none 0 0]), 4, 64) := by kernel_rfl

theorem wpList_app_items {w : World} {ops : Array Oper} {rest : List Oper} {o : Oper} {a : Act} {Q : Exit → Act → World → Prop} (hgd : o.guard = none) (s x : Operand)
    (ho : o.op = .call { callee := .builtin .append, args := #[s, x], argTypes := #[24, 24] })
    (base : Nat) (v : Value) (H : Snap) (l : List Itm) (hs : a.eval s = v) (hown : OwnI w base v H l) (A : Option Addr) (m c : Nat) (cs : List Value) (news : List Itm) (hx : a.eval x = .slice A m c) (hm : m = news.length)
    (hn : ItemsC H cs news) (hr : Src w A cs) (hlen : l.length + news.length ≤ 1099511627776) (hbase : base ≤ w.heap.size)
    (h : ∀ v' w', OwnI w' base v' H (l ++ news) → w.grownBy w' v.ownBlock → At0 w v.ownBlock v'.ownBlock → wpList Tryz.prog ops Q rest (a.put o.dst v') w') :
    wpList Tryz.prog ops Q (o :: rest) a w := by
  subst hm
  obtain ⟨xs, hxs, hown⟩ := hown
  obtain ⟨i0, hi0, hz0, hz1, hz2⟩ := info_parts info_item
  refine wpList_plain hgd fun K hK => wp_append_src s x _ ho base 26 i0 _ 4 64 Tryz.underlying24 hi0 hz0 hz1 hz2 rfl (by omega) v l.length xs hs hown A news.length c cs hx hn.len hr hn.oneCell
    (by simp only [maxLen]; omega) (by omega) hbase fun v' w' h2 h3 h4 => hK _ _ (h v' w' ?_ h3 ?_)
  · exact ⟨xs ++ cs, hxs.app hn, by simpa using h2⟩
  · rcases h4 with h4 | h4
    · exact .inl h4
    · exact .inr ⟨_, h4, Nat.le_refl _⟩

/-- What a call answers that gives an item in new memory. -/
def Gives (w : World) (H : Snap) (x : Itm) (v : Value) (w' : World) : Prop :=
  ∃ ba bc ia ic H', v = itemV x ba bc ia ic ∧ Grows w H w' H' ∧ IsItem H' ba bc ia ic x
/-- The same, with another block that may have turned. -/
structure GrowsBut (w : World) (H : Snap) (w' : World) (H' : Snap) (g : Nat) : Prop where
  grown : w.grownBy w' (some g)
  le : H.le H'
  holds : Holds w' H'
  fresh : ∀ b o, H' b = some o → H b = some o ∨ w.heap.size ≤ b

section
variable {fn : Func} {R : Ending → World → Prop} {w : World} {p u : Tmp} {ty : TypeId} {a : Act} {g : Nat} {t : TypeId} {cs : Array Value} {d : TypeDesc}
/-- Back with a struct that lies in a box. -/
theorem ret_row (h : fn.results = #[.cell p ty]) (hp : a.tmps.getD p undef = .pointer (some ⟨g, 0, none⟩)) (hg : Blk w g t cs)
    (hd : (match d with | .struct _ | .array _ _ => true | _ => false) = true) (hu : Tryz.prog.underlying ty = some d) (hi : (Tryz.prog.info? ty).map (·.size) = some cs.size)
    (hdf : a.defers = []) (hR : R (.returned (.agg cs)) w) : bodyPost Tryz.prog fn R .ret a w :=
  bodyPost_ret (results_cell_row h a.tmps w g t cs (0, 0) d hp hg hu (by cases d <;> first | exact hd | rfl | cases hd) hi) hdf hR
theorem ret_row_tmp (h : fn.results = #[.cell p ty, .tmp u]) (hp : a.tmps.getD p undef = .pointer (some ⟨g, 0, none⟩)) (hg : Blk w g t cs)
    (hd : (match d with | .struct _ | .array _ _ => true | _ => false) = true) (hu : Tryz.prog.underlying ty = some d) (hi : (Tryz.prog.info? ty).map (·.size) = some cs.size)
    (hdf : a.defers = []) (hR : R (.returned (.tuple #[.agg cs, a.tmps.getD u undef])) w) : bodyPost Tryz.prog fn R .ret a w := by
  refine bodyPost_ret (v := .tuple #[.agg cs, a.tmps.getD u undef]) ?_ hdf hR
  rw [results_cell_tmp h, hp]
  have hd' := run_loadVar_row (P := Tryz.prog) w g t ty cs (0, 0) d hg hu (by cases d <;> first | exact hd | rfl | cases hd) hi
  simp [asAddr, hd', Result.andThen]
end
theorem size_item : (Tryz.prog.info? 26).map (·.size) = some 4 := by kernel_rfl
end Go.Proofs.YtebcnkelbicbnaaGreatDoor
