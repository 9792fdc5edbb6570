/- The world's memory as data: what the arguments are. The world's memory as data: items, headers, rows of byte strings. -/
import Derived.Test.YtdbhgngikglmcaaDoorJrb
import Derived.ChangeSlices
import Derived.OpenShut
import Derived.Test.YtdbhgngikglmcaaDoorJmem
import Derived.Test.YtdbhgngikglmcaaDoorJpure
import Derived.Test.YtdbhgngikglmcaaDoorJenv
import Derived.Deep.Matrix
set_option linter.unusedVariables false
set_option linter.unusedSimpArgs false
namespace Go.Proofs.YtdbhgngikglmcaaDoor
open Go.RowKit

/-- All that lies in the world's memory. -/
def heapS (W : World) : Snap := fun b => W.heap[b]?
theorem heapS_cell (W : World) (a : Addr) : (heapS W).cell? a = W.cell? a := rfl
theorem heapS_holds (W : World) : Holds W (heapS W) := fun _ _ h => h
theorem heapS_tabs {W : World} (h : Lib.Utf8Tabs 0 1 W) : Tabs (heapS W) := fun _ hw =>
  ⟨fun c hc => hw.cell (h.1 c hc), fun i hi => ⟨hw.cell (h.2 i hi).1, hw.cell (h.2 i hi).2⟩⟩
theorem wf_i64_bnd {n : Int} (h : (Lit.int .i64 n).wf = true) : -9223372036854775808 ≤ n ∧ n ≤ 9223372036854775807 := by
  simp [Lit.wf, IntKind.min, IntKind.max, IntKind.signed, IntKind.bits] at h
  omega
theorem wf_u8_bnd {n : Int} (h : (Lit.int .u8 n).wf = true) : 0 ≤ n ∧ n < 256 := by
  simp [Lit.wf, IntKind.min, IntKind.max, IntKind.signed, IntKind.bits] at h
  omega
theorem ints_heap {W : World} {a : Addr} {len cap : Nat} {zs : List Int} (hl : len ≤ cap) (hm : cap ≤ maxLen) (hz : len ≤ zs.length)
    (hc : ∀ i, i < zs.length → W.cell? (a.add i) = some (.int .i64 (zs.getD i 0))) (wf : ∀ n ∈ zs, (Lit.int .i64 n).wf = true) : IsInts (heapS W) (some a) cap (zs.take len) ∧ (zs.take len).length = len := by
  have hlen : (zs.take len).length = len := by rw [List.length_take]; omega
  refine ⟨⟨by rw [hlen]; exact hl, by simpa [maxLen] using hm, fun hne => ?_, fun x hx => wf_i64_bnd (wf x (List.mem_of_mem_take hx))⟩, hlen⟩
  have h0 : 0 < len := by
    rcases Nat.eq_zero_or_pos len with h | h
    · subst h; simp at hne
    · exact h
  obtain ⟨b, off, rfl, hcell⟩ := ints_at hc (by omega)
  refine ⟨b, off, rfl, fun j v hj => ?_⟩
  rw [List.getElem?_map] at hj
  obtain ⟨x, hx, rfl⟩ := Option.map_eq_some_iff.1 hj
  have hjl := (List.getElem?_eq_some_iff.1 hx).1
  rw [hlen] at hjl
  rw [heapS_cell, hcell j (by omega)]
  rw [List.getElem?_take, if_pos hjl] at hx
  simp [List.getD, hx]
/-- Bytes that are given as numbers. -/
def bytesOfInts (zs : List Int) : List UInt8 := zs.map fun n => u8 n.toNat
theorem bytes_heap {W : World} {a : Addr} {len cap : Nat} {zs : List Int} (hl : len ≤ cap) (hm : cap ≤ maxLen) (hz : len ≤ zs.length)
    (hc : ∀ i, i < zs.length → W.cell? (a.add i) = some (.int .u8 (zs.getD i 0))) (wf : ∀ n ∈ zs, (Lit.int .u8 n).wf = true) : IsBytes (heapS W) (some a) cap (bytesOfInts (zs.take len)) ∧ (bytesOfInts (zs.take len)).length = len := by
  have hlen : (bytesOfInts (zs.take len)).length = len := by rw [bytesOfInts, List.length_map, List.length_take]; omega
  refine ⟨⟨by rw [hlen]; exact hl, by simpa [maxLen] using hm, fun hne => ?_⟩, hlen⟩
  have h0 : 0 < len := by
    rcases Nat.eq_zero_or_pos len with h | h
    · subst h; simp [bytesOfInts] at hne
    · exact h
  obtain ⟨b, off, rfl, hcell⟩ := ints_at hc (by omega)
  refine ⟨b, off, rfl, fun j v hj => ?_⟩
  rw [bytesOfInts, List.map_map, List.getElem?_map] at hj
  obtain ⟨x, hx, rfl⟩ := Option.map_eq_some_iff.1 hj
  rw [List.getElem?_take] at hx
  split at hx
  · rename_i hjl
    have hb := wf_u8_bnd (wf x (List.mem_of_getElem? hx))
    rw [heapS_cell, hcell j (by omega)]
    simp [List.getD, hx, byteV, u8_toNat]
    omega
  · cases hx
end Go.Proofs.YtdbhgngikglmcaaDoor
namespace Go.Proofs.YtdbhgngikglmcaaDoor
open Go.RowKit Go.ChangeShapes Go.WideShapes

theorem wf_u64_bnd {n : Int} (h : (Lit.int .u64 n).wf = true) : 0 ≤ n ∧ n < 18446744073709551616 := by
  simp [Lit.wf, IntKind.min, IntKind.max, IntKind.signed, IntKind.bits] at h
  omega
theorem isElems_of {Hs : Snap} {b : Nat} : ∀ (l : List Itm) (off : Nat), (∀ (k : Nat) (hk : k < l.length), ∃ ba bc ia ic, Hs.cell? ⟨b, off + k * 4, none⟩ = some (.int .i64 l[k].kind) ∧ Hs.cell? ⟨b, off + k * 4 + 1, none⟩ = some (.int .u64 l[k].n) ∧
      Hs.cell? ⟨b, off + k * 4 + 2, none⟩ = some (.slice ba l[k].bytes.length bc) ∧ Hs.cell? ⟨b, off + k * 4 + 3, none⟩ = some (.slice ia l[k].items.length ic) ∧ IsItem Hs ba bc ia ic l[k]) → IsElems Hs b off l
  | [], off, h => by rw [IsElems]; trivial
  | x :: l, off, h => by
    rw [IsElems]
    obtain ⟨ba, bc, ia, ic, h0, h1, h2, h3, hx⟩ := h 0 (by simp)
    refine ⟨⟨ba, bc, ia, ic, by simpa using h0, by simpa using h1, by simpa using h2, by simpa using h3, hx⟩, isElems_of l (off + 4) fun k hk => ?_⟩
    have := h (k + 1) (by simpa using hk)
    simp only [List.getElem_cons_succ] at this
    rwa [show off + (k + 1) * 4 = off + 4 + k * 4 by omega] at this
instance : Inhabited Itm := ⟨.mk 0 0 [] []⟩
instance : Inhabited Ad := ⟨⟨none, 0, none, 0⟩⟩
theorem list4 {α : Type} {l : List α} (h : l.length = 4) : ∃ a b c d, l = [a, b, c, d] := by
  match l, h with
  | [a, b, c, d], _ => exact ⟨a, b, c, d, rfl⟩

section
variable {H : Type} {enc : TypeId × Value → H} {W : World}
theorem bytes_cell {fuel : Nat} {c : Value} {x : DataW H × List MemPlace} (h : DataW.trod enc Tryd.prog W 0 (fun _ => true) true fuel 23 [c] = some x) :
    ∃ (A : Option Addr) (k : Nat) (l : List UInt8), c = .slice A l.length k ∧ IsBytes (heapS W) A k l := by
  rcases open_ints Tryd.underlying23 Tryd.underlying5 (by kernel_rfl) h with ⟨hcs, hx⟩ | ⟨a, len, cap, zs, hcs, _, hl, hm, hz, hx, hcell, hwz⟩
  · simp at hcs
    exact ⟨none, 0, [], hcs, IsBytes.nil _⟩
  · simp at hcs
    have h1 := bytes_heap hl hm (by simp at hz; omega) hcell hwz
    exact ⟨some a, cap, _, by rw [h1.2]; exact hcs, h1.1⟩

def ItemIn (W : World) (cs : List Value) (y : Itm × Ad) : Prop := cs = itemC y.1 y.2.ba y.2.bc y.2.ia y.2.ic ∧ IsItem (heapS W) y.2.ba y.2.bc y.2.ia y.2.ic y.1
theorem item_open : ∀ (n : Nat) (cs : List Value) (x : DataW H × List MemPlace), DataW.trod enc Tryd.prog W 0 (fun _ => true) true n 26 cs = some x → ∃ y, ItemIn W cs y := by
  have ci : Tryd.prog.cellsOf 3 = 1 := by kernel_rfl
  have cu : Tryd.prog.cellsOf 22 = 1 := by kernel_rfl
  have cb : Tryd.prog.cellsOf 23 = 1 := by kernel_rfl
  have cl : Tryd.prog.cellsOf 24 = 1 := by kernel_rfl
  have c4 : Tryd.prog.cellsOf 26 = 4 := by kernel_rfl
  intro n
  induction n using Nat.strongRecOn with
  | _ n ih =>
  intro cs x h
  obtain ⟨xs, n1, hn1, _, hl, hxl, hf⟩ := DataW.trod_struct Tryd.underlying26 h
  rw [c4] at hl
  obtain ⟨c0, c1, c2, c3, rfl⟩ := list4 hl
  obtain ⟨y0, y1, y2, y3, rfl⟩ := list4 (l := xs) (by rw [hxl]; rfl)
  have f0 := hf 0 _ rfl
  have f1 := hf 1 _ rfl
  have f2 := hf 2 _ rfl
  have f3 := hf 3 _ rfl
  simp [ci] at f0
  simp [cu] at f1
  simp [cb] at f2
  simp [cl] at f3
  obtain ⟨k, e0, _, w0⟩ := DataW.trod_int Tryd.underlying3 f0
  obtain ⟨m, e1, _, w1⟩ := DataW.trod_int Tryd.underlying22 f1
  obtain ⟨ba, bc, bs, rfl, hbs⟩ := bytes_cell f2
  simp at e0 e1
  subst e0 e1
  have b0 := wf_i64_bnd w0
  have b1 := wf_u64_bnd w1
  obtain ⟨q, rfl⟩ : ∃ q : Nat, m = (q : Int) := ⟨m.toNat, by omega⟩
  rcases DataW.trod_slice Tryd.underlying24 f3 with ⟨e3, _⟩ | ⟨a, len, cap, elems, rest, n2, hn2, e3, _, _, hlc, hcm, hlen, hel, _, _⟩
  · simp at e3
    subst e3
    refine ⟨(.mk k q bs [], ⟨ba, bc, none, 0⟩), rfl, ?_⟩
    rw [IsItem]
    exact ⟨⟨b0.1, b0.2, by omega, by simp, Nat.zero_le _⟩, hbs, fun h0 => by simp at h0⟩
  · simp at e3
    subst e3
    rw [c4] at hel
    have each : ∀ i, i < len → ∃ y : Itm × Ad, ∃ cs', W.cells? 0 (a.add (i * 4)) 4 = some cs' ∧ ItemIn W cs' y := fun i hi => by
      have hi' : i < elems.length := by omega
      have h1 := hel i hi
      rw [List.getElem?_eq_getElem hi', Option.bind_eq_some_iff] at h1
      obtain ⟨cs', h1, h2⟩ := h1
      obtain ⟨y, hy⟩ := ih n2 (by omega) cs' _ h2
      exact ⟨y, cs', h1, hy⟩
    obtain ⟨Y, hY⟩ := Go.Deep.choose_lt each
    obtain ⟨l, hll⟩ : ∃ l, (List.range len).map (fun i => (Y i).1) = l := ⟨_, rfl⟩
    have hlz : l.length = len := by rw [← hll]; simp
    refine ⟨(.mk k q bs l, ⟨ba, bc, some a, cap⟩), by simp [itemC, Itm.kind, Itm.n, Itm.bytes, Itm.items, hlz], ?_⟩
    rw [IsItem]
    have hcm' : cap ≤ 9223372036854775807 := by simpa [maxLen] using hcm
    refine ⟨⟨b0.1, b0.2, by omega, by rw [hlz]; exact hlc, hcm'⟩, hbs, fun h0 => ?_⟩
    rw [hlz] at h0
    obtain ⟨b, off, spot⟩ := a
    have hsp : spot = none := by
      obtain ⟨cs', h1, h2, _⟩ := hY 0 h0
      obtain ⟨_, _, h3⟩ := World.cells?_some h1
      have h4 := h3 0 (by omega)
      rw [h2] at h4
      simpa [Addr.add] using World.cell?_spot h4
    subst hsp
    refine ⟨b, off, rfl, isElems_of l off fun i hi => ?_⟩
    rw [hlz] at hi
    obtain ⟨cs', h1, h2, h3⟩ := hY i hi
    obtain ⟨_, _, h4⟩ := World.cells?_some h1
    have g : l[i]'(by omega) = (Y i).1 := by subst hll; simp
    have at_ : ∀ j, j < 4 → (heapS W).cell? ⟨b, off + i * 4 + j, none⟩ = cs'[j]? := fun j hj => by
      rw [← h4 j hj, add_plain, add_plain]
      rfl
    rw [g]
    refine ⟨_, _, _, _, ?_, ?_, ?_, ?_, h3⟩
    · rw [← Nat.add_zero (off + i * 4), at_ 0 (by omega), h2]; rfl
    · rw [at_ 1 (by omega), h2]; rfl
    · rw [at_ 2 (by omega), h2]; rfl
    · rw [at_ 3 (by omega), h2]; rfl
theorem headers_arg {cs : Array Value} {d : DataW H} {p : List MemPlace} (h : DataW.Trod enc Tryd.prog W 0 (fun _ => true) true 28 (.agg cs) d p) :
    ∃ (x y : Itm) (a b : Ad), cs = hdrC x a y b ∧ IsItem (heapS W) a.ba a.bc a.ia a.ic x ∧ IsItem (heapS W) b.ba b.bc b.ia b.ic y := by
  have c4 : Tryd.prog.cellsOf 26 = 4 := by kernel_rfl
  have c8 : Tryd.prog.cellsOf 28 = 8 := by kernel_rfl
  obtain ⟨fuel, hf⟩ := h
  obtain ⟨y0, y1, n, _, hl, h0, h1⟩ := trod_struct2 Tryd.underlying28 hf
  simp only [Value.cells] at h0 h1 hl
  rw [c8] at hl
  simp only [c4] at h0 h1
  obtain ⟨⟨x, a⟩, ex, hx⟩ := item_open _ _ _ h0
  obtain ⟨⟨y, b⟩, ey, hy⟩ := item_open _ _ _ h1
  refine ⟨x, y, a, b, ?_, hx, hy⟩
  rw [List.drop_zero] at ex
  rw [List.take_of_length_le (by rw [List.length_drop, hl]; omega)] at ey
  have := List.take_append_drop 4 cs.toList
  rw [ex, ey] at this
  apply Array.ext'
  rw [← this]
  rfl
theorem rows_arg {a0 : Option Addr} {len cap : Nat} {d : DataW H} {p : List MemPlace} (h : DataW.Trod enc Tryd.prog W 0 (fun _ => true) true 30 (.slice a0 len cap) d p) :
    ∃ l : List (List UInt8), l.length = len ∧ IsRows (heapS W) a0 cap l := by
  obtain ⟨fuel, hf⟩ := h
  rcases Go.Deep.open_int_rows Tryd.underlying30 Tryd.underlying23 Tryd.underlying5 (by kernel_rfl) (by kernel_rfl) hf with ⟨hcs, _⟩ | ⟨a, len', cap', A, L, C, Z, hcs, _, hl, hm, _, hr⟩
  · simp [Value.cells] at hcs
    obtain ⟨rfl, rfl, rfl⟩ := hcs
    exact ⟨[], rfl, by simp, by omega, fun h0 => by simp at h0⟩
  · simp [Value.cells] at hcs
    obtain ⟨rfl, rfl, rfl⟩ := hcs
    have hm' : cap ≤ 9223372036854775807 := by simpa [maxLen] using hm
    refine ⟨(List.range len).map fun r => bytesOfInts ((Z r).take (L r)), by simp, by simpa using hl, hm', fun h0 => ?_⟩
    simp only [List.length_map, List.length_range] at h0
    obtain ⟨b, off, spot⟩ := a
    have hsp : spot = none := by simpa [Addr.add] using World.cell?_spot (hr 0 (by omega)).1
    subst hsp
    refine ⟨b, off, rfl, fun j hj => ?_⟩
    simp only [List.length_map, List.length_range] at hj
    obtain ⟨h1, h2, h3, h4, h5, h6, h7⟩ := hr j (by omega)
    simp only [List.getElem_map, List.getElem_range]
    refine ⟨A j, C j, ?_, ?_⟩
    · rw [heapS_cell, ← add_plain, h1]
      have : (bytesOfInts ((Z j).take (L j))).length = L j := by rw [bytesOfInts, List.length_map, List.length_take]; omega
      rw [this]
    · cases hA : A j with
      | none =>
        have hC := h6 hA
        have : Z j = [] := List.eq_nil_of_length_eq_zero (by omega)
        rw [this, hC]
        simpa [bytesOfInts] using IsBytes.nil (heapS W)
      | some a' => exact (bytes_heap h2 h3 (by omega) (fun i hi => (h7 a' hA).2 i (by omega)) h5).1
end
end Go.Proofs.YtdbhgngikglmcaaDoor
