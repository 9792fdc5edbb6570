/- squeezed. The world's memory as data: what t -/
import Derived.Test.YtlebpackbfcfeaaGreatDoorK12
import Derived.ChangeSlices
import Derived.OpenShut
set_option linter.unusedVariables false
set_option linter.unusedSimpArgs false
set_option maxRecDepth 100000
namespace Go.Proofs.YtlebpackbfcfeaaGreatDoor
open Go.RowKit
def heapS (W : World) : Snap := fun b => W.heap[b]?
theorem heapS_cell (W : World) (a : Addr) : (heapS W).cell? a = W.cell? a := rfl
theorem heapS_holds (W : World) : Holds W (heapS W) := fun _ _ h => h
theorem heapS_tabs {W : World} (h : Lib.Utf8Tabs 0 1 W) : Tabs (heapS W) := fun _ hw =>
 ⟨fun c hc => hw.cell (h.1 c hc), fun i hi => ⟨hw.cell (h.2 i hi).1, hw.cell (h.2 i hi).2⟩⟩
theorem wf_i64_bnd {n : Int} (h : (Lit.int .i64 n).wf = true) : -9223372036854775808 ≤ n ∧ n ≤ 9223372036854775807 := by
 simp [Lit.wf, IntKind.min, IntKind.max, IntKind.signed, IntKind.bits] at h
 omega
theorem wf_u8_bnd {n : Int} (h : (Lit.int .u8 n).wf = true) : 0 ≤ n ∧ n < 256 := by
 simp [Lit.wf, IntKind.min, IntKind.max, IntKind.signed, IntKind.bits] at h
 omega
theorem ints_heap {W : World} {a : Addr} {len cap : Nat} {zs : List Int} (hl : len ≤ cap) (hm : cap ≤ maxLen) (hz : len ≤ zs.length)
  (hc : ∀ i, i < zs.length → W.cell? (a.add i) = some (.int .i64 (zs.getD i 0))) (wf : ∀ n ∈ zs, (Lit.int .i64 n).wf = true) : IsInts (heapS W) (some a) cap (zs.take len) ∧ (zs.take len).length = len := by
 have hlen : (zs.take len).length = len := by rw [List.length_take]; omega
 refine ⟨⟨by rw [hlen]; exact hl, by simpa [maxLen] using hm, fun hne => ?_, fun x hx => wf_i64_bnd (wf x (List.mem_of_mem_take hx))⟩, hlen⟩
 have h0 : 0 < len := by
  rcases Nat.eq_zero_or_pos len with h | h
  ·subst h; simp at hne
  ·exact h
 obtain ⟨b, off, rfl, hcell⟩ := ints_at hc (by omega)
 refine ⟨b, off, rfl, fun j v hj => ?_⟩
 rw [List.getElem?_map] at hj;obtain ⟨x, hx, rfl⟩ := Option.map_eq_some_iff.1 hj;have hjl := (List.getElem?_eq_some_iff.1 hx).1;rw [hlen] at hjl;rw [heapS_cell, hcell j (by omega)];rw [List.getElem?_take, if_pos hjl] at hx
 simp [List.getD, hx]
def bytesOfInts (zs : List Int) : List UInt8 := zs.map fun n => u8 n.toNat
theorem bytes_heap {W : World} {a : Addr} {len cap : Nat} {zs : List Int} (hl : len ≤ cap) (hm : cap ≤ maxLen) (hz : len ≤ zs.length)
  (hc : ∀ i, i < zs.length → W.cell? (a.add i) = some (.int .u8 (zs.getD i 0))) (wf : ∀ n ∈ zs, (Lit.int .u8 n).wf = true) : IsBytes (heapS W) (some a) cap (bytesOfInts (zs.take len)) ∧ (bytesOfInts (zs.take len)).length = len := by
 have hlen : (bytesOfInts (zs.take len)).length = len := by rw [bytesOfInts, List.length_map, List.length_take]; omega
 refine ⟨⟨by rw [hlen]; exact hl, by simpa [maxLen] using hm, fun hne => ?_⟩, hlen⟩
 have h0 : 0 < len := by
  rcases Nat.eq_zero_or_pos len with h | h
  ·subst h; simp [bytesOfInts] at hne
  ·exact h
 obtain ⟨b, off, rfl, hcell⟩ := ints_at hc (by omega)
 refine ⟨b, off, rfl, fun j v hj => ?_⟩
 rw [bytesOfInts, List.map_map, List.getElem?_map] at hj;obtain ⟨x, hx, rfl⟩ := Option.map_eq_some_iff.1 hj;rw [List.getElem?_take] at hx
 split at hx
 ·rename_i hjl
  have hb := wf_u8_bnd (wf x (List.mem_of_getElem? hx));rw [heapS_cell, hcell j (by omega)]
  simp [List.getD, hx, byteV, u8_toNat]
  omega
 ·cases hx
end Go.Proofs.YtlebpackbfcfeaaGreatDoor
