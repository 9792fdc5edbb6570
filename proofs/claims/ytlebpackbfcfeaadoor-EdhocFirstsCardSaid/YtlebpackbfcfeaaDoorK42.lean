/- squeezed. Walks: the laws' sanity check, and -/
import Derived.Test.YtlebpackbfcfeaaDoorK41
import Derived.Test.YtlebpackbfcfeaaDoorK12
import Derived.Test.YtlebpackbfcfeaaDoorK00
import Derived.Deep.Matrix
import Derived.Test.YtlebpackbfcfeaaDoorK21
import Derived.Test.YtlebpackbfcfeaaDoorK38
import Derived.Test.YtlebpackbfcfeaaDoorK15
import Derived.Test.YtlebpackbfcfeaaDoorK10
set_option linter.unusedVariables false
set_option linter.unusedSimpArgs false
set_option maxRecDepth 100000
set_option maxHeartbeats 6400000
namespace Go.Proofs.YtlebpackbfcfeaaDoor
open Go.RowKit
def fA : First := ⟨3, [0], List.replicate 32 0, [55], []⟩
def bA : List UInt8 := [3, 0, 88, 32] ++ List.replicate 32 0 ++ [55]
theorem awake_enc : encFirst fA = .ok bA := by kernel_rfl
theorem awake_dec : decFirst bA = .ok fA := by kernel_rfl
theorem OwnX.lit {α : Type} {L : Lie α} {H : Snap} {cs : List Value} {l : List α} (hc : RowC L H cs l) (t : TypeId) (w : World) (base : Nat) (hb : base ≤ w.heap.size) (hm : l.length ≤ 4096) :
  OwnX L t (w.alloc (.cells cs.toArray t)) base (.slice (some ⟨w.heap.size, 0, none⟩) l.length l.length) H l :=
 ⟨cs, hc, hc.len, .inr ⟨w.heap.size, l.length, cs.toArray, rfl, hb, heap_alloc_new w _, Nat.le_refl _, by simp only [maxLen]; omega, by simp [hc.len], by rw [← hc.len]; simp⟩⟩
theorem lit_row {α : Type} {L : Lie α} {w wr : World} {H Hr : Snap} {cs : List Value} {l : List α} (hG : Grows w H wr Hr) (hc : RowC L Hr cs l) (t : TypeId) (hm : l.length ≤ 4096) :
  ∃ H', Grows w H (wr.alloc (.cells cs.toArray t)) H' ∧ Hr.le H' ∧ IsRow L H' (some ⟨wr.heap.size, 0, none⟩) l.length l := by
 have hO := OwnX.lit hc t wr wr.heap.size (Nat.le_refl _) hm
 have hG' := hG.alloc (.cells cs.toArray t)
 obtain ⟨H', hl, hh, hf, _, hr⟩ := hO.snap hG'.holds (fun q hq => by cases hq; exact hG.holds.none_of_ge (Nat.le_refl _))
 exact ⟨H', hG'.snap hl hh hf (fun q hq => by cases hq; exact hG.size), hl, hr⟩
theorem lit_bytes {w wr : World} {H Hr : Snap} (hG : Grows w H wr Hr) (l : List UInt8) (cs : Array Value) (k : Nat) (hk : k = l.length) (hm : l.length ≤ 4096) (hc : cs.toList = l.map byteV) :
  ∃ H', Grows w H (wr.alloc (.cells cs 5)) H' ∧ Hr.le H' ∧ IsBytes H' (some ⟨wr.heap.size, 0, none⟩) k l := by
 obtain ⟨H', hG', hb, _⟩ := Fresh.snapB hG.holds (Fresh.lit wr l cs k hk hm hc)
 exact ⟨H', hG.trans hG', hG'.le, hb⟩
theorem made_zeros2 (n : Nat) : (madeCells (Value.int .u8 0).cells (n * 1)).toList = (List.replicate n (0 : UInt8)).map byteV := by
 apply List.ext_getElem?
 intro j
 simp [madeCells, Value.cells, List.getElem?_replicate]
 by_cases h : j < n
 ·simp [h, byteV, Nat.mod_one]
 ·simp [h]
theorem mk2_Small (A : Option Addr) (n c : Nat) (w : World) :
  Calls Tryd.prog 7 #[.slice A n c] w fun e w' => (∃ b : Bool, e = .returned (.bool b) ∧ (b = true → n ≤ 900)) ∧ w' = w := by
 have E : Hid (decide ((n : Int) ≤ 900) = decide (n ≤ 900)) := by rw [Hid, Bool.eq_iff_iff, decide_eq_true_eq, decide_eq_true_eq]; omega
 go_enter Tryd.func7, Tryd.ntmps7
 go_wp2_with fail
 go_ret
 exact ⟨⟨decide ((n : Int) ≤ 900), rfl, by intro h; rw [E.out] at h; simpa using h⟩, rfl⟩
theorem law_same {A B : Option Addr} {n m c d : Nat} {l : List UInt8} (q : Nat) (hn : n = l.length) (hm : m = l.length) (hl : l.length ≤ 1099511627776) (w : World) (ha : Src w A (l.map byteV)) (hb : Src w B (l.map byteV)) :
  Calls Tryd.prog 18 #[.slice A n c, .int .i64 (q : Int), .slice B m d, .int .i64 (q : Int)] w fun e w' => e = .returned (.bool true) ∧ Below w.heap.size w w' := by
 have EQ := ref_Equal w A B l l n m c d hn hm (by omega) (by omega) ha hb
 rw [decide_eq_true (rfl : l = l)] at EQ
 have EQ' := Hh EQ
 have k1 : ((q : Int) == (q : Int)) = true := beq_self_eq_true _
 clear hn hm EQ ha hb hl
 go_enter Tryd.func18, Tryd.ntmps18
 go_wp2_with fail
 refine EQ'.out.mono ?_
 rintro e w1 ⟨rfl, hb1⟩
 go_wp2_with fail
 go_ret
 exact ⟨rfl, hb1⟩
theorem law_awake {H : Snap} (hTab : Tabs H) (w : World) (hH : Holds w H) :
  Calls Tryd.prog 8 #[] w fun e w' => e = .returned (.bool true) ∧ Below w.heap.size w w' := by
 have hG0 := Grows.refl hH
 have HT := Hh hTab
 go_enter Tryd.func8, Tryd.ntmps8
 go_wp2_with (at_make; refine stop_in ?_)
 unfold Stopped
 obtain ⟨H1, hG1, hl1, hr1⟩ := lit_row (L := lieI) hG0 (RowC.one (x := (0 : Int)) rfl) 3 (by simp)
 have hG1' : Grows w H (w.alloc (.cells #[.int .i64 0] 3)) H1 := hG1
 have hr1' : IsRow lieI H1 (some ⟨w.heap.size, 0, none⟩) 1 [0] := hr1
 clear hG1 hr1
 generalize w.alloc (.cells #[.int .i64 0] 3) = w1 at hG1' ⊢
 obtain ⟨i0, hi0, hz0, hz1, hz2⟩ := info_parts info_u8
 refine wpList_make_full _ rfl _ _ 24 rfl w1.heap.size 5 i0 _ 1 Tryd.underlying24 hi0 hz0 hz1 _ _ _ _ 32 rfl rfl (by omega) (by omega) (by rw [hz2]; omega) (by simp only [maxLen]; omega) (Nat.le_refl _) fun w2 hO hg2 => ?_
 clear i0 hi0 hz0 hz1 hz2
 have hf2 : Fresh w1 (List.replicate 32 0) (.slice (some ⟨w1.heap.size, 0, none⟩) 32 32) w2 := by
  refine ⟨?_, grown_none hg2⟩
  rw [List.length_replicate, ← made_zeros2]
  exact hO
 obtain ⟨H2, hG2, hb2, hjunk⟩ := Fresh.snapB hG1'.holds hf2
 clear hjunk
 have hG3 := hG1'.trans hG2
 obtain ⟨H3, hG4, hl4, hb4⟩ := lit_bytes hG3 [55] #[.int .u8 55] 1 rfl (by simp) rfl
 have hFA : FirstA H3 fA (some ⟨w.heap.size, 0, none⟩) 1 (some ⟨w1.heap.size, 0, none⟩) 32 (some ⟨w2.heap.size, 0, none⟩) 1 none 0 :=
  ⟨hr1'.mono (hG2.le.trans hl4), hb2.mono hl4, hb4, IsRow.nil _ _⟩
 have EF := Hh (e_EncodeFirst (f := fA) (m := 3) (sn := 1) (gn := 32) (cn := 1) (en := 0) _ hG4.holds hFA rfl rfl rfl rfl rfl)
 rw [awake_enc] at EF
 clear hG1' hr1' hf2 hG2 hb2 hG3 hb4 hO hg2 hFA hl4 hl1 hG0
 have HG4 := Hh hG4
 clear hG4
 go_wp2_with fail
 refine EF.out.mono ?_
 intro e w4 hs
 unfold BytesOut at hs
 obtain ⟨v, rfl, hf⟩ := hs
 obtain ⟨BA, bc, rfl, hjunk⟩ := hf.own.form
 clear hjunk
 have hG4 := HG4.out
 obtain ⟨H5, hG5, hb5, hjunk⟩ := Fresh.snapB hG4.holds hf
 clear hjunk
 have hG6 := hG4.trans hG5
 have DF := Hh (e_DecodeFirst (HT.out.mono hG6.le) w4 hG6.holds hb5)
 rw [awake_dec] at DF
 have hlen : bA.length = 37 := rfl
 rw [hlen] at DF ⊢
 clear hlen hf hG4 hG5 hb5 EF
 go_wp2_with fail
 refine DF.out.mono ?_
 intro e w5 hs
 unfold FirstOut at hs
 obtain ⟨sa, sc, ga, gc, ca, cc, ea, ec, H7, rfl, hG7, hF7⟩ := hs
 have hG8 := hG6.trans hG7
 obtain ⟨b, off, rfl, hcell⟩ := hF7.conn.at_ (by show 0 < ([55] : List UInt8).length; simp)
 have hq : H7.cell? ⟨b, off + 0, none⟩ = some (.int .u8 55) := hcell 0 (by show 0 < ([55] : List UInt8).length; simp)
 have hX0 := Blk.new w5 44 #[.int .i64 0, .slice none 0 0, .slice none 0 0, .slice none 0 0, .slice none 0 0]
 have hXn : H7 w5.heap.size = none := hG8.holds.none_of_ge (Nat.le_refl _)
 have hG9 := hG8.alloc (.cells #[.int .i64 0, .slice none 0 0, .slice none 0 0, .slice none 0 0, .slice none 0 0] 44)
 have hcc1 : (1 : Int) ≤ (cc : Int) := by have := hF7.conn.le; have h : fA.conn.length = 1 := rfl; omega
 clear DF hG6 hG7 hF7 hcell
 have e1 : fA.method = 3 := rfl
 have e2 : fA.suites.length = 1 := rfl
 have e3 : fA.gx.length = 32 := rfl
 have e4 : fA.conn.length = 1 := rfl
 have e5 : fA.ext.length = 0 := rfl
 rw [e1, e2, e3, e4, e5]
 clear e1 e2 e3 e4 e5
 go_wp2_with (with_reducible refine stop_store ?_)
 unfold Stopped
 refine wpList_store_item rfl _ _ _ rfl rfl _ _ rfl rfl _ _ hX0 size_first rfl (one5 _ _ _ _ _ rfl rfl rfl rfl rfl) fun w6 hX6 hg6 => ?_
 have hG10 := hG9.grownOwn hXn hG8.size hg6
 have q0 : w6.cell? ⟨b, off, none⟩ = some (.int .u8 55) := hG10.holds.cell hq
 have f0 := hX6.cell 0 rfl
 have f3 := hX6.cell 3 rfl
 clear hX0 hG9 hG8 hg6 hq
 go_wp2_with fail
 go_ret
 exact ⟨rfl, hG10.below⟩
end Go.Proofs.YtlebpackbfcfeaaDoor
namespace Go.Proofs.YtlebpackbfcfeaaDoor
open Go.RowKit Go.ChangeShapes Go.WideShapes
theorem rowC_of {α : Type} {L : Lie α} {H : Snap} : ∀ (l : List α) (b off : Nat), (∀ (j : Nat) (hj : j < l.length), ∃ d, L.E H l[j] d ∧ ∀ i v, d[i]? = some v → H.cell? ⟨b, off + (j * L.k + i), none⟩ = some v) → ∃ cs, RowC L H cs l ∧ ∀ j v, cs[j]? = some v → H.cell? ⟨b, off + j, none⟩ = some v
 | [], b, off, h => ⟨[], RowC.nil L H, by simp⟩
 | x :: l, b, off, h => by
  obtain ⟨d, hd, hc⟩ := h 0 (by simp)
  obtain ⟨cs, h1, h2⟩ := rowC_of l b (off + L.k) fun j hj => by
   obtain ⟨d', hd', hc'⟩ := h (j + 1) (by simpa using hj)
   simp only [List.getElem_cons_succ] at hd'
   refine ⟨d', hd', fun i v hv => ?_⟩
   have := hc' i v hv
   rwa [show off + ((j + 1) * L.k + i) = off + L.k + (j * L.k + i) by rw [Nat.add_mul]; omega] at this
  refine ⟨d ++ cs, by rw [RowC]; exact ⟨d, cs, rfl, hd, h1⟩, fun j v hv => ?_⟩
  have hl := L.len hd
  by_cases hj : j < d.length
  ·rw [List.getElem?_append_left hj] at hv
   have := hc j v hv
   rwa [show off + (0 * L.k + j) = off + j by omega] at this
  ·rw [List.getElem?_append_right (by omega)] at hv
   have := h2 _ v hv
   rwa [show off + L.k + (j - d.length) = off + j by omega] at this
instance : Inhabited Ext := ⟨⟨0, false, []⟩⟩
theorem list3 {α : Type} {l : List α} (h : l.length = 3) : ∃ a b c, l = [a, b, c] := by
 match l, h with
 | [a, b, c], _ => exact ⟨a, b, c, rfl⟩
section
variable {H : Type} {enc : TypeId × Value → H} {W : World}
theorem bytes_cell' {fuel : Nat} {c : Value} {x : DataW H × List MemPlace} (h : DataW.trod enc Tryd.prog W 0 (fun _ => true) true fuel 24 [c] = some x) :
  ∃ (A : Option Addr) (k : Nat) (l : List UInt8), c = .slice A l.length k ∧ IsBytes (heapS W) A k l := by
 rcases open_ints Tryd.underlying24 Tryd.underlying5 (by kernel_rfl) h with ⟨hcs, hx⟩ | ⟨a, len, cap, zs, hcs, _, hl, hm, hz, hx, hcell, hwz⟩
 ·simp at hcs
  exact ⟨none, 0, [], hcs, IsBytes.nil _⟩
 ·simp at hcs
  have h1 := bytes_heap hl hm (by simp at hz; omega) hcell hwz
  exact ⟨some a, cap, _, by rw [h1.2]; exact hcs, h1.1⟩
theorem ext_open {n : Nat} {cs : List Value} {x : DataW H × List MemPlace} (h : DataW.trod enc Tryd.prog W 0 (fun _ => true) true n 62 cs = some x) : ∃ y : Ext, lieE.E (heapS W) y cs := by
 have ci : Tryd.prog.cellsOf 3 = 1 := by kernel_rfl
 have cu : Tryd.prog.cellsOf 4 = 1 := by kernel_rfl
 have cb : Tryd.prog.cellsOf 24 = 1 := by kernel_rfl
 have c3 : Tryd.prog.cellsOf 62 = 3 := by kernel_rfl
 obtain ⟨xs, n1, hn1, _, hl, hxl, hf⟩ := DataW.trod_struct Tryd.underlying62 h
 rw [c3] at hl
 obtain ⟨c0, c1, c2, rfl⟩ := list3 hl
 obtain ⟨y0, y1, y2, rfl⟩ := list3 (l := xs) (by rw [hxl]; rfl)
 have f0 := hf 0 _ rfl
 have f1 := hf 1 _ rfl
 have f2 := hf 2 _ rfl
 simp [ci] at f0
 simp [cu] at f1
 simp [cb] at f2
 obtain ⟨k, e0, _, w0⟩ := DataW.trod_int Tryd.underlying3 f0
 obtain ⟨m, e1, _⟩ := DataW.trod_bool Tryd.underlying4 f1
 obtain ⟨ba, bc, bs, rfl, hbs⟩ := bytes_cell' f2
 simp at e0 e1
 subst e0 e1
 exact ⟨⟨k, m, bs⟩, ba, bc, rfl, hbs⟩
theorem exts_arg {a0 : Option Addr} {len cap : Nat} {d : DataW H} {p : List MemPlace} (h : DataW.Trod enc Tryd.prog W 0 (fun _ => true) true 23 (.slice a0 len cap) d p) :
  ∃ l : List Ext, l.length = len ∧ IsRow lieE (heapS W) a0 cap l := by
 have c3 : Tryd.prog.cellsOf 62 = 3 := by kernel_rfl
 obtain ⟨fuel, hf⟩ := h
 rcases DataW.trod_slice Tryd.underlying23 hf with ⟨e3, _⟩ | ⟨a, len', cap', elems, rest, n2, hn2, e3, _, _, hlc, hcm, hlen, hel, _, _⟩
 ·simp [Value.cells] at e3
  obtain ⟨rfl, rfl, rfl⟩ := e3
  exact ⟨[], rfl, IsRow.nil _ _⟩
 ·simp [Value.cells] at e3
  obtain ⟨rfl, rfl, rfl⟩ := e3
  rw [c3] at hel
  have each : ∀ i, i < len → ∃ y : Ext, ∃ cs', W.cells? 0 (a.add (i * 3)) 3 = some cs' ∧ lieE.E (heapS W) y cs' := fun i hi => by
   have hi' : i < elems.length := by omega
   have h1 := hel i hi
   rw [List.getElem?_eq_getElem hi', Option.bind_eq_some_iff] at h1
   obtain ⟨cs', h1, h2⟩ := h1
   obtain ⟨y, hy⟩ := ext_open h2
   exact ⟨y, cs', h1, hy⟩
  obtain ⟨Y, hY⟩ := Go.Deep.choose_lt each
  obtain ⟨l, hll⟩ : ∃ l, (List.range len).map (fun i => Y i) = l := ⟨_, rfl⟩
  have hlz : l.length = len := by rw [← hll]; simp
  have hcm' : cap ≤ 9223372036854775807 := by simpa [maxLen] using hcm
  refine ⟨l, hlz, by rw [hlz]; exact hlc, hcm', fun h0 => ?_⟩
  rw [hlz] at h0
  obtain ⟨b, off, spot⟩ := a
  have hsp : spot = none := by
   obtain ⟨cs', h1, h2⟩ := hY 0 h0
   obtain ⟨_, hcl, h3⟩ := World.cells?_some h1
   have h4 := h3 0 (by omega)
   have hl3 := lieE.len h2
   rw [List.getElem?_eq_getElem (by rw [hl3]; show 0 < 3; omega)] at h4
   simpa [Addr.add] using World.cell?_spot h4
  subst hsp
  obtain ⟨cs, h1, h2⟩ := rowC_of (L := lieE) (H := heapS W) l b off fun i hi => by
   rw [hlz] at hi
   obtain ⟨cs', h1, h2⟩ := hY i hi
   obtain ⟨_, _, h4⟩ := World.cells?_some h1
   have g : l[i]'(by omega) = Y i := by subst hll; simp
   have hl3 := lieE.len h2
   refine ⟨cs', by rw [g]; exact h2, fun j v hv => ?_⟩
   have hj : j < 3 := by
    have := (List.getElem?_eq_some_iff.1 hv).1
    rw [hl3] at this
    exact this
   rw [← hv, ← h4 j hj, add_plain, add_plain, heapS_cell, Nat.add_assoc]
   rfl
  exact ⟨b, off, cs, rfl, h1, h2⟩
end
end Go.Proofs.YtlebpackbfcfeaaDoor
namespace Go.Proofs.YtlebpackbfcfeaaDoor
open Go.RowKit
def ShortE (l : List Ext) : Prop := l.length ≤ 4 ∧ ∀ x ∈ l, x.val.length ≤ 600
theorem decExtN_short : ∀ (n : Nat) (out : List Ext) (b : List UInt8) (xs : List Ext), ShortE out → decExtN n out b = .ok xs → ShortE xs
 | 0, out, b, xs, ho, h => by rw [decExtN] at h; injection h with h; subst h; exact ho
 | n + 1, out, b, xs, ho, h => by
  rw [decExtN] at h
  split at h
  ·injection h with h; subst h; exact ho
  split at h
  ·cases h
  ·rename_i x k c hp
   split at h
   ·split at h
    ·cases h
    ·rename_i l hl
     split at h
     ·cases h
     ·split at h
      ·cases h
      ·rename_i h600
       refine decExtN_short n _ _ _ ⟨?_, ?_⟩ h
       ·have h0 : out ≠ [] := by rintro rfl; simp at hl
        have := List.length_pos_iff.2 h0
        have := ho.1
        rw [List.length_append, List.length_dropLast, List.length_singleton]; omega
       ·intro y hy
        rw [List.mem_append, List.mem_singleton] at hy
        rcases hy with hy | rfl
        ·exact ho.2 y ((List.dropLast_sublist _).subset hy)
        ·simp only; omega
   ·split at h
    ·cases h
    ·split at h
     ·cases h
     ·rename_i h4
      refine decExtN_short n _ _ _ ⟨?_, ?_⟩ h
      ·have := ho.1; rw [List.length_append, List.length_singleton]; omega
      ·intro y hy
       rw [List.mem_append, List.mem_singleton] at hy
       rcases hy with hy | rfl
       ·exact ho.2 y hy
       ·simp
theorem decExt_short {b : List UInt8} {xs : List Ext} (h : decExt b = .ok xs) : ShortE xs := decExtN_short _ _ _ _ ⟨by simp, by simp⟩ h
end Go.Proofs.YtlebpackbfcfeaaDoor
namespace Go.Proofs.YtlebpackbfcfeaaDoor
open Go.RowKit
theorem r_twice {H : Snap} (w : World) (hH : Holds w H) {A : Option Addr} {n c : Nat} {l : List Int} (hn : n = l.length) (hr : IsRow lieI H A c l) :
  Calls Tryd.prog 71 #[.slice A n c] w fun e w' => e = .returned (.bool (twice l)) ∧ Below w.heap.size w w' := by
 have HR := Hh hr
 have HH := Hh hH
 have HN := Hh (show n = l.length ∧ n ≤ c ∧ c ≤ 9223372036854775807 from ⟨hn, by have := hr.le; omega, hr.max⟩)
 have hb0 := Below.refl w.heap.size w
 clear hr hH hn
 go_enter Tryd.func71, Tryd.ntmps71
 go_wp2_with fail
 go_loopw [7] (fun v7 wr => Below w.heap.size w wr ∧ ∃ i : Nat, i ≤ n ∧ v7 = .int .i64 (i : Int) ∧ (∀ i' j, j < i' → i' < i → l.getD j 0 ≠ l.getD i' 0)) (fun v7 _ => n - (intOf v7).toNat)
 case atStart => exact ⟨hb0, 0, Nat.zero_le _, rfl, fun i j _ hi => absurd hi (by omega)⟩
 case round =>
  clear hb0
  obtain ⟨hbr, i, hi, rfl, hne⟩ := hrel
  have HNE := Hh hne
  have HI := Hh hi
  clear hne hi
  by_cases hin : i < n
  ·have hii : (i : Int) < (n : Int) := by omega
   obtain ⟨b, off, rfl, hat⟩ := rowI_at HR.out (by have := HN.out; omega)
   have q0 := hat i (by have := HN.out; omega)
   obtain ⟨v, hv⟩ : ∃ v, l.getD i 0 = v := ⟨_, rfl⟩
   rw [hv] at q0
   have HQ0 := Hh q0
   have HAT := Hh hat
   have HV := Hh hv
   have HIN := Hh hin
   have hi63 : (i : Int) + 1 ≤ 9223372036854775807 := by have := HN.out; omega
   have hi0 : (0 : Int) ≤ (i : Int) := by omega
   have hic : (i : Int) ≤ (c : Int) := by have := HN.out; omega
   have hnc : (n : Int) ≤ (c : Int) := by have := HN.out; omega
   clear hv hin hat q0
   go_wp2_with fail
   go_loopw [4] (fun v4 wx => Below w.heap.size w wx ∧ ∃ j : Nat, j ≤ i ∧ v4 = .int .i64 (j : Int) ∧ (∀ j', j' < j → l.getD j' 0 ≠ v)) (fun v4 _ => i - (intOf v4).toNat)
   case atStart => exact ⟨hbr, 0, Nat.zero_le _, rfl, fun j hj => absurd hj (by omega)⟩
   case round =>
    clear hbr
    obtain ⟨hbx, j, hj, rfl, hnej⟩ := hrel
    have HNEJ := Hh hnej
    have HJ := Hh hj
    clear hnej hj
    by_cases hji : j < i
    ·have hjI : (j : Int) < (i : Int) := by omega
     have hHx := HH.out.below hbx (Nat.le_refl _)
     have q0 := hHx.cell HQ0.out
     have p0 := hHx.cell (HAT.out j (by have := HIN.out; have := HN.out; omega))
     obtain ⟨u, hu⟩ : ∃ u, l.getD j 0 = u := ⟨_, rfl⟩
     rw [hu] at p0
     have HU := Hh hu
     have HJI := Hh hji
     have hjn : (j : Int) < (n : Int) := by have := HIN.out; omega
     have hj63 : (j : Int) + 1 ≤ 9223372036854775807 := by omega
     clear hu hji hHx
     go_upto_region 7 with fail
     go_big_quiet (fail)
     have hby := below_drewNv hbx nq
     generalize wr.drewN nq = wy at hby ⊢
     clear hbx q0 p0
     by_cases huv : v = u
     ·have d1 : (v == u) = true := by rw [beq_iff_eq]; exact huv
      have d2 : (v = u) = True := eq_true huv
      have E : Hid (twice l = true) := twice_yes (i := i) (j := j) HJI.out (by have := HN.out; have := HIN.out; omega) (by rw [HU.out, HV.out]; exact huv.symm)
      clear huv
      clear hi63 hi0 hic hnc hjn hj63 hjI hii
      go_wp2_with fail
      go_ret
      exact ⟨by rw [E.out]; try rfl, hby⟩
     ·have d1 : (v == u) = false := by rw [beq_eq_false_iff_ne]; exact huv
      have d2 : (v = u) = False := eq_false huv
      have HUV := Hh huv
      have KJ : IntKind.i64.wrap ((j : Int) + 1) = (j : Int) + 1 := IntWalk.i64_in _ (by omega)
      clear huv hi63 hi0 hic hnc hjn hjI hii hj63
      go_wp2_with fail
      go_roundw
      case rel => exact ⟨hby, j + 1, HJI.out, by go_num, fun j' hj' => by
       rcases Nat.lt_succ_iff_lt_or_eq.1 hj' with h | h
       ·exact HNEJ.out j' h
       ·subst h; rw [HU.out]; exact fun e => HUV.out e.symm⟩
      case measure => have := HJI.out; simp [intOf]; omega
    ·have hjI : ¬ ((j : Int) < (i : Int)) := by omega
     have hjd : decide ((j : Int) < (i : Int)) = false := decide_eq_false hjI
     have hji' : j = i := by have := HJ.out; omega
     have HJ2 := Hh hji'
     clear hji hji'
     go_wp2_with fail
     go_roundw
     case rel => exact ⟨hbx, i + 1, HIN.out, by go_num, fun i' j' h1 h2 => by
      rcases Nat.lt_succ_iff_lt_or_eq.1 h2 with h | h
      ·exact HNE.out i' j' h1 h
      ·subst h; rw [HV.out]; exact HNEJ.out j' (by have := HJ2.out; omega)⟩
     case measure => have := HIN.out; simp [intOf]; omega
  ·have hii : ¬ ((i : Int) < (n : Int)) := by omega
   have hid : decide ((i : Int) < (n : Int)) = false := decide_eq_false hii
   have E : Hid (twice l = false) := by rw [Hid]; exact twice_no fun i' j h1 h2 => HNE.out i' j h1 (by have := HN.out; omega)
   clear hin
   go_wp2_with fail
   go_ret
   exact ⟨by rw [E.out]; try rfl, hbr⟩
end Go.Proofs.YtlebpackbfcfeaaDoor
namespace Go.Proofs.YtlebpackbfcfeaaDoor
open Go.RowKit
theorem r_ValidSuites {H : Snap} (w : World) (hH : Holds w H) {A : Option Addr} {n c : Nat} {l : List Int} (hn : n = l.length) (hr : IsRow lieI H A c l) :
  Calls Tryd.prog 51 #[.slice A n c] w fun e w' => e = .returned (.bool (goodSuites l)) ∧ Below w.heap.size w w' := by
 have HR := Hh hr
 have HH := Hh hH
 have TW := Hh (r_twice w hH hn hr)
 have HN := Hh (show n = l.length ∧ n ≤ c ∧ c ≤ 9223372036854775807 from ⟨hn, by have := hr.le; omega, hr.max⟩)
 clear hr hH hn
 go_enter Tryd.func51, Tryd.ntmps51
 go_wp2_with fail
 go_loopw [7] (fun v7 wr => wr = w ∧ ∃ i : Nat, i ≤ n ∧ v7 = .int .i64 (i : Int) ∧ (∀ j, j < i → 0 ≤ l.getD j 0 ∧ l.getD j 0 ≤ 65535)) (fun v7 _ => n - (intOf v7).toNat)
 case atStart => exact ⟨rfl, 0, Nat.zero_le _, rfl, fun j hj => absurd hj (by omega)⟩
 case round =>
  obtain ⟨rfl, i, hi, rfl, hrng⟩ := hrel
  have HRNG := Hh hrng
  have HI := Hh hi
  clear hrng hi
  by_cases hin : i < n
  ·have hii : (i : Int) < (n : Int) := by omega
   obtain ⟨b, off, rfl, hat⟩ := rowI_at HR.out (by have := HN.out; omega)
   have q0 := HH.out.cell (hat i (by have := HN.out; omega))
   obtain ⟨v, hv⟩ : ∃ v, l.getD i 0 = v := ⟨_, rfl⟩
   rw [hv] at q0
   have HV := Hh hv
   have HIN := Hh hin
   have KI : IntKind.i64.wrap ((i : Int) + 1) = (i : Int) + 1 := IntWalk.i64_in _ (by have := HN.out; omega)
   have hi0 : (0 : Int) ≤ (i : Int) := by omega
   have hic : (i : Int) ≤ (c : Int) := by have := HN.out; omega
   have hnc : (n : Int) ≤ (c : Int) := by have := HN.out; omega
   clear hv hin hat TW
   by_cases c1 : v < 0
   ·have c1d : decide (v < 0) = true := decide_eq_true c1
    have E : Hid (goodSuites l = false) := by rw [Hid]; exact goodSuites_no (by intro h; have := (h.2.2.1 i (by have := HN.out; have := HIN.out; omega)).1; rw [HV.out] at this; omega)
    go_wp2_with fail
    go_ret
    exact ⟨by rw [E.out]; try rfl, Below.refl _ _⟩
   have c1d : decide (v < 0) = false := decide_eq_false c1
   by_cases c2 : 65535 < v
   ·have c2d : decide (65535 < v) = true := decide_eq_true c2
    have E : Hid (goodSuites l = false) := by rw [Hid]; exact goodSuites_no (by intro h; have := (h.2.2.1 i (by have := HN.out; have := HIN.out; omega)).2; rw [HV.out] at this; omega)
    go_wp2_with fail
    go_ret
    exact ⟨by rw [E.out]; try rfl, Below.refl _ _⟩
   have c2d : decide (65535 < v) = false := decide_eq_false c2
   have HC := Hh (And.intro c1 c2)
   clear c1 c2
   go_wp2_with fail
   go_roundw
   case rel => exact ⟨by trivial, i + 1, HIN.out, by go_num, fun j hj => by
    rcases Nat.lt_succ_iff_lt_or_eq.1 hj with h | h
    ·exact HRNG.out j h
    ·subst h; rw [HV.out]; have := HC.out; omega⟩
   case measure => have := HIN.out; simp [intOf]; omega
  ·have hii : ¬ ((i : Int) < (n : Int)) := by omega
   have hid : decide ((i : Int) < (n : Int)) = false := decide_eq_false hii
   have HR2 := Hh (show ∀ j, j < l.length → 0 ≤ l.getD j 0 ∧ l.getD j 0 ≤ 65535 from fun j hj => HRNG.out j (by have := HN.out; omega))
   by_cases h0 : n = 0
   ·subst h0
    have E : Hid (goodSuites l = false) := by rw [Hid]; exact goodSuites_no (by have := HN.out; omega)
    clear hin TW
    go_wp2_with fail
    go_ret
    exact ⟨by rw [E.out]; try rfl, Below.refl _ _⟩
   have z1 : (1 : Int) ≤ (n : Int) := by omega
   have z1n : decide (1 ≤ n) = true := decide_eq_true (by omega)
   by_cases h8 : 8 < n
   ·have z8 : ¬ ((n : Int) ≤ 8) := by omega
    have z8d : decide ((n : Int) ≤ 8) = false := decide_eq_false z8
    have z8n : decide (n ≤ 8) = false := decide_eq_false (by omega)
    have E : Hid (goodSuites l = false) := by rw [Hid]; exact goodSuites_no (by have := HN.out; omega)
    clear hin TW h8 h0
    go_wp2_with fail
    go_ret
    exact ⟨by rw [E.out]; try rfl, Below.refl _ _⟩
   have z8 : (n : Int) ≤ 8 := by omega
   have z8d : decide ((n : Int) ≤ 8) = true := decide_eq_true z8
   have z8n : decide (n ≤ 8) = true := decide_eq_true (by omega)
   have E : Hid (goodSuites l = !twice l) := by
    rw [Hid]
    cases ht : twice l with
    | true => exact goodSuites_no (by rw [ht]; simp)
    | false => exact (goodSuites_iff l).2 ⟨by have := HN.out; omega, by have := HN.out; omega, HR2.out, ht⟩
   clear hin h8 h0
   go_wp2_with fail
   refine TW.out.mono ?_
   rintro e w3 ⟨rfl, hb3⟩
   go_wp2_with fail
   go_ret
   exact ⟨by rw [E.out]; try rfl, hb3⟩
end Go.Proofs.YtlebpackbfcfeaaDoor
namespace Go.Proofs.YtlebpackbfcfeaaDoor
open Go.RowKit
def suitesI (l : List Int) : Itm := if l.length = 1 then intP (l.getD 0 0) else .mk 4 0 [] (l.map intP)
theorem modestL_ints : ∀ l : List Int, ModestL (l.map intP)
 | [] => by rw [List.map_nil, ModestL]; trivial
 | x :: l => by rw [List.map_cons, ModestL]; exact ⟨modest_int x, modestL_ints l⟩
theorem goodL_ints (lv : Nat) : ∀ l : List Int, GoodL (l.map intP) lv
 | [] => by rw [List.map_nil, GoodL]; trivial
 | x :: l => by rw [List.map_cons, GoodL]; exact ⟨good_intP x lv, goodL_ints lv l⟩
theorem encL_ints : ∀ l : List Int, encL (l.map intP) = intsB l
 | [] => by rw [List.map_nil, encL, intsB]
 | x :: l => by rw [List.map_cons, encL, encB_intP, encL_ints l, intsB]
theorem good_suitesI (l : List Int) : Good (suitesI l) 0 := by
 rw [suitesI]
 split
 ·exact good_intP _ _
 ·rw [Good]
  refine ⟨?_, goodL_ints _ _, by intro h; omega⟩
  simp [nodeOk, isPlain, okPlain, frameOk, Itm.kind, Itm.bytes, Itm.items, Itm.n]
theorem enc_suitesI (l : List Int) : encB (suitesI l) = suitesB l := by
 have hg := good_suitesI l
 rw [suitesI] at hg ⊢
 rw [suitesB]
 by_cases h : l.length = 1
 ·rw [if_pos h, if_pos h, encB_intP]
  match l, h with
  | [x], _ => rw [intsB, intsB, List.append_nil]; rfl
 ·rw [if_neg h] at hg ⊢
  rw [if_neg h, enc_more hg (by simp [Itm.kind]), Itm.items, encL_ints]
  simp [numP, Itm.kind, Itm.items]
theorem ref_Suites {H : Snap} (w : World) (hH : Holds w H) {A : Option Addr} {n c : Nat} {l : List Int} (hn : n = l.length) (hr : IsRow lieI H A c l) (h1 : 1 ≤ l.length) (h8 : l.length ≤ 8) (hv : ∀ j, j < l.length → 0 ≤ l.getD j 0 ∧ l.getD j 0 ≤ 65535) :
  Calls Tryd.prog 53 #[.slice A n c] w fun e w' => ∃ v, e = .returned v ∧ Gives w H (suitesI l) v w' := by
 have hT := Blk.new w 69 #[.int .i64 0, .int .u64 0, .slice none 0 0, .slice none 0 0]
 have hG := (Grows.refl hH).alloc zeroO
 have hn0 : H w.heap.size = none := hH.none_of_ge (Nat.le_refl _)
 obtain ⟨b, off, rfl, hat⟩ := rowI_at hr (by omega)
 have hnc : (n : Int) ≤ (c : Int) := by have := hr.le; omega
 have HN := Hh (And.intro hn (And.intro h1 h8))
 have HAT := Hh hat
 have HV := Hh hv
 have hn8 : (n : Int) ≤ 8 := by omega
 have hT' : Blk (w.alloc zeroO) w.heap.size 69 #[.int .i64 0, .int .u64 0, .slice none 0 0, .slice none 0 0] := hT
 clear hr hn h1 h8 hat hv hT hH
 by_cases c1 : n = 1
 ·subst c1
  have E : Hid (suitesI l = intP (l.getD 0 0)) := by rw [Hid, suitesI, if_pos HN.out.1.symm]
  have q0 := hG.holds.cell (hG.le.cell (HAT.out 0 (by have := HN.out; omega)))
  have hv0 := HV.out 0 (by have := HN.out; omega)
  obtain ⟨v, hv⟩ : ∃ v, l.getD 0 0 = v := ⟨_, rfl⟩
  rw [hv] at q0 hv0 E
  rw [Nat.add_zero] at q0
  have RI := Hh (ref_Int v (by omega) (by omega) (w.alloc zeroO) hG.holds)
  have hc1 : (1 : Int) ≤ (c : Int) := hnc
  clear hv hv0
  go_enter Tryd.func53, Tryd.ntmps53
  go_wp2_with fail
  generalize w.alloc zeroO = w1 at hT' hG q0 RI ⊢
  refine RI.out.mono ?_
  rintro e w2 ⟨r, rfl, ba, bc, ia, ic, H2, rfl, hG2, hi2⟩
  have hT2 := hT'.below hG2.below
  have hGz := hG.trans hG2
  have hn2 := hG2.none hn0 hT'.lt
  clear RI hG hG2 q0 hT'
  go_wp2_with (with_reducible refine stop_store ?_)
  unfold Stopped
  refine stI rfl rfl rfl rfl rfl hT2 rfl rfl rfl rfl rfl fun w3 hT3 hg3 => ?_
  have hG3 := hGz.grownOwn hn2 (Nat.le_refl _) hg3
  go_wp2_with fail
  refine ret_row rfl rfl hT3 rfl rfl size_item rfl ?_
  rw [E.out]
  exact ⟨_, rfl, ba, bc, ia, ic, H2, rfl, hG3, hi2⟩
 ·have e1 : ((n : Int) == 1) = false := by simp; omega
  have e1' : ((n : Int) = 1) = False := eq_false (by omega)
  have E : Hid (suitesI l = .mk 4 0 [] (l.map intP)) := by rw [Hid, suitesI, if_neg (by have := HN.out.1; omega)]
  clear c1
  go_enter Tryd.func53, Tryd.ntmps53
  go_wp2_with fail
  generalize w.alloc zeroO = w1 at hT' hG ⊢
  go_loopw [3, 15] (fun v3 v15 wr => ∃ (i : Nat) (Hr : Snap) (VA : Option Addr) (vc vn : Nat), i ≤ n ∧ v15 = .int .i64 (i : Int) ∧ v3 = .slice VA vn vc ∧ vn = i ∧ Grows w H wr Hr ∧ Blk wr w.heap.size 69 #[.int .i64 0, .int .u64 0, .slice none 0 0, .slice none 0 0] ∧ Hr w.heap.size = none ∧ OwnI wr (w.heap.size + 1) (.slice VA vn vc) Hr ((l.take i).map intP) ∧ (∀ q, (Value.slice VA vn vc).ownBlock = some q → Hr q = none)) (fun _ v15 _ => n - (intOf v15).toNat)
  case atStart => exact ⟨0, H, none, 0, 0, Nat.zero_le _, rfl, rfl, rfl, hG, hT', hn0, OwnI.nil _ _ _, by intro q hq; simp [Value.ownBlock] at hq⟩
  case round =>
   clear hG hT' hn0
   obtain ⟨i, Hr, VA, vc, vn, hi, rfl, rfl, rfl, hGr, hTr, hTn, hOr, hnr⟩ := hrel
   have HI := Hh hi
   clear hi
   by_cases hin : vn < n
   ·have hii : (vn : Int) < (n : Int) := by omega
    have q0 := hGr.holds.cell (hGr.le.cell (HAT.out vn (by have := HN.out; omega)))
    have hv0 := HV.out vn (by have := HN.out; omega)
    have HTK := Hh (show (l.take (vn + 1)).map intP = (l.take vn).map intP ++ [intP (l.getD vn 0)] by
     have h := HN.out.1
     rw [List.take_succ_eq_append_getElem (by omega), List.map_append, List.map_singleton, getD_lt (by omega)])
    have HLL := Hh (show ((l.take vn).map intP).length = vn by rw [List.length_map, List.length_take]; have := HN.out; omega)
    obtain ⟨v, hv⟩ : ∃ v, l.getD vn 0 = v := ⟨_, rfl⟩
    rw [hv] at q0 hv0 HTK
    have RI := Hh (ref_Int v (by omega) (by omega) wr hGr.holds)
    have HIN := Hh hin
    have hi63 : (vn : Int) + 1 ≤ 9223372036854775807 := by omega
    clear hv hv0 hin
    go_wp2_with fail
    refine RI.out.mono ?_
    rintro e w5 ⟨r, rfl, ja, jb, jc, jd, H5, rfl, hG5, hi5⟩
    obtain ⟨x, hx⟩ : ∃ x, intP v = x := ⟨_, rfl⟩
    rw [hx] at hi5 HTK ⊢
    have hG6 := hGr.trans hG5
    have hT6 := hTr.below hG5.below
    have hTn6 := hG5.none hTn hTr.lt
    have hO6 := (hOr.below hG5.below).mono hG5.le
    have hn6 : ∀ q, (Value.slice VA vn vc).ownBlock = some q → H5 q = none := fun q hq => hG5.none (hnr q hq) (hOr.lt q hq).2
    have hG7 := hG6.alloc (.cells (itemC x ja jb jc jd).toArray 69)
    have hT7 := hT6.alloc (.cells (itemC x ja jb jc jd).toArray 69)
    have hO7 := hO6.alloc (.cells (itemC x ja jb jc jd).toArray 69)
    obtain ⟨ls, hls⟩ : ∃ ls, (l.take vn).map intP = ls := ⟨_, rfl⟩
    rw [hls] at hO7 HTK HLL
    clear RI hx hGr hTr hTn hOr hnr hG5 hG6 hT6 hO6 q0 hls
    go_wp2_with (at_builtin; refine stop_in ?_)
    unfold Stopped
    refine wpList_app_items rfl (.tmp 19) (.tmp 22) rfl (w.heap.size + 1) (.slice VA vn vc) H5 ls rfl hO7 _ 1 _ (itemC x ja jb jc jd) [x] rfl rfl (ItemsC.one hi5) (Src.new _ _ _ _ rfl _ rfl) (by have := HLL.out; simp only [List.length_singleton]; omega) hT7.lt fun v' w8 hO8 hg8 hat8 => ?_
    obtain ⟨VA', vc', rfl, hjunk⟩ := hO8.form
    clear hjunk
    have hn8 := own_hid3 hG7.holds hn6 hat8
    have hol := fun q (hq : (Value.slice VA vn vc).ownBlock = some q) => (hO7.lt q hq).1
    have hG8 := hG7.grownRow hn6 (fun q hq => by have := hol q hq; omega) hg8
    have hT8 := hT7.grown hg8 (fun e => by have := hol _ e; omega)
    have hlen : (ls ++ [x]).length = vn + 1 := by rw [List.length_append, HLL.out]; rfl
    rw [hlen] at hO8 hn8 ⊢
    rw [← HTK.out] at hO8
    clear hO7 hG7 hT7 hg8 hat8 hlen hn6 hol
    go_wp2_with fail
    go_roundw
    case rel => exact ⟨vn + 1, H5, VA', vc', _, HIN.out, by go_num, rfl, rfl, hG8, hT8, hTn6, hO8, hn8⟩
    case measure => have := HIN.out; simp [intOf]; omega
   ·have hii : ¬ ((vn : Int) < (n : Int)) := by omega
    have hid : decide ((vn : Int) < (n : Int)) = false := decide_eq_false hii
    have hvs : n = vn := by have := HI.out; omega
    have hTA : l.take vn = l := by rw [List.take_of_length_le]; have := HN.out.1; omega
    rw [hTA] at hOr
    obtain ⟨H5, hl5, hh5, hf5, hz5, hz1, hz2, hel⟩ := hOr.snap hGr.holds (fun q hq => hnr q (own_of hq))
    have hlow : ∀ q, VA.map (·.block) = some q → w.heap.size + 1 ≤ q := fun q hq => (hOr.lt q (own_of hq)).1
    have hG5 := hGr.snap hl5 hh5 hf5 (fun q hq => by have := hlow q hq; omega)
    have hTn5 := snap_keep hf5 hTn (fun e => by have := hlow _ e; omega)
    have hML : (l.map intP).length = l.length := List.length_map _
    have LI0 := ref_List (c := vc) (A := VA) ⟨hz1, hz2, hel⟩ (modestL_ints l) (by rw [hML]; have := HN.out; omega) wr hG5.holds
    rw [hML, ← HN.out.1, hvs] at LI0
    have LI := Hh LI0
    clear hin hOr hnr hGr hl5 hh5 hf5 hz5 hz1 hz2 hel hlow hTn LI0 hTA hML
    go_wp2_with fail
    refine LI.out.mono ?_
    rintro e w6 ⟨r, rfl, ba, bc, ia, ic, H6, rfl, hG6, hi6⟩
    have hT6 := hTr.below hG6.below
    have hG7 := hG5.trans hG6
    have hn7 := hG6.none hTn5 hTr.lt
    clear LI hG5 hG6 hTr hTn5
    go_wp2_with (with_reducible refine stop_store ?_)
    unfold Stopped
    refine stI rfl rfl rfl rfl rfl hT6 rfl rfl rfl rfl rfl fun w8 hT8 hg8 => ?_
    have hG8 := hG7.grownOwn hn7 (Nat.le_refl _) hg8
    go_wp2_with fail
    refine ret_row rfl rfl hT8 rfl rfl size_item rfl ?_
    rw [E.out]
    exact ⟨_, rfl, ba, bc, ia, ic, H6, rfl, hG8, hi6⟩
end Go.Proofs.YtlebpackbfcfeaaDoor
