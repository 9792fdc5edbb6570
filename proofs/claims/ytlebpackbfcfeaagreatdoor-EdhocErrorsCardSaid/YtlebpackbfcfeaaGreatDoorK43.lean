/- squeezed. Walks: the laws' sanity check, and -/
import Derived.Test.YtlebpackbfcfeaaGreatDoorK42
import Derived.Test.YtlebpackbfcfeaaGreatDoorK15
set_option linter.unusedVariables false
set_option linter.unusedSimpArgs false
set_option maxRecDepth 100000
set_option maxHeartbeats 6400000
namespace Go.Proofs.YtlebpackbfcfeaaGreatDoor
open Go.RowKit
def fA : First := ⟨3, [0], List.replicate 32 0, [55], []⟩
def bA : List UInt8 := [3, 0, 88, 32] ++ List.replicate 32 0 ++ [55]
theorem awake_enc : encFirst fA = .ok bA := by kernel_rfl
theorem awake_dec : decFirst bA = .ok fA := by kernel_rfl
theorem OwnX.lit {α : Type} {L : Lie α} {H : Snap} {cs : List Value} {l : List α} (hc : RowC L H cs l) (t : TypeId) (w : World) (base : Nat) (hb : base ≤ w.heap.size) (hm : l.length ≤ 4096) :
  OwnX L t (w.alloc (.cells cs.toArray t)) base (.slice (some ⟨w.heap.size, 0, none⟩) l.length l.length) H l :=
 ⟨cs, hc, hc.len, .inr ⟨w.heap.size, l.length, cs.toArray, rfl, hb, heap_alloc_new w _, Nat.le_refl _, by simp only [maxLen]; omega, by simp [hc.len], by rw [← hc.len]; simp⟩⟩
theorem lit_row {α : Type} {L : Lie α} {w wr : World} {H Hr : Snap} {cs : List Value} {l : List α} (hG : Grows w H wr Hr) (hc : RowC L Hr cs l) (t : TypeId) (hm : l.length ≤ 4096) :
  ∃ H', Grows w H (wr.alloc (.cells cs.toArray t)) H' ∧ Hr.le H' ∧ IsRow L H' (some ⟨wr.heap.size, 0, none⟩) l.length l := by
 have hO := OwnX.lit hc t wr wr.heap.size (Nat.le_refl _) hm;have hG' := hG.alloc (.cells cs.toArray t);obtain ⟨H', hl, hh, hf, _, hr⟩ := hO.snap hG'.holds (fun q hq => by cases hq; exact hG.holds.none_of_ge (Nat.le_refl _))
 exact ⟨H', hG'.snap hl hh hf (fun q hq => by cases hq; exact hG.size), hl, hr⟩
theorem lit_bytes {w wr : World} {H Hr : Snap} (hG : Grows w H wr Hr) (l : List UInt8) (cs : Array Value) (k : Nat) (hk : k = l.length) (hm : l.length ≤ 4096) (hc : cs.toList = l.map byteV) :
  ∃ H', Grows w H (wr.alloc (.cells cs 5)) H' ∧ Hr.le H' ∧ IsBytes H' (some ⟨wr.heap.size, 0, none⟩) k l := by
 obtain ⟨H', hG', hb, _⟩ := Fresh.snapB hG.holds (Fresh.lit wr l cs k hk hm hc)
 exact ⟨H', hG.trans hG', hG'.le, hb⟩
theorem made_zeros2 (n : Nat) : (madeCells (Value.int .u8 0).cells (n * 1)).toList = (List.replicate n (0 : UInt8)).map byteV := by
 apply List.ext_getElem?
 intro j
 simp [madeCells, Value.cells, List.getElem?_replicate]
 by_cases h : j < n
 ·simp [h, byteV, Nat.mod_one]
 ·simp [h]
theorem mk2_Small (A : Option Addr) (n c : Nat) (w : World) :
  Calls Tryz.prog 4 #[.slice A n c] w fun e w' => (∃ b : Bool, e = .returned (.bool b) ∧ (b = true → n ≤ 900)) ∧ w' = w := by
 have E : Hid (decide ((n : Int) ≤ 900) = decide (n ≤ 900)) := by rw [Hid, Bool.eq_iff_iff, decide_eq_true_eq, decide_eq_true_eq]; omega
 go_enter Tryz.func4, Tryz.ntmps4
 go_wp2_with fail
 go_ret
 exact ⟨⟨decide ((n : Int) ≤ 900), rfl, by intro h; rw [E.out] at h; simpa using h⟩, rfl⟩
theorem law_same {A B : Option Addr} {n m c d : Nat} {l : List UInt8} (q : Nat) (hn : n = l.length) (hm : m = l.length) (hl : l.length ≤ 1099511627776) (w : World) (ha : Src w A (l.map byteV)) (hb : Src w B (l.map byteV)) :
  Calls Tryz.prog 11 #[.slice A n c, .int .i64 (q : Int), .slice B m d, .int .i64 (q : Int)] w fun e w' => e = .returned (.bool true) ∧ Below w.heap.size w w' := by
 have EQ := ref_Equal w A B l l n m c d hn hm (by omega) (by omega) ha hb;rw [decide_eq_true (rfl : l = l)] at EQ;have EQ' := Hh EQ;have k1 : ((q : Int) == (q : Int)) = true := beq_self_eq_true _;clear hn hm EQ ha hb hl;go_enter Tryz.func11, Tryz.ntmps11
 go_wp2_with fail
 refine EQ'.out.mono ?_
 rintro e w1 ⟨rfl, hb1⟩
 go_wp2_with fail
 go_ret
 exact ⟨rfl, hb1⟩
theorem law_awake {H : Snap} (hTab : Tabs H) (w : World) (hH : Holds w H) :
  Calls Tryz.prog 5 #[] w fun e w' => e = .returned (.bool true) ∧ Below w.heap.size w w' := by
 have hG0 := Grows.refl hH;have HT := Hh hTab;go_enter Tryz.func5, Tryz.ntmps5
 go_wp2_with (at_make; refine stop_in ?_)
 unfold Stopped
 obtain ⟨H1, hG1, hl1, hr1⟩ := lit_row (L := lieI) hG0 (RowC.one (x := (0 : Int)) rfl) 3 (by simp);have hG1' : Grows w H (w.alloc (.cells #[.int .i64 0] 3)) H1 := hG1;have hr1' : IsRow lieI H1 (some ⟨w.heap.size, 0, none⟩) 1 [0] := hr1;clear hG1 hr1
 generalize w.alloc (.cells #[.int .i64 0] 3) = w1 at hG1' ⊢
 obtain ⟨i0, hi0, hz0, hz1, hz2⟩ := info_parts info_u8
 refine wpList_make_full _ rfl _ _ 23 rfl w1.heap.size 5 i0 _ 1 Tryz.underlying23 hi0 hz0 hz1 _ _ _ _ 32 rfl rfl (by omega) (by omega) (by rw [hz2]; omega) (by simp only [maxLen]; omega) (Nat.le_refl _) fun w2 hO hg2 => ?_
 clear i0 hi0 hz0 hz1 hz2
 have hf2 : Fresh w1 (List.replicate 32 0) (.slice (some ⟨w1.heap.size, 0, none⟩) 32 32) w2 := by
  refine ⟨?_, grown_none hg2⟩
  rw [List.length_replicate, ← made_zeros2]
  exact hO
 obtain ⟨H2, hG2, hb2, hjunk⟩ := Fresh.snapB hG1'.holds hf2;clear hjunk;have hG3 := hG1'.trans hG2;obtain ⟨H3, hG4, hl4, hb4⟩ := lit_bytes hG3 [55] #[.int .u8 55] 1 rfl (by simp) rfl
 have hFA : FirstA H3 fA (some ⟨w.heap.size, 0, none⟩) 1 (some ⟨w1.heap.size, 0, none⟩) 32 (some ⟨w2.heap.size, 0, none⟩) 1 none 0 :=
  ⟨hr1'.mono (hG2.le.trans hl4), hb2.mono hl4, hb4, IsRow.nil _ _⟩
 have EF := Hh (e_EncodeFirst (f := fA) (m := 3) (sn := 1) (gn := 32) (cn := 1) (en := 0) _ hG4.holds hFA rfl rfl rfl rfl rfl (Hh awake_enc));rw [awake_enc] at EF;clear hG1' hr1' hf2 hG2 hb2 hG3 hb4 hO hg2 hFA hl4 hl1 hG0;have HG4 := Hh hG4;clear hG4;go_wp2_with fail
 refine EF.out.mono ?_
 intro e w4 hs
 unfold BytesOut at hs
 obtain ⟨v, rfl, hf⟩ := hs;obtain ⟨BA, bc, rfl, hjunk⟩ := hf.own.form;clear hjunk;have hG4 := HG4.out;obtain ⟨H5, hG5, hb5, hjunk⟩ := Fresh.snapB hG4.holds hf;clear hjunk;have hG6 := hG4.trans hG5;have DF := Hh (e_DecodeFirst (Hh awake_dec) (HT.out.mono hG6.le) w4 hG6.holds hb5);rw [awake_dec] at DF;have hlen : bA.length = 37 := rfl;rw [hlen] at DF ⊢;clear hlen hf hG4 hG5 hb5 EF;go_wp2_with fail
 refine DF.out.mono ?_
 intro e w5 hs
 unfold FirstOut at hs
 obtain ⟨sa, sc, ga, gc, ca, cc, ea, ec, H7, rfl, hG7, hF7⟩ := hs;have hG8 := hG6.trans hG7;obtain ⟨b, off, rfl, hcell⟩ := hF7.conn.at_ (by show 0 < ([55] : List UInt8).length; simp);have hq : H7.cell? ⟨b, off + 0, none⟩ = some (.int .u8 55) := hcell 0 (by show 0 < ([55] : List UInt8).length; simp);have hX0 := Blk.new w5 47 #[.int .i64 0, .slice none 0 0, .slice none 0 0, .slice none 0 0, .slice none 0 0];have hXn : H7 w5.heap.size = none := hG8.holds.none_of_ge (Nat.le_refl _);have hG9 := hG8.alloc (.cells #[.int .i64 0, .slice none 0 0, .slice none 0 0, .slice none 0 0, .slice none 0 0] 47);have hcc1 : (1 : Int) ≤ (cc : Int) := by have := hF7.conn.le; have h : fA.conn.length = 1 := rfl; omega
 clear DF hG6 hG7 hF7 hcell;have e1 : fA.method = 3 := rfl;have e2 : fA.suites.length = 1 := rfl;have e3 : fA.gx.length = 32 := rfl;have e4 : fA.conn.length = 1 := rfl;have e5 : fA.ext.length = 0 := rfl;rw [e1, e2, e3, e4, e5];clear e1 e2 e3 e4 e5;go_wp2_with (with_reducible refine stop_store ?_)
 refine wpList_store_item rfl _ _ _ rfl rfl _ _ rfl rfl _ _ hX0 size_first rfl (one5 _ _ _ _ _ rfl rfl rfl rfl rfl) fun w6 hX6 hg6 => ?_
 have hG10 := hG9.grownOwn hXn hG8.size hg6;have q0 : w6.cell? ⟨b, off, none⟩ = some (.int .u8 55) := hG10.holds.cell hq;have f0 := hX6.cell 0 rfl;have f3 := hX6.cell 3 rfl;clear hX0 hG9 hG8 hg6 hq;go_wp2_with fail
 go_ret
 exact ⟨rfl, hG10.below⟩
end Go.Proofs.YtlebpackbfcfeaaGreatDoor
