/- Walks: the program's Decode. Walks: the laws' sanity check, and what all of them use. Keys: which are valid, their pairs, which ascend: plain mathematics. Keys: the item of a valid key is valid, and so are its parts: plain mathematics. Keys: the reader reads the item of a valid key from its own bytes: plain mathematics. Walks: which keys are valid, by the program and by the reference. -/
import Derived.Test.YtebcnkelbicbnaaGreatDoorM21
import Derived.Test.YtebcnkelbicbnaaGreatDoorM12
import Derived.Test.YtebcnkelbicbnaaGreatDoorM01
import Derived.Test.YtebcnkelbicbnaaGreatDoorM02
import Derived.Test.YtebcnkelbicbnaaGreatDoorM10
import Derived.Test.YtebcnkelbicbnaaGreatDoorM15
import Derived.Test.YtebcnkelbicbnaaGreatDoorM20
import Derived.Test.YtebcnkelbicbnaaGreatDoorM11
import Derived.Test.YtebcnkelbicbnaaGreatDoorM06
import Derived.Test.YtebcnkelbicbnaaGreatDoorM08
import Derived.Test.YtebcnkelbicbnaaGreatDoorM19
import Derived.Deep.DeepCutAuto
import Derived.Deep.CutBlock
set_option linter.unusedVariables false
set_option linter.unusedSimpArgs false
namespace Go.Proofs.YtebcnkelbicbnaaGreatDoor
open Go.RowKit

def DecodeOut (w : World) (H : Snap) (l : List UInt8) (e : Ending) (w' : World) : Prop :=
  match decodeP l with
  | .error q => e = .returned (.tuple #[zeroV, .int .i64 (q : Int)]) ∧ Below w.heap.size w w'
  | .ok x => ∃ ja jb jc jd H', e = .returned (.tuple #[itemV x ja jb jc jd, .int .i64 0]) ∧ Grows w H w' H' ∧ IsItem H' ja jb jc jd x
set_option maxRecDepth 100000 in
set_option maxHeartbeats 6400000 in
theorem cbor_Decode {H : Snap} (hTab : Tabs H) (w : World) (hH : Holds w H) {A : Option Addr} {n c : Nat} {l : List UInt8} (hn : n = l.length) (hl : IsBytes H A c l) :
    Calls Tryz.prog 46 #[.slice A n c] w (DecodeOut w H l) := by
  have hT := Blk.new w 26 #[.int .i64 0, .int .u64 0, .slice none 0 0, .slice none 0 0]
  have hG := (Grows.refl hH).alloc zeroO
  have hT0 : Blk (w.alloc zeroO) w.heap.size 26 #[.int .i64 0, .int .u64 0, .slice none 0 0, .slice none 0 0] := hT
  have hn0 : H w.heap.size = none := hH.none_of_ge (by omega)
  clear hT
  have hHN := Lib.hid hn
  have C := fun w1 h1 => Lib.hid (cbor_Prefix hTab w1 h1 hn hl)
  clear hn
  by_cases hbig : 4096 < n
  · have b1 : decide ((n : Int) > 4096) = true := by rw [decide_eq_true_eq]; omega
    have b2 : decide ((4096 : Int) < n) = true := by rw [decide_eq_true_eq]; omega
    have hd : decodeP l = .error 8 := by have := hHN.out; rw [decodeP, if_pos (by omega)]
    have hd' := Lib.hid hd
    clear hd C
    go_enter Tryz.func46, Tryz.ntmps46
    go_wp2_with (with_reducible refine stop_store ?_)
    unfold Stopped
    generalize w.alloc zeroO = w1 at hT0 hG ⊢
    refine wpList_store_item rfl _ _ _ rfl rfl _ _ rfl rfl _ _ hT0 size_item rfl (one4 _ _ _ _ rfl rfl rfl rfl) fun w7 hT7 hg7 => ?_
    have hG7 := hG.grownOwn hn0 (by omega) hg7
    go_wp2_with fail
    refine ret_row_tmp rfl rfl hT7 rfl rfl size_item rfl ?_
    unfold DecodeOut
    rw [hd'.out]
    exact ⟨rfl, hG7.below⟩
  · have b1 : decide ((n : Int) > 4096) = false := by rw [decide_eq_false_iff_not]; omega
    have b2 : decide ((4096 : Int) < n) = false := by rw [decide_eq_false_iff_not]; omega
    have hbig' := Lib.hid hbig
    clear hbig
    go_enter Tryz.func46, Tryz.ntmps46
    go_wp2_with fail
    have hz1 : w.heap.size < (w.alloc zeroO).heap.size := hT0.lt
    generalize w.alloc zeroO = w1 at hT0 hG hz1 ⊢
    refine (C w1 hG.holds).out.mono ?_
    rintro e w3 hout
    unfold PrefixOut at hout
    cases hr : prefixP l with
    | err q =>
      rw [hr] at hout
      obtain ⟨rfl, hb⟩ := hout
      have hr' := Lib.hid hr
      have hd' := Lib.hid (show decodeP l = .error q by have := hHN.out; have := hbig'.out; rw [decodeP, if_neg (by omega), hr])
      clear hr
      have hT3 := hT0.below hb
      obtain ⟨H', hH'⟩ : ∃ H', H' = H := ⟨_, rfl⟩
      have hG3 : Grows w H w3 H' := by rw [hH']; exact hG.trans (Grows.of_below hG.holds hb)
      have hk0 : H' w.heap.size = none := by rw [hH']; exact hn0
      clear hH'
      have hq0 : ((q : Int) != 0) = true := by rw [bne_iff_ne]; have := parse_err _ _ _ _ hr'.out; omega
      have hq0' : ((q : Int) = 0) = False := eq_false (by have := parse_err _ _ _ _ hr'.out; omega)
      go_wp2_with (with_reducible refine stop_store ?_)
      unfold Stopped
      have hz3 : w.heap.size < w3.heap.size := hT3.lt
      have hN := Blk.new w3 26 #[.int .i64 0, .int .u64 0, .slice none 0 0, .slice none 0 0]
      have hT4 : Blk (w3.alloc zeroO) w.heap.size 26 #[.int .i64 0, .int .u64 0, .slice none 0 0, .slice none 0 0] := hT3.alloc _
      have hG4 := hG3.alloc zeroO
      have hk3 : H' w3.heap.size = none := hG3.holds.none_of_ge (by omega)
      have hN' : Blk (w3.alloc zeroO) w3.heap.size 26 #[.int .i64 0, .int .u64 0, .slice none 0 0, .slice none 0 0] := hN
      clear hN hT3
      generalize w3.alloc zeroO = w4 at hN' hT4 hG4 ⊢
      refine wpList_store_item rfl _ _ _ rfl rfl _ _ rfl rfl _ _ hN' size_item rfl (one4 _ _ _ _ rfl rfl rfl rfl) fun w5 hT5 hg5 => ?_
      have hT6 := hT4.grown hg5 (by intro e; injection e with e; omega)
      have hG6 := hG4.grownOwn hk3 (by omega) hg5
      clear hT4 hG4 hN'
      go_wp2_with (with_reducible refine stop_store ?_)
      unfold Stopped
      refine wpList_store_item rfl _ _ _ rfl rfl _ _ rfl rfl _ _ hT6 size_item rfl (one4 _ _ _ _ rfl rfl rfl rfl) fun w7 hT7 hg7 => ?_
      have hG7 := hG6.grownOwn hk0 (by omega) hg7
      go_wp2_with fail
      refine ret_row_tmp rfl rfl hT7 rfl rfl size_item rfl ?_
      unfold DecodeOut
      rw [hd'.out]
      exact ⟨rfl, hG7.below⟩
    | ok x k cc =>
      rw [hr] at hout
      obtain ⟨ja, jb, jc, jd, H', rfl, hg, hi⟩ := hout
      have hr' := Lib.hid hr
      clear hr
      have hT3 := hT0.below hg.below
      have hG3 : Grows w H w3 H' := hG.trans hg
      have hk0 : H' w.heap.size = none := hg.none hn0 hT0.lt
      by_cases hk : k < n
      · have hd' := Lib.hid (show decodeP l = .error 9 by have := hHN.out; have := hbig'.out; rw [decodeP, if_neg (by omega), hr'.out]; simp only; rw [if_pos (by omega)])
        have k1 : decide ((k : Int) < n) = true := by rw [decide_eq_true_eq]; omega
        have k2 : (k < n) = True := eq_true hk
        clear hk
        go_wp2_with (with_reducible refine stop_store ?_)
        unfold Stopped
        have hz3 : w.heap.size < w3.heap.size := hT3.lt
        have hN := Blk.new w3 26 #[.int .i64 0, .int .u64 0, .slice none 0 0, .slice none 0 0]
        have hT4 : Blk (w3.alloc zeroO) w.heap.size 26 #[.int .i64 0, .int .u64 0, .slice none 0 0, .slice none 0 0] := hT3.alloc _
        have hG4 := hG3.alloc zeroO
        have hk3 : H' w3.heap.size = none := hG3.holds.none_of_ge (by omega)
        have hN' : Blk (w3.alloc zeroO) w3.heap.size 26 #[.int .i64 0, .int .u64 0, .slice none 0 0, .slice none 0 0] := hN
        clear hN hT3
        generalize w3.alloc zeroO = w4 at hN' hT4 hG4 ⊢
        refine wpList_store_item rfl _ _ _ rfl rfl _ _ rfl rfl _ _ hN' size_item rfl (one4 _ _ _ _ rfl rfl rfl rfl) fun w5 hT5 hg5 => ?_
        have hT6 := hT4.grown hg5 (by intro e; injection e with e; omega)
        have hG6 := hG4.grownOwn hk3 (by omega) hg5
        clear hT4 hG4 hN'
        go_wp2_with (with_reducible refine stop_store ?_)
        unfold Stopped
        refine wpList_store_item rfl _ _ _ rfl rfl _ _ rfl rfl _ _ hT6 size_item rfl (one4 _ _ _ _ rfl rfl rfl rfl) fun w7 hT7 hg7 => ?_
        have hG7 := hG6.grownOwn hk0 (by omega) hg7
        go_wp2_with fail
        refine ret_row_tmp rfl rfl hT7 rfl rfl size_item rfl ?_
        unfold DecodeOut
        rw [hd'.out]
        exact ⟨rfl, hG7.below⟩
      · have hd' := Lib.hid (show decodeP l = .ok x by have := hHN.out; have := hbig'.out; rw [decodeP, if_neg (by omega), hr'.out]; simp only; rw [if_neg (by omega)])
        have k1 : decide ((k : Int) < n) = false := by rw [decide_eq_false_iff_not]; omega
        have k2 : (k < n) = False := eq_false hk
        clear hk
        go_wp2_with (with_reducible refine stop_store ?_)
        unfold Stopped
        have hz3 : w.heap.size < w3.heap.size := hT3.lt
        have hN := Blk.new w3 26 #[.int .i64 0, .int .u64 0, .slice none 0 0, .slice none 0 0]
        have hT4 : Blk (w3.alloc zeroO) w.heap.size 26 #[.int .i64 0, .int .u64 0, .slice none 0 0, .slice none 0 0] := hT3.alloc _
        have hG4 := hG3.alloc zeroO
        have hk3 : H' w3.heap.size = none := hG3.holds.none_of_ge (by omega)
        have hN' : Blk (w3.alloc zeroO) w3.heap.size 26 #[.int .i64 0, .int .u64 0, .slice none 0 0, .slice none 0 0] := hN
        clear hN hT3
        generalize w3.alloc zeroO = w4 at hN' hT4 hG4 ⊢
        refine wpList_store_item rfl _ _ _ rfl rfl _ _ rfl rfl _ _ hN' size_item rfl (one4 _ _ _ _ rfl rfl rfl rfl) fun w5 hT5 hg5 => ?_
        have hT6 := hT4.grown hg5 (by intro e; injection e with e; omega)
        have hG6 := hG4.grownOwn hk3 (by omega) hg5
        clear hT4 hG4 hN'
        have c0 := hT5.cell 0 rfl
        have c1 := hT5.cell 1 rfl
        have c2 := hT5.cell 2 rfl
        have c3 := hT5.cell 3 rfl
        go_wp2_with (with_reducible refine stop_store ?_)
        unfold Stopped
        refine wpList_store_item rfl _ _ _ rfl rfl _ _ rfl rfl _ _ hT6 size_item rfl (one4 _ _ _ _ rfl rfl rfl rfl) fun w7 hT7 hg7 => ?_
        have hG7 := hG6.grownOwn hk0 (by omega) hg7
        go_wp2_with fail
        refine ret_row_tmp rfl rfl hT7 rfl rfl size_item rfl ?_
        unfold DecodeOut
        rw [hd'.out]
        exact ⟨ja, jb, jc, jd, H', rfl, hG7, hi⟩
end Go.Proofs.YtebcnkelbicbnaaGreatDoor
namespace Go.Proofs.YtebcnkelbicbnaaGreatDoor
open Go.RowKit

theorem lit_bytes {w wr : World} {H Hr : Snap} (hG : Grows w H wr Hr) (l : List UInt8) (cs : Array Value) (k : Nat) (hk : k = l.length) (hm : l.length ≤ 4096) (hc : cs.toList = l.map byteV) :
    ∃ H', Grows w H (wr.alloc (.cells cs 5)) H' ∧ Hr.le H' ∧ IsBytes H' (some ⟨wr.heap.size, 0, none⟩) k l := by
  obtain ⟨H', hG', hb, _⟩ := Fresh.snapB hG.holds (Fresh.lit wr l cs k hk hm hc)
  exact ⟨H', hG.trans hG', hG'.le, hb⟩
end Go.Proofs.YtebcnkelbicbnaaGreatDoor
namespace Go.Proofs.YtebcnkelbicbnaaGreatDoor
open Go.RowKit

structure Ky where
  kty : Int
  crv : Int
  alg : Int
  kid : List UInt8
  x : List UInt8
  d : List UInt8
  k : List UInt8
def sizedK (b : List UInt8) : Bool := decide (b.length = 0) || decide (b.length = 32)
def validK (q : Ky) : Bool :=
  decide (q.kid.length ≤ 16) && decide (-65536 ≤ q.alg) && decide (q.alg ≤ 65535) &&
  (if q.kty = 1 then (decide (q.crv = 4) || decide (q.crv = 6)) && sizedK q.x && sizedK q.d && decide (0 < q.x.length + q.d.length) && decide (q.k.length = 0)
   else if q.kty = 4 then decide (q.crv = 0) && decide (q.x.length + q.d.length = 0) && decide (1 ≤ q.k.length) && decide (q.k.length ≤ 64) else false)
def strI (b : List UInt8) : Itm := .mk 2 0 b []
def optS (n : Int) (b : List UInt8) : List Itm := if 0 < b.length then [intP n, strI b] else []
/-- The labels and values of a key, in the order in which both sides write them. -/
def pairsK (q : Ky) : List Itm :=
  [intP 1, intP q.kty] ++ optS 2 q.kid ++ (if q.alg = 0 then [] else [intP 3, intP q.alg]) ++
    (if q.kty = 4 then optS (-1) q.k else [intP (-1), intP q.crv] ++ optS (-2) q.x ++ optS (-4) q.d)
def itemK (q : Ky) : Itm := .mk 5 0 [] (pairsK q)
theorem lt_labels : Lib.compareBytes (encB (intP 1)) (encB (intP 2)) < 0 ∧ Lib.compareBytes (encB (intP 1)) (encB (intP 3)) < 0 ∧ Lib.compareBytes (encB (intP 1)) (encB (intP (-1))) < 0 ∧
    Lib.compareBytes (encB (intP 2)) (encB (intP 3)) < 0 ∧ Lib.compareBytes (encB (intP 2)) (encB (intP (-1))) < 0 ∧ Lib.compareBytes (encB (intP 3)) (encB (intP (-1))) < 0 ∧
    Lib.compareBytes (encB (intP (-1))) (encB (intP (-2))) < 0 ∧ Lib.compareBytes (encB (intP (-1))) (encB (intP (-4))) < 0 ∧ Lib.compareBytes (encB (intP (-2))) (encB (intP (-4))) < 0 := by
  rw [encB_intP, encB_intP, encB_intP, encB_intP, encB_intP, encB_intP]
  decide +kernel
theorem asc_pairsK (q : Ky) : ascP (pairsK q) = true := by
  obtain ⟨h12, h13, h1m, h23, h2m, h3m, hm2, hm4, h24⟩ := lt_labels
  unfold pairsK optS
  repeat' split
  all_goals simp [ascP, h12, h13, h1m, h23, h2m, h3m, hm2, hm4, h24]
theorem validK_iff (q : Ky) : validK q = true ↔ (q.kid.length ≤ 16 ∧ -65536 ≤ q.alg ∧ q.alg ≤ 65535 ∧
    ((q.kty = 1 ∧ (q.crv = 4 ∨ q.crv = 6) ∧ (q.x.length = 0 ∨ q.x.length = 32) ∧ (q.d.length = 0 ∨ q.d.length = 32) ∧ 0 < q.x.length + q.d.length ∧ q.k.length = 0) ∨
     (q.kty = 4 ∧ q.crv = 0 ∧ q.x.length + q.d.length = 0 ∧ 1 ≤ q.k.length ∧ q.k.length ≤ 64))) := by
  unfold validK sizedK
  split
  · rename_i h1
    simp [h1, and_assoc]
  · split
    · rename_i h1 h4
      simp [h1, h4, and_assoc]
    · rename_i h1 h4
      simp [h1, h4]
theorem good_strI (b : List UInt8) (lv : Nat) : Good (strI b) lv := good_str 2 (.inl rfl) b lv (fun h => by omega)
theorem goodL_pairsK (q : Ky) (lv : Nat) : GoodL (pairsK q) lv := by
  unfold pairsK optS
  repeat' split
  all_goals simp [GoodL, good_intP, good_strI]
theorem pairsK_even (q : Ky) : (pairsK q).length % 2 = 0 := by
  unfold pairsK optS
  repeat' split
  all_goals simp
theorem pairsK_len (q : Ky) : 2 ≤ (pairsK q).length ∧ (pairsK q).length ≤ 12 := by
  unfold pairsK optS
  repeat' split
  all_goals simp
theorem good_itemK (q : Ky) : Good (itemK q) 0 := by
  refine Good.of ?_ (goodL_pairsK q 1) (fun _ => asc_pairsK q)
  have h := pairsK_even q
  rw [nodeOk, if_neg (by rw [isPlain_iff]; simp [itemK, Itm.kind]), frameOk]
  simp [itemK, Itm.kind, Itm.bytes, Itm.items, Itm.n, h]
end Go.Proofs.YtebcnkelbicbnaaGreatDoor
namespace Go.Proofs.YtebcnkelbicbnaaGreatDoor
open Go.RowKit

def leafK (x : Itm) : Prop := cnt x = 1 ∧ (encB x).length ≤ 73
theorem leaf_intP (n : Int) : leafK (intP n) := by
  unfold intP
  split
  · refine ⟨by simp [cnt, cntL], ?_⟩
    have h := encB_len 1 (-1 - n).toNat [] [] (by decide) (by decide)
    simp [encL] at h
    omega
  · refine ⟨by simp [cnt, cntL], ?_⟩
    have h := encB_len 0 n.toNat [] [] (by decide) (by decide)
    simp [encL] at h
    omega
theorem leaf_strI {b : List UInt8} (hb : b.length ≤ 64) : leafK (strI b) := by
  refine ⟨by simp [strI, cnt, cntL], ?_⟩
  have h := encB_len 2 0 b [] (by decide) (by decide)
  simp [encL] at h
  simp only [strI]
  omega
theorem sum_leaf : ∀ l : List Itm, (∀ x ∈ l, leafK x) → cntL l = l.length ∧ (encL l).length ≤ 73 * l.length
  | [], _ => by simp [cntL, encL]
  | x :: l, h => by
    have h1 := h x (by simp)
    have h2 := sum_leaf l fun y hy => h y (by simp [hy])
    simp only [cntL, encL, List.length_cons, List.length_append]
    have := h1.1
    have := h1.2
    omega
theorem mem_optS {x : Itm} {n : Int} {b : List UInt8} (h : x ∈ optS n b) : x = intP n ∨ x = strI b := by
  unfold optS at h
  split at h
  · simpa using h
  · simp at h
theorem leaf_pairsK {q : Ky} (h : validK q = true) : ∀ x ∈ pairsK q, leafK x := by
  have hv := (validK_iff q).mp h
  have hx : q.x.length ≤ 64 := by omega
  have hd : q.d.length ≤ 64 := by omega
  have hk : q.k.length ≤ 64 := by omega
  have hi : q.kid.length ≤ 64 := by omega
  intro x hm
  unfold pairsK at hm
  simp only [List.mem_append] at hm
  rcases hm with ((hm | hm) | hm) | hm
  · simp at hm
    rcases hm with rfl | rfl <;> exact leaf_intP _
  · rcases mem_optS hm with rfl | rfl
    · exact leaf_intP _
    · exact leaf_strI hi
  · split at hm
    · simp at hm
    · simp at hm
      rcases hm with rfl | rfl <;> exact leaf_intP _
  · split at hm
    · rcases mem_optS hm with rfl | rfl
      · exact leaf_intP _
      · exact leaf_strI hk
    · simp only [List.mem_append] at hm
      rcases hm with (hm | hm) | hm
      · simp at hm
        rcases hm with rfl | rfl <;> exact leaf_intP _
      · rcases mem_optS hm with rfl | rfl
        · exact leaf_intP _
        · exact leaf_strI hx
      · rcases mem_optS hm with rfl | rfl
        · exact leaf_intP _
        · exact leaf_strI hd
theorem validP_itemK {q : Ky} (h : validK q = true) : validP (itemK q) = true := by
  have hs := sum_leaf (pairsK q) (leaf_pairsK h)
  have hl := pairsK_len q
  refine (validP_iff _).mpr ⟨good_itemK q, ?_, ?_⟩
  · rw [cnt_eq]
    show cntL (pairsK q) + 1 ≤ 256
    omega
  · have h2 := encB_len 5 0 [] (pairsK q) (by decide) (by decide)
    simp at h2
    show (encB (.mk 5 0 [] (pairsK q))).length ≤ 4096
    omega
theorem validP_pairsK {q : Ky} (h : validK q = true) : ∀ x ∈ pairsK q, validP x = true :=
  fun x hx => validP_elem (validP_itemK h) (show x ∈ (itemK q).items from hx)
end Go.Proofs.YtebcnkelbicbnaaGreatDoor
namespace Go.Proofs.YtebcnkelbicbnaaGreatDoor
open Go.RowKit

theorem headP_headB {m n : Nat} (hm : m < 7) (hn : n < 65536) (r : List UInt8) : ∃ f, headP (headB m n ++ r) = .ok (f, n, (headB m n).length) ∧ f / 32 = m := by
  unfold headB
  split
  · refine ⟨m * 32 + n, ?_, by omega⟩
    have h : (u8 (m * 32 + n)).toNat = m * 32 + n := by rw [u8_toNat]; omega
    simp only [List.cons_append, List.nil_append, headP, h, List.length_cons, List.length_nil]
    rw [if_neg (by omega), if_pos (by omega), show (m * 32 + n) % 32 = n by omega]
  · split
    · refine ⟨m * 32 + 24, ?_, by omega⟩
      have h : (u8 (m * 32 + 24)).toNat = m * 32 + 24 := by rw [u8_toNat]; omega
      have h2 : beN [u8 n] = n := by rw [beN1, u8_toNat]; omega
      simp only [List.cons_append, List.nil_append, headP, h, List.length_cons, List.length_nil]
      rw [show (m * 32 + 24) % 32 = 24 by omega, if_neg (by omega), if_neg (by omega)]
      simp only [Nat.sub_self, Nat.pow_zero, List.take_succ_cons, List.take_zero, h2]
      rw [if_neg (by omega), if_neg]
      rw [headB_length]
      rw [if_neg (by omega), if_pos (by omega)]
      omega
    · refine ⟨m * 32 + 25, ?_, by omega⟩
      have h : (u8 (m * 32 + 25)).toNat = m * 32 + 25 := by rw [u8_toNat]; omega
      have h2 : beN [u8 (n / 256), u8 n] = n := by rw [beN2, u8_toNat, u8_toNat]; omega
      simp only [List.cons_append, List.nil_append, headP, h, List.length_cons, List.length_nil]
      rw [show (m * 32 + 25) % 32 = 25 by omega, if_neg (by omega), if_neg (by omega)]
      simp only [show 2 ^ (25 - 24) = 2 by decide, List.take_succ_cons, List.take_zero, h2]
      rw [if_neg (by omega), if_neg]
      rw [headB_length]
      rw [if_neg (by omega), if_neg (by omega), if_pos (by omega)]
      omega
/-- An item that the reader reads wherever it stands. -/
def EasyI (d : Nat) (x : Itm) : Prop := ∀ (r : List UInt8) (c : Nat), c < 256 → parse d (encB x ++ r) c = .ok x (encB x).length (c + 1)
theorem easy_num (d m n : Nat) (hm : m ≤ 1) (hn : n < 65536) : EasyI d (.mk (m : Nat) n [] []) := by
  intro r c hc
  have he : encB (.mk (m : Nat) n [] []) = headB m n := by
    rw [encB_eq]
    have h1 : numP (.mk (m : Int) n [] []) = n := by
      rcases (by omega : m = 0 ∨ m = 1) with rfl | rfl <;> simp [numP, Itm.kind, Itm.bytes, Itm.items, Itm.n]
    have h2 : ¬ ((m : Int) = 8) := by omega
    have h3 : ¬ ((m : Int) = 7) := by omega
    simp [Itm.kind, Itm.bytes, Itm.items, Itm.n, encL, h1, h2, h3]
  rw [he]
  obtain ⟨f, hf, hd⟩ := headP_headB (by omega : m < 7) hn r
  rw [parse.eq_def]
  simp only
  rw [if_neg (by omega), hf]
  simp only
  rw [if_pos (by omega), hd]
theorem easy_intP (d : Nat) {n : Int} (h1 : -65536 ≤ n) (h2 : n ≤ 65535) : EasyI d (intP n) := by
  unfold intP
  split
  · exact easy_num d 1 _ (by omega) (by omega)
  · exact easy_num d 0 _ (by omega) (by omega)
theorem easy_strI (d : Nat) {b : List UInt8} (hb : b.length < 65536) : EasyI d (strI b) := by
  intro r c hc
  have he : encB (strI b) = headB 2 b.length ++ b := by
    rw [encB_eq]
    simp [strI, Itm.kind, Itm.bytes, Itm.items, Itm.n, encL, numP]
  rw [he, List.append_assoc]
  obtain ⟨f, hf, hd⟩ := headP_headB (by omega : 2 < 7) hb (b ++ r)
  rw [parse.eq_def]
  simp only
  rw [if_neg (by omega), hf]
  simp only
  rw [if_neg (by omega), if_pos (by omega), if_neg (by simp only [List.length_append]; omega), if_neg (by omega), hd]
  simp [strI]
theorem keyP_lt {a b : List UInt8} (h : Lib.compareBytes a b < 0) : keyP (some a) b = none := by
  have h0 : ¬ Lib.compareBytes b a = 0 := fun h' => by
    have e := (cmp_zero b a).mp h'
    subst e
    rw [cmp_refl] at h
    omega
  have h1 : ¬ Lib.compareBytes b a < 0 := fun h' => by
    have := cmp_trans _ _ _ h h'
    rw [cmp_refl] at this
    omega
  simp [keyP, h0, h1]
theorem mapP_asc (d : Nat) : ∀ (m : Nat) (l : List Itm) (r : List UInt8) (c : Nat) (last : Option (List UInt8)), l.length = 2 * m → (∀ x ∈ l, EasyI d x) → ascP l = true →
    (∀ a t, l = a :: t → keyP last (encB a) = none) → c + 2 * m ≤ 256 → mapP (parse d) m (encL l ++ r) c last = .ok l (encL l).length (c + 2 * m)
  | 0, l, r, c, last, hl, _, _, _, _ => by
    have : l = [] := List.eq_nil_of_length_eq_zero (by omega)
    subst this
    rw [mapP]
    simp [encL]
  | m + 1, [], _, _, _, hl, _, _, _, _ => by simp at hl
  | m + 1, [_], _, _, _, hl, _, _, _, _ => by simp at hl; omega
  | m + 1, a :: v :: l, r, c, last, hl, hE, hasc, hlast, hc => by
    have ha := hE a (by simp) (encB v ++ (encL l ++ r)) c (by omega)
    have hv := hE v (by simp) (encL l ++ r) (c + 1) (by omega)
    have hasc' : ascP l = true := by
      cases l with
      | nil => simp [ascP]
      | cons b t =>
        rw [ascP] at hasc
        simp only [Bool.and_eq_true] at hasc
        exact hasc.2
    have hk : ∀ b t, l = b :: t → keyP (some (encB a)) (encB b) = none := by
      rintro b t rfl
      rw [ascP] at hasc
      simp only [Bool.and_eq_true, decide_eq_true_eq] at hasc
      exact keyP_lt hasc.1
    have ih := mapP_asc d m l r (c + 1 + 1) (some (encB a)) (by simp at hl; omega) (fun x hx => hE x (by simp [hx])) hasc' hk (by omega)
    have e0 : encL (a :: v :: l) ++ r = encB a ++ (encB v ++ (encL l ++ r)) := by simp [encL]
    rw [e0, mapP, ha]
    simp only
    rw [List.take_left, hlast a _ rfl]
    simp only
    rw [List.drop_left, hv]
    simp only
    rw [← List.drop_drop, List.drop_left, List.drop_left, ih]
    simp only [encL, List.length_append]
    congr 1
    · omega
    · omega
theorem easy_pairsK {q : Ky} (h : validK q = true) (d : Nat) : ∀ x ∈ pairsK q, EasyI d x := by
  have hv := (validK_iff q).mp h
  have hx : q.x.length < 65536 := by omega
  have hd : q.d.length < 65536 := by omega
  have hk : q.k.length < 65536 := by omega
  have hi : q.kid.length < 65536 := by omega
  have hopt : ∀ (n : Int) (b : List UInt8), -65536 ≤ n → n ≤ 65535 → b.length < 65536 → ∀ x ∈ optS n b, EasyI d x := by
    intro n b h1 h2 hb x hm
    rcases mem_optS hm with rfl | rfl
    · exact easy_intP d h1 h2
    · exact easy_strI d hb
  intro x hm
  unfold pairsK at hm
  simp only [List.mem_append] at hm
  rcases hm with ((hm | hm) | hm) | hm
  · simp at hm
    rcases hm with rfl | rfl <;> exact easy_intP d (by omega) (by omega)
  · exact hopt _ _ (by omega) (by omega) hi x hm
  · split at hm
    · simp at hm
    · simp at hm
      rcases hm with rfl | rfl <;> exact easy_intP d (by omega) (by omega)
  · split at hm
    · exact hopt _ _ (by omega) (by omega) hk x hm
    · simp only [List.mem_append] at hm
      rcases hm with (hm | hm) | hm
      · simp at hm
        rcases hm with rfl | rfl <;> exact easy_intP d (by omega) (by omega)
      · exact hopt _ _ (by omega) (by omega) hx x hm
      · exact hopt _ _ (by omega) (by omega) hd x hm
/-- What is written of a valid key is read as that key's item. -/
theorem decodeP_itemK {q : Ky} (h : validK q = true) : decodeP (encB (itemK q)) = .ok (itemK q) := by
  have hlen : (encB (itemK q)).length ≤ 4096 := (validP_spec (validP_itemK h)).2.2
  have hl := pairsK_len q
  have hev := pairsK_even q
  have he : encB (itemK q) = headB 5 ((pairsK q).length / 2) ++ encL (pairsK q) := by
    rw [encB_eq]
    simp [itemK, Itm.kind, Itm.bytes, Itm.items, Itm.n, numP]
  have hpar : parse 8 (encB (itemK q)) 0 = .ok (itemK q) (encB (itemK q)).length (0 + 1 + 2 * ((pairsK q).length / 2)) := by
    rw [he]
    obtain ⟨f, hf, hd⟩ := headP_headB (by omega : 5 < 7) (by omega : (pairsK q).length / 2 < 65536) (encL (pairsK q))
    have hm := mapP_asc 7 ((pairsK q).length / 2) (pairsK q) [] (0 + 1) none (by omega) (easy_pairsK h 7) (asc_pairsK q) (fun _ _ _ => rfl) (by omega)
    rw [List.append_nil] at hm
    rw [parse.eq_def]
    simp only
    rw [if_neg (by omega), hf]
    simp only
    rw [if_neg (by omega), if_neg (by omega), if_neg (by omega), if_neg (by omega), if_pos (by omega), List.drop_left, hm]
    simp [itemK]
  rw [decodeP, if_neg (by omega), prefixP, List.take_of_length_le hlen, hpar]
  simp
end Go.Proofs.YtebcnkelbicbnaaGreatDoor
namespace Go.Proofs.YtebcnkelbicbnaaGreatDoor
open Go.RowKit

def sizedN (n : Nat) : Bool := decide (n = 0) || decide (n = 32)
def validN (t v g : Int) (ni nx nd nk : Nat) : Bool :=
  decide (ni ≤ 16) && decide (-65536 ≤ g) && decide (g ≤ 65535) &&
  (if t = 1 then (decide (v = 4) || decide (v = 6)) && sizedN nx && sizedN nd && decide (0 < nx + nd) && decide (nk = 0)
   else if t = 4 then decide (v = 0) && decide (nx + nd = 0) && decide (1 ≤ nk) && decide (nk ≤ 64) else false)
abbrev keyC (t v g : Int) (Ai : Option Addr) (ni ci : Nat) (Ax : Option Addr) (nx cx : Nat) (Ad : Option Addr) (nd cd : Nat) (Ak : Option Addr) (nk ck : Nat) : Array Value :=
  #[.int .i64 t, .int .i64 v, .int .i64 g, .slice Ai ni ci, .slice Ax nx cx, .slice Ad nd cd, .slice Ak nk ck]
set_option maxRecDepth 100000 in
theorem key_sized (A : Option Addr) (n c : Nat) (w : World) :
    Calls Tryz.prog 62 #[.slice A n c] w fun e w' => e = .returned (.bool (sizedN n)) ∧ w = w' := by
  by_cases h0 : n = 0
  · subst h0
    go_enter Tryz.func62, Tryz.ntmps62
    go_wp2_with fail
    go_ret
    exact ⟨rfl, rfl⟩
  · have z0 : ((n : Int) == 0) = false := by rw [beq_eq_false_iff_ne]; omega
    have y0 : ((n : Int) = 0) = False := eq_false (by omega)
    have E : Hid (decide ((n : Int) = 32) = sizedN n) := by
      rw [Hid, sizedN, decide_eq_false h0, Bool.false_or, Bool.eq_iff_iff, decide_eq_true_eq, decide_eq_true_eq]; omega
    have E' : Hid (((n : Int) == 32) = sizedN n) := by
      rw [← E.out]; rfl
    go_enter Tryz.func62, Tryz.ntmps62
    go_wp2_with fail
    go_ret
    exact ⟨by first | (rw [← E.out]; rfl) | (rw [← E'.out]; rfl), rfl⟩
theorem wrap64_sum0 {a b : Nat} (ha : a ≤ 9223372036854775807) (hb : b ≤ 9223372036854775807) (h : ¬ a + b = 0) : ¬ wrap64 ((a : Int) + (b : Int)) = 0 := by
  unfold wrap64
  omega
theorem wrap_sum0 {a b : Nat} (ha : a ≤ 9223372036854775807) (hb : b ≤ 9223372036854775807) (h : ¬ a + b = 0) : ¬ IntKind.i64.wrap ((a : Int) + (b : Int)) = 0 := by
  rw [IntKind.wrap_i64]
  omega
section
variable (t v g : Int) (Ai : Option Addr) (ni ci : Nat) (Ax : Option Addr) (nx cx : Nat) (Ad : Option Addr) (nd cd : Nat) (Ak : Option Addr) (nk ck : Nat) (w : World)
end
end Go.Proofs.YtebcnkelbicbnaaGreatDoor
