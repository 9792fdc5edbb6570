/- squeezed. External data, suites: their bytes; plain mathematics. Lists of suites: plain mathematics. Walks: envelope.Input. Walks: the references' List, Copy of headers. Walks: the references' Same. Walks: the written forms of numbers and strings, rows joined, connection identifiers: the program's and the ref -/
import Derived.Test.YtlebpackbfcfeaaDoorJ13
import Derived.Test.YtlebpackbfcfeaaDoorJ07
import Derived.Test.YtlebpackbfcfeaaDoorJ01
import Derived.Test.YtlebpackbfcfeaaDoorJ10
import Derived.Test.YtlebpackbfcfeaaDoorJ04
import Derived.Test.YtlebpackbfcfeaaDoorJ02
import Derived.Test.YtlebpackbfcfeaaDoorJ00
import Derived.Test.YtlebpackbfcfeaaDoorJ11
import Derived.Test.YtlebpackbfcfeaaDoorJ05
set_option linter.unusedVariables false
set_option linter.unusedSimpArgs false
namespace Go.Proofs.YtlebpackbfcfeaaDoor
open Go.RowKit

theorem good_intP (n : Int) (lv : Nat) : Good (intP n) lv := by
 rw [intP]
 split <;> (rw [Good]; refine ⟨?_, by rw [GoodL]; trivial, by intro h; omega⟩; simp [nodeOk, isPlain, okPlain, frameOk, Itm.kind, Itm.bytes, Itm.items, Itm.n])
theorem encB_intP (n : Int) : encB (intP n) = intB n := by
 rw [enc_num (good_intP n 0) (by rw [intP]; split <;> simp [Itm.kind]), intP, intB]
 split <;> rfl
theorem intB_le (n : Int) : 1 ≤ (intB n).length ∧ (intB n).length ≤ 9 := by
 rw [intB]; split <;> exact headB_le _ _
theorem strB_le (l : List UInt8) : (strB l).length ≤ l.length + 9 := by
 have := (headB_le 2 l.length).2
 rw [strB, List.length_append]; omega
theorem extsB_app : ∀ (l m : List Ext), extsB (l ++ m) = extsB l ++ extsB m
 | [], m => rfl
 | x :: l, m => by rw [List.cons_append, extsB, extsB, extsB_app l m, List.append_assoc]
theorem extsB_take (l : List Ext) (k : Nat) (hk : k < l.length) : extsB (l.take (k + 1)) = extsB (l.take k) ++ extB l[k] := by
 rw [List.take_succ_eq_append_getElem hk, extsB_app, extsB, extsB, List.append_nil]
theorem extB_le {x : Ext} (h : x.val.length ≤ 1099511) : (extB x).length ≤ 1099600 := by
 have h1 := (intB_le x.label).2
 have h2 := strB_le x.val
 rw [extB]
 split <;> simp only [List.length_append, List.length_nil] <;> omega
theorem extsB_le : ∀ (l : List Ext), (∀ x ∈ l, x.val.length ≤ 1099511) → (extsB l).length ≤ 1099600 * l.length
 | [], _ => by simp [extsB]
 | x :: l, h => by
   have h1 := extB_le (h x (by simp))
   have h2 := extsB_le l (fun y hy => h y (by simp [hy]))
   rw [extsB, List.length_append, List.length_cons]; omega
theorem extOk_iff (x : Ext) : extOk x = true ↔ (-65535 ≤ x.label ∧ x.label ≤ 65535 ∧ x.val.length ≤ 600 ∧ (x.has = true ∨ x.val.length = 0)) := by
 simp [extOk, and_assoc]
theorem goodExt_iff (l : List Ext) : goodExt l = true ↔ (l.length ≤ 4 ∧ ∀ x ∈ l, extOk x = true) := by
 simp [goodExt]
theorem goodExt_bad {l : List Ext} {k : Nat} (hk : k < l.length) (h : extOk l[k] = false) : goodExt l = false := by
 cases hg : goodExt l with
 | false => rfl
 | true => have := ((goodExt_iff l).1 hg).2 _ (List.getElem_mem hk); rw [h] at this; cases this
theorem goodExt_all {l : List Ext} (hl : l.length ≤ 4) (h : ∀ j (hj : j < l.length), extOk l[j] = true) : goodExt l = true := by
 rw [goodExt_iff]
 refine ⟨hl, fun x hx => ?_⟩
 obtain ⟨j, hj, rfl⟩ := List.mem_iff_getElem.1 hx
 exact h j hj
end Go.Proofs.YtlebpackbfcfeaaDoor
namespace Go.Proofs.YtlebpackbfcfeaaDoor
open Go.RowKit

theorem getD_lt {l : List Int} {j : Nat} (h : j < l.length) : l.getD j 0 = l[j] := by rw [List.getD_eq_getElem?_getD, List.getElem?_eq_getElem h]; rfl
theorem twice_iff : ∀ l : List Int, twice l = true ↔ ∃ i j, j < i ∧ i < l.length ∧ l.getD j 0 = l.getD i 0
 | [] => by simp [twice]
 | x :: l => by
   rw [twice, Bool.or_eq_true, twice_iff l, List.contains_iff_mem]
   constructor
   · rintro (h | ⟨i, j, h1, h2, h3⟩)
     · obtain ⟨i, hi, e⟩ := List.mem_iff_getElem.1 h
       exact ⟨i + 1, 0, by omega, by simpa using hi, by rw [List.getD_cons_zero, List.getD_cons_succ, getD_lt hi, e]⟩
     · exact ⟨i + 1, j + 1, by omega, by simpa using h2, by rw [List.getD_cons_succ, List.getD_cons_succ]; exact h3⟩
   · rintro ⟨i, j, h1, h2, h3⟩
     obtain ⟨i, rfl⟩ : ∃ i', i = i' + 1 := ⟨i - 1, by omega⟩
     have hi : i < l.length := by simpa using h2
     cases j with
     | zero => left; rw [List.getD_cons_zero, List.getD_cons_succ, getD_lt hi] at h3; rw [h3]; exact List.getElem_mem hi
     | succ j => right; exact ⟨i, j, by omega, hi, by rwa [List.getD_cons_succ, List.getD_cons_succ] at h3⟩
theorem twice_no {l : List Int} (h : ∀ i j, j < i → i < l.length → l.getD j 0 ≠ l.getD i 0) : twice l = false := by
 cases ht : twice l with
 | false => rfl
 | true => obtain ⟨i, j, h1, h2, h3⟩ := (twice_iff l).1 ht; exact absurd h3 (h i j h1 h2)
theorem twice_yes {l : List Int} {i j : Nat} (h1 : j < i) (h2 : i < l.length) (h3 : l.getD j 0 = l.getD i 0) : twice l = true := (twice_iff l).2 ⟨i, j, h1, h2, h3⟩
theorem all_getD {l : List Int} {p : Int → Bool} : l.all p = true ↔ ∀ j, j < l.length → p (l.getD j 0) = true := by
 rw [List.all_eq_true]
 constructor
 · intro h j hj; rw [getD_lt hj]; exact h _ (List.getElem_mem hj)
 · intro h x hx
   obtain ⟨j, hj, rfl⟩ := List.mem_iff_getElem.1 hx
   rw [← getD_lt hj]; exact h j hj
theorem goodSuites_iff (l : List Int) : goodSuites l = true ↔ (1 ≤ l.length ∧ l.length ≤ 8 ∧ (∀ j, j < l.length → 0 ≤ l.getD j 0 ∧ l.getD j 0 ≤ 65535) ∧ twice l = false) := by
 rw [goodSuites, Bool.and_eq_true, Bool.and_eq_true, Bool.and_eq_true, all_getD]
 simp only [decide_eq_true_eq, Bool.not_eq_true', Bool.and_eq_true, and_assoc]
theorem goodSuites_no {l : List Int} (h : ¬ (1 ≤ l.length ∧ l.length ≤ 8 ∧ (∀ j, j < l.length → 0 ≤ l.getD j 0 ∧ l.getD j 0 ≤ 65535) ∧ twice l = false)) : goodSuites l = false := by
 cases hg : goodSuites l with
 | false => rfl
 | true => exact absurd ((goodSuites_iff l).1 hg) h
theorem intsB_le : ∀ (l : List Int), (intsB l).length ≤ 9 * l.length
 | [] => by simp [intsB]
 | x :: l => by
   have h1 := (intB_le x).2
   have h2 := intsB_le l
   rw [intsB, List.length_append, List.length_cons]; omega
theorem intsB_flat : ∀ (l : List Int), (l.map intB).flatten = intsB l
 | [] => rfl
 | x :: l => by rw [List.map_cons, List.flatten_cons, intsB_flat l, intsB]
theorem numsE_app : ∀ (l m : List Itm), numsE (l ++ m) = (match numsE l with | none => none | some a => match numsE m with | none => none | some b => some (a ++ b))
 | [], m => by rw [List.nil_append, numsE]; cases numsE m <;> rfl
 | x :: l, m => by
   rw [List.cons_append, numsE, numsE]
   cases numE x 65535 with
   | none => rfl
   | some v =>
     simp only
     split
     · rfl
     · rw [numsE_app l m]
       cases numsE l with
       | none => rfl
       | some a => simp only; cases numsE m <;> rfl
end Go.Proofs.YtlebpackbfcfeaaDoor
namespace Go.Proofs.YtlebpackbfcfeaaDoor
open Go.RowKit

theorem OwnI.lit {w : World} {H : Snap} {l : List Itm} {cs : List Value} (h : ItemsC H cs l) (base : Nat) (hb : base ≤ w.heap.size) (hm : l.length ≤ 4096) :
   OwnI (w.alloc (.cells cs.toArray 69)) base (.slice (some ⟨w.heap.size, 0, none⟩) l.length l.length) H l := by
 refine ⟨cs, h, h.len, .inr ⟨w.heap.size, l.length, cs.toArray, rfl, hb, heap_alloc_new w _, Nat.le_refl _, by simp only [maxLen]; omega, ?_, ?_⟩⟩
 · simpa using h.len
 · rw [← h.len]; simp

end Go.Proofs.YtlebpackbfcfeaaDoor
namespace Go.Proofs.YtlebpackbfcfeaaDoor
open Go.RowKit

structure IsRowI (H : Snap) (A : Option Addr) (c : Nat) (l : List Itm) : Prop where
 le : l.length ≤ c
 max : c ≤ 9223372036854775807
 elems : 0 < l.length → ∃ b off, A = some ⟨b, off, none⟩ ∧ IsElems H b off l
theorem IsRowI.item {H : Snap} {A : Option Addr} {c : Nat} {l : List Itm} (h : IsRowI H A c l) (k : Int) (hk : 0 ≤ k ∧ k ≤ 8) (n : Nat) (hn : n < 18446744073709551616) : IsItem H none 0 A c (.mk k n [] l) := by
 rw [IsItem]
 exact ⟨⟨by omega, by omega, hn, h.le, h.max⟩, IsBytes.nil _, h.elems⟩
end Go.Proofs.YtlebpackbfcfeaaDoor
namespace Go.Proofs.YtlebpackbfcfeaaDoor
open Go.RowKit

theorem cmp_zero : ∀ a b : List UInt8, Lib.compareBytes a b = 0 ↔ a = b
 | [], [] => by rw [Lib.compareBytes]; simp
 | [], y :: b => by rw [Lib.compareBytes]; simp
 | x :: a, [] => by rw [Lib.compareBytes]; simp
 | x :: a, y :: b => by
   rw [Lib.compareBytes]
   by_cases h1 : x < y
   · rw [if_pos h1]
     have : x ≠ y := by rintro rfl; exact UInt8.lt_irrefl x h1
     simp [this]
   · rw [if_neg h1]
     by_cases h2 : y < x
     · rw [if_pos h2]
       have : x ≠ y := by rintro rfl; exact UInt8.lt_irrefl x h2
       simp [this]
     · rw [if_neg h2]
       have e : x = y := UInt8.toNat_inj.1 (by rw [UInt8.lt_iff_toNat_lt] at h1 h2; omega)
       subst e
       simp [cmp_zero a b]
end Go.Proofs.YtlebpackbfcfeaaDoor
namespace Go.Proofs.YtlebpackbfcfeaaDoor
open Go.RowKit

set_option maxRecDepth 100000 in
set_option maxHeartbeats 800000 in
theorem wire_Head (m n : Int) (w : World) (hm0 : 0 ≤ m) (hm : m < 8) (h0 : 0 ≤ n) (h1 : n < 18446744073709551616) :
   Calls Tryd.prog 69 #[.int .u8 m, .int .u64 n] w fun e w' => ∃ r, e = .returned r ∧ Fresh w (headB m.toNat n.toNat) r w' := by
 obtain ⟨m', hm'⟩ := Int.eq_ofNat_of_zero_le hm0
 obtain ⟨n', hn'⟩ := Int.eq_ofNat_of_zero_le h0
 have HM := Lib.hid hm'
 have HN := Lib.hid hn'
 have H1 := Lib.hid h1
 clear h1 hm' hn'
 go_enter Tryd.func69, Tryd.ntmps69
 go_wp2
 · go_ret
   obtain rfl := HM.out
   obtain rfl := HN.out
   rw [Int.toNat_natCast, Int.toNat_natCast]
   have hlt : (n' : Int) < 24 := by with_reducible assumption
   refine ⟨_, rfl, Fresh.lit _ _ _ 1 ?_ ?_ ?_⟩
   · rw [headB_length, if_pos (by omega)]
   · have := (headB_le m' n').2; omega
   · rw [headB, if_pos (by omega)]
     simp only [List.map_cons, List.map_nil, byteV_u8]
     rw [u8_head m' n' (by omega) (by omega), Nat.mod_eq_of_lt (by omega)]
 · go_ret
   obtain rfl := HM.out
   obtain rfl := HN.out
   rw [Int.toNat_natCast, Int.toNat_natCast]
   have hge : (24 : Int) ≤ n' := by with_reducible assumption
   have hlt : (n' : Int) < 256 := by with_reducible assumption
   refine ⟨_, rfl, Fresh.lit _ _ _ 2 ?_ ?_ ?_⟩
   · rw [headB_length, if_neg (by omega), if_pos (by omega)]
   · have := (headB_le m' n').2; omega
   · rw [headB, if_neg (by omega), if_pos (by omega)]
     simp only [List.map_cons, List.map_nil, byteV_u8]
     have e24' := u8_head m' 24 (by omega) (by omega)
     rw [show ((24 : Nat) : Int) = 24 from rfl] at e24'
     rw [e24', Nat.mod_eq_of_lt (by omega), Nat.mod_eq_of_lt (by omega)]
 · go_ret
   obtain rfl := HM.out
   obtain rfl := HN.out
   rw [Int.toNat_natCast, Int.toNat_natCast]
   have hge : (256 : Int) ≤ n' := by with_reducible assumption
   have hlt : (n' : Int) < 65536 := by with_reducible assumption
   refine ⟨_, rfl, Fresh.lit _ _ _ 3 ?_ ?_ ?_⟩
   · rw [headB_length, if_neg (by omega), if_neg (by omega), if_pos (by omega)]
   · have := (headB_le m' n').2; omega
   · rw [headB, if_neg (by omega), if_neg (by omega), if_pos (by omega)]
     simp only [List.map_cons, List.map_nil, byteV_u8]
     have e24' := u8_head m' 25 (by omega) (by omega)
     rw [show ((25 : Nat) : Int) = 25 from rfl] at e24'
     rw [e24', Nat.mod_eq_of_lt (show m' * 32 + 25 < 256 by omega), Nat.mod_eq_of_lt (show n' / 256 < 256 by omega)]
     rfl
 · go_ret
   obtain rfl := HM.out
   obtain rfl := HN.out
   rw [Int.toNat_natCast, Int.toNat_natCast]
   have hge : (65536 : Int) ≤ n' := by with_reducible assumption
   have hlt : (n' : Int) < 4294967296 := by with_reducible assumption
   refine ⟨_, rfl, Fresh.lit _ _ _ 5 ?_ ?_ ?_⟩
   · rw [headB_length, if_neg (by omega), if_neg (by omega), if_neg (by omega), if_pos (by omega)]
   · have := (headB_le m' n').2; omega
   · rw [headB, if_neg (by omega), if_neg (by omega), if_neg (by omega), if_pos (by omega)]
     simp only [List.map_cons, List.map_nil, byteV_u8]
     have e24' := u8_head m' 26 (by omega) (by omega)
     rw [show ((26 : Nat) : Int) = 26 from rfl] at e24'
     rw [e24', Nat.mod_eq_of_lt (show m' * 32 + 26 < 256 by omega), Nat.mod_eq_of_lt (show n' / 16777216 < 256 by omega)]
     rfl
 · go_ret
   obtain rfl := HM.out
   obtain rfl := HN.out
   rw [Int.toNat_natCast, Int.toNat_natCast]
   have hge : (4294967296 : Int) ≤ n' := by with_reducible assumption
   have hH1 := H1.out
   refine ⟨_, rfl, Fresh.lit _ _ _ 9 ?_ ?_ ?_⟩
   · rw [headB_length, if_neg (by omega), if_neg (by omega), if_neg (by omega), if_neg (by omega)]
   · have := (headB_le m' n').2; omega
   · rw [headB, if_neg (by omega), if_neg (by omega), if_neg (by omega), if_neg (by omega)]
     simp only [List.map_cons, List.map_nil, byteV_u8, be8, Nat.reduceMul, Nat.reduceSub, Nat.reducePow, List.nil_append, List.cons_append]
     have e27' := u8_head m' 27 (by omega) (by omega)
     rw [show ((27 : Nat) : Int) = 27 from rfl] at e27'
     rw [e27', Nat.mod_eq_of_lt (show m' * 32 + 27 < 256 by omega), Nat.div_one]
     rfl

def SrcR (w : World) (A : Option Addr) (ls : List (List UInt8)) : Prop := 0 < ls.length → ∃ b off, A = some ⟨b, off, none⟩ ∧ ∀ j (hj : j < ls.length), ∃ Aj cj, w.cell? ⟨b, off + j, none⟩ = some (.slice Aj ls[j].length cj) ∧ Src w Aj (ls[j].map byteV)
theorem flatten_drop (ls : List (List UInt8)) (k : Nat) (hk : k < ls.length) : (ls.drop k).flatten = ls[k] ++ (ls.drop (k + 1)).flatten := by
 rw [List.drop_eq_getElem_cons hk, List.flatten_cons]
theorem shortB_iff (x : UInt8) : shortB x = true ↔ x.toNat < 24 ∨ (32 ≤ x.toNat ∧ x.toNat < 56) := by simp [shortB]

set_option maxRecDepth 100000 in
theorem wire_Int (n : Int) (h1 : -9223372036854775808 ≤ n) (h2 : n ≤ 9223372036854775807) (w : World) :
   Calls Tryd.prog 44 #[.int .i64 n] w fun e w' => ∃ r, e = .returned r ∧ Fresh w (intB n) r w' := by
 by_cases h0 : n < 0
 · have HD := Lib.hid (fun w => wire_Head 1 (-1 - n) w (by omega) (by omega) (by omega) (by omega))
   have K1 : IntKind.u64.wrap (-1 - n) = -1 - n := by rw [IntKind.wrap_u64]; omega
   have K0 : IntKind.i64.wrap (-1 - n) = -1 - n := IntWalk.i64_in _ (by omega)
   have E : Hid (intB n = headB 1 (-1 - n).toNat) := by rw [Hid, intB, if_pos h0]
   clear h1 h2
   go_enter Tryd.func44, Tryd.ntmps44
   go_wp2_with fail
   refine (HD.out _).mono ?_
   rintro e w1 ⟨r, rfl, hf⟩
   go_wp2_with fail
   go_ret
   exact ⟨_, rfl, by rw [E.out]; exact hf⟩
 · have hn := Int.not_lt.1 h0
   have HD := Lib.hid (fun w => wire_Head 0 n w (by omega) (by omega) (by omega) (by omega))
   have K1 : IntKind.u64.wrap n = n := by rw [IntKind.wrap_u64]; omega
   have E : Hid (intB n = headB 0 n.toNat) := by rw [Hid, intB, if_neg h0]
   clear h1 h2
   go_enter Tryd.func44, Tryd.ntmps44
   go_wp2_with fail
   refine (HD.out _).mono ?_
   rintro e w1 ⟨r, rfl, hf⟩
   go_wp2_with fail
   go_ret
   exact ⟨_, rfl, by rw [E.out]; exact hf⟩

set_option maxRecDepth 100000 in
set_option maxHeartbeats 800000 in
theorem wire_Str {A : Option Addr} {n c : Nat} {l : List UInt8} (hn : n = l.length) (hl : l.length ≤ 1099511627000) (w : World) (hs : Src w A (l.map byteV)) :
   Calls Tryd.prog 45 #[.slice A n c] w fun e w' => ∃ r, e = .returned r ∧ Fresh w (strB l) r w' := by
 have HD := Lib.hid (fun w => wire_Head 2 (n : Int) w (by omega) (by omega) (by omega) (by omega))
 have K1 : IntKind.u64.wrap (n : Int) = (n : Int) := by rw [IntKind.wrap_u64]; omega
 have HN := Lib.hid (And.intro hn hl)
 clear hn hl
 go_enter Tryd.func45, Tryd.ntmps45
 go_wp2_with fail
 refine (HD.out _).mono ?_
 rintro e w1 ⟨r, rfl, hf⟩
 have hO1 := hf.own
 obtain ⟨RA, rc, rfl, _⟩ := hO1.form
 have hs1 := hs.below hf.2
 have HF := Lib.hid hf.2
 have HL : Hid ((headB (2 : Int).toNat (n : Int).toNat).length + l.length ≤ 1099511627776) := by
   have := (headB_le (2 : Int).toNat (n : Int).toNat).2
   have := HN.out.2
   rw [Hid]; omega
 clear hf
 go_wp2_with (at_builtin; refine stop_in ?_)
 unfold Stopped
 refine wpList_app_bytes rfl (.tmp 6) (.tmp 7) rfl w.heap.size _ _ rfl hO1 A _ c l rfl HN.out.1 hs1 (by have := (headB_le (2 : Int).toNat (n : Int).toNat).2; have := HN.out.2; omega) HF.out.size fun v' w2 hO2 hg2 _ => ?_
 have hb2 := HF.out.grown hg2 HF.out.size (fun q hq => (hO1.lt q hq).1)
 have E : Hid (headB (2 : Int).toNat (n : Int).toNat ++ l = strB l) := by
   rw [Hid, strB, HN.out.1]; rfl
 rw [E.out] at hO2
 clear hO1 hs1 hs hg2
 go_wp2_with fail
 go_ret
 exact ⟨_, rfl, hO2, hb2⟩

set_option maxRecDepth 100000 in
set_option maxHeartbeats 800000 in
theorem ref_Str {A : Option Addr} {n c : Nat} {l : List UInt8} (hn : n = l.length) (hl : l.length ≤ 1099511627000) (w : World) (hs : Src w A (l.map byteV)) :
   Calls Tryd.prog 37 #[.slice A n c] w fun e w' => ∃ r, e = .returned r ∧ Fresh w (strB l) r w' := by
 have HD := Lib.hid (fun w => ref_Head 2 (n : Int) w (by omega) (by omega) (by omega) (by omega))
 have K1 : IntKind.u64.wrap (n : Int) = (n : Int) := by rw [IntKind.wrap_u64]; omega
 have HN := Lib.hid (And.intro hn hl)
 clear hn hl
 go_enter Tryd.func37, Tryd.ntmps37
 go_wp2_with fail
 refine (HD.out _).mono ?_
 rintro e w1 ⟨r, rfl, hf⟩
 have hO1 := hf.own
 obtain ⟨RA, rc, rfl, _⟩ := hO1.form
 have hs1 := hs.below hf.2
 have HF := Lib.hid hf.2
 have HL : Hid ((headB (2 : Int).toNat (n : Int).toNat).length + l.length ≤ 1099511627776) := by
   have := (headB_le (2 : Int).toNat (n : Int).toNat).2
   have := HN.out.2
   rw [Hid]; omega
 clear hf
 go_wp2_with (at_builtin; refine stop_in ?_)
 unfold Stopped
 refine wpList_app_bytes rfl (.tmp 6) (.tmp 7) rfl w.heap.size _ _ rfl hO1 A _ c l rfl HN.out.1 hs1 (by have := (headB_le (2 : Int).toNat (n : Int).toNat).2; have := HN.out.2; omega) HF.out.size fun v' w2 hO2 hg2 _ => ?_
 have hb2 := HF.out.grown hg2 HF.out.size (fun q hq => (hO1.lt q hq).1)
 have E : Hid (headB (2 : Int).toNat (n : Int).toNat ++ l = strB l) := by
   rw [Hid, strB, HN.out.1]; rfl
 rw [E.out] at hO2
 clear hO1 hs1 hs hg2
 go_wp2_with fail
 go_ret
 exact ⟨_, rfl, hO2, hb2⟩

set_option maxRecDepth 100000 in
theorem trans_short (x : UInt8) (w : World) : Calls Tryd.prog 70 #[.int .u8 (x.toNat : Int)] w fun e w' => e = .returned (.bool (shortB x)) ∧ w' = w := by
 by_cases h1 : x.toNat < 24
 · have z1 : (x.toNat : Int) < 24 := by omega
   have E : Hid (shortB x = true) := (shortB_iff x).2 (.inl h1)
   go_enter Tryd.func70, Tryd.ntmps70
   go_wp2_with fail
   go_ret
   exact ⟨by rw [E.out]; try rfl, rfl⟩
 have z1 : ¬ (x.toNat : Int) < 24 := by omega
 by_cases h2 : 32 ≤ x.toNat
 · have z2 : (32 : Int) ≤ (x.toNat : Int) := by omega
   by_cases h3 : x.toNat < 56
   · have z3 : (x.toNat : Int) < 56 := by omega
     have E : Hid (shortB x = true) := (shortB_iff x).2 (.inr ⟨h2, h3⟩)
     go_enter Tryd.func70, Tryd.ntmps70
     go_wp2_with fail
     go_ret
     exact ⟨by rw [E.out]; try rfl, rfl⟩
   · have z3 : ¬ (x.toNat : Int) < 56 := by omega
     have E : Hid (shortB x = false) := by rw [Hid, Bool.eq_false_iff, ne_eq, shortB_iff]; omega
     go_enter Tryd.func70, Tryd.ntmps70
     go_wp2_with fail
     go_ret
     exact ⟨by rw [E.out]; try rfl, rfl⟩
 · have z2 : ¬ (32 : Int) ≤ (x.toNat : Int) := by omega
   have E : Hid (shortB x = false) := by rw [Hid, Bool.eq_false_iff, ne_eq, shortB_iff]; omega
   go_enter Tryd.func70, Tryd.ntmps70
   go_wp2_with fail
   go_ret
   exact ⟨by rw [E.out]; try rfl, rfl⟩

set_option maxRecDepth 100000 in
set_option maxHeartbeats 1600000 in
theorem ref_Join {A : Option Addr} {n c : Nat} {ls : List (List UInt8)} (hn : n = ls.length) (hl : ls.length ≤ 1099511627000) (ht : ls.flatten.length ≤ 1099511627000) (w : World) (hs : SrcR w A ls) :
   Calls Tryd.prog 52 #[.slice A n c] w fun e w' => ∃ r, e = .returned r ∧ Fresh w (ls.flatten) r w' := by
 have HN := Lib.hid (And.intro hn (And.intro hl ht))
 clear hn hl ht
 go_enter Tryd.func52, Tryd.ntmps52
 have hO1 := OwnB.nil w w.heap.size
 have hb1 := Below.refl w.heap.size w
 go_wp2_with fail
 go_loopw [3, 5, 8] (fun v1 v5 v2 wr => ∃ (k : Nat) (VA : Option Addr) (vc vn : Nat) (l : List UInt8), k ≤ ls.length ∧ v2 = .int .i64 (k : Int) ∧ v1 = .slice VA vn vc ∧ OwnB wr w.heap.size (.slice VA vn vc) l ∧ vn = l.length ∧ (ls.flatten = l ++ (ls.drop k).flatten) ∧ Below w.heap.size w wr) (fun _ _ v2 _ => ls.length - (intOf v2).toNat)
 case atStart => exact ⟨0, _, _, _, _, Nat.zero_le _, rfl, rfl, hO1, rfl, by simp, hb1⟩
 case round =>
   clear hO1 hb1
   obtain ⟨k, VA, vc, vn, l, hkl, rfl, rfl, hOr, hvn, hel, hbr⟩ := hrel
   have HV := Lib.hid hvn
   have HE := Lib.hid hel
   clear hvn hel
   by_cases hlt : k < ls.length
   · obtain ⟨ib, io, rfl, hr⟩ := hs (by omega)
     have hltz : (k : Int) < (n : Int) := by have := HN.out.1; omega
     obtain ⟨Aj, cj, c0, hsj⟩ := hr k hlt
     have q0 := (hbr.cell (World.block_lt_of_cell? w _ c0)).trans c0
     have hsr := hsj.below hbr
     have hk1 : (k : Int) + 1 ≤ 9223372036854775807 := by have := HN.out.2.1; omega
     have HT : Hid (l.length + ls[k].length ≤ 1099511627776) := by
       have h1 := congrArg List.length HE.out
       rw [flatten_drop ls k hlt] at h1
       simp only [List.length_append] at h1
       have := HN.out.2.2
       skip
       rw [Hid]; omega
     have HF : Hid (ls.flatten = (l ++ ls[k]) ++ (ls.drop (k + 1)).flatten) := by rw [Hid, HE.out, flatten_drop ls k hlt, List.append_assoc]
     clear hr c0 hsj
     go_wp2_with (at_builtin; refine stop_in ?_)
     unfold Stopped
     obtain rfl := HV.out
     refine wpList_app_bytes rfl (.tmp 12) (.tmp 13) rfl w.heap.size _ _ rfl hOr Aj _ cj ls[k] rfl rfl hsr HT.out hbr.size fun v' w7 hO7 hg7 hat7 => ?_
     obtain ⟨VA', vc', rfl, _⟩ := hO7.form
     have hO7' : OwnB w7 w.heap.size (.slice VA' (l.length + ls[k].length) vc') (l ++ ls[k]) := by rw [← List.length_append]; exact hO7
     have hb7 := hbr.grown hg7 hbr.size (fun q hq => (hOr.lt q hq).1)
     clear hOr hg7 hat7 hbr q0 hsr hO7
     go_wp2_with fail
     go_roundw
     case rel => exact ⟨k + 1, VA', vc', _, _, by omega, by go_num, rfl, hO7', by rw [List.length_append], HF.out, hb7⟩
     case measure => simp [intOf]; omega
   · have hkk : k = ls.length := by omega
     subst hkk
     have hltz : ¬ ((ls.length : Int) < (n : Int)) := by have := HN.out.1; omega
     have HZ : Hid (ls.flatten = l) := by rw [Hid, HE.out, List.drop_length]; simp
     go_wp2_with fail
     go_ret
     obtain rfl := HV.out
     exact ⟨_, rfl, by rw [HZ.out]; exact ⟨hOr, hbr⟩⟩

set_option maxRecDepth 100000 in
set_option maxHeartbeats 1600000 in
theorem wire_Array {A : Option Addr} {n c : Nat} {ls : List (List UInt8)} (hn : n = ls.length) (hl : ls.length ≤ 1099511627000) (ht : ls.flatten.length ≤ 1099511627000) (w : World) (hs : SrcR w A ls) :
   Calls Tryd.prog 48 #[.slice A n c] w fun e w' => ∃ r, e = .returned r ∧ Fresh w (headB 4 ls.length ++ ls.flatten) r w' := by
 have HD := Lib.hid (fun w => wire_Head 4 (n : Int) w (by omega) (by omega) (by omega) (by omega))
 have K1 : IntKind.u64.wrap (n : Int) = (n : Int) := by rw [IntKind.wrap_u64]; omega
 have HN := Lib.hid (And.intro hn (And.intro hl ht))
 clear hn hl ht
 go_enter Tryd.func48, Tryd.ntmps48
 go_wp2_with fail
 refine (HD.out _).mono ?_
 rintro e w1 ⟨r, rfl, hf⟩
 have hO1 := hf.own
 obtain ⟨RA, rc, rfl, _⟩ := hO1.form
 have hb1 := hf.2
 have E0 : Hid (headB (4 : Int).toNat (n : Int).toNat = headB 4 ls.length) := by rw [Hid, HN.out.1]; rfl
 have hO1' : OwnB w1 w.heap.size (.slice RA (headB (4 : Int).toNat (n : Int).toNat).length rc) (headB 4 ls.length) := by rw [← E0.out]; exact hO1
 have E1 : Hid ((headB (4 : Int).toNat (n : Int).toNat).length = (headB 4 ls.length).length) := by rw [Hid, E0.out]
 obtain ⟨hn4, hhn4⟩ : ∃ hn4, (headB (4 : Int).toNat (n : Int).toNat).length = hn4 := ⟨_, rfl⟩
 rw [hhn4] at hO1' E1 ⊢
 clear hf hO1 hhn4
 go_wp2_with fail
 go_loopw [3, 5, 12] (fun v1 v5 v2 wr => ∃ (k : Nat) (VA : Option Addr) (vc vn : Nat) (l : List UInt8), k ≤ ls.length ∧ v2 = .int .i64 (k : Int) ∧ v1 = .slice VA vn vc ∧ OwnB wr w.heap.size (.slice VA vn vc) l ∧ vn = l.length ∧ (headB 4 ls.length ++ ls.flatten = l ++ (ls.drop k).flatten) ∧ Below w.heap.size w wr) (fun _ _ v2 _ => ls.length - (intOf v2).toNat)
 case atStart => exact ⟨0, _, _, _, _, Nat.zero_le _, rfl, rfl, hO1', E1.out, by simp, hb1⟩
 case round =>
   clear hO1' hb1
   obtain ⟨k, VA, vc, vn, l, hkl, rfl, rfl, hOr, hvn, hel, hbr⟩ := hrel
   have HV := Lib.hid hvn
   have HE := Lib.hid hel
   clear hvn hel
   by_cases hlt : k < ls.length
   · obtain ⟨ib, io, rfl, hr⟩ := hs (by omega)
     have hltz : (k : Int) < (n : Int) := by have := HN.out.1; omega
     obtain ⟨Aj, cj, c0, hsj⟩ := hr k hlt
     have q0 := (hbr.cell (World.block_lt_of_cell? w _ c0)).trans c0
     have hsr := hsj.below hbr
     have hk1 : (k : Int) + 1 ≤ 9223372036854775807 := by have := HN.out.2.1; omega
     have HT : Hid (l.length + ls[k].length ≤ 1099511627776) := by
       have h1 := congrArg List.length HE.out
       rw [flatten_drop ls k hlt] at h1
       simp only [List.length_append] at h1
       have := HN.out.2.2
       have := (headB_le 4 ls.length).2
       rw [Hid]; omega
     have HF : Hid (headB 4 ls.length ++ ls.flatten = (l ++ ls[k]) ++ (ls.drop (k + 1)).flatten) := by rw [Hid, HE.out, flatten_drop ls k hlt, List.append_assoc]
     clear hr c0 hsj
     go_wp2_with (at_builtin; refine stop_in ?_)
     unfold Stopped
     obtain rfl := HV.out
     refine wpList_app_bytes rfl (.tmp 16) (.tmp 17) rfl w.heap.size _ _ rfl hOr Aj _ cj ls[k] rfl rfl hsr HT.out hbr.size fun v' w7 hO7 hg7 hat7 => ?_
     obtain ⟨VA', vc', rfl, _⟩ := hO7.form
     have hO7' : OwnB w7 w.heap.size (.slice VA' (l.length + ls[k].length) vc') (l ++ ls[k]) := by rw [← List.length_append]; exact hO7
     have hb7 := hbr.grown hg7 hbr.size (fun q hq => (hOr.lt q hq).1)
     clear hOr hg7 hat7 hbr q0 hsr hO7
     go_wp2_with fail
     go_roundw
     case rel => exact ⟨k + 1, VA', vc', _, _, by omega, by go_num, rfl, hO7', by rw [List.length_append], HF.out, hb7⟩
     case measure => simp [intOf]; omega
   · have hkk : k = ls.length := by omega
     subst hkk
     have hltz : ¬ ((ls.length : Int) < (n : Int)) := by have := HN.out.1; omega
     have HZ : Hid (headB 4 ls.length ++ ls.flatten = l) := by rw [Hid, HE.out, List.drop_length]; simp
     go_wp2_with fail
     go_ret
     obtain rfl := HV.out
     exact ⟨_, rfl, by rw [HZ.out]; exact ⟨hOr, hbr⟩⟩

set_option maxRecDepth 100000 in
set_option maxHeartbeats 1600000 in
theorem trans_join {A : Option Addr} {n c : Nat} {ls : List (List UInt8)} (hn : n = ls.length) (hl : ls.length ≤ 1099511627000) (ht : ls.flatten.length ≤ 1099511627000) (w : World) (hs : SrcR w A ls) :
   Calls Tryd.prog 83 #[.slice A n c] w fun e w' => ∃ r, e = .returned r ∧ Fresh w (ls.flatten) r w' := by
 have HN := Lib.hid (And.intro hn (And.intro hl ht))
 clear hn hl ht
 go_enter Tryd.func83, Tryd.ntmps83
 have hO1 := OwnB.nil w w.heap.size
 have hb1 := Below.refl w.heap.size w
 go_wp2_with fail
 go_loopw [3, 5, 8] (fun v1 v5 v2 wr => ∃ (k : Nat) (VA : Option Addr) (vc vn : Nat) (l : List UInt8), k ≤ ls.length ∧ v2 = .int .i64 (k : Int) ∧ v1 = .slice VA vn vc ∧ OwnB wr w.heap.size (.slice VA vn vc) l ∧ vn = l.length ∧ (ls.flatten = l ++ (ls.drop k).flatten) ∧ Below w.heap.size w wr) (fun _ _ v2 _ => ls.length - (intOf v2).toNat)
 case atStart => exact ⟨0, _, _, _, _, Nat.zero_le _, rfl, rfl, hO1, rfl, by simp, hb1⟩
 case round =>
   clear hO1 hb1
   obtain ⟨k, VA, vc, vn, l, hkl, rfl, rfl, hOr, hvn, hel, hbr⟩ := hrel
   have HV := Lib.hid hvn
   have HE := Lib.hid hel
   clear hvn hel
   by_cases hlt : k < ls.length
   · obtain ⟨ib, io, rfl, hr⟩ := hs (by omega)
     have hltz : (k : Int) < (n : Int) := by have := HN.out.1; omega
     obtain ⟨Aj, cj, c0, hsj⟩ := hr k hlt
     have q0 := (hbr.cell (World.block_lt_of_cell? w _ c0)).trans c0
     have hsr := hsj.below hbr
     have hk1 : (k : Int) + 1 ≤ 9223372036854775807 := by have := HN.out.2.1; omega
     have HT : Hid (l.length + ls[k].length ≤ 1099511627776) := by
       have h1 := congrArg List.length HE.out
       rw [flatten_drop ls k hlt] at h1
       simp only [List.length_append] at h1
       have := HN.out.2.2
       skip
       rw [Hid]; omega
     have HF : Hid (ls.flatten = (l ++ ls[k]) ++ (ls.drop (k + 1)).flatten) := by rw [Hid, HE.out, flatten_drop ls k hlt, List.append_assoc]
     clear hr c0 hsj
     go_wp2_with (at_builtin; refine stop_in ?_)
     unfold Stopped
     obtain rfl := HV.out
     refine wpList_app_bytes rfl (.tmp 12) (.tmp 13) rfl w.heap.size _ _ rfl hOr Aj _ cj ls[k] rfl rfl hsr HT.out hbr.size fun v' w7 hO7 hg7 hat7 => ?_
     obtain ⟨VA', vc', rfl, _⟩ := hO7.form
     have hO7' : OwnB w7 w.heap.size (.slice VA' (l.length + ls[k].length) vc') (l ++ ls[k]) := by rw [← List.length_append]; exact hO7
     have hb7 := hbr.grown hg7 hbr.size (fun q hq => (hOr.lt q hq).1)
     clear hOr hg7 hat7 hbr q0 hsr hO7
     go_wp2_with fail
     go_roundw
     case rel => exact ⟨k + 1, VA', vc', _, _, by omega, by go_num, rfl, hO7', by rw [List.length_append], HF.out, hb7⟩
     case measure => simp [intOf]; omega
   · have hkk : k = ls.length := by omega
     subst hkk
     have hltz : ¬ ((ls.length : Int) < (n : Int)) := by have := HN.out.1; omega
     have HZ : Hid (ls.flatten = l) := by rw [Hid, HE.out, List.drop_length]; simp
     go_wp2_with fail
     go_ret
     obtain rfl := HV.out
     exact ⟨_, rfl, by rw [HZ.out]; exact ⟨hOr, hbr⟩⟩

end Go.Proofs.YtlebpackbfcfeaaDoor
