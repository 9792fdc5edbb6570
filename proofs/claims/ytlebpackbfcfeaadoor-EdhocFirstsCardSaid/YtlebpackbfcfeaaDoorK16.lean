/- squeezed. Walks: connection identifiers, equ -/
import Derived.Test.YtlebpackbfcfeaaDoorK15
import Derived.OwnWalk
import Derived.Test.YtlebpackbfcfeaaDoorK12
set_option linter.unusedVariables false
set_option linter.unusedSimpArgs false
set_option maxRecDepth 100000
set_option maxHeartbeats 1600000
namespace Go.Proofs.YtlebpackbfcfeaaDoor
open Go.RowKit
def ConnSaid (w : World) (l : List UInt8) (e : Ending) (w' : World) : Prop :=
 match parseConn l with
 | .error q => e = .returned (.tuple #[.slice none 0 0, .int .i64 0, .int .i64 (q : Int)]) ∧ Below w.heap.size w w'
 | .ok (c, k) => ∃ r, e = .returned (.tuple #[r, .int .i64 (k : Int), .int .i64 0]) ∧ Fresh w c r w'
theorem ConnSaid.err {w w' : World} {l : List UInt8} {e : Ending} {q : Nat} (h : parseConn l = .error q) (he : e = .returned (.tuple #[.slice none 0 0, .int .i64 0, .int .i64 (q : Int)])) (hb : Below w.heap.size w w') : ConnSaid w l e w' := by
 rw [ConnSaid, h]; exact ⟨he, hb⟩
theorem ConnSaid.ok {w w' : World} {l : List UInt8} {e : Ending} {c : List UInt8} {k : Nat} {r : Value} (h : parseConn l = .ok (c, k)) (he : e = .returned (.tuple #[r, .int .i64 (k : Int), .int .i64 0])) (hf : Fresh w c r w') : ConnSaid w l e w' := by
 rw [ConnSaid, h]; exact ⟨r, he, hf⟩
theorem Src.at0 {w : World} {A : Option Addr} {x : UInt8} {t : List UInt8} (h : Src w A ((x :: t).map byteV)) : ∃ b off, A = some ⟨b, off, none⟩ ∧ ∀ j (hj : j < (x :: t).length), w.cell? ⟨b, off + j, none⟩ = some (byteV (x :: t)[j]) := by
 obtain ⟨b, off, e, hc⟩ := h (by simp)
 exact ⟨b, off, e, fun j hj => hc j _ (by rw [List.getElem?_map, List.getElem?_eq_getElem hj]; rfl)⟩
theorem src_sub {w : World} {b off n : Nat} {l : List UInt8} (h : ∀ j (hj : j < l.length), w.cell? ⟨b, off + j, none⟩ = some (byteV l[j])) (k : Nat) (B : Option Addr) (hB : n ≠ 0 → B = some ⟨b, off + k, none⟩) (hk : k + n ≤ l.length) : Src w B (((l.drop k).take n).map byteV) := fun hne => by
 have h0 : n ≠ 0 := by
  intro h0
  subst h0
  simp at hne
 refine ⟨b, off + k, hB h0, fun j v hj => ?_⟩
 rw [List.getElem?_map] at hj
 obtain ⟨u, hu, rfl⟩ := Option.map_eq_some_iff.1 hj
 rw [List.getElem?_take] at hu
 split at hu
 ·rename_i hjn
  rw [List.getElem?_drop] at hu
  obtain ⟨h1, h2⟩ := List.getElem?_eq_some_iff.1 hu
  rw [Nat.add_assoc, h (k + j) h1, h2]
 ·cases hu
theorem trans_Conn {A : Option Addr} {n c : Nat} {l : List UInt8} (hn : n = l.length) (hl : l.length ≤ 1099511627000) (w : World) (hs : Src w A (l.map byteV)) :
  Calls Tryd.prog 49 #[.slice A n c] w fun e w' => ∃ r, e = .returned r ∧ Fresh w (connB l) r w' := by
 by_cases h1 : l.length = 1
 ·obtain ⟨x, rfl⟩ := list1 h1
  obtain ⟨b, off, rfl, hc⟩ := Src.at0 hs
  have c0 := hc 0 (by simp)
  simp only [Nat.add_zero, List.getElem_cons_zero] at c0
  subst hn
  simp only [List.length_cons, List.length_nil, Nat.zero_add]
  have ST := Hh (wire_Str (A := some ⟨b, off, none⟩) (c := c) (l := [x]) rfl (by simp) w hs)
  cases hx : shortB x with
  | true =>
   have SH : Hid (∀ w1, Calls Tryd.prog 70 #[.int .u8 (x.toNat : Int)] w1 fun e w' => e = .returned (.bool true) ∧ w' = w1) := by rw [← hx]; exact fun w1 => trans_short x w1
   have E : Hid (connB [x] = [x]) := by rw [Hid, connB, hx]; rfl
   clear hx hc hs ST hl h1
   go_enter Tryd.func49, Tryd.ntmps49
   go_wp2_with fail
   refine (SH.out _).mono ?_
   rintro e w1 ⟨rfl, rfl⟩
   go_wp2_with fail
   go_ret
   refine ⟨_, rfl, ?_⟩
   rw [E.out]
   exact Fresh.lit _ _ _ 1 rfl (by simp) rfl
  | false =>
   have SH : Hid (∀ w1, Calls Tryd.prog 70 #[.int .u8 (x.toNat : Int)] w1 fun e w' => e = .returned (.bool false) ∧ w' = w1) := by rw [← hx]; exact fun w1 => trans_short x w1
   have E : Hid (connB [x] = strB [x]) := by rw [Hid, connB, hx]; rfl
   clear hx hc hs hl h1
   go_enter Tryd.func49, Tryd.ntmps49
   go_wp2_with fail
   refine (SH.out _).mono ?_
   rintro e w1 ⟨rfl, rfl⟩
   go_wp2_with fail
   refine ST.out.mono ?_
   rintro e w2 ⟨r, rfl, hf⟩
   go_wp2_with fail
   go_ret
   exact ⟨_, rfl, by rw [E.out]; exact hf⟩
 ·have ST := Hh (wire_Str (A := A) (c := c) hn hl w hs)
  have E : Hid (connB l = strB l) := by
   rw [Hid]
   match l, h1 with
   | [], _ => rfl
   | _ :: _ :: _, _ => rfl
  have hz : ((n : Int) == 1) = false := by simp; omega
  have hz2 : ((n : Int) = 1) = False := eq_false (by omega)
  clear hs hl h1 hn
  go_enter Tryd.func49, Tryd.ntmps49
  go_wp2_with fail
  refine ST.out.mono ?_
  rintro e w2 ⟨r, rfl, hf⟩
  go_wp2_with fail
  go_ret
  exact ⟨_, rfl, by rw [E.out]; exact hf⟩
theorem ref_Conn {A : Option Addr} {n c : Nat} {l : List UInt8} (hn : n = l.length) (hl : l.length ≤ 1099511627000) (w : World) (hs : Src w A (l.map byteV)) :
  Calls Tryd.prog 54 #[.slice A n c] w fun e w' => ∃ r, e = .returned r ∧ Fresh w (connB l) r w' := by
 by_cases h1 : l.length = 1
 ·obtain ⟨x, rfl⟩ := list1 h1
  obtain ⟨b, off, rfl, hc⟩ := Src.at0 hs
  have c0 := hc 0 (by simp)
  simp only [Nat.add_zero, List.getElem_cons_zero] at c0
  subst hn
  simp only [List.length_cons, List.length_nil, Nat.zero_add]
  have ST := Hh (ref_Str (A := some ⟨b, off, none⟩) (c := c) (l := [x]) rfl (by simp) w hs)
  cases hx : shortB x with
  | true =>
   have SH : Hid (∀ w1, Calls Tryd.prog 73 #[.int .u8 (x.toNat : Int)] w1 fun e w' => e = .returned (.bool true) ∧ w' = w1) := by rw [← hx]; exact fun w1 => ref_Single x w1
   have E : Hid (connB [x] = [x]) := by rw [Hid, connB, hx]; rfl
   clear hx hc hs ST hl h1
   go_enter Tryd.func54, Tryd.ntmps54
   go_wp2_with fail
   refine (SH.out _).mono ?_
   rintro e w1 ⟨rfl, rfl⟩
   go_wp2_with fail
   go_ret
   refine ⟨_, rfl, ?_⟩
   rw [E.out]
   exact Fresh.lit _ _ _ 1 rfl (by simp) rfl
  | false =>
   have SH : Hid (∀ w1, Calls Tryd.prog 73 #[.int .u8 (x.toNat : Int)] w1 fun e w' => e = .returned (.bool false) ∧ w' = w1) := by rw [← hx]; exact fun w1 => ref_Single x w1
   have E : Hid (connB [x] = strB [x]) := by rw [Hid, connB, hx]; rfl
   clear hx hc hs hl h1
   go_enter Tryd.func54, Tryd.ntmps54
   go_wp2_with fail
   refine (SH.out _).mono ?_
   rintro e w1 ⟨rfl, rfl⟩
   go_wp2_with fail
   refine ST.out.mono ?_
   rintro e w2 ⟨r, rfl, hf⟩
   go_wp2_with fail
   go_ret
   exact ⟨_, rfl, by rw [E.out]; exact hf⟩
 ·have ST := Hh (ref_Str (A := A) (c := c) hn hl w hs)
  have E : Hid (connB l = strB l) := by
   rw [Hid]
   match l, h1 with
   | [], _ => rfl
   | _ :: _ :: _, _ => rfl
  have hz : ((n : Int) == 1) = false := by simp; omega
  have hz2 : ((n : Int) = 1) = False := eq_false (by omega)
  clear hs hl h1 hn
  go_enter Tryd.func54, Tryd.ntmps54
  go_wp2_with fail
  refine ST.out.mono ?_
  rintro e w2 ⟨r, rfl, hf⟩
  go_wp2_with fail
  go_ret
  exact ⟨_, rfl, by rw [E.out]; exact hf⟩
theorem trans_ParseConn {A : Option Addr} {n c : Nat} {l : List UInt8} (hn : n = l.length) (hl : l.length ≤ 1099511627000) (hc : n ≤ c) (hc2 : c ≤ 9223372036854775807) (w : World) (hs : Src w A (l.map byteV)) :
  Calls Tryd.prog 74 #[.slice A n c] w (ConnSaid w l) := by
 cases l with
 | nil =>
  subst hn
  simp only [List.length_nil]
  go_enter Tryd.func74, Tryd.ntmps74
  go_wp2_with fail
  go_ret3
  exact ConnSaid.err (q := 2) rfl rfl (Below.refl _ _)
 | cons x t =>
  obtain ⟨b, off, rfl, hcell⟩ := Src.at0 hs
  have c0 := hcell 0 (by simp)
  simp only [Nat.add_zero, List.getElem_cons_zero] at c0
  have hn0 : (0 : Int) < (n : Int) := by rw [hn, List.length_cons]; omega
  have lx := x.toNat_lt
  have n0 : ((n : Int) == 0) = false := by simp; omega
  have n0' : ((n : Int) = 0) = False := eq_false (by omega)
  have HCELL := Hh hcell
  have HN := Hh (And.intro hn (And.intro hl (And.intro hc hc2)))
  clear hcell hn hl hc hc2 hs
  cases hx : shortB x with
  | true =>
   have SH : Hid (∀ w1, Calls Tryd.prog 70 #[.int .u8 (x.toNat : Int)] w1 fun e w' => e = .returned (.bool true) ∧ w' = w1) := by rw [← hx]; exact fun w1 => trans_short x w1
   have E : Hid (parseConn (x :: t) = .ok ([x], 1)) := by rw [Hid, parseConn, hx]; rfl
   clear hx
   go_enter Tryd.func74, Tryd.ntmps74
   go_wp2_with fail
   refine (SH.out _).mono ?_
   rintro e w1 ⟨rfl, rfl⟩
   go_wp2_with fail
   go_ret3
   exact ConnSaid.ok E.out rfl (Fresh.lit _ _ _ 1 rfl (by simp) rfl)
  | false =>
   have SH : Hid (∀ w1, Calls Tryd.prog 70 #[.int .u8 (x.toNat : Int)] w1 fun e w' => e = .returned (.bool false) ∧ w' = w1) := by rw [← hx]; exact fun w1 => trans_short x w1
   have E0 : Hid (parseConn (x :: t) = if x.toNat < 64 ∨ 88 < x.toNat then .error 4 else if 7 < x.toNat - 64 then .error 8 else if (x :: t).length < 1 + (x.toNat - 64) then .error 2
     else if x.toNat - 64 = 1 ∧ shortB ((x :: t).getD 1 0) then .error 4 else .ok (t.take (x.toNat - 64), 1 + (x.toNat - 64))) := by rw [Hid, parseConn, hx]; rfl
   clear hx
   by_cases h1 : x.toNat < 64
   ·have z1 : (x.toNat : Int) < 64 := by omega
    have E : Hid (parseConn (x :: t) = .error 4) := by rw [Hid, E0.out, if_pos (.inl h1)]
    go_enter Tryd.func74, Tryd.ntmps74
    go_wp2_with fail
    refine (SH.out _).mono ?_
    rintro e w1 ⟨rfl, rfl⟩
    go_wp2_with fail
    go_ret3
    exact ConnSaid.err E.out rfl (Below.refl _ _)
   have z1 : ¬ (x.toNat : Int) < 64 := by omega
   by_cases h2 : 88 < x.toNat
   ·have z2 : (88 : Int) < (x.toNat : Int) := by omega
    have E : Hid (parseConn (x :: t) = .error 4) := by rw [Hid, E0.out, if_pos (.inr h2)]
    go_enter Tryd.func74, Tryd.ntmps74
    go_wp2_with fail
    refine (SH.out _).mono ?_
    rintro e w1 ⟨rfl, rfl⟩
    go_wp2_with fail
    go_ret3
    exact ConnSaid.err E.out rfl (Below.refl _ _)
   have z2 : ¬ (88 : Int) < (x.toNat : Int) := by omega
   obtain ⟨y, hy⟩ : ∃ y, x.toNat - 64 = y := ⟨_, rfl⟩
   have ey : IntKind.i64.wrap ((x.toNat : Int) - 64) = (y : Int) := by rw [IntWalk.i64_in _ (by omega)]; omega
   have hyl : (y : Int) ≤ 24 := by omega
   have ey2 : (x.toNat : Int) - 64 = (y : Int) := by omega
   have E1 : Hid (parseConn (x :: t) = if 7 < y then .error 8 else if (x :: t).length < 1 + y then .error 2
     else if y = 1 ∧ shortB ((x :: t).getD 1 0) then .error 4 else .ok (t.take y, 1 + y)) := by rw [Hid, E0.out, if_neg (by omega), hy]
   clear hy h1 h2 E0
   by_cases h3 : 7 < y
   ·have z3 : (7 : Int) < (y : Int) := by omega
    have E : Hid (parseConn (x :: t) = .error 8) := by rw [Hid, E1.out, if_pos h3]
    go_enter Tryd.func74, Tryd.ntmps74
    go_wp2_with fail
    refine (SH.out _).mono ?_
    rintro e w1 ⟨rfl, rfl⟩
    go_wp2_with fail
    go_ret3
    exact ConnSaid.err E.out rfl (Below.refl _ _)
   have z3 : ¬ (7 : Int) < (y : Int) := by omega
   by_cases h4 : n < 1 + y
   ·have z4 : (n : Int) < 1 + (y : Int) := by omega
    have E : Hid (parseConn (x :: t) = .error 2) := by rw [Hid, E1.out, if_neg h3, if_pos (by have := HN.out.1; omega)]
    go_enter Tryd.func74, Tryd.ntmps74
    go_wp2_with fail
    refine (SH.out _).mono ?_
    rintro e w1 ⟨rfl, rfl⟩
    go_wp2_with fail
    go_ret3
    exact ConnSaid.err E.out rfl (Below.refl _ _)
   have z4 : ¬ (n : Int) < 1 + (y : Int) := by omega
   have E2 : Hid (parseConn (x :: t) = if y = 1 ∧ shortB ((x :: t).getD 1 0) then .error 4 else .ok (t.take y, 1 + y)) := by rw [Hid, E1.out, if_neg h3, if_neg (by have := HN.out.1; omega)]
   clear E1 h3
   have hle1 : (1 : Int) ≤ 1 + (y : Int) := by omega
   have hle2 : 1 + (y : Int) ≤ (c : Int) := by have := HN.out.2.2.1; omega
   have hle3 : (1 : Int) ≤ (c : Int) := by omega
   have JN := Hh (fun (w0 : World) (B : Option Addr) (k : Nat) (hk : k = y) (hw : Below w.heap.size w w0) (hB : y ≠ 0 → B = some ⟨b, off + 1, none⟩) =>
    trans_join (A := some ⟨w0.heap.size, 0, none⟩) (n := 1) (c := 1) (ls := [t.take y]) rfl (by simp) (by simp; omega) (w0.alloc (.cells #[.slice B k (c - 1)] 24)) (fun _ => ⟨w0.heap.size, 0, rfl, fun j hj => by
     obtain rfl : j = 0 := by simpa using hj
     refine ⟨B, c - 1, ?_, ?_⟩
     ·rw [cell_of_row _ w0.heap.size 0 #[.slice B k (c - 1)] 24 (0, 0) (heap_alloc_new w0 _)]
      have : (t.take y).length = k := by rw [List.length_take, hk]; have := HN.out.1; simp at this; omega
      simp [this]
     ·have h := src_sub (w := w) (n := y) HCELL.out 1 B hB (by have := HN.out.1; omega)
      exact (h.below hw).alloc _⟩))
   have fin : Hid (∀ (w0 : World) (B : Option Addr) (cc : Nat), cc = c - 1 → Below w.heap.size w w0 → (y ≠ 0 → B = some ⟨b, off + 1, none⟩) → Calls Tryd.prog 83 #[.slice (some ⟨w0.heap.size, 0, none⟩) 1 1] (w0.alloc (.cells #[.slice B y cc] 24)) fun e w' => ∃ r, e = .returned r ∧ Fresh (w0.alloc (.cells #[.slice B y cc] 24)) (t.take y) r w') := fun w0 B cc hcc hw hB => by
    subst hcc
    have := JN.out w0 B y rfl hw hB
    simpa using this
   clear JN
   by_cases h5 : y = 1
   ·have hlen := HN.out.1
    obtain ⟨x2, t2, rfl⟩ : ∃ x2 t2, t = x2 :: t2 := by
     cases t with
     | nil => simp at hlen; omega
     | cons x2 t2 => exact ⟨x2, t2, rfl⟩
    have c1 := HCELL.out 1 (by simp)
    simp only [List.getElem_cons_succ, List.getElem_cons_zero] at c1
    have lx2 := x2.toNat_lt
    have hn1 : (1 : Int) < (n : Int) := by simp at hlen; omega
    have g1 : (x :: x2 :: t2).getD 1 0 = x2 := rfl
    rw [g1] at E2
    subst h5
    clear hlen g1
    cases hx2 : shortB x2 with
    | true =>
     have SH2 : Hid (∀ w1, Calls Tryd.prog 70 #[.int .u8 (x2.toNat : Int)] w1 fun e w' => e = .returned (.bool true) ∧ w' = w1) := by rw [← hx2]; exact fun w1 => trans_short x2 w1
     have E : Hid (parseConn (x :: x2 :: t2) = .error 4) := by rw [Hid, E2.out, if_pos ⟨rfl, hx2⟩]
     clear hx2 E2
     go_enter Tryd.func74, Tryd.ntmps74
     go_wp2_with fail
     refine (SH.out _).mono ?_
     rintro e w1 ⟨rfl, rfl⟩
     go_wp2_with fail
     refine (SH2.out _).mono ?_
     rintro e w1 ⟨rfl, rfl⟩
     go_wp2_with fail
     go_ret3
     exact ConnSaid.err E.out rfl (Below.refl _ _)
    | false =>
     have SH2 : Hid (∀ w1, Calls Tryd.prog 70 #[.int .u8 (x2.toNat : Int)] w1 fun e w' => e = .returned (.bool false) ∧ w' = w1) := by rw [← hx2]; exact fun w1 => trans_short x2 w1
     have E : Hid (parseConn (x :: x2 :: t2) = .ok ((x2 :: t2).take 1, 2)) := by rw [Hid, E2.out, if_neg (by rw [hx2]; simp)]
     clear hx2 E2
     go_enter Tryd.func74, Tryd.ntmps74
     go_wp2_with fail
     refine (SH.out _).mono ?_
     rintro e w1 ⟨rfl, rfl⟩
     go_wp2_with fail
     refine (SH2.out _).mono ?_
     rintro e w1 ⟨rfl, rfl⟩
     go_wp2_with fail
     refine (fin.out _ _ _ rfl (Below.refl _ _) (fun _ => rfl)).mono ?_
     rintro e w2 ⟨r, rfl, hf⟩
     go_wp2_with fail
     go_ret3
     exact ConnSaid.ok E.out rfl (hf.step (below_box _ _))
   ·have z5 : ((y : Int) == 1) = false := by simp; omega
    have z5' : ((y : Int) = 1) = False := eq_false (by omega)
    have E : Hid (parseConn (x :: t) = .ok (t.take y, 1 + y)) := by rw [Hid, E2.out, if_neg (fun h => h5 h.1)]
    clear E2 h5
    go_enter Tryd.func74, Tryd.ntmps74
    go_wp2_with fail
    refine (SH.out _).mono ?_
    rintro e w1 ⟨rfl, rfl⟩
    go_wp2_with fail
    all_goals first | refine (fin.out _ (some ⟨b, off + 1, none⟩) _ rfl (Below.refl _ _) (fun _ => rfl)).mono ?_ | refine (fin.out _ (some ⟨b, off, none⟩) 0 (by omega) (Below.refl _ _) (fun h => absurd (show y = 0 by omega) h)).mono ?_
    all_goals
     rintro e w2 ⟨r, rfl, hf⟩
     go_wp2_with fail
     go_ret3
     exact ConnSaid.ok E.out (by simp) (hf.step (below_box _ _))
theorem ref_ParseConn {A : Option Addr} {n c : Nat} {l : List UInt8} (hn : n = l.length) (hl : l.length ≤ 1099511627000) (hc : n ≤ c) (hc2 : c ≤ 9223372036854775807) (w : World) (hs : Src w A (l.map byteV)) :
  Calls Tryd.prog 61 #[.slice A n c] w (ConnSaid w l) := by
 cases l with
 | nil =>
  subst hn
  simp only [List.length_nil]
  go_enter Tryd.func61, Tryd.ntmps61
  go_wp2_with fail
  go_ret3
  exact ConnSaid.err (q := 2) rfl rfl (Below.refl _ _)
 | cons x t =>
  obtain ⟨b, off, rfl, hcell⟩ := Src.at0 hs
  have c0 := hcell 0 (by simp)
  simp only [Nat.add_zero, List.getElem_cons_zero] at c0
  have hn0 : (0 : Int) < (n : Int) := by rw [hn, List.length_cons]; omega
  have lx := x.toNat_lt
  have n0 : ((n : Int) == 0) = false := by simp; omega
  have n0' : ((n : Int) = 0) = False := eq_false (by omega)
  have HCELL := Hh hcell
  have HN := Hh (And.intro hn (And.intro hl (And.intro hc hc2)))
  clear hcell hn hl hc hc2 hs
  cases hx : shortB x with
  | true =>
   have SH : Hid (∀ w1, Calls Tryd.prog 73 #[.int .u8 (x.toNat : Int)] w1 fun e w' => e = .returned (.bool true) ∧ w' = w1) := by rw [← hx]; exact fun w1 => ref_Single x w1
   have E : Hid (parseConn (x :: t) = .ok ([x], 1)) := by rw [Hid, parseConn, hx]; rfl
   clear hx
   go_enter Tryd.func61, Tryd.ntmps61
   go_wp2_with fail
   refine (SH.out _).mono ?_
   rintro e w1 ⟨rfl, rfl⟩
   go_wp2_with fail
   go_ret3
   exact ConnSaid.ok E.out rfl (Fresh.lit _ _ _ 1 rfl (by simp) rfl)
  | false =>
   have SH : Hid (∀ w1, Calls Tryd.prog 73 #[.int .u8 (x.toNat : Int)] w1 fun e w' => e = .returned (.bool false) ∧ w' = w1) := by rw [← hx]; exact fun w1 => ref_Single x w1
   have E0 : Hid (parseConn (x :: t) = if x.toNat < 64 ∨ 88 < x.toNat then .error 4 else if 7 < x.toNat - 64 then .error 8 else if (x :: t).length < 1 + (x.toNat - 64) then .error 2
     else if x.toNat - 64 = 1 ∧ shortB ((x :: t).getD 1 0) then .error 4 else .ok (t.take (x.toNat - 64), 1 + (x.toNat - 64))) := by rw [Hid, parseConn, hx]; rfl
   clear hx
   by_cases h1 : x.toNat < 64
   ·have z1 : (x.toNat : Int) < 64 := by omega
    have E : Hid (parseConn (x :: t) = .error 4) := by rw [Hid, E0.out, if_pos (.inl h1)]
    go_enter Tryd.func61, Tryd.ntmps61
    go_wp2_with fail
    refine (SH.out _).mono ?_
    rintro e w1 ⟨rfl, rfl⟩
    go_wp2_with fail
    go_ret3
    exact ConnSaid.err E.out rfl (Below.refl _ _)
   have z1 : ¬ (x.toNat : Int) < 64 := by omega
   by_cases h2 : 88 < x.toNat
   ·have z2 : (88 : Int) < (x.toNat : Int) := by omega
    have E : Hid (parseConn (x :: t) = .error 4) := by rw [Hid, E0.out, if_pos (.inr h2)]
    go_enter Tryd.func61, Tryd.ntmps61
    go_wp2_with fail
    refine (SH.out _).mono ?_
    rintro e w1 ⟨rfl, rfl⟩
    go_wp2_with fail
    go_ret3
    exact ConnSaid.err E.out rfl (Below.refl _ _)
   have z2 : ¬ (88 : Int) < (x.toNat : Int) := by omega
   obtain ⟨y, hy⟩ : ∃ y, x.toNat - 64 = y := ⟨_, rfl⟩
   have ey : IntKind.i64.wrap ((x.toNat : Int) - 64) = (y : Int) := by rw [IntWalk.i64_in _ (by omega)]; omega
   have hyl : (y : Int) ≤ 24 := by omega
   have ey2 : (x.toNat : Int) - 64 = (y : Int) := by omega
   have E1 : Hid (parseConn (x :: t) = if 7 < y then .error 8 else if (x :: t).length < 1 + y then .error 2
     else if y = 1 ∧ shortB ((x :: t).getD 1 0) then .error 4 else .ok (t.take y, 1 + y)) := by rw [Hid, E0.out, if_neg (by omega), hy]
   clear hy h1 h2 E0
   by_cases h3 : 7 < y
   ·have z3 : (7 : Int) < (y : Int) := by omega
    have E : Hid (parseConn (x :: t) = .error 8) := by rw [Hid, E1.out, if_pos h3]
    go_enter Tryd.func61, Tryd.ntmps61
    go_wp2_with fail
    refine (SH.out _).mono ?_
    rintro e w1 ⟨rfl, rfl⟩
    go_wp2_with fail
    go_ret3
    exact ConnSaid.err E.out rfl (Below.refl _ _)
   have z3 : ¬ (7 : Int) < (y : Int) := by omega
   by_cases h4 : n < 1 + y
   ·have z4 : (n : Int) < 1 + (y : Int) := by omega
    have E : Hid (parseConn (x :: t) = .error 2) := by rw [Hid, E1.out, if_neg h3, if_pos (by have := HN.out.1; omega)]
    go_enter Tryd.func61, Tryd.ntmps61
    go_wp2_with fail
    refine (SH.out _).mono ?_
    rintro e w1 ⟨rfl, rfl⟩
    go_wp2_with fail
    go_ret3
    exact ConnSaid.err E.out rfl (Below.refl _ _)
   have z4 : ¬ (n : Int) < 1 + (y : Int) := by omega
   have E2 : Hid (parseConn (x :: t) = if y = 1 ∧ shortB ((x :: t).getD 1 0) then .error 4 else .ok (t.take y, 1 + y)) := by rw [Hid, E1.out, if_neg h3, if_neg (by have := HN.out.1; omega)]
   clear E1 h3
   have hle1 : (1 : Int) ≤ 1 + (y : Int) := by omega
   have hle2 : 1 + (y : Int) ≤ (c : Int) := by have := HN.out.2.2.1; omega
   have hle3 : (1 : Int) ≤ (c : Int) := by omega
   have JN := Hh (fun (w0 : World) (B : Option Addr) (k : Nat) (hk : k = y) (hw : Below w.heap.size w w0) (hB : y ≠ 0 → B = some ⟨b, off + 1, none⟩) =>
    ref_Join (A := some ⟨w0.heap.size, 0, none⟩) (n := 1) (c := 1) (ls := [t.take y]) rfl (by simp) (by simp; omega) (w0.alloc (.cells #[.slice B k (c - 1)] 24)) (fun _ => ⟨w0.heap.size, 0, rfl, fun j hj => by
     obtain rfl : j = 0 := by simpa using hj
     refine ⟨B, c - 1, ?_, ?_⟩
     ·rw [cell_of_row _ w0.heap.size 0 #[.slice B k (c - 1)] 24 (0, 0) (heap_alloc_new w0 _)]
      have : (t.take y).length = k := by rw [List.length_take, hk]; have := HN.out.1; simp at this; omega
      simp [this]
     ·have h := src_sub (w := w) (n := y) HCELL.out 1 B hB (by have := HN.out.1; omega)
      exact (h.below hw).alloc _⟩))
   have fin : Hid (∀ (w0 : World) (B : Option Addr) (cc : Nat), cc = c - 1 → Below w.heap.size w w0 → (y ≠ 0 → B = some ⟨b, off + 1, none⟩) → Calls Tryd.prog 52 #[.slice (some ⟨w0.heap.size, 0, none⟩) 1 1] (w0.alloc (.cells #[.slice B y cc] 24)) fun e w' => ∃ r, e = .returned r ∧ Fresh (w0.alloc (.cells #[.slice B y cc] 24)) (t.take y) r w') := fun w0 B cc hcc hw hB => by
    subst hcc
    have := JN.out w0 B y rfl hw hB
    simpa using this
   clear JN
   by_cases h5 : y = 1
   ·have hlen := HN.out.1
    obtain ⟨x2, t2, rfl⟩ : ∃ x2 t2, t = x2 :: t2 := by
     cases t with
     | nil => simp at hlen; omega
     | cons x2 t2 => exact ⟨x2, t2, rfl⟩
    have c1 := HCELL.out 1 (by simp)
    simp only [List.getElem_cons_succ, List.getElem_cons_zero] at c1
    have lx2 := x2.toNat_lt
    have hn1 : (1 : Int) < (n : Int) := by simp at hlen; omega
    have g1 : (x :: x2 :: t2).getD 1 0 = x2 := rfl
    rw [g1] at E2
    subst h5
    clear hlen g1
    cases hx2 : shortB x2 with
    | true =>
     have SH2 : Hid (∀ w1, Calls Tryd.prog 73 #[.int .u8 (x2.toNat : Int)] w1 fun e w' => e = .returned (.bool true) ∧ w' = w1) := by rw [← hx2]; exact fun w1 => ref_Single x2 w1
     have E : Hid (parseConn (x :: x2 :: t2) = .error 4) := by rw [Hid, E2.out, if_pos ⟨rfl, hx2⟩]
     clear hx2 E2
     go_enter Tryd.func61, Tryd.ntmps61
     go_wp2_with fail
     refine (SH.out _).mono ?_
     rintro e w1 ⟨rfl, rfl⟩
     go_wp2_with fail
     refine (SH2.out _).mono ?_
     rintro e w1 ⟨rfl, rfl⟩
     go_wp2_with fail
     go_ret3
     exact ConnSaid.err E.out rfl (Below.refl _ _)
    | false =>
     have SH2 : Hid (∀ w1, Calls Tryd.prog 73 #[.int .u8 (x2.toNat : Int)] w1 fun e w' => e = .returned (.bool false) ∧ w' = w1) := by rw [← hx2]; exact fun w1 => ref_Single x2 w1
     have E : Hid (parseConn (x :: x2 :: t2) = .ok ((x2 :: t2).take 1, 2)) := by rw [Hid, E2.out, if_neg (by rw [hx2]; simp)]
     clear hx2 E2
     go_enter Tryd.func61, Tryd.ntmps61
     go_wp2_with fail
     refine (SH.out _).mono ?_
     rintro e w1 ⟨rfl, rfl⟩
     go_wp2_with fail
     refine (SH2.out _).mono ?_
     rintro e w1 ⟨rfl, rfl⟩
     go_wp2_with fail
     refine (fin.out _ _ _ rfl (Below.refl _ _) (fun _ => rfl)).mono ?_
     rintro e w2 ⟨r, rfl, hf⟩
     go_wp2_with fail
     go_ret3
     exact ConnSaid.ok E.out rfl (hf.step (below_box _ _))
   ·have z5 : ((y : Int) == 1) = false := by simp; omega
    have z5' : ((y : Int) = 1) = False := eq_false (by omega)
    have E : Hid (parseConn (x :: t) = .ok (t.take y, 1 + y)) := by rw [Hid, E2.out, if_neg (fun h => h5 h.1)]
    clear E2 h5
    go_enter Tryd.func61, Tryd.ntmps61
    go_wp2_with fail
    refine (SH.out _).mono ?_
    rintro e w1 ⟨rfl, rfl⟩
    go_wp2_with fail
    all_goals first | refine (fin.out _ (some ⟨b, off + 1, none⟩) _ rfl (Below.refl _ _) (fun _ => rfl)).mono ?_ | refine (fin.out _ (some ⟨b, off, none⟩) 0 (by omega) (Below.refl _ _) (fun h => absurd (show y = 0 by omega) h)).mono ?_
    all_goals
     rintro e w2 ⟨r, rfl, hf⟩
     go_wp2_with fail
     go_ret3
     exact ConnSaid.ok E.out (by simp) (hf.step (below_box _ _))
theorem ref_Equal (w : World) (A B : Option Addr) (a b : List UInt8) (n m c d : Nat) (hn : n = a.length) (hm : m = b.length) (hna : n ≤ 1099511627776) (hmb : m ≤ 1099511627776) (ha : Src w A (a.map byteV)) (hb : Src w B (b.map byteV)) :
  Calls Tryd.prog 33 #[.slice A n c, .slice B m d] w fun e w' => e = .returned (.bool (decide (a = b))) ∧ Below w.heap.size w w' := by
 have CM := Hh (ref_Compare w A B a b n m c d hn hm hna hmb ha hb)
 by_cases hab : a = b
 ·have D : Hid (decide (a = b) = true) := decide_eq_true hab
  have hz : Lib.compareBytes a b = 0 := (cmp_zero a b).2 hab
  have hnm : n = m := by rw [hn, hm, hab]
  rw [hz] at CM
  clear hz hab ha hb hn hm hna hmb
  subst hnm
  go_enter Tryd.func33, Tryd.ntmps33
  go_wp2_with fail
  refine CM.out.mono ?_
  rintro e w1 ⟨rfl, hb1⟩
  go_wp2_with fail
  go_ret
  exact ⟨by rw [D.out]; try rfl, hb1⟩
 ·have D : Hid (decide (a = b) = false) := decide_eq_false hab
  have hz : Lib.compareBytes a b ≠ 0 := fun h => hab ((cmp_zero a b).1 h)
  obtain ⟨q, hq⟩ : ∃ q, Lib.compareBytes a b = q := ⟨_, rfl⟩
  rw [hq] at CM hz
  have z0 : (q == 0) = false := by simpa using hz
  have z1 : (q = 0) = False := eq_false hz
  clear hz hq hab ha hb hn hm hna hmb
  go_enter Tryd.func33, Tryd.ntmps33
  go_wp2_with fail
  refine CM.out.mono ?_
  rintro e w1 ⟨rfl, hb1⟩
  go_wp2_with fail
  go_ret
  exact ⟨by rw [D.out]; try rfl, hb1⟩
def dbl (n : Nat) : Nat := if n = 0 then 0 else (1023 + n.log2) * 4503599627370496 + (n * 2 ^ (52 - n.log2) - 4503599627370496)
theorem of_int_dbl : ∀ n : Fin 1024, floatOfInt .f64 ((n.val : Nat) : Int) = dbl n.val := by decide +kernel
theorem add_dbl : ∀ n : Fin 1024, floatBits .add .f64 (dbl n.val) (dbl 1024) = some (dbl (n.val + 1024)) := by decide +kernel
theorem mul_one_f {s e m : Nat} (hs : s ≤ 1) (he : 1 ≤ e) (he2 : e ≤ 2046) (hm : m < 4503599627370496) :
  floatBits .mul .f64 4607182418800017408 (s * 9223372036854775808 + e * 4503599627370496 + m) = some (s * 9223372036854775808 + e * 4503599627370496 + m) := by
 have e1 : Ieee.double.signWeight = 9223372036854775808 := rfl
 have e2 : Ieee.double.binade = 4503599627370496 := rfl
 have e3 : Ieee.double.infRung = 9218868437227405312 := rfl
 have e4 : Ieee.double.leastPlace = -1074 := rfl
 have e5 : Ieee.double.fractionBits = 52 := rfl
 have r1 : Ieee.double.read 4607182418800017408 = .number false 4503599627370496 (-52) := by decide +kernel
 obtain ⟨x, hx⟩ : ∃ x, s * 9223372036854775808 + e * 4503599627370496 + m = x := ⟨_, rfl⟩
 have r2 : Ieee.double.read x = .number (s % 2 == 1) (4503599627370496 + m) (-1074 + ((e - 1 : Nat) : Int)) := by
  unfold Ieee.Format.read
  rw [e1, e2, e3, e4]
  have a1 : x / 9223372036854775808 = s := by omega
  have a2 : x % 9223372036854775808 = e * 4503599627370496 + m := by omega
  simp only [a1, a2]
  rw [if_neg (by omega), if_pos (by omega)]
  congr 1
  ·omega
  ·have : (e * 4503599627370496 + m) / 4503599627370496 = e := by omega
   rw [this]
 rw [hx]
 show ((Ieee.double.read 4607182418800017408).product (Ieee.double.read x)).map Ieee.double.write = some x
 rw [r1, r2]
 simp only [Ieee.Datum.product, Option.map_some, Ieee.Format.write, Bool.false_bne]
 congr 1
 obtain ⟨M, hM⟩ : ∃ M, 4503599627370496 + m = M := ⟨_, rfl⟩
 have hM1 : 4503599627370496 ≤ M := by omega
 have hM2 : M < 9007199254740992 := by omega
 have hl : (4503599627370496 * M).log2 = 104 := by
  refine log2_of ?_ ?_
  ·have : (2 : Nat) ^ 104 = 4503599627370496 * 4503599627370496 := by decide
   rw [this]; exact Nat.mul_le_mul_left _ hM1
  ·have : (2 : Nat) ^ (104 + 1) = 4503599627370496 * 9007199254740992 := by decide
   rw [this]; exact Nat.mul_lt_mul_of_pos_left hM2 (by omega)
 rw [hM]
 unfold Ieee.Format.nearest
 rw [if_neg (by intro h; rcases Nat.mul_eq_zero.1 h with h | h <;> omega), e2, e3, e4, e5, hl]
 have p1 : max (-52 + (-1074 + ((e - 1 : Nat) : Int)) + ((104 : Nat) : Int) - ((52 : Nat) : Int)) (-1074) = -1074 + ((e - 1 : Nat) : Int) := by omega
 rw [p1]
 have p2 : (-52 + (-1074 + ((e - 1 : Nat) : Int)) - (-1074 + ((e - 1 : Nat) : Int))).toNat = 0 := by omega
 have p3 : (-1074 + ((e - 1 : Nat) : Int) - (-52 + (-1074 + ((e - 1 : Nat) : Int)))).toNat = 52 := by omega
 have p4 : (-1074 + ((e - 1 : Nat) : Int) - -1074).toNat = e - 1 := by omega
 simp only [p2, p3, p4, Nat.shiftLeft_zero]
 have hq : 4503599627370496 * M = M * 2 ^ 52 := by rw [Nat.mul_comm]
 rw [hq, cut_exact _ M 52 (by rw [← hq, hl]; omega)]
 clear p1 p2 p3 p4 hl hq r1 r2 e1 e2 e3 e4 e5
 obtain ⟨r, hr⟩ : ∃ r, min ((e - 1) * 4503599627370496 + M) 9218868437227405312 = r := ⟨_, rfl⟩
 have hr' : r = (e - 1) * 4503599627370496 + M := by
  rw [← hr]
  exact Nat.min_eq_left (by omega)
 obtain ⟨k, rfl⟩ : ∃ k, e = k + 1 := ⟨e - 1, by omega⟩
 rw [hr, word_d s r hs, hr', ← hx, ← hM, Nat.add_sub_cancel, Nat.succ_mul]
 simp only [Nat.add_assoc]
end Go.Proofs.YtlebpackbfcfeaaDoor
