/- squeezed. Walks: the references' List, Copy  -/
import Derived.Test.YtlebpackbfcfeaaDoorK14
import Derived.Test.YtlebpackbfcfeaaDoorK11
import Derived.Test.YtlebpackbfcfeaaDoorK13
import Derived.Test.YtlebpackbfcfeaaDoorK10
import Derived.Test.YtlebpackbfcfeaaDoorK01
import Derived.Test.YtlebpackbfcfeaaDoorK05
import Derived.Test.YtlebpackbfcfeaaDoorK07
set_option linter.unusedVariables false
set_option linter.unusedSimpArgs false
set_option maxRecDepth 100000
set_option maxHeartbeats 1600000
namespace Go.Proofs.YtlebpackbfcfeaaDoor
open Go.RowKit
structure IsRowI (H : Snap) (A : Option Addr) (c : Nat) (l : List Itm) : Prop where
 le : l.length ≤ c
 max : c ≤ 9223372036854775807
 elems : 0 < l.length → ∃ b off, A = some ⟨b, off, none⟩ ∧ IsElems H b off l
theorem IsRowI.item {H : Snap} {A : Option Addr} {c : Nat} {l : List Itm} (h : IsRowI H A c l) (k : Int) (hk : 0 ≤ k ∧ k ≤ 8) (n : Nat) (hn : n < 18446744073709551616) : IsItem H none 0 A c (.mk k n [] l) := by
 rw [IsItem]
 exact ⟨⟨by omega, by omega, hn, h.le, h.max⟩, IsBytes.nil _, h.elems⟩
theorem ref_List {H : Snap} {A : Option Addr} {c : Nat} {l : List Itm} (hr : IsRowI H A c l) (hm : ModestL l) (hl : l.length ≤ 1099511627776) (w : World) (hH : Holds w H) :
  Calls Tryd.prog 72 #[.slice A l.length c] w fun e w' => ∃ v, e = .returned v ∧ Gives w H (.mk 4 0 [] l) v w' := by
 have hT := Blk.new w 69 #[.int .i64 0, .int .u64 0, .slice none 0 0, .slice none 0 0]
 have hG := (Grows.refl hH).alloc zeroO
 have C := Hh (ref_Copy (.mk 4 0 [] l) H 4 0 none 0 0 A l.length c _ (by rw [Modest]; exact ⟨by simp, hl, hm⟩) (hr.item 4 (by omega) 0 (by omega)).arg hG.holds)
 have hn0 : H w.heap.size = none := hH.none_of_ge (Nat.le_refl _)
 go_enter Tryd.func72, Tryd.ntmps72
 go_wp2_with fail
 refine C.out.mono ?_
 rintro e w2 ⟨v, rfl, ba, bc, ia, ic, H2, rfl, hG2, hi2⟩
 have hT2 := hT.below hG2.below
 have hGz := hG.trans hG2
 have hn2 := hG2.none hn0 hT.lt
 clear C hG hG2
 go_wp2_with (with_reducible refine stop_store ?_)
 unfold Stopped
 refine stI rfl rfl rfl rfl rfl hT2 rfl rfl rfl rfl rfl fun w3 hT3 hg3 => ?_
 have hG3 := hGz.grownOwn hn2 (Nat.le_refl _) hg3
 go_wp2_with fail
 refine ret_row rfl rfl hT3 rfl rfl size_item rfl ?_
 exact ⟨_, rfl, ba, bc, ia, ic, H2, rfl, hG3, hi2⟩
theorem cmp_zero : ∀ a b : List UInt8, Lib.compareBytes a b = 0 ↔ a = b
 | [], [] => by rw [Lib.compareBytes]; simp
 | [], y :: b => by rw [Lib.compareBytes]; simp
 | x :: a, [] => by rw [Lib.compareBytes]; simp
 | x :: a, y :: b => by
  rw [Lib.compareBytes]
  by_cases h1 : x < y
  ·rw [if_pos h1]
   have : x ≠ y := by rintro rfl; exact UInt8.lt_irrefl x h1
   simp [this]
  ·rw [if_neg h1]
   by_cases h2 : y < x
   ·rw [if_pos h2]
    have : x ≠ y := by rintro rfl; exact UInt8.lt_irrefl x h2
    simp [this]
   ·rw [if_neg h2]
    have e : x = y := UInt8.toNat_inj.1 (by rw [UInt8.lt_iff_toNat_lt] at h1 h2; omega)
    subst e
    simp [cmp_zero a b]
theorem wire_Head (m n : Int) (w : World) (hm0 : 0 ≤ m) (hm : m < 8) (h0 : 0 ≤ n) (h1 : n < 18446744073709551616) :
  Calls Tryd.prog 69 #[.int .u8 m, .int .u64 n] w fun e w' => ∃ r, e = .returned r ∧ Fresh w (headB m.toNat n.toNat) r w' := by
 obtain ⟨m', hm'⟩ := Int.eq_ofNat_of_zero_le hm0
 obtain ⟨n', hn'⟩ := Int.eq_ofNat_of_zero_le h0
 have HM := Hh hm'
 have HN := Hh hn'
 have H1 := Hh h1
 clear h1 hm' hn'
 go_enter Tryd.func69, Tryd.ntmps69
 go_wp2
 ·go_ret
  obtain rfl := HM.out
  obtain rfl := HN.out
  rw [Int.toNat_natCast, Int.toNat_natCast]
  have hlt : (n' : Int) < 24 := by with_reducible assumption
  refine ⟨_, rfl, Fresh.lit _ _ _ 1 ?_ ?_ ?_⟩
  ·rw [headB_length, if_pos (by omega)]
  ·have := (headB_le m' n').2; omega
  ·rw [headB, if_pos (by omega)]
   simp only [List.map_cons, List.map_nil, byteV_u8]
   rw [u8_head m' n' (by omega) (by omega), Nat.mod_eq_of_lt (by omega)]
 ·go_ret
  obtain rfl := HM.out
  obtain rfl := HN.out
  rw [Int.toNat_natCast, Int.toNat_natCast]
  have hge : (24 : Int) ≤ n' := by with_reducible assumption
  have hlt : (n' : Int) < 256 := by with_reducible assumption
  refine ⟨_, rfl, Fresh.lit _ _ _ 2 ?_ ?_ ?_⟩
  ·rw [headB_length, if_neg (by omega), if_pos (by omega)]
  ·have := (headB_le m' n').2; omega
  ·rw [headB, if_neg (by omega), if_pos (by omega)]
   simp only [List.map_cons, List.map_nil, byteV_u8]
   have e24' := u8_head m' 24 (by omega) (by omega)
   rw [show ((24 : Nat) : Int) = 24 from rfl] at e24'
   rw [e24', Nat.mod_eq_of_lt (by omega), Nat.mod_eq_of_lt (by omega)]
 ·go_ret
  obtain rfl := HM.out
  obtain rfl := HN.out
  rw [Int.toNat_natCast, Int.toNat_natCast]
  have hge : (256 : Int) ≤ n' := by with_reducible assumption
  have hlt : (n' : Int) < 65536 := by with_reducible assumption
  refine ⟨_, rfl, Fresh.lit _ _ _ 3 ?_ ?_ ?_⟩
  ·rw [headB_length, if_neg (by omega), if_neg (by omega), if_pos (by omega)]
  ·have := (headB_le m' n').2; omega
  ·rw [headB, if_neg (by omega), if_neg (by omega), if_pos (by omega)]
   simp only [List.map_cons, List.map_nil, byteV_u8]
   have e24' := u8_head m' 25 (by omega) (by omega)
   rw [show ((25 : Nat) : Int) = 25 from rfl] at e24'
   rw [e24', Nat.mod_eq_of_lt (show m' * 32 + 25 < 256 by omega), Nat.mod_eq_of_lt (show n' / 256 < 256 by omega)]
   rfl
 ·go_ret
  obtain rfl := HM.out
  obtain rfl := HN.out
  rw [Int.toNat_natCast, Int.toNat_natCast]
  have hge : (65536 : Int) ≤ n' := by with_reducible assumption
  have hlt : (n' : Int) < 4294967296 := by with_reducible assumption
  refine ⟨_, rfl, Fresh.lit _ _ _ 5 ?_ ?_ ?_⟩
  ·rw [headB_length, if_neg (by omega), if_neg (by omega), if_neg (by omega), if_pos (by omega)]
  ·have := (headB_le m' n').2; omega
  ·rw [headB, if_neg (by omega), if_neg (by omega), if_neg (by omega), if_pos (by omega)]
   simp only [List.map_cons, List.map_nil, byteV_u8]
   have e24' := u8_head m' 26 (by omega) (by omega)
   rw [show ((26 : Nat) : Int) = 26 from rfl] at e24'
   rw [e24', Nat.mod_eq_of_lt (show m' * 32 + 26 < 256 by omega), Nat.mod_eq_of_lt (show n' / 16777216 < 256 by omega)]
   rfl
 ·go_ret
  obtain rfl := HM.out
  obtain rfl := HN.out
  rw [Int.toNat_natCast, Int.toNat_natCast]
  have hge : (4294967296 : Int) ≤ n' := by with_reducible assumption
  have hH1 := H1.out
  refine ⟨_, rfl, Fresh.lit _ _ _ 9 ?_ ?_ ?_⟩
  ·rw [headB_length, if_neg (by omega), if_neg (by omega), if_neg (by omega), if_neg (by omega)]
  ·have := (headB_le m' n').2; omega
  ·rw [headB, if_neg (by omega), if_neg (by omega), if_neg (by omega), if_neg (by omega)]
   simp only [List.map_cons, List.map_nil, byteV_u8, be8, Nat.reduceMul, Nat.reduceSub, Nat.reducePow, List.nil_append, List.cons_append]
   have e27' := u8_head m' 27 (by omega) (by omega)
   rw [show ((27 : Nat) : Int) = 27 from rfl] at e27'
   rw [e27', Nat.mod_eq_of_lt (show m' * 32 + 27 < 256 by omega), Nat.div_one]
   rfl
def SrcR (w : World) (A : Option Addr) (ls : List (List UInt8)) : Prop := 0 < ls.length → ∃ b off, A = some ⟨b, off, none⟩ ∧ ∀ j (hj : j < ls.length), ∃ Aj cj, w.cell? ⟨b, off + j, none⟩ = some (.slice Aj ls[j].length cj) ∧ Src w Aj (ls[j].map byteV)
theorem flatten_drop (ls : List (List UInt8)) (k : Nat) (hk : k < ls.length) : (ls.drop k).flatten = ls[k] ++ (ls.drop (k + 1)).flatten := by
 rw [List.drop_eq_getElem_cons hk, List.flatten_cons]
theorem shortB_iff (x : UInt8) : shortB x = true ↔ x.toNat < 24 ∨ (32 ≤ x.toNat ∧ x.toNat < 56) := by simp [shortB]
theorem wire_Int (n : Int) (h1 : -9223372036854775808 ≤ n) (h2 : n ≤ 9223372036854775807) (w : World) :
  Calls Tryd.prog 44 #[.int .i64 n] w fun e w' => ∃ r, e = .returned r ∧ Fresh w (intB n) r w' := by
 by_cases h0 : n < 0
 ·have HD := Hh (fun w => wire_Head 1 (-1 - n) w (by omega) (by omega) (by omega) (by omega))
  have K1 : IntKind.u64.wrap (-1 - n) = -1 - n := by rw [IntKind.wrap_u64]; omega
  have K0 : IntKind.i64.wrap (-1 - n) = -1 - n := IntWalk.i64_in _ (by omega)
  have E : Hid (intB n = headB 1 (-1 - n).toNat) := by rw [Hid, intB, if_pos h0]
  clear h1 h2
  go_enter Tryd.func44, Tryd.ntmps44
  go_wp2_with fail
  refine (HD.out _).mono ?_
  rintro e w1 ⟨r, rfl, hf⟩
  go_wp2_with fail
  go_ret
  exact ⟨_, rfl, by rw [E.out]; exact hf⟩
 ·have hn := Int.not_lt.1 h0
  have HD := Hh (fun w => wire_Head 0 n w (by omega) (by omega) (by omega) (by omega))
  have K1 : IntKind.u64.wrap n = n := by rw [IntKind.wrap_u64]; omega
  have E : Hid (intB n = headB 0 n.toNat) := by rw [Hid, intB, if_neg h0]
  clear h1 h2
  go_enter Tryd.func44, Tryd.ntmps44
  go_wp2_with fail
  refine (HD.out _).mono ?_
  rintro e w1 ⟨r, rfl, hf⟩
  go_wp2_with fail
  go_ret
  exact ⟨_, rfl, by rw [E.out]; exact hf⟩
theorem wire_Str {A : Option Addr} {n c : Nat} {l : List UInt8} (hn : n = l.length) (hl : l.length ≤ 1099511627000) (w : World) (hs : Src w A (l.map byteV)) :
  Calls Tryd.prog 45 #[.slice A n c] w fun e w' => ∃ r, e = .returned r ∧ Fresh w (strB l) r w' := by
 have HD := Hh (fun w => wire_Head 2 (n : Int) w (by omega) (by omega) (by omega) (by omega))
 have K1 : IntKind.u64.wrap (n : Int) = (n : Int) := by rw [IntKind.wrap_u64]; omega
 have HN := Hh (And.intro hn hl)
 clear hn hl
 go_enter Tryd.func45, Tryd.ntmps45
 go_wp2_with fail
 refine (HD.out _).mono ?_
 rintro e w1 ⟨r, rfl, hf⟩
 have hO1 := hf.own
 obtain ⟨RA, rc, rfl, _⟩ := hO1.form
 have hs1 := hs.below hf.2
 have HF := Hh hf.2
 have HL : Hid ((headB (2 : Int).toNat (n : Int).toNat).length + l.length ≤ 1099511627776) := by
  have := (headB_le (2 : Int).toNat (n : Int).toNat).2
  have := HN.out.2
  rw [Hid]; omega
 clear hf
 go_wp2_with (at_builtin; refine stop_in ?_)
 unfold Stopped
 refine wpList_app_bytes rfl (.tmp 6) (.tmp 7) rfl w.heap.size _ _ rfl hO1 A _ c l rfl HN.out.1 hs1 (by have := (headB_le (2 : Int).toNat (n : Int).toNat).2; have := HN.out.2; omega) HF.out.size fun v' w2 hO2 hg2 _ => ?_
 have hb2 := HF.out.grown hg2 HF.out.size (fun q hq => (hO1.lt q hq).1)
 have E : Hid (headB (2 : Int).toNat (n : Int).toNat ++ l = strB l) := by
  rw [Hid, strB, HN.out.1]; rfl
 rw [E.out] at hO2
 clear hO1 hs1 hs hg2
 go_wp2_with fail
 go_ret
 exact ⟨_, rfl, hO2, hb2⟩
theorem ref_Str {A : Option Addr} {n c : Nat} {l : List UInt8} (hn : n = l.length) (hl : l.length ≤ 1099511627000) (w : World) (hs : Src w A (l.map byteV)) :
  Calls Tryd.prog 37 #[.slice A n c] w fun e w' => ∃ r, e = .returned r ∧ Fresh w (strB l) r w' := by
 have HD := Hh (fun w => ref_Head 2 (n : Int) w (by omega) (by omega) (by omega) (by omega))
 have K1 : IntKind.u64.wrap (n : Int) = (n : Int) := by rw [IntKind.wrap_u64]; omega
 have HN := Hh (And.intro hn hl)
 clear hn hl
 go_enter Tryd.func37, Tryd.ntmps37
 go_wp2_with fail
 refine (HD.out _).mono ?_
 rintro e w1 ⟨r, rfl, hf⟩
 have hO1 := hf.own
 obtain ⟨RA, rc, rfl, _⟩ := hO1.form
 have hs1 := hs.below hf.2
 have HF := Hh hf.2
 have HL : Hid ((headB (2 : Int).toNat (n : Int).toNat).length + l.length ≤ 1099511627776) := by
  have := (headB_le (2 : Int).toNat (n : Int).toNat).2
  have := HN.out.2
  rw [Hid]; omega
 clear hf
 go_wp2_with (at_builtin; refine stop_in ?_)
 unfold Stopped
 refine wpList_app_bytes rfl (.tmp 6) (.tmp 7) rfl w.heap.size _ _ rfl hO1 A _ c l rfl HN.out.1 hs1 (by have := (headB_le (2 : Int).toNat (n : Int).toNat).2; have := HN.out.2; omega) HF.out.size fun v' w2 hO2 hg2 _ => ?_
 have hb2 := HF.out.grown hg2 HF.out.size (fun q hq => (hO1.lt q hq).1)
 have E : Hid (headB (2 : Int).toNat (n : Int).toNat ++ l = strB l) := by
  rw [Hid, strB, HN.out.1]; rfl
 rw [E.out] at hO2
 clear hO1 hs1 hs hg2
 go_wp2_with fail
 go_ret
 exact ⟨_, rfl, hO2, hb2⟩
theorem trans_short (x : UInt8) (w : World) : Calls Tryd.prog 70 #[.int .u8 (x.toNat : Int)] w fun e w' => e = .returned (.bool (shortB x)) ∧ w' = w := by
 by_cases h1 : x.toNat < 24
 ·have z1 : (x.toNat : Int) < 24 := by omega
  have E : Hid (shortB x = true) := (shortB_iff x).2 (.inl h1)
  go_enter Tryd.func70, Tryd.ntmps70
  go_wp2_with fail
  go_ret
  exact ⟨by rw [E.out]; try rfl, rfl⟩
 have z1 : ¬ (x.toNat : Int) < 24 := by omega
 by_cases h2 : 32 ≤ x.toNat
 ·have z2 : (32 : Int) ≤ (x.toNat : Int) := by omega
  by_cases h3 : x.toNat < 56
  ·have z3 : (x.toNat : Int) < 56 := by omega
   have E : Hid (shortB x = true) := (shortB_iff x).2 (.inr ⟨h2, h3⟩)
   go_enter Tryd.func70, Tryd.ntmps70
   go_wp2_with fail
   go_ret
   exact ⟨by rw [E.out]; try rfl, rfl⟩
  ·have z3 : ¬ (x.toNat : Int) < 56 := by omega
   have E : Hid (shortB x = false) := by rw [Hid, Bool.eq_false_iff, ne_eq, shortB_iff]; omega
   go_enter Tryd.func70, Tryd.ntmps70
   go_wp2_with fail
   go_ret
   exact ⟨by rw [E.out]; try rfl, rfl⟩
 ·have z2 : ¬ (32 : Int) ≤ (x.toNat : Int) := by omega
  have E : Hid (shortB x = false) := by rw [Hid, Bool.eq_false_iff, ne_eq, shortB_iff]; omega
  go_enter Tryd.func70, Tryd.ntmps70
  go_wp2_with fail
  go_ret
  exact ⟨by rw [E.out]; try rfl, rfl⟩
theorem ref_Single (x : UInt8) (w : World) : Calls Tryd.prog 73 #[.int .u8 (x.toNat : Int)] w fun e w' => e = .returned (.bool (shortB x)) ∧ w' = w := by
 by_cases h1 : x.toNat < 24
 ·have z1 : (x.toNat : Int) < 24 := by omega
  have E : Hid (shortB x = true) := (shortB_iff x).2 (.inl h1)
  go_enter Tryd.func73, Tryd.ntmps73
  go_wp2_with fail
  go_ret
  exact ⟨by rw [E.out]; try rfl, rfl⟩
 have z1 : ¬ (x.toNat : Int) < 24 := by omega
 by_cases h2 : 32 ≤ x.toNat
 ·have z2 : (32 : Int) ≤ (x.toNat : Int) := by omega
  by_cases h3 : x.toNat < 56
  ·have z3 : (x.toNat : Int) < 56 := by omega
   have E : Hid (shortB x = true) := (shortB_iff x).2 (.inr ⟨h2, h3⟩)
   go_enter Tryd.func73, Tryd.ntmps73
   go_wp2_with fail
   go_ret
   exact ⟨by rw [E.out]; try rfl, rfl⟩
  ·have z3 : ¬ (x.toNat : Int) < 56 := by omega
   have E : Hid (shortB x = false) := by rw [Hid, Bool.eq_false_iff, ne_eq, shortB_iff]; omega
   go_enter Tryd.func73, Tryd.ntmps73
   go_wp2_with fail
   go_ret
   exact ⟨by rw [E.out]; try rfl, rfl⟩
 ·have z2 : ¬ (32 : Int) ≤ (x.toNat : Int) := by omega
  have E : Hid (shortB x = false) := by rw [Hid, Bool.eq_false_iff, ne_eq, shortB_iff]; omega
  go_enter Tryd.func73, Tryd.ntmps73
  go_wp2_with fail
  go_ret
  exact ⟨by rw [E.out]; try rfl, rfl⟩
theorem ref_Join {A : Option Addr} {n c : Nat} {ls : List (List UInt8)} (hn : n = ls.length) (hl : ls.length ≤ 1099511627000) (ht : ls.flatten.length ≤ 1099511627000) (w : World) (hs : SrcR w A ls) :
  Calls Tryd.prog 52 #[.slice A n c] w fun e w' => ∃ r, e = .returned r ∧ Fresh w (ls.flatten) r w' := by
 have HN := Hh (And.intro hn (And.intro hl ht))
 clear hn hl ht
 go_enter Tryd.func52, Tryd.ntmps52
 have hO1 := OwnB.nil w w.heap.size
 have hb1 := Below.refl w.heap.size w
 go_wp2_with fail
 go_loopw [3, 5, 8] (fun v1 v5 v2 wr => ∃ (k : Nat) (VA : Option Addr) (vc vn : Nat) (l : List UInt8), k ≤ ls.length ∧ v2 = .int .i64 (k : Int) ∧ v1 = .slice VA vn vc ∧ OwnB wr w.heap.size (.slice VA vn vc) l ∧ vn = l.length ∧ (ls.flatten = l ++ (ls.drop k).flatten) ∧ Below w.heap.size w wr) (fun _ _ v2 _ => ls.length - (intOf v2).toNat)
 case atStart => exact ⟨0, _, _, _, _, Nat.zero_le _, rfl, rfl, hO1, rfl, by simp, hb1⟩
 case round =>
  clear hO1 hb1
  obtain ⟨k, VA, vc, vn, l, hkl, rfl, rfl, hOr, hvn, hel, hbr⟩ := hrel
  have HV := Hh hvn
  have HE := Hh hel
  clear hvn hel
  by_cases hlt : k < ls.length
  ·obtain ⟨ib, io, rfl, hr⟩ := hs (by omega)
   have hltz : (k : Int) < (n : Int) := by have := HN.out.1; omega
   obtain ⟨Aj, cj, c0, hsj⟩ := hr k hlt
   have q0 := (hbr.cell (World.block_lt_of_cell? w _ c0)).trans c0
   have hsr := hsj.below hbr
   have hk1 : (k : Int) + 1 ≤ 9223372036854775807 := by have := HN.out.2.1; omega
   have HT : Hid (l.length + ls[k].length ≤ 1099511627776) := by
    have h1 := congrArg List.length HE.out
    rw [flatten_drop ls k hlt] at h1
    simp only [List.length_append] at h1
    have := HN.out.2.2
    skip
    rw [Hid]; omega
   have HF : Hid (ls.flatten = (l ++ ls[k]) ++ (ls.drop (k + 1)).flatten) := by rw [Hid, HE.out, flatten_drop ls k hlt, List.append_assoc]
   clear hr c0 hsj
   go_wp2_with (at_builtin; refine stop_in ?_)
   unfold Stopped
   obtain rfl := HV.out
   refine wpList_app_bytes rfl (.tmp 12) (.tmp 13) rfl w.heap.size _ _ rfl hOr Aj _ cj ls[k] rfl rfl hsr HT.out hbr.size fun v' w7 hO7 hg7 hat7 => ?_
   obtain ⟨VA', vc', rfl, _⟩ := hO7.form
   have hO7' : OwnB w7 w.heap.size (.slice VA' (l.length + ls[k].length) vc') (l ++ ls[k]) := by rw [← List.length_append]; exact hO7
   have hb7 := hbr.grown hg7 hbr.size (fun q hq => (hOr.lt q hq).1)
   clear hOr hg7 hat7 hbr q0 hsr hO7
   go_wp2_with fail
   go_roundw
   case rel => exact ⟨k + 1, VA', vc', _, _, by omega, by go_num, rfl, hO7', by rw [List.length_append], HF.out, hb7⟩
   case measure => simp [intOf]; omega
  ·have hkk : k = ls.length := by omega
   subst hkk
   have hltz : ¬ ((ls.length : Int) < (n : Int)) := by have := HN.out.1; omega
   have HZ : Hid (ls.flatten = l) := by rw [Hid, HE.out, List.drop_length]; simp
   go_wp2_with fail
   go_ret
   obtain rfl := HV.out
   exact ⟨_, rfl, by rw [HZ.out]; exact ⟨hOr, hbr⟩⟩
theorem wire_Array {A : Option Addr} {n c : Nat} {ls : List (List UInt8)} (hn : n = ls.length) (hl : ls.length ≤ 1099511627000) (ht : ls.flatten.length ≤ 1099511627000) (w : World) (hs : SrcR w A ls) :
  Calls Tryd.prog 48 #[.slice A n c] w fun e w' => ∃ r, e = .returned r ∧ Fresh w (headB 4 ls.length ++ ls.flatten) r w' := by
 have HD := Hh (fun w => wire_Head 4 (n : Int) w (by omega) (by omega) (by omega) (by omega))
 have K1 : IntKind.u64.wrap (n : Int) = (n : Int) := by rw [IntKind.wrap_u64]; omega
 have HN := Hh (And.intro hn (And.intro hl ht))
 clear hn hl ht
 go_enter Tryd.func48, Tryd.ntmps48
 go_wp2_with fail
 refine (HD.out _).mono ?_
 rintro e w1 ⟨r, rfl, hf⟩
 have hO1 := hf.own
 obtain ⟨RA, rc, rfl, _⟩ := hO1.form
 have hb1 := hf.2
 have E0 : Hid (headB (4 : Int).toNat (n : Int).toNat = headB 4 ls.length) := by rw [Hid, HN.out.1]; rfl
 have hO1' : OwnB w1 w.heap.size (.slice RA (headB (4 : Int).toNat (n : Int).toNat).length rc) (headB 4 ls.length) := by rw [← E0.out]; exact hO1
 have E1 : Hid ((headB (4 : Int).toNat (n : Int).toNat).length = (headB 4 ls.length).length) := by rw [Hid, E0.out]
 obtain ⟨hn4, hhn4⟩ : ∃ hn4, (headB (4 : Int).toNat (n : Int).toNat).length = hn4 := ⟨_, rfl⟩
 rw [hhn4] at hO1' E1 ⊢
 clear hf hO1 hhn4
 go_wp2_with fail
 go_loopw [3, 5, 12] (fun v1 v5 v2 wr => ∃ (k : Nat) (VA : Option Addr) (vc vn : Nat) (l : List UInt8), k ≤ ls.length ∧ v2 = .int .i64 (k : Int) ∧ v1 = .slice VA vn vc ∧ OwnB wr w.heap.size (.slice VA vn vc) l ∧ vn = l.length ∧ (headB 4 ls.length ++ ls.flatten = l ++ (ls.drop k).flatten) ∧ Below w.heap.size w wr) (fun _ _ v2 _ => ls.length - (intOf v2).toNat)
 case atStart => exact ⟨0, _, _, _, _, Nat.zero_le _, rfl, rfl, hO1', E1.out, by simp, hb1⟩
 case round =>
  clear hO1' hb1
  obtain ⟨k, VA, vc, vn, l, hkl, rfl, rfl, hOr, hvn, hel, hbr⟩ := hrel
  have HV := Hh hvn
  have HE := Hh hel
  clear hvn hel
  by_cases hlt : k < ls.length
  ·obtain ⟨ib, io, rfl, hr⟩ := hs (by omega)
   have hltz : (k : Int) < (n : Int) := by have := HN.out.1; omega
   obtain ⟨Aj, cj, c0, hsj⟩ := hr k hlt
   have q0 := (hbr.cell (World.block_lt_of_cell? w _ c0)).trans c0
   have hsr := hsj.below hbr
   have hk1 : (k : Int) + 1 ≤ 9223372036854775807 := by have := HN.out.2.1; omega
   have HT : Hid (l.length + ls[k].length ≤ 1099511627776) := by
    have h1 := congrArg List.length HE.out
    rw [flatten_drop ls k hlt] at h1
    simp only [List.length_append] at h1
    have := HN.out.2.2
    have := (headB_le 4 ls.length).2
    rw [Hid]; omega
   have HF : Hid (headB 4 ls.length ++ ls.flatten = (l ++ ls[k]) ++ (ls.drop (k + 1)).flatten) := by rw [Hid, HE.out, flatten_drop ls k hlt, List.append_assoc]
   clear hr c0 hsj
   go_wp2_with (at_builtin; refine stop_in ?_)
   unfold Stopped
   obtain rfl := HV.out
   refine wpList_app_bytes rfl (.tmp 16) (.tmp 17) rfl w.heap.size _ _ rfl hOr Aj _ cj ls[k] rfl rfl hsr HT.out hbr.size fun v' w7 hO7 hg7 hat7 => ?_
   obtain ⟨VA', vc', rfl, _⟩ := hO7.form
   have hO7' : OwnB w7 w.heap.size (.slice VA' (l.length + ls[k].length) vc') (l ++ ls[k]) := by rw [← List.length_append]; exact hO7
   have hb7 := hbr.grown hg7 hbr.size (fun q hq => (hOr.lt q hq).1)
   clear hOr hg7 hat7 hbr q0 hsr hO7
   go_wp2_with fail
   go_roundw
   case rel => exact ⟨k + 1, VA', vc', _, _, by omega, by go_num, rfl, hO7', by rw [List.length_append], HF.out, hb7⟩
   case measure => simp [intOf]; omega
  ·have hkk : k = ls.length := by omega
   subst hkk
   have hltz : ¬ ((ls.length : Int) < (n : Int)) := by have := HN.out.1; omega
   have HZ : Hid (headB 4 ls.length ++ ls.flatten = l) := by rw [Hid, HE.out, List.drop_length]; simp
   go_wp2_with fail
   go_ret
   obtain rfl := HV.out
   exact ⟨_, rfl, by rw [HZ.out]; exact ⟨hOr, hbr⟩⟩
theorem trans_join {A : Option Addr} {n c : Nat} {ls : List (List UInt8)} (hn : n = ls.length) (hl : ls.length ≤ 1099511627000) (ht : ls.flatten.length ≤ 1099511627000) (w : World) (hs : SrcR w A ls) :
  Calls Tryd.prog 83 #[.slice A n c] w fun e w' => ∃ r, e = .returned r ∧ Fresh w (ls.flatten) r w' := by
 have HN := Hh (And.intro hn (And.intro hl ht))
 clear hn hl ht
 go_enter Tryd.func83, Tryd.ntmps83
 have hO1 := OwnB.nil w w.heap.size
 have hb1 := Below.refl w.heap.size w
 go_wp2_with fail
 go_loopw [3, 5, 8] (fun v1 v5 v2 wr => ∃ (k : Nat) (VA : Option Addr) (vc vn : Nat) (l : List UInt8), k ≤ ls.length ∧ v2 = .int .i64 (k : Int) ∧ v1 = .slice VA vn vc ∧ OwnB wr w.heap.size (.slice VA vn vc) l ∧ vn = l.length ∧ (ls.flatten = l ++ (ls.drop k).flatten) ∧ Below w.heap.size w wr) (fun _ _ v2 _ => ls.length - (intOf v2).toNat)
 case atStart => exact ⟨0, _, _, _, _, Nat.zero_le _, rfl, rfl, hO1, rfl, by simp, hb1⟩
 case round =>
  clear hO1 hb1
  obtain ⟨k, VA, vc, vn, l, hkl, rfl, rfl, hOr, hvn, hel, hbr⟩ := hrel
  have HV := Hh hvn
  have HE := Hh hel
  clear hvn hel
  by_cases hlt : k < ls.length
  ·obtain ⟨ib, io, rfl, hr⟩ := hs (by omega)
   have hltz : (k : Int) < (n : Int) := by have := HN.out.1; omega
   obtain ⟨Aj, cj, c0, hsj⟩ := hr k hlt
   have q0 := (hbr.cell (World.block_lt_of_cell? w _ c0)).trans c0
   have hsr := hsj.below hbr
   have hk1 : (k : Int) + 1 ≤ 9223372036854775807 := by have := HN.out.2.1; omega
   have HT : Hid (l.length + ls[k].length ≤ 1099511627776) := by
    have h1 := congrArg List.length HE.out
    rw [flatten_drop ls k hlt] at h1
    simp only [List.length_append] at h1
    have := HN.out.2.2
    skip
    rw [Hid]; omega
   have HF : Hid (ls.flatten = (l ++ ls[k]) ++ (ls.drop (k + 1)).flatten) := by rw [Hid, HE.out, flatten_drop ls k hlt, List.append_assoc]
   clear hr c0 hsj
   go_wp2_with (at_builtin; refine stop_in ?_)
   unfold Stopped
   obtain rfl := HV.out
   refine wpList_app_bytes rfl (.tmp 12) (.tmp 13) rfl w.heap.size _ _ rfl hOr Aj _ cj ls[k] rfl rfl hsr HT.out hbr.size fun v' w7 hO7 hg7 hat7 => ?_
   obtain ⟨VA', vc', rfl, _⟩ := hO7.form
   have hO7' : OwnB w7 w.heap.size (.slice VA' (l.length + ls[k].length) vc') (l ++ ls[k]) := by rw [← List.length_append]; exact hO7
   have hb7 := hbr.grown hg7 hbr.size (fun q hq => (hOr.lt q hq).1)
   clear hOr hg7 hat7 hbr q0 hsr hO7
   go_wp2_with fail
   go_roundw
   case rel => exact ⟨k + 1, VA', vc', _, _, by omega, by go_num, rfl, hO7', by rw [List.length_append], HF.out, hb7⟩
   case measure => simp [intOf]; omega
  ·have hkk : k = ls.length := by omega
   subst hkk
   have hltz : ¬ ((ls.length : Int) < (n : Int)) := by have := HN.out.1; omega
   have HZ : Hid (ls.flatten = l) := by rw [Hid, HE.out, List.drop_length]; simp
   go_wp2_with fail
   go_ret
   obtain rfl := HV.out
   exact ⟨_, rfl, by rw [HZ.out]; exact ⟨hOr, hbr⟩⟩
end Go.Proofs.YtlebpackbfcfeaaDoor
