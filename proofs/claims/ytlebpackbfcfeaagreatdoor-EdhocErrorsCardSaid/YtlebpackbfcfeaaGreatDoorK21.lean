/- squeezed. Walks: the written forms of number -/
import Derived.Test.YtlebpackbfcfeaaGreatDoorK20
import Derived.Test.YtlebpackbfcfeaaGreatDoorK07
import Derived.Test.YtlebpackbfcfeaaGreatDoorK02
import Derived.Test.YtlebpackbfcfeaaGreatDoorK03
import Derived.Test.YtlebpackbfcfeaaGreatDoorK14
import Derived.OwnWalk
import Derived.Test.YtlebpackbfcfeaaGreatDoorK08
set_option linter.unusedVariables false
set_option linter.unusedSimpArgs false
set_option maxRecDepth 100000
set_option maxHeartbeats 3200000
namespace Go.Proofs.YtlebpackbfcfeaaGreatDoor
open Go.RowKit
theorem wire_Head (m n : Int) (w : World) (hm0 : 0 ≤ m) (hm : m < 8) (h0 : 0 ≤ n) (h1 : n < 18446744073709551616) :
  Calls Tryz.prog 56 #[.int .u8 m, .int .u64 n] w fun e w' => ∃ r, e = .returned r ∧ Fresh w (headB m.toNat n.toNat) r w' := by
 obtain ⟨m', hm'⟩ := Int.eq_ofNat_of_zero_le hm0;obtain ⟨n', hn'⟩ := Int.eq_ofNat_of_zero_le h0;have HM := Hh hm';have HN := Hh hn';have H1 := Hh h1;clear h1 hm' hn';go_enter Tryz.func56, Tryz.ntmps56
 go_wp2
 ·go_ret
  obtain rfl := HM.out;obtain rfl := HN.out;rw [Int.toNat_natCast, Int.toNat_natCast];have hlt : (n' : Int) < 24 := by with_reducible assumption
  refine ⟨_, rfl, Fresh.lit _ _ _ 1 ?_ ?_ ?_⟩
  ·rw [headB_length, if_pos (by omega)]
  ·have := (headB_le m' n').2; omega
  ·rw [headB, if_pos (by omega)]
   simp only [List.map_cons, List.map_nil, byteV_u8]
   rw [u8_head m' n' (by omega) (by omega), Nat.mod_eq_of_lt (by omega)]
 ·go_ret
  obtain rfl := HM.out;obtain rfl := HN.out;rw [Int.toNat_natCast, Int.toNat_natCast];have hge : (24 : Int) ≤ n' := by with_reducible assumption
  have hlt : (n' : Int) < 256 := by with_reducible assumption
  refine ⟨_, rfl, Fresh.lit _ _ _ 2 ?_ ?_ ?_⟩
  ·rw [headB_length, if_neg (by omega), if_pos (by omega)]
  ·have := (headB_le m' n').2; omega
  ·rw [headB, if_neg (by omega), if_pos (by omega)]
   simp only [List.map_cons, List.map_nil, byteV_u8]
   have e24' := u8_head m' 24 (by omega) (by omega);rw [show ((24 : Nat) : Int) = 24 from rfl] at e24';rw [e24', Nat.mod_eq_of_lt (by omega), Nat.mod_eq_of_lt (by omega)]
 ·go_ret
  obtain rfl := HM.out;obtain rfl := HN.out;rw [Int.toNat_natCast, Int.toNat_natCast];have hge : (256 : Int) ≤ n' := by with_reducible assumption
  have hlt : (n' : Int) < 65536 := by with_reducible assumption
  refine ⟨_, rfl, Fresh.lit _ _ _ 3 ?_ ?_ ?_⟩
  ·rw [headB_length, if_neg (by omega), if_neg (by omega), if_pos (by omega)]
  ·have := (headB_le m' n').2; omega
  ·rw [headB, if_neg (by omega), if_neg (by omega), if_pos (by omega)]
   simp only [List.map_cons, List.map_nil, byteV_u8]
   have e24' := u8_head m' 25 (by omega) (by omega);rw [show ((25 : Nat) : Int) = 25 from rfl] at e24';rw [e24', Nat.mod_eq_of_lt (show m' * 32 + 25 < 256 by omega), Nat.mod_eq_of_lt (show n' / 256 < 256 by omega)];rfl
 ·go_ret
  obtain rfl := HM.out;obtain rfl := HN.out;rw [Int.toNat_natCast, Int.toNat_natCast];have hge : (65536 : Int) ≤ n' := by with_reducible assumption
  have hlt : (n' : Int) < 4294967296 := by with_reducible assumption
  refine ⟨_, rfl, Fresh.lit _ _ _ 5 ?_ ?_ ?_⟩
  ·rw [headB_length, if_neg (by omega), if_neg (by omega), if_neg (by omega), if_pos (by omega)]
  ·have := (headB_le m' n').2; omega
  ·rw [headB, if_neg (by omega), if_neg (by omega), if_neg (by omega), if_pos (by omega)]
   simp only [List.map_cons, List.map_nil, byteV_u8]
   have e24' := u8_head m' 26 (by omega) (by omega);rw [show ((26 : Nat) : Int) = 26 from rfl] at e24';rw [e24', Nat.mod_eq_of_lt (show m' * 32 + 26 < 256 by omega), Nat.mod_eq_of_lt (show n' / 16777216 < 256 by omega)];rfl
 ·go_ret
  obtain rfl := HM.out;obtain rfl := HN.out;rw [Int.toNat_natCast, Int.toNat_natCast];have hge : (4294967296 : Int) ≤ n' := by with_reducible assumption
  have hH1 := H1.out
  refine ⟨_, rfl, Fresh.lit _ _ _ 9 ?_ ?_ ?_⟩
  ·rw [headB_length, if_neg (by omega), if_neg (by omega), if_neg (by omega), if_neg (by omega)]
  ·have := (headB_le m' n').2; omega
  ·rw [headB, if_neg (by omega), if_neg (by omega), if_neg (by omega), if_neg (by omega)]
   simp only [List.map_cons, List.map_nil, byteV_u8, be8, Nat.reduceMul, Nat.reduceSub, Nat.reducePow, List.nil_append, List.cons_append]
   have e27' := u8_head m' 27 (by omega) (by omega);rw [show ((27 : Nat) : Int) = 27 from rfl] at e27';rw [e27', Nat.mod_eq_of_lt (show m' * 32 + 27 < 256 by omega), Nat.div_one];rfl
def SrcR (w : World) (A : Option Addr) (ls : List (List UInt8)) : Prop := 0 < ls.length → ∃ b off, A = some ⟨b, off, none⟩ ∧ ∀ j (hj : j < ls.length), ∃ Aj cj, w.cell? ⟨b, off + j, none⟩ = some (.slice Aj ls[j].length cj) ∧ Src w Aj (ls[j].map byteV)
theorem flatten_drop (ls : List (List UInt8)) (k : Nat) (hk : k < ls.length) : (ls.drop k).flatten = ls[k] ++ (ls.drop (k + 1)).flatten := by
 rw [List.drop_eq_getElem_cons hk, List.flatten_cons]
theorem shortB_iff (x : UInt8) : shortB x = true ↔ x.toNat < 24 ∨ (32 ≤ x.toNat ∧ x.toNat < 56) := by simp [shortB]
theorem wire_Int (n : Int) (h1 : -9223372036854775808 ≤ n) (h2 : n ≤ 9223372036854775807) (w : World) :
  Calls Tryz.prog 29 #[.int .i64 n] w fun e w' => ∃ r, e = .returned r ∧ Fresh w (intB n) r w' := by
 by_cases h0 : n < 0
 ·have HD := Hh (fun w => wire_Head 1 (-1 - n) w (by omega) (by omega) (by omega) (by omega));have K1 : IntKind.u64.wrap (-1 - n) = -1 - n := by rw [IntKind.wrap_u64]; omega
  have K0 : IntKind.i64.wrap (-1 - n) = -1 - n := IntWalk.i64_in _ (by omega);have E : Hid (intB n = headB 1 (-1 - n).toNat) := by rw [Hid, intB, if_pos h0]
  clear h1 h2;go_enter Tryz.func29, Tryz.ntmps29
  go_wp2_with fail
  refine (HD.out _).mono ?_
  rintro e w1 ⟨r, rfl, hf⟩
  go_wp2_with fail
  go_ret
  exact ⟨_, rfl, by rw [E.out]; exact hf⟩
 ·have hn := Int.not_lt.1 h0;have HD := Hh (fun w => wire_Head 0 n w (by omega) (by omega) (by omega) (by omega));have K1 : IntKind.u64.wrap n = n := by rw [IntKind.wrap_u64]; omega
  have E : Hid (intB n = headB 0 n.toNat) := by rw [Hid, intB, if_neg h0]
  clear h1 h2;go_enter Tryz.func29, Tryz.ntmps29
  go_wp2_with fail
  refine (HD.out _).mono ?_
  rintro e w1 ⟨r, rfl, hf⟩
  go_wp2_with fail
  go_ret
  exact ⟨_, rfl, by rw [E.out]; exact hf⟩
theorem wire_Str {A : Option Addr} {n c : Nat} {l : List UInt8} (hn : n = l.length) (hl : l.length ≤ 1099511627000) (w : World) (hs : Src w A (l.map byteV)) :
  Calls Tryz.prog 45 #[.slice A n c] w fun e w' => ∃ r, e = .returned r ∧ Fresh w (strB l) r w' := by
 have HD := Hh (fun w => wire_Head 2 (n : Int) w (by omega) (by omega) (by omega) (by omega));have K1 : IntKind.u64.wrap (n : Int) = (n : Int) := by rw [IntKind.wrap_u64]; omega
 have HN := Hh (And.intro hn hl);clear hn hl;go_enter Tryz.func45, Tryz.ntmps45
 go_wp2_with fail
 refine (HD.out _).mono ?_
 rintro e w1 ⟨r, rfl, hf⟩
 have hO1 := hf.own;obtain ⟨RA, rc, rfl, _⟩ := hO1.form;have hs1 := hs.below hf.2;have HF := Hh hf.2
 have HL : Hid ((headB (2 : Int).toNat (n : Int).toNat).length + l.length ≤ 1099511627776) := by
  have := (headB_le (2 : Int).toNat (n : Int).toNat).2;have := HN.out.2;rw [Hid]; omega
 clear hf;go_wp2_with (at_builtin; refine stop_in ?_)
 refine wpList_app_bytes rfl (.tmp 6) (.tmp 7) rfl w.heap.size _ _ rfl hO1 A _ c l rfl HN.out.1 hs1 (by have := (headB_le (2 : Int).toNat (n : Int).toNat).2; have := HN.out.2; omega) HF.out.size fun v' w2 hO2 hg2 _ => ?_
 have hb2 := HF.out.grown hg2 HF.out.size (fun q hq => (hO1.lt q hq).1)
 have E : Hid (headB (2 : Int).toNat (n : Int).toNat ++ l = strB l) := by
  rw [Hid, strB, HN.out.1]; rfl
 rw [E.out] at hO2;clear hO1 hs1 hs hg2;go_wp2_with fail
 go_ret
 exact ⟨_, rfl, hO2, hb2⟩
theorem trans_short (x : UInt8) (w : World) : Calls Tryz.prog 63 #[.int .u8 (x.toNat : Int)] w fun e w' => e = .returned (.bool (shortB x)) ∧ w' = w := by
 by_cases h1 : x.toNat < 24
 ·have z1 : (x.toNat : Int) < 24 := by omega
  have E : Hid (shortB x = true) := (shortB_iff x).2 (.inl h1);go_enter Tryz.func63, Tryz.ntmps63
  go_wp2_with fail
  go_ret
  exact ⟨by rw [E.out]; try rfl, rfl⟩
 have z1 : ¬ (x.toNat : Int) < 24 := by omega
 by_cases h2 : 32 ≤ x.toNat
 ·have z2 : (32 : Int) ≤ (x.toNat : Int) := by omega
  by_cases h3 : x.toNat < 56
  ·have z3 : (x.toNat : Int) < 56 := by omega
   have E : Hid (shortB x = true) := (shortB_iff x).2 (.inr ⟨h2, h3⟩);go_enter Tryz.func63, Tryz.ntmps63
   go_wp2_with fail
   go_ret
   exact ⟨by rw [E.out]; try rfl, rfl⟩
  ·have z3 : ¬ (x.toNat : Int) < 56 := by omega
   have E : Hid (shortB x = false) := by rw [Hid, Bool.eq_false_iff, ne_eq, shortB_iff]; omega
   go_enter Tryz.func63, Tryz.ntmps63
   go_wp2_with fail
   go_ret
   exact ⟨by rw [E.out]; try rfl, rfl⟩
 ·have z2 : ¬ (32 : Int) ≤ (x.toNat : Int) := by omega
  have E : Hid (shortB x = false) := by rw [Hid, Bool.eq_false_iff, ne_eq, shortB_iff]; omega
  go_enter Tryz.func63, Tryz.ntmps63
  go_wp2_with fail
  go_ret
  exact ⟨by rw [E.out]; try rfl, rfl⟩
theorem ref_Join {A : Option Addr} {n c : Nat} {ls : List (List UInt8)} (hn : n = ls.length) (hl : ls.length ≤ 1099511627000) (ht : ls.flatten.length ≤ 1099511627000) (w : World) (hs : SrcR w A ls) :
  Calls Tryz.prog 31 #[.slice A n c] w fun e w' => ∃ r, e = .returned r ∧ Fresh w (ls.flatten) r w' := by
 have HN := Hh (And.intro hn (And.intro hl ht));clear hn hl ht;go_enter Tryz.func31, Tryz.ntmps31
 have hO1 := OwnB.nil w w.heap.size;have hb1 := Below.refl w.heap.size w;go_wp2_with fail
 go_loopw [3, 5, 8] (fun v1 v5 v2 wr => ∃ (k : Nat) (VA : Option Addr) (vc vn : Nat) (l : List UInt8), k ≤ ls.length ∧ v2 = .int .i64 (k : Int) ∧ v1 = .slice VA vn vc ∧ OwnB wr w.heap.size (.slice VA vn vc) l ∧ vn = l.length ∧ (ls.flatten = l ++ (ls.drop k).flatten) ∧ Below w.heap.size w wr) (fun _ _ v2 _ => ls.length - (intOf v2).toNat)
 case atStart => exact ⟨0, _, _, _, _, Nat.zero_le _, rfl, rfl, hO1, rfl, by simp, hb1⟩
 case round =>
  clear hO1 hb1;obtain ⟨k, VA, vc, vn, l, hkl, rfl, rfl, hOr, hvn, hel, hbr⟩ := hrel;have HV := Hh hvn;have HE := Hh hel;clear hvn hel
  by_cases hlt : k < ls.length
  ·obtain ⟨ib, io, rfl, hr⟩ := hs (by omega);have hltz : (k : Int) < (n : Int) := by have := HN.out.1; omega
   obtain ⟨Aj, cj, c0, hsj⟩ := hr k hlt;have q0 := (hbr.cell (World.block_lt_of_cell? w _ c0)).trans c0;have hsr := hsj.below hbr;have hk1 : (k : Int) + 1 ≤ 9223372036854775807 := by have := HN.out.2.1; omega
   have HT : Hid (l.length + ls[k].length ≤ 1099511627776) := by
    have h1 := congrArg List.length HE.out;rw [flatten_drop ls k hlt] at h1
    simp only [List.length_append] at h1
    have := HN.out.2.2;skip
    rw [Hid]; omega
   have HF : Hid (ls.flatten = (l ++ ls[k]) ++ (ls.drop (k + 1)).flatten) := by rw [Hid, HE.out, flatten_drop ls k hlt, List.append_assoc]
   clear hr c0 hsj;go_wp2_with (at_builtin; refine stop_in ?_)
   unfold Stopped
   obtain rfl := HV.out
   refine wpList_app_bytes rfl (.tmp 12) (.tmp 13) rfl w.heap.size _ _ rfl hOr Aj _ cj ls[k] rfl rfl hsr HT.out hbr.size fun v' w7 hO7 hg7 hat7 => ?_
   obtain ⟨VA', vc', rfl, _⟩ := hO7.form;have hO7' : OwnB w7 w.heap.size (.slice VA' (l.length + ls[k].length) vc') (l ++ ls[k]) := by rw [← List.length_append]; exact hO7
   have hb7 := hbr.grown hg7 hbr.size (fun q hq => (hOr.lt q hq).1);clear hOr hg7 hat7 hbr q0 hsr hO7;go_wp2_with fail
   go_roundw
   case rel => exact ⟨k + 1, VA', vc', _, _, by omega, by go_num, rfl, hO7', by rw [List.length_append], HF.out, hb7⟩
   case measure => simp [intOf]; omega
  ·have hkk : k = ls.length := by omega
   subst hkk;have hltz : ¬ ((ls.length : Int) < (n : Int)) := by have := HN.out.1; omega
   have HZ : Hid (ls.flatten = l) := by rw [Hid, HE.out, List.drop_length]; simp
   go_wp2_with fail
   go_ret
   obtain rfl := HV.out
   exact ⟨_, rfl, by rw [HZ.out]; exact ⟨hOr, hbr⟩⟩
theorem wire_Array {A : Option Addr} {n c : Nat} {ls : List (List UInt8)} (hn : n = ls.length) (hl : ls.length ≤ 1099511627000) (ht : ls.flatten.length ≤ 1099511627000) (w : World) (hs : SrcR w A ls) :
  Calls Tryz.prog 44 #[.slice A n c] w fun e w' => ∃ r, e = .returned r ∧ Fresh w (headB 4 ls.length ++ ls.flatten) r w' := by
 have HD := Hh (fun w => wire_Head 4 (n : Int) w (by omega) (by omega) (by omega) (by omega));have K1 : IntKind.u64.wrap (n : Int) = (n : Int) := by rw [IntKind.wrap_u64]; omega
 have HN := Hh (And.intro hn (And.intro hl ht));clear hn hl ht;go_enter Tryz.func44, Tryz.ntmps44
 go_wp2_with fail
 refine (HD.out _).mono ?_
 rintro e w1 ⟨r, rfl, hf⟩
 have hO1 := hf.own;obtain ⟨RA, rc, rfl, _⟩ := hO1.form;have hb1 := hf.2;have E0 : Hid (headB (4 : Int).toNat (n : Int).toNat = headB 4 ls.length) := by rw [Hid, HN.out.1]; rfl
 have hO1' : OwnB w1 w.heap.size (.slice RA (headB (4 : Int).toNat (n : Int).toNat).length rc) (headB 4 ls.length) := by rw [← E0.out]; exact hO1
 have E1 : Hid ((headB (4 : Int).toNat (n : Int).toNat).length = (headB 4 ls.length).length) := by rw [Hid, E0.out]
 obtain ⟨hn4, hhn4⟩ : ∃ hn4, (headB (4 : Int).toNat (n : Int).toNat).length = hn4 := ⟨_, rfl⟩
 rw [hhn4] at hO1' E1 ⊢;clear hf hO1 hhn4;go_wp2_with fail
 go_loopw [3, 5, 12] (fun v1 v5 v2 wr => ∃ (k : Nat) (VA : Option Addr) (vc vn : Nat) (l : List UInt8), k ≤ ls.length ∧ v2 = .int .i64 (k : Int) ∧ v1 = .slice VA vn vc ∧ OwnB wr w.heap.size (.slice VA vn vc) l ∧ vn = l.length ∧ (headB 4 ls.length ++ ls.flatten = l ++ (ls.drop k).flatten) ∧ Below w.heap.size w wr) (fun _ _ v2 _ => ls.length - (intOf v2).toNat)
 case atStart => exact ⟨0, _, _, _, _, Nat.zero_le _, rfl, rfl, hO1', E1.out, by simp, hb1⟩
 case round =>
  clear hO1' hb1;obtain ⟨k, VA, vc, vn, l, hkl, rfl, rfl, hOr, hvn, hel, hbr⟩ := hrel;have HV := Hh hvn;have HE := Hh hel;clear hvn hel
  by_cases hlt : k < ls.length
  ·obtain ⟨ib, io, rfl, hr⟩ := hs (by omega);have hltz : (k : Int) < (n : Int) := by have := HN.out.1; omega
   obtain ⟨Aj, cj, c0, hsj⟩ := hr k hlt;have q0 := (hbr.cell (World.block_lt_of_cell? w _ c0)).trans c0;have hsr := hsj.below hbr;have hk1 : (k : Int) + 1 ≤ 9223372036854775807 := by have := HN.out.2.1; omega
   have HT : Hid (l.length + ls[k].length ≤ 1099511627776) := by
    have h1 := congrArg List.length HE.out;rw [flatten_drop ls k hlt] at h1
    simp only [List.length_append] at h1
    have := HN.out.2.2;have := (headB_le 4 ls.length).2;rw [Hid]; omega
   have HF : Hid (headB 4 ls.length ++ ls.flatten = (l ++ ls[k]) ++ (ls.drop (k + 1)).flatten) := by rw [Hid, HE.out, flatten_drop ls k hlt, List.append_assoc]
   clear hr c0 hsj;go_wp2_with (at_builtin; refine stop_in ?_)
   unfold Stopped
   obtain rfl := HV.out
   refine wpList_app_bytes rfl (.tmp 16) (.tmp 17) rfl w.heap.size _ _ rfl hOr Aj _ cj ls[k] rfl rfl hsr HT.out hbr.size fun v' w7 hO7 hg7 hat7 => ?_
   obtain ⟨VA', vc', rfl, _⟩ := hO7.form;have hO7' : OwnB w7 w.heap.size (.slice VA' (l.length + ls[k].length) vc') (l ++ ls[k]) := by rw [← List.length_append]; exact hO7
   have hb7 := hbr.grown hg7 hbr.size (fun q hq => (hOr.lt q hq).1);clear hOr hg7 hat7 hbr q0 hsr hO7;go_wp2_with fail
   go_roundw
   case rel => exact ⟨k + 1, VA', vc', _, _, by omega, by go_num, rfl, hO7', by rw [List.length_append], HF.out, hb7⟩
   case measure => simp [intOf]; omega
  ·have hkk : k = ls.length := by omega
   subst hkk;have hltz : ¬ ((ls.length : Int) < (n : Int)) := by have := HN.out.1; omega
   have HZ : Hid (headB 4 ls.length ++ ls.flatten = l) := by rw [Hid, HE.out, List.drop_length]; simp
   go_wp2_with fail
   go_ret
   obtain rfl := HV.out
   exact ⟨_, rfl, by rw [HZ.out]; exact ⟨hOr, hbr⟩⟩
theorem trans_join {A : Option Addr} {n c : Nat} {ls : List (List UInt8)} (hn : n = ls.length) (hl : ls.length ≤ 1099511627000) (ht : ls.flatten.length ≤ 1099511627000) (w : World) (hs : SrcR w A ls) :
  Calls Tryz.prog 77 #[.slice A n c] w fun e w' => ∃ r, e = .returned r ∧ Fresh w (ls.flatten) r w' := by
 have HN := Hh (And.intro hn (And.intro hl ht));clear hn hl ht;go_enter Tryz.func77, Tryz.ntmps77
 have hO1 := OwnB.nil w w.heap.size;have hb1 := Below.refl w.heap.size w;go_wp2_with fail
 go_loopw [3, 5, 8] (fun v1 v5 v2 wr => ∃ (k : Nat) (VA : Option Addr) (vc vn : Nat) (l : List UInt8), k ≤ ls.length ∧ v2 = .int .i64 (k : Int) ∧ v1 = .slice VA vn vc ∧ OwnB wr w.heap.size (.slice VA vn vc) l ∧ vn = l.length ∧ (ls.flatten = l ++ (ls.drop k).flatten) ∧ Below w.heap.size w wr) (fun _ _ v2 _ => ls.length - (intOf v2).toNat)
 case atStart => exact ⟨0, _, _, _, _, Nat.zero_le _, rfl, rfl, hO1, rfl, by simp, hb1⟩
 case round =>
  clear hO1 hb1;obtain ⟨k, VA, vc, vn, l, hkl, rfl, rfl, hOr, hvn, hel, hbr⟩ := hrel;have HV := Hh hvn;have HE := Hh hel;clear hvn hel
  by_cases hlt : k < ls.length
  ·obtain ⟨ib, io, rfl, hr⟩ := hs (by omega);have hltz : (k : Int) < (n : Int) := by have := HN.out.1; omega
   obtain ⟨Aj, cj, c0, hsj⟩ := hr k hlt;have q0 := (hbr.cell (World.block_lt_of_cell? w _ c0)).trans c0;have hsr := hsj.below hbr;have hk1 : (k : Int) + 1 ≤ 9223372036854775807 := by have := HN.out.2.1; omega
   have HT : Hid (l.length + ls[k].length ≤ 1099511627776) := by
    have h1 := congrArg List.length HE.out;rw [flatten_drop ls k hlt] at h1
    simp only [List.length_append] at h1
    have := HN.out.2.2;skip
    rw [Hid]; omega
   have HF : Hid (ls.flatten = (l ++ ls[k]) ++ (ls.drop (k + 1)).flatten) := by rw [Hid, HE.out, flatten_drop ls k hlt, List.append_assoc]
   clear hr c0 hsj;go_wp2_with (at_builtin; refine stop_in ?_)
   unfold Stopped
   obtain rfl := HV.out
   refine wpList_app_bytes rfl (.tmp 12) (.tmp 13) rfl w.heap.size _ _ rfl hOr Aj _ cj ls[k] rfl rfl hsr HT.out hbr.size fun v' w7 hO7 hg7 hat7 => ?_
   obtain ⟨VA', vc', rfl, _⟩ := hO7.form;have hO7' : OwnB w7 w.heap.size (.slice VA' (l.length + ls[k].length) vc') (l ++ ls[k]) := by rw [← List.length_append]; exact hO7
   have hb7 := hbr.grown hg7 hbr.size (fun q hq => (hOr.lt q hq).1);clear hOr hg7 hat7 hbr q0 hsr hO7;go_wp2_with fail
   go_roundw
   case rel => exact ⟨k + 1, VA', vc', _, _, by omega, by go_num, rfl, hO7', by rw [List.length_append], HF.out, hb7⟩
   case measure => simp [intOf]; omega
  ·have hkk : k = ls.length := by omega
   subst hkk;have hltz : ¬ ((ls.length : Int) < (n : Int)) := by have := HN.out.1; omega
   have HZ : Hid (ls.flatten = l) := by rw [Hid, HE.out, List.drop_length]; simp
   go_wp2_with fail
   go_ret
   obtain rfl := HV.out
   exact ⟨_, rfl, by rw [HZ.out]; exact ⟨hOr, hbr⟩⟩
def ConnSaid (w : World) (l : List UInt8) (e : Ending) (w' : World) : Prop :=
 match parseConn l with
 | .error q => e = .returned (.tuple #[.slice none 0 0, .int .i64 0, .int .i64 (q : Int)]) ∧ Below w.heap.size w w'
 | .ok (c, k) => ∃ r, e = .returned (.tuple #[r, .int .i64 (k : Int), .int .i64 0]) ∧ Fresh w c r w'
theorem ConnSaid.err {w w' : World} {l : List UInt8} {e : Ending} {q : Nat} (h : parseConn l = .error q) (he : e = .returned (.tuple #[.slice none 0 0, .int .i64 0, .int .i64 (q : Int)])) (hb : Below w.heap.size w w') : ConnSaid w l e w' := by
 rw [ConnSaid, h]; exact ⟨he, hb⟩
theorem ConnSaid.ok {w w' : World} {l : List UInt8} {e : Ending} {c : List UInt8} {k : Nat} {r : Value} (h : parseConn l = .ok (c, k)) (he : e = .returned (.tuple #[r, .int .i64 (k : Int), .int .i64 0])) (hf : Fresh w c r w') : ConnSaid w l e w' := by
 rw [ConnSaid, h]; exact ⟨r, he, hf⟩
theorem Src.at0 {w : World} {A : Option Addr} {x : UInt8} {t : List UInt8} (h : Src w A ((x :: t).map byteV)) : ∃ b off, A = some ⟨b, off, none⟩ ∧ ∀ j (hj : j < (x :: t).length), w.cell? ⟨b, off + j, none⟩ = some (byteV (x :: t)[j]) := by
 obtain ⟨b, off, e, hc⟩ := h (by simp)
 exact ⟨b, off, e, fun j hj => hc j _ (by rw [List.getElem?_map, List.getElem?_eq_getElem hj]; rfl)⟩
theorem src_sub {w : World} {b off n : Nat} {l : List UInt8} (h : ∀ j (hj : j < l.length), w.cell? ⟨b, off + j, none⟩ = some (byteV l[j])) (k : Nat) (B : Option Addr) (hB : n ≠ 0 → B = some ⟨b, off + k, none⟩) (hk : k + n ≤ l.length) : Src w B (((l.drop k).take n).map byteV) := fun hne => by
 have h0 : n ≠ 0 := by
  intro h0
  subst h0
  simp at hne
 refine ⟨b, off + k, hB h0, fun j v hj => ?_⟩
 rw [List.getElem?_map] at hj;obtain ⟨u, hu, rfl⟩ := Option.map_eq_some_iff.1 hj;rw [List.getElem?_take] at hu
 split at hu
 ·rename_i hjn
  rw [List.getElem?_drop] at hu;obtain ⟨h1, h2⟩ := List.getElem?_eq_some_iff.1 hu;rw [Nat.add_assoc, h (k + j) h1, h2]
 ·cases hu
theorem trans_Conn {A : Option Addr} {n c : Nat} {l : List UInt8} (hn : n = l.length) (hl : l.length ≤ 1099511627000) (w : World) (hs : Src w A (l.map byteV)) :
  Calls Tryz.prog 46 #[.slice A n c] w fun e w' => ∃ r, e = .returned r ∧ Fresh w (connB l) r w' := by
 by_cases h1 : l.length = 1
 ·obtain ⟨x, rfl⟩ := list1 h1;obtain ⟨b, off, rfl, hc⟩ := Src.at0 hs;have c0 := hc 0 (by simp)
  simp only [Nat.add_zero, List.getElem_cons_zero] at c0
  subst hn
  simp only [List.length_cons, List.length_nil, Nat.zero_add]
  have ST := Hh (wire_Str (A := some ⟨b, off, none⟩) (c := c) (l := [x]) rfl (by simp) w hs)
  cases hx : shortB x with
  | true =>
   have SH : Hid (∀ w1, Calls Tryz.prog 63 #[.int .u8 (x.toNat : Int)] w1 fun e w' => e = .returned (.bool true) ∧ w' = w1) := by rw [← hx]; exact fun w1 => trans_short x w1
   have E : Hid (connB [x] = [x]) := by rw [Hid, connB, hx]; rfl
   clear hx hc hs ST hl h1;go_enter Tryz.func46, Tryz.ntmps46
   go_wp2_with fail
   refine (SH.out _).mono ?_
   rintro e w1 ⟨rfl, rfl⟩
   go_wp2_with fail
   go_ret
   refine ⟨_, rfl, ?_⟩
   rw [E.out]
   exact Fresh.lit _ _ _ 1 rfl (by simp) rfl
  | false =>
   have SH : Hid (∀ w1, Calls Tryz.prog 63 #[.int .u8 (x.toNat : Int)] w1 fun e w' => e = .returned (.bool false) ∧ w' = w1) := by rw [← hx]; exact fun w1 => trans_short x w1
   have E : Hid (connB [x] = strB [x]) := by rw [Hid, connB, hx]; rfl
   clear hx hc hs hl h1;go_enter Tryz.func46, Tryz.ntmps46
   go_wp2_with fail
   refine (SH.out _).mono ?_
   rintro e w1 ⟨rfl, rfl⟩
   go_wp2_with fail
   refine ST.out.mono ?_
   rintro e w2 ⟨r, rfl, hf⟩
   go_wp2_with fail
   go_ret
   exact ⟨_, rfl, by rw [E.out]; exact hf⟩
 ·have ST := Hh (wire_Str (A := A) (c := c) hn hl w hs)
  have E : Hid (connB l = strB l) := by
   rw [Hid]
   match l, h1 with
   | [], _ => rfl
   | _ :: _ :: _, _ => rfl
  have hz : ((n : Int) == 1) = false := by simp; omega
  have hz2 : ((n : Int) = 1) = False := eq_false (by omega);clear hs hl h1 hn;go_enter Tryz.func46, Tryz.ntmps46
  go_wp2_with fail
  refine ST.out.mono ?_
  rintro e w2 ⟨r, rfl, hf⟩
  go_wp2_with fail
  go_ret
  exact ⟨_, rfl, by rw [E.out]; exact hf⟩
theorem trans_ParseConn {A : Option Addr} {n c : Nat} {l : List UInt8} (hn : n = l.length) (hl : l.length ≤ 1099511627000) (hc : n ≤ c) (hc2 : c ≤ 9223372036854775807) (w : World) (hs : Src w A (l.map byteV)) :
  Calls Tryz.prog 65 #[.slice A n c] w (ConnSaid w l) := by
 cases l with
 | nil =>
  subst hn
  simp only [List.length_nil]
  go_enter Tryz.func65, Tryz.ntmps65
  go_wp2_with fail
  go_ret3
  exact ConnSaid.err (q := 2) rfl rfl (Below.refl _ _)
 | cons x t =>
  obtain ⟨b, off, rfl, hcell⟩ := Src.at0 hs;have c0 := hcell 0 (by simp)
  simp only [Nat.add_zero, List.getElem_cons_zero] at c0
  have hn0 : (0 : Int) < (n : Int) := by rw [hn, List.length_cons]; omega
  have lx := x.toNat_lt;have n0 : ((n : Int) == 0) = false := by simp; omega
  have n0' : ((n : Int) = 0) = False := eq_false (by omega);have HCELL := Hh hcell;have HN := Hh (And.intro hn (And.intro hl (And.intro hc hc2)));clear hcell hn hl hc hc2 hs
  cases hx : shortB x with
  | true =>
   have SH : Hid (∀ w1, Calls Tryz.prog 63 #[.int .u8 (x.toNat : Int)] w1 fun e w' => e = .returned (.bool true) ∧ w' = w1) := by rw [← hx]; exact fun w1 => trans_short x w1
   have E : Hid (parseConn (x :: t) = .ok ([x], 1)) := by rw [Hid, parseConn, hx]; rfl
   clear hx;go_enter Tryz.func65, Tryz.ntmps65
   go_wp2_with fail
   refine (SH.out _).mono ?_
   rintro e w1 ⟨rfl, rfl⟩
   go_wp2_with fail
   go_ret3
   exact ConnSaid.ok E.out rfl (Fresh.lit _ _ _ 1 rfl (by simp) rfl)
  | false =>
   have SH : Hid (∀ w1, Calls Tryz.prog 63 #[.int .u8 (x.toNat : Int)] w1 fun e w' => e = .returned (.bool false) ∧ w' = w1) := by rw [← hx]; exact fun w1 => trans_short x w1
   have E0 : Hid (parseConn (x :: t) = if x.toNat < 64 ∨ 88 < x.toNat then .error 4 else if 7 < x.toNat - 64 then .error 8 else if (x :: t).length < 1 + (x.toNat - 64) then .error 2
     else if x.toNat - 64 = 1 ∧ shortB ((x :: t).getD 1 0) then .error 4 else .ok (t.take (x.toNat - 64), 1 + (x.toNat - 64))) := by rw [Hid, parseConn, hx]; rfl
   clear hx
   by_cases h1 : x.toNat < 64
   ·have z1 : (x.toNat : Int) < 64 := by omega
    have E : Hid (parseConn (x :: t) = .error 4) := by rw [Hid, E0.out, if_pos (.inl h1)]
    go_enter Tryz.func65, Tryz.ntmps65
    go_wp2_with fail
    refine (SH.out _).mono ?_
    rintro e w1 ⟨rfl, rfl⟩
    go_wp2_with fail
    go_ret3
    exact ConnSaid.err E.out rfl (Below.refl _ _)
   have z1 : ¬ (x.toNat : Int) < 64 := by omega
   by_cases h2 : 88 < x.toNat
   ·have z2 : (88 : Int) < (x.toNat : Int) := by omega
    have E : Hid (parseConn (x :: t) = .error 4) := by rw [Hid, E0.out, if_pos (.inr h2)]
    go_enter Tryz.func65, Tryz.ntmps65
    go_wp2_with fail
    refine (SH.out _).mono ?_
    rintro e w1 ⟨rfl, rfl⟩
    go_wp2_with fail
    go_ret3
    exact ConnSaid.err E.out rfl (Below.refl _ _)
   have z2 : ¬ (88 : Int) < (x.toNat : Int) := by omega
   obtain ⟨y, hy⟩ : ∃ y, x.toNat - 64 = y := ⟨_, rfl⟩
   have ey : IntKind.i64.wrap ((x.toNat : Int) - 64) = (y : Int) := by rw [IntWalk.i64_in _ (by omega)]; omega
   have hyl : (y : Int) ≤ 24 := by omega
   have ey2 : (x.toNat : Int) - 64 = (y : Int) := by omega
   have E1 : Hid (parseConn (x :: t) = if 7 < y then .error 8 else if (x :: t).length < 1 + y then .error 2
     else if y = 1 ∧ shortB ((x :: t).getD 1 0) then .error 4 else .ok (t.take y, 1 + y)) := by rw [Hid, E0.out, if_neg (by omega), hy]
   clear hy h1 h2 E0
   by_cases h3 : 7 < y
   ·have z3 : (7 : Int) < (y : Int) := by omega
    have E : Hid (parseConn (x :: t) = .error 8) := by rw [Hid, E1.out, if_pos h3]
    go_enter Tryz.func65, Tryz.ntmps65
    go_wp2_with fail
    refine (SH.out _).mono ?_
    rintro e w1 ⟨rfl, rfl⟩
    go_wp2_with fail
    go_ret3
    exact ConnSaid.err E.out rfl (Below.refl _ _)
   have z3 : ¬ (7 : Int) < (y : Int) := by omega
   by_cases h4 : n < 1 + y
   ·have z4 : (n : Int) < 1 + (y : Int) := by omega
    have E : Hid (parseConn (x :: t) = .error 2) := by rw [Hid, E1.out, if_neg h3, if_pos (by have := HN.out.1; omega)]
    go_enter Tryz.func65, Tryz.ntmps65
    go_wp2_with fail
    refine (SH.out _).mono ?_
    rintro e w1 ⟨rfl, rfl⟩
    go_wp2_with fail
    go_ret3
    exact ConnSaid.err E.out rfl (Below.refl _ _)
   have z4 : ¬ (n : Int) < 1 + (y : Int) := by omega
   have E2 : Hid (parseConn (x :: t) = if y = 1 ∧ shortB ((x :: t).getD 1 0) then .error 4 else .ok (t.take y, 1 + y)) := by rw [Hid, E1.out, if_neg h3, if_neg (by have := HN.out.1; omega)]
   clear E1 h3;have hle1 : (1 : Int) ≤ 1 + (y : Int) := by omega
   have hle2 : 1 + (y : Int) ≤ (c : Int) := by have := HN.out.2.2.1; omega
   have hle3 : (1 : Int) ≤ (c : Int) := by omega
   have JN := Hh (fun (w0 : World) (B : Option Addr) (k : Nat) (hk : k = y) (hw : Below w.heap.size w w0) (hB : y ≠ 0 → B = some ⟨b, off + 1, none⟩) =>
    trans_join (A := some ⟨w0.heap.size, 0, none⟩) (n := 1) (c := 1) (ls := [t.take y]) rfl (by simp) (by simp; omega) (w0.alloc (.cells #[.slice B k (c - 1)] 23)) (fun _ => ⟨w0.heap.size, 0, rfl, fun j hj => by
     obtain rfl : j = 0 := by simpa using hj
     refine ⟨B, c - 1, ?_, ?_⟩
     ·rw [cell_of_row _ w0.heap.size 0 #[.slice B k (c - 1)] 23 (0, 0) (heap_alloc_new w0 _)];have : (t.take y).length = k := by rw [List.length_take, hk]; have := HN.out.1; simp at this; omega
      simp [this]
     ·have h := src_sub (w := w) (n := y) HCELL.out 1 B hB (by have := HN.out.1; omega)
      exact (h.below hw).alloc _⟩))
   have fin : Hid (∀ (w0 : World) (B : Option Addr) (cc : Nat), cc = c - 1 → Below w.heap.size w w0 → (y ≠ 0 → B = some ⟨b, off + 1, none⟩) → Calls Tryz.prog 77 #[.slice (some ⟨w0.heap.size, 0, none⟩) 1 1] (w0.alloc (.cells #[.slice B y cc] 23)) fun e w' => ∃ r, e = .returned r ∧ Fresh (w0.alloc (.cells #[.slice B y cc] 23)) (t.take y) r w') := fun w0 B cc hcc hw hB => by
    subst hcc;have := JN.out w0 B y rfl hw hB
    simpa using this
   clear JN
   by_cases h5 : y = 1
   ·have hlen := HN.out.1
    obtain ⟨x2, t2, rfl⟩ : ∃ x2 t2, t = x2 :: t2 := by
     cases t with
     | nil => simp at hlen; omega
     | cons x2 t2 => exact ⟨x2, t2, rfl⟩
    have c1 := HCELL.out 1 (by simp)
    simp only [List.getElem_cons_succ, List.getElem_cons_zero] at c1
    have lx2 := x2.toNat_lt;have hn1 : (1 : Int) < (n : Int) := by simp at hlen; omega
    have g1 : (x :: x2 :: t2).getD 1 0 = x2 := rfl;rw [g1] at E2;subst h5;clear hlen g1
    cases hx2 : shortB x2 with
    | true =>
     have SH2 : Hid (∀ w1, Calls Tryz.prog 63 #[.int .u8 (x2.toNat : Int)] w1 fun e w' => e = .returned (.bool true) ∧ w' = w1) := by rw [← hx2]; exact fun w1 => trans_short x2 w1
     have E : Hid (parseConn (x :: x2 :: t2) = .error 4) := by rw [Hid, E2.out, if_pos ⟨rfl, hx2⟩]
     clear hx2 E2;go_enter Tryz.func65, Tryz.ntmps65
     go_wp2_with fail
     refine (SH.out _).mono ?_
     rintro e w1 ⟨rfl, rfl⟩
     go_wp2_with fail
     refine (SH2.out _).mono ?_
     rintro e w1 ⟨rfl, rfl⟩
     go_wp2_with fail
     go_ret3
     exact ConnSaid.err E.out rfl (Below.refl _ _)
    | false =>
     have SH2 : Hid (∀ w1, Calls Tryz.prog 63 #[.int .u8 (x2.toNat : Int)] w1 fun e w' => e = .returned (.bool false) ∧ w' = w1) := by rw [← hx2]; exact fun w1 => trans_short x2 w1
     have E : Hid (parseConn (x :: x2 :: t2) = .ok ((x2 :: t2).take 1, 2)) := by rw [Hid, E2.out, if_neg (by rw [hx2]; simp)]
     clear hx2 E2;go_enter Tryz.func65, Tryz.ntmps65
     go_wp2_with fail
     refine (SH.out _).mono ?_
     rintro e w1 ⟨rfl, rfl⟩
     go_wp2_with fail
     refine (SH2.out _).mono ?_
     rintro e w1 ⟨rfl, rfl⟩
     go_wp2_with fail
     refine (fin.out _ _ _ rfl (Below.refl _ _) (fun _ => rfl)).mono ?_
     rintro e w2 ⟨r, rfl, hf⟩
     go_wp2_with fail
     go_ret3
     exact ConnSaid.ok E.out rfl (hf.step (below_box _ _))
   ·have z5 : ((y : Int) == 1) = false := by simp; omega
    have z5' : ((y : Int) = 1) = False := eq_false (by omega);have E : Hid (parseConn (x :: t) = .ok (t.take y, 1 + y)) := by rw [Hid, E2.out, if_neg (fun h => h5 h.1)]
    clear E2 h5;go_enter Tryz.func65, Tryz.ntmps65
    go_wp2_with fail
    refine (SH.out _).mono ?_
    rintro e w1 ⟨rfl, rfl⟩
    go_wp2_with fail
    all_goals first | refine (fin.out _ (some ⟨b, off + 1, none⟩) _ rfl (Below.refl _ _) (fun _ => rfl)).mono ?_ | refine (fin.out _ (some ⟨b, off, none⟩) 0 (by omega) (Below.refl _ _) (fun h => absurd (show y = 0 by omega) h)).mono ?_
    all_goals
     rintro e w2 ⟨r, rfl, hf⟩
     go_wp2_with fail
     go_ret3
     exact ConnSaid.ok E.out (by simp) (hf.step (below_box _ _))
theorem ref_Equal (w : World) (A B : Option Addr) (a b : List UInt8) (n m c d : Nat) (hn : n = a.length) (hm : m = b.length) (hna : n ≤ 1099511627776) (hmb : m ≤ 1099511627776) (ha : Src w A (a.map byteV)) (hb : Src w B (b.map byteV)) :
  Calls Tryz.prog 34 #[.slice A n c, .slice B m d] w fun e w' => e = .returned (.bool (decide (a = b))) ∧ Below w.heap.size w w' := by
 have CM := Hh (ref_Compare w A B a b n m c d hn hm hna hmb ha hb)
 by_cases hab : a = b
 ·have D : Hid (decide (a = b) = true) := decide_eq_true hab;have hz : Lib.compareBytes a b = 0 := (cmp_zero a b).2 hab;have hnm : n = m := by rw [hn, hm, hab]
  rw [hz] at CM;clear hz hab ha hb hn hm hna hmb;subst hnm;go_enter Tryz.func34, Tryz.ntmps34
  go_wp2_with fail
  refine CM.out.mono ?_
  rintro e w1 ⟨rfl, hb1⟩
  go_wp2_with fail
  go_ret
  exact ⟨by rw [D.out]; try rfl, hb1⟩
 ·have D : Hid (decide (a = b) = false) := decide_eq_false hab;have hz : Lib.compareBytes a b ≠ 0 := fun h => hab ((cmp_zero a b).1 h)
  obtain ⟨q, hq⟩ : ∃ q, Lib.compareBytes a b = q := ⟨_, rfl⟩
  rw [hq] at CM hz;have z0 : (q == 0) = false := by simpa using hz
  have z1 : (q = 0) = False := eq_false hz;clear hz hq hab ha hb hn hm hna hmb;go_enter Tryz.func34, Tryz.ntmps34
  go_wp2_with fail
  refine CM.out.mono ?_
  rintro e w1 ⟨rfl, hb1⟩
  go_wp2_with fail
  go_ret
  exact ⟨by rw [D.out]; try rfl, hb1⟩
def dbl (n : Nat) : Nat := if n = 0 then 0 else (1023 + n.log2) * 4503599627370496 + (n * 2 ^ (52 - n.log2) - 4503599627370496)
theorem of_int_dbl : ∀ n : Fin 1024, floatOfInt .f64 ((n.val : Nat) : Int) = dbl n.val := by decide +kernel
theorem add_dbl : ∀ n : Fin 1024, floatBits .add .f64 (dbl n.val) (dbl 1024) = some (dbl (n.val + 1024)) := by decide +kernel
theorem mul_one_f {s e m : Nat} (hs : s ≤ 1) (he : 1 ≤ e) (he2 : e ≤ 2046) (hm : m < 4503599627370496) :
  floatBits .mul .f64 4607182418800017408 (s * 9223372036854775808 + e * 4503599627370496 + m) = some (s * 9223372036854775808 + e * 4503599627370496 + m) := by
 have e1 : Ieee.double.signWeight = 9223372036854775808 := rfl;have e2 : Ieee.double.binade = 4503599627370496 := rfl;have e3 : Ieee.double.infRung = 9218868437227405312 := rfl;have e4 : Ieee.double.leastPlace = -1074 := rfl;have e5 : Ieee.double.fractionBits = 52 := rfl;have r1 : Ieee.double.read 4607182418800017408 = .number false 4503599627370496 (-52) := by decide +kernel
 obtain ⟨x, hx⟩ : ∃ x, s * 9223372036854775808 + e * 4503599627370496 + m = x := ⟨_, rfl⟩
 have r2 : Ieee.double.read x = .number (s % 2 == 1) (4503599627370496 + m) (-1074 + ((e - 1 : Nat) : Int)) := by
  unfold Ieee.Format.read
  rw [e1, e2, e3, e4];have a1 : x / 9223372036854775808 = s := by omega
  have a2 : x % 9223372036854775808 = e * 4503599627370496 + m := by omega
  simp only [a1, a2]
  rw [if_neg (by omega), if_pos (by omega)];congr 1
  ·omega
  ·have : (e * 4503599627370496 + m) / 4503599627370496 = e := by omega
   rw [this]
 rw [hx];show ((Ieee.double.read 4607182418800017408).product (Ieee.double.read x)).map Ieee.double.write = some x
 rw [r1, r2]
 simp only [Ieee.Datum.product, Option.map_some, Ieee.Format.write, Bool.false_bne]
 congr 1
 obtain ⟨M, hM⟩ : ∃ M, 4503599627370496 + m = M := ⟨_, rfl⟩
 have hM1 : 4503599627370496 ≤ M := by omega
 have hM2 : M < 9007199254740992 := by omega
 have hl : (4503599627370496 * M).log2 = 104 := by
  refine log2_of ?_ ?_
  ·have : (2 : Nat) ^ 104 = 4503599627370496 * 4503599627370496 := by decide
   rw [this]; exact Nat.mul_le_mul_left _ hM1
  ·have : (2 : Nat) ^ (104 + 1) = 4503599627370496 * 9007199254740992 := by decide
   rw [this]; exact Nat.mul_lt_mul_of_pos_left hM2 (by omega)
 rw [hM]
 unfold Ieee.Format.nearest
 rw [if_neg (by intro h; rcases Nat.mul_eq_zero.1 h with h | h <;> omega), e2, e3, e4, e5, hl];have p1 : max (-52 + (-1074 + ((e - 1 : Nat) : Int)) + ((104 : Nat) : Int) - ((52 : Nat) : Int)) (-1074) = -1074 + ((e - 1 : Nat) : Int) := by omega
 rw [p1];have p2 : (-52 + (-1074 + ((e - 1 : Nat) : Int)) - (-1074 + ((e - 1 : Nat) : Int))).toNat = 0 := by omega
 have p3 : (-1074 + ((e - 1 : Nat) : Int) - (-52 + (-1074 + ((e - 1 : Nat) : Int)))).toNat = 52 := by omega
 have p4 : (-1074 + ((e - 1 : Nat) : Int) - -1074).toNat = e - 1 := by omega
 simp only [p2, p3, p4, Nat.shiftLeft_zero]
 have hq : 4503599627370496 * M = M * 2 ^ 52 := by rw [Nat.mul_comm]
 rw [hq, cut_exact _ M 52 (by rw [← hq, hl]; omega)];clear p1 p2 p3 p4 hl hq r1 r2 e1 e2 e3 e4 e5;obtain ⟨r, hr⟩ : ∃ r, min ((e - 1) * 4503599627370496 + M) 9218868437227405312 = r := ⟨_, rfl⟩
 have hr' : r = (e - 1) * 4503599627370496 + M := by
  rw [← hr]
  exact Nat.min_eq_left (by omega)
 obtain ⟨k, rfl⟩ : ∃ k, e = k + 1 := ⟨e - 1, by omega⟩
 rw [hr, word_d s r hs, hr', ← hx, ← hM, Nat.add_sub_cancel, Nat.succ_mul]
 simp only [Nat.add_assoc]
theorem read_norm {e m : Nat} (he : 1 ≤ e) (he2 : e ≤ 2046) (hm : m < 4503599627370496) : Ieee.double.read (e * 4503599627370496 + m) = .number false (4503599627370496 + m) (-1074 + ((e - 1 : Nat) : Int)) := by
 have e1 : Ieee.double.signWeight = 9223372036854775808 := rfl;have e2 : Ieee.double.binade = 4503599627370496 := rfl;have e3 : Ieee.double.infRung = 9218868437227405312 := rfl;have e4 : Ieee.double.leastPlace = -1074 := rfl;obtain ⟨x, hx⟩ : ∃ x, e * 4503599627370496 + m = x := ⟨_, rfl⟩
 have a1 : x / 9223372036854775808 = 0 := by omega
 have a2 : x % 9223372036854775808 = x := by omega
 rw [hx]
 unfold Ieee.Format.read
 rw [e1, e2, e3, e4]
 simp only [a1, a2]
 rw [if_neg (by omega), if_pos (by omega)];have a3 : x / 4503599627370496 = e := by omega
 have a4 : x % 4503599627370496 = m := by omega
 rw [a3, a4];rfl
theorem cmp_gt {a b : Int} (h : b < a) : compare a b = .gt := by
 show compareOfLessAndEq a b = _
 rw [compareOfLessAndEq, if_neg (by omega), if_neg (by omega)]
theorem cmp_lt {a b : Int} (h : a < b) : compare a b = .lt := by
 show compareOfLessAndEq a b = _
 rw [compareOfLessAndEq, if_pos h]
theorem ord_pos {e m : Nat} (he : 2 ≤ e) (he2 : e ≤ 2045) (hm : m < 4503599627370496) {D : Nat} (hD : D = e * 4503599627370496 + m) :
  FloatKind.f64.format.order D 0 = some .gt ∧ FloatKind.f64.format.order D 9218868437227405311 = some .lt ∧ FloatKind.f64.format.order D 4503599627370496 = some .gt ∧ FloatKind.f64.format.order D D = some .eq := by
 have r := read_norm (show 1 ≤ e by omega) (show e ≤ 2046 by omega) hm;rw [← hD] at r;have z : Ieee.double.read 0 = .number false 0 (-1074) := by decide +kernel
 have mx : Ieee.double.read 9218868437227405311 = .number false 9007199254740991 971 := by decide +kernel
 have mn : Ieee.double.read 4503599627370496 = .number false 4503599627370496 (-1074) := by decide +kernel
 obtain ⟨k, hk⟩ : ∃ k, e - 1 = k := ⟨_, rfl⟩
 rw [hk] at r;have hsh : ∀ a b : Nat, a ≤ a <<< b := fun a b => by rw [Nat.shiftLeft_eq]; exact Nat.le_mul_of_pos_right _ (Nat.two_pow_pos b)
 have hsh2 : ∀ a b : Nat, 1 ≤ b → a * 2 ≤ a <<< b := fun a b hb => by
  rw [Nat.shiftLeft_eq]
  refine Nat.mul_le_mul_left _ ?_
  calc 2 = 2 ^ 1 := rfl
   _ ≤ 2 ^ b := Nat.pow_le_pow_right (by omega) hb
 refine ⟨?_, ?_, ?_, ?_⟩
 ·show (Ieee.double.read D).order (Ieee.double.read 0) = _
  rw [r, z]
  simp only [Ieee.Datum.order, Ieee.signed]
  rw [cmp_gt];have := hsh (4503599627370496 + m) (-1074 + (k : Int) - min (-1074 + (k : Int)) (-1074)).toNat
  simp only [Bool.false_eq_true, if_false, Nat.zero_shiftLeft]
  omega
 ·show (Ieee.double.read D).order (Ieee.double.read 9218868437227405311) = _
  rw [r, mx]
  simp only [Ieee.Datum.order, Ieee.signed]
  rw [cmp_lt];have h1 : min (-1074 + (k : Int)) 971 = -1074 + (k : Int) := by omega
  rw [h1];have h2 : (-1074 + (k : Int) - (-1074 + (k : Int))).toNat = 0 := by omega
  rw [h2];have := hsh2 9007199254740991 (971 - (-1074 + (k : Int))).toNat (by omega)
  simp only [Bool.false_eq_true, if_false, Nat.shiftLeft_zero]
  omega
 ·show (Ieee.double.read D).order (Ieee.double.read 4503599627370496) = _
  rw [r, mn]
  simp only [Ieee.Datum.order, Ieee.signed]
  rw [cmp_gt];have h1 : min (-1074 + (k : Int)) (-1074) = -1074 := by omega
  rw [h1];have h2 : (-1074 - (-1074 : Int)).toNat = 0 := by decide
  have := hsh2 (4503599627370496 + m) (-1074 + (k : Int) - -1074).toNat (by omega);rw [h2]
  simp only [Bool.false_eq_true, if_false, Nat.shiftLeft_zero]
  omega
 ·show (Ieee.double.read D).order (Ieee.double.read D) = _
  rw [r]
  simp only [Ieee.Datum.order]
  congr 1
  show compareOfLessAndEq _ _ = _
  rw [compareOfLessAndEq, if_neg (by omega), if_pos rfl]
structure Pos (D e m : Nat) : Prop where
 eq : D = e * 4503599627370496 + m
 lo : 2 ≤ e
 hi : e ≤ 2045
 m_lt : m < 4503599627370496
theorem Pos.lt {D e m : Nat} (h : Pos D e m) : D < 9223372036854775808 := by have := h.eq; have := h.hi; have := h.m_lt; omega
theorem u64_andNot_sign {D : Nat} (h : D < 9223372036854775808) : bits .andNot .u64 (D : Int) 9223372036854775808 = (D : Int) := by
 have := u64_andNot_nat D 9223372036854775808 (by omega) (by omega);rw [show ((9223372036854775808 : Nat) : Int) = 9223372036854775808 from rfl] at this;rw [this, show 18446744073709551615 - 9223372036854775808 = 2 ^ 63 - 1 by decide, Nat.and_two_pow_sub_one_eq_mod, Nat.mod_eq_of_lt (by simpa using h)]
theorem u64_mantissa {D e m : Nat} (h : Pos D e m) : bits .andNot .u64 (D : Int) 9218868437227405312 = (m : Int) := by
 have hl := h.lt;have := u64_andNot_nat D 9218868437227405312 (by omega) (by omega);rw [show ((9218868437227405312 : Nat) : Int) = 9218868437227405312 from rfl] at this;rw [this, show 18446744073709551615 - 9218868437227405312 = 2 ^ 63 ||| (2 ^ 52 - 1) by decide, Nat.and_or_distrib_left, Nat.and_two_pow_sub_one_eq_mod]
 have h0 : D &&& 2 ^ 63 = 0 := by
  apply Nat.eq_of_testBit_eq
  intro i
  rw [Nat.testBit_and, Nat.testBit_two_pow, Nat.zero_testBit]
  by_cases hi : 63 = i
  ·subst hi;rw [Nat.testBit_lt_two_pow (by simpa using hl)]; rfl
  ·simp [hi]
 have h1 := h.eq;have h2 := h.m_lt;rw [h0, Nat.zero_or]
 simp only [Nat.reducePow]
 omega
theorem u64_expo {q m : Nat} (hq : q ≤ 2046) (hm : m < 4503599627370496) : bits .or .u64 (m : Int) ((q : Int) * 4503599627370496) = ((q * 4503599627370496 + m : Nat) : Int) := by
 have h := Nat.shiftLeft_add_eq_or_of_lt (show m < 2 ^ 52 by simpa using hm) q;rw [Nat.shiftLeft_eq] at h;rw [show ((q : Int) * 4503599627370496) = ((q * 4503599627370496 : Nat) : Int) by omega, u64_or_nat _ _ (by omega) (by omega), Nat.or_comm]
 simp only [Nat.reducePow] at h
 rw [← h]
theorem i64_and_2047 {e : Nat} (h : e ≤ 2046) : bits .and .i64 (e : Int) 2047 = (e : Int) := by
 have hall : ∀ X : Fin 2048, bits .and .i64 ((X.val : Nat) : Int) 2047 = ((X.val : Nat) : Int) := by decide +kernel
 exact hall ⟨e, by omega⟩
theorem math_Abs {D : Nat} (h : D < 9223372036854775808) (w : World) : Calls Tryz.prog 104 #[.float .f64 D] w fun e w' => e = .returned (.float .f64 D) ∧ w' = w := by
 have r1 := run_f64bits D;have r2 := run_f64frombits D;have K := u64_andNot_sign h;clear h;go_enter Tryz.func104, Tryz.ntmps104
 go_wp2_with fail
 go_ret
 exact ⟨rfl, rfl⟩
theorem math_IsInf {D e m : Nat} (h : Pos D e m) (w : World) : Calls Tryz.prog 101 #[.float .f64 D, .int .i64 0] w fun e w' => e = .returned (.bool false) ∧ w' = w := by
 have AB := Hh (fun w => math_Abs h.lt w);have o1 := (ord_pos h.lo h.hi h.m_lt h.eq).2.1;clear h;go_enter Tryz.func101, Tryz.ntmps101
 go_wp2_with fail
 refine (AB.out _).mono ?_
 rintro e w1 ⟨rfl, rfl⟩
 go_wp2_with fail
 go_ret
 exact ⟨by first | rfl | simp [o1], rfl⟩
theorem math_IsNaN {D e m : Nat} (h : Pos D e m) (w : World) : Calls Tryz.prog 102 #[.float .f64 D] w fun e w' => e = .returned (.bool false) ∧ w' = w := by
 have o1 := (ord_pos h.lo h.hi h.m_lt h.eq).2.2.2;clear h;go_enter Tryz.func102, Tryz.ntmps102
 go_wp2_with fail
 go_ret
 exact ⟨by first | rfl | simp [o1], rfl⟩
theorem math_normalize {D e m : Nat} (h : Pos D e m) (w : World) : Calls Tryz.prog 103 #[.float .f64 D] w fun e w' => e = .returned (.tuple #[.float .f64 D, .int .i64 0]) ∧ w' = w := by
 have AB := Hh (fun w => math_Abs h.lt w);have o1 : (FloatKind.f64.format.order D 4503599627370496 == some .lt) = false := by rw [(ord_pos h.lo h.hi h.m_lt h.eq).2.2.1]; rfl
 clear h;go_enter Tryz.func103, Tryz.ntmps103
 go_wp2_with fail
 refine (AB.out _).mono ?_
 rintro e w1 ⟨rfl, rfl⟩
 go_wp2_with fail
 go_ret2
 exact ⟨rfl, rfl⟩
theorem math_Inf (w : World) : Calls Tryz.prog 96 #[.int .i64 1] w fun e w' => e = .returned (.float .f64 9218868437227405312) ∧ w' = w := by
 have r2 : ∀ w, (callFunc 81 #[.int .u64 9218868437227405312]).run Tryz.prog w = .ok (.value (.float .f64 9218868437227405312)) w := run_f64frombits 9218868437227405312;go_enter Tryz.func96, Tryz.ntmps96
 go_wp2_with fail
 go_ret
 exact ⟨rfl, rfl⟩
theorem math_ldexp {D e m : Nat} (h : Pos D e m) (k : Int) (q : Nat) (hk : -1000 ≤ k ∧ k ≤ 1000) (hq : (e : Int) + k = (q : Int)) (hq2 : 2 ≤ q ∧ q ≤ 2045) (w : World) :
  Calls Tryz.prog 100 #[.float .f64 D, .int .i64 k] w fun e w' => e = .returned (.float .f64 (q * 4503599627370496 + m)) ∧ w' = w := by
 obtain ⟨o1, _, _, _⟩ := ord_pos h.lo h.hi h.m_lt h.eq;have o0 : (FloatKind.f64.format.order D 0 == some .eq) = false := by rw [o1]; rfl
 have IN := Hh (fun w => math_IsInf h w);have NA := Hh (fun w => math_IsNaN h w);have NO := Hh (fun w => math_normalize h w);have r1 := run_f64bits D;have hD := h.eq;have hm := h.m_lt;have hlo := h.lo;have hhi := h.hi;have K1 : IntKind.i64.wrap (k + 0) = k := by rw [Int.add_zero]; exact IntWalk.i64_in _ (by omega)
 have K2 : (D : Int) / 4503599627370496 = (e : Int) := by omega
 have K3 : IntKind.i64.wrap (e : Int) = (e : Int) := IntWalk.i64_in _ (by omega);have K4 := i64_and_2047 (show e ≤ 2046 by omega);have K5 : IntKind.i64.wrap ((e : Int) - 1023) = (e : Int) - 1023 := IntWalk.i64_in _ (by omega);obtain ⟨x, hx⟩ : ∃ x : Int, k + ((e : Int) - 1023) = x := ⟨_, rfl⟩
 have K6 : IntKind.i64.wrap (k + ((e : Int) - 1023)) = x := by rw [hx]; exact IntWalk.i64_in _ (by omega)
 have K6b : k + ((e : Int) - 1023) = x := hx;have z1 : ¬ (x < -1075) := by omega
 have z2 : ¬ (1023 < x) := by omega
 have z3 : ¬ (x < -1022) := by omega
 have K7 := u64_mantissa h;have K8 : IntKind.i64.wrap (x + 1023) = (q : Int) := by rw [show x + 1023 = (q : Int) by omega]; exact IntWalk.i64_in _ (by omega)
 have K8b : x + 1023 = (q : Int) := by omega
 have K9 : IntKind.u64.wrap (q : Int) = (q : Int) := by rw [IntKind.wrap_u64]; omega
 have K10 : IntKind.u64.wrap ((q : Int) * 4503599627370496) = (q : Int) * 4503599627370496 := by rw [IntKind.wrap_u64]; omega
 have K11 := u64_expo (show q ≤ 2046 by omega) hm;obtain ⟨R, hR⟩ : ∃ R, q * 4503599627370496 + m = R := ⟨_, rfl⟩
 have hmul : floatBits .mul .f64 4607182418800017408 R = some R := by
  have := mul_one_f (s := 0) (e := q) (m := m) (by omega) (by omega) (by omega) hm;rw [Nat.zero_mul, Nat.zero_add, hR] at this
  exact this
 have r3 := run_f64frombits R;rw [hR] at K11;rw [hR];have r4 : ∀ w, (binOp .mul 124 (.float .f64 4607182418800017408) (.float .f64 R)).run Tryz.prog w = .ok (.float .f64 R) w := fun w => run_float_arith w .mul _ .f64 _ _ R hmul
 obtain ⟨hk1, hk2⟩ := hk;have he1 : (2 : Int) ≤ (e : Int) := by omega
 have he2 : (e : Int) ≤ 2045 := by omega
 have hx1 : -1021 ≤ x := by omega
 have hx2 : x ≤ 1022 := by omega
 have hq1 : (2 : Int) ≤ (q : Int) := by omega
 have hq3 : (q : Int) ≤ 2045 := by omega
 clear h hD hm hlo hhi hq hq2 hx hmul hR o1;go_enter Tryz.func100, Tryz.ntmps100
 go_wp2_with fail
 refine (IN.out _).mono ?_
 rintro e w1 ⟨rfl, rfl⟩
 go_wp2_with fail
 refine (NA.out _).mono ?_
 rintro e w1 ⟨rfl, rfl⟩
 go_wp2_with fail
 refine (NO.out _).mono ?_
 rintro e w1 ⟨rfl, rfl⟩
 go_wp2_with fail
 go_ret
 exact ⟨rfl, rfl⟩
end Go.Proofs.YtlebpackbfcfeaaGreatDoor
