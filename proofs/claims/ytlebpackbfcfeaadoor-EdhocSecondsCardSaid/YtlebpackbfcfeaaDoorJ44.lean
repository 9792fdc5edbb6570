/- squeezed. Walks: the law of external data: which are small enough, and which are the same. Walks: writing the second message. -/
import Derived.Test.YtlebpackbfcfeaaDoorJ42
set_option linter.unusedVariables false
set_option linter.unusedSimpArgs false
namespace Go.Proofs.YtlebpackbfcfeaaDoor
open Go.RowKit

def IsTruth (e : Ending) : Prop := ∃ b : Bool, e = .returned (.bool b)
end Go.Proofs.YtlebpackbfcfeaaDoor
namespace Go.Proofs.YtlebpackbfcfeaaDoor
open Go.RowKit

theorem SrcR.one {w : World} {b : Nat} {t : TypeId} {A : Option Addr} {c : Nat} {x : List UInt8} (hB : Blk w b t #[.slice A x.length c]) (hx : Src w A (x.map byteV)) : SrcR w (some ⟨b, 0, none⟩) [x] := fun _ => by
 refine ⟨b, 0, rfl, fun j hj => ?_⟩
 have : j = 0 := by simp at hj; omega
 subst this
 exact ⟨A, c, hB.cell 0 rfl, hx⟩
theorem SrcR.two {w : World} {b : Nat} {t : TypeId} {A B : Option Addr} {c d : Nat} {x y : List UInt8} (hB : Blk w b t #[.slice A x.length c, .slice B y.length d]) (hx : Src w A (x.map byteV)) (hy : Src w B (y.map byteV)) : SrcR w (some ⟨b, 0, none⟩) [x, y] := fun _ => by
 refine ⟨b, 0, rfl, fun j hj => ?_⟩
 rcases (by simp at hj; omega : j = 0 ∨ j = 1) with rfl | rfl
 · exact ⟨A, c, hB.cell 0 rfl, hx⟩
 · exact ⟨B, d, hB.cell 1 rfl, hy⟩

set_option maxRecDepth 100000 in
set_option maxHeartbeats 6400000 in
theorem e_EncodeSecond {H : Snap} (w : World) (hH : Holds w H) {A B : Option Addr} {n m c d : Nat} {p q : List UInt8} (hn : n = p.length) (hm : m = q.length) (hp : IsBytes H A c p) (hq : IsBytes H B d q) :
   Calls Tryd.prog 34 #[.slice A n c, .slice B m d] w (BytesOut w (encSecond p q)) := by
 have HN := Lib.hid (And.intro hn hm)
 have HP := Lib.hid (Src.of_row hp.row hH)
 have HQ := Lib.hid (Src.of_row hq.row hH)
 clear hn hm hp hq hH
 go_enter Tryd.func34, Tryd.ntmps34
 by_cases c1 : n = 32
 case neg =>
   have c1a : ((n : Int) != 32) = true := by rw [bne_iff_ne]; omega
   have c1b : ((n : Int) = 32) = False := eq_false (by omega)
   have E : Hid (encSecond p q = .error 1) := by rw [Hid, encSecond, if_pos (by have := HN.out; omega)]
   clear HP HQ
   go_wp2_with fail
   go_ret2
   exact BytesOut.err (q := 1) E.out rfl (Below.refl _ _)
 subst c1
 by_cases c2 : m = 0
 · subst c2
   have E : Hid (encSecond p q = .error 1) := by rw [Hid, encSecond, if_pos (by have := HN.out; omega)]
   clear HP HQ
   go_wp2_with fail
   go_ret2
   exact BytesOut.err (q := 1) E.out rfl (Below.refl _ _)
 have c2a : ¬ ((m : Int) < 1) := by omega
 have c2d : decide ((m : Int) < 1) = false := decide_eq_false c2a
 by_cases c3 : 600 < m
 · have c3a : (600 : Int) < (m : Int) := by omega
   have c3d : decide ((600 : Int) < (m : Int)) = true := decide_eq_true c3a
   have c3n : decide (600 < m) = true := decide_eq_true c3
   have E : Hid (encSecond p q = .error 1) := by rw [Hid, encSecond, if_pos (by have := HN.out; omega)]
   clear HP HQ
   go_wp2_with fail
   go_ret2
   exact BytesOut.err (q := 1) E.out rfl (Below.refl _ _)
 have c3a : ¬ ((600 : Int) < (m : Int)) := by omega
 have c3d : decide ((600 : Int) < (m : Int)) = false := decide_eq_false c3a
 have c3n : decide (600 < m) = false := decide_eq_false c3
 have HM := Lib.hid (show m ≠ 0 ∧ m ≤ 600 by omega)
 have E : Hid (encSecond p q = .ok (strB (p ++ q))) := by rw [Hid, encSecond, if_neg (by have := HN.out; have := HM.out; omega)]
 go_wp2_with (at_builtin; refine stop_in ?_)
 unfold Stopped
 refine wpList_app_bytes rfl (.const (.slice none 0 0)) (.tmp 19) rfl w.heap.size (.slice none 0 0) [] rfl (OwnB.nil _ _) A 32 c p rfl HN.out.1 HP.out (by have := HN.out.1; simp; omega) (Nat.le_refl _) fun v' w1 hO1 hg1 hat1 => ?_
 rw [List.nil_append] at hO1
 have hb1 := grown_none (by simpa [Value.ownBlock] using hg1)
 obtain ⟨RA, rc, rfl, _⟩ := hO1.form
 have HQ1 := Lib.hid (HQ.out.below hb1)
 clear hg1 hat1 c2 c3
 go_wp2_with (at_builtin; refine stop_in ?_)
 unfold Stopped
 refine wpList_app_bytes rfl (.tmp 20) (.tmp 21) rfl w.heap.size _ p rfl hO1 B m d q rfl HN.out.2 HQ1.out (by have := HN.out; have := HM.out; omega) hb1.size fun v' w2 hO2 hg2 hat2 => ?_
 have hb2 := hb1.grown hg2 hb1.size (fun q hq => (hO1.lt q hq).1)
 obtain ⟨RB, rd, rfl, _, _, hs2⟩ := hO2.form
 obtain ⟨pq, hpq⟩ : ∃ pq, p ++ q = pq := ⟨_, rfl⟩
 have HPL : Hid (pq.length ≤ 632) := by rw [Hid, ← hpq, List.length_append]; have := HN.out; have := HM.out; omega
 rw [hpq] at hO2 hs2 E ⊢
 have ST := Lib.hid (wire_Str (c := rd) (l := pq) (A := RB) rfl (by have := HPL.out; omega) w2 hs2)
 clear hO1 hO2 hg2 hat2 hs2 hpq hb1
 go_wp2_with fail
 refine ST.out.mono ?_
 rintro e w3 ⟨r, rfl, hf3⟩
 go_wp2_with fail
 go_ret2
 exact BytesOut.ok E.out rfl (Fresh.step_ hb2 hf3)
set_option maxRecDepth 100000 in
set_option maxHeartbeats 6400000 in
theorem ref_EncodeSecond {H : Snap} (w : World) (hH : Holds w H) {A B : Option Addr} {n m c d : Nat} {p q : List UInt8} (hn : n = p.length) (hm : m = q.length) (hp : IsBytes H A c p) (hq : IsBytes H B d q) :
   Calls Tryd.prog 30 #[.slice A n c, .slice B m d] w (BytesOut w (encSecond p q)) := by
 have HN := Lib.hid (And.intro hn hm)
 have HP := Lib.hid (Src.of_row hp.row hH)
 have HQ := Lib.hid (Src.of_row hq.row hH)
 clear hn hm hp hq hH
 go_enter Tryd.func30, Tryd.ntmps30
 by_cases c1 : n = 32
 case neg =>
   have c1a : ((n : Int) != 32) = true := by rw [bne_iff_ne]; omega
   have c1b : ((n : Int) = 32) = False := eq_false (by omega)
   have E : Hid (encSecond p q = .error 1) := by rw [Hid, encSecond, if_pos (by have := HN.out; omega)]
   clear HP HQ
   go_wp2_with fail
   go_ret2
   exact BytesOut.err (q := 1) E.out rfl (Below.refl _ _)
 subst c1
 by_cases c2 : m = 0
 · subst c2
   have E : Hid (encSecond p q = .error 1) := by rw [Hid, encSecond, if_pos (by have := HN.out; omega)]
   clear HP HQ
   go_wp2_with fail
   go_ret2
   exact BytesOut.err (q := 1) E.out rfl (Below.refl _ _)
 have c2a : ¬ ((m : Int) < 1) := by omega
 have c2d : decide ((m : Int) < 1) = false := decide_eq_false c2a
 by_cases c3 : 600 < m
 · have c3a : (600 : Int) < (m : Int) := by omega
   have c3d : decide ((600 : Int) < (m : Int)) = true := decide_eq_true c3a
   have c3n : decide (600 < m) = true := decide_eq_true c3
   have E : Hid (encSecond p q = .error 1) := by rw [Hid, encSecond, if_pos (by have := HN.out; omega)]
   clear HP HQ
   go_wp2_with fail
   go_ret2
   exact BytesOut.err (q := 1) E.out rfl (Below.refl _ _)
 have c3a : ¬ ((600 : Int) < (m : Int)) := by omega
 have c3d : decide ((600 : Int) < (m : Int)) = false := decide_eq_false c3a
 have c3n : decide (600 < m) = false := decide_eq_false c3
 have HM := Lib.hid (show m ≠ 0 ∧ m ≤ 600 by omega)
 have E : Hid (encSecond p q = .ok (strB (p ++ q))) := by rw [Hid, encSecond, if_neg (by have := HN.out; have := HM.out; omega)]
 have hn32 := Lib.hid (show (32 : Nat) = p.length from HN.out.1)
 obtain ⟨p', hp'⟩ : ∃ p', p = p' := ⟨_, rfl⟩
 have hB := Blk.new w 24 #[.slice A 32 c, .slice B m d]
 have hb1 := (Below.refl w.heap.size w).alloc (Nat.le_refl _) (.cells #[.slice A 32 c, .slice B m d] 24)
 have hB' : Blk (w.alloc (.cells #[.slice A 32 c, .slice B m d] 24)) w.heap.size 24 #[.slice A p.length c, .slice B q.length d] := by rw [← HN.out.1, ← HN.out.2]; exact hB
 have HJ := ref_Join (A := some ⟨w.heap.size, 0, none⟩) (n := 2) (c := 2) (ls := [p, q]) rfl (by simp) (by simp; have := HN.out; have := HM.out; omega) (w.alloc (.cells #[.slice A 32 c, .slice B m d] 24)) (SrcR.two hB' (HP.out.below hb1) (HQ.out.below hb1))
 rw [show ([p, q] : List (List UInt8)).flatten = p ++ q by simp] at HJ
 have HJ := Lib.hid HJ
 clear hB hB' c2 c3
 go_wp2_with fail
 refine HJ.out.mono ?_
 rintro e w2 ⟨r, rfl, hf2⟩
 have hb2 := hb1.trans (hf2.2.mono hb1.size)
 obtain ⟨RB, rd, rfl, _, _, hs2⟩ := hf2.own.form
 obtain ⟨pq, hpq⟩ : ∃ pq, p ++ q = pq := ⟨_, rfl⟩
 have HPL : Hid (pq.length ≤ 632) := by rw [Hid, ← hpq, List.length_append]; have := HN.out; have := HM.out; omega
 rw [hpq] at hs2 E ⊢
 have ST := Lib.hid (ref_Str (c := rd) (l := pq) (A := RB) rfl (by have := HPL.out; omega) w2 hs2)
 clear hf2 hs2 hpq hb1 HJ
 go_wp2_with fail
 refine ST.out.mono ?_
 rintro e w3 ⟨r, rfl, hf3⟩
 go_wp2_with fail
 go_ret2
 exact BytesOut.ok E.out rfl (Fresh.step_ hb2 hf3)
end Go.Proofs.YtlebpackbfcfeaaDoor
