/- Walks: cbor.plain. -/
import Derived.Test.YtdbhgngikglmcaaDoorJpure
import Derived.Test.YtdbhgngikglmcaaDoorJlow
import Derived.Shelf.Unicode.DecodeSlow
import Derived.Test.YtdbhgngikglmcaaDoorUtf2
set_option linter.unusedVariables false
set_option linter.unusedSimpArgs false
namespace Go.Proofs.YtdbhgngikglmcaaDoor
open Go.RowKit

theorem nn_eq (n : Nat) : ((n : Int) == 9221120237041090560) = (n == 9221120237041090560) := by rw [Bool.eq_iff_iff, beq_iff_eq, beq_iff_eq]; omega
theorem len0 {α : Type} (l : List α) : ((l.length : Int) == 0) = l.isEmpty := by cases l <;> simp <;> omega
theorem tup2 {a b c d : Bool} (h : a = b) (k : c = d) : Ending.returned (.tuple #[.bool a, .bool c]) = Ending.returned (.tuple #[.bool b, .bool d]) := by rw [h, k]

set_option maxRecDepth 100000 in
set_option maxHeartbeats 1600000 in
theorem plain_a {H : Snap} {x : Itm} {ba : Option Addr} {bc : Nat} {ia : Option Addr} {ic : Nat} (hx : IsItem H ba bc ia ic x) (w : World) (hk : x.kind = 0 ∨ x.kind = 1 ∨ x.kind = 2 ∨ x.kind = 7):
    Calls Tryd.prog 72 #[itemV x ba bc ia ic] w fun e w' => e = .returned (.tuple #[.bool (okPlain x), .bool (isPlain x)]) ∧ Below w.heap.size w w' := by
  obtain ⟨_, _, hn, hb1, hb2, hi1, hi2⟩ := hx.bounds
  have hb : x.bytes.length ≤ 9223372036854775807 := by omega
  have hi : x.items.length ≤ 9223372036854775807 := by omega
  have HN := Lib.hid hn
  clear hb1 hb2 hi1 hi2 hx hn
  rcases hk with hk | hk | hk | hk
  all_goals
    have E : Hid (okPlain x = okPlain x ∧ isPlain x = true) := ⟨rfl, by simp [isPlain, hk]⟩
    go_enter Tryd.func72, Tryd.ntmps72
    go_wp2
    all_goals go_ret2
  all_goals refine ⟨tup2 ?_ E.out.2.symm, ?_⟩
  all_goals first | exact below_box w _ | exact (below_box w _).drew | skip
  all_goals (simp [okPlain, len0, *]; try (rw [Bool.eq_iff_iff]; simp; omega); skip)
  all_goals omega

set_option maxRecDepth 100000 in
set_option maxHeartbeats 1600000 in
theorem plain_t {H : Snap} (hT : Tabs H) {x : Itm} {ba : Option Addr} {bc : Nat} {ia : Option Addr} {ic : Nat} (hx : IsItem H ba bc ia ic x) (w : World) (hH : Holds w H) (hk : x.kind = 3):
    Calls Tryd.prog 72 #[itemV x ba bc ia ic] w fun e w' => e = .returned (.tuple #[.bool (okPlain x), .bool (isPlain x)]) ∧ Below w.heap.size w w' := by
  obtain ⟨_, _, hn, hb1, hb2, hi1, hi2⟩ := hx.bounds
  have hb : x.bytes.length ≤ 9223372036854775807 := by omega
  have hi : x.items.length ≤ 9223372036854775807 := by omega
  have HN := Lib.hid hn
  have hby := hx.bytes
  clear hb1 hb2 hi1 hi2 hx hn
  have E : Hid (isPlain x = true) := by simp [Hid, isPlain, hk]
  go_enter Tryd.func72, Tryd.ntmps72
  go_wp2_with (go_at_call 80; refine (utf8_Valid hT _ (hH.alloc _) ba _ _ bc rfl hby).mono ?_; rintro e w1 ⟨rfl, hb1⟩)
  all_goals go_ret2
  all_goals refine ⟨tup2 ?_ E.out.symm, ?_⟩
  all_goals first | exact (below_box w _).trans (hb1.mono (by simp)) | exact below_box w _ | exact (below_box w _).drew | skip
  all_goals (simp [okPlain, *])

set_option maxRecDepth 100000 in
set_option maxHeartbeats 1600000 in
theorem plain_f {H : Snap} {x : Itm} {ba : Option Addr} {bc : Nat} {ia : Option Addr} {ic : Nat} (hx : IsItem H ba bc ia ic x) (w : World) (hk : x.kind = 8) :
    Calls Tryd.prog 72 #[itemV x ba bc ia ic] w fun e w' => e = .returned (.tuple #[.bool (okPlain x), .bool (isPlain x)]) ∧ Below w.heap.size w w' := by
  obtain ⟨_, _, hn, hb1, hb2, hi1, hi2⟩ := hx.bounds
  have hb : x.bytes.length ≤ 9223372036854775807 := by omega
  have hi : x.items.length ≤ 9223372036854775807 := by omega
  have HN := Lib.hid hn
  clear hb1 hb2 hi1 hi2 hx hn
  have E : Hid (isPlain x = true) := by simp [Hid, isPlain, hk]
  go_enter Tryd.func72, Tryd.ntmps72
  have r1 := run_f64frombits x.n
  have r2 := order_feq x.n
  go_wp2
  all_goals go_ret2
  all_goals refine ⟨tup2 ?_ E.out.symm, ?_⟩
  all_goals first | exact below_box w _ | exact (below_box w _).drew | skip
  all_goals simp [okPlain, notNumber, nn_eq, *]

set_option maxRecDepth 100000 in
set_option maxHeartbeats 1600000 in
theorem plain_o {x : Itm} {ba : Option Addr} {bc : Nat} {ia : Option Addr} {ic : Nat} (w : World) (hk : isPlain x = false) :
    Calls Tryd.prog 72 #[itemV x ba bc ia ic] w fun e w' => e = .returned (.tuple #[.bool (okPlain x), .bool (isPlain x)]) ∧ Below w.heap.size w w' := by
  have h : (x.kind == 0) = false ∧ (x.kind == 1) = false ∧ (x.kind == 2) = false ∧ (x.kind == 3) = false ∧ (x.kind == 7) = false ∧ (x.kind == 8) = false := by
    simp only [isPlain, Bool.or_eq_false_iff] at hk
    simp only [hk, and_self]
  obtain ⟨h0, h1, h2, h3, h7, h8⟩ := h
  have E : Hid (isPlain x = false ∧ okPlain x = false) := ⟨hk, by
    simp only [beq_eq_false_iff_ne, ne_eq] at h0 h1 h2 h3 h7 h8
    simp [okPlain, *]⟩
  clear hk
  go_enter Tryd.func72, Tryd.ntmps72
  go_wp2
  go_ret2
  exact ⟨tup2 E.out.2.symm E.out.1.symm, below_box w _⟩

theorem cbor_plain {H : Snap} (hT : Tabs H) {k n : Int} {ba : Option Addr} {bl bc : Nat} {ia : Option Addr} {il ic : Nat} {x : Itm} (hx : ItemA H k n ba bl bc ia il ic x) (w : World) (hH : Holds w H) :
    Calls Tryd.prog 72 #[.agg #[.int .i64 k, .int .u64 n, .slice ba bl bc, .slice ia il ic]] w fun e w' => e = .returned (.tuple #[.bool (okPlain x), .bool (isPlain x)]) ∧ Below w.heap.size w w' := by
  obtain ⟨rfl, rfl, rfl, rfl, hx⟩ := hx
  by_cases h3 : x.kind = 3
  · exact plain_t hT hx w hH h3
  by_cases h8 : x.kind = 8
  · exact plain_f hx w h8
  by_cases ha : x.kind = 0 ∨ x.kind = 1 ∨ x.kind = 2 ∨ x.kind = 7
  · exact plain_a hx w ha
  · exact plain_o w (by simp [isPlain]; omega)
end Go.Proofs.YtdbhgngikglmcaaDoor
