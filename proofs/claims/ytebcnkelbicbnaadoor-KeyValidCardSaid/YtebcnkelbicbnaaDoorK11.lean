/- Walks: the references' left. Walks: the references' left: numbers, bytes, simple values. -/
import Derived.Test.YtebcnkelbicbnaaDoorK06
import Derived.Test.YtebcnkelbicbnaaDoorK10
set_option linter.unusedVariables false
set_option linter.unusedSimpArgs false
namespace Go.Proofs.YtebcnkelbicbnaaDoor
open Go.RowKit

def leftI : Option Nat → Int
  | none => -1
  | some r => r
def LeftSaid (x : Itm) : Prop := ∀ (H : Snap), Tabs H → ∀ (k n : Int) (ba : Option Addr) (bl bc : Nat) (ia : Option Addr) (il ic : Nat) (w : World) (c d : Nat),
  ItemA H k n ba bl bc ia il ic x → Holds w H → c ≤ 65536 → d ≤ 65536 →
  Calls Tryd.prog 58 #[.agg #[.int .i64 k, .int .u64 n, .slice ba bl bc, .slice ia il ic], .int .i64 c, .int .i64 d] w fun e w' => e = .returned (.int .i64 (leftI (leftP x c d))) ∧ Below w.heap.size w w'
set_option maxRecDepth 100000 in
theorem left_zero (x : Itm) {H : Snap} {ba : Option Addr} {bc : Nat} {ia : Option Addr} {ic : Nat} (w : World) (d : Nat) :
    Calls Tryd.prog 58 #[itemV x ba bc ia ic, .int .i64 0, .int .i64 d] w fun e w' => e = .returned (.int .i64 (leftI (leftP x 0 d))) ∧ Below w.heap.size w w' := by
  have E : Hid (leftP x 0 d = none) := by rw [Hid, leftP_eq, if_pos (by omega)]
  go_enter Tryd.func58, Tryd.ntmps58
  go_wp2_with fail
  go_ret
  exact ⟨by rw [E.out]; rfl, below_box w _⟩
theorem left_none {x : Itm} {c d : Nat} (h : nodeR x d (c - 1) = false) : leftP x c d = none := by
  rw [leftP_eq]
  by_cases h1 : c < 1
  · rw [if_pos h1]
  · rw [if_neg h1, if_pos h]
theorem nodeR_01 {x : Itm} {d m : Nat} (hk : x.kind = 0 ∨ x.kind = 1) : nodeR x d m = true ↔ x.bytes.length = 0 ∧ x.items.length = 0 := by
  have hp := (isPlain_iff x).2 (by omega)
  unfold nodeR nodeOk okPlain
  rw [if_pos hp, if_pos hk]
  simp only [Bool.and_eq_true, List.isEmpty_iff, decide_eq_true_eq, List.length_eq_zero_iff]
  constructor
  · rintro ⟨⟨⟨a, b⟩, _⟩, _⟩; exact ⟨a, b⟩
  · rintro ⟨a, b⟩; exact ⟨⟨⟨a, b⟩, by rw [a]; simp⟩, by rw [b]; simp⟩
theorem nodeR_2 {x : Itm} {d m : Nat} (hk : x.kind = 2) : nodeR x d m = true ↔ x.n = 0 ∧ x.items.length = 0 ∧ x.bytes.length ≤ 4096 := by
  have hp := (isPlain_iff x).2 (by omega)
  unfold nodeR nodeOk okPlain
  rw [if_pos hp, if_neg (by omega), if_pos hk]
  simp only [Bool.and_eq_true, List.isEmpty_iff, decide_eq_true_eq, List.length_eq_zero_iff, beq_iff_eq]
  constructor
  · rintro ⟨⟨⟨a, b⟩, c⟩, _⟩; exact ⟨a, b, c⟩
  · rintro ⟨a, b, c⟩; exact ⟨⟨⟨a, b⟩, c⟩, by rw [b]; simp⟩
theorem nodeR_3 {x : Itm} {d m : Nat} (hk : x.kind = 3) : nodeR x d m = true ↔ x.n = 0 ∧ x.items.length = 0 ∧ x.bytes.length ≤ 4096 ∧ Lib.validD x.bytes = true := by
  have hp := (isPlain_iff x).2 (by omega)
  unfold nodeR nodeOk okPlain
  rw [if_pos hp, if_neg (by omega), if_neg (by omega), if_pos hk]
  simp only [Bool.and_eq_true, List.isEmpty_iff, decide_eq_true_eq, List.length_eq_zero_iff, beq_iff_eq]
  constructor
  · rintro ⟨⟨⟨⟨a, b⟩, v⟩, c⟩, _⟩; exact ⟨a, b, c, v⟩
  · rintro ⟨a, b, c, v⟩; exact ⟨⟨⟨⟨a, b⟩, v⟩, c⟩, by rw [b]; simp⟩
theorem nodeR_7 {x : Itm} {d m : Nat} (hk : x.kind = 7) : nodeR x d m = true ↔ x.bytes.length = 0 ∧ x.items.length = 0 ∧ (x.n < 24 ∨ (32 ≤ x.n ∧ x.n < 256)) := by
  have hp := (isPlain_iff x).2 (by omega)
  unfold nodeR nodeOk okPlain
  rw [if_pos hp, if_neg (by omega), if_neg (by omega), if_neg (by omega), if_pos hk]
  simp only [Bool.and_eq_true, Bool.or_eq_true, List.isEmpty_iff, decide_eq_true_eq, List.length_eq_zero_iff, beq_iff_eq]
  constructor
  · rintro ⟨⟨⟨⟨a, b⟩, v⟩, _⟩, _⟩; exact ⟨a, b, v⟩
  · rintro ⟨a, b, v⟩; exact ⟨⟨⟨⟨a, b⟩, v⟩, by rw [a]; simp⟩, by rw [b]; simp⟩
theorem nodeR_8 {x : Itm} {d m : Nat} (hk : x.kind = 8) : nodeR x d m = true ↔ x.bytes.length = 0 ∧ x.items.length = 0 ∧ (isNaN x.n = false ∨ x.n = notNumber) := by
  have hp := (isPlain_iff x).2 (by omega)
  unfold nodeR nodeOk okPlain
  rw [if_pos hp, if_neg (by omega), if_neg (by omega), if_neg (by omega), if_neg (by omega), if_pos hk]
  simp only [Bool.and_eq_true, Bool.or_eq_true, List.isEmpty_iff, decide_eq_true_eq, List.length_eq_zero_iff, beq_iff_eq, Bool.not_eq_true']
  constructor
  · rintro ⟨⟨⟨⟨a, b⟩, v⟩, _⟩, _⟩; exact ⟨a, b, v⟩
  · rintro ⟨a, b, v⟩; exact ⟨⟨⟨⟨a, b⟩, v⟩, by rw [a]; simp⟩, by rw [b]; simp⟩
theorem nodeR_456 {x : Itm} {d m : Nat} (hk : 4 ≤ x.kind ∧ x.kind ≤ 6) : nodeR x d m = true ↔ d < 8 ∧ x.bytes.length = 0 ∧ (x.kind = 6 → x.items.length = 1) ∧ (x.kind ≠ 6 → x.n = 0) ∧ (x.kind = 5 → x.items.length % 2 = 0) ∧ x.items.length ≤ m := by
  have hp : ¬ isPlain x = true := by rw [isPlain_iff]; omega
  unfold nodeR nodeOk frameOk
  rw [if_neg hp]
  simp only [Bool.and_eq_true, decide_eq_true_eq]
  constructor
  · rintro ⟨⟨⟨_, _, a, b, c, d, e⟩, _⟩, f⟩; exact ⟨a, b, c, d, e, f⟩
  · rintro ⟨a, b, c, d, e, f⟩; exact ⟨⟨⟨hk.1, hk.2, a, b, c, d, e⟩, by omega⟩, f⟩
theorem nodeR_out {x : Itm} {d m : Nat} (hk : x.kind < 0 ∨ 8 < x.kind) : nodeR x d m = false := by
  cases h : nodeR x d m with
  | false => rfl
  | true =>
    have := nodeOk_kind (nodeR_spec h).1
    omega
theorem left_flat {x : Itm} {c d : Nat} (hc : 0 < c) (h : nodeR x d (c - 1) = true) (h0 : x.items.length = 0) : leftP x c d = some (c - 1) := by
  rw [List.length_eq_zero_iff] at h0
  rw [leftP_eq, if_neg (by omega), if_neg (by simp [h]), h0, leftL]
  simp only
  rw [if_neg (by rintro ⟨_, h⟩; cases h)]
end Go.Proofs.YtebcnkelbicbnaaDoor
namespace Go.Proofs.YtebcnkelbicbnaaDoor
open Go.RowKit

set_option maxRecDepth 100000 in
set_option maxHeartbeats 6400000 in
theorem left_k0 (x : Itm) (hk : x.kind = 0) {H : Snap} (hT : Tabs H) (ih : ∀ y : Itm, cnt y < cnt x → LeftSaid y) {ba : Option Addr} {bc : Nat} {ia : Option Addr} {ic : Nat} (hx : IsItem H ba bc ia ic x) (w : World) (hH : Holds w H) (c d : Nat) (hc0 : 0 < c) (hc : c ≤ 65536) (hd : d ≤ 65536) :
    Calls Tryd.prog 58 #[itemV x ba bc ia ic, .int .i64 c, .int .i64 d] w fun e w' => e = .returned (.int .i64 (leftI (leftP x c d))) ∧ Below w.heap.size w w' := by
  have HX := Lib.hid hx
  have hbd := hx.bounds
  have hB := Blk.new w 34 #[.int .i64 x.kind, .int .u64 x.n, .slice ba x.bytes.length bc, .slice ia x.items.length ic]
  have hb0 := below_box w (itemO x ba bc ia ic)
  have hc1 : ((c - 1 : Nat) : Int) = (c : Int) - 1 := by omega
  have hbl : x.bytes.length ≤ 9223372036854775807 := by omega
  have hil : x.items.length ≤ 9223372036854775807 := by omega
  have HN := Lib.hid hbd.2.2.1
  have hci : ¬ (c : Int) < 1 := by omega
  have k0 : ¬ x.kind < 0 := by omega
  have k8 : ¬ 8 < x.kind := by omega
  have HK := Lib.hid hk
  have HC1 := Lib.hid hc1
  clear hx hbd hc1
  obtain ⟨b0, b1, b2, b3, b4, b5, b6, b7, b8⟩ := kinds0 hk
  clear hk
  by_cases hn0 : x.n = 0
  · have bn00 : ((x.n : Int) != 0) = false := by simp [hn0]
    have bn01 : (x.n = 0) = True := by first | exact eq_true hn0 | exact eq_false hn0
    have HN0 := Lib.hid hn0
    clear hn0
    go_enter Tryd.func58, Tryd.ntmps58
    go_upto_region 22 with fail
    any_goals
      (have hbad : nodeR x d (c - 1) = false := by
        cases hq : nodeR x d (c - 1) with
        | false => rfl
        | true => exact absurd ((nodeR_01 (.inl HK.out)).1 hq) (by have hn0 := HN0.out; omega)
       go_ret
       exact ⟨by rw [left_none hbad]; rfl, hb0⟩)
    all_goals
      have hgood : nodeR x d (c - 1) = true := (nodeR_01 (.inl HK.out)).2 ⟨by omega, by omega⟩
      have hi0 : x.items.length = 0 := by have hn0 := HN0.out; omega
      have hk := HK.out
      have E : Hid (leftP x c d = some (c - 1)) := left_flat hc0 hgood hi0
      have hli : ¬ (0 : Int) < x.items.length := by omega
      have hl2 : ¬ (2 : Int) < x.items.length := by omega
      have HI := Lib.hid hi0
      have HC := Lib.hid hgood
      clear hi0 hk hgood
      have c0 := hB.cell 0 rfl
      have c3 := hB.cell 3 rfl
      go_wp2_with fail
      refine wp_loop_rounds 1 ?_
      rw [rounds_succ]
      go_wp2_with fail
      refine wp_loop_rounds 1 ?_
      rw [rounds_succ]
      go_wp2_with fail
      go_ret
      exact ⟨by rw [E.out, ← HC1.out]; rfl, hb0⟩
  · have bn00 : ((x.n : Int) != 0) = true := by simp [hn0]
    have bn01 : (x.n = 0) = False := by first | exact eq_true hn0 | exact eq_false hn0
    have HN0 := Lib.hid hn0
    clear hn0
    go_enter Tryd.func58, Tryd.ntmps58
    go_upto_region 22 with fail
    any_goals
      (have hbad : nodeR x d (c - 1) = false := by
        cases hq : nodeR x d (c - 1) with
        | false => rfl
        | true => exact absurd ((nodeR_01 (.inl HK.out)).1 hq) (by have hn0 := HN0.out; omega)
       go_ret
       exact ⟨by rw [left_none hbad]; rfl, hb0⟩)
    all_goals
      have hgood : nodeR x d (c - 1) = true := (nodeR_01 (.inl HK.out)).2 ⟨by omega, by omega⟩
      have hi0 : x.items.length = 0 := by have hn0 := HN0.out; omega
      have hk := HK.out
      have E : Hid (leftP x c d = some (c - 1)) := left_flat hc0 hgood hi0
      have hli : ¬ (0 : Int) < x.items.length := by omega
      have hl2 : ¬ (2 : Int) < x.items.length := by omega
      have HI := Lib.hid hi0
      have HC := Lib.hid hgood
      clear hi0 hk hgood
      have c0 := hB.cell 0 rfl
      have c3 := hB.cell 3 rfl
      go_wp2_with fail
      refine wp_loop_rounds 1 ?_
      rw [rounds_succ]
      go_wp2_with fail
      refine wp_loop_rounds 1 ?_
      rw [rounds_succ]
      go_wp2_with fail
      go_ret
      exact ⟨by rw [E.out, ← HC1.out]; rfl, hb0⟩
set_option maxRecDepth 100000 in
set_option maxHeartbeats 6400000 in
theorem left_k1 (x : Itm) (hk : x.kind = 1) {H : Snap} (hT : Tabs H) (ih : ∀ y : Itm, cnt y < cnt x → LeftSaid y) {ba : Option Addr} {bc : Nat} {ia : Option Addr} {ic : Nat} (hx : IsItem H ba bc ia ic x) (w : World) (hH : Holds w H) (c d : Nat) (hc0 : 0 < c) (hc : c ≤ 65536) (hd : d ≤ 65536) :
    Calls Tryd.prog 58 #[itemV x ba bc ia ic, .int .i64 c, .int .i64 d] w fun e w' => e = .returned (.int .i64 (leftI (leftP x c d))) ∧ Below w.heap.size w w' := by
  have HX := Lib.hid hx
  have hbd := hx.bounds
  have hB := Blk.new w 34 #[.int .i64 x.kind, .int .u64 x.n, .slice ba x.bytes.length bc, .slice ia x.items.length ic]
  have hb0 := below_box w (itemO x ba bc ia ic)
  have hc1 : ((c - 1 : Nat) : Int) = (c : Int) - 1 := by omega
  have hbl : x.bytes.length ≤ 9223372036854775807 := by omega
  have hil : x.items.length ≤ 9223372036854775807 := by omega
  have HN := Lib.hid hbd.2.2.1
  have hci : ¬ (c : Int) < 1 := by omega
  have k0 : ¬ x.kind < 0 := by omega
  have k8 : ¬ 8 < x.kind := by omega
  have HK := Lib.hid hk
  have HC1 := Lib.hid hc1
  clear hx hbd hc1
  obtain ⟨b0, b1, b2, b3, b4, b5, b6, b7, b8⟩ := kinds1 hk
  clear hk
  by_cases hn0 : x.n = 0
  · have bn00 : ((x.n : Int) != 0) = false := by simp [hn0]
    have bn01 : (x.n = 0) = True := by first | exact eq_true hn0 | exact eq_false hn0
    have HN0 := Lib.hid hn0
    clear hn0
    go_enter Tryd.func58, Tryd.ntmps58
    go_upto_region 22 with fail
    any_goals
      (have hbad : nodeR x d (c - 1) = false := by
        cases hq : nodeR x d (c - 1) with
        | false => rfl
        | true => exact absurd ((nodeR_01 (.inr HK.out)).1 hq) (by have hn0 := HN0.out; omega)
       go_ret
       exact ⟨by rw [left_none hbad]; rfl, hb0⟩)
    all_goals
      have hgood : nodeR x d (c - 1) = true := (nodeR_01 (.inr HK.out)).2 ⟨by omega, by omega⟩
      have hi0 : x.items.length = 0 := by have hn0 := HN0.out; omega
      have hk := HK.out
      have E : Hid (leftP x c d = some (c - 1)) := left_flat hc0 hgood hi0
      have hli : ¬ (0 : Int) < x.items.length := by omega
      have hl2 : ¬ (2 : Int) < x.items.length := by omega
      have HI := Lib.hid hi0
      have HC := Lib.hid hgood
      clear hi0 hk hgood
      have c0 := hB.cell 0 rfl
      have c3 := hB.cell 3 rfl
      go_wp2_with fail
      refine wp_loop_rounds 1 ?_
      rw [rounds_succ]
      go_wp2_with fail
      refine wp_loop_rounds 1 ?_
      rw [rounds_succ]
      go_wp2_with fail
      go_ret
      exact ⟨by rw [E.out, ← HC1.out]; rfl, hb0⟩
  · have bn00 : ((x.n : Int) != 0) = true := by simp [hn0]
    have bn01 : (x.n = 0) = False := by first | exact eq_true hn0 | exact eq_false hn0
    have HN0 := Lib.hid hn0
    clear hn0
    go_enter Tryd.func58, Tryd.ntmps58
    go_upto_region 22 with fail
    any_goals
      (have hbad : nodeR x d (c - 1) = false := by
        cases hq : nodeR x d (c - 1) with
        | false => rfl
        | true => exact absurd ((nodeR_01 (.inr HK.out)).1 hq) (by have hn0 := HN0.out; omega)
       go_ret
       exact ⟨by rw [left_none hbad]; rfl, hb0⟩)
    all_goals
      have hgood : nodeR x d (c - 1) = true := (nodeR_01 (.inr HK.out)).2 ⟨by omega, by omega⟩
      have hi0 : x.items.length = 0 := by have hn0 := HN0.out; omega
      have hk := HK.out
      have E : Hid (leftP x c d = some (c - 1)) := left_flat hc0 hgood hi0
      have hli : ¬ (0 : Int) < x.items.length := by omega
      have hl2 : ¬ (2 : Int) < x.items.length := by omega
      have HI := Lib.hid hi0
      have HC := Lib.hid hgood
      clear hi0 hk hgood
      have c0 := hB.cell 0 rfl
      have c3 := hB.cell 3 rfl
      go_wp2_with fail
      refine wp_loop_rounds 1 ?_
      rw [rounds_succ]
      go_wp2_with fail
      refine wp_loop_rounds 1 ?_
      rw [rounds_succ]
      go_wp2_with fail
      go_ret
      exact ⟨by rw [E.out, ← HC1.out]; rfl, hb0⟩
set_option maxRecDepth 100000 in
set_option maxHeartbeats 6400000 in
theorem left_k2 (x : Itm) (hk : x.kind = 2) {H : Snap} (hT : Tabs H) (ih : ∀ y : Itm, cnt y < cnt x → LeftSaid y) {ba : Option Addr} {bc : Nat} {ia : Option Addr} {ic : Nat} (hx : IsItem H ba bc ia ic x) (w : World) (hH : Holds w H) (c d : Nat) (hc0 : 0 < c) (hc : c ≤ 65536) (hd : d ≤ 65536) :
    Calls Tryd.prog 58 #[itemV x ba bc ia ic, .int .i64 c, .int .i64 d] w fun e w' => e = .returned (.int .i64 (leftI (leftP x c d))) ∧ Below w.heap.size w w' := by
  have HX := Lib.hid hx
  have hbd := hx.bounds
  have hB := Blk.new w 34 #[.int .i64 x.kind, .int .u64 x.n, .slice ba x.bytes.length bc, .slice ia x.items.length ic]
  have hb0 := below_box w (itemO x ba bc ia ic)
  have hc1 : ((c - 1 : Nat) : Int) = (c : Int) - 1 := by omega
  have hbl : x.bytes.length ≤ 9223372036854775807 := by omega
  have hil : x.items.length ≤ 9223372036854775807 := by omega
  have HN := Lib.hid hbd.2.2.1
  have hci : ¬ (c : Int) < 1 := by omega
  have k0 : ¬ x.kind < 0 := by omega
  have k8 : ¬ 8 < x.kind := by omega
  have HK := Lib.hid hk
  have HC1 := Lib.hid hc1
  clear hx hbd hc1
  obtain ⟨b0, b1, b2, b3, b4, b5, b6, b7, b8⟩ := kinds2 hk
  clear hk
  by_cases hn0 : x.n = 0
  · have bn00 : ((x.n : Int) != 0) = false := by simp [hn0]
    have bn01 : (x.n = 0) = True := by first | exact eq_true hn0 | exact eq_false hn0
    have HN0 := Lib.hid hn0
    clear hn0
    go_enter Tryd.func58, Tryd.ntmps58
    go_upto_region 22 with fail
    any_goals
      (have hbad : nodeR x d (c - 1) = false := by
        cases hq : nodeR x d (c - 1) with
        | false => rfl
        | true => exact absurd ((nodeR_2 HK.out).1 hq) (by have hn0 := HN0.out; omega)
       go_ret
       exact ⟨by rw [left_none hbad]; rfl, hb0⟩)
    all_goals
      have hgood : nodeR x d (c - 1) = true := (nodeR_2 HK.out).2 ⟨HN0.out, by omega, by omega⟩
      have hi0 : x.items.length = 0 := by have hn0 := HN0.out; omega
      have hk := HK.out
      have E : Hid (leftP x c d = some (c - 1)) := left_flat hc0 hgood hi0
      have hli : ¬ (0 : Int) < x.items.length := by omega
      have hl2 : ¬ (2 : Int) < x.items.length := by omega
      have HI := Lib.hid hi0
      have HC := Lib.hid hgood
      clear hi0 hk hgood
      have c0 := hB.cell 0 rfl
      have c3 := hB.cell 3 rfl
      go_wp2_with fail
      refine wp_loop_rounds 1 ?_
      rw [rounds_succ]
      go_wp2_with fail
      refine wp_loop_rounds 1 ?_
      rw [rounds_succ]
      go_wp2_with fail
      go_ret
      exact ⟨by rw [E.out, ← HC1.out]; rfl, hb0⟩
  · have bn00 : ((x.n : Int) != 0) = true := by simp [hn0]
    have bn01 : (x.n = 0) = False := by first | exact eq_true hn0 | exact eq_false hn0
    have HN0 := Lib.hid hn0
    clear hn0
    go_enter Tryd.func58, Tryd.ntmps58
    go_upto_region 22 with fail
    any_goals
      (have hbad : nodeR x d (c - 1) = false := by
        cases hq : nodeR x d (c - 1) with
        | false => rfl
        | true => exact absurd ((nodeR_2 HK.out).1 hq) (by have hn0 := HN0.out; omega)
       go_ret
       exact ⟨by rw [left_none hbad]; rfl, hb0⟩)
    all_goals
      have hgood : nodeR x d (c - 1) = true := (nodeR_2 HK.out).2 ⟨HN0.out, by omega, by omega⟩
      have hi0 : x.items.length = 0 := by have hn0 := HN0.out; omega
      have hk := HK.out
      have E : Hid (leftP x c d = some (c - 1)) := left_flat hc0 hgood hi0
      have hli : ¬ (0 : Int) < x.items.length := by omega
      have hl2 : ¬ (2 : Int) < x.items.length := by omega
      have HI := Lib.hid hi0
      have HC := Lib.hid hgood
      clear hi0 hk hgood
      have c0 := hB.cell 0 rfl
      have c3 := hB.cell 3 rfl
      go_wp2_with fail
      refine wp_loop_rounds 1 ?_
      rw [rounds_succ]
      go_wp2_with fail
      refine wp_loop_rounds 1 ?_
      rw [rounds_succ]
      go_wp2_with fail
      go_ret
      exact ⟨by rw [E.out, ← HC1.out]; rfl, hb0⟩
set_option maxRecDepth 100000 in
set_option maxHeartbeats 6400000 in
theorem left_k7 (x : Itm) (hk : x.kind = 7) {H : Snap} (hT : Tabs H) (ih : ∀ y : Itm, cnt y < cnt x → LeftSaid y) {ba : Option Addr} {bc : Nat} {ia : Option Addr} {ic : Nat} (hx : IsItem H ba bc ia ic x) (w : World) (hH : Holds w H) (c d : Nat) (hc0 : 0 < c) (hc : c ≤ 65536) (hd : d ≤ 65536) :
    Calls Tryd.prog 58 #[itemV x ba bc ia ic, .int .i64 c, .int .i64 d] w fun e w' => e = .returned (.int .i64 (leftI (leftP x c d))) ∧ Below w.heap.size w w' := by
  have HX := Lib.hid hx
  have hbd := hx.bounds
  have hB := Blk.new w 34 #[.int .i64 x.kind, .int .u64 x.n, .slice ba x.bytes.length bc, .slice ia x.items.length ic]
  have hb0 := below_box w (itemO x ba bc ia ic)
  have hc1 : ((c - 1 : Nat) : Int) = (c : Int) - 1 := by omega
  have hbl : x.bytes.length ≤ 9223372036854775807 := by omega
  have hil : x.items.length ≤ 9223372036854775807 := by omega
  have HN := Lib.hid hbd.2.2.1
  have hci : ¬ (c : Int) < 1 := by omega
  have k0 : ¬ x.kind < 0 := by omega
  have k8 : ¬ 8 < x.kind := by omega
  have HK := Lib.hid hk
  have HC1 := Lib.hid hc1
  clear hx hbd hc1
  obtain ⟨b0, b1, b2, b3, b4, b5, b6, b7, b8⟩ := kinds7 hk
  clear hk
  by_cases hn0 : x.n = 0
  · have bn00 : ((x.n : Int) != 0) = false := by simp [hn0]
    have bn01 : (x.n = 0) = True := by first | exact eq_true hn0 | exact eq_false hn0
    have HN0 := Lib.hid hn0
    clear hn0
    go_enter Tryd.func58, Tryd.ntmps58
    go_upto_region 22 with fail
    any_goals
      (have hbad : nodeR x d (c - 1) = false := by
        cases hq : nodeR x d (c - 1) with
        | false => rfl
        | true => exact absurd ((nodeR_7 HK.out).1 hq) (by have hn0 := HN0.out; omega)
       go_ret
       exact ⟨by rw [left_none hbad]; rfl, hb0⟩)
    all_goals
      have hgood : nodeR x d (c - 1) = true := (nodeR_7 HK.out).2 ⟨by omega, by omega, by have hn0 := HN0.out; omega⟩
      have hi0 : x.items.length = 0 := by have hn0 := HN0.out; omega
      have hk := HK.out
      have E : Hid (leftP x c d = some (c - 1)) := left_flat hc0 hgood hi0
      have hli : ¬ (0 : Int) < x.items.length := by omega
      have hl2 : ¬ (2 : Int) < x.items.length := by omega
      have HI := Lib.hid hi0
      have HC := Lib.hid hgood
      clear hi0 hk hgood
      have c0 := hB.cell 0 rfl
      have c3 := hB.cell 3 rfl
      go_wp2_with fail
      refine wp_loop_rounds 1 ?_
      rw [rounds_succ]
      go_wp2_with fail
      refine wp_loop_rounds 1 ?_
      rw [rounds_succ]
      go_wp2_with fail
      go_ret
      exact ⟨by rw [E.out, ← HC1.out]; rfl, hb0⟩
  · have bn00 : ((x.n : Int) != 0) = true := by simp [hn0]
    have bn01 : (x.n = 0) = False := by first | exact eq_true hn0 | exact eq_false hn0
    have HN0 := Lib.hid hn0
    clear hn0
    go_enter Tryd.func58, Tryd.ntmps58
    go_upto_region 22 with fail
    any_goals
      (have hbad : nodeR x d (c - 1) = false := by
        cases hq : nodeR x d (c - 1) with
        | false => rfl
        | true => exact absurd ((nodeR_7 HK.out).1 hq) (by have hn0 := HN0.out; omega)
       go_ret
       exact ⟨by rw [left_none hbad]; rfl, hb0⟩)
    all_goals
      have hgood : nodeR x d (c - 1) = true := (nodeR_7 HK.out).2 ⟨by omega, by omega, by have hn0 := HN0.out; omega⟩
      have hi0 : x.items.length = 0 := by have hn0 := HN0.out; omega
      have hk := HK.out
      have E : Hid (leftP x c d = some (c - 1)) := left_flat hc0 hgood hi0
      have hli : ¬ (0 : Int) < x.items.length := by omega
      have hl2 : ¬ (2 : Int) < x.items.length := by omega
      have HI := Lib.hid hi0
      have HC := Lib.hid hgood
      clear hi0 hk hgood
      have c0 := hB.cell 0 rfl
      have c3 := hB.cell 3 rfl
      go_wp2_with fail
      refine wp_loop_rounds 1 ?_
      rw [rounds_succ]
      go_wp2_with fail
      refine wp_loop_rounds 1 ?_
      rw [rounds_succ]
      go_wp2_with fail
      go_ret
      exact ⟨by rw [E.out, ← HC1.out]; rfl, hb0⟩
end Go.Proofs.YtebcnkelbicbnaaDoor
