/- Walks: the references' left: numbers, bytes, simple values. -/
import Derived.Test.YtdbhgngikglmcaaDoorJra
set_option linter.unusedVariables false
set_option linter.unusedSimpArgs false
namespace Go.Proofs.YtdbhgngikglmcaaDoor
open Go.RowKit

set_option maxRecDepth 100000 in
set_option maxHeartbeats 6400000 in
theorem left_k0 (x : Itm) (hk : x.kind = 0) {H : Snap} (hT : Tabs H) (ih : ∀ y : Itm, cnt y < cnt x → LeftSaid y) {ba : Option Addr} {bc : Nat} {ia : Option Addr} {ic : Nat} (hx : IsItem H ba bc ia ic x) (w : World) (hH : Holds w H) (c d : Nat) (hc0 : 0 < c) (hc : c ≤ 65536) (hd : d ≤ 65536) :
    Calls Tryd.prog 64 #[itemV x ba bc ia ic, .int .i64 c, .int .i64 d] w fun e w' => e = .returned (.int .i64 (leftI (leftP x c d))) ∧ Below w.heap.size w w' := by
  have HX := Lib.hid hx
  have hbd := hx.bounds
  have hB := Blk.new w 26 #[.int .i64 x.kind, .int .u64 x.n, .slice ba x.bytes.length bc, .slice ia x.items.length ic]
  have hb0 := below_box w (itemO x ba bc ia ic)
  have hc1 : ((c - 1 : Nat) : Int) = (c : Int) - 1 := by omega
  have hbl : x.bytes.length ≤ 9223372036854775807 := by omega
  have hil : x.items.length ≤ 9223372036854775807 := by omega
  have HN := Lib.hid hbd.2.2.1
  have hci : ¬ (c : Int) < 1 := by omega
  have k0 : ¬ x.kind < 0 := by omega
  have k8 : ¬ 8 < x.kind := by omega
  have HK := Lib.hid hk
  have HC1 := Lib.hid hc1
  clear hx hbd hc1
  obtain ⟨b0, b1, b2, b3, b4, b5, b6, b7, b8⟩ := kinds0 hk
  clear hk
  by_cases hn0 : x.n = 0
  · have bn00 : ((x.n : Int) != 0) = false := by simp [hn0]
    have bn01 : (x.n = 0) = True := by first | exact eq_true hn0 | exact eq_false hn0
    have HN0 := Lib.hid hn0
    clear hn0
    go_enter Tryd.func64, Tryd.ntmps64
    go_upto_region 22 with fail
    any_goals
      (have hbad : nodeR x d (c - 1) = false := by
        cases hq : nodeR x d (c - 1) with
        | false => rfl
        | true => exact absurd ((nodeR_01 (.inl HK.out)).1 hq) (by have hn0 := HN0.out; omega)
       go_ret
       exact ⟨by rw [left_none hbad]; rfl, hb0⟩)
    all_goals
      have hgood : nodeR x d (c - 1) = true := (nodeR_01 (.inl HK.out)).2 ⟨by omega, by omega⟩
      have hi0 : x.items.length = 0 := by have hn0 := HN0.out; omega
      have hk := HK.out
      have E : Hid (leftP x c d = some (c - 1)) := left_flat hc0 hgood hi0
      have hli : ¬ (0 : Int) < x.items.length := by omega
      have hl2 : ¬ (2 : Int) < x.items.length := by omega
      have HI := Lib.hid hi0
      have HC := Lib.hid hgood
      clear hi0 hk hgood
      have c0 := hB.cell 0 rfl
      have c3 := hB.cell 3 rfl
      go_wp2_with fail
      refine wp_loop_rounds 1 ?_
      rw [rounds_succ]
      go_wp2_with fail
      refine wp_loop_rounds 1 ?_
      rw [rounds_succ]
      go_wp2_with fail
      go_ret
      exact ⟨by rw [E.out, ← HC1.out]; rfl, hb0⟩
  · have bn00 : ((x.n : Int) != 0) = true := by simp [hn0]
    have bn01 : (x.n = 0) = False := by first | exact eq_true hn0 | exact eq_false hn0
    have HN0 := Lib.hid hn0
    clear hn0
    go_enter Tryd.func64, Tryd.ntmps64
    go_upto_region 22 with fail
    any_goals
      (have hbad : nodeR x d (c - 1) = false := by
        cases hq : nodeR x d (c - 1) with
        | false => rfl
        | true => exact absurd ((nodeR_01 (.inl HK.out)).1 hq) (by have hn0 := HN0.out; omega)
       go_ret
       exact ⟨by rw [left_none hbad]; rfl, hb0⟩)
    all_goals
      have hgood : nodeR x d (c - 1) = true := (nodeR_01 (.inl HK.out)).2 ⟨by omega, by omega⟩
      have hi0 : x.items.length = 0 := by have hn0 := HN0.out; omega
      have hk := HK.out
      have E : Hid (leftP x c d = some (c - 1)) := left_flat hc0 hgood hi0
      have hli : ¬ (0 : Int) < x.items.length := by omega
      have hl2 : ¬ (2 : Int) < x.items.length := by omega
      have HI := Lib.hid hi0
      have HC := Lib.hid hgood
      clear hi0 hk hgood
      have c0 := hB.cell 0 rfl
      have c3 := hB.cell 3 rfl
      go_wp2_with fail
      refine wp_loop_rounds 1 ?_
      rw [rounds_succ]
      go_wp2_with fail
      refine wp_loop_rounds 1 ?_
      rw [rounds_succ]
      go_wp2_with fail
      go_ret
      exact ⟨by rw [E.out, ← HC1.out]; rfl, hb0⟩
set_option maxRecDepth 100000 in
set_option maxHeartbeats 6400000 in
theorem left_k1 (x : Itm) (hk : x.kind = 1) {H : Snap} (hT : Tabs H) (ih : ∀ y : Itm, cnt y < cnt x → LeftSaid y) {ba : Option Addr} {bc : Nat} {ia : Option Addr} {ic : Nat} (hx : IsItem H ba bc ia ic x) (w : World) (hH : Holds w H) (c d : Nat) (hc0 : 0 < c) (hc : c ≤ 65536) (hd : d ≤ 65536) :
    Calls Tryd.prog 64 #[itemV x ba bc ia ic, .int .i64 c, .int .i64 d] w fun e w' => e = .returned (.int .i64 (leftI (leftP x c d))) ∧ Below w.heap.size w w' := by
  have HX := Lib.hid hx
  have hbd := hx.bounds
  have hB := Blk.new w 26 #[.int .i64 x.kind, .int .u64 x.n, .slice ba x.bytes.length bc, .slice ia x.items.length ic]
  have hb0 := below_box w (itemO x ba bc ia ic)
  have hc1 : ((c - 1 : Nat) : Int) = (c : Int) - 1 := by omega
  have hbl : x.bytes.length ≤ 9223372036854775807 := by omega
  have hil : x.items.length ≤ 9223372036854775807 := by omega
  have HN := Lib.hid hbd.2.2.1
  have hci : ¬ (c : Int) < 1 := by omega
  have k0 : ¬ x.kind < 0 := by omega
  have k8 : ¬ 8 < x.kind := by omega
  have HK := Lib.hid hk
  have HC1 := Lib.hid hc1
  clear hx hbd hc1
  obtain ⟨b0, b1, b2, b3, b4, b5, b6, b7, b8⟩ := kinds1 hk
  clear hk
  by_cases hn0 : x.n = 0
  · have bn00 : ((x.n : Int) != 0) = false := by simp [hn0]
    have bn01 : (x.n = 0) = True := by first | exact eq_true hn0 | exact eq_false hn0
    have HN0 := Lib.hid hn0
    clear hn0
    go_enter Tryd.func64, Tryd.ntmps64
    go_upto_region 22 with fail
    any_goals
      (have hbad : nodeR x d (c - 1) = false := by
        cases hq : nodeR x d (c - 1) with
        | false => rfl
        | true => exact absurd ((nodeR_01 (.inr HK.out)).1 hq) (by have hn0 := HN0.out; omega)
       go_ret
       exact ⟨by rw [left_none hbad]; rfl, hb0⟩)
    all_goals
      have hgood : nodeR x d (c - 1) = true := (nodeR_01 (.inr HK.out)).2 ⟨by omega, by omega⟩
      have hi0 : x.items.length = 0 := by have hn0 := HN0.out; omega
      have hk := HK.out
      have E : Hid (leftP x c d = some (c - 1)) := left_flat hc0 hgood hi0
      have hli : ¬ (0 : Int) < x.items.length := by omega
      have hl2 : ¬ (2 : Int) < x.items.length := by omega
      have HI := Lib.hid hi0
      have HC := Lib.hid hgood
      clear hi0 hk hgood
      have c0 := hB.cell 0 rfl
      have c3 := hB.cell 3 rfl
      go_wp2_with fail
      refine wp_loop_rounds 1 ?_
      rw [rounds_succ]
      go_wp2_with fail
      refine wp_loop_rounds 1 ?_
      rw [rounds_succ]
      go_wp2_with fail
      go_ret
      exact ⟨by rw [E.out, ← HC1.out]; rfl, hb0⟩
  · have bn00 : ((x.n : Int) != 0) = true := by simp [hn0]
    have bn01 : (x.n = 0) = False := by first | exact eq_true hn0 | exact eq_false hn0
    have HN0 := Lib.hid hn0
    clear hn0
    go_enter Tryd.func64, Tryd.ntmps64
    go_upto_region 22 with fail
    any_goals
      (have hbad : nodeR x d (c - 1) = false := by
        cases hq : nodeR x d (c - 1) with
        | false => rfl
        | true => exact absurd ((nodeR_01 (.inr HK.out)).1 hq) (by have hn0 := HN0.out; omega)
       go_ret
       exact ⟨by rw [left_none hbad]; rfl, hb0⟩)
    all_goals
      have hgood : nodeR x d (c - 1) = true := (nodeR_01 (.inr HK.out)).2 ⟨by omega, by omega⟩
      have hi0 : x.items.length = 0 := by have hn0 := HN0.out; omega
      have hk := HK.out
      have E : Hid (leftP x c d = some (c - 1)) := left_flat hc0 hgood hi0
      have hli : ¬ (0 : Int) < x.items.length := by omega
      have hl2 : ¬ (2 : Int) < x.items.length := by omega
      have HI := Lib.hid hi0
      have HC := Lib.hid hgood
      clear hi0 hk hgood
      have c0 := hB.cell 0 rfl
      have c3 := hB.cell 3 rfl
      go_wp2_with fail
      refine wp_loop_rounds 1 ?_
      rw [rounds_succ]
      go_wp2_with fail
      refine wp_loop_rounds 1 ?_
      rw [rounds_succ]
      go_wp2_with fail
      go_ret
      exact ⟨by rw [E.out, ← HC1.out]; rfl, hb0⟩
set_option maxRecDepth 100000 in
set_option maxHeartbeats 6400000 in
theorem left_k2 (x : Itm) (hk : x.kind = 2) {H : Snap} (hT : Tabs H) (ih : ∀ y : Itm, cnt y < cnt x → LeftSaid y) {ba : Option Addr} {bc : Nat} {ia : Option Addr} {ic : Nat} (hx : IsItem H ba bc ia ic x) (w : World) (hH : Holds w H) (c d : Nat) (hc0 : 0 < c) (hc : c ≤ 65536) (hd : d ≤ 65536) :
    Calls Tryd.prog 64 #[itemV x ba bc ia ic, .int .i64 c, .int .i64 d] w fun e w' => e = .returned (.int .i64 (leftI (leftP x c d))) ∧ Below w.heap.size w w' := by
  have HX := Lib.hid hx
  have hbd := hx.bounds
  have hB := Blk.new w 26 #[.int .i64 x.kind, .int .u64 x.n, .slice ba x.bytes.length bc, .slice ia x.items.length ic]
  have hb0 := below_box w (itemO x ba bc ia ic)
  have hc1 : ((c - 1 : Nat) : Int) = (c : Int) - 1 := by omega
  have hbl : x.bytes.length ≤ 9223372036854775807 := by omega
  have hil : x.items.length ≤ 9223372036854775807 := by omega
  have HN := Lib.hid hbd.2.2.1
  have hci : ¬ (c : Int) < 1 := by omega
  have k0 : ¬ x.kind < 0 := by omega
  have k8 : ¬ 8 < x.kind := by omega
  have HK := Lib.hid hk
  have HC1 := Lib.hid hc1
  clear hx hbd hc1
  obtain ⟨b0, b1, b2, b3, b4, b5, b6, b7, b8⟩ := kinds2 hk
  clear hk
  by_cases hn0 : x.n = 0
  · have bn00 : ((x.n : Int) != 0) = false := by simp [hn0]
    have bn01 : (x.n = 0) = True := by first | exact eq_true hn0 | exact eq_false hn0
    have HN0 := Lib.hid hn0
    clear hn0
    go_enter Tryd.func64, Tryd.ntmps64
    go_upto_region 22 with fail
    any_goals
      (have hbad : nodeR x d (c - 1) = false := by
        cases hq : nodeR x d (c - 1) with
        | false => rfl
        | true => exact absurd ((nodeR_2 HK.out).1 hq) (by have hn0 := HN0.out; omega)
       go_ret
       exact ⟨by rw [left_none hbad]; rfl, hb0⟩)
    all_goals
      have hgood : nodeR x d (c - 1) = true := (nodeR_2 HK.out).2 ⟨HN0.out, by omega, by omega⟩
      have hi0 : x.items.length = 0 := by have hn0 := HN0.out; omega
      have hk := HK.out
      have E : Hid (leftP x c d = some (c - 1)) := left_flat hc0 hgood hi0
      have hli : ¬ (0 : Int) < x.items.length := by omega
      have hl2 : ¬ (2 : Int) < x.items.length := by omega
      have HI := Lib.hid hi0
      have HC := Lib.hid hgood
      clear hi0 hk hgood
      have c0 := hB.cell 0 rfl
      have c3 := hB.cell 3 rfl
      go_wp2_with fail
      refine wp_loop_rounds 1 ?_
      rw [rounds_succ]
      go_wp2_with fail
      refine wp_loop_rounds 1 ?_
      rw [rounds_succ]
      go_wp2_with fail
      go_ret
      exact ⟨by rw [E.out, ← HC1.out]; rfl, hb0⟩
  · have bn00 : ((x.n : Int) != 0) = true := by simp [hn0]
    have bn01 : (x.n = 0) = False := by first | exact eq_true hn0 | exact eq_false hn0
    have HN0 := Lib.hid hn0
    clear hn0
    go_enter Tryd.func64, Tryd.ntmps64
    go_upto_region 22 with fail
    any_goals
      (have hbad : nodeR x d (c - 1) = false := by
        cases hq : nodeR x d (c - 1) with
        | false => rfl
        | true => exact absurd ((nodeR_2 HK.out).1 hq) (by have hn0 := HN0.out; omega)
       go_ret
       exact ⟨by rw [left_none hbad]; rfl, hb0⟩)
    all_goals
      have hgood : nodeR x d (c - 1) = true := (nodeR_2 HK.out).2 ⟨HN0.out, by omega, by omega⟩
      have hi0 : x.items.length = 0 := by have hn0 := HN0.out; omega
      have hk := HK.out
      have E : Hid (leftP x c d = some (c - 1)) := left_flat hc0 hgood hi0
      have hli : ¬ (0 : Int) < x.items.length := by omega
      have hl2 : ¬ (2 : Int) < x.items.length := by omega
      have HI := Lib.hid hi0
      have HC := Lib.hid hgood
      clear hi0 hk hgood
      have c0 := hB.cell 0 rfl
      have c3 := hB.cell 3 rfl
      go_wp2_with fail
      refine wp_loop_rounds 1 ?_
      rw [rounds_succ]
      go_wp2_with fail
      refine wp_loop_rounds 1 ?_
      rw [rounds_succ]
      go_wp2_with fail
      go_ret
      exact ⟨by rw [E.out, ← HC1.out]; rfl, hb0⟩
set_option maxRecDepth 100000 in
set_option maxHeartbeats 6400000 in
theorem left_k7 (x : Itm) (hk : x.kind = 7) {H : Snap} (hT : Tabs H) (ih : ∀ y : Itm, cnt y < cnt x → LeftSaid y) {ba : Option Addr} {bc : Nat} {ia : Option Addr} {ic : Nat} (hx : IsItem H ba bc ia ic x) (w : World) (hH : Holds w H) (c d : Nat) (hc0 : 0 < c) (hc : c ≤ 65536) (hd : d ≤ 65536) :
    Calls Tryd.prog 64 #[itemV x ba bc ia ic, .int .i64 c, .int .i64 d] w fun e w' => e = .returned (.int .i64 (leftI (leftP x c d))) ∧ Below w.heap.size w w' := by
  have HX := Lib.hid hx
  have hbd := hx.bounds
  have hB := Blk.new w 26 #[.int .i64 x.kind, .int .u64 x.n, .slice ba x.bytes.length bc, .slice ia x.items.length ic]
  have hb0 := below_box w (itemO x ba bc ia ic)
  have hc1 : ((c - 1 : Nat) : Int) = (c : Int) - 1 := by omega
  have hbl : x.bytes.length ≤ 9223372036854775807 := by omega
  have hil : x.items.length ≤ 9223372036854775807 := by omega
  have HN := Lib.hid hbd.2.2.1
  have hci : ¬ (c : Int) < 1 := by omega
  have k0 : ¬ x.kind < 0 := by omega
  have k8 : ¬ 8 < x.kind := by omega
  have HK := Lib.hid hk
  have HC1 := Lib.hid hc1
  clear hx hbd hc1
  obtain ⟨b0, b1, b2, b3, b4, b5, b6, b7, b8⟩ := kinds7 hk
  clear hk
  by_cases hn0 : x.n = 0
  · have bn00 : ((x.n : Int) != 0) = false := by simp [hn0]
    have bn01 : (x.n = 0) = True := by first | exact eq_true hn0 | exact eq_false hn0
    have HN0 := Lib.hid hn0
    clear hn0
    go_enter Tryd.func64, Tryd.ntmps64
    go_upto_region 22 with fail
    any_goals
      (have hbad : nodeR x d (c - 1) = false := by
        cases hq : nodeR x d (c - 1) with
        | false => rfl
        | true => exact absurd ((nodeR_7 HK.out).1 hq) (by have hn0 := HN0.out; omega)
       go_ret
       exact ⟨by rw [left_none hbad]; rfl, hb0⟩)
    all_goals
      have hgood : nodeR x d (c - 1) = true := (nodeR_7 HK.out).2 ⟨by omega, by omega, by have hn0 := HN0.out; omega⟩
      have hi0 : x.items.length = 0 := by have hn0 := HN0.out; omega
      have hk := HK.out
      have E : Hid (leftP x c d = some (c - 1)) := left_flat hc0 hgood hi0
      have hli : ¬ (0 : Int) < x.items.length := by omega
      have hl2 : ¬ (2 : Int) < x.items.length := by omega
      have HI := Lib.hid hi0
      have HC := Lib.hid hgood
      clear hi0 hk hgood
      have c0 := hB.cell 0 rfl
      have c3 := hB.cell 3 rfl
      go_wp2_with fail
      refine wp_loop_rounds 1 ?_
      rw [rounds_succ]
      go_wp2_with fail
      refine wp_loop_rounds 1 ?_
      rw [rounds_succ]
      go_wp2_with fail
      go_ret
      exact ⟨by rw [E.out, ← HC1.out]; rfl, hb0⟩
  · have bn00 : ((x.n : Int) != 0) = true := by simp [hn0]
    have bn01 : (x.n = 0) = False := by first | exact eq_true hn0 | exact eq_false hn0
    have HN0 := Lib.hid hn0
    clear hn0
    go_enter Tryd.func64, Tryd.ntmps64
    go_upto_region 22 with fail
    any_goals
      (have hbad : nodeR x d (c - 1) = false := by
        cases hq : nodeR x d (c - 1) with
        | false => rfl
        | true => exact absurd ((nodeR_7 HK.out).1 hq) (by have hn0 := HN0.out; omega)
       go_ret
       exact ⟨by rw [left_none hbad]; rfl, hb0⟩)
    all_goals
      have hgood : nodeR x d (c - 1) = true := (nodeR_7 HK.out).2 ⟨by omega, by omega, by have hn0 := HN0.out; omega⟩
      have hi0 : x.items.length = 0 := by have hn0 := HN0.out; omega
      have hk := HK.out
      have E : Hid (leftP x c d = some (c - 1)) := left_flat hc0 hgood hi0
      have hli : ¬ (0 : Int) < x.items.length := by omega
      have hl2 : ¬ (2 : Int) < x.items.length := by omega
      have HI := Lib.hid hi0
      have HC := Lib.hid hgood
      clear hi0 hk hgood
      have c0 := hB.cell 0 rfl
      have c3 := hB.cell 3 rfl
      go_wp2_with fail
      refine wp_loop_rounds 1 ?_
      rw [rounds_succ]
      go_wp2_with fail
      refine wp_loop_rounds 1 ?_
      rw [rounds_succ]
      go_wp2_with fail
      go_ret
      exact ⟨by rw [E.out, ← HC1.out]; rfl, hb0⟩
end Go.Proofs.YtdbhgngikglmcaaDoor
