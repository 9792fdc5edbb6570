/- Walks: the references' left: texts, floats. -/
import Derived.Test.YtdbhgngikglmcaaDoorJra
set_option linter.unusedVariables false
set_option linter.unusedSimpArgs false
namespace Go.Proofs.YtdbhgngikglmcaaDoor
open Go.RowKit

set_option maxRecDepth 100000 in
set_option maxHeartbeats 6400000 in
theorem left_k3 (x : Itm) (hk : x.kind = 3) {H : Snap} (hT : Tabs H) (ih : ∀ y : Itm, cnt y < cnt x → LeftSaid y) {ba : Option Addr} {bc : Nat} {ia : Option Addr} {ic : Nat} (hx : IsItem H ba bc ia ic x) (w : World) (hH : Holds w H) (c d : Nat) (hc0 : 0 < c) (hc : c ≤ 65536) (hd : d ≤ 65536) :
    Calls Tryd.prog 64 #[itemV x ba bc ia ic, .int .i64 c, .int .i64 d] w fun e w' => e = .returned (.int .i64 (leftI (leftP x c d))) ∧ Below w.heap.size w w' := by
  have HX := Lib.hid hx
  have hbd := hx.bounds
  have hB := Blk.new w 26 #[.int .i64 x.kind, .int .u64 x.n, .slice ba x.bytes.length bc, .slice ia x.items.length ic]
  have hb0 := below_box w (itemO x ba bc ia ic)
  have hc1 : ((c - 1 : Nat) : Int) = (c : Int) - 1 := by omega
  have hbl : x.bytes.length ≤ 9223372036854775807 := by omega
  have hil : x.items.length ≤ 9223372036854775807 := by omega
  have HN := Lib.hid hbd.2.2.1
  have hci : ¬ (c : Int) < 1 := by omega
  have k0 : ¬ x.kind < 0 := by omega
  have k8 : ¬ 8 < x.kind := by omega
  have HK := Lib.hid hk
  have HC1 := Lib.hid hc1
  have V := Lib.hid (utf8_Valid hT (w.alloc (itemO x ba bc ia ic)) (hH.alloc _) ba x.bytes _ bc rfl hx.bytes)
  clear hx hbd hc1
  obtain ⟨b0, b1, b2, b3, b4, b5, b6, b7, b8⟩ := kinds3 hk
  clear hk
  by_cases hn0 : x.n = 0
  · have bn00 : ((x.n : Int) != 0) = false := by simp [hn0]
    have bn01 : (x.n = 0) = True := by first | exact eq_true hn0 | exact eq_false hn0
    have HN0 := Lib.hid hn0
    clear hn0
    by_cases hval : Lib.validD x.bytes = true
    · have bval0 : Lib.validD x.bytes = true := by simpa using hval
      have HVAL := Lib.hid hval
      clear hval
      go_enter Tryd.func64, Tryd.ntmps64
      rw [bval0] at V
      go_upto_region 22 with (go_at_call 80; refine V.out.mono ?_; rintro e wv ⟨rfl, hbv⟩; have hB := hB.below hbv; have hb0 := hb0.trans (hbv.mono hb0.size); have e0 := hB.cell 0 rfl; have e1 := hB.cell 1 rfl; have e2 := hB.cell 2 rfl; have e3 := hB.cell 3 rfl)
      any_goals
        (have hbad : nodeR x d (c - 1) = false := by
          cases hq : nodeR x d (c - 1) with
          | false => rfl
          | true => exact absurd ((nodeR_3 HK.out).1 hq) (by have hn0 := HN0.out; have hval := HVAL.out; rintro ⟨p1, p2, p3, p4⟩; first | omega | (rw [bval0] at p4; cases p4))
         go_ret
         exact ⟨by rw [left_none hbad]; rfl, hb0⟩)
      all_goals
        have hgood : nodeR x d (c - 1) = true := (nodeR_3 HK.out).2 ⟨HN0.out, by omega, by omega, bval0⟩
        have hi0 : x.items.length = 0 := by have hn0 := HN0.out; have hval := HVAL.out; omega
        have hk := HK.out
        have E : Hid (leftP x c d = some (c - 1)) := left_flat hc0 hgood hi0
        have hli : ¬ (0 : Int) < x.items.length := by omega
        have hl2 : ¬ (2 : Int) < x.items.length := by omega
        have HI := Lib.hid hi0
        have HC := Lib.hid hgood
        clear hi0 hk hgood
        have c0 := hB.cell 0 rfl
        have c3 := hB.cell 3 rfl
        go_wp2_with fail
        refine wp_loop_rounds 1 ?_
        rw [rounds_succ]
        go_wp2_with fail
        refine wp_loop_rounds 1 ?_
        rw [rounds_succ]
        go_wp2_with fail
        go_ret
        exact ⟨by rw [E.out, ← HC1.out]; rfl, hb0⟩
    · have bval0 : Lib.validD x.bytes = false := by simpa using hval
      have HVAL := Lib.hid hval
      clear hval
      go_enter Tryd.func64, Tryd.ntmps64
      rw [bval0] at V
      go_upto_region 22 with (go_at_call 80; refine V.out.mono ?_; rintro e wv ⟨rfl, hbv⟩; have hB := hB.below hbv; have hb0 := hb0.trans (hbv.mono hb0.size); have e0 := hB.cell 0 rfl; have e1 := hB.cell 1 rfl; have e2 := hB.cell 2 rfl; have e3 := hB.cell 3 rfl)
      any_goals
        (have hbad : nodeR x d (c - 1) = false := by
          cases hq : nodeR x d (c - 1) with
          | false => rfl
          | true => exact absurd ((nodeR_3 HK.out).1 hq) (by have hn0 := HN0.out; have hval := HVAL.out; rintro ⟨p1, p2, p3, p4⟩; first | omega | (rw [bval0] at p4; cases p4))
         go_ret
         exact ⟨by rw [left_none hbad]; rfl, hb0⟩)
      all_goals
        have hgood : nodeR x d (c - 1) = true := (nodeR_3 HK.out).2 ⟨HN0.out, by omega, by omega, bval0⟩
        have hi0 : x.items.length = 0 := by have hn0 := HN0.out; have hval := HVAL.out; omega
        have hk := HK.out
        have E : Hid (leftP x c d = some (c - 1)) := left_flat hc0 hgood hi0
        have hli : ¬ (0 : Int) < x.items.length := by omega
        have hl2 : ¬ (2 : Int) < x.items.length := by omega
        have HI := Lib.hid hi0
        have HC := Lib.hid hgood
        clear hi0 hk hgood
        have c0 := hB.cell 0 rfl
        have c3 := hB.cell 3 rfl
        go_wp2_with fail
        refine wp_loop_rounds 1 ?_
        rw [rounds_succ]
        go_wp2_with fail
        refine wp_loop_rounds 1 ?_
        rw [rounds_succ]
        go_wp2_with fail
        go_ret
        exact ⟨by rw [E.out, ← HC1.out]; rfl, hb0⟩
  · have bn00 : ((x.n : Int) != 0) = true := by simp [hn0]
    have bn01 : (x.n = 0) = False := by first | exact eq_true hn0 | exact eq_false hn0
    have HN0 := Lib.hid hn0
    clear hn0
    by_cases hval : Lib.validD x.bytes = true
    · have bval0 : Lib.validD x.bytes = true := by simpa using hval
      have HVAL := Lib.hid hval
      clear hval
      go_enter Tryd.func64, Tryd.ntmps64
      rw [bval0] at V
      go_upto_region 22 with (go_at_call 80; refine V.out.mono ?_; rintro e wv ⟨rfl, hbv⟩; have hB := hB.below hbv; have hb0 := hb0.trans (hbv.mono hb0.size); have e0 := hB.cell 0 rfl; have e1 := hB.cell 1 rfl; have e2 := hB.cell 2 rfl; have e3 := hB.cell 3 rfl)
      any_goals
        (have hbad : nodeR x d (c - 1) = false := by
          cases hq : nodeR x d (c - 1) with
          | false => rfl
          | true => exact absurd ((nodeR_3 HK.out).1 hq) (by have hn0 := HN0.out; have hval := HVAL.out; rintro ⟨p1, p2, p3, p4⟩; first | omega | (rw [bval0] at p4; cases p4))
         go_ret
         exact ⟨by rw [left_none hbad]; rfl, hb0⟩)
      all_goals
        have hgood : nodeR x d (c - 1) = true := (nodeR_3 HK.out).2 ⟨HN0.out, by omega, by omega, bval0⟩
        have hi0 : x.items.length = 0 := by have hn0 := HN0.out; have hval := HVAL.out; omega
        have hk := HK.out
        have E : Hid (leftP x c d = some (c - 1)) := left_flat hc0 hgood hi0
        have hli : ¬ (0 : Int) < x.items.length := by omega
        have hl2 : ¬ (2 : Int) < x.items.length := by omega
        have HI := Lib.hid hi0
        have HC := Lib.hid hgood
        clear hi0 hk hgood
        have c0 := hB.cell 0 rfl
        have c3 := hB.cell 3 rfl
        go_wp2_with fail
        refine wp_loop_rounds 1 ?_
        rw [rounds_succ]
        go_wp2_with fail
        refine wp_loop_rounds 1 ?_
        rw [rounds_succ]
        go_wp2_with fail
        go_ret
        exact ⟨by rw [E.out, ← HC1.out]; rfl, hb0⟩
    · have bval0 : Lib.validD x.bytes = false := by simpa using hval
      have HVAL := Lib.hid hval
      clear hval
      go_enter Tryd.func64, Tryd.ntmps64
      rw [bval0] at V
      go_upto_region 22 with (go_at_call 80; refine V.out.mono ?_; rintro e wv ⟨rfl, hbv⟩; have hB := hB.below hbv; have hb0 := hb0.trans (hbv.mono hb0.size); have e0 := hB.cell 0 rfl; have e1 := hB.cell 1 rfl; have e2 := hB.cell 2 rfl; have e3 := hB.cell 3 rfl)
      any_goals
        (have hbad : nodeR x d (c - 1) = false := by
          cases hq : nodeR x d (c - 1) with
          | false => rfl
          | true => exact absurd ((nodeR_3 HK.out).1 hq) (by have hn0 := HN0.out; have hval := HVAL.out; rintro ⟨p1, p2, p3, p4⟩; first | omega | (rw [bval0] at p4; cases p4))
         go_ret
         exact ⟨by rw [left_none hbad]; rfl, hb0⟩)
      all_goals
        have hgood : nodeR x d (c - 1) = true := (nodeR_3 HK.out).2 ⟨HN0.out, by omega, by omega, bval0⟩
        have hi0 : x.items.length = 0 := by have hn0 := HN0.out; have hval := HVAL.out; omega
        have hk := HK.out
        have E : Hid (leftP x c d = some (c - 1)) := left_flat hc0 hgood hi0
        have hli : ¬ (0 : Int) < x.items.length := by omega
        have hl2 : ¬ (2 : Int) < x.items.length := by omega
        have HI := Lib.hid hi0
        have HC := Lib.hid hgood
        clear hi0 hk hgood
        have c0 := hB.cell 0 rfl
        have c3 := hB.cell 3 rfl
        go_wp2_with fail
        refine wp_loop_rounds 1 ?_
        rw [rounds_succ]
        go_wp2_with fail
        refine wp_loop_rounds 1 ?_
        rw [rounds_succ]
        go_wp2_with fail
        go_ret
        exact ⟨by rw [E.out, ← HC1.out]; rfl, hb0⟩
set_option maxRecDepth 100000 in
set_option maxHeartbeats 6400000 in
theorem left_k8 (x : Itm) (hk : x.kind = 8) {H : Snap} (hT : Tabs H) (ih : ∀ y : Itm, cnt y < cnt x → LeftSaid y) {ba : Option Addr} {bc : Nat} {ia : Option Addr} {ic : Nat} (hx : IsItem H ba bc ia ic x) (w : World) (hH : Holds w H) (c d : Nat) (hc0 : 0 < c) (hc : c ≤ 65536) (hd : d ≤ 65536) :
    Calls Tryd.prog 64 #[itemV x ba bc ia ic, .int .i64 c, .int .i64 d] w fun e w' => e = .returned (.int .i64 (leftI (leftP x c d))) ∧ Below w.heap.size w w' := by
  have HX := Lib.hid hx
  have hbd := hx.bounds
  have hB := Blk.new w 26 #[.int .i64 x.kind, .int .u64 x.n, .slice ba x.bytes.length bc, .slice ia x.items.length ic]
  have hb0 := below_box w (itemO x ba bc ia ic)
  have hc1 : ((c - 1 : Nat) : Int) = (c : Int) - 1 := by omega
  have hbl : x.bytes.length ≤ 9223372036854775807 := by omega
  have hil : x.items.length ≤ 9223372036854775807 := by omega
  have HN := Lib.hid hbd.2.2.1
  have hci : ¬ (c : Int) < 1 := by omega
  have k0 : ¬ x.kind < 0 := by omega
  have k8 : ¬ 8 < x.kind := by omega
  have HK := Lib.hid hk
  have HC1 := Lib.hid hc1
  have V := Lib.hid (ref_IsNaN x.n hbd.2.2.1 (w.alloc (itemO x ba bc ia ic)))
  clear hx hbd hc1
  obtain ⟨b0, b1, b2, b3, b4, b5, b6, b7, b8⟩ := kinds8 hk
  clear hk
  by_cases hn0 : x.n = 0
  · have bn00 : ((x.n : Int) != 0) = false := by simp [hn0]
    have bn01 : (x.n = 0) = True := by first | exact eq_true hn0 | exact eq_false hn0
    have HN0 := Lib.hid hn0
    clear hn0
    by_cases hnan : isNaN x.n = true
    · have bnan0 : isNaN x.n = true := by simpa using hnan
      have HNAN := Lib.hid hnan
      clear hnan
      by_cases hnn : x.n = notNumber
      · have bnn0 : ((x.n : Int) != 9221120237041090560) = false := by (first | (rw [bne_eq_false_iff_eq]; unfold notNumber at hnn; omega) | (rw [bne_iff_ne]; unfold notNumber at hnn; omega))
        have HNN := Lib.hid hnn
        clear hnn
        go_enter Tryd.func64, Tryd.ntmps64
        rw [bnan0] at V
        go_upto_region 22 with (go_at_call 68; refine V.out.mono ?_; rintro e wv ⟨rfl, rfl⟩)
        any_goals
          (have hbad : nodeR x d (c - 1) = false := by
            cases hq : nodeR x d (c - 1) with
            | false => rfl
            | true => exact absurd ((nodeR_8 HK.out).1 hq) (by have hn0 := HN0.out; have hnan := HNAN.out; have hnn := HNN.out; rintro ⟨p1, p2, p3⟩; first | omega | (rcases p3 with p3 | p3; (rw [bnan0] at p3; cases p3); exact hnn p3))
           go_ret
           exact ⟨by rw [left_none hbad]; rfl, hb0⟩)
        all_goals
          have hgood : nodeR x d (c - 1) = true := (nodeR_8 HK.out).2 ⟨by omega, by omega, by first | exact .inl bnan0 | exact .inr HNN.out⟩
          have hi0 : x.items.length = 0 := by have hn0 := HN0.out; have hnan := HNAN.out; have hnn := HNN.out; omega
          have hk := HK.out
          have E : Hid (leftP x c d = some (c - 1)) := left_flat hc0 hgood hi0
          have hli : ¬ (0 : Int) < x.items.length := by omega
          have hl2 : ¬ (2 : Int) < x.items.length := by omega
          have HI := Lib.hid hi0
          have HC := Lib.hid hgood
          clear hi0 hk hgood
          have c0 := hB.cell 0 rfl
          have c3 := hB.cell 3 rfl
          go_wp2_with fail
          refine wp_loop_rounds 1 ?_
          rw [rounds_succ]
          go_wp2_with fail
          refine wp_loop_rounds 1 ?_
          rw [rounds_succ]
          go_wp2_with fail
          go_ret
          exact ⟨by rw [E.out, ← HC1.out]; rfl, hb0⟩
      · have bnn0 : ((x.n : Int) != 9221120237041090560) = true := by (first | (rw [bne_eq_false_iff_eq]; unfold notNumber at hnn; omega) | (rw [bne_iff_ne]; unfold notNumber at hnn; omega))
        have HNN := Lib.hid hnn
        clear hnn
        go_enter Tryd.func64, Tryd.ntmps64
        rw [bnan0] at V
        go_upto_region 22 with (go_at_call 68; refine V.out.mono ?_; rintro e wv ⟨rfl, rfl⟩)
        any_goals
          (have hbad : nodeR x d (c - 1) = false := by
            cases hq : nodeR x d (c - 1) with
            | false => rfl
            | true => exact absurd ((nodeR_8 HK.out).1 hq) (by have hn0 := HN0.out; have hnan := HNAN.out; have hnn := HNN.out; rintro ⟨p1, p2, p3⟩; first | omega | (rcases p3 with p3 | p3; (rw [bnan0] at p3; cases p3); exact hnn p3))
           go_ret
           exact ⟨by rw [left_none hbad]; rfl, hb0⟩)
        all_goals
          have hgood : nodeR x d (c - 1) = true := (nodeR_8 HK.out).2 ⟨by omega, by omega, by first | exact .inl bnan0 | exact .inr HNN.out⟩
          have hi0 : x.items.length = 0 := by have hn0 := HN0.out; have hnan := HNAN.out; have hnn := HNN.out; omega
          have hk := HK.out
          have E : Hid (leftP x c d = some (c - 1)) := left_flat hc0 hgood hi0
          have hli : ¬ (0 : Int) < x.items.length := by omega
          have hl2 : ¬ (2 : Int) < x.items.length := by omega
          have HI := Lib.hid hi0
          have HC := Lib.hid hgood
          clear hi0 hk hgood
          have c0 := hB.cell 0 rfl
          have c3 := hB.cell 3 rfl
          go_wp2_with fail
          refine wp_loop_rounds 1 ?_
          rw [rounds_succ]
          go_wp2_with fail
          refine wp_loop_rounds 1 ?_
          rw [rounds_succ]
          go_wp2_with fail
          go_ret
          exact ⟨by rw [E.out, ← HC1.out]; rfl, hb0⟩
    · have bnan0 : isNaN x.n = false := by simpa using hnan
      have HNAN := Lib.hid hnan
      clear hnan
      by_cases hnn : x.n = notNumber
      · have bnn0 : ((x.n : Int) != 9221120237041090560) = false := by (first | (rw [bne_eq_false_iff_eq]; unfold notNumber at hnn; omega) | (rw [bne_iff_ne]; unfold notNumber at hnn; omega))
        have HNN := Lib.hid hnn
        clear hnn
        go_enter Tryd.func64, Tryd.ntmps64
        rw [bnan0] at V
        go_upto_region 22 with (go_at_call 68; refine V.out.mono ?_; rintro e wv ⟨rfl, rfl⟩)
        any_goals
          (have hbad : nodeR x d (c - 1) = false := by
            cases hq : nodeR x d (c - 1) with
            | false => rfl
            | true => exact absurd ((nodeR_8 HK.out).1 hq) (by have hn0 := HN0.out; have hnan := HNAN.out; have hnn := HNN.out; rintro ⟨p1, p2, p3⟩; first | omega | (rcases p3 with p3 | p3; (rw [bnan0] at p3; cases p3); exact hnn p3))
           go_ret
           exact ⟨by rw [left_none hbad]; rfl, hb0⟩)
        all_goals
          have hgood : nodeR x d (c - 1) = true := (nodeR_8 HK.out).2 ⟨by omega, by omega, by first | exact .inl bnan0 | exact .inr HNN.out⟩
          have hi0 : x.items.length = 0 := by have hn0 := HN0.out; have hnan := HNAN.out; have hnn := HNN.out; omega
          have hk := HK.out
          have E : Hid (leftP x c d = some (c - 1)) := left_flat hc0 hgood hi0
          have hli : ¬ (0 : Int) < x.items.length := by omega
          have hl2 : ¬ (2 : Int) < x.items.length := by omega
          have HI := Lib.hid hi0
          have HC := Lib.hid hgood
          clear hi0 hk hgood
          have c0 := hB.cell 0 rfl
          have c3 := hB.cell 3 rfl
          go_wp2_with fail
          refine wp_loop_rounds 1 ?_
          rw [rounds_succ]
          go_wp2_with fail
          refine wp_loop_rounds 1 ?_
          rw [rounds_succ]
          go_wp2_with fail
          go_ret
          exact ⟨by rw [E.out, ← HC1.out]; rfl, hb0⟩
      · have bnn0 : ((x.n : Int) != 9221120237041090560) = true := by (first | (rw [bne_eq_false_iff_eq]; unfold notNumber at hnn; omega) | (rw [bne_iff_ne]; unfold notNumber at hnn; omega))
        have HNN := Lib.hid hnn
        clear hnn
        go_enter Tryd.func64, Tryd.ntmps64
        rw [bnan0] at V
        go_upto_region 22 with (go_at_call 68; refine V.out.mono ?_; rintro e wv ⟨rfl, rfl⟩)
        any_goals
          (have hbad : nodeR x d (c - 1) = false := by
            cases hq : nodeR x d (c - 1) with
            | false => rfl
            | true => exact absurd ((nodeR_8 HK.out).1 hq) (by have hn0 := HN0.out; have hnan := HNAN.out; have hnn := HNN.out; rintro ⟨p1, p2, p3⟩; first | omega | (rcases p3 with p3 | p3; (rw [bnan0] at p3; cases p3); exact hnn p3))
           go_ret
           exact ⟨by rw [left_none hbad]; rfl, hb0⟩)
        all_goals
          have hgood : nodeR x d (c - 1) = true := (nodeR_8 HK.out).2 ⟨by omega, by omega, by first | exact .inl bnan0 | exact .inr HNN.out⟩
          have hi0 : x.items.length = 0 := by have hn0 := HN0.out; have hnan := HNAN.out; have hnn := HNN.out; omega
          have hk := HK.out
          have E : Hid (leftP x c d = some (c - 1)) := left_flat hc0 hgood hi0
          have hli : ¬ (0 : Int) < x.items.length := by omega
          have hl2 : ¬ (2 : Int) < x.items.length := by omega
          have HI := Lib.hid hi0
          have HC := Lib.hid hgood
          clear hi0 hk hgood
          have c0 := hB.cell 0 rfl
          have c3 := hB.cell 3 rfl
          go_wp2_with fail
          refine wp_loop_rounds 1 ?_
          rw [rounds_succ]
          go_wp2_with fail
          refine wp_loop_rounds 1 ?_
          rw [rounds_succ]
          go_wp2_with fail
          go_ret
          exact ⟨by rw [E.out, ← HC1.out]; rfl, hb0⟩
  · have bn00 : ((x.n : Int) != 0) = true := by simp [hn0]
    have bn01 : (x.n = 0) = False := by first | exact eq_true hn0 | exact eq_false hn0
    have HN0 := Lib.hid hn0
    clear hn0
    by_cases hnan : isNaN x.n = true
    · have bnan0 : isNaN x.n = true := by simpa using hnan
      have HNAN := Lib.hid hnan
      clear hnan
      by_cases hnn : x.n = notNumber
      · have bnn0 : ((x.n : Int) != 9221120237041090560) = false := by (first | (rw [bne_eq_false_iff_eq]; unfold notNumber at hnn; omega) | (rw [bne_iff_ne]; unfold notNumber at hnn; omega))
        have HNN := Lib.hid hnn
        clear hnn
        go_enter Tryd.func64, Tryd.ntmps64
        rw [bnan0] at V
        go_upto_region 22 with (go_at_call 68; refine V.out.mono ?_; rintro e wv ⟨rfl, rfl⟩)
        any_goals
          (have hbad : nodeR x d (c - 1) = false := by
            cases hq : nodeR x d (c - 1) with
            | false => rfl
            | true => exact absurd ((nodeR_8 HK.out).1 hq) (by have hn0 := HN0.out; have hnan := HNAN.out; have hnn := HNN.out; rintro ⟨p1, p2, p3⟩; first | omega | (rcases p3 with p3 | p3; (rw [bnan0] at p3; cases p3); exact hnn p3))
           go_ret
           exact ⟨by rw [left_none hbad]; rfl, hb0⟩)
        all_goals
          have hgood : nodeR x d (c - 1) = true := (nodeR_8 HK.out).2 ⟨by omega, by omega, by first | exact .inl bnan0 | exact .inr HNN.out⟩
          have hi0 : x.items.length = 0 := by have hn0 := HN0.out; have hnan := HNAN.out; have hnn := HNN.out; omega
          have hk := HK.out
          have E : Hid (leftP x c d = some (c - 1)) := left_flat hc0 hgood hi0
          have hli : ¬ (0 : Int) < x.items.length := by omega
          have hl2 : ¬ (2 : Int) < x.items.length := by omega
          have HI := Lib.hid hi0
          have HC := Lib.hid hgood
          clear hi0 hk hgood
          have c0 := hB.cell 0 rfl
          have c3 := hB.cell 3 rfl
          go_wp2_with fail
          refine wp_loop_rounds 1 ?_
          rw [rounds_succ]
          go_wp2_with fail
          refine wp_loop_rounds 1 ?_
          rw [rounds_succ]
          go_wp2_with fail
          go_ret
          exact ⟨by rw [E.out, ← HC1.out]; rfl, hb0⟩
      · have bnn0 : ((x.n : Int) != 9221120237041090560) = true := by (first | (rw [bne_eq_false_iff_eq]; unfold notNumber at hnn; omega) | (rw [bne_iff_ne]; unfold notNumber at hnn; omega))
        have HNN := Lib.hid hnn
        clear hnn
        go_enter Tryd.func64, Tryd.ntmps64
        rw [bnan0] at V
        go_upto_region 22 with (go_at_call 68; refine V.out.mono ?_; rintro e wv ⟨rfl, rfl⟩)
        any_goals
          (have hbad : nodeR x d (c - 1) = false := by
            cases hq : nodeR x d (c - 1) with
            | false => rfl
            | true => exact absurd ((nodeR_8 HK.out).1 hq) (by have hn0 := HN0.out; have hnan := HNAN.out; have hnn := HNN.out; rintro ⟨p1, p2, p3⟩; first | omega | (rcases p3 with p3 | p3; (rw [bnan0] at p3; cases p3); exact hnn p3))
           go_ret
           exact ⟨by rw [left_none hbad]; rfl, hb0⟩)
        all_goals
          have hgood : nodeR x d (c - 1) = true := (nodeR_8 HK.out).2 ⟨by omega, by omega, by first | exact .inl bnan0 | exact .inr HNN.out⟩
          have hi0 : x.items.length = 0 := by have hn0 := HN0.out; have hnan := HNAN.out; have hnn := HNN.out; omega
          have hk := HK.out
          have E : Hid (leftP x c d = some (c - 1)) := left_flat hc0 hgood hi0
          have hli : ¬ (0 : Int) < x.items.length := by omega
          have hl2 : ¬ (2 : Int) < x.items.length := by omega
          have HI := Lib.hid hi0
          have HC := Lib.hid hgood
          clear hi0 hk hgood
          have c0 := hB.cell 0 rfl
          have c3 := hB.cell 3 rfl
          go_wp2_with fail
          refine wp_loop_rounds 1 ?_
          rw [rounds_succ]
          go_wp2_with fail
          refine wp_loop_rounds 1 ?_
          rw [rounds_succ]
          go_wp2_with fail
          go_ret
          exact ⟨by rw [E.out, ← HC1.out]; rfl, hb0⟩
    · have bnan0 : isNaN x.n = false := by simpa using hnan
      have HNAN := Lib.hid hnan
      clear hnan
      by_cases hnn : x.n = notNumber
      · have bnn0 : ((x.n : Int) != 9221120237041090560) = false := by (first | (rw [bne_eq_false_iff_eq]; unfold notNumber at hnn; omega) | (rw [bne_iff_ne]; unfold notNumber at hnn; omega))
        have HNN := Lib.hid hnn
        clear hnn
        go_enter Tryd.func64, Tryd.ntmps64
        rw [bnan0] at V
        go_upto_region 22 with (go_at_call 68; refine V.out.mono ?_; rintro e wv ⟨rfl, rfl⟩)
        any_goals
          (have hbad : nodeR x d (c - 1) = false := by
            cases hq : nodeR x d (c - 1) with
            | false => rfl
            | true => exact absurd ((nodeR_8 HK.out).1 hq) (by have hn0 := HN0.out; have hnan := HNAN.out; have hnn := HNN.out; rintro ⟨p1, p2, p3⟩; first | omega | (rcases p3 with p3 | p3; (rw [bnan0] at p3; cases p3); exact hnn p3))
           go_ret
           exact ⟨by rw [left_none hbad]; rfl, hb0⟩)
        all_goals
          have hgood : nodeR x d (c - 1) = true := (nodeR_8 HK.out).2 ⟨by omega, by omega, by first | exact .inl bnan0 | exact .inr HNN.out⟩
          have hi0 : x.items.length = 0 := by have hn0 := HN0.out; have hnan := HNAN.out; have hnn := HNN.out; omega
          have hk := HK.out
          have E : Hid (leftP x c d = some (c - 1)) := left_flat hc0 hgood hi0
          have hli : ¬ (0 : Int) < x.items.length := by omega
          have hl2 : ¬ (2 : Int) < x.items.length := by omega
          have HI := Lib.hid hi0
          have HC := Lib.hid hgood
          clear hi0 hk hgood
          have c0 := hB.cell 0 rfl
          have c3 := hB.cell 3 rfl
          go_wp2_with fail
          refine wp_loop_rounds 1 ?_
          rw [rounds_succ]
          go_wp2_with fail
          refine wp_loop_rounds 1 ?_
          rw [rounds_succ]
          go_wp2_with fail
          go_ret
          exact ⟨by rw [E.out, ← HC1.out]; rfl, hb0⟩
      · have bnn0 : ((x.n : Int) != 9221120237041090560) = true := by (first | (rw [bne_eq_false_iff_eq]; unfold notNumber at hnn; omega) | (rw [bne_iff_ne]; unfold notNumber at hnn; omega))
        have HNN := Lib.hid hnn
        clear hnn
        go_enter Tryd.func64, Tryd.ntmps64
        rw [bnan0] at V
        go_upto_region 22 with (go_at_call 68; refine V.out.mono ?_; rintro e wv ⟨rfl, rfl⟩)
        any_goals
          (have hbad : nodeR x d (c - 1) = false := by
            cases hq : nodeR x d (c - 1) with
            | false => rfl
            | true => exact absurd ((nodeR_8 HK.out).1 hq) (by have hn0 := HN0.out; have hnan := HNAN.out; have hnn := HNN.out; rintro ⟨p1, p2, p3⟩; first | omega | (rcases p3 with p3 | p3; (rw [bnan0] at p3; cases p3); exact hnn p3))
           go_ret
           exact ⟨by rw [left_none hbad]; rfl, hb0⟩)
        all_goals
          have hgood : nodeR x d (c - 1) = true := (nodeR_8 HK.out).2 ⟨by omega, by omega, by first | exact .inl bnan0 | exact .inr HNN.out⟩
          have hi0 : x.items.length = 0 := by have hn0 := HN0.out; have hnan := HNAN.out; have hnn := HNN.out; omega
          have hk := HK.out
          have E : Hid (leftP x c d = some (c - 1)) := left_flat hc0 hgood hi0
          have hli : ¬ (0 : Int) < x.items.length := by omega
          have hl2 : ¬ (2 : Int) < x.items.length := by omega
          have HI := Lib.hid hi0
          have HC := Lib.hid hgood
          clear hi0 hk hgood
          have c0 := hB.cell 0 rfl
          have c3 := hB.cell 3 rfl
          go_wp2_with fail
          refine wp_loop_rounds 1 ?_
          rw [rounds_succ]
          go_wp2_with fail
          refine wp_loop_rounds 1 ?_
          rw [rounds_succ]
          go_wp2_with fail
          go_ret
          exact ⟨by rw [E.out, ← HC1.out]; rfl, hb0⟩
end Go.Proofs.YtdbhgngikglmcaaDoor
