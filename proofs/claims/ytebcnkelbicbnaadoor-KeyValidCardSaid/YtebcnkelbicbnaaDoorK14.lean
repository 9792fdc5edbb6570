/- Walks: the references' left: texts, floats. Walks: the references' left, joined; Valid; Encode. Walks: the references' Encode, Int, Bytes, label. -/
import Derived.Test.YtebcnkelbicbnaaDoorK11
import Derived.Test.YtebcnkelbicbnaaDoorK12
import Derived.Test.YtebcnkelbicbnaaDoorK13
import Derived.Test.YtebcnkelbicbnaaDoorK02
set_option linter.unusedVariables false
set_option linter.unusedSimpArgs false
namespace Go.Proofs.YtebcnkelbicbnaaDoor
open Go.RowKit

set_option maxRecDepth 100000 in
set_option maxHeartbeats 6400000 in
theorem left_k3 (x : Itm) (hk : x.kind = 3) {H : Snap} (hT : Tabs H) (ih : ∀ y : Itm, cnt y < cnt x → LeftSaid y) {ba : Option Addr} {bc : Nat} {ia : Option Addr} {ic : Nat} (hx : IsItem H ba bc ia ic x) (w : World) (hH : Holds w H) (c d : Nat) (hc0 : 0 < c) (hc : c ≤ 65536) (hd : d ≤ 65536) :
    Calls Tryd.prog 58 #[itemV x ba bc ia ic, .int .i64 c, .int .i64 d] w fun e w' => e = .returned (.int .i64 (leftI (leftP x c d))) ∧ Below w.heap.size w w' := by
  have HX := Lib.hid hx
  have hbd := hx.bounds
  have hB := Blk.new w 34 #[.int .i64 x.kind, .int .u64 x.n, .slice ba x.bytes.length bc, .slice ia x.items.length ic]
  have hb0 := below_box w (itemO x ba bc ia ic)
  have hc1 : ((c - 1 : Nat) : Int) = (c : Int) - 1 := by omega
  have hbl : x.bytes.length ≤ 9223372036854775807 := by omega
  have hil : x.items.length ≤ 9223372036854775807 := by omega
  have HN := Lib.hid hbd.2.2.1
  have hci : ¬ (c : Int) < 1 := by omega
  have k0 : ¬ x.kind < 0 := by omega
  have k8 : ¬ 8 < x.kind := by omega
  have HK := Lib.hid hk
  have HC1 := Lib.hid hc1
  have V := Lib.hid (utf8_Valid hT (w.alloc (itemO x ba bc ia ic)) (hH.alloc _) ba x.bytes _ bc rfl hx.bytes)
  clear hx hbd hc1
  obtain ⟨b0, b1, b2, b3, b4, b5, b6, b7, b8⟩ := kinds3 hk
  clear hk
  by_cases hn0 : x.n = 0
  · have bn00 : ((x.n : Int) != 0) = false := by simp [hn0]
    have bn01 : (x.n = 0) = True := by first | exact eq_true hn0 | exact eq_false hn0
    have HN0 := Lib.hid hn0
    clear hn0
    by_cases hval : Lib.validD x.bytes = true
    · have bval0 : Lib.validD x.bytes = true := by simpa using hval
      have HVAL := Lib.hid hval
      clear hval
      go_enter Tryd.func58, Tryd.ntmps58
      rw [bval0] at V
      go_upto_region 22 with (go_at_call 88; refine V.out.mono ?_; rintro e wv ⟨rfl, hbv⟩; have hB := hB.below hbv; have hb0 := hb0.trans (hbv.mono hb0.size); have e0 := hB.cell 0 rfl; have e1 := hB.cell 1 rfl; have e2 := hB.cell 2 rfl; have e3 := hB.cell 3 rfl)
      any_goals
        (have hbad : nodeR x d (c - 1) = false := by
          cases hq : nodeR x d (c - 1) with
          | false => rfl
          | true => exact absurd ((nodeR_3 HK.out).1 hq) (by have hn0 := HN0.out; have hval := HVAL.out; rintro ⟨p1, p2, p3, p4⟩; first | omega | (rw [bval0] at p4; cases p4))
         go_ret
         exact ⟨by rw [left_none hbad]; rfl, hb0⟩)
      all_goals
        have hgood : nodeR x d (c - 1) = true := (nodeR_3 HK.out).2 ⟨HN0.out, by omega, by omega, bval0⟩
        have hi0 : x.items.length = 0 := by have hn0 := HN0.out; have hval := HVAL.out; omega
        have hk := HK.out
        have E : Hid (leftP x c d = some (c - 1)) := left_flat hc0 hgood hi0
        have hli : ¬ (0 : Int) < x.items.length := by omega
        have hl2 : ¬ (2 : Int) < x.items.length := by omega
        have HI := Lib.hid hi0
        have HC := Lib.hid hgood
        clear hi0 hk hgood
        have c0 := hB.cell 0 rfl
        have c3 := hB.cell 3 rfl
        go_wp2_with fail
        refine wp_loop_rounds 1 ?_
        rw [rounds_succ]
        go_wp2_with fail
        refine wp_loop_rounds 1 ?_
        rw [rounds_succ]
        go_wp2_with fail
        go_ret
        exact ⟨by rw [E.out, ← HC1.out]; rfl, hb0⟩
    · have bval0 : Lib.validD x.bytes = false := by simpa using hval
      have HVAL := Lib.hid hval
      clear hval
      go_enter Tryd.func58, Tryd.ntmps58
      rw [bval0] at V
      go_upto_region 22 with (go_at_call 88; refine V.out.mono ?_; rintro e wv ⟨rfl, hbv⟩; have hB := hB.below hbv; have hb0 := hb0.trans (hbv.mono hb0.size); have e0 := hB.cell 0 rfl; have e1 := hB.cell 1 rfl; have e2 := hB.cell 2 rfl; have e3 := hB.cell 3 rfl)
      any_goals
        (have hbad : nodeR x d (c - 1) = false := by
          cases hq : nodeR x d (c - 1) with
          | false => rfl
          | true => exact absurd ((nodeR_3 HK.out).1 hq) (by have hn0 := HN0.out; have hval := HVAL.out; rintro ⟨p1, p2, p3, p4⟩; first | omega | (rw [bval0] at p4; cases p4))
         go_ret
         exact ⟨by rw [left_none hbad]; rfl, hb0⟩)
      all_goals
        have hgood : nodeR x d (c - 1) = true := (nodeR_3 HK.out).2 ⟨HN0.out, by omega, by omega, bval0⟩
        have hi0 : x.items.length = 0 := by have hn0 := HN0.out; have hval := HVAL.out; omega
        have hk := HK.out
        have E : Hid (leftP x c d = some (c - 1)) := left_flat hc0 hgood hi0
        have hli : ¬ (0 : Int) < x.items.length := by omega
        have hl2 : ¬ (2 : Int) < x.items.length := by omega
        have HI := Lib.hid hi0
        have HC := Lib.hid hgood
        clear hi0 hk hgood
        have c0 := hB.cell 0 rfl
        have c3 := hB.cell 3 rfl
        go_wp2_with fail
        refine wp_loop_rounds 1 ?_
        rw [rounds_succ]
        go_wp2_with fail
        refine wp_loop_rounds 1 ?_
        rw [rounds_succ]
        go_wp2_with fail
        go_ret
        exact ⟨by rw [E.out, ← HC1.out]; rfl, hb0⟩
  · have bn00 : ((x.n : Int) != 0) = true := by simp [hn0]
    have bn01 : (x.n = 0) = False := by first | exact eq_true hn0 | exact eq_false hn0
    have HN0 := Lib.hid hn0
    clear hn0
    by_cases hval : Lib.validD x.bytes = true
    · have bval0 : Lib.validD x.bytes = true := by simpa using hval
      have HVAL := Lib.hid hval
      clear hval
      go_enter Tryd.func58, Tryd.ntmps58
      rw [bval0] at V
      go_upto_region 22 with (go_at_call 88; refine V.out.mono ?_; rintro e wv ⟨rfl, hbv⟩; have hB := hB.below hbv; have hb0 := hb0.trans (hbv.mono hb0.size); have e0 := hB.cell 0 rfl; have e1 := hB.cell 1 rfl; have e2 := hB.cell 2 rfl; have e3 := hB.cell 3 rfl)
      any_goals
        (have hbad : nodeR x d (c - 1) = false := by
          cases hq : nodeR x d (c - 1) with
          | false => rfl
          | true => exact absurd ((nodeR_3 HK.out).1 hq) (by have hn0 := HN0.out; have hval := HVAL.out; rintro ⟨p1, p2, p3, p4⟩; first | omega | (rw [bval0] at p4; cases p4))
         go_ret
         exact ⟨by rw [left_none hbad]; rfl, hb0⟩)
      all_goals
        have hgood : nodeR x d (c - 1) = true := (nodeR_3 HK.out).2 ⟨HN0.out, by omega, by omega, bval0⟩
        have hi0 : x.items.length = 0 := by have hn0 := HN0.out; have hval := HVAL.out; omega
        have hk := HK.out
        have E : Hid (leftP x c d = some (c - 1)) := left_flat hc0 hgood hi0
        have hli : ¬ (0 : Int) < x.items.length := by omega
        have hl2 : ¬ (2 : Int) < x.items.length := by omega
        have HI := Lib.hid hi0
        have HC := Lib.hid hgood
        clear hi0 hk hgood
        have c0 := hB.cell 0 rfl
        have c3 := hB.cell 3 rfl
        go_wp2_with fail
        refine wp_loop_rounds 1 ?_
        rw [rounds_succ]
        go_wp2_with fail
        refine wp_loop_rounds 1 ?_
        rw [rounds_succ]
        go_wp2_with fail
        go_ret
        exact ⟨by rw [E.out, ← HC1.out]; rfl, hb0⟩
    · have bval0 : Lib.validD x.bytes = false := by simpa using hval
      have HVAL := Lib.hid hval
      clear hval
      go_enter Tryd.func58, Tryd.ntmps58
      rw [bval0] at V
      go_upto_region 22 with (go_at_call 88; refine V.out.mono ?_; rintro e wv ⟨rfl, hbv⟩; have hB := hB.below hbv; have hb0 := hb0.trans (hbv.mono hb0.size); have e0 := hB.cell 0 rfl; have e1 := hB.cell 1 rfl; have e2 := hB.cell 2 rfl; have e3 := hB.cell 3 rfl)
      any_goals
        (have hbad : nodeR x d (c - 1) = false := by
          cases hq : nodeR x d (c - 1) with
          | false => rfl
          | true => exact absurd ((nodeR_3 HK.out).1 hq) (by have hn0 := HN0.out; have hval := HVAL.out; rintro ⟨p1, p2, p3, p4⟩; first | omega | (rw [bval0] at p4; cases p4))
         go_ret
         exact ⟨by rw [left_none hbad]; rfl, hb0⟩)
      all_goals
        have hgood : nodeR x d (c - 1) = true := (nodeR_3 HK.out).2 ⟨HN0.out, by omega, by omega, bval0⟩
        have hi0 : x.items.length = 0 := by have hn0 := HN0.out; have hval := HVAL.out; omega
        have hk := HK.out
        have E : Hid (leftP x c d = some (c - 1)) := left_flat hc0 hgood hi0
        have hli : ¬ (0 : Int) < x.items.length := by omega
        have hl2 : ¬ (2 : Int) < x.items.length := by omega
        have HI := Lib.hid hi0
        have HC := Lib.hid hgood
        clear hi0 hk hgood
        have c0 := hB.cell 0 rfl
        have c3 := hB.cell 3 rfl
        go_wp2_with fail
        refine wp_loop_rounds 1 ?_
        rw [rounds_succ]
        go_wp2_with fail
        refine wp_loop_rounds 1 ?_
        rw [rounds_succ]
        go_wp2_with fail
        go_ret
        exact ⟨by rw [E.out, ← HC1.out]; rfl, hb0⟩
set_option maxRecDepth 100000 in
set_option maxHeartbeats 6400000 in
theorem left_k8 (x : Itm) (hk : x.kind = 8) {H : Snap} (hT : Tabs H) (ih : ∀ y : Itm, cnt y < cnt x → LeftSaid y) {ba : Option Addr} {bc : Nat} {ia : Option Addr} {ic : Nat} (hx : IsItem H ba bc ia ic x) (w : World) (hH : Holds w H) (c d : Nat) (hc0 : 0 < c) (hc : c ≤ 65536) (hd : d ≤ 65536) :
    Calls Tryd.prog 58 #[itemV x ba bc ia ic, .int .i64 c, .int .i64 d] w fun e w' => e = .returned (.int .i64 (leftI (leftP x c d))) ∧ Below w.heap.size w w' := by
  have HX := Lib.hid hx
  have hbd := hx.bounds
  have hB := Blk.new w 34 #[.int .i64 x.kind, .int .u64 x.n, .slice ba x.bytes.length bc, .slice ia x.items.length ic]
  have hb0 := below_box w (itemO x ba bc ia ic)
  have hc1 : ((c - 1 : Nat) : Int) = (c : Int) - 1 := by omega
  have hbl : x.bytes.length ≤ 9223372036854775807 := by omega
  have hil : x.items.length ≤ 9223372036854775807 := by omega
  have HN := Lib.hid hbd.2.2.1
  have hci : ¬ (c : Int) < 1 := by omega
  have k0 : ¬ x.kind < 0 := by omega
  have k8 : ¬ 8 < x.kind := by omega
  have HK := Lib.hid hk
  have HC1 := Lib.hid hc1
  have V := Lib.hid (ref_IsNaN x.n hbd.2.2.1 (w.alloc (itemO x ba bc ia ic)))
  clear hx hbd hc1
  obtain ⟨b0, b1, b2, b3, b4, b5, b6, b7, b8⟩ := kinds8 hk
  clear hk
  by_cases hn0 : x.n = 0
  · have bn00 : ((x.n : Int) != 0) = false := by simp [hn0]
    have bn01 : (x.n = 0) = True := by first | exact eq_true hn0 | exact eq_false hn0
    have HN0 := Lib.hid hn0
    clear hn0
    by_cases hnan : isNaN x.n = true
    · have bnan0 : isNaN x.n = true := by simpa using hnan
      have HNAN := Lib.hid hnan
      clear hnan
      by_cases hnn : x.n = notNumber
      · have bnn0 : ((x.n : Int) != 9221120237041090560) = false := by (first | (rw [bne_eq_false_iff_eq]; unfold notNumber at hnn; omega) | (rw [bne_iff_ne]; unfold notNumber at hnn; omega))
        have HNN := Lib.hid hnn
        clear hnn
        go_enter Tryd.func58, Tryd.ntmps58
        rw [bnan0] at V
        go_upto_region 22 with (go_at_call 89; refine V.out.mono ?_; rintro e wv ⟨rfl, rfl⟩)
        any_goals
          (have hbad : nodeR x d (c - 1) = false := by
            cases hq : nodeR x d (c - 1) with
            | false => rfl
            | true => exact absurd ((nodeR_8 HK.out).1 hq) (by have hn0 := HN0.out; have hnan := HNAN.out; have hnn := HNN.out; rintro ⟨p1, p2, p3⟩; first | omega | (rcases p3 with p3 | p3; (rw [bnan0] at p3; cases p3); exact hnn p3))
           go_ret
           exact ⟨by rw [left_none hbad]; rfl, hb0⟩)
        all_goals
          have hgood : nodeR x d (c - 1) = true := (nodeR_8 HK.out).2 ⟨by omega, by omega, by first | exact .inl bnan0 | exact .inr HNN.out⟩
          have hi0 : x.items.length = 0 := by have hn0 := HN0.out; have hnan := HNAN.out; have hnn := HNN.out; omega
          have hk := HK.out
          have E : Hid (leftP x c d = some (c - 1)) := left_flat hc0 hgood hi0
          have hli : ¬ (0 : Int) < x.items.length := by omega
          have hl2 : ¬ (2 : Int) < x.items.length := by omega
          have HI := Lib.hid hi0
          have HC := Lib.hid hgood
          clear hi0 hk hgood
          have c0 := hB.cell 0 rfl
          have c3 := hB.cell 3 rfl
          go_wp2_with fail
          refine wp_loop_rounds 1 ?_
          rw [rounds_succ]
          go_wp2_with fail
          refine wp_loop_rounds 1 ?_
          rw [rounds_succ]
          go_wp2_with fail
          go_ret
          exact ⟨by rw [E.out, ← HC1.out]; rfl, hb0⟩
      · have bnn0 : ((x.n : Int) != 9221120237041090560) = true := by (first | (rw [bne_eq_false_iff_eq]; unfold notNumber at hnn; omega) | (rw [bne_iff_ne]; unfold notNumber at hnn; omega))
        have HNN := Lib.hid hnn
        clear hnn
        go_enter Tryd.func58, Tryd.ntmps58
        rw [bnan0] at V
        go_upto_region 22 with (go_at_call 89; refine V.out.mono ?_; rintro e wv ⟨rfl, rfl⟩)
        any_goals
          (have hbad : nodeR x d (c - 1) = false := by
            cases hq : nodeR x d (c - 1) with
            | false => rfl
            | true => exact absurd ((nodeR_8 HK.out).1 hq) (by have hn0 := HN0.out; have hnan := HNAN.out; have hnn := HNN.out; rintro ⟨p1, p2, p3⟩; first | omega | (rcases p3 with p3 | p3; (rw [bnan0] at p3; cases p3); exact hnn p3))
           go_ret
           exact ⟨by rw [left_none hbad]; rfl, hb0⟩)
        all_goals
          have hgood : nodeR x d (c - 1) = true := (nodeR_8 HK.out).2 ⟨by omega, by omega, by first | exact .inl bnan0 | exact .inr HNN.out⟩
          have hi0 : x.items.length = 0 := by have hn0 := HN0.out; have hnan := HNAN.out; have hnn := HNN.out; omega
          have hk := HK.out
          have E : Hid (leftP x c d = some (c - 1)) := left_flat hc0 hgood hi0
          have hli : ¬ (0 : Int) < x.items.length := by omega
          have hl2 : ¬ (2 : Int) < x.items.length := by omega
          have HI := Lib.hid hi0
          have HC := Lib.hid hgood
          clear hi0 hk hgood
          have c0 := hB.cell 0 rfl
          have c3 := hB.cell 3 rfl
          go_wp2_with fail
          refine wp_loop_rounds 1 ?_
          rw [rounds_succ]
          go_wp2_with fail
          refine wp_loop_rounds 1 ?_
          rw [rounds_succ]
          go_wp2_with fail
          go_ret
          exact ⟨by rw [E.out, ← HC1.out]; rfl, hb0⟩
    · have bnan0 : isNaN x.n = false := by simpa using hnan
      have HNAN := Lib.hid hnan
      clear hnan
      by_cases hnn : x.n = notNumber
      · have bnn0 : ((x.n : Int) != 9221120237041090560) = false := by (first | (rw [bne_eq_false_iff_eq]; unfold notNumber at hnn; omega) | (rw [bne_iff_ne]; unfold notNumber at hnn; omega))
        have HNN := Lib.hid hnn
        clear hnn
        go_enter Tryd.func58, Tryd.ntmps58
        rw [bnan0] at V
        go_upto_region 22 with (go_at_call 89; refine V.out.mono ?_; rintro e wv ⟨rfl, rfl⟩)
        any_goals
          (have hbad : nodeR x d (c - 1) = false := by
            cases hq : nodeR x d (c - 1) with
            | false => rfl
            | true => exact absurd ((nodeR_8 HK.out).1 hq) (by have hn0 := HN0.out; have hnan := HNAN.out; have hnn := HNN.out; rintro ⟨p1, p2, p3⟩; first | omega | (rcases p3 with p3 | p3; (rw [bnan0] at p3; cases p3); exact hnn p3))
           go_ret
           exact ⟨by rw [left_none hbad]; rfl, hb0⟩)
        all_goals
          have hgood : nodeR x d (c - 1) = true := (nodeR_8 HK.out).2 ⟨by omega, by omega, by first | exact .inl bnan0 | exact .inr HNN.out⟩
          have hi0 : x.items.length = 0 := by have hn0 := HN0.out; have hnan := HNAN.out; have hnn := HNN.out; omega
          have hk := HK.out
          have E : Hid (leftP x c d = some (c - 1)) := left_flat hc0 hgood hi0
          have hli : ¬ (0 : Int) < x.items.length := by omega
          have hl2 : ¬ (2 : Int) < x.items.length := by omega
          have HI := Lib.hid hi0
          have HC := Lib.hid hgood
          clear hi0 hk hgood
          have c0 := hB.cell 0 rfl
          have c3 := hB.cell 3 rfl
          go_wp2_with fail
          refine wp_loop_rounds 1 ?_
          rw [rounds_succ]
          go_wp2_with fail
          refine wp_loop_rounds 1 ?_
          rw [rounds_succ]
          go_wp2_with fail
          go_ret
          exact ⟨by rw [E.out, ← HC1.out]; rfl, hb0⟩
      · have bnn0 : ((x.n : Int) != 9221120237041090560) = true := by (first | (rw [bne_eq_false_iff_eq]; unfold notNumber at hnn; omega) | (rw [bne_iff_ne]; unfold notNumber at hnn; omega))
        have HNN := Lib.hid hnn
        clear hnn
        go_enter Tryd.func58, Tryd.ntmps58
        rw [bnan0] at V
        go_upto_region 22 with (go_at_call 89; refine V.out.mono ?_; rintro e wv ⟨rfl, rfl⟩)
        any_goals
          (have hbad : nodeR x d (c - 1) = false := by
            cases hq : nodeR x d (c - 1) with
            | false => rfl
            | true => exact absurd ((nodeR_8 HK.out).1 hq) (by have hn0 := HN0.out; have hnan := HNAN.out; have hnn := HNN.out; rintro ⟨p1, p2, p3⟩; first | omega | (rcases p3 with p3 | p3; (rw [bnan0] at p3; cases p3); exact hnn p3))
           go_ret
           exact ⟨by rw [left_none hbad]; rfl, hb0⟩)
        all_goals
          have hgood : nodeR x d (c - 1) = true := (nodeR_8 HK.out).2 ⟨by omega, by omega, by first | exact .inl bnan0 | exact .inr HNN.out⟩
          have hi0 : x.items.length = 0 := by have hn0 := HN0.out; have hnan := HNAN.out; have hnn := HNN.out; omega
          have hk := HK.out
          have E : Hid (leftP x c d = some (c - 1)) := left_flat hc0 hgood hi0
          have hli : ¬ (0 : Int) < x.items.length := by omega
          have hl2 : ¬ (2 : Int) < x.items.length := by omega
          have HI := Lib.hid hi0
          have HC := Lib.hid hgood
          clear hi0 hk hgood
          have c0 := hB.cell 0 rfl
          have c3 := hB.cell 3 rfl
          go_wp2_with fail
          refine wp_loop_rounds 1 ?_
          rw [rounds_succ]
          go_wp2_with fail
          refine wp_loop_rounds 1 ?_
          rw [rounds_succ]
          go_wp2_with fail
          go_ret
          exact ⟨by rw [E.out, ← HC1.out]; rfl, hb0⟩
  · have bn00 : ((x.n : Int) != 0) = true := by simp [hn0]
    have bn01 : (x.n = 0) = False := by first | exact eq_true hn0 | exact eq_false hn0
    have HN0 := Lib.hid hn0
    clear hn0
    by_cases hnan : isNaN x.n = true
    · have bnan0 : isNaN x.n = true := by simpa using hnan
      have HNAN := Lib.hid hnan
      clear hnan
      by_cases hnn : x.n = notNumber
      · have bnn0 : ((x.n : Int) != 9221120237041090560) = false := by (first | (rw [bne_eq_false_iff_eq]; unfold notNumber at hnn; omega) | (rw [bne_iff_ne]; unfold notNumber at hnn; omega))
        have HNN := Lib.hid hnn
        clear hnn
        go_enter Tryd.func58, Tryd.ntmps58
        rw [bnan0] at V
        go_upto_region 22 with (go_at_call 89; refine V.out.mono ?_; rintro e wv ⟨rfl, rfl⟩)
        any_goals
          (have hbad : nodeR x d (c - 1) = false := by
            cases hq : nodeR x d (c - 1) with
            | false => rfl
            | true => exact absurd ((nodeR_8 HK.out).1 hq) (by have hn0 := HN0.out; have hnan := HNAN.out; have hnn := HNN.out; rintro ⟨p1, p2, p3⟩; first | omega | (rcases p3 with p3 | p3; (rw [bnan0] at p3; cases p3); exact hnn p3))
           go_ret
           exact ⟨by rw [left_none hbad]; rfl, hb0⟩)
        all_goals
          have hgood : nodeR x d (c - 1) = true := (nodeR_8 HK.out).2 ⟨by omega, by omega, by first | exact .inl bnan0 | exact .inr HNN.out⟩
          have hi0 : x.items.length = 0 := by have hn0 := HN0.out; have hnan := HNAN.out; have hnn := HNN.out; omega
          have hk := HK.out
          have E : Hid (leftP x c d = some (c - 1)) := left_flat hc0 hgood hi0
          have hli : ¬ (0 : Int) < x.items.length := by omega
          have hl2 : ¬ (2 : Int) < x.items.length := by omega
          have HI := Lib.hid hi0
          have HC := Lib.hid hgood
          clear hi0 hk hgood
          have c0 := hB.cell 0 rfl
          have c3 := hB.cell 3 rfl
          go_wp2_with fail
          refine wp_loop_rounds 1 ?_
          rw [rounds_succ]
          go_wp2_with fail
          refine wp_loop_rounds 1 ?_
          rw [rounds_succ]
          go_wp2_with fail
          go_ret
          exact ⟨by rw [E.out, ← HC1.out]; rfl, hb0⟩
      · have bnn0 : ((x.n : Int) != 9221120237041090560) = true := by (first | (rw [bne_eq_false_iff_eq]; unfold notNumber at hnn; omega) | (rw [bne_iff_ne]; unfold notNumber at hnn; omega))
        have HNN := Lib.hid hnn
        clear hnn
        go_enter Tryd.func58, Tryd.ntmps58
        rw [bnan0] at V
        go_upto_region 22 with (go_at_call 89; refine V.out.mono ?_; rintro e wv ⟨rfl, rfl⟩)
        any_goals
          (have hbad : nodeR x d (c - 1) = false := by
            cases hq : nodeR x d (c - 1) with
            | false => rfl
            | true => exact absurd ((nodeR_8 HK.out).1 hq) (by have hn0 := HN0.out; have hnan := HNAN.out; have hnn := HNN.out; rintro ⟨p1, p2, p3⟩; first | omega | (rcases p3 with p3 | p3; (rw [bnan0] at p3; cases p3); exact hnn p3))
           go_ret
           exact ⟨by rw [left_none hbad]; rfl, hb0⟩)
        all_goals
          have hgood : nodeR x d (c - 1) = true := (nodeR_8 HK.out).2 ⟨by omega, by omega, by first | exact .inl bnan0 | exact .inr HNN.out⟩
          have hi0 : x.items.length = 0 := by have hn0 := HN0.out; have hnan := HNAN.out; have hnn := HNN.out; omega
          have hk := HK.out
          have E : Hid (leftP x c d = some (c - 1)) := left_flat hc0 hgood hi0
          have hli : ¬ (0 : Int) < x.items.length := by omega
          have hl2 : ¬ (2 : Int) < x.items.length := by omega
          have HI := Lib.hid hi0
          have HC := Lib.hid hgood
          clear hi0 hk hgood
          have c0 := hB.cell 0 rfl
          have c3 := hB.cell 3 rfl
          go_wp2_with fail
          refine wp_loop_rounds 1 ?_
          rw [rounds_succ]
          go_wp2_with fail
          refine wp_loop_rounds 1 ?_
          rw [rounds_succ]
          go_wp2_with fail
          go_ret
          exact ⟨by rw [E.out, ← HC1.out]; rfl, hb0⟩
    · have bnan0 : isNaN x.n = false := by simpa using hnan
      have HNAN := Lib.hid hnan
      clear hnan
      by_cases hnn : x.n = notNumber
      · have bnn0 : ((x.n : Int) != 9221120237041090560) = false := by (first | (rw [bne_eq_false_iff_eq]; unfold notNumber at hnn; omega) | (rw [bne_iff_ne]; unfold notNumber at hnn; omega))
        have HNN := Lib.hid hnn
        clear hnn
        go_enter Tryd.func58, Tryd.ntmps58
        rw [bnan0] at V
        go_upto_region 22 with (go_at_call 89; refine V.out.mono ?_; rintro e wv ⟨rfl, rfl⟩)
        any_goals
          (have hbad : nodeR x d (c - 1) = false := by
            cases hq : nodeR x d (c - 1) with
            | false => rfl
            | true => exact absurd ((nodeR_8 HK.out).1 hq) (by have hn0 := HN0.out; have hnan := HNAN.out; have hnn := HNN.out; rintro ⟨p1, p2, p3⟩; first | omega | (rcases p3 with p3 | p3; (rw [bnan0] at p3; cases p3); exact hnn p3))
           go_ret
           exact ⟨by rw [left_none hbad]; rfl, hb0⟩)
        all_goals
          have hgood : nodeR x d (c - 1) = true := (nodeR_8 HK.out).2 ⟨by omega, by omega, by first | exact .inl bnan0 | exact .inr HNN.out⟩
          have hi0 : x.items.length = 0 := by have hn0 := HN0.out; have hnan := HNAN.out; have hnn := HNN.out; omega
          have hk := HK.out
          have E : Hid (leftP x c d = some (c - 1)) := left_flat hc0 hgood hi0
          have hli : ¬ (0 : Int) < x.items.length := by omega
          have hl2 : ¬ (2 : Int) < x.items.length := by omega
          have HI := Lib.hid hi0
          have HC := Lib.hid hgood
          clear hi0 hk hgood
          have c0 := hB.cell 0 rfl
          have c3 := hB.cell 3 rfl
          go_wp2_with fail
          refine wp_loop_rounds 1 ?_
          rw [rounds_succ]
          go_wp2_with fail
          refine wp_loop_rounds 1 ?_
          rw [rounds_succ]
          go_wp2_with fail
          go_ret
          exact ⟨by rw [E.out, ← HC1.out]; rfl, hb0⟩
      · have bnn0 : ((x.n : Int) != 9221120237041090560) = true := by (first | (rw [bne_eq_false_iff_eq]; unfold notNumber at hnn; omega) | (rw [bne_iff_ne]; unfold notNumber at hnn; omega))
        have HNN := Lib.hid hnn
        clear hnn
        go_enter Tryd.func58, Tryd.ntmps58
        rw [bnan0] at V
        go_upto_region 22 with (go_at_call 89; refine V.out.mono ?_; rintro e wv ⟨rfl, rfl⟩)
        any_goals
          (have hbad : nodeR x d (c - 1) = false := by
            cases hq : nodeR x d (c - 1) with
            | false => rfl
            | true => exact absurd ((nodeR_8 HK.out).1 hq) (by have hn0 := HN0.out; have hnan := HNAN.out; have hnn := HNN.out; rintro ⟨p1, p2, p3⟩; first | omega | (rcases p3 with p3 | p3; (rw [bnan0] at p3; cases p3); exact hnn p3))
           go_ret
           exact ⟨by rw [left_none hbad]; rfl, hb0⟩)
        all_goals
          have hgood : nodeR x d (c - 1) = true := (nodeR_8 HK.out).2 ⟨by omega, by omega, by first | exact .inl bnan0 | exact .inr HNN.out⟩
          have hi0 : x.items.length = 0 := by have hn0 := HN0.out; have hnan := HNAN.out; have hnn := HNN.out; omega
          have hk := HK.out
          have E : Hid (leftP x c d = some (c - 1)) := left_flat hc0 hgood hi0
          have hli : ¬ (0 : Int) < x.items.length := by omega
          have hl2 : ¬ (2 : Int) < x.items.length := by omega
          have HI := Lib.hid hi0
          have HC := Lib.hid hgood
          clear hi0 hk hgood
          have c0 := hB.cell 0 rfl
          have c3 := hB.cell 3 rfl
          go_wp2_with fail
          refine wp_loop_rounds 1 ?_
          rw [rounds_succ]
          go_wp2_with fail
          refine wp_loop_rounds 1 ?_
          rw [rounds_succ]
          go_wp2_with fail
          go_ret
          exact ⟨by rw [E.out, ← HC1.out]; rfl, hb0⟩
end Go.Proofs.YtebcnkelbicbnaaDoor
namespace Go.Proofs.YtebcnkelbicbnaaDoor
open Go.RowKit

set_option maxRecDepth 100000 in
set_option maxHeartbeats 1600000 in
theorem left_out (x : Itm) (hk : x.kind < 0 ∨ 8 < x.kind) {ba : Option Addr} {bc : Nat} {ia : Option Addr} {ic : Nat} (w : World) (c d : Nat) (hc0 : 0 < c) (hc : c ≤ 65536) :
    Calls Tryd.prog 58 #[itemV x ba bc ia ic, .int .i64 c, .int .i64 d] w fun e w' => e = .returned (.int .i64 (leftI (leftP x c d))) ∧ Below w.heap.size w w' := by
  have E : Hid (leftP x c d = none) := left_none (nodeR_out hk)
  have hci : ¬ (c : Int) < 1 := by omega
  have b2 : (x.kind == 2) = false := by rw [beq_eq_false_iff_ne]; omega
  have b3 : (x.kind == 3) = false := by rw [beq_eq_false_iff_ne]; omega
  have b4 : (x.kind == 4) = false := by rw [beq_eq_false_iff_ne]; omega
  have b5 : (x.kind == 5) = false := by rw [beq_eq_false_iff_ne]; omega
  have b6 : (x.kind == 6) = false := by rw [beq_eq_false_iff_ne]; omega
  rcases hk with hk | hk
  · go_enter Tryd.func58, Tryd.ntmps58
    go_wp2_with fail
    go_ret
    exact ⟨by rw [E.out]; rfl, below_box w _⟩
  · have hk0 : ¬ x.kind < 0 := by omega
    go_enter Tryd.func58, Tryd.ntmps58
    go_wp2_with fail
    go_ret
    exact ⟨by rw [E.out]; rfl, below_box w _⟩

theorem ref_left (x : Itm) : LeftSaid x := by
  have main : ∀ N, ∀ x : Itm, cnt x ≤ N → LeftSaid x := by
    intro N
    induction N with
    | zero =>
      intro x hx
      have : 0 < cnt x := by cases x; rw [cnt]; omega
      omega
    | succ N ih =>
      intro x hx H hT k n ba bl bc ia il ic w c d ha hH hc hd
      obtain ⟨rfl, rfl, rfl, rfl, hi⟩ := ha.eqs_
      have ih' : ∀ y : Itm, cnt y < cnt x → LeftSaid y := fun y hy => ih y (by omega)
      rcases Nat.eq_zero_or_pos c with h0 | h0
      · subst h0
        exact left_zero x (H := H) w d
      · rcases (by omega : (x.kind < 0 ∨ 8 < x.kind) ∨ x.kind = 0 ∨ x.kind = 1 ∨ x.kind = 2 ∨ x.kind = 3 ∨ x.kind = 4 ∨ x.kind = 5 ∨ x.kind = 6 ∨ x.kind = 7 ∨ x.kind = 8) with h | h | h | h | h | h | h | h | h | h
        · exact left_out x h w c d h0 hc
        · exact left_k0 x h hT ih' hi w hH c d h0 hc hd
        · exact left_k1 x h hT ih' hi w hH c d h0 hc hd
        · exact left_k2 x h hT ih' hi w hH c d h0 hc hd
        · exact left_k3 x h hT ih' hi w hH c d h0 hc hd
        · exact left_k4 x h hT ih' hi w hH c d h0 hc hd
        · exact left_k5 x h hT ih' hi w hH c d h0 hc hd
        · exact left_k6 x h hT ih' hi w hH c d h0 hc hd
        · exact left_k7 x h hT ih' hi w hH c d h0 hc hd
        · exact left_k8 x h hT ih' hi w hH c d h0 hc hd
  exact main _ x (Nat.le_refl _)

theorem left_valid {x : Itm} {r : Nat} (h : leftP x 256 0 = some r) : Good x 0 ∧ (encB x).length ≤ 1099511627776 := by
  obtain ⟨h1, h2, h3⟩ := left_spec _ _ _ _ h
  have := h1.bytes h2
  exact ⟨h1, by omega⟩

set_option maxRecDepth 100000 in
set_option maxHeartbeats 1600000 in
theorem ref_Valid {H : Snap} (hT : Tabs H) {k n : Int} {ba : Option Addr} {bl bc : Nat} {ia : Option Addr} {il ic : Nat} {x : Itm} (hx : ItemA H k n ba bl bc ia il ic x) (w : World) (hH : Holds w H) :
    Calls Tryd.prog 40 #[.agg #[.int .i64 k, .int .u64 n, .slice ba bl bc, .slice ia il ic]] w fun e w' => e = .returned (.bool (validP x)) ∧ Below w.heap.size w w' := by
  obtain ⟨rfl, rfl, rfl, rfl, hxi⟩ := hx.eqs_
  have hB := Blk.new w 34 #[.int .i64 x.kind, .int .u64 x.n, .slice ba x.bytes.length bc, .slice ia x.items.length ic]
  have hb0 := below_box w (itemO x ba bc ia ic)
  have hH0 := hH.alloc (itemO x ba bc ia ic)
  have L := Lib.hid (ref_left x H hT _ _ _ _ _ _ _ _ (w.alloc (itemO x ba bc ia ic)) 256 0 hxi.arg hH0 (by omega) (by omega))
  have E0 := validR_eq x
  unfold validR at E0
  cases hl : leftP x 256 0 with
  | none =>
    rw [hl] at L E0
    have E : Hid (validP x = false) := by rw [Hid, ← E0]; rfl
    clear hl E0
    go_enter Tryd.func40, Tryd.ntmps40
    go_wp2_with fail
    refine L.out.mono ?_
    rintro e w1 ⟨rfl, hb1⟩
    have hbz := hb0.trans (hb1.mono hb0.size)
    simp only [leftI]
    go_wp2_with fail
    go_ret
    exact ⟨by rw [E.out]; rfl, hbz⟩
  | some r =>
    rw [hl] at L E0
    obtain ⟨hg, hle⟩ := left_valid hl
    have E : Hid (validP x = decide ((encB x).length ≤ 4096)) := by rw [Hid, ← E0]; rfl
    have hr0 : (0 : Int) ≤ (r : Int) := by omega
    have RW := Lib.hid (fun w1 : World => fun h1 : Holds w1 H => ref_Raw x H _ _ ba _ bc ia _ ic w1 0 hg hle hxi.arg h1)
    have HLE := Lib.hid hle
    clear hl E0 hg hle
    go_enter Tryd.func40, Tryd.ntmps40
    go_wp2_with fail
    refine L.out.mono ?_
    rintro e w1 ⟨rfl, hb1⟩
    have hB1 := hB.below hb1
    have hbz := hb0.trans (hb1.mono hb0.size)
    have hH1 := hH0.below hb1 (Nat.le_refl _)
    have c0 := hB1.cell 0 rfl
    have c1 := hB1.cell 1 rfl
    have c2 := hB1.cell 2 rfl
    have c3 := hB1.cell 3 rfl
    simp only [leftI]
    go_wp2_with fail
    refine (RW.out _ hH1).mono ?_
    rintro e w2 ⟨r2, rfl, hf⟩
    obtain ⟨RA, rc, rfl, _⟩ := hf.own.form
    have hby := hbz.trans (hf.2.mono hbz.size)
    have hle := HLE.out
    by_cases h4 : (encB x).length ≤ 4096
    · have E1 : Hid (validP x = true) := by rw [Hid, E.out, decide_eq_true h4]
      have h4i : ((encB x).length : Int) ≤ 4096 := by omega
      generalize (encB x).length = q at *
      clear h4 hf
      go_wp2_with fail
      go_ret
      exact ⟨by rw [E1.out]; rfl, hby⟩
    · have E1 : Hid (validP x = false) := by rw [Hid, E.out, decide_eq_false h4]
      have h4i : ¬ ((encB x).length : Int) ≤ 4096 := by omega
      generalize (encB x).length = q at *
      clear h4 hf
      go_wp2_with fail
      go_ret
      refine ⟨?_, hby⟩
      rw [E1.out]
      show Ending.returned (Value.bool (decide _)) = _
      rw [decide_eq_false (by omega)]
end Go.Proofs.YtebcnkelbicbnaaDoor
namespace Go.Proofs.YtebcnkelbicbnaaDoor
open Go.RowKit

/-- What Encode answers. -/
def EncSaidR (w : World) (x : Itm) (e : Ending) (w' : World) : Prop :=
  (validP x = false ∧ e = .returned (.tuple #[.slice none 0 0, .int .i64 1]) ∧ Below w.heap.size w w') ∨
  (validP x = true ∧ ∃ r, e = .returned (.tuple #[r, .int .i64 0]) ∧ Fresh w (encB x) r w')

set_option maxRecDepth 100000 in
set_option maxHeartbeats 1600000 in
theorem ref_Encode {H : Snap} (hT : Tabs H) {k n : Int} {ba : Option Addr} {bl bc : Nat} {ia : Option Addr} {il ic : Nat} {x : Itm} (hx : ItemA H k n ba bl bc ia il ic x) (w : World) (hH : Holds w H) :
    Calls Tryd.prog 26 #[.agg #[.int .i64 k, .int .u64 n, .slice ba bl bc, .slice ia il ic]] w (EncSaidR w x) := by
  obtain ⟨rfl, rfl, rfl, rfl, hxi⟩ := hx.eqs_
  have hH1 := hH.alloc (itemO x ba bc ia ic)
  have hb1 := below_box w (itemO x ba bc ia ic)
  have hB1 := Blk.new w 34 #[.int .i64 x.kind, .int .u64 x.n, .slice ba x.bytes.length bc, .slice ia x.items.length ic]
  have V := Lib.hid (ref_Valid hT hxi.arg _ hH1)
  go_enter Tryd.func26, Tryd.ntmps26
  go_wp2_with fail
  refine V.out.mono ?_
  rintro e w2 ⟨rfl, hb2⟩
  have hB2 := hB1.below hb2
  have b0 := hB2.cell 0 rfl
  have b1 := hB2.cell 1 rfl
  have b2 := hB2.cell 2 rfl
  have b3 := hB2.cell 3 rfl
  have hH2 := hH1.below hb2 (Nat.le_refl _)
  have hb := hb1.trans (hb2.mono hb1.size)
  cases hv : validP x with
  | false =>
    have hv' := Lib.hid hv
    clear hv
    go_wp2_with fail
    go_ret2
    exact .inl ⟨hv'.out, rfl, hb⟩
  | true =>
    have hg := (validP_iff x).1 hv
    have A := Lib.hid (ref_Raw x H _ _ ba _ bc ia _ ic w2 0 hg.1 (by omega) hxi.arg hH2)
    have hv' := Lib.hid hv
    clear hv hg
    go_wp2_with fail
    refine A.out.mono ?_
    rintro e w3 ⟨r, rfl, hf⟩
    go_wp2_with fail
    go_ret2
    exact .inr ⟨hv'.out, _, rfl, hf.step hb⟩

set_option maxRecDepth 100000 in
theorem ref_Int (n : Int) (h1 : -9223372036854775808 ≤ n) (h2 : n ≤ 9223372036854775807) {H : Snap} (w : World) (hH : Holds w H) :
    Calls Tryd.prog 43 #[.int .i64 n] w fun e w' => ∃ v, e = .returned v ∧ Gives w H (intP n) v w' := by
  by_cases h0 : n < 0
  · have E : Hid (intP n = .mk 1 (-1 - n).toNat [] [] ∧ (-1 - n).toNat < 18446744073709551616 ∧ -1 - n = ((-1 - n).toNat : Int)) := ⟨by rw [intP, if_pos h0], by omega, by omega⟩
    have K1 : IntKind.u64.wrap (-1 - n) = -1 - n := by rw [IntKind.wrap_u64]; omega
    have K0 : IntKind.i64.wrap (-1 - n) = -1 - n := IntWalk.i64_in _ (by omega)
    clear h1 h2
    go_enter Tryd.func43, Tryd.ntmps43
    go_wp2_with fail
    refine ret_row rfl rfl (Blk.new _ _ _) rfl rfl size_item rfl ?_
    rw [E.out.1]
    exact ⟨_, rfl, Gives.plain hH (below_box _ _) (by omega) E.out.2.1 E.out.2.2⟩
  · have E : Hid (intP n = .mk 0 n.toNat [] [] ∧ n.toNat < 18446744073709551616 ∧ n = (n.toNat : Int)) := ⟨by rw [intP, if_neg h0], by omega, by omega⟩
    have K1 : IntKind.u64.wrap n = n := by rw [IntKind.wrap_u64]; omega
    have hn := Int.not_lt.1 h0
    clear h1 h2 h0
    go_enter Tryd.func43, Tryd.ntmps43
    go_wp2_with fail
    refine ret_row rfl rfl (Blk.new _ _ _) rfl rfl size_item rfl ?_
    rw [E.out.1]
    exact ⟨_, rfl, Gives.plain hH (below_box _ _) (by omega) E.out.2.1 E.out.2.2⟩

set_option maxRecDepth 100000 in
theorem ref_Bytes {A : Option Addr} {n c : Nat} {l : List UInt8} (hn : n = l.length) (hl : l.length ≤ 1099511627776) {H : Snap} (w : World) (hs : Src w A (l.map byteV)) (hH : Holds w H) :
    Calls Tryd.prog 44 #[.slice A n c] w fun e w' => ∃ v, e = .returned v ∧ Gives w H (.mk 2 0 l []) v w' := by
  have HN := Lib.hid hn
  clear hn
  have hs1 := hs.alloc zeroO
  go_enter Tryd.func44, Tryd.ntmps44
  go_wp2_with (at_builtin; refine stop_in ?_)
  unfold Stopped
  refine wpList_app_bytes rfl (.const (.slice none 0 0)) (.tmp 3) rfl (w.heap.size + 1) (.slice none 0 0) [] rfl (OwnB.nil _ _) A n c l rfl HN.out hs1 (by simp; omega) (by simp) fun v' w1 hO hg _ => ?_
  have hf : Fresh (w.alloc zeroO) l v' w1 := ⟨by have := hO.more (base' := (w.alloc zeroO).heap.size) (by simp); simpa [OwnB] using this, grown_none (by simpa [Value.ownBlock] using hg)⟩
  have hB := (Blk.new w 34 #[.int .i64 0, .int .u64 0, .slice none 0 0, .slice none 0 0]).below hf.2
  have HF := Lib.hid (hf.gives (k := 2) (hH.alloc zeroO) (by omega))
  obtain ⟨A', c', rfl, _⟩ := hf.own.form
  clear hO hg hf
  go_wp2_with (with_reducible refine stop_store ?_)
  unfold Stopped
  refine wpList_store_item rfl _ _ _ rfl rfl _ _ rfl rfl _ _ hB size_item rfl (one4 _ _ _ _ rfl rfl rfl rfl) fun w2 hB2 hG2 => ?_
  go_wp2_with fail
  refine ret_row rfl rfl hB2 rfl rfl size_item rfl ?_
  exact ⟨_, rfl, HF.out.own (below_box _ _) hH hG2 (Nat.le_refl _) (by simp)⟩

end Go.Proofs.YtebcnkelbicbnaaDoor
