/- squeezed. Walks: the references' left: texts -/
import Derived.Test.YtmacemcajlgddaaGreatDoorK10
import Derived.Test.YtmacemcajlgddaaGreatDoorK11
import Derived.Test.YtmacemcajlgddaaGreatDoorK12
import Derived.Test.YtmacemcajlgddaaGreatDoorK09
import Derived.Test.YtmacemcajlgddaaGreatDoorK05
import Derived.Test.YtmacemcajlgddaaGreatDoorK04
import Derived.Test.YtmacemcajlgddaaGreatDoorK00
import Derived.Test.YtmacemcajlgddaaGreatDoorK01
import Derived.Laws.IdiomStrings
set_option linter.unusedVariables false
set_option linter.unusedSimpArgs false
set_option maxRecDepth 100000
set_option maxHeartbeats 6400000
namespace Go.Proofs.YtmacemcajlgddaaGreatDoor
open Go.RowKit
theorem left_k3 (x : Itm) (hk : x.kind = 3) {H : Snap} (hT : Tabs H) (ih : ∀ y : Itm, cnt y < cnt x → LeftSaid y) {ba : Option Addr} {bc : Nat} {ia : Option Addr} {ic : Nat} (hx : IsItem H ba bc ia ic x) (w : World) (hH : Holds w H) (c d : Nat) (hc0 : 0 < c) (hc : c ≤ 65536) (hd : d ≤ 65536) :
  Calls Tryz.prog 77 #[itemV x ba bc ia ic, .int .i64 c, .int .i64 d] w fun e w' => e = .returned (.int .i64 (leftI (leftP x c d))) ∧ Below w.heap.size w w' := by
 have HX := Hh hx;have hbd := hx.bounds;have hB := Blk.new w 54 #[.int .i64 x.kind, .int .u64 x.n, .slice ba x.bytes.length bc, .slice ia x.items.length ic];have hb0 := below_box w (itemO x ba bc ia ic);have hc1 : ((c - 1 : Nat) : Int) = (c : Int) - 1 := by omega
 have hbl : x.bytes.length ≤ 9223372036854775807 := by omega
 have hil : x.items.length ≤ 9223372036854775807 := by omega
 have HN := Hh hbd.2.2.1;have hci : ¬ (c : Int) < 1 := by omega
 have k0 : ¬ x.kind < 0 := by omega
 have k8 : ¬ 8 < x.kind := by omega
 have HK := Hh hk;have HC1 := Hh hc1;have V := Hh (utf8_Valid hT (w.alloc (itemO x ba bc ia ic)) (hH.alloc _) ba x.bytes _ bc rfl hx.bytes);clear hx hbd hc1;obtain ⟨b0, b1, b2, b3, b4, b5, b6, b7, b8⟩ := kinds3 hk;clear hk
 by_cases hn0 : x.n = 0
 ·have bn00 : ((x.n : Int) != 0) = false := by simp [hn0]
  have bn01 : (x.n = 0) = True := by first | exact eq_true hn0 | exact eq_false hn0
  have HN0 := Hh hn0;clear hn0
  by_cases hval : Lib.validD x.bytes = true
  ·have bval0 : Lib.validD x.bytes = true := by simpa using hval
   have HVAL := Hh hval;clear hval;go_enter Tryz.func77, Tryz.ntmps77
   rw [bval0] at V;go_upto_region 22 with (go_at_call 104; refine V.out.mono ?_; rintro e wv ⟨rfl, hbv⟩; have hB := hB.below hbv; have hb0 := hb0.trans (hbv.mono hb0.size); have e0 := hB.cell 0 rfl; have e1 := hB.cell 1 rfl; have e2 := hB.cell 2 rfl; have e3 := hB.cell 3 rfl)
   any_goals
    (have hbad : nodeR x d (c - 1) = false := by
      cases hq : nodeR x d (c - 1) with
      | false => rfl
      | true => exact absurd ((nodeR_3 HK.out).1 hq) (by have hn0 := HN0.out; have hval := HVAL.out; rintro ⟨p1, p2, p3, p4⟩; first | omega | (rw [bval0] at p4; cases p4))
     go_ret
     exact ⟨by rw [left_none hbad]; rfl, hb0⟩)
   all_goals
    have hgood : nodeR x d (c - 1) = true := (nodeR_3 HK.out).2 ⟨HN0.out, by omega, by omega, bval0⟩;have hi0 : x.items.length = 0 := by have hn0 := HN0.out; have hval := HVAL.out; omega
    have hk := HK.out;have E : Hid (leftP x c d = some (c - 1)) := left_flat hc0 hgood hi0;have hli : ¬ (0 : Int) < x.items.length := by omega
    have hl2 : ¬ (2 : Int) < x.items.length := by omega
    have HI := Hh hi0;have HC := Hh hgood;clear hi0 hk hgood;have c0 := hB.cell 0 rfl;have c3 := hB.cell 3 rfl;go_wp2_with fail
    refine wp_loop_rounds 1 ?_
    rw [rounds_succ];go_wp2_with fail
    refine wp_loop_rounds 1 ?_
    rw [rounds_succ];go_wp2_with fail
    go_ret
    exact ⟨by rw [E.out, ← HC1.out]; rfl, hb0⟩
  ·have bval0 : Lib.validD x.bytes = false := by simpa using hval
   have HVAL := Hh hval;clear hval;go_enter Tryz.func77, Tryz.ntmps77
   rw [bval0] at V;go_upto_region 22 with (go_at_call 104; refine V.out.mono ?_; rintro e wv ⟨rfl, hbv⟩; have hB := hB.below hbv; have hb0 := hb0.trans (hbv.mono hb0.size); have e0 := hB.cell 0 rfl; have e1 := hB.cell 1 rfl; have e2 := hB.cell 2 rfl; have e3 := hB.cell 3 rfl)
   any_goals
    (have hbad : nodeR x d (c - 1) = false := by
      cases hq : nodeR x d (c - 1) with
      | false => rfl
      | true => exact absurd ((nodeR_3 HK.out).1 hq) (by have hn0 := HN0.out; have hval := HVAL.out; rintro ⟨p1, p2, p3, p4⟩; first | omega | (rw [bval0] at p4; cases p4))
     go_ret
     exact ⟨by rw [left_none hbad]; rfl, hb0⟩)
   all_goals
    have hgood : nodeR x d (c - 1) = true := (nodeR_3 HK.out).2 ⟨HN0.out, by omega, by omega, bval0⟩;have hi0 : x.items.length = 0 := by have hn0 := HN0.out; have hval := HVAL.out; omega
    have hk := HK.out;have E : Hid (leftP x c d = some (c - 1)) := left_flat hc0 hgood hi0;have hli : ¬ (0 : Int) < x.items.length := by omega
    have hl2 : ¬ (2 : Int) < x.items.length := by omega
    have HI := Hh hi0;have HC := Hh hgood;clear hi0 hk hgood;have c0 := hB.cell 0 rfl;have c3 := hB.cell 3 rfl;go_wp2_with fail
    refine wp_loop_rounds 1 ?_
    rw [rounds_succ];go_wp2_with fail
    refine wp_loop_rounds 1 ?_
    rw [rounds_succ];go_wp2_with fail
    go_ret
    exact ⟨by rw [E.out, ← HC1.out]; rfl, hb0⟩
 ·have bn00 : ((x.n : Int) != 0) = true := by simp [hn0]
  have bn01 : (x.n = 0) = False := by first | exact eq_true hn0 | exact eq_false hn0
  have HN0 := Hh hn0;clear hn0
  by_cases hval : Lib.validD x.bytes = true
  ·have bval0 : Lib.validD x.bytes = true := by simpa using hval
   have HVAL := Hh hval;clear hval;go_enter Tryz.func77, Tryz.ntmps77
   rw [bval0] at V;go_upto_region 22 with (go_at_call 104; refine V.out.mono ?_; rintro e wv ⟨rfl, hbv⟩; have hB := hB.below hbv; have hb0 := hb0.trans (hbv.mono hb0.size); have e0 := hB.cell 0 rfl; have e1 := hB.cell 1 rfl; have e2 := hB.cell 2 rfl; have e3 := hB.cell 3 rfl)
   any_goals
    (have hbad : nodeR x d (c - 1) = false := by
      cases hq : nodeR x d (c - 1) with
      | false => rfl
      | true => exact absurd ((nodeR_3 HK.out).1 hq) (by have hn0 := HN0.out; have hval := HVAL.out; rintro ⟨p1, p2, p3, p4⟩; first | omega | (rw [bval0] at p4; cases p4))
     go_ret
     exact ⟨by rw [left_none hbad]; rfl, hb0⟩)
   all_goals
    have hgood : nodeR x d (c - 1) = true := (nodeR_3 HK.out).2 ⟨HN0.out, by omega, by omega, bval0⟩;have hi0 : x.items.length = 0 := by have hn0 := HN0.out; have hval := HVAL.out; omega
    have hk := HK.out;have E : Hid (leftP x c d = some (c - 1)) := left_flat hc0 hgood hi0;have hli : ¬ (0 : Int) < x.items.length := by omega
    have hl2 : ¬ (2 : Int) < x.items.length := by omega
    have HI := Hh hi0;have HC := Hh hgood;clear hi0 hk hgood;have c0 := hB.cell 0 rfl;have c3 := hB.cell 3 rfl;go_wp2_with fail
    refine wp_loop_rounds 1 ?_
    rw [rounds_succ];go_wp2_with fail
    refine wp_loop_rounds 1 ?_
    rw [rounds_succ];go_wp2_with fail
    go_ret
    exact ⟨by rw [E.out, ← HC1.out]; rfl, hb0⟩
  ·have bval0 : Lib.validD x.bytes = false := by simpa using hval
   have HVAL := Hh hval;clear hval;go_enter Tryz.func77, Tryz.ntmps77
   rw [bval0] at V;go_upto_region 22 with (go_at_call 104; refine V.out.mono ?_; rintro e wv ⟨rfl, hbv⟩; have hB := hB.below hbv; have hb0 := hb0.trans (hbv.mono hb0.size); have e0 := hB.cell 0 rfl; have e1 := hB.cell 1 rfl; have e2 := hB.cell 2 rfl; have e3 := hB.cell 3 rfl)
   any_goals
    (have hbad : nodeR x d (c - 1) = false := by
      cases hq : nodeR x d (c - 1) with
      | false => rfl
      | true => exact absurd ((nodeR_3 HK.out).1 hq) (by have hn0 := HN0.out; have hval := HVAL.out; rintro ⟨p1, p2, p3, p4⟩; first | omega | (rw [bval0] at p4; cases p4))
     go_ret
     exact ⟨by rw [left_none hbad]; rfl, hb0⟩)
   all_goals
    have hgood : nodeR x d (c - 1) = true := (nodeR_3 HK.out).2 ⟨HN0.out, by omega, by omega, bval0⟩;have hi0 : x.items.length = 0 := by have hn0 := HN0.out; have hval := HVAL.out; omega
    have hk := HK.out;have E : Hid (leftP x c d = some (c - 1)) := left_flat hc0 hgood hi0;have hli : ¬ (0 : Int) < x.items.length := by omega
    have hl2 : ¬ (2 : Int) < x.items.length := by omega
    have HI := Hh hi0;have HC := Hh hgood;clear hi0 hk hgood;have c0 := hB.cell 0 rfl;have c3 := hB.cell 3 rfl;go_wp2_with fail
    refine wp_loop_rounds 1 ?_
    rw [rounds_succ];go_wp2_with fail
    refine wp_loop_rounds 1 ?_
    rw [rounds_succ];go_wp2_with fail
    go_ret
    exact ⟨by rw [E.out, ← HC1.out]; rfl, hb0⟩
theorem left_k8 (x : Itm) (hk : x.kind = 8) {H : Snap} (hT : Tabs H) (ih : ∀ y : Itm, cnt y < cnt x → LeftSaid y) {ba : Option Addr} {bc : Nat} {ia : Option Addr} {ic : Nat} (hx : IsItem H ba bc ia ic x) (w : World) (hH : Holds w H) (c d : Nat) (hc0 : 0 < c) (hc : c ≤ 65536) (hd : d ≤ 65536) :
  Calls Tryz.prog 77 #[itemV x ba bc ia ic, .int .i64 c, .int .i64 d] w fun e w' => e = .returned (.int .i64 (leftI (leftP x c d))) ∧ Below w.heap.size w w' := by
 have HX := Hh hx;have hbd := hx.bounds;have hB := Blk.new w 54 #[.int .i64 x.kind, .int .u64 x.n, .slice ba x.bytes.length bc, .slice ia x.items.length ic];have hb0 := below_box w (itemO x ba bc ia ic);have hc1 : ((c - 1 : Nat) : Int) = (c : Int) - 1 := by omega
 have hbl : x.bytes.length ≤ 9223372036854775807 := by omega
 have hil : x.items.length ≤ 9223372036854775807 := by omega
 have HN := Hh hbd.2.2.1;have hci : ¬ (c : Int) < 1 := by omega
 have k0 : ¬ x.kind < 0 := by omega
 have k8 : ¬ 8 < x.kind := by omega
 have HK := Hh hk;have HC1 := Hh hc1;have V := Hh (ref_IsNaN x.n hbd.2.2.1 (w.alloc (itemO x ba bc ia ic)));clear hx hbd hc1;obtain ⟨b0, b1, b2, b3, b4, b5, b6, b7, b8⟩ := kinds8 hk;clear hk
 by_cases hn0 : x.n = 0
 ·have bn00 : ((x.n : Int) != 0) = false := by simp [hn0]
  have bn01 : (x.n = 0) = True := by first | exact eq_true hn0 | exact eq_false hn0
  have HN0 := Hh hn0;clear hn0
  by_cases hnan : isNaN x.n = true
  ·have bnan0 : isNaN x.n = true := by simpa using hnan
   have HNAN := Hh hnan;clear hnan
   by_cases hnn : x.n = notNumber
   ·have bnn0 : ((x.n : Int) != 9221120237041090560) = false := by (first | (rw [bne_eq_false_iff_eq]; unfold notNumber at hnn; omega) | (rw [bne_iff_ne]; unfold notNumber at hnn; omega))
    have HNN := Hh hnn;clear hnn;go_enter Tryz.func77, Tryz.ntmps77
    rw [bnan0] at V;go_upto_region 22 with (go_at_call 105; refine V.out.mono ?_; rintro e wv ⟨rfl, rfl⟩)
    any_goals
     (have hbad : nodeR x d (c - 1) = false := by
       cases hq : nodeR x d (c - 1) with
       | false => rfl
       | true => exact absurd ((nodeR_8 HK.out).1 hq) (by have hn0 := HN0.out; have hnan := HNAN.out; have hnn := HNN.out; rintro ⟨p1, p2, p3⟩; first | omega | (rcases p3 with p3 | p3; (rw [bnan0] at p3; cases p3); exact hnn p3))
      go_ret
      exact ⟨by rw [left_none hbad]; rfl, hb0⟩)
    all_goals
     have hgood : nodeR x d (c - 1) = true := (nodeR_8 HK.out).2 ⟨by omega, by omega, by first | exact .inl bnan0 | exact .inr HNN.out⟩;have hi0 : x.items.length = 0 := by have hn0 := HN0.out; have hnan := HNAN.out; have hnn := HNN.out; omega
     have hk := HK.out;have E : Hid (leftP x c d = some (c - 1)) := left_flat hc0 hgood hi0;have hli : ¬ (0 : Int) < x.items.length := by omega
     have hl2 : ¬ (2 : Int) < x.items.length := by omega
     have HI := Hh hi0;have HC := Hh hgood;clear hi0 hk hgood;have c0 := hB.cell 0 rfl;have c3 := hB.cell 3 rfl;go_wp2_with fail
     refine wp_loop_rounds 1 ?_
     rw [rounds_succ];go_wp2_with fail
     refine wp_loop_rounds 1 ?_
     rw [rounds_succ];go_wp2_with fail
     go_ret
     exact ⟨by rw [E.out, ← HC1.out]; rfl, hb0⟩
   ·have bnn0 : ((x.n : Int) != 9221120237041090560) = true := by (first | (rw [bne_eq_false_iff_eq]; unfold notNumber at hnn; omega) | (rw [bne_iff_ne]; unfold notNumber at hnn; omega))
    have HNN := Hh hnn;clear hnn;go_enter Tryz.func77, Tryz.ntmps77
    rw [bnan0] at V;go_upto_region 22 with (go_at_call 105; refine V.out.mono ?_; rintro e wv ⟨rfl, rfl⟩)
    any_goals
     (have hbad : nodeR x d (c - 1) = false := by
       cases hq : nodeR x d (c - 1) with
       | false => rfl
       | true => exact absurd ((nodeR_8 HK.out).1 hq) (by have hn0 := HN0.out; have hnan := HNAN.out; have hnn := HNN.out; rintro ⟨p1, p2, p3⟩; first | omega | (rcases p3 with p3 | p3; (rw [bnan0] at p3; cases p3); exact hnn p3))
      go_ret
      exact ⟨by rw [left_none hbad]; rfl, hb0⟩)
    all_goals
     have hgood : nodeR x d (c - 1) = true := (nodeR_8 HK.out).2 ⟨by omega, by omega, by first | exact .inl bnan0 | exact .inr HNN.out⟩;have hi0 : x.items.length = 0 := by have hn0 := HN0.out; have hnan := HNAN.out; have hnn := HNN.out; omega
     have hk := HK.out;have E : Hid (leftP x c d = some (c - 1)) := left_flat hc0 hgood hi0;have hli : ¬ (0 : Int) < x.items.length := by omega
     have hl2 : ¬ (2 : Int) < x.items.length := by omega
     have HI := Hh hi0;have HC := Hh hgood;clear hi0 hk hgood;have c0 := hB.cell 0 rfl;have c3 := hB.cell 3 rfl;go_wp2_with fail
     refine wp_loop_rounds 1 ?_
     rw [rounds_succ];go_wp2_with fail
     refine wp_loop_rounds 1 ?_
     rw [rounds_succ];go_wp2_with fail
     go_ret
     exact ⟨by rw [E.out, ← HC1.out]; rfl, hb0⟩
  ·have bnan0 : isNaN x.n = false := by simpa using hnan
   have HNAN := Hh hnan;clear hnan
   by_cases hnn : x.n = notNumber
   ·have bnn0 : ((x.n : Int) != 9221120237041090560) = false := by (first | (rw [bne_eq_false_iff_eq]; unfold notNumber at hnn; omega) | (rw [bne_iff_ne]; unfold notNumber at hnn; omega))
    have HNN := Hh hnn;clear hnn;go_enter Tryz.func77, Tryz.ntmps77
    rw [bnan0] at V;go_upto_region 22 with (go_at_call 105; refine V.out.mono ?_; rintro e wv ⟨rfl, rfl⟩)
    any_goals
     (have hbad : nodeR x d (c - 1) = false := by
       cases hq : nodeR x d (c - 1) with
       | false => rfl
       | true => exact absurd ((nodeR_8 HK.out).1 hq) (by have hn0 := HN0.out; have hnan := HNAN.out; have hnn := HNN.out; rintro ⟨p1, p2, p3⟩; first | omega | (rcases p3 with p3 | p3; (rw [bnan0] at p3; cases p3); exact hnn p3))
      go_ret
      exact ⟨by rw [left_none hbad]; rfl, hb0⟩)
    all_goals
     have hgood : nodeR x d (c - 1) = true := (nodeR_8 HK.out).2 ⟨by omega, by omega, by first | exact .inl bnan0 | exact .inr HNN.out⟩;have hi0 : x.items.length = 0 := by have hn0 := HN0.out; have hnan := HNAN.out; have hnn := HNN.out; omega
     have hk := HK.out;have E : Hid (leftP x c d = some (c - 1)) := left_flat hc0 hgood hi0;have hli : ¬ (0 : Int) < x.items.length := by omega
     have hl2 : ¬ (2 : Int) < x.items.length := by omega
     have HI := Hh hi0;have HC := Hh hgood;clear hi0 hk hgood;have c0 := hB.cell 0 rfl;have c3 := hB.cell 3 rfl;go_wp2_with fail
     refine wp_loop_rounds 1 ?_
     rw [rounds_succ];go_wp2_with fail
     refine wp_loop_rounds 1 ?_
     rw [rounds_succ];go_wp2_with fail
     go_ret
     exact ⟨by rw [E.out, ← HC1.out]; rfl, hb0⟩
   ·have bnn0 : ((x.n : Int) != 9221120237041090560) = true := by (first | (rw [bne_eq_false_iff_eq]; unfold notNumber at hnn; omega) | (rw [bne_iff_ne]; unfold notNumber at hnn; omega))
    have HNN := Hh hnn;clear hnn;go_enter Tryz.func77, Tryz.ntmps77
    rw [bnan0] at V;go_upto_region 22 with (go_at_call 105; refine V.out.mono ?_; rintro e wv ⟨rfl, rfl⟩)
    any_goals
     (have hbad : nodeR x d (c - 1) = false := by
       cases hq : nodeR x d (c - 1) with
       | false => rfl
       | true => exact absurd ((nodeR_8 HK.out).1 hq) (by have hn0 := HN0.out; have hnan := HNAN.out; have hnn := HNN.out; rintro ⟨p1, p2, p3⟩; first | omega | (rcases p3 with p3 | p3; (rw [bnan0] at p3; cases p3); exact hnn p3))
      go_ret
      exact ⟨by rw [left_none hbad]; rfl, hb0⟩)
    all_goals
     have hgood : nodeR x d (c - 1) = true := (nodeR_8 HK.out).2 ⟨by omega, by omega, by first | exact .inl bnan0 | exact .inr HNN.out⟩;have hi0 : x.items.length = 0 := by have hn0 := HN0.out; have hnan := HNAN.out; have hnn := HNN.out; omega
     have hk := HK.out;have E : Hid (leftP x c d = some (c - 1)) := left_flat hc0 hgood hi0;have hli : ¬ (0 : Int) < x.items.length := by omega
     have hl2 : ¬ (2 : Int) < x.items.length := by omega
     have HI := Hh hi0;have HC := Hh hgood;clear hi0 hk hgood;have c0 := hB.cell 0 rfl;have c3 := hB.cell 3 rfl;go_wp2_with fail
     refine wp_loop_rounds 1 ?_
     rw [rounds_succ];go_wp2_with fail
     refine wp_loop_rounds 1 ?_
     rw [rounds_succ];go_wp2_with fail
     go_ret
     exact ⟨by rw [E.out, ← HC1.out]; rfl, hb0⟩
 ·have bn00 : ((x.n : Int) != 0) = true := by simp [hn0]
  have bn01 : (x.n = 0) = False := by first | exact eq_true hn0 | exact eq_false hn0
  have HN0 := Hh hn0;clear hn0
  by_cases hnan : isNaN x.n = true
  ·have bnan0 : isNaN x.n = true := by simpa using hnan
   have HNAN := Hh hnan;clear hnan
   by_cases hnn : x.n = notNumber
   ·have bnn0 : ((x.n : Int) != 9221120237041090560) = false := by (first | (rw [bne_eq_false_iff_eq]; unfold notNumber at hnn; omega) | (rw [bne_iff_ne]; unfold notNumber at hnn; omega))
    have HNN := Hh hnn;clear hnn;go_enter Tryz.func77, Tryz.ntmps77
    rw [bnan0] at V;go_upto_region 22 with (go_at_call 105; refine V.out.mono ?_; rintro e wv ⟨rfl, rfl⟩)
    any_goals
     (have hbad : nodeR x d (c - 1) = false := by
       cases hq : nodeR x d (c - 1) with
       | false => rfl
       | true => exact absurd ((nodeR_8 HK.out).1 hq) (by have hn0 := HN0.out; have hnan := HNAN.out; have hnn := HNN.out; rintro ⟨p1, p2, p3⟩; first | omega | (rcases p3 with p3 | p3; (rw [bnan0] at p3; cases p3); exact hnn p3))
      go_ret
      exact ⟨by rw [left_none hbad]; rfl, hb0⟩)
    all_goals
     have hgood : nodeR x d (c - 1) = true := (nodeR_8 HK.out).2 ⟨by omega, by omega, by first | exact .inl bnan0 | exact .inr HNN.out⟩;have hi0 : x.items.length = 0 := by have hn0 := HN0.out; have hnan := HNAN.out; have hnn := HNN.out; omega
     have hk := HK.out;have E : Hid (leftP x c d = some (c - 1)) := left_flat hc0 hgood hi0;have hli : ¬ (0 : Int) < x.items.length := by omega
     have hl2 : ¬ (2 : Int) < x.items.length := by omega
     have HI := Hh hi0;have HC := Hh hgood;clear hi0 hk hgood;have c0 := hB.cell 0 rfl;have c3 := hB.cell 3 rfl;go_wp2_with fail
     refine wp_loop_rounds 1 ?_
     rw [rounds_succ];go_wp2_with fail
     refine wp_loop_rounds 1 ?_
     rw [rounds_succ];go_wp2_with fail
     go_ret
     exact ⟨by rw [E.out, ← HC1.out]; rfl, hb0⟩
   ·have bnn0 : ((x.n : Int) != 9221120237041090560) = true := by (first | (rw [bne_eq_false_iff_eq]; unfold notNumber at hnn; omega) | (rw [bne_iff_ne]; unfold notNumber at hnn; omega))
    have HNN := Hh hnn;clear hnn;go_enter Tryz.func77, Tryz.ntmps77
    rw [bnan0] at V;go_upto_region 22 with (go_at_call 105; refine V.out.mono ?_; rintro e wv ⟨rfl, rfl⟩)
    any_goals
     (have hbad : nodeR x d (c - 1) = false := by
       cases hq : nodeR x d (c - 1) with
       | false => rfl
       | true => exact absurd ((nodeR_8 HK.out).1 hq) (by have hn0 := HN0.out; have hnan := HNAN.out; have hnn := HNN.out; rintro ⟨p1, p2, p3⟩; first | omega | (rcases p3 with p3 | p3; (rw [bnan0] at p3; cases p3); exact hnn p3))
      go_ret
      exact ⟨by rw [left_none hbad]; rfl, hb0⟩)
    all_goals
     have hgood : nodeR x d (c - 1) = true := (nodeR_8 HK.out).2 ⟨by omega, by omega, by first | exact .inl bnan0 | exact .inr HNN.out⟩;have hi0 : x.items.length = 0 := by have hn0 := HN0.out; have hnan := HNAN.out; have hnn := HNN.out; omega
     have hk := HK.out;have E : Hid (leftP x c d = some (c - 1)) := left_flat hc0 hgood hi0;have hli : ¬ (0 : Int) < x.items.length := by omega
     have hl2 : ¬ (2 : Int) < x.items.length := by omega
     have HI := Hh hi0;have HC := Hh hgood;clear hi0 hk hgood;have c0 := hB.cell 0 rfl;have c3 := hB.cell 3 rfl;go_wp2_with fail
     refine wp_loop_rounds 1 ?_
     rw [rounds_succ];go_wp2_with fail
     refine wp_loop_rounds 1 ?_
     rw [rounds_succ];go_wp2_with fail
     go_ret
     exact ⟨by rw [E.out, ← HC1.out]; rfl, hb0⟩
  ·have bnan0 : isNaN x.n = false := by simpa using hnan
   have HNAN := Hh hnan;clear hnan
   by_cases hnn : x.n = notNumber
   ·have bnn0 : ((x.n : Int) != 9221120237041090560) = false := by (first | (rw [bne_eq_false_iff_eq]; unfold notNumber at hnn; omega) | (rw [bne_iff_ne]; unfold notNumber at hnn; omega))
    have HNN := Hh hnn;clear hnn;go_enter Tryz.func77, Tryz.ntmps77
    rw [bnan0] at V;go_upto_region 22 with (go_at_call 105; refine V.out.mono ?_; rintro e wv ⟨rfl, rfl⟩)
    any_goals
     (have hbad : nodeR x d (c - 1) = false := by
       cases hq : nodeR x d (c - 1) with
       | false => rfl
       | true => exact absurd ((nodeR_8 HK.out).1 hq) (by have hn0 := HN0.out; have hnan := HNAN.out; have hnn := HNN.out; rintro ⟨p1, p2, p3⟩; first | omega | (rcases p3 with p3 | p3; (rw [bnan0] at p3; cases p3); exact hnn p3))
      go_ret
      exact ⟨by rw [left_none hbad]; rfl, hb0⟩)
    all_goals
     have hgood : nodeR x d (c - 1) = true := (nodeR_8 HK.out).2 ⟨by omega, by omega, by first | exact .inl bnan0 | exact .inr HNN.out⟩;have hi0 : x.items.length = 0 := by have hn0 := HN0.out; have hnan := HNAN.out; have hnn := HNN.out; omega
     have hk := HK.out;have E : Hid (leftP x c d = some (c - 1)) := left_flat hc0 hgood hi0;have hli : ¬ (0 : Int) < x.items.length := by omega
     have hl2 : ¬ (2 : Int) < x.items.length := by omega
     have HI := Hh hi0;have HC := Hh hgood;clear hi0 hk hgood;have c0 := hB.cell 0 rfl;have c3 := hB.cell 3 rfl;go_wp2_with fail
     refine wp_loop_rounds 1 ?_
     rw [rounds_succ];go_wp2_with fail
     refine wp_loop_rounds 1 ?_
     rw [rounds_succ];go_wp2_with fail
     go_ret
     exact ⟨by rw [E.out, ← HC1.out]; rfl, hb0⟩
   ·have bnn0 : ((x.n : Int) != 9221120237041090560) = true := by (first | (rw [bne_eq_false_iff_eq]; unfold notNumber at hnn; omega) | (rw [bne_iff_ne]; unfold notNumber at hnn; omega))
    have HNN := Hh hnn;clear hnn;go_enter Tryz.func77, Tryz.ntmps77
    rw [bnan0] at V;go_upto_region 22 with (go_at_call 105; refine V.out.mono ?_; rintro e wv ⟨rfl, rfl⟩)
    any_goals
     (have hbad : nodeR x d (c - 1) = false := by
       cases hq : nodeR x d (c - 1) with
       | false => rfl
       | true => exact absurd ((nodeR_8 HK.out).1 hq) (by have hn0 := HN0.out; have hnan := HNAN.out; have hnn := HNN.out; rintro ⟨p1, p2, p3⟩; first | omega | (rcases p3 with p3 | p3; (rw [bnan0] at p3; cases p3); exact hnn p3))
      go_ret
      exact ⟨by rw [left_none hbad]; rfl, hb0⟩)
    all_goals
     have hgood : nodeR x d (c - 1) = true := (nodeR_8 HK.out).2 ⟨by omega, by omega, by first | exact .inl bnan0 | exact .inr HNN.out⟩;have hi0 : x.items.length = 0 := by have hn0 := HN0.out; have hnan := HNAN.out; have hnn := HNN.out; omega
     have hk := HK.out;have E : Hid (leftP x c d = some (c - 1)) := left_flat hc0 hgood hi0;have hli : ¬ (0 : Int) < x.items.length := by omega
     have hl2 : ¬ (2 : Int) < x.items.length := by omega
     have HI := Hh hi0;have HC := Hh hgood;clear hi0 hk hgood;have c0 := hB.cell 0 rfl;have c3 := hB.cell 3 rfl;go_wp2_with fail
     refine wp_loop_rounds 1 ?_
     rw [rounds_succ];go_wp2_with fail
     refine wp_loop_rounds 1 ?_
     rw [rounds_succ];go_wp2_with fail
     go_ret
     exact ⟨by rw [E.out, ← HC1.out]; rfl, hb0⟩
theorem left_out (x : Itm) (hk : x.kind < 0 ∨ 8 < x.kind) {ba : Option Addr} {bc : Nat} {ia : Option Addr} {ic : Nat} (w : World) (c d : Nat) (hc0 : 0 < c) (hc : c ≤ 65536) :
  Calls Tryz.prog 77 #[itemV x ba bc ia ic, .int .i64 c, .int .i64 d] w fun e w' => e = .returned (.int .i64 (leftI (leftP x c d))) ∧ Below w.heap.size w w' := by
 have E : Hid (leftP x c d = none) := left_none (nodeR_out hk);have hci : ¬ (c : Int) < 1 := by omega
 have b2 : (x.kind == 2) = false := by rw [beq_eq_false_iff_ne]; omega
 have b3 : (x.kind == 3) = false := by rw [beq_eq_false_iff_ne]; omega
 have b4 : (x.kind == 4) = false := by rw [beq_eq_false_iff_ne]; omega
 have b5 : (x.kind == 5) = false := by rw [beq_eq_false_iff_ne]; omega
 have b6 : (x.kind == 6) = false := by rw [beq_eq_false_iff_ne]; omega
 rcases hk with hk | hk
 ·go_enter Tryz.func77, Tryz.ntmps77
  go_wp2_with fail
  go_ret
  exact ⟨by rw [E.out]; rfl, below_box w _⟩
 ·have hk0 : ¬ x.kind < 0 := by omega
  go_enter Tryz.func77, Tryz.ntmps77
  go_wp2_with fail
  go_ret
  exact ⟨by rw [E.out]; rfl, below_box w _⟩
theorem ref_left (x : Itm) : LeftSaid x := by
 have main : ∀ N, ∀ x : Itm, cnt x ≤ N → LeftSaid x := by
  intro N
  induction N with
  | zero =>
   intro x hx
   have : 0 < cnt x := by cases x; rw [cnt]; omega
   omega
  | succ N ih =>
   intro x hx H hT k n ba bl bc ia il ic w c d ha hH hc hd
   obtain ⟨rfl, rfl, rfl, rfl, hi⟩ := ha.eqs_;have ih' : ∀ y : Itm, cnt y < cnt x → LeftSaid y := fun y hy => ih y (by omega)
   rcases Nat.eq_zero_or_pos c with h0 | h0
   ·subst h0
    exact left_zero x (H := H) w d
   ·rcases (by omega : (x.kind < 0 ∨ 8 < x.kind) ∨ x.kind = 0 ∨ x.kind = 1 ∨ x.kind = 2 ∨ x.kind = 3 ∨ x.kind = 4 ∨ x.kind = 5 ∨ x.kind = 6 ∨ x.kind = 7 ∨ x.kind = 8) with h | h | h | h | h | h | h | h | h | h
    ·exact left_out x h w c d h0 hc
    ·exact left_k0 x h hT ih' hi w hH c d h0 hc hd
    ·exact left_k1 x h hT ih' hi w hH c d h0 hc hd
    ·exact left_k2 x h hT ih' hi w hH c d h0 hc hd
    ·exact left_k3 x h hT ih' hi w hH c d h0 hc hd
    ·exact left_k4 x h hT ih' hi w hH c d h0 hc hd
    ·exact left_k5 x h hT ih' hi w hH c d h0 hc hd
    ·exact left_k6 x h hT ih' hi w hH c d h0 hc hd
    ·exact left_k7 x h hT ih' hi w hH c d h0 hc hd
    ·exact left_k8 x h hT ih' hi w hH c d h0 hc hd
 exact main _ x (Nat.le_refl _)
theorem left_valid {x : Itm} {r : Nat} (h : leftP x 256 0 = some r) : Good x 0 ∧ (encB x).length ≤ 1099511627776 := by
 obtain ⟨h1, h2, h3⟩ := left_spec _ _ _ _ h;have := h1.bytes h2
 exact ⟨h1, by omega⟩
theorem ref_Valid {H : Snap} (hT : Tabs H) {k n : Int} {ba : Option Addr} {bl bc : Nat} {ia : Option Addr} {il ic : Nat} {x : Itm} (hx : ItemA H k n ba bl bc ia il ic x) (w : World) (hH : Holds w H) :
  Calls Tryz.prog 47 #[.agg #[.int .i64 k, .int .u64 n, .slice ba bl bc, .slice ia il ic]] w fun e w' => e = .returned (.bool (validP x)) ∧ Below w.heap.size w w' := by
 obtain ⟨rfl, rfl, rfl, rfl, hxi⟩ := hx.eqs_;have hB := Blk.new w 54 #[.int .i64 x.kind, .int .u64 x.n, .slice ba x.bytes.length bc, .slice ia x.items.length ic];have hb0 := below_box w (itemO x ba bc ia ic);have hH0 := hH.alloc (itemO x ba bc ia ic);have L := Hh (ref_left x H hT _ _ _ _ _ _ _ _ (w.alloc (itemO x ba bc ia ic)) 256 0 hxi.arg hH0 (by omega) (by omega));have E0 := validR_eq x
 unfold validR at E0
 cases hl : leftP x 256 0 with
 | none =>
  rw [hl] at L E0;have E : Hid (validP x = false) := by rw [Hid, ← E0]; rfl
  clear hl E0;go_enter Tryz.func47, Tryz.ntmps47
  go_wp2_with fail
  refine L.out.mono ?_
  rintro e w1 ⟨rfl, hb1⟩
  have hbz := hb0.trans (hb1.mono hb0.size)
  simp only [leftI]
  go_wp2_with fail
  go_ret
  exact ⟨by rw [E.out]; rfl, hbz⟩
 | some r =>
  rw [hl] at L E0;obtain ⟨hg, hle⟩ := left_valid hl;have E : Hid (validP x = decide ((encB x).length ≤ 4096)) := by rw [Hid, ← E0]; rfl
  have hr0 : (0 : Int) ≤ (r : Int) := by omega
  have RW := Hh (fun w1 : World => fun h1 : Holds w1 H => ref_Raw x H _ _ ba _ bc ia _ ic w1 0 hg hle hxi.arg h1);have HLE := Hh hle;clear hl E0 hg hle;go_enter Tryz.func47, Tryz.ntmps47
  go_wp2_with fail
  refine L.out.mono ?_
  rintro e w1 ⟨rfl, hb1⟩
  have hB1 := hB.below hb1;have hbz := hb0.trans (hb1.mono hb0.size);have hH1 := hH0.below hb1 (Nat.le_refl _);have c0 := hB1.cell 0 rfl;have c1 := hB1.cell 1 rfl;have c2 := hB1.cell 2 rfl;have c3 := hB1.cell 3 rfl
  simp only [leftI]
  go_wp2_with fail
  refine (RW.out _ hH1).mono ?_
  rintro e w2 ⟨r2, rfl, hf⟩
  obtain ⟨RA, rc, rfl, _⟩ := hf.own.form;have hby := hbz.trans (hf.2.mono hbz.size);have hle := HLE.out
  by_cases h4 : (encB x).length ≤ 4096
  ·have E1 : Hid (validP x = true) := by rw [Hid, E.out, decide_eq_true h4]
   have h4i : ((encB x).length : Int) ≤ 4096 := by omega
   generalize (encB x).length = q at *
   clear h4 hf;go_wp2_with fail
   go_ret
   exact ⟨by rw [E1.out]; rfl, hby⟩
  ·have E1 : Hid (validP x = false) := by rw [Hid, E.out, decide_eq_false h4]
   have h4i : ¬ ((encB x).length : Int) ≤ 4096 := by omega
   generalize (encB x).length = q at *
   clear h4 hf;go_wp2_with fail
   go_ret
   refine ⟨?_, hby⟩
   rw [E1.out];show Ending.returned (Value.bool (decide _)) = _
   rw [decide_eq_false (by omega)]
def beN (l : List UInt8) : Nat := l.foldl (fun x c => x * 256 + c.toNat) 0
def headP : List UInt8 → Except Nat (Nat × Nat × Nat)
 | [] => .error 2
 | f :: t =>
  if 27 < f.toNat % 32 then .error 3
  else if f.toNat % 32 < 24 then .ok (f.toNat, f.toNat % 32, 1)
  else if t.length < 2 ^ (f.toNat % 32 - 24) then .error 2
  else if f.toNat / 32 < 7 ∧ (headB 0 (beN (t.take (2 ^ (f.toNat % 32 - 24))))).length ≠ 1 + 2 ^ (f.toNat % 32 - 24) then .error 4
  else .ok (f.toNat, beN (t.take (2 ^ (f.toNat % 32 - 24))), 1 + 2 ^ (f.toNat % 32 - 24))
def widen5 (v : Nat) : Nat :=
 if v / 1024 % 32 = 31 then v / 32768 * 9223372036854775808 + 9218868437227405312 + v % 1024 * 4398046511104
 else if v / 1024 % 32 = 0 then (if v % 1024 = 0 then v / 32768 * 9223372036854775808 else v / 32768 * 9223372036854775808 + (999 + (v % 1024).log2) * 4503599627370496 + (v % 1024 * 2 ^ (52 - (v % 1024).log2) - 4503599627370496))
 else v / 32768 * 9223372036854775808 + (v / 1024 % 32 + 1008) * 4503599627370496 + v % 1024 * 4398046511104
def widen8 (v : Nat) : Nat :=
 if v / 8388608 % 256 = 255 then v / 2147483648 * 9223372036854775808 + 9218868437227405312 + v % 8388608 * 536870912
 else if v / 8388608 % 256 = 0 then (if v % 8388608 = 0 then v / 2147483648 * 9223372036854775808 else v / 2147483648 * 9223372036854775808 + (874 + (v % 8388608).log2) * 4503599627370496 + (v % 8388608 * 2 ^ (52 - (v % 8388608).log2) - 4503599627370496))
 else v / 2147483648 * 9223372036854775808 + (v / 8388608 % 256 + 896) * 4503599627370496 + v % 8388608 * 536870912
def wideP (low n : Nat) : Nat := if low = 25 then widen5 n else if low = 26 then widen8 n else n
def sevenP (low n : Nat) : Except Nat Itm :=
 if low < 24 then .ok (.mk 7 n [] [])
 else if low = 24 then (if n < 32 then .error 4 else .ok (.mk 7 n [] []))
 else if (isNaN (wideP low n) && wideP low n != notNumber) || (floatB (wideP low n)).length != 1 + 2 ^ (low - 24) then .error 4
 else .ok (.mk 8 (wideP low n) [] [])
inductive PL where
 | err (e : Nat)
 | ok (l : List Itm) (k c : Nat)
inductive PR where
 | err (e : Nat)
 | ok (x : Itm) (k c : Nat)
def arrP (p : List UInt8 → Nat → PR) : Nat → List UInt8 → Nat → PL
 | 0, _, c => .ok [] 0 c
 | n + 1, b, c => match p b c with
  | .err e => .err e
  | .ok x k c' => match arrP p n (b.drop k) c' with
   | .err e => .err e
   | .ok l k' c'' => .ok (x :: l) (k + k') c''
def keyP (last : Option (List UInt8)) (key : List UInt8) : Option Nat :=
 match last with
 | none => none
 | some l => if Lib.compareBytes key l = 0 then some 7 else if Lib.compareBytes key l < 0 then some 6 else none
def mapP (p : List UInt8 → Nat → PR) : Nat → List UInt8 → Nat → Option (List UInt8) → PL
 | 0, _, c, _ => .ok [] 0 c
 | n + 1, b, c, last => match p b c with
  | .err e => .err e
  | .ok x k c' => match keyP last (b.take k) with
   | some e => .err e
   | none => match p (b.drop k) c' with
    | .err e => .err e
    | .ok y k' c'' => match mapP p n (b.drop (k + k')) c'' (some (b.take k)) with
     | .err e => .err e
     | .ok l k'' c3 => .ok (x :: y :: l) (k + k' + k'') c3
def parse : Nat → List UInt8 → Nat → PR
 | d, b, c =>
  if 256 ≤ c then .err 8
  else match headP b with
   | .error e => .err e
   | .ok (f, n, k) =>
    if f / 32 ≤ 1 then .ok (.mk (f / 32 : Nat) n [] []) k (c + 1)
    else if f / 32 ≤ 3 then
     (if b.length < k + n then .err 2
     else if f / 32 = 3 ∧ Lib.validD ((b.drop k).take n) = false then .err 5
     else .ok (.mk (f / 32 : Nat) 0 ((b.drop k).take n) []) (k + n) (c + 1))
    else if f / 32 = 7 then
     (match sevenP (f % 32) n with
     | .error e => .err e
     | .ok x => .ok x k (c + 1))
    else match d with
     | 0 => .err 8
     | d + 1 =>
      if f / 32 = 6 then (match parse d (b.drop k) (c + 1) with
       | .err e => .err e
       | .ok x k' c' => .ok (.mk 6 n [] [x]) (k + k') c')
      else if f / 32 = 5 then (match mapP (parse d) n (b.drop k) (c + 1) none with
       | .err e => .err e
       | .ok l k' c' => .ok (.mk 5 0 [] l) (k + k') c')
      else (match arrP (parse d) n (b.drop k) (c + 1) with
       | .err e => .err e
       | .ok l k' c' => .ok (.mk 4 0 [] l) (k + k') c')
def prefixP (b : List UInt8) : PR := parse 8 (b.take 4096) 0
structure Ext where
 label : Int
 has : Bool
 val : List UInt8
def numE (x : Itm) (lim : Nat) : Option Int :=
 if x.kind = 0 ∧ x.n ≤ lim then some (x.n : Int) else if x.kind = 1 ∧ x.n < lim then some (-1 - (x.n : Int)) else none
def intB (n : Int) : List UInt8 := if n < 0 then headB 1 (-1 - n).toNat else headB 0 n.toNat
def decExtN : Nat → List Ext → List UInt8 → Except Nat (List Ext)
 | 0, out, _ => .ok out
 | n + 1, out, b =>
  if b.length = 0 then .ok out
  else match prefixP b with
   | .err e => .error e
   | .ok x k _ =>
    if x.kind = 2 then
     (match out.getLast? with
     | none => .error 4
     | some l =>
      if l.has then .error 4 else if 600 < x.bytes.length then .error 8
      else decExtN n (out.dropLast ++ [{ l with has := true, val := x.bytes }]) (b.drop k))
    else match numE x 65535 with
     | none => .error 4
     | some v => if out.length = 4 then .error 8 else decExtN n (out ++ [{ label := v, has := false, val := [] }]) (b.drop k)
def decExt (b : List UInt8) : Except Nat (List Ext) := decExtN (b.length + 1) [] b
def shortB (c : UInt8) : Bool := decide (c.toNat < 24) || decide (32 ≤ c.toNat) && decide (c.toNat < 56)
def parseConn (b : List UInt8) : Except Nat (List UInt8 × Nat) :=
 match b with
 | [] => .error 2
 | x :: t =>
  if shortB x then .ok ([x], 1)
  else if x.toNat < 64 ∨ 88 < x.toNat then .error 4
  else if 7 < x.toNat - 64 then .error 8
  else if b.length < 1 + (x.toNat - 64) then .error 2
  else if x.toNat - 64 = 1 ∧ shortB (b.getD 1 0) then .error 4
  else .ok (t.take (x.toNat - 64), 1 + (x.toNat - 64))
def twice : List Int → Bool
 | [] => false
 | x :: l => l.contains x || twice l
structure First where
 method : Int
 suites : List Int
 gx : List UInt8
 conn : List UInt8
 ext : List Ext
def numsE : List Itm → Option (List Int)
 | [] => some []
 | x :: l => match numE x 65535 with
  | none => none
  | some v => if v < 0 then none else match numsE l with
   | none => none
   | some t => some (v :: t)
def suitesE (x : Itm) : Except Nat (List Int) :=
 if x.kind = 0 then (if x.n ≤ 65535 then .ok [(x.n : Int)] else .error 4)
 else if x.kind ≠ 4 ∨ x.items.length < 2 then .error 4
 else match numsE x.items with
  | none => .error 4
  | some l => if twice l then .error 7 else if 8 < l.length then .error 8 else .ok l
theorem good_intP (n : Int) (lv : Nat) : Good (intP n) lv := by
 rw [intP]
 split <;> (rw [Good]; refine ⟨?_, by rw [GoodL]; trivial, by intro h; omega⟩; simp [nodeOk, isPlain, okPlain, frameOk, Itm.kind, Itm.bytes, Itm.items, Itm.n])
theorem encB_intP (n : Int) : encB (intP n) = intB n := by
 rw [enc_num (good_intP n 0) (by rw [intP]; split <;> simp [Itm.kind]), intP, intB]
 split <;> rfl
theorem IsItem.plain (H : Snap) (k : Int) (n : Nat) (hk : -9223372036854775808 ≤ k ∧ k ≤ 9223372036854775807) (hn : n < 18446744073709551616) : IsItem H none 0 none 0 (.mk k n [] []) := by
 rw [IsItem]
 exact ⟨⟨hk.1, hk.2, hn, Nat.le_refl _, by omega⟩, IsBytes.nil H, fun h => absurd h (by simp)⟩
theorem Gives.plain {w w' : World} {H : Snap} {k n : Int} {m : Nat} (hH : Holds w H) (hb : Below w.heap.size w w') (hk : -9223372036854775808 ≤ k ∧ k ≤ 9223372036854775807) (hm : m < 18446744073709551616) (hn : n = (m : Int)) :
  Gives w H (.mk k m [] []) (.agg #[.int .i64 k, .int .u64 n, .slice none 0 0, .slice none 0 0]) w' := by
 subst hn
 exact ⟨none, 0, none, 0, H, rfl, Grows.of_below hH hb, IsItem.plain H k m hk hm⟩
theorem Fresh.gives {w w1 : World} {H : Snap} {l : List UInt8} {r : Value} {k : Int} (hH : Holds w H) (h : Fresh w l r w1) (hk : -9223372036854775808 ≤ k ∧ k ≤ 9223372036854775807) :
  Gives w H (.mk k 0 l []) (.agg #[.int .i64 k, .int .u64 0, r, .slice none 0 0]) w1 := by
 obtain ⟨A, c, rfl, _⟩ := h.own.form;obtain ⟨H', hl, hh, hf, _, hi⟩ := h.own.snap (hH.below h.2 (Nat.le_refl _)) (fun g hg => hH.none_of_ge (h.own.lt g (by cases A <;> simp_all [Value.ownBlock])).1)
 refine ⟨A, c, none, 0, H', rfl, ⟨h.2, hl, hh, fun b o hb => ?_⟩, ?_⟩
 ·rcases hf b o hb with h1 | h1
  ·exact .inl h1
  ·exact .inr (h.own.lt b (by cases A <;> simp_all [Value.ownBlock])).1
 ·rw [IsItem]
  exact ⟨⟨hk.1, hk.2, by omega, Nat.le_refl _, by omega⟩, hi, fun h => absurd h (by simp)⟩
theorem Grows.own {w wA w1 w' : World} {H H' : Snap} {g : Nat} (hA : Below w.heap.size w wA) (hH : Holds w H) (h : Grows wA H w1 H') (hg : w1.grownBy w' (some g)) (h1 : w.heap.size ≤ g) (h2 : g < wA.heap.size) : Grows w H w' H' :=
 ⟨(hA.trans (h.below.mono hA.size)).grown hg (Nat.le_trans hA.size h.below.size) (by rintro k ⟨⟩; exact h1), h.le, h.holds.grown hg (by rintro k ⟨⟩; exact h.none (hH.none_of_ge h1) h2), fun b o hb => by
  rcases h.fresh b o hb with h | h
  ·exact .inl h
  ·exact .inr (Nat.le_trans hA.size h)⟩
theorem Gives.own {w wA w1 w' : World} {H : Snap} {x : Itm} {v : Value} {g : Nat} (hA : Below w.heap.size w wA) (hH : Holds w H) (h : Gives wA H x v w1) (hg : w1.grownBy w' (some g)) (h1 : w.heap.size ≤ g) (h2 : g < wA.heap.size) : Gives w H x v w' := by
 obtain ⟨ba, bc, ia, ic, H', e, hG, hi⟩ := h
 exact ⟨ba, bc, ia, ic, H', e, hG.own hA hH hg h1 h2, hi⟩
theorem one4 (a b c d : Value) (ha : a.oneCell' = true) (hb : b.oneCell' = true) (hc : c.oneCell' = true) (hd : d.oneCell' = true) : (#[a, b, c, d] : Array Value).all (·.oneCell') = true := by simp [ha, hb, hc, hd]
theorem cbor_Uint (n : Nat) (hn : n < 18446744073709551616) {H : Snap} (w : World) (hH : Holds w H) :
  Calls Tryz.prog 86 #[.int .u64 n] w fun e w' => ∃ v, e = .returned v ∧ Gives w H (.mk 0 n [] []) v w' := by
 have HN := Hh hn;clear hn;go_enter Tryz.func86, Tryz.ntmps86
 go_wp2_with fail
 refine ret_row rfl rfl (Blk.new _ _ _) rfl rfl size_item rfl ?_
 exact ⟨_, rfl, Gives.plain hH (below_box _ _) (by omega) HN.out rfl⟩
theorem cbor_Int (n : Int) (h1 : -9223372036854775808 ≤ n) (h2 : n ≤ 9223372036854775807) {H : Snap} (w : World) (hH : Holds w H) :
  Calls Tryz.prog 56 #[.int .i64 n] w fun e w' => ∃ v, e = .returned v ∧ Gives w H (intP n) v w' := by
 by_cases h0 : n < 0
 ·have E : Hid (intP n = .mk 1 (-1 - n).toNat [] [] ∧ (-1 - n).toNat < 18446744073709551616 ∧ -1 - n = ((-1 - n).toNat : Int)) := ⟨by rw [intP, if_pos h0], by omega, by omega⟩
  have K1 : IntKind.u64.wrap (-1 - n) = -1 - n := by rw [IntKind.wrap_u64]; omega
  have K0 : IntKind.i64.wrap (-1 - n) = -1 - n := IntWalk.i64_in _ (by omega);clear h1 h2;go_enter Tryz.func56, Tryz.ntmps56
  go_wp2_with fail
  refine ret_row rfl rfl (Blk.new _ _ _) rfl rfl size_item rfl ?_
  rw [E.out.1]
  exact ⟨_, rfl, Gives.plain hH (below_box _ _) (by omega) E.out.2.1 E.out.2.2⟩
 ·have E : Hid (intP n = .mk 0 n.toNat [] [] ∧ n.toNat < 18446744073709551616 ∧ n = (n.toNat : Int)) := ⟨by rw [intP, if_neg h0], by omega, by omega⟩
  have K1 : IntKind.u64.wrap n = n := by rw [IntKind.wrap_u64]; omega
  have U := Hh (cbor_Uint n.toNat E.out.2.1 (w.alloc (.cells #[.int .i64 0, .int .u64 0, .slice none 0 0, .slice none 0 0] 54)) (hH.alloc _));rw [← E.out.2.2] at U;have hn := Int.not_lt.1 h0;clear h1 h2 h0;go_enter Tryz.func56, Tryz.ntmps56
  go_wp2_with fail
  refine U.out.mono ?_
  rintro e w1 ⟨v, rfl, hg⟩
  have HG := Hh hg;obtain ⟨ba, bc, ia, ic, H', rfl, hg, hi⟩ := hg;have hB := (Blk.new w 54 #[.int .i64 0, .int .u64 0, .slice none 0 0, .slice none 0 0]).below hg.below;go_wp2_with (with_reducible refine stop_store ?_)
  refine wpList_store_item rfl _ _ _ rfl rfl _ _ rfl rfl _ _ hB size_item rfl (one4 _ _ _ _ rfl rfl rfl rfl) fun w2 hB2 hG2 => ?_
  go_wp2_with fail
  refine ret_row rfl rfl hB2 rfl rfl size_item rfl ?_
  rw [E.out.1]
  exact ⟨_, rfl, HG.out.own (below_box _ _) hH hG2 (Nat.le_refl _) (by simp)⟩
theorem cbor_Bytes {A : Option Addr} {n c : Nat} {l : List UInt8} (hn : n = l.length) (hl : l.length ≤ 1099511627776) {H : Snap} (w : World) (hs : Src w A (l.map byteV)) (hH : Holds w H) :
  Calls Tryz.prog 58 #[.slice A n c] w fun e w' => ∃ v, e = .returned v ∧ Gives w H (.mk 2 0 l []) v w' := by
 have C := Hh (slices_Clone (w.alloc (.cells #[.int .i64 0, .int .u64 0, .slice none 0 0, .slice none 0 0] 54)) A l n c hn hl (hs.alloc _));clear hn;go_enter Tryz.func58, Tryz.ntmps58
 go_wp2_with fail
 refine C.out.mono ?_
 rintro e w1 ⟨r, rfl, hf⟩
 have hB := (Blk.new w 54 #[.int .i64 0, .int .u64 0, .slice none 0 0, .slice none 0 0]).below hf.2;have HF := Hh (hf.gives (k := 2) (hH.alloc (.cells #[.int .i64 0, .int .u64 0, .slice none 0 0, .slice none 0 0] 54)) (by omega));obtain ⟨A', c', rfl, _⟩ := hf.own.form;go_wp2_with (with_reducible refine stop_store ?_)
 refine wpList_store_item rfl _ _ _ rfl rfl _ _ rfl rfl _ _ hB size_item rfl (one4 _ _ _ _ rfl rfl rfl rfl) fun w2 hB2 hG2 => ?_
 go_wp2_with fail
 refine ret_row rfl rfl hB2 rfl rfl size_item rfl ?_
 exact ⟨_, rfl, HF.out.own (below_box _ _) hH hG2 (Nat.le_refl _) (by simp)⟩
theorem stI {w : World} {ops : Array Oper} {rest : List Oper} {o : Oper} {a : Act} {Q : Exit → Act → World → Prop} {x y : Operand} {g : Nat} {c0 c1 c2 c3 : Value} {t : TypeId} {old : Array Value} (hB : Blk w g t old)
  (h : ∀ w', Blk w' g t #[c0, c1, c2, c3] → w.grownBy w' (some g) → wpList Tryz.prog ops Q rest a w')
  (hgd : o.guard = none := by rfl) (ho : o.op = .store 54 x y := by rfl) (hd : o.dst = none := by rfl) (hx : a.eval x = .pointer (some ⟨g, 0, none⟩) := by rfl) (hy : a.eval y = .agg #[c0, c1, c2, c3] := by rfl) (hold : (#[c0, c1, c2, c3] : Array Value).size = old.size := by rfl) (h1 : c0.oneCell' = true := by rfl) (h2 : c1.oneCell' = true := by rfl) (h3 : c2.oneCell' = true := by rfl) (h4 : c3.oneCell' = true := by rfl) : wpList Tryz.prog ops Q (o :: rest) a w :=
 wpList_store_item hgd _ _ _ ho hd _ _ hx hy _ _ hB size_item hold (one4 _ _ _ _ h1 h2 h3 h4) h
end Go.Proofs.YtmacemcajlgddaaGreatDoor
