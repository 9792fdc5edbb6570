/- squeezed. Walks: the references' left: numbe -/
import Derived.Test.YtgaoknihklmakaaGreatDoorK04
import Derived.Test.YtgaoknihklmakaaGreatDoorK03
import Derived.Test.YtgaoknihklmakaaGreatDoorK02
import Derived.Test.YtgaoknihklmakaaGreatDoorK01
import Derived.Test.YtgaoknihklmakaaGreatDoorK00
import Derived.OwnWalk
set_option linter.unusedVariables false
set_option linter.unusedSimpArgs false
set_option maxRecDepth 100000
set_option maxHeartbeats 6400000
namespace Go.Proofs.YtgaoknihklmakaaGreatDoor
open Go.RowKit
theorem left_k0 (x : Itm) (hk : x.kind = 0) {H : Snap} (hT : Tabs H) (ih : ∀ y : Itm, cnt y < cnt x → LeftSaid y) {ba : Option Addr} {bc : Nat} {ia : Option Addr} {ic : Nat} (hx : IsItem H ba bc ia ic x) (w : World) (hH : Holds w H) (c d : Nat) (hc0 : 0 < c) (hc : c ≤ 65536) (hd : d ≤ 65536) :
  Calls Tryz.prog 53 #[itemV x ba bc ia ic, .int .i64 c, .int .i64 d] w fun e w' => e = .returned (.int .i64 (leftI (leftP x c d))) ∧ Below w.heap.size w w' := by
 have HX := Hh hx;have hbd := hx.bounds;have hB := Blk.new w 75 #[.int .i64 x.kind, .int .u64 x.n, .slice ba x.bytes.length bc, .slice ia x.items.length ic];have hb0 := below_box w (itemO x ba bc ia ic);have hc1 : ((c - 1 : Nat) : Int) = (c : Int) - 1 := by omega
 have hbl : x.bytes.length ≤ 9223372036854775807 := by omega
 have hil : x.items.length ≤ 9223372036854775807 := by omega
 have HN := Hh hbd.2.2.1;have hci : ¬ (c : Int) < 1 := by omega
 have k0 : ¬ x.kind < 0 := by omega
 have k8 : ¬ 8 < x.kind := by omega
 have HK := Hh hk;have HC1 := Hh hc1;clear hx hbd hc1;obtain ⟨b0, b1, b2, b3, b4, b5, b6, b7, b8⟩ := kinds0 hk;clear hk
 by_cases hn0 : x.n = 0
 all_goals first | (have bn00 : ((x.n : Int) != 0) = false := by simp [hn0]) | (have bn00 : ((x.n : Int) != 0) = true := by simp [hn0])
 all_goals first | (have bn01 : (x.n = 0) = True := by first | exact eq_true hn0 | exact eq_false hn0) | (have bn01 : (x.n = 0) = False := by first | exact eq_true hn0 | exact eq_false hn0)
 all_goals have HN0 := Hh hn0
 all_goals clear hn0
 all_goals
  go_enter Tryz.func53, Tryz.ntmps53
  go_upto_region 22 with fail
  any_goals
   (have hbad : nodeR x d (c - 1) = false := by
     cases hq : nodeR x d (c - 1) with
     | false => rfl
     | true => exact absurd ((nodeR_01 (.inl HK.out)).1 hq) (by have hn0 := HN0.out; omega)
    go_ret
    exact ⟨by rw [left_none hbad]; rfl, hb0⟩)
  all_goals
   have hgood : nodeR x d (c - 1) = true := (nodeR_01 (.inl HK.out)).2 ⟨by omega, by omega⟩;have hi0 : x.items.length = 0 := by have hn0 := HN0.out; omega
   have hk := HK.out;have E : Hid (leftP x c d = some (c - 1)) := left_flat hc0 hgood hi0;have hli : ¬ (0 : Int) < x.items.length := by omega
   have hl2 : ¬ (2 : Int) < x.items.length := by omega
   have HI := Hh hi0;have HC := Hh hgood;clear hi0 hk hgood;have c0 := hB.cell 0 rfl;have c3 := hB.cell 3 rfl;go_wp2_with fail
   refine wp_loop_rounds 1 ?_
   rw [rounds_succ];go_wp2_with fail
   refine wp_loop_rounds 1 ?_
   rw [rounds_succ];go_wp2_with fail
   go_ret
   exact ⟨by rw [E.out, ← HC1.out]; rfl, hb0⟩
theorem left_k1 (x : Itm) (hk : x.kind = 1) {H : Snap} (hT : Tabs H) (ih : ∀ y : Itm, cnt y < cnt x → LeftSaid y) {ba : Option Addr} {bc : Nat} {ia : Option Addr} {ic : Nat} (hx : IsItem H ba bc ia ic x) (w : World) (hH : Holds w H) (c d : Nat) (hc0 : 0 < c) (hc : c ≤ 65536) (hd : d ≤ 65536) :
  Calls Tryz.prog 53 #[itemV x ba bc ia ic, .int .i64 c, .int .i64 d] w fun e w' => e = .returned (.int .i64 (leftI (leftP x c d))) ∧ Below w.heap.size w w' := by
 have HX := Hh hx;have hbd := hx.bounds;have hB := Blk.new w 75 #[.int .i64 x.kind, .int .u64 x.n, .slice ba x.bytes.length bc, .slice ia x.items.length ic];have hb0 := below_box w (itemO x ba bc ia ic);have hc1 : ((c - 1 : Nat) : Int) = (c : Int) - 1 := by omega
 have hbl : x.bytes.length ≤ 9223372036854775807 := by omega
 have hil : x.items.length ≤ 9223372036854775807 := by omega
 have HN := Hh hbd.2.2.1;have hci : ¬ (c : Int) < 1 := by omega
 have k0 : ¬ x.kind < 0 := by omega
 have k8 : ¬ 8 < x.kind := by omega
 have HK := Hh hk;have HC1 := Hh hc1;clear hx hbd hc1;obtain ⟨b0, b1, b2, b3, b4, b5, b6, b7, b8⟩ := kinds1 hk;clear hk
 by_cases hn0 : x.n = 0
 all_goals first | (have bn00 : ((x.n : Int) != 0) = false := by simp [hn0]) | (have bn00 : ((x.n : Int) != 0) = true := by simp [hn0])
 all_goals first | (have bn01 : (x.n = 0) = True := by first | exact eq_true hn0 | exact eq_false hn0) | (have bn01 : (x.n = 0) = False := by first | exact eq_true hn0 | exact eq_false hn0)
 all_goals have HN0 := Hh hn0
 all_goals clear hn0
 all_goals
  go_enter Tryz.func53, Tryz.ntmps53
  go_upto_region 22 with fail
  any_goals
   (have hbad : nodeR x d (c - 1) = false := by
     cases hq : nodeR x d (c - 1) with
     | false => rfl
     | true => exact absurd ((nodeR_01 (.inr HK.out)).1 hq) (by have hn0 := HN0.out; omega)
    go_ret
    exact ⟨by rw [left_none hbad]; rfl, hb0⟩)
  all_goals
   have hgood : nodeR x d (c - 1) = true := (nodeR_01 (.inr HK.out)).2 ⟨by omega, by omega⟩;have hi0 : x.items.length = 0 := by have hn0 := HN0.out; omega
   have hk := HK.out;have E : Hid (leftP x c d = some (c - 1)) := left_flat hc0 hgood hi0;have hli : ¬ (0 : Int) < x.items.length := by omega
   have hl2 : ¬ (2 : Int) < x.items.length := by omega
   have HI := Hh hi0;have HC := Hh hgood;clear hi0 hk hgood;have c0 := hB.cell 0 rfl;have c3 := hB.cell 3 rfl;go_wp2_with fail
   refine wp_loop_rounds 1 ?_
   rw [rounds_succ];go_wp2_with fail
   refine wp_loop_rounds 1 ?_
   rw [rounds_succ];go_wp2_with fail
   go_ret
   exact ⟨by rw [E.out, ← HC1.out]; rfl, hb0⟩
theorem left_k2 (x : Itm) (hk : x.kind = 2) {H : Snap} (hT : Tabs H) (ih : ∀ y : Itm, cnt y < cnt x → LeftSaid y) {ba : Option Addr} {bc : Nat} {ia : Option Addr} {ic : Nat} (hx : IsItem H ba bc ia ic x) (w : World) (hH : Holds w H) (c d : Nat) (hc0 : 0 < c) (hc : c ≤ 65536) (hd : d ≤ 65536) :
  Calls Tryz.prog 53 #[itemV x ba bc ia ic, .int .i64 c, .int .i64 d] w fun e w' => e = .returned (.int .i64 (leftI (leftP x c d))) ∧ Below w.heap.size w w' := by
 have HX := Hh hx;have hbd := hx.bounds;have hB := Blk.new w 75 #[.int .i64 x.kind, .int .u64 x.n, .slice ba x.bytes.length bc, .slice ia x.items.length ic];have hb0 := below_box w (itemO x ba bc ia ic);have hc1 : ((c - 1 : Nat) : Int) = (c : Int) - 1 := by omega
 have hbl : x.bytes.length ≤ 9223372036854775807 := by omega
 have hil : x.items.length ≤ 9223372036854775807 := by omega
 have HN := Hh hbd.2.2.1;have hci : ¬ (c : Int) < 1 := by omega
 have k0 : ¬ x.kind < 0 := by omega
 have k8 : ¬ 8 < x.kind := by omega
 have HK := Hh hk;have HC1 := Hh hc1;clear hx hbd hc1;obtain ⟨b0, b1, b2, b3, b4, b5, b6, b7, b8⟩ := kinds2 hk;clear hk
 by_cases hn0 : x.n = 0
 all_goals first | (have bn00 : ((x.n : Int) != 0) = false := by simp [hn0]) | (have bn00 : ((x.n : Int) != 0) = true := by simp [hn0])
 all_goals first | (have bn01 : (x.n = 0) = True := by first | exact eq_true hn0 | exact eq_false hn0) | (have bn01 : (x.n = 0) = False := by first | exact eq_true hn0 | exact eq_false hn0)
 all_goals have HN0 := Hh hn0
 all_goals clear hn0
 all_goals
  go_enter Tryz.func53, Tryz.ntmps53
  go_upto_region 22 with fail
  any_goals
   (have hbad : nodeR x d (c - 1) = false := by
     cases hq : nodeR x d (c - 1) with
     | false => rfl
     | true => exact absurd ((nodeR_2 HK.out).1 hq) (by have hn0 := HN0.out; omega)
    go_ret
    exact ⟨by rw [left_none hbad]; rfl, hb0⟩)
  all_goals
   have hgood : nodeR x d (c - 1) = true := (nodeR_2 HK.out).2 ⟨HN0.out, by omega, by omega⟩;have hi0 : x.items.length = 0 := by have hn0 := HN0.out; omega
   have hk := HK.out;have E : Hid (leftP x c d = some (c - 1)) := left_flat hc0 hgood hi0;have hli : ¬ (0 : Int) < x.items.length := by omega
   have hl2 : ¬ (2 : Int) < x.items.length := by omega
   have HI := Hh hi0;have HC := Hh hgood;clear hi0 hk hgood;have c0 := hB.cell 0 rfl;have c3 := hB.cell 3 rfl;go_wp2_with fail
   refine wp_loop_rounds 1 ?_
   rw [rounds_succ];go_wp2_with fail
   refine wp_loop_rounds 1 ?_
   rw [rounds_succ];go_wp2_with fail
   go_ret
   exact ⟨by rw [E.out, ← HC1.out]; rfl, hb0⟩
theorem left_k7 (x : Itm) (hk : x.kind = 7) {H : Snap} (hT : Tabs H) (ih : ∀ y : Itm, cnt y < cnt x → LeftSaid y) {ba : Option Addr} {bc : Nat} {ia : Option Addr} {ic : Nat} (hx : IsItem H ba bc ia ic x) (w : World) (hH : Holds w H) (c d : Nat) (hc0 : 0 < c) (hc : c ≤ 65536) (hd : d ≤ 65536) :
  Calls Tryz.prog 53 #[itemV x ba bc ia ic, .int .i64 c, .int .i64 d] w fun e w' => e = .returned (.int .i64 (leftI (leftP x c d))) ∧ Below w.heap.size w w' := by
 have HX := Hh hx;have hbd := hx.bounds;have hB := Blk.new w 75 #[.int .i64 x.kind, .int .u64 x.n, .slice ba x.bytes.length bc, .slice ia x.items.length ic];have hb0 := below_box w (itemO x ba bc ia ic);have hc1 : ((c - 1 : Nat) : Int) = (c : Int) - 1 := by omega
 have hbl : x.bytes.length ≤ 9223372036854775807 := by omega
 have hil : x.items.length ≤ 9223372036854775807 := by omega
 have HN := Hh hbd.2.2.1;have hci : ¬ (c : Int) < 1 := by omega
 have k0 : ¬ x.kind < 0 := by omega
 have k8 : ¬ 8 < x.kind := by omega
 have HK := Hh hk;have HC1 := Hh hc1;clear hx hbd hc1;obtain ⟨b0, b1, b2, b3, b4, b5, b6, b7, b8⟩ := kinds7 hk;clear hk
 by_cases hn0 : x.n = 0
 all_goals first | (have bn00 : ((x.n : Int) != 0) = false := by simp [hn0]) | (have bn00 : ((x.n : Int) != 0) = true := by simp [hn0])
 all_goals first | (have bn01 : (x.n = 0) = True := by first | exact eq_true hn0 | exact eq_false hn0) | (have bn01 : (x.n = 0) = False := by first | exact eq_true hn0 | exact eq_false hn0)
 all_goals have HN0 := Hh hn0
 all_goals clear hn0
 all_goals
  go_enter Tryz.func53, Tryz.ntmps53
  go_upto_region 22 with fail
  any_goals
   (have hbad : nodeR x d (c - 1) = false := by
     cases hq : nodeR x d (c - 1) with
     | false => rfl
     | true => exact absurd ((nodeR_7 HK.out).1 hq) (by have hn0 := HN0.out; omega)
    go_ret
    exact ⟨by rw [left_none hbad]; rfl, hb0⟩)
  all_goals
   have hgood : nodeR x d (c - 1) = true := (nodeR_7 HK.out).2 ⟨by omega, by omega, by have hn0 := HN0.out; omega⟩;have hi0 : x.items.length = 0 := by have hn0 := HN0.out; omega
   have hk := HK.out;have E : Hid (leftP x c d = some (c - 1)) := left_flat hc0 hgood hi0;have hli : ¬ (0 : Int) < x.items.length := by omega
   have hl2 : ¬ (2 : Int) < x.items.length := by omega
   have HI := Hh hi0;have HC := Hh hgood;clear hi0 hk hgood;have c0 := hB.cell 0 rfl;have c3 := hB.cell 3 rfl;go_wp2_with fail
   refine wp_loop_rounds 1 ?_
   rw [rounds_succ];go_wp2_with fail
   refine wp_loop_rounds 1 ?_
   rw [rounds_succ];go_wp2_with fail
   go_ret
   exact ⟨by rw [E.out, ← HC1.out]; rfl, hb0⟩
theorem left_k4 (x : Itm) (hk : x.kind = 4) {H : Snap} (hT : Tabs H) (ih : ∀ y : Itm, cnt y < cnt x → LeftSaid y) {ba : Option Addr} {bc : Nat} {ia : Option Addr} {ic : Nat} (hx : IsItem H ba bc ia ic x) (w : World) (hH : Holds w H) (c d : Nat) (hc0 : 0 < c) (hc : c ≤ 65536) (hd : d ≤ 65536) :
  Calls Tryz.prog 53 #[itemV x ba bc ia ic, .int .i64 c, .int .i64 d] w fun e w' => e = .returned (.int .i64 (leftI (leftP x c d))) ∧ Below w.heap.size w w' := by
 have HX := Hh hx;have hbd := hx.bounds;have hB := Blk.new w 75 #[.int .i64 x.kind, .int .u64 x.n, .slice ba x.bytes.length bc, .slice ia x.items.length ic];have hb0 := below_box w (itemO x ba bc ia ic);have hc1 : ((c - 1 : Nat) : Int) = (c : Int) - 1 := by omega
 have hbl : x.bytes.length ≤ 9223372036854775807 := by omega
 have hil : x.items.length ≤ 9223372036854775807 := by omega
 have HN := Hh hbd.2.2.1;have hci : ¬ (c : Int) < 1 := by omega
 have k0 : ¬ x.kind < 0 := by omega
 have k8 : ¬ 8 < x.kind := by omega
 have HK := Hh hk;have HC1 := Hh hc1;clear hx hbd hc1;obtain ⟨b0, b1, b2, b3, b4, b5, b6, b7, b8⟩ := kinds4 hk;clear hk
 by_cases hn0 : x.n = 0
 all_goals first | have bn00 : ((x.n : Int) != 0) = false := by (simp [hn0]; done) | have bn00 : ((x.n : Int) != 0) = true := by simp [hn0]
 all_goals first | have bn01 : (x.n = 0) = True := eq_true hn0 | have bn01 : (x.n = 0) = False := eq_false hn0
 all_goals have HN0 := Hh hn0
 all_goals clear hn0
 all_goals
  by_cases hpos : 0 < x.items.length
  ·have bpos0 : (0 : Int) < x.items.length := by omega
   have HPOS := Hh hpos;clear hpos;go_enter Tryz.func53, Tryz.ntmps53
   go_upto_region 22 with fail
   any_goals
    (have hbad : nodeR x d (c - 1) = false := by
      cases hq : nodeR x d (c - 1) with
      | false => rfl
      | true => exact absurd ((nodeR_456 (by have := HK.out; omega)).1 hq) (by have hn0 := HN0.out; have hpos := HPOS.out; have hk := HK.out; omega)
     go_ret
     exact ⟨by rw [left_none hbad]; rfl, hb0⟩)
   all_goals
    have HG : Hid (nodeR x d (c - 1) = true) := (nodeR_456 (by have := HK.out; omega)).2 ⟨by omega, by omega, fun h => by have := HK.out; omega, fun _ => HN0.out, fun h => by have := HK.out; omega, by omega⟩;have c0 := hB.cell 0 rfl;have c3 := hB.cell 3 rfl;go_wp2_with fail
    have hB0 := hB;have hbz := hb0;go_loopw [1, 157] (fun v1 v157 wr => ∃ (j r : Nat), j ≤ x.items.length ∧ r ≤ c ∧ v157 = .int .i64 j ∧ v1 = .int .i64 r ∧ leftL (x.items.drop j) r (d + 1) = leftL x.items (c - 1) (d + 1) ∧ Below w.heap.size w wr ∧ Blk wr w.heap.size 75 #[.int .i64 x.kind, .int .u64 x.n, .slice ba x.bytes.length bc, .slice ia x.items.length ic]) (fun _ v157 _ => x.items.length - (intOf v157).toNat)
    case atStart => exact ⟨0, c - 1, Nat.zero_le _, by omega, rfl, by rw [HC1.out], rfl, hbz, hB0⟩
    case round =>
     obtain ⟨j, r, hj, hrc, rfl, rfl, hlr, hbr, hBr⟩ := hrel;have HLR := Hh hlr;clear hlr
     by_cases hlt : j < x.items.length
     ·have hHr : Holds wr H := hH.below hbr (Nat.le_refl _);obtain ⟨ib, io, hia, hel⟩ := HX.out.items (by omega);obtain ⟨eba, ebc, eia, eic, q0, q1, q2, q3, hex⟩ := hel.get j hlt;subst hia;have p0 := hHr.cell q0;have p1 := hHr.cell q1;have p2 := hHr.cell q2;have p3 := hHr.cell q3;have hstep : leftL (x.items.drop j) r (d + 1) = match leftP x.items[j] r (d + 1) with | none => none | some r' => leftL (x.items.drop (j + 1)) r' (d + 1) := by rw [List.drop_eq_getElem_cons hlt, leftL]; cases leftP x.items[j] r (d + 1) <;> rfl
      have hst := Hh (hstep.symm.trans HLR.out);clear hstep;have IHC := ih x.items[j] (cnt_items x j hlt) H hT _ _ eba _ ebc eia _ eic (wr.alloc (itemO x.items[j] eba ebc eia eic)) r (d + 1) hex.arg (hHr.alloc _) (by omega) (by omega);rw [show ((d + 1 : Nat) : Int) = (d : Int) + 1 by omega] at IHC;have IHH := Hh IHC;have hbr5 := hbr.alloc hbr.size (itemO x.items[j] eba ebc eia eic);have hB5 := hBr.alloc (itemO x.items[j] eba ebc eia eic);clear IHC q0 q1 q2 q3
      cases hq : leftP x.items[j] r (d + 1) with
      | none =>
       rw [hq] at IHH hst;have E : Hid (leftP x c d = none) := by rw [Hid, leftP_eq, if_neg (by omega), if_neg (by simp [HG.out]), ← hst.out]
       clear hq hst;go_wp2_with fail
       refine IHH.out.mono ?_
       rintro e w6 ⟨rfl, hb6⟩
       have hb7 := hbr5.trans (hb6.mono hbr5.size)
       simp only [leftI]
       go_wp2_with fail
       go_ret
       exact ⟨by rw [E.out]; rfl, hb7⟩
      | some r' =>
       rw [hq] at IHH hst;have hrr := (left_spec _ _ _ _ hq).2.2;have hst' : Hid (leftL (x.items.drop (j + 1)) r' (d + 1) = leftL x.items (c - 1) (d + 1)) := hst.out;clear hq hst;have hr0 : (0 : Int) ≤ (r' : Int) := by omega
       have hrc' : r' ≤ c := by omega
       go_wp2_with fail
       refine IHH.out.mono ?_
       rintro e w6 ⟨rfl, hb6⟩
       have hb7 := hbr5.trans (hb6.mono hbr5.size);have hB7 := hB5.below hb6
       simp only [leftI]
       clear hbr hBr hbr5 hB5 hb6 IHH p0 p1 p2 p3 hrr hHr;go_wp2_with fail
       go_roundw
       case rel => exact ⟨j + 1, r', by omega, hrc', by go_num, rfl, hst'.out, hb7, hB7⟩
       case measure => simp [intOf]; omega
     ·have hjl : j = x.items.length := by omega
      subst hjl;have hall : leftL x.items (c - 1) (d + 1) = some r := by rw [← HLR.out, List.drop_length, leftL]
      have HALL := Hh hall;clear hall HLR
      have E : Hid (leftP x c d = some r) := by
       rw [Hid, leftP_eq, if_neg (by omega), if_neg (by simp [HG.out]), HALL.out]
       simp only
       rw [if_neg (by rintro ⟨h5, _⟩; rw [h5] at b5; cases b5)]
      have c0 := hBr.cell 0 rfl;go_wp2_with fail
      refine wp_loop_rounds 1 ?_
      rw [rounds_succ];go_wp2_with fail
      go_ret
      exact ⟨by rw [E.out]; rfl, hbr⟩
  ·have bpos0 : ¬ (0 : Int) < x.items.length := by omega
   have HPOS := Hh hpos;clear hpos;go_enter Tryz.func53, Tryz.ntmps53
   go_upto_region 22 with fail
   any_goals
    (have hbad : nodeR x d (c - 1) = false := by
      cases hq : nodeR x d (c - 1) with
      | false => rfl
      | true => exact absurd ((nodeR_456 (by have := HK.out; omega)).1 hq) (by have hn0 := HN0.out; have hpos := HPOS.out; have hk := HK.out; omega)
     go_ret
     exact ⟨by rw [left_none hbad]; rfl, hb0⟩)
   all_goals
    have hgood : nodeR x d (c - 1) = true := (nodeR_456 (by have := HK.out; omega)).2 ⟨by omega, by omega, fun h => by have := HK.out; omega, fun _ => HN0.out, fun h => by have := HK.out; omega, by omega⟩;have hi0 : x.items.length = 0 := by have hn0 := HN0.out; have hpos := HPOS.out; have hk := HK.out; omega
    have hk := HK.out;have E : Hid (leftP x c d = some (c - 1)) := left_flat hc0 hgood hi0;have hli : ¬ (0 : Int) < x.items.length := by omega
    have hl2 : ¬ (2 : Int) < x.items.length := by omega
    have HI := Hh hi0;have HC := Hh hgood;clear hi0 hk hgood;have c0 := hB.cell 0 rfl;have c3 := hB.cell 3 rfl;go_wp2_with fail
    refine wp_loop_rounds 1 ?_
    rw [rounds_succ];go_wp2_with fail
    refine wp_loop_rounds 1 ?_
    rw [rounds_succ];go_wp2_with fail
    go_ret
    exact ⟨by rw [E.out, ← HC1.out]; rfl, hb0⟩
theorem left_k6 (x : Itm) (hk : x.kind = 6) {H : Snap} (hT : Tabs H) (ih : ∀ y : Itm, cnt y < cnt x → LeftSaid y) {ba : Option Addr} {bc : Nat} {ia : Option Addr} {ic : Nat} (hx : IsItem H ba bc ia ic x) (w : World) (hH : Holds w H) (c d : Nat) (hc0 : 0 < c) (hc : c ≤ 65536) (hd : d ≤ 65536) :
  Calls Tryz.prog 53 #[itemV x ba bc ia ic, .int .i64 c, .int .i64 d] w fun e w' => e = .returned (.int .i64 (leftI (leftP x c d))) ∧ Below w.heap.size w w' := by
 have HX := Hh hx;have hbd := hx.bounds;have hB := Blk.new w 75 #[.int .i64 x.kind, .int .u64 x.n, .slice ba x.bytes.length bc, .slice ia x.items.length ic];have hb0 := below_box w (itemO x ba bc ia ic);have hc1 : ((c - 1 : Nat) : Int) = (c : Int) - 1 := by omega
 have hbl : x.bytes.length ≤ 9223372036854775807 := by omega
 have hil : x.items.length ≤ 9223372036854775807 := by omega
 have HN := Hh hbd.2.2.1;have hci : ¬ (c : Int) < 1 := by omega
 have k0 : ¬ x.kind < 0 := by omega
 have k8 : ¬ 8 < x.kind := by omega
 have HK := Hh hk;have HC1 := Hh hc1;clear hx hbd hc1;obtain ⟨b0, b1, b2, b3, b4, b5, b6, b7, b8⟩ := kinds6 hk;clear hk
 by_cases hn0 : x.n = 0
 all_goals first | have bn00 : ((x.n : Int) != 0) = false := by (simp [hn0]; done) | have bn00 : ((x.n : Int) != 0) = true := by simp [hn0]
 all_goals first | have bn01 : (x.n = 0) = True := eq_true hn0 | have bn01 : (x.n = 0) = False := eq_false hn0
 all_goals have HN0 := Hh hn0
 all_goals clear hn0
 all_goals by_cases hone : x.items.length = 1
 all_goals first | have bone0 : ((x.items.length : Int) != 1) = false := by (rw [bne_eq_false_iff_eq]; omega) | have bone0 : ((x.items.length : Int) != 1) = true := by (rw [bne_iff_ne]; omega)
 all_goals have HONE := Hh hone
 all_goals clear hone
 all_goals
  by_cases hpos : 0 < x.items.length
  ·have bpos0 : (0 : Int) < x.items.length := by omega
   have HPOS := Hh hpos;clear hpos;go_enter Tryz.func53, Tryz.ntmps53
   go_upto_region 22 with fail
   any_goals
    (have hbad : nodeR x d (c - 1) = false := by
      cases hq : nodeR x d (c - 1) with
      | false => rfl
      | true => exact absurd ((nodeR_456 (by have := HK.out; omega)).1 hq) (by have hn0 := HN0.out; have hone := HONE.out; have hpos := HPOS.out; have hk := HK.out; omega)
     go_ret
     exact ⟨by rw [left_none hbad]; rfl, hb0⟩)
   all_goals
    have HG : Hid (nodeR x d (c - 1) = true) := (nodeR_456 (by have := HK.out; omega)).2 ⟨by omega, by omega, fun h => HONE.out, fun h => by have := HK.out; omega, fun h => by have := HK.out; omega, by omega⟩;have c0 := hB.cell 0 rfl;have c3 := hB.cell 3 rfl;go_wp2_with fail
    have hB0 := hB;have hbz := hb0;go_loopw [1, 157] (fun v1 v157 wr => ∃ (j r : Nat), j ≤ x.items.length ∧ r ≤ c ∧ v157 = .int .i64 j ∧ v1 = .int .i64 r ∧ leftL (x.items.drop j) r (d + 1) = leftL x.items (c - 1) (d + 1) ∧ Below w.heap.size w wr ∧ Blk wr w.heap.size 75 #[.int .i64 x.kind, .int .u64 x.n, .slice ba x.bytes.length bc, .slice ia x.items.length ic]) (fun _ v157 _ => x.items.length - (intOf v157).toNat)
    case atStart => exact ⟨0, c - 1, Nat.zero_le _, by omega, rfl, by rw [HC1.out], rfl, hbz, hB0⟩
    case round =>
     obtain ⟨j, r, hj, hrc, rfl, rfl, hlr, hbr, hBr⟩ := hrel;have HLR := Hh hlr;clear hlr
     by_cases hlt : j < x.items.length
     ·have hHr : Holds wr H := hH.below hbr (Nat.le_refl _);obtain ⟨ib, io, hia, hel⟩ := HX.out.items (by omega);obtain ⟨eba, ebc, eia, eic, q0, q1, q2, q3, hex⟩ := hel.get j hlt;subst hia;have p0 := hHr.cell q0;have p1 := hHr.cell q1;have p2 := hHr.cell q2;have p3 := hHr.cell q3;have hstep : leftL (x.items.drop j) r (d + 1) = match leftP x.items[j] r (d + 1) with | none => none | some r' => leftL (x.items.drop (j + 1)) r' (d + 1) := by rw [List.drop_eq_getElem_cons hlt, leftL]; cases leftP x.items[j] r (d + 1) <;> rfl
      have hst := Hh (hstep.symm.trans HLR.out);clear hstep;have IHC := ih x.items[j] (cnt_items x j hlt) H hT _ _ eba _ ebc eia _ eic (wr.alloc (itemO x.items[j] eba ebc eia eic)) r (d + 1) hex.arg (hHr.alloc _) (by omega) (by omega);rw [show ((d + 1 : Nat) : Int) = (d : Int) + 1 by omega] at IHC;have IHH := Hh IHC;have hbr5 := hbr.alloc hbr.size (itemO x.items[j] eba ebc eia eic);have hB5 := hBr.alloc (itemO x.items[j] eba ebc eia eic);clear IHC q0 q1 q2 q3
      cases hq : leftP x.items[j] r (d + 1) with
      | none =>
       rw [hq] at IHH hst;have E : Hid (leftP x c d = none) := by rw [Hid, leftP_eq, if_neg (by omega), if_neg (by simp [HG.out]), ← hst.out]
       clear hq hst;go_wp2_with fail
       refine IHH.out.mono ?_
       rintro e w6 ⟨rfl, hb6⟩
       have hb7 := hbr5.trans (hb6.mono hbr5.size)
       simp only [leftI]
       go_wp2_with fail
       go_ret
       exact ⟨by rw [E.out]; rfl, hb7⟩
      | some r' =>
       rw [hq] at IHH hst;have hrr := (left_spec _ _ _ _ hq).2.2;have hst' : Hid (leftL (x.items.drop (j + 1)) r' (d + 1) = leftL x.items (c - 1) (d + 1)) := hst.out;clear hq hst;have hr0 : (0 : Int) ≤ (r' : Int) := by omega
       have hrc' : r' ≤ c := by omega
       go_wp2_with fail
       refine IHH.out.mono ?_
       rintro e w6 ⟨rfl, hb6⟩
       have hb7 := hbr5.trans (hb6.mono hbr5.size);have hB7 := hB5.below hb6
       simp only [leftI]
       clear hbr hBr hbr5 hB5 hb6 IHH p0 p1 p2 p3 hrr hHr;go_wp2_with fail
       go_roundw
       case rel => exact ⟨j + 1, r', by omega, hrc', by go_num, rfl, hst'.out, hb7, hB7⟩
       case measure => simp [intOf]; omega
     ·have hjl : j = x.items.length := by omega
      subst hjl;have hall : leftL x.items (c - 1) (d + 1) = some r := by rw [← HLR.out, List.drop_length, leftL]
      have HALL := Hh hall;clear hall HLR
      have E : Hid (leftP x c d = some r) := by
       rw [Hid, leftP_eq, if_neg (by omega), if_neg (by simp [HG.out]), HALL.out]
       simp only
       rw [if_neg (by rintro ⟨h5, _⟩; rw [h5] at b5; cases b5)]
      have c0 := hBr.cell 0 rfl;go_wp2_with fail
      refine wp_loop_rounds 1 ?_
      rw [rounds_succ];go_wp2_with fail
      go_ret
      exact ⟨by rw [E.out]; rfl, hbr⟩
  ·have bpos0 : ¬ (0 : Int) < x.items.length := by omega
   have HPOS := Hh hpos;clear hpos;go_enter Tryz.func53, Tryz.ntmps53
   go_upto_region 22 with fail
   any_goals
    (have hbad : nodeR x d (c - 1) = false := by
      cases hq : nodeR x d (c - 1) with
      | false => rfl
      | true => exact absurd ((nodeR_456 (by have := HK.out; omega)).1 hq) (by have hn0 := HN0.out; have hone := HONE.out; have hpos := HPOS.out; have hk := HK.out; omega)
     go_ret
     exact ⟨by rw [left_none hbad]; rfl, hb0⟩)
   all_goals
    have hgood : nodeR x d (c - 1) = true := (nodeR_456 (by have := HK.out; omega)).2 ⟨by omega, by omega, fun h => HONE.out, fun h => by have := HK.out; omega, fun h => by have := HK.out; omega, by omega⟩;have hi0 : x.items.length = 0 := by have hn0 := HN0.out; have hone := HONE.out; have hpos := HPOS.out; have hk := HK.out; omega
    have hk := HK.out;have E : Hid (leftP x c d = some (c - 1)) := left_flat hc0 hgood hi0;have hli : ¬ (0 : Int) < x.items.length := by omega
    have hl2 : ¬ (2 : Int) < x.items.length := by omega
    have HI := Hh hi0;have HC := Hh hgood;clear hi0 hk hgood;have c0 := hB.cell 0 rfl;have c3 := hB.cell 3 rfl;go_wp2_with fail
    refine wp_loop_rounds 1 ?_
    rw [rounds_succ];go_wp2_with fail
    refine wp_loop_rounds 1 ?_
    rw [rounds_succ];go_wp2_with fail
    go_ret
    exact ⟨by rw [E.out, ← HC1.out]; rfl, hb0⟩
theorem left_k5 (x : Itm) (hk : x.kind = 5) {H : Snap} (hT : Tabs H) (ih : ∀ y : Itm, cnt y < cnt x → LeftSaid y) {ba : Option Addr} {bc : Nat} {ia : Option Addr} {ic : Nat} (hx : IsItem H ba bc ia ic x) (w : World) (hH : Holds w H) (c d : Nat) (hc0 : 0 < c) (hc : c ≤ 65536) (hd : d ≤ 65536) :
  Calls Tryz.prog 53 #[itemV x ba bc ia ic, .int .i64 c, .int .i64 d] w fun e w' => e = .returned (.int .i64 (leftI (leftP x c d))) ∧ Below w.heap.size w w' := by
 have HX := Hh hx;have hbd := hx.bounds;have hB := Blk.new w 75 #[.int .i64 x.kind, .int .u64 x.n, .slice ba x.bytes.length bc, .slice ia x.items.length ic];have hb0 := below_box w (itemO x ba bc ia ic);have hc1 : ((c - 1 : Nat) : Int) = (c : Int) - 1 := by omega
 have hbl : x.bytes.length ≤ 9223372036854775807 := by omega
 have hil : x.items.length ≤ 9223372036854775807 := by omega
 have HN := Hh hbd.2.2.1;have hci : ¬ (c : Int) < 1 := by omega
 have k0 : ¬ x.kind < 0 := by omega
 have k8 : ¬ 8 < x.kind := by omega
 have HK := Hh hk;have HC1 := Hh hc1;clear hx hbd hc1;obtain ⟨b0, b1, b2, b3, b4, b5, b6, b7, b8⟩ := kinds5 hk;clear hk
 by_cases hn0 : x.n = 0
 all_goals first | have bn00 : ((x.n : Int) != 0) = false := by (simp [hn0]; done) | have bn00 : ((x.n : Int) != 0) = true := by simp [hn0]
 all_goals first | have bn01 : (x.n = 0) = True := eq_true hn0 | have bn01 : (x.n = 0) = False := eq_false hn0
 all_goals have HN0 := Hh hn0
 all_goals clear hn0
 all_goals by_cases heven : x.items.length % 2 = 0
 all_goals first | have beven0 : ((x.items.length : Int) % 2 != 0) = false := by (rw [bne_eq_false_iff_eq]; omega) | have beven0 : ((x.items.length : Int) % 2 != 0) = true := by (rw [bne_iff_ne]; omega)
 all_goals have HEVEN := Hh heven
 all_goals clear heven
 all_goals
  by_cases hpos : 0 < x.items.length
  ·have bpos0 : (0 : Int) < x.items.length := by omega
   have HPOS := Hh hpos;clear hpos;go_enter Tryz.func53, Tryz.ntmps53
   go_upto_region 22 with fail
   any_goals
    (have hbad : nodeR x d (c - 1) = false := by
      cases hq : nodeR x d (c - 1) with
      | false => rfl
      | true => exact absurd ((nodeR_456 (by have := HK.out; omega)).1 hq) (by have hn0 := HN0.out; have heven := HEVEN.out; have hpos := HPOS.out; have hk := HK.out; omega)
     go_ret
     exact ⟨by rw [left_none hbad]; rfl, hb0⟩)
   all_goals
    have HG : Hid (nodeR x d (c - 1) = true) := (nodeR_456 (by have := HK.out; omega)).2 ⟨by omega, by omega, fun h => by have := HK.out; omega, fun _ => HN0.out, fun h => HEVEN.out, by omega⟩;have c0 := hB.cell 0 rfl;have c3 := hB.cell 3 rfl;go_wp2_with fail
    have hB0 := hB;have hbz := hb0;go_loopw [1, 157] (fun v1 v157 wr => ∃ (j r : Nat), j ≤ x.items.length ∧ r ≤ c ∧ v157 = .int .i64 j ∧ v1 = .int .i64 r ∧ leftL (x.items.drop j) r (d + 1) = leftL x.items (c - 1) (d + 1) ∧ Below w.heap.size w wr ∧ Blk wr w.heap.size 75 #[.int .i64 x.kind, .int .u64 x.n, .slice ba x.bytes.length bc, .slice ia x.items.length ic]) (fun _ v157 _ => x.items.length - (intOf v157).toNat)
    case atStart => exact ⟨0, c - 1, Nat.zero_le _, by omega, rfl, by rw [HC1.out], rfl, hbz, hB0⟩
    case round =>
     obtain ⟨j, r, hj, hrc, rfl, rfl, hlr, hbr, hBr⟩ := hrel;have HLR := Hh hlr;clear hlr
     by_cases hlt : j < x.items.length
     ·have hHr : Holds wr H := hH.below hbr (Nat.le_refl _);obtain ⟨ib, io, hia, hel⟩ := HX.out.items (by omega);obtain ⟨eba, ebc, eia, eic, q0, q1, q2, q3, hex⟩ := hel.get j hlt;subst hia;have p0 := hHr.cell q0;have p1 := hHr.cell q1;have p2 := hHr.cell q2;have p3 := hHr.cell q3;have hstep : leftL (x.items.drop j) r (d + 1) = match leftP x.items[j] r (d + 1) with | none => none | some r' => leftL (x.items.drop (j + 1)) r' (d + 1) := by rw [List.drop_eq_getElem_cons hlt, leftL]; cases leftP x.items[j] r (d + 1) <;> rfl
      have hst := Hh (hstep.symm.trans HLR.out);clear hstep;have IHC := ih x.items[j] (cnt_items x j hlt) H hT _ _ eba _ ebc eia _ eic (wr.alloc (itemO x.items[j] eba ebc eia eic)) r (d + 1) hex.arg (hHr.alloc _) (by omega) (by omega);rw [show ((d + 1 : Nat) : Int) = (d : Int) + 1 by omega] at IHC;have IHH := Hh IHC;have hbr5 := hbr.alloc hbr.size (itemO x.items[j] eba ebc eia eic);have hB5 := hBr.alloc (itemO x.items[j] eba ebc eia eic);clear IHC q0 q1 q2 q3
      cases hq : leftP x.items[j] r (d + 1) with
      | none =>
       rw [hq] at IHH hst;have E : Hid (leftP x c d = none) := by rw [Hid, leftP_eq, if_neg (by omega), if_neg (by simp [HG.out]), ← hst.out]
       clear hq hst;go_wp2_with fail
       refine IHH.out.mono ?_
       rintro e w6 ⟨rfl, hb6⟩
       have hb7 := hbr5.trans (hb6.mono hbr5.size)
       simp only [leftI]
       go_wp2_with fail
       go_ret
       exact ⟨by rw [E.out]; rfl, hb7⟩
      | some r' =>
       rw [hq] at IHH hst;have hrr := (left_spec _ _ _ _ hq).2.2;have hst' : Hid (leftL (x.items.drop (j + 1)) r' (d + 1) = leftL x.items (c - 1) (d + 1)) := hst.out;clear hq hst;have hr0 : (0 : Int) ≤ (r' : Int) := by omega
       have hrc' : r' ≤ c := by omega
       go_wp2_with fail
       refine IHH.out.mono ?_
       rintro e w6 ⟨rfl, hb6⟩
       have hb7 := hbr5.trans (hb6.mono hbr5.size);have hB7 := hB5.below hb6
       simp only [leftI]
       clear hbr hBr hbr5 hB5 hb6 IHH p0 p1 p2 p3 hrr hHr;go_wp2_with fail
       go_roundw
       case rel => exact ⟨j + 1, r', by omega, hrc', by go_num, rfl, hst'.out, hb7, hB7⟩
       case measure => simp [intOf]; omega
     ·have hjl : j = x.items.length := by omega
      subst hjl;have hall : leftL x.items (c - 1) (d + 1) = some r := by rw [← HLR.out, List.drop_length, leftL]
      have HALL := Hh hall;clear hall HLR;obtain ⟨hgl, hsl, hcl⟩ := leftL_spec _ _ _ _ HALL.out;have HGL := Hh hgl;have hbl : (encL x.items).length ≤ 1099511627776 := by have := GoodL.bytes hgl hsl; omega
      have HBL := Hh hbl;have h5 : x.kind = 5 := by simpa using b5
      have H5 := Hh h5;clear hgl hsl hcl hbl h5;go_wp2_with fail
      go_loopw [11] (fun v11 wz => ∃ i : Nat, 2 ≤ i ∧ i ≤ x.items.length + 2 ∧ v11 = .int .i64 i ∧ ascP (x.items.drop (i - 2)) = ascP x.items ∧ Below w.heap.size w wz ∧ Blk wz w.heap.size 75 #[.int .i64 x.kind, .int .u64 x.n, .slice ba x.bytes.length bc, .slice ia x.items.length ic]) (fun v11 _ => (x.items.length + 2) - (intOf v11).toNat)
      case atStart => exact ⟨2, by omega, by omega, rfl, rfl, hbr, hBr⟩
      case round =>
       obtain ⟨i, hi2, hil2, rfl, hasc, hbs, hBs⟩ := hrel;have HA := Hh hasc;have c0 := hBs.cell 0 rfl;have c3 := hBs.cell 3 rfl;clear hasc hbr hBr
       by_cases hlt2 : i < x.items.length
       ·have hHs : Holds wr H := hH.below hbs (Nat.le_refl _);obtain ⟨ib, io, hia, hel⟩ := HX.out.items (by omega);obtain ⟨y1, y2, y3, y4, p0, p1, p2, p3, hy⟩ := hel.get (i - 2) (by omega);obtain ⟨z1, z2, z3, z4, q0, q1, q2, q3, hz⟩ := hel.get i hlt2;subst hia;have hd := ascP_drop x.items i hi2 hlt2;rw [HA.out] at hd;have hgy := HGL.out.get x.items[i - 2] (List.getElem_mem (by omega));have hgz := HGL.out.get x.items[i] (List.getElem_mem hlt2);have hly := encL_mem (List.getElem_mem (show i - 2 < x.items.length by omega));have hlz := encL_mem (List.getElem_mem hlt2);have hi2' : (2 : Int) ≤ i := by omega
        have hsub : ((i : Int) - 2).toNat = i - 2 := by omega
        have hKs : IntKind.i64.wrap ((i : Int) - 2) = (i : Int) - 2 := IntWalk.i64_in _ (by omega);have h02 : (0 : Int) ≤ (i : Int) - 2 := by omega
        have h03 : (i : Int) - 2 < x.items.length := by omega
        have h04 : (i : Int) < x.items.length := by omega
        generalize x.items[i - 2]'(by omega) = y at *
        generalize x.items[i]'hlt2 = z at *
        have hbl := HBL.out;have RY := Hh (fun w1 : World => fun h1 : Holds w1 H => ref_Raw y H _ _ y1 _ y2 y3 _ y4 w1 (d + 1) hgy (by omega) hy.arg h1);have RZ := Hh (fun w1 : World => fun h1 : Holds w1 H => ref_Raw z H _ _ z1 _ z2 z3 _ z4 w1 (d + 1) hgz (by omega) hz.arg h1);have hyl : (encB y).length ≤ 1099511627776 := by omega
        have hzl : (encB z).length ≤ 1099511627776 := by omega
        have HD := Hh hd;clear hgy hgz hly hlz hbl hd hel;go_upto_region 32 with fail
        have hBx := hBs.drew;have hbx := hbs.drew;have hHx := hHs.drew
        refine wp_region_ways 14 (fun w' => w'.cell? ⟨w.heap.size, 3, none⟩ = some (.slice (some ⟨ib, io, none⟩) x.items.length ic) ∧ w'.cell? ⟨ib, io + (i - 2) * 4, none⟩ = some (.int .i64 y.kind) ∧ w'.cell? ⟨ib, io + (i - 2) * 4 + 1, none⟩ = some (.int .u64 y.n) ∧ w'.cell? ⟨ib, io + (i - 2) * 4 + 2, none⟩ = some (.slice y1 y.bytes.length y2) ∧ w'.cell? ⟨ib, io + (i - 2) * 4 + 3, none⟩ = some (.slice y3 y.items.length y4) ∧ w'.cell? ⟨ib, io + i * 4, none⟩ = some (.int .i64 z.kind) ∧ w'.cell? ⟨ib, io + i * 4 + 1, none⟩ = some (.int .u64 z.n) ∧ w'.cell? ⟨ib, io + i * 4 + 2, none⟩ = some (.slice z1 z.bytes.length z2) ∧ w'.cell? ⟨ib, io + i * 4 + 3, none⟩ = some (.slice z3 z.items.length z4)) (by kernel_rfl) (⟨hBx.cell 3 rfl, hHx.cell p0, hHx.cell p1, hHx.cell p2, hHx.cell p3, hHx.cell q0, hHx.cell q1, hHx.cell q2, hHx.cell q3⟩) (fun hHeld => ?_)
        refine Tk 0 rfl hHeld ?_
        refine Tk 1 rfl hHeld ?_
        refine Tk 2 rfl hHeld ?_
        refine Tk 3 rfl hHeld ?_
        refine Tk 4 rfl hHeld ?_
        refine Tk 5 rfl hHeld ?_
        refine Tk 7 rfl hHeld ?_
        refine Tk 8 rfl hHeld ?_
        refine Tk 9 rfl hHeld ?_
        refine Tk 10 rfl hHeld ?_
        refine Tk 11 rfl hHeld ?_
        refine To 6 rfl fun K hK => ?_
        go_simp
        refine (RY.out _ hHx).mono ?_
        rintro e wA ⟨rA, rfl, hfA⟩
        obtain ⟨AA, ca, rfl, _⟩ := hfA.own.form;have hsA := hfA.own.src
        try have hsB := hsB.below hfA.2
        have hHx := hHx.below hfA.2 (Nat.le_refl _);have hBx := hBx.below hfA.2;have hbx := hbx.trans (hfA.2.mono hbx.size)
        refine Ko hK ?_ fun hHeld => ?_
        ·exact ⟨hBx.cell 3 rfl, hHx.cell p0, hHx.cell p1, hHx.cell p2, hHx.cell p3, hHx.cell q0, hHx.cell q1, hHx.cell q2, hHx.cell q3⟩
        clear hK K
        refine To 12 rfl fun K hK => ?_
        go_simp
        refine (RZ.out _ hHx).mono ?_
        rintro e wB ⟨rB, rfl, hfB⟩
        obtain ⟨BB, cb, rfl, _⟩ := hfB.own.form;have hsB := hfB.own.src
        try have hsA := hsA.below hfB.2
        have hHx := hHx.below hfB.2 (Nat.le_refl _);have hBx := hBx.below hfB.2;have hbx := hbx.trans (hfB.2.mono hbx.size)
        refine Ko hK ?_ fun hHeld => ?_
        ·exact ⟨hBx.cell 3 rfl, hHx.cell p0, hHx.cell p1, hHx.cell p2, hHx.cell p3, hHx.cell q0, hHx.cell q1, hHx.cell q2, hHx.cell q3⟩
        clear hK K
        refine To 13 rfl fun K hK => ?_
        go_simp
        refine (ref_Compare _ AA BB (encB y) (encB z) _ _ ca cb rfl rfl hyl hzl hsA hsB).mono ?_
        rintro e wC ⟨rfl, hfC⟩
        have hHx := hHx.below hfC (Nat.le_refl _);have hBx := hBx.below hfC;have hbx := hbx.trans (hfC.mono hbx.size)
        refine Ko hK ?_ fun hHeld => ?_
        ·exact ⟨hBx.cell 3 rfl, hHx.cell p0, hHx.cell p1, hHx.cell p2, hHx.cell p3, hHx.cell q0, hHx.cell q1, hHx.cell q2, hHx.cell q3⟩
        clear hK K
        refine To 14 rfl fun K hK => ?_
        go_simp
        refine Kz hK ?_
        clear hK K
        refine Wd ?_
        clear hHeld
        by_cases hcmp : Lib.compareBytes (encB y) (encB z) < 0
        ·have hge : ¬ (0 : Int) ≤ Lib.compareBytes (encB y) (encB z) := by omega
         have HN : Hid (ascP (x.items.drop (i + 2 - 2)) = ascP x.items) := by rw [Hid, Nat.add_sub_cancel, HD.out, decide_eq_true hcmp, Bool.true_and]
         generalize Lib.compareBytes (encB y) (encB z) = cmp at *
         have HC := Hh hcmp;clear hcmp hsA hsB hHx;go_wp2_with fail
         go_roundw
         case rel => exact ⟨i + 2, by omega, by omega, by go_num, HN.out, hbx, hBx⟩
         case measure => simp [intOf]; omega
        ·have hge : (0 : Int) ≤ Lib.compareBytes (encB y) (encB z) := by omega
         have HN : ascP x.items = false := by rw [HD.out, decide_eq_false hcmp, Bool.false_and]
         have E : Hid (leftP x c d = none) := by
          rw [Hid, leftP_eq, if_neg (by omega), if_neg (by simp [HG.out]), HALL.out]
          simp only
          rw [if_pos ⟨H5.out, HN⟩]
         generalize Lib.compareBytes (encB y) (encB z) = cmp at *
         clear hcmp hsA hsB hHx HN;go_wp2_with fail
         go_ret
         exact ⟨by rw [E.out]; rfl, hbx⟩
       ·have hnl : ¬ (i : Int) < x.items.length := by omega
        have HN : ascP x.items = true := by rw [← HA.out]; exact ascP_end _ _ hi2 (by omega)
        have E : Hid (leftP x c d = some r) := by
         rw [Hid, leftP_eq, if_neg (by omega), if_neg (by simp [HG.out]), HALL.out]
         simp only
         rw [if_neg (by rintro ⟨_, h⟩; rw [HN] at h; cases h)]
        clear HN hlt2;go_wp2_with fail
        go_ret
        exact ⟨by rw [E.out]; rfl, hbs⟩
  ·have bpos0 : ¬ (0 : Int) < x.items.length := by omega
   have HPOS := Hh hpos;clear hpos;go_enter Tryz.func53, Tryz.ntmps53
   go_upto_region 22 with fail
   any_goals
    (have hbad : nodeR x d (c - 1) = false := by
      cases hq : nodeR x d (c - 1) with
      | false => rfl
      | true => exact absurd ((nodeR_456 (by have := HK.out; omega)).1 hq) (by have hn0 := HN0.out; have heven := HEVEN.out; have hpos := HPOS.out; have hk := HK.out; omega)
     go_ret
     exact ⟨by rw [left_none hbad]; rfl, hb0⟩)
   all_goals
    have hgood : nodeR x d (c - 1) = true := (nodeR_456 (by have := HK.out; omega)).2 ⟨by omega, by omega, fun h => by have := HK.out; omega, fun _ => HN0.out, fun h => HEVEN.out, by omega⟩;have hi0 : x.items.length = 0 := by have hn0 := HN0.out; have heven := HEVEN.out; have hpos := HPOS.out; have hk := HK.out; omega
    have hk := HK.out;have E : Hid (leftP x c d = some (c - 1)) := left_flat hc0 hgood hi0;have hli : ¬ (0 : Int) < x.items.length := by omega
    have hl2 : ¬ (2 : Int) < x.items.length := by omega
    have HI := Hh hi0;have HC := Hh hgood;clear hi0 hk hgood;have c0 := hB.cell 0 rfl;have c3 := hB.cell 3 rfl;go_wp2_with fail
    refine wp_loop_rounds 1 ?_
    rw [rounds_succ];go_wp2_with fail
    refine wp_loop_rounds 1 ?_
    rw [rounds_succ];go_wp2_with fail
    go_ret
    exact ⟨by rw [E.out, ← HC1.out]; rfl, hb0⟩
theorem left_k3 (x : Itm) (hk : x.kind = 3) {H : Snap} (hT : Tabs H) (ih : ∀ y : Itm, cnt y < cnt x → LeftSaid y) {ba : Option Addr} {bc : Nat} {ia : Option Addr} {ic : Nat} (hx : IsItem H ba bc ia ic x) (w : World) (hH : Holds w H) (c d : Nat) (hc0 : 0 < c) (hc : c ≤ 65536) (hd : d ≤ 65536) :
  Calls Tryz.prog 53 #[itemV x ba bc ia ic, .int .i64 c, .int .i64 d] w fun e w' => e = .returned (.int .i64 (leftI (leftP x c d))) ∧ Below w.heap.size w w' := by
 have HX := Hh hx;have hbd := hx.bounds;have hB := Blk.new w 75 #[.int .i64 x.kind, .int .u64 x.n, .slice ba x.bytes.length bc, .slice ia x.items.length ic];have hb0 := below_box w (itemO x ba bc ia ic);have hc1 : ((c - 1 : Nat) : Int) = (c : Int) - 1 := by omega
 have hbl : x.bytes.length ≤ 9223372036854775807 := by omega
 have hil : x.items.length ≤ 9223372036854775807 := by omega
 have HN := Hh hbd.2.2.1;have hci : ¬ (c : Int) < 1 := by omega
 have k0 : ¬ x.kind < 0 := by omega
 have k8 : ¬ 8 < x.kind := by omega
 have HK := Hh hk;have HC1 := Hh hc1;have V := Hh (utf8_Valid hT (w.alloc (itemO x ba bc ia ic)) (hH.alloc _) ba x.bytes _ bc rfl hx.bytes);clear hx hbd hc1;obtain ⟨b0, b1, b2, b3, b4, b5, b6, b7, b8⟩ := kinds3 hk;clear hk
 by_cases hn0 : x.n = 0
 all_goals first | (have bn00 : ((x.n : Int) != 0) = false := by simp [hn0]) | (have bn00 : ((x.n : Int) != 0) = true := by simp [hn0])
 all_goals first | (have bn01 : (x.n = 0) = True := by first | exact eq_true hn0 | exact eq_false hn0) | (have bn01 : (x.n = 0) = False := by first | exact eq_true hn0 | exact eq_false hn0)
 all_goals have HN0 := Hh hn0
 all_goals clear hn0
 all_goals by_cases hval : Lib.validD x.bytes = true
 all_goals first | (have bval0 : Lib.validD x.bytes = true := by simpa using hval) | (have bval0 : Lib.validD x.bytes = false := by simpa using hval)
 all_goals have HVAL := Hh hval
 all_goals clear hval
 all_goals
  go_enter Tryz.func53, Tryz.ntmps53
  rw [bval0] at V;go_upto_region 22 with (go_at_call 72; refine V.out.mono ?_; rintro e wv ⟨rfl, hbv⟩; have hB := hB.below hbv; have hb0 := hb0.trans (hbv.mono hb0.size); have e0 := hB.cell 0 rfl; have e1 := hB.cell 1 rfl; have e2 := hB.cell 2 rfl; have e3 := hB.cell 3 rfl)
  any_goals
   (have hbad : nodeR x d (c - 1) = false := by
     cases hq : nodeR x d (c - 1) with
     | false => rfl
     | true => exact absurd ((nodeR_3 HK.out).1 hq) (by have hn0 := HN0.out; have hval := HVAL.out; rintro ⟨p1, p2, p3, p4⟩; first | omega | (rw [bval0] at p4; cases p4))
    go_ret
    exact ⟨by rw [left_none hbad]; rfl, hb0⟩)
  all_goals
   have hgood : nodeR x d (c - 1) = true := (nodeR_3 HK.out).2 ⟨HN0.out, by omega, by omega, bval0⟩;have hi0 : x.items.length = 0 := by have hn0 := HN0.out; have hval := HVAL.out; omega
   have hk := HK.out;have E : Hid (leftP x c d = some (c - 1)) := left_flat hc0 hgood hi0;have hli : ¬ (0 : Int) < x.items.length := by omega
   have hl2 : ¬ (2 : Int) < x.items.length := by omega
   have HI := Hh hi0;have HC := Hh hgood;clear hi0 hk hgood;have c0 := hB.cell 0 rfl;have c3 := hB.cell 3 rfl;go_wp2_with fail
   refine wp_loop_rounds 1 ?_
   rw [rounds_succ];go_wp2_with fail
   refine wp_loop_rounds 1 ?_
   rw [rounds_succ];go_wp2_with fail
   go_ret
   exact ⟨by rw [E.out, ← HC1.out]; rfl, hb0⟩
theorem left_k8 (x : Itm) (hk : x.kind = 8) {H : Snap} (hT : Tabs H) (ih : ∀ y : Itm, cnt y < cnt x → LeftSaid y) {ba : Option Addr} {bc : Nat} {ia : Option Addr} {ic : Nat} (hx : IsItem H ba bc ia ic x) (w : World) (hH : Holds w H) (c d : Nat) (hc0 : 0 < c) (hc : c ≤ 65536) (hd : d ≤ 65536) :
  Calls Tryz.prog 53 #[itemV x ba bc ia ic, .int .i64 c, .int .i64 d] w fun e w' => e = .returned (.int .i64 (leftI (leftP x c d))) ∧ Below w.heap.size w w' := by
 have HX := Hh hx;have hbd := hx.bounds;have hB := Blk.new w 75 #[.int .i64 x.kind, .int .u64 x.n, .slice ba x.bytes.length bc, .slice ia x.items.length ic];have hb0 := below_box w (itemO x ba bc ia ic);have hc1 : ((c - 1 : Nat) : Int) = (c : Int) - 1 := by omega
 have hbl : x.bytes.length ≤ 9223372036854775807 := by omega
 have hil : x.items.length ≤ 9223372036854775807 := by omega
 have HN := Hh hbd.2.2.1;have hci : ¬ (c : Int) < 1 := by omega
 have k0 : ¬ x.kind < 0 := by omega
 have k8 : ¬ 8 < x.kind := by omega
 have HK := Hh hk;have HC1 := Hh hc1;have V := Hh (ref_IsNaN x.n hbd.2.2.1 (w.alloc (itemO x ba bc ia ic)));clear hx hbd hc1;obtain ⟨b0, b1, b2, b3, b4, b5, b6, b7, b8⟩ := kinds8 hk;clear hk
 by_cases hn0 : x.n = 0
 all_goals first | (have bn00 : ((x.n : Int) != 0) = false := by simp [hn0]) | (have bn00 : ((x.n : Int) != 0) = true := by simp [hn0])
 all_goals first | (have bn01 : (x.n = 0) = True := by first | exact eq_true hn0 | exact eq_false hn0) | (have bn01 : (x.n = 0) = False := by first | exact eq_true hn0 | exact eq_false hn0)
 all_goals have HN0 := Hh hn0
 all_goals clear hn0
 all_goals by_cases hnan : isNaN x.n = true
 all_goals first | (have bnan0 : isNaN x.n = true := by simpa using hnan) | (have bnan0 : isNaN x.n = false := by simpa using hnan)
 all_goals have HNAN := Hh hnan
 all_goals clear hnan
 all_goals by_cases hnn : x.n = notNumber
 all_goals first | (have bnn0 : ((x.n : Int) != 9221120237041090560) = false := by (first | (rw [bne_eq_false_iff_eq]; unfold notNumber at hnn; omega) | (rw [bne_iff_ne]; unfold notNumber at hnn; omega))) | (have bnn0 : ((x.n : Int) != 9221120237041090560) = true := by (first | (rw [bne_eq_false_iff_eq]; unfold notNumber at hnn; omega) | (rw [bne_iff_ne]; unfold notNumber at hnn; omega)))
 all_goals have HNN := Hh hnn
 all_goals clear hnn
 all_goals
  go_enter Tryz.func53, Tryz.ntmps53
  rw [bnan0] at V;go_upto_region 22 with (go_at_call 73; refine V.out.mono ?_; rintro e wv ⟨rfl, rfl⟩)
  any_goals
   (have hbad : nodeR x d (c - 1) = false := by
     cases hq : nodeR x d (c - 1) with
     | false => rfl
     | true => exact absurd ((nodeR_8 HK.out).1 hq) (by have hn0 := HN0.out; have hnan := HNAN.out; have hnn := HNN.out; rintro ⟨p1, p2, p3⟩; first | omega | (rcases p3 with p3 | p3; (rw [bnan0] at p3; cases p3); exact hnn p3))
    go_ret
    exact ⟨by rw [left_none hbad]; rfl, hb0⟩)
  all_goals
   have hgood : nodeR x d (c - 1) = true := (nodeR_8 HK.out).2 ⟨by omega, by omega, by first | exact .inl bnan0 | exact .inr HNN.out⟩;have hi0 : x.items.length = 0 := by have hn0 := HN0.out; have hnan := HNAN.out; have hnn := HNN.out; omega
   have hk := HK.out;have E : Hid (leftP x c d = some (c - 1)) := left_flat hc0 hgood hi0;have hli : ¬ (0 : Int) < x.items.length := by omega
   have hl2 : ¬ (2 : Int) < x.items.length := by omega
   have HI := Hh hi0;have HC := Hh hgood;clear hi0 hk hgood;have c0 := hB.cell 0 rfl;have c3 := hB.cell 3 rfl;go_wp2_with fail
   refine wp_loop_rounds 1 ?_
   rw [rounds_succ];go_wp2_with fail
   refine wp_loop_rounds 1 ?_
   rw [rounds_succ];go_wp2_with fail
   go_ret
   exact ⟨by rw [E.out, ← HC1.out]; rfl, hb0⟩
theorem left_out (x : Itm) (hk : x.kind < 0 ∨ 8 < x.kind) {ba : Option Addr} {bc : Nat} {ia : Option Addr} {ic : Nat} (w : World) (c d : Nat) (hc0 : 0 < c) (hc : c ≤ 65536) :
  Calls Tryz.prog 53 #[itemV x ba bc ia ic, .int .i64 c, .int .i64 d] w fun e w' => e = .returned (.int .i64 (leftI (leftP x c d))) ∧ Below w.heap.size w w' := by
 have E : Hid (leftP x c d = none) := left_none (nodeR_out hk);have hci : ¬ (c : Int) < 1 := by omega
 have b2 : (x.kind == 2) = false := by rw [beq_eq_false_iff_ne]; omega
 have b3 : (x.kind == 3) = false := by rw [beq_eq_false_iff_ne]; omega
 have b4 : (x.kind == 4) = false := by rw [beq_eq_false_iff_ne]; omega
 have b5 : (x.kind == 5) = false := by rw [beq_eq_false_iff_ne]; omega
 have b6 : (x.kind == 6) = false := by rw [beq_eq_false_iff_ne]; omega
 rcases hk with hk | hk
 ·go_enter Tryz.func53, Tryz.ntmps53
  go_wp2_with fail
  go_ret
  exact ⟨by rw [E.out]; rfl, below_box w _⟩
 ·have hk0 : ¬ x.kind < 0 := by omega
  go_enter Tryz.func53, Tryz.ntmps53
  go_wp2_with fail
  go_ret
  exact ⟨by rw [E.out]; rfl, below_box w _⟩
theorem ref_left (x : Itm) : LeftSaid x := by
 have main : ∀ N, ∀ x : Itm, cnt x ≤ N → LeftSaid x := by
  intro N
  induction N with
  | zero =>
   intro x hx
   have : 0 < cnt x := by cases x; rw [cnt]; omega
   omega
  | succ N ih =>
   intro x hx H hT k n ba bl bc ia il ic w c d ha hH hc hd
   obtain ⟨rfl, rfl, rfl, rfl, hi⟩ := ha.eqs_;have ih' : ∀ y : Itm, cnt y < cnt x → LeftSaid y := fun y hy => ih y (by omega)
   rcases Nat.eq_zero_or_pos c with h0 | h0
   ·subst h0
    exact left_zero x (H := H) w d
   ·rcases (by omega : (x.kind < 0 ∨ 8 < x.kind) ∨ x.kind = 0 ∨ x.kind = 1 ∨ x.kind = 2 ∨ x.kind = 3 ∨ x.kind = 4 ∨ x.kind = 5 ∨ x.kind = 6 ∨ x.kind = 7 ∨ x.kind = 8) with h | h | h | h | h | h | h | h | h | h
    ·exact left_out x h w c d h0 hc
    ·exact left_k0 x h hT ih' hi w hH c d h0 hc hd
    ·exact left_k1 x h hT ih' hi w hH c d h0 hc hd
    ·exact left_k2 x h hT ih' hi w hH c d h0 hc hd
    ·exact left_k3 x h hT ih' hi w hH c d h0 hc hd
    ·exact left_k4 x h hT ih' hi w hH c d h0 hc hd
    ·exact left_k5 x h hT ih' hi w hH c d h0 hc hd
    ·exact left_k6 x h hT ih' hi w hH c d h0 hc hd
    ·exact left_k7 x h hT ih' hi w hH c d h0 hc hd
    ·exact left_k8 x h hT ih' hi w hH c d h0 hc hd
 exact main _ x (Nat.le_refl _)
theorem left_valid {x : Itm} {r : Nat} (h : leftP x 256 0 = some r) : Good x 0 ∧ (encB x).length ≤ 1099511627776 := by
 obtain ⟨h1, h2, h3⟩ := left_spec _ _ _ _ h;have := h1.bytes h2
 exact ⟨h1, by omega⟩
theorem ref_Valid {H : Snap} (hT : Tabs H) {k n : Int} {ba : Option Addr} {bl bc : Nat} {ia : Option Addr} {il ic : Nat} {x : Itm} (hx : ItemA H k n ba bl bc ia il ic x) (w : World) (hH : Holds w H) :
  Calls Tryz.prog 38 #[.agg #[.int .i64 k, .int .u64 n, .slice ba bl bc, .slice ia il ic]] w fun e w' => e = .returned (.bool (validP x)) ∧ Below w.heap.size w w' := by
 obtain ⟨rfl, rfl, rfl, rfl, hxi⟩ := hx.eqs_;have hB := Blk.new w 75 #[.int .i64 x.kind, .int .u64 x.n, .slice ba x.bytes.length bc, .slice ia x.items.length ic];have hb0 := below_box w (itemO x ba bc ia ic);have hH0 := hH.alloc (itemO x ba bc ia ic);have L := Hh (ref_left x H hT _ _ _ _ _ _ _ _ (w.alloc (itemO x ba bc ia ic)) 256 0 hxi.arg hH0 (by omega) (by omega));have E0 := validR_eq x
 unfold validR at E0
 cases hl : leftP x 256 0 with
 | none =>
  rw [hl] at L E0;have E : Hid (validP x = false) := by rw [Hid, ← E0]; rfl
  clear hl E0;go_enter Tryz.func38, Tryz.ntmps38
  go_wp2_with fail
  refine L.out.mono ?_
  rintro e w1 ⟨rfl, hb1⟩
  have hbz := hb0.trans (hb1.mono hb0.size)
  simp only [leftI]
  go_wp2_with fail
  go_ret
  exact ⟨by rw [E.out]; rfl, hbz⟩
 | some r =>
  rw [hl] at L E0;obtain ⟨hg, hle⟩ := left_valid hl;have E : Hid (validP x = decide ((encB x).length ≤ 4096)) := by rw [Hid, ← E0]; rfl
  have hr0 : (0 : Int) ≤ (r : Int) := by omega
  have RW := Hh (fun w1 : World => fun h1 : Holds w1 H => ref_Raw x H _ _ ba _ bc ia _ ic w1 0 hg hle hxi.arg h1);have HLE := Hh hle;clear hl E0 hg hle;go_enter Tryz.func38, Tryz.ntmps38
  go_wp2_with fail
  refine L.out.mono ?_
  rintro e w1 ⟨rfl, hb1⟩
  have hB1 := hB.below hb1;have hbz := hb0.trans (hb1.mono hb0.size);have hH1 := hH0.below hb1 (Nat.le_refl _);have c0 := hB1.cell 0 rfl;have c1 := hB1.cell 1 rfl;have c2 := hB1.cell 2 rfl;have c3 := hB1.cell 3 rfl
  simp only [leftI]
  go_wp2_with fail
  refine (RW.out _ hH1).mono ?_
  rintro e w2 ⟨r2, rfl, hf⟩
  obtain ⟨RA, rc, rfl, _⟩ := hf.own.form;have hby := hbz.trans (hf.2.mono hbz.size);have hle := HLE.out
  by_cases h4 : (encB x).length ≤ 4096
  ·have E1 : Hid (validP x = true) := by rw [Hid, E.out, decide_eq_true h4]
   have h4i : ((encB x).length : Int) ≤ 4096 := by omega
   generalize (encB x).length = q at *
   clear h4 hf;go_wp2_with fail
   go_ret
   exact ⟨by rw [E1.out]; rfl, hby⟩
  ·have E1 : Hid (validP x = false) := by rw [Hid, E.out, decide_eq_false h4]
   have h4i : ¬ ((encB x).length : Int) ≤ 4096 := by omega
   generalize (encB x).length = q at *
   clear h4 hf;go_wp2_with fail
   go_ret
   refine ⟨?_, hby⟩
   rw [E1.out];show Ending.returned (Value.bool (decide _)) = _
   rw [decide_eq_false (by omega)]
def EncSaidR (w : World) (x : Itm) (e : Ending) (w' : World) : Prop :=
 (validP x = false ∧ e = .returned (.tuple #[.slice none 0 0, .int .i64 1]) ∧ Below w.heap.size w w') ∨
 (validP x = true ∧ ∃ r, e = .returned (.tuple #[r, .int .i64 0]) ∧ Fresh w (encB x) r w')
theorem ref_Encode {H : Snap} (hT : Tabs H) {k n : Int} {ba : Option Addr} {bl bc : Nat} {ia : Option Addr} {il ic : Nat} {x : Itm} (hx : ItemA H k n ba bl bc ia il ic x) (w : World) (hH : Holds w H) :
  Calls Tryz.prog 31 #[.agg #[.int .i64 k, .int .u64 n, .slice ba bl bc, .slice ia il ic]] w (EncSaidR w x) := by
 obtain ⟨rfl, rfl, rfl, rfl, hxi⟩ := hx.eqs_;have hH1 := hH.alloc (itemO x ba bc ia ic);have hb1 := below_box w (itemO x ba bc ia ic);have hB1 := Blk.new w 75 #[.int .i64 x.kind, .int .u64 x.n, .slice ba x.bytes.length bc, .slice ia x.items.length ic];have V := Hh (ref_Valid hT hxi.arg _ hH1);go_enter Tryz.func31, Tryz.ntmps31
 go_wp2_with fail
 refine V.out.mono ?_
 rintro e w2 ⟨rfl, hb2⟩
 have hB2 := hB1.below hb2;have b0 := hB2.cell 0 rfl;have b1 := hB2.cell 1 rfl;have b2 := hB2.cell 2 rfl;have b3 := hB2.cell 3 rfl;have hH2 := hH1.below hb2 (Nat.le_refl _);have hb := hb1.trans (hb2.mono hb1.size)
 cases hv : validP x with
 | false =>
  have hv' := Hh hv;clear hv;go_wp2_with fail
  go_ret2
  exact .inl ⟨hv'.out, rfl, hb⟩
 | true =>
  have hg := (validP_iff x).1 hv;have A := Hh (ref_Raw x H _ _ ba _ bc ia _ ic w2 0 hg.1 (by omega) hxi.arg hH2);have hv' := Hh hv;clear hv hg;go_wp2_with fail
  refine A.out.mono ?_
  rintro e w3 ⟨r, rfl, hf⟩
  go_wp2_with fail
  go_ret2
  exact .inr ⟨hv'.out, _, rfl, hf.step hb⟩
theorem ref_Int (n : Int) (h1 : -9223372036854775808 ≤ n) (h2 : n ≤ 9223372036854775807) {H : Snap} (w : World) (hH : Holds w H) :
  Calls Tryz.prog 40 #[.int .i64 n] w fun e w' => ∃ v, e = .returned v ∧ Gives w H (intP n) v w' := by
 by_cases h0 : n < 0
 ·have E : Hid (intP n = .mk 1 (-1 - n).toNat [] [] ∧ (-1 - n).toNat < 18446744073709551616 ∧ -1 - n = ((-1 - n).toNat : Int)) := ⟨by rw [intP, if_pos h0], by omega, by omega⟩
  have K1 : IntKind.u64.wrap (-1 - n) = -1 - n := by rw [IntKind.wrap_u64]; omega
  have K0 : IntKind.i64.wrap (-1 - n) = -1 - n := IntWalk.i64_in _ (by omega);clear h1 h2;go_enter Tryz.func40, Tryz.ntmps40
  go_wp2_with fail
  refine ret_row rfl rfl (Blk.new _ _ _) rfl rfl size_item rfl ?_
  rw [E.out.1]
  exact ⟨_, rfl, Gives.plain hH (below_box _ _) (by omega) E.out.2.1 E.out.2.2⟩
 ·have E : Hid (intP n = .mk 0 n.toNat [] [] ∧ n.toNat < 18446744073709551616 ∧ n = (n.toNat : Int)) := ⟨by rw [intP, if_neg h0], by omega, by omega⟩
  have K1 : IntKind.u64.wrap n = n := by rw [IntKind.wrap_u64]; omega
  have hn := Int.not_lt.1 h0;clear h1 h2 h0;go_enter Tryz.func40, Tryz.ntmps40
  go_wp2_with fail
  refine ret_row rfl rfl (Blk.new _ _ _) rfl rfl size_item rfl ?_
  rw [E.out.1]
  exact ⟨_, rfl, Gives.plain hH (below_box _ _) (by omega) E.out.2.1 E.out.2.2⟩
theorem ref_Bytes {A : Option Addr} {n c : Nat} {l : List UInt8} (hn : n = l.length) (hl : l.length ≤ 1099511627776) {H : Snap} (w : World) (hs : Src w A (l.map byteV)) (hH : Holds w H) :
  Calls Tryz.prog 75 #[.slice A n c] w fun e w' => ∃ v, e = .returned v ∧ Gives w H (.mk 2 0 l []) v w' := by
 have HN := Hh hn;clear hn;have hs1 := hs.alloc zeroO;go_enter Tryz.func75, Tryz.ntmps75
 go_wp2_with (at_builtin; refine stop_in ?_)
 refine wpList_app_bytes rfl (.const (.slice none 0 0)) (.tmp 3) rfl (w.heap.size + 1) (.slice none 0 0) [] rfl (OwnB.nil _ _) A n c l rfl HN.out hs1 (by simp; omega) (by simp) fun v' w1 hO hg _ => ?_
 have hf : Fresh (w.alloc zeroO) l v' w1 := ⟨by have := hO.more (base' := (w.alloc zeroO).heap.size) (by simp); simpa [OwnB] using this, grown_none (by simpa [Value.ownBlock] using hg)⟩
 have hB := (Blk.new w 75 #[.int .i64 0, .int .u64 0, .slice none 0 0, .slice none 0 0]).below hf.2;have HF := Hh (hf.gives (k := 2) (hH.alloc zeroO) (by omega));obtain ⟨A', c', rfl, _⟩ := hf.own.form;clear hO hg hf;go_wp2_with (with_reducible refine stop_store ?_)
 refine stI hB fun w2 hB2 hG2 => ?_
 go_wp2_with fail
 refine ret_row rfl rfl hB2 rfl rfl size_item rfl ?_
 exact ⟨_, rfl, HF.out.own (below_box _ _) hH hG2 (Nat.le_refl _) (by simp)⟩
theorem ref_Text (s : ByteArray) (hl : s.size ≤ 1099511627776) {H : Snap} (w : World) (hH : Holds w H) :
  Calls Tryz.prog 41 #[.string s] w fun e w' => ∃ v, e = .returned v ∧ Gives w H (.mk 3 0 s.data.toList []) v w' := by
 obtain ⟨g, c, w1, hr, hb, H', hG, hi⟩ := conv_string (hH.alloc zeroO) s hl;have hB := (Blk.new w 75 #[.int .i64 0, .int .u64 0, .slice none 0 0, .slice none 0 0]).below hb
 have HI : Gives (w.alloc zeroO) H (.mk 3 0 s.data.toList []) (.agg #[.int .i64 3, .int .u64 0, .slice (some ⟨g, 0, none⟩) s.size c, .slice none 0 0]) w1 := by
  refine ⟨some ⟨g, 0, none⟩, c, none, 0, H', by simp [itemV, Itm.kind, Itm.n, Itm.bytes, Itm.items], hG, ?_⟩
  rw [IsItem]
  exact ⟨⟨by omega, by omega, by omega, Nat.le_refl _, by omega⟩, hi, fun h => absurd h (by simp)⟩
 have HII := Hh HI;clear hb hi HI;go_enter Tryz.func41, Tryz.ntmps41
 go_wp2_with (with_reducible refine stop_store ?_)
 refine stI hB fun w2 hB2 hG2 => ?_
 go_wp2_with fail
 refine ret_row rfl rfl hB2 rfl rfl size_item rfl ?_
 exact ⟨_, rfl, HII.out.own (below_box _ _) hH hG2 (Nat.le_refl _) (by simp)⟩
theorem cmp_zero : ∀ a b : List UInt8, Lib.compareBytes a b = 0 ↔ a = b
 | [], [] => by rw [Lib.compareBytes]; simp
 | [], y :: b => by rw [Lib.compareBytes]; simp
 | x :: a, [] => by rw [Lib.compareBytes]; simp
 | x :: a, y :: b => by
  rw [Lib.compareBytes]
  by_cases h1 : x < y
  ·rw [if_pos h1];have : x ≠ y := by rintro rfl; exact UInt8.lt_irrefl x h1
   simp [this]
  ·rw [if_neg h1]
   by_cases h2 : y < x
   ·rw [if_pos h2];have : x ≠ y := by rintro rfl; exact UInt8.lt_irrefl x h2
    simp [this]
   ·rw [if_neg h2];have e : x = y := UInt8.toNat_inj.1 (by rw [UInt8.lt_iff_toNat_lt] at h1 h2; omega);subst e
    simp [cmp_zero a b]
theorem ref_Equal (w : World) (A B : Option Addr) (a b : List UInt8) (n m c d : Nat) (hn : n = a.length) (hm : m = b.length) (hna : n ≤ 1099511627776) (hmb : m ≤ 1099511627776) (ha : Src w A (a.map byteV)) (hb : Src w B (b.map byteV)) :
  Calls Tryz.prog 15 #[.slice A n c, .slice B m d] w fun e w' => e = .returned (.bool (decide (a = b))) ∧ Below w.heap.size w w' := by
 have CM := Hh (ref_Compare w A B a b n m c d hn hm hna hmb ha hb)
 by_cases hab : a = b
 ·have D : Hid (decide (a = b) = true) := decide_eq_true hab;have hz : Lib.compareBytes a b = 0 := (cmp_zero a b).2 hab;have hnm : n = m := by rw [hn, hm, hab]
  rw [hz] at CM;clear hz hab ha hb hn hm hna hmb;subst hnm;go_enter Tryz.func15, Tryz.ntmps15
  go_wp2_with fail
  refine CM.out.mono ?_
  rintro e w1 ⟨rfl, hb1⟩
  go_wp2_with fail
  go_ret
  exact ⟨by rw [D.out]; try rfl, hb1⟩
 ·have D : Hid (decide (a = b) = false) := decide_eq_false hab;have hz : Lib.compareBytes a b ≠ 0 := fun h => hab ((cmp_zero a b).1 h)
  obtain ⟨q, hq⟩ : ∃ q, Lib.compareBytes a b = q := ⟨_, rfl⟩
  rw [hq] at CM hz;have z0 : (q == 0) = false := by simpa using hz
  have z1 : (q = 0) = False := eq_false hz;clear hz hq hab ha hb hn hm hna hmb;go_enter Tryz.func15, Tryz.ntmps15
  go_wp2_with fail
  refine CM.out.mono ?_
  rintro e w1 ⟨rfl, hb1⟩
  go_wp2_with fail
  go_ret
  exact ⟨by rw [D.out]; try rfl, hb1⟩
theorem src_sub {w : World} {b off n : Nat} {l : List UInt8} (h : ∀ j (hj : j < l.length), w.cell? ⟨b, off + j, none⟩ = some (byteV l[j])) (k : Nat) (B : Option Addr) (hB : n ≠ 0 → B = some ⟨b, off + k, none⟩) (hk : k + n ≤ l.length) : Src w B (((l.drop k).take n).map byteV) := fun hne => by
 have h0 : n ≠ 0 := by
  intro h0
  subst h0
  simp at hne
 refine ⟨b, off + k, hB h0, fun j v hj => ?_⟩
 rw [List.getElem?_map] at hj;obtain ⟨u, hu, rfl⟩ := Option.map_eq_some_iff.1 hj;rw [List.getElem?_take] at hu
 split at hu
 ·rename_i hjn
  rw [List.getElem?_drop] at hu;obtain ⟨h1, h2⟩ := List.getElem?_eq_some_iff.1 hu;rw [Nat.add_assoc, h (k + j) h1, h2]
 ·cases hu
end Go.Proofs.YtgaoknihklmakaaGreatDoor
