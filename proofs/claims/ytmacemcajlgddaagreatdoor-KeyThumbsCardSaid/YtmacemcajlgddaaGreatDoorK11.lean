/- squeezed. Walks: the references' left: array -/
import Derived.Test.YtmacemcajlgddaaGreatDoorK10
set_option linter.unusedVariables false
set_option linter.unusedSimpArgs false
set_option maxRecDepth 100000
set_option maxHeartbeats 6400000
namespace Go.Proofs.YtmacemcajlgddaaGreatDoor
open Go.RowKit
theorem left_k4 (x : Itm) (hk : x.kind = 4) {H : Snap} (hT : Tabs H) (ih : ∀ y : Itm, cnt y < cnt x → LeftSaid y) {ba : Option Addr} {bc : Nat} {ia : Option Addr} {ic : Nat} (hx : IsItem H ba bc ia ic x) (w : World) (hH : Holds w H) (c d : Nat) (hc0 : 0 < c) (hc : c ≤ 65536) (hd : d ≤ 65536) :
  Calls Tryz.prog 77 #[itemV x ba bc ia ic, .int .i64 c, .int .i64 d] w fun e w' => e = .returned (.int .i64 (leftI (leftP x c d))) ∧ Below w.heap.size w w' := by
 have HX := Hh hx;have hbd := hx.bounds;have hB := Blk.new w 54 #[.int .i64 x.kind, .int .u64 x.n, .slice ba x.bytes.length bc, .slice ia x.items.length ic];have hb0 := below_box w (itemO x ba bc ia ic);have hc1 : ((c - 1 : Nat) : Int) = (c : Int) - 1 := by omega
 have hbl : x.bytes.length ≤ 9223372036854775807 := by omega
 have hil : x.items.length ≤ 9223372036854775807 := by omega
 have HN := Hh hbd.2.2.1;have hci : ¬ (c : Int) < 1 := by omega
 have k0 : ¬ x.kind < 0 := by omega
 have k8 : ¬ 8 < x.kind := by omega
 have HK := Hh hk;have HC1 := Hh hc1;clear hx hbd hc1;obtain ⟨b0, b1, b2, b3, b4, b5, b6, b7, b8⟩ := kinds4 hk;clear hk
 by_cases hn0 : x.n = 0
 ·have bn00 : ((x.n : Int) != 0) = false := by simp [hn0]
  have bn01 : (x.n = 0) = True := by first | exact eq_true hn0 | exact eq_false hn0
  have HN0 := Hh hn0;clear hn0
  by_cases hpos : 0 < x.items.length
  ·have bpos0 : (0 : Int) < x.items.length := by omega
   have HPOS := Hh hpos;clear hpos;go_enter Tryz.func77, Tryz.ntmps77
   go_upto_region 22 with fail
   any_goals
    (have hbad : nodeR x d (c - 1) = false := by
      cases hq : nodeR x d (c - 1) with
      | false => rfl
      | true => exact absurd ((nodeR_456 (by have := HK.out; omega)).1 hq) (by have hn0 := HN0.out; have hpos := HPOS.out; have hk := HK.out; omega)
     go_ret
     exact ⟨by rw [left_none hbad]; rfl, hb0⟩)
   all_goals
    have HG : Hid (nodeR x d (c - 1) = true) := (nodeR_456 (by have := HK.out; omega)).2 ⟨by omega, by omega, fun h => by have := HK.out; omega, fun _ => HN0.out, fun h => by have := HK.out; omega, by omega⟩;have c0 := hB.cell 0 rfl;have c3 := hB.cell 3 rfl;go_wp2_with fail
    have hB0 := hB;have hbz := hb0;go_loopw [1, 157] (fun v1 v157 wr => ∃ (j r : Nat), j ≤ x.items.length ∧ r ≤ c ∧ v157 = .int .i64 j ∧ v1 = .int .i64 r ∧ leftL (x.items.drop j) r (d + 1) = leftL x.items (c - 1) (d + 1) ∧ Below w.heap.size w wr ∧ Blk wr w.heap.size 54 #[.int .i64 x.kind, .int .u64 x.n, .slice ba x.bytes.length bc, .slice ia x.items.length ic]) (fun _ v157 _ => x.items.length - (intOf v157).toNat)
    case atStart => exact ⟨0, c - 1, Nat.zero_le _, by omega, rfl, by rw [HC1.out], rfl, hbz, hB0⟩
    case round =>
     obtain ⟨j, r, hj, hrc, rfl, rfl, hlr, hbr, hBr⟩ := hrel;have HLR := Hh hlr;clear hlr
     by_cases hlt : j < x.items.length
     ·have hHr : Holds wr H := hH.below hbr (Nat.le_refl _);obtain ⟨ib, io, hia, hel⟩ := HX.out.items (by omega);obtain ⟨eba, ebc, eia, eic, q0, q1, q2, q3, hex⟩ := hel.get j hlt;subst hia;have p0 := hHr.cell q0;have p1 := hHr.cell q1;have p2 := hHr.cell q2;have p3 := hHr.cell q3;have hstep : leftL (x.items.drop j) r (d + 1) = match leftP x.items[j] r (d + 1) with | none => none | some r' => leftL (x.items.drop (j + 1)) r' (d + 1) := by rw [List.drop_eq_getElem_cons hlt, leftL]; cases leftP x.items[j] r (d + 1) <;> rfl
      have hst := Hh (hstep.symm.trans HLR.out);clear hstep;have IHC := ih x.items[j] (cnt_items x j hlt) H hT _ _ eba _ ebc eia _ eic (wr.alloc (itemO x.items[j] eba ebc eia eic)) r (d + 1) hex.arg (hHr.alloc _) (by omega) (by omega);rw [show ((d + 1 : Nat) : Int) = (d : Int) + 1 by omega] at IHC;have IHH := Hh IHC;have hbr5 := hbr.alloc hbr.size (itemO x.items[j] eba ebc eia eic);have hB5 := hBr.alloc (itemO x.items[j] eba ebc eia eic);clear IHC q0 q1 q2 q3
      cases hq : leftP x.items[j] r (d + 1) with
      | none =>
       rw [hq] at IHH hst;have E : Hid (leftP x c d = none) := by rw [Hid, leftP_eq, if_neg (by omega), if_neg (by simp [HG.out]), ← hst.out]
       clear hq hst;go_wp2_with fail
       refine IHH.out.mono ?_
       rintro e w6 ⟨rfl, hb6⟩
       have hb7 := hbr5.trans (hb6.mono hbr5.size)
       simp only [leftI]
       go_wp2_with fail
       go_ret
       exact ⟨by rw [E.out]; rfl, hb7⟩
      | some r' =>
       rw [hq] at IHH hst;have hrr := (left_spec _ _ _ _ hq).2.2;have hst' : Hid (leftL (x.items.drop (j + 1)) r' (d + 1) = leftL x.items (c - 1) (d + 1)) := hst.out;clear hq hst;have hr0 : (0 : Int) ≤ (r' : Int) := by omega
       have hrc' : r' ≤ c := by omega
       go_wp2_with fail
       refine IHH.out.mono ?_
       rintro e w6 ⟨rfl, hb6⟩
       have hb7 := hbr5.trans (hb6.mono hbr5.size);have hB7 := hB5.below hb6
       simp only [leftI]
       clear hbr hBr hbr5 hB5 hb6 IHH p0 p1 p2 p3 hrr hHr;go_wp2_with fail
       go_roundw
       case rel => exact ⟨j + 1, r', by omega, hrc', by go_num, rfl, hst'.out, hb7, hB7⟩
       case measure => simp [intOf]; omega
     ·have hjl : j = x.items.length := by omega
      subst hjl;have hall : leftL x.items (c - 1) (d + 1) = some r := by rw [← HLR.out, List.drop_length, leftL]
      have HALL := Hh hall;clear hall HLR
      have E : Hid (leftP x c d = some r) := by
       rw [Hid, leftP_eq, if_neg (by omega), if_neg (by simp [HG.out]), HALL.out]
       simp only
       rw [if_neg (by rintro ⟨h5, _⟩; rw [h5] at b5; cases b5)]
      have c0 := hBr.cell 0 rfl;go_wp2_with fail
      refine wp_loop_rounds 1 ?_
      rw [rounds_succ];go_wp2_with fail
      go_ret
      exact ⟨by rw [E.out]; rfl, hbr⟩
  ·have bpos0 : ¬ (0 : Int) < x.items.length := by omega
   have HPOS := Hh hpos;clear hpos;go_enter Tryz.func77, Tryz.ntmps77
   go_upto_region 22 with fail
   any_goals
    (have hbad : nodeR x d (c - 1) = false := by
      cases hq : nodeR x d (c - 1) with
      | false => rfl
      | true => exact absurd ((nodeR_456 (by have := HK.out; omega)).1 hq) (by have hn0 := HN0.out; have hpos := HPOS.out; have hk := HK.out; omega)
     go_ret
     exact ⟨by rw [left_none hbad]; rfl, hb0⟩)
   all_goals
    have hgood : nodeR x d (c - 1) = true := (nodeR_456 (by have := HK.out; omega)).2 ⟨by omega, by omega, fun h => by have := HK.out; omega, fun _ => HN0.out, fun h => by have := HK.out; omega, by omega⟩;have hi0 : x.items.length = 0 := by have hn0 := HN0.out; have hpos := HPOS.out; have hk := HK.out; omega
    have hk := HK.out;have E : Hid (leftP x c d = some (c - 1)) := left_flat hc0 hgood hi0;have hli : ¬ (0 : Int) < x.items.length := by omega
    have hl2 : ¬ (2 : Int) < x.items.length := by omega
    have HI := Hh hi0;have HC := Hh hgood;clear hi0 hk hgood;have c0 := hB.cell 0 rfl;have c3 := hB.cell 3 rfl;go_wp2_with fail
    refine wp_loop_rounds 1 ?_
    rw [rounds_succ];go_wp2_with fail
    refine wp_loop_rounds 1 ?_
    rw [rounds_succ];go_wp2_with fail
    go_ret
    exact ⟨by rw [E.out, ← HC1.out]; rfl, hb0⟩
 ·have bn00 : ((x.n : Int) != 0) = true := by simp [hn0]
  have bn01 : (x.n = 0) = False := by first | exact eq_true hn0 | exact eq_false hn0
  have HN0 := Hh hn0;clear hn0
  by_cases hpos : 0 < x.items.length
  ·have bpos0 : (0 : Int) < x.items.length := by omega
   have HPOS := Hh hpos;clear hpos;go_enter Tryz.func77, Tryz.ntmps77
   go_upto_region 22 with fail
   any_goals
    (have hbad : nodeR x d (c - 1) = false := by
      cases hq : nodeR x d (c - 1) with
      | false => rfl
      | true => exact absurd ((nodeR_456 (by have := HK.out; omega)).1 hq) (by have hn0 := HN0.out; have hpos := HPOS.out; have hk := HK.out; omega)
     go_ret
     exact ⟨by rw [left_none hbad]; rfl, hb0⟩)
   all_goals
    have HG : Hid (nodeR x d (c - 1) = true) := (nodeR_456 (by have := HK.out; omega)).2 ⟨by omega, by omega, fun h => by have := HK.out; omega, fun _ => HN0.out, fun h => by have := HK.out; omega, by omega⟩;have c0 := hB.cell 0 rfl;have c3 := hB.cell 3 rfl;go_wp2_with fail
    have hB0 := hB;have hbz := hb0;go_loopw [1, 157] (fun v1 v157 wr => ∃ (j r : Nat), j ≤ x.items.length ∧ r ≤ c ∧ v157 = .int .i64 j ∧ v1 = .int .i64 r ∧ leftL (x.items.drop j) r (d + 1) = leftL x.items (c - 1) (d + 1) ∧ Below w.heap.size w wr ∧ Blk wr w.heap.size 54 #[.int .i64 x.kind, .int .u64 x.n, .slice ba x.bytes.length bc, .slice ia x.items.length ic]) (fun _ v157 _ => x.items.length - (intOf v157).toNat)
    case atStart => exact ⟨0, c - 1, Nat.zero_le _, by omega, rfl, by rw [HC1.out], rfl, hbz, hB0⟩
    case round =>
     obtain ⟨j, r, hj, hrc, rfl, rfl, hlr, hbr, hBr⟩ := hrel;have HLR := Hh hlr;clear hlr
     by_cases hlt : j < x.items.length
     ·have hHr : Holds wr H := hH.below hbr (Nat.le_refl _);obtain ⟨ib, io, hia, hel⟩ := HX.out.items (by omega);obtain ⟨eba, ebc, eia, eic, q0, q1, q2, q3, hex⟩ := hel.get j hlt;subst hia;have p0 := hHr.cell q0;have p1 := hHr.cell q1;have p2 := hHr.cell q2;have p3 := hHr.cell q3;have hstep : leftL (x.items.drop j) r (d + 1) = match leftP x.items[j] r (d + 1) with | none => none | some r' => leftL (x.items.drop (j + 1)) r' (d + 1) := by rw [List.drop_eq_getElem_cons hlt, leftL]; cases leftP x.items[j] r (d + 1) <;> rfl
      have hst := Hh (hstep.symm.trans HLR.out);clear hstep;have IHC := ih x.items[j] (cnt_items x j hlt) H hT _ _ eba _ ebc eia _ eic (wr.alloc (itemO x.items[j] eba ebc eia eic)) r (d + 1) hex.arg (hHr.alloc _) (by omega) (by omega);rw [show ((d + 1 : Nat) : Int) = (d : Int) + 1 by omega] at IHC;have IHH := Hh IHC;have hbr5 := hbr.alloc hbr.size (itemO x.items[j] eba ebc eia eic);have hB5 := hBr.alloc (itemO x.items[j] eba ebc eia eic);clear IHC q0 q1 q2 q3
      cases hq : leftP x.items[j] r (d + 1) with
      | none =>
       rw [hq] at IHH hst;have E : Hid (leftP x c d = none) := by rw [Hid, leftP_eq, if_neg (by omega), if_neg (by simp [HG.out]), ← hst.out]
       clear hq hst;go_wp2_with fail
       refine IHH.out.mono ?_
       rintro e w6 ⟨rfl, hb6⟩
       have hb7 := hbr5.trans (hb6.mono hbr5.size)
       simp only [leftI]
       go_wp2_with fail
       go_ret
       exact ⟨by rw [E.out]; rfl, hb7⟩
      | some r' =>
       rw [hq] at IHH hst;have hrr := (left_spec _ _ _ _ hq).2.2;have hst' : Hid (leftL (x.items.drop (j + 1)) r' (d + 1) = leftL x.items (c - 1) (d + 1)) := hst.out;clear hq hst;have hr0 : (0 : Int) ≤ (r' : Int) := by omega
       have hrc' : r' ≤ c := by omega
       go_wp2_with fail
       refine IHH.out.mono ?_
       rintro e w6 ⟨rfl, hb6⟩
       have hb7 := hbr5.trans (hb6.mono hbr5.size);have hB7 := hB5.below hb6
       simp only [leftI]
       clear hbr hBr hbr5 hB5 hb6 IHH p0 p1 p2 p3 hrr hHr;go_wp2_with fail
       go_roundw
       case rel => exact ⟨j + 1, r', by omega, hrc', by go_num, rfl, hst'.out, hb7, hB7⟩
       case measure => simp [intOf]; omega
     ·have hjl : j = x.items.length := by omega
      subst hjl;have hall : leftL x.items (c - 1) (d + 1) = some r := by rw [← HLR.out, List.drop_length, leftL]
      have HALL := Hh hall;clear hall HLR
      have E : Hid (leftP x c d = some r) := by
       rw [Hid, leftP_eq, if_neg (by omega), if_neg (by simp [HG.out]), HALL.out]
       simp only
       rw [if_neg (by rintro ⟨h5, _⟩; rw [h5] at b5; cases b5)]
      have c0 := hBr.cell 0 rfl;go_wp2_with fail
      refine wp_loop_rounds 1 ?_
      rw [rounds_succ];go_wp2_with fail
      go_ret
      exact ⟨by rw [E.out]; rfl, hbr⟩
  ·have bpos0 : ¬ (0 : Int) < x.items.length := by omega
   have HPOS := Hh hpos;clear hpos;go_enter Tryz.func77, Tryz.ntmps77
   go_upto_region 22 with fail
   any_goals
    (have hbad : nodeR x d (c - 1) = false := by
      cases hq : nodeR x d (c - 1) with
      | false => rfl
      | true => exact absurd ((nodeR_456 (by have := HK.out; omega)).1 hq) (by have hn0 := HN0.out; have hpos := HPOS.out; have hk := HK.out; omega)
     go_ret
     exact ⟨by rw [left_none hbad]; rfl, hb0⟩)
   all_goals
    have hgood : nodeR x d (c - 1) = true := (nodeR_456 (by have := HK.out; omega)).2 ⟨by omega, by omega, fun h => by have := HK.out; omega, fun _ => HN0.out, fun h => by have := HK.out; omega, by omega⟩;have hi0 : x.items.length = 0 := by have hn0 := HN0.out; have hpos := HPOS.out; have hk := HK.out; omega
    have hk := HK.out;have E : Hid (leftP x c d = some (c - 1)) := left_flat hc0 hgood hi0;have hli : ¬ (0 : Int) < x.items.length := by omega
    have hl2 : ¬ (2 : Int) < x.items.length := by omega
    have HI := Hh hi0;have HC := Hh hgood;clear hi0 hk hgood;have c0 := hB.cell 0 rfl;have c3 := hB.cell 3 rfl;go_wp2_with fail
    refine wp_loop_rounds 1 ?_
    rw [rounds_succ];go_wp2_with fail
    refine wp_loop_rounds 1 ?_
    rw [rounds_succ];go_wp2_with fail
    go_ret
    exact ⟨by rw [E.out, ← HC1.out]; rfl, hb0⟩
theorem left_k6 (x : Itm) (hk : x.kind = 6) {H : Snap} (hT : Tabs H) (ih : ∀ y : Itm, cnt y < cnt x → LeftSaid y) {ba : Option Addr} {bc : Nat} {ia : Option Addr} {ic : Nat} (hx : IsItem H ba bc ia ic x) (w : World) (hH : Holds w H) (c d : Nat) (hc0 : 0 < c) (hc : c ≤ 65536) (hd : d ≤ 65536) :
  Calls Tryz.prog 77 #[itemV x ba bc ia ic, .int .i64 c, .int .i64 d] w fun e w' => e = .returned (.int .i64 (leftI (leftP x c d))) ∧ Below w.heap.size w w' := by
 have HX := Hh hx;have hbd := hx.bounds;have hB := Blk.new w 54 #[.int .i64 x.kind, .int .u64 x.n, .slice ba x.bytes.length bc, .slice ia x.items.length ic];have hb0 := below_box w (itemO x ba bc ia ic);have hc1 : ((c - 1 : Nat) : Int) = (c : Int) - 1 := by omega
 have hbl : x.bytes.length ≤ 9223372036854775807 := by omega
 have hil : x.items.length ≤ 9223372036854775807 := by omega
 have HN := Hh hbd.2.2.1;have hci : ¬ (c : Int) < 1 := by omega
 have k0 : ¬ x.kind < 0 := by omega
 have k8 : ¬ 8 < x.kind := by omega
 have HK := Hh hk;have HC1 := Hh hc1;clear hx hbd hc1;obtain ⟨b0, b1, b2, b3, b4, b5, b6, b7, b8⟩ := kinds6 hk;clear hk
 by_cases hn0 : x.n = 0
 ·have bn00 : ((x.n : Int) != 0) = false := by simp [hn0]
  have bn01 : (x.n = 0) = True := by first | exact eq_true hn0 | exact eq_false hn0
  have HN0 := Hh hn0;clear hn0
  by_cases hone : x.items.length = 1
  ·have bone0 : ((x.items.length : Int) != 1) = false := by (first | (rw [bne_eq_false_iff_eq]; omega) | (rw [bne_iff_ne]; omega))
   have HONE := Hh hone;clear hone
   by_cases hpos : 0 < x.items.length
   ·have bpos0 : (0 : Int) < x.items.length := by omega
    have HPOS := Hh hpos;clear hpos;go_enter Tryz.func77, Tryz.ntmps77
    go_upto_region 22 with fail
    any_goals
     (have hbad : nodeR x d (c - 1) = false := by
       cases hq : nodeR x d (c - 1) with
       | false => rfl
       | true => exact absurd ((nodeR_456 (by have := HK.out; omega)).1 hq) (by have hn0 := HN0.out; have hone := HONE.out; have hpos := HPOS.out; have hk := HK.out; omega)
      go_ret
      exact ⟨by rw [left_none hbad]; rfl, hb0⟩)
    all_goals
     have HG : Hid (nodeR x d (c - 1) = true) := (nodeR_456 (by have := HK.out; omega)).2 ⟨by omega, by omega, fun h => HONE.out, fun h => by have := HK.out; omega, fun h => by have := HK.out; omega, by omega⟩;have c0 := hB.cell 0 rfl;have c3 := hB.cell 3 rfl;go_wp2_with fail
     have hB0 := hB;have hbz := hb0;go_loopw [1, 157] (fun v1 v157 wr => ∃ (j r : Nat), j ≤ x.items.length ∧ r ≤ c ∧ v157 = .int .i64 j ∧ v1 = .int .i64 r ∧ leftL (x.items.drop j) r (d + 1) = leftL x.items (c - 1) (d + 1) ∧ Below w.heap.size w wr ∧ Blk wr w.heap.size 54 #[.int .i64 x.kind, .int .u64 x.n, .slice ba x.bytes.length bc, .slice ia x.items.length ic]) (fun _ v157 _ => x.items.length - (intOf v157).toNat)
     case atStart => exact ⟨0, c - 1, Nat.zero_le _, by omega, rfl, by rw [HC1.out], rfl, hbz, hB0⟩
     case round =>
      obtain ⟨j, r, hj, hrc, rfl, rfl, hlr, hbr, hBr⟩ := hrel;have HLR := Hh hlr;clear hlr
      by_cases hlt : j < x.items.length
      ·have hHr : Holds wr H := hH.below hbr (Nat.le_refl _);obtain ⟨ib, io, hia, hel⟩ := HX.out.items (by omega);obtain ⟨eba, ebc, eia, eic, q0, q1, q2, q3, hex⟩ := hel.get j hlt;subst hia;have p0 := hHr.cell q0;have p1 := hHr.cell q1;have p2 := hHr.cell q2;have p3 := hHr.cell q3;have hstep : leftL (x.items.drop j) r (d + 1) = match leftP x.items[j] r (d + 1) with | none => none | some r' => leftL (x.items.drop (j + 1)) r' (d + 1) := by rw [List.drop_eq_getElem_cons hlt, leftL]; cases leftP x.items[j] r (d + 1) <;> rfl
       have hst := Hh (hstep.symm.trans HLR.out);clear hstep;have IHC := ih x.items[j] (cnt_items x j hlt) H hT _ _ eba _ ebc eia _ eic (wr.alloc (itemO x.items[j] eba ebc eia eic)) r (d + 1) hex.arg (hHr.alloc _) (by omega) (by omega);rw [show ((d + 1 : Nat) : Int) = (d : Int) + 1 by omega] at IHC;have IHH := Hh IHC;have hbr5 := hbr.alloc hbr.size (itemO x.items[j] eba ebc eia eic);have hB5 := hBr.alloc (itemO x.items[j] eba ebc eia eic);clear IHC q0 q1 q2 q3
       cases hq : leftP x.items[j] r (d + 1) with
       | none =>
        rw [hq] at IHH hst;have E : Hid (leftP x c d = none) := by rw [Hid, leftP_eq, if_neg (by omega), if_neg (by simp [HG.out]), ← hst.out]
        clear hq hst;go_wp2_with fail
        refine IHH.out.mono ?_
        rintro e w6 ⟨rfl, hb6⟩
        have hb7 := hbr5.trans (hb6.mono hbr5.size)
        simp only [leftI]
        go_wp2_with fail
        go_ret
        exact ⟨by rw [E.out]; rfl, hb7⟩
       | some r' =>
        rw [hq] at IHH hst;have hrr := (left_spec _ _ _ _ hq).2.2;have hst' : Hid (leftL (x.items.drop (j + 1)) r' (d + 1) = leftL x.items (c - 1) (d + 1)) := hst.out;clear hq hst;have hr0 : (0 : Int) ≤ (r' : Int) := by omega
        have hrc' : r' ≤ c := by omega
        go_wp2_with fail
        refine IHH.out.mono ?_
        rintro e w6 ⟨rfl, hb6⟩
        have hb7 := hbr5.trans (hb6.mono hbr5.size);have hB7 := hB5.below hb6
        simp only [leftI]
        clear hbr hBr hbr5 hB5 hb6 IHH p0 p1 p2 p3 hrr hHr;go_wp2_with fail
        go_roundw
        case rel => exact ⟨j + 1, r', by omega, hrc', by go_num, rfl, hst'.out, hb7, hB7⟩
        case measure => simp [intOf]; omega
      ·have hjl : j = x.items.length := by omega
       subst hjl;have hall : leftL x.items (c - 1) (d + 1) = some r := by rw [← HLR.out, List.drop_length, leftL]
       have HALL := Hh hall;clear hall HLR
       have E : Hid (leftP x c d = some r) := by
        rw [Hid, leftP_eq, if_neg (by omega), if_neg (by simp [HG.out]), HALL.out]
        simp only
        rw [if_neg (by rintro ⟨h5, _⟩; rw [h5] at b5; cases b5)]
       have c0 := hBr.cell 0 rfl;go_wp2_with fail
       refine wp_loop_rounds 1 ?_
       rw [rounds_succ];go_wp2_with fail
       go_ret
       exact ⟨by rw [E.out]; rfl, hbr⟩
   ·have bpos0 : ¬ (0 : Int) < x.items.length := by omega
    have HPOS := Hh hpos;clear hpos;go_enter Tryz.func77, Tryz.ntmps77
    go_upto_region 22 with fail
    any_goals
     (have hbad : nodeR x d (c - 1) = false := by
       cases hq : nodeR x d (c - 1) with
       | false => rfl
       | true => exact absurd ((nodeR_456 (by have := HK.out; omega)).1 hq) (by have hn0 := HN0.out; have hone := HONE.out; have hpos := HPOS.out; have hk := HK.out; omega)
      go_ret
      exact ⟨by rw [left_none hbad]; rfl, hb0⟩)
    all_goals
     have hgood : nodeR x d (c - 1) = true := (nodeR_456 (by have := HK.out; omega)).2 ⟨by omega, by omega, fun h => HONE.out, fun h => by have := HK.out; omega, fun h => by have := HK.out; omega, by omega⟩;have hi0 : x.items.length = 0 := by have hn0 := HN0.out; have hone := HONE.out; have hpos := HPOS.out; have hk := HK.out; omega
     have hk := HK.out;have E : Hid (leftP x c d = some (c - 1)) := left_flat hc0 hgood hi0;have hli : ¬ (0 : Int) < x.items.length := by omega
     have hl2 : ¬ (2 : Int) < x.items.length := by omega
     have HI := Hh hi0;have HC := Hh hgood;clear hi0 hk hgood;have c0 := hB.cell 0 rfl;have c3 := hB.cell 3 rfl;go_wp2_with fail
     refine wp_loop_rounds 1 ?_
     rw [rounds_succ];go_wp2_with fail
     refine wp_loop_rounds 1 ?_
     rw [rounds_succ];go_wp2_with fail
     go_ret
     exact ⟨by rw [E.out, ← HC1.out]; rfl, hb0⟩
  ·have bone0 : ((x.items.length : Int) != 1) = true := by (first | (rw [bne_eq_false_iff_eq]; omega) | (rw [bne_iff_ne]; omega))
   have HONE := Hh hone;clear hone
   by_cases hpos : 0 < x.items.length
   ·have bpos0 : (0 : Int) < x.items.length := by omega
    have HPOS := Hh hpos;clear hpos;go_enter Tryz.func77, Tryz.ntmps77
    go_upto_region 22 with fail
    any_goals
     (have hbad : nodeR x d (c - 1) = false := by
       cases hq : nodeR x d (c - 1) with
       | false => rfl
       | true => exact absurd ((nodeR_456 (by have := HK.out; omega)).1 hq) (by have hn0 := HN0.out; have hone := HONE.out; have hpos := HPOS.out; have hk := HK.out; omega)
      go_ret
      exact ⟨by rw [left_none hbad]; rfl, hb0⟩)
    all_goals
     have HG : Hid (nodeR x d (c - 1) = true) := (nodeR_456 (by have := HK.out; omega)).2 ⟨by omega, by omega, fun h => HONE.out, fun h => by have := HK.out; omega, fun h => by have := HK.out; omega, by omega⟩;have c0 := hB.cell 0 rfl;have c3 := hB.cell 3 rfl;go_wp2_with fail
     have hB0 := hB;have hbz := hb0;go_loopw [1, 157] (fun v1 v157 wr => ∃ (j r : Nat), j ≤ x.items.length ∧ r ≤ c ∧ v157 = .int .i64 j ∧ v1 = .int .i64 r ∧ leftL (x.items.drop j) r (d + 1) = leftL x.items (c - 1) (d + 1) ∧ Below w.heap.size w wr ∧ Blk wr w.heap.size 54 #[.int .i64 x.kind, .int .u64 x.n, .slice ba x.bytes.length bc, .slice ia x.items.length ic]) (fun _ v157 _ => x.items.length - (intOf v157).toNat)
     case atStart => exact ⟨0, c - 1, Nat.zero_le _, by omega, rfl, by rw [HC1.out], rfl, hbz, hB0⟩
     case round =>
      obtain ⟨j, r, hj, hrc, rfl, rfl, hlr, hbr, hBr⟩ := hrel;have HLR := Hh hlr;clear hlr
      by_cases hlt : j < x.items.length
      ·have hHr : Holds wr H := hH.below hbr (Nat.le_refl _);obtain ⟨ib, io, hia, hel⟩ := HX.out.items (by omega);obtain ⟨eba, ebc, eia, eic, q0, q1, q2, q3, hex⟩ := hel.get j hlt;subst hia;have p0 := hHr.cell q0;have p1 := hHr.cell q1;have p2 := hHr.cell q2;have p3 := hHr.cell q3;have hstep : leftL (x.items.drop j) r (d + 1) = match leftP x.items[j] r (d + 1) with | none => none | some r' => leftL (x.items.drop (j + 1)) r' (d + 1) := by rw [List.drop_eq_getElem_cons hlt, leftL]; cases leftP x.items[j] r (d + 1) <;> rfl
       have hst := Hh (hstep.symm.trans HLR.out);clear hstep;have IHC := ih x.items[j] (cnt_items x j hlt) H hT _ _ eba _ ebc eia _ eic (wr.alloc (itemO x.items[j] eba ebc eia eic)) r (d + 1) hex.arg (hHr.alloc _) (by omega) (by omega);rw [show ((d + 1 : Nat) : Int) = (d : Int) + 1 by omega] at IHC;have IHH := Hh IHC;have hbr5 := hbr.alloc hbr.size (itemO x.items[j] eba ebc eia eic);have hB5 := hBr.alloc (itemO x.items[j] eba ebc eia eic);clear IHC q0 q1 q2 q3
       cases hq : leftP x.items[j] r (d + 1) with
       | none =>
        rw [hq] at IHH hst;have E : Hid (leftP x c d = none) := by rw [Hid, leftP_eq, if_neg (by omega), if_neg (by simp [HG.out]), ← hst.out]
        clear hq hst;go_wp2_with fail
        refine IHH.out.mono ?_
        rintro e w6 ⟨rfl, hb6⟩
        have hb7 := hbr5.trans (hb6.mono hbr5.size)
        simp only [leftI]
        go_wp2_with fail
        go_ret
        exact ⟨by rw [E.out]; rfl, hb7⟩
       | some r' =>
        rw [hq] at IHH hst;have hrr := (left_spec _ _ _ _ hq).2.2;have hst' : Hid (leftL (x.items.drop (j + 1)) r' (d + 1) = leftL x.items (c - 1) (d + 1)) := hst.out;clear hq hst;have hr0 : (0 : Int) ≤ (r' : Int) := by omega
        have hrc' : r' ≤ c := by omega
        go_wp2_with fail
        refine IHH.out.mono ?_
        rintro e w6 ⟨rfl, hb6⟩
        have hb7 := hbr5.trans (hb6.mono hbr5.size);have hB7 := hB5.below hb6
        simp only [leftI]
        clear hbr hBr hbr5 hB5 hb6 IHH p0 p1 p2 p3 hrr hHr;go_wp2_with fail
        go_roundw
        case rel => exact ⟨j + 1, r', by omega, hrc', by go_num, rfl, hst'.out, hb7, hB7⟩
        case measure => simp [intOf]; omega
      ·have hjl : j = x.items.length := by omega
       subst hjl;have hall : leftL x.items (c - 1) (d + 1) = some r := by rw [← HLR.out, List.drop_length, leftL]
       have HALL := Hh hall;clear hall HLR
       have E : Hid (leftP x c d = some r) := by
        rw [Hid, leftP_eq, if_neg (by omega), if_neg (by simp [HG.out]), HALL.out]
        simp only
        rw [if_neg (by rintro ⟨h5, _⟩; rw [h5] at b5; cases b5)]
       have c0 := hBr.cell 0 rfl;go_wp2_with fail
       refine wp_loop_rounds 1 ?_
       rw [rounds_succ];go_wp2_with fail
       go_ret
       exact ⟨by rw [E.out]; rfl, hbr⟩
   ·have bpos0 : ¬ (0 : Int) < x.items.length := by omega
    have HPOS := Hh hpos;clear hpos;go_enter Tryz.func77, Tryz.ntmps77
    go_upto_region 22 with fail
    any_goals
     (have hbad : nodeR x d (c - 1) = false := by
       cases hq : nodeR x d (c - 1) with
       | false => rfl
       | true => exact absurd ((nodeR_456 (by have := HK.out; omega)).1 hq) (by have hn0 := HN0.out; have hone := HONE.out; have hpos := HPOS.out; have hk := HK.out; omega)
      go_ret
      exact ⟨by rw [left_none hbad]; rfl, hb0⟩)
    all_goals
     have hgood : nodeR x d (c - 1) = true := (nodeR_456 (by have := HK.out; omega)).2 ⟨by omega, by omega, fun h => HONE.out, fun h => by have := HK.out; omega, fun h => by have := HK.out; omega, by omega⟩;have hi0 : x.items.length = 0 := by have hn0 := HN0.out; have hone := HONE.out; have hpos := HPOS.out; have hk := HK.out; omega
     have hk := HK.out;have E : Hid (leftP x c d = some (c - 1)) := left_flat hc0 hgood hi0;have hli : ¬ (0 : Int) < x.items.length := by omega
     have hl2 : ¬ (2 : Int) < x.items.length := by omega
     have HI := Hh hi0;have HC := Hh hgood;clear hi0 hk hgood;have c0 := hB.cell 0 rfl;have c3 := hB.cell 3 rfl;go_wp2_with fail
     refine wp_loop_rounds 1 ?_
     rw [rounds_succ];go_wp2_with fail
     refine wp_loop_rounds 1 ?_
     rw [rounds_succ];go_wp2_with fail
     go_ret
     exact ⟨by rw [E.out, ← HC1.out]; rfl, hb0⟩
 ·have bn00 : ((x.n : Int) != 0) = true := by simp [hn0]
  have bn01 : (x.n = 0) = False := by first | exact eq_true hn0 | exact eq_false hn0
  have HN0 := Hh hn0;clear hn0
  by_cases hone : x.items.length = 1
  ·have bone0 : ((x.items.length : Int) != 1) = false := by (first | (rw [bne_eq_false_iff_eq]; omega) | (rw [bne_iff_ne]; omega))
   have HONE := Hh hone;clear hone
   by_cases hpos : 0 < x.items.length
   ·have bpos0 : (0 : Int) < x.items.length := by omega
    have HPOS := Hh hpos;clear hpos;go_enter Tryz.func77, Tryz.ntmps77
    go_upto_region 22 with fail
    any_goals
     (have hbad : nodeR x d (c - 1) = false := by
       cases hq : nodeR x d (c - 1) with
       | false => rfl
       | true => exact absurd ((nodeR_456 (by have := HK.out; omega)).1 hq) (by have hn0 := HN0.out; have hone := HONE.out; have hpos := HPOS.out; have hk := HK.out; omega)
      go_ret
      exact ⟨by rw [left_none hbad]; rfl, hb0⟩)
    all_goals
     have HG : Hid (nodeR x d (c - 1) = true) := (nodeR_456 (by have := HK.out; omega)).2 ⟨by omega, by omega, fun h => HONE.out, fun h => by have := HK.out; omega, fun h => by have := HK.out; omega, by omega⟩;have c0 := hB.cell 0 rfl;have c3 := hB.cell 3 rfl;go_wp2_with fail
     have hB0 := hB;have hbz := hb0;go_loopw [1, 157] (fun v1 v157 wr => ∃ (j r : Nat), j ≤ x.items.length ∧ r ≤ c ∧ v157 = .int .i64 j ∧ v1 = .int .i64 r ∧ leftL (x.items.drop j) r (d + 1) = leftL x.items (c - 1) (d + 1) ∧ Below w.heap.size w wr ∧ Blk wr w.heap.size 54 #[.int .i64 x.kind, .int .u64 x.n, .slice ba x.bytes.length bc, .slice ia x.items.length ic]) (fun _ v157 _ => x.items.length - (intOf v157).toNat)
     case atStart => exact ⟨0, c - 1, Nat.zero_le _, by omega, rfl, by rw [HC1.out], rfl, hbz, hB0⟩
     case round =>
      obtain ⟨j, r, hj, hrc, rfl, rfl, hlr, hbr, hBr⟩ := hrel;have HLR := Hh hlr;clear hlr
      by_cases hlt : j < x.items.length
      ·have hHr : Holds wr H := hH.below hbr (Nat.le_refl _);obtain ⟨ib, io, hia, hel⟩ := HX.out.items (by omega);obtain ⟨eba, ebc, eia, eic, q0, q1, q2, q3, hex⟩ := hel.get j hlt;subst hia;have p0 := hHr.cell q0;have p1 := hHr.cell q1;have p2 := hHr.cell q2;have p3 := hHr.cell q3;have hstep : leftL (x.items.drop j) r (d + 1) = match leftP x.items[j] r (d + 1) with | none => none | some r' => leftL (x.items.drop (j + 1)) r' (d + 1) := by rw [List.drop_eq_getElem_cons hlt, leftL]; cases leftP x.items[j] r (d + 1) <;> rfl
       have hst := Hh (hstep.symm.trans HLR.out);clear hstep;have IHC := ih x.items[j] (cnt_items x j hlt) H hT _ _ eba _ ebc eia _ eic (wr.alloc (itemO x.items[j] eba ebc eia eic)) r (d + 1) hex.arg (hHr.alloc _) (by omega) (by omega);rw [show ((d + 1 : Nat) : Int) = (d : Int) + 1 by omega] at IHC;have IHH := Hh IHC;have hbr5 := hbr.alloc hbr.size (itemO x.items[j] eba ebc eia eic);have hB5 := hBr.alloc (itemO x.items[j] eba ebc eia eic);clear IHC q0 q1 q2 q3
       cases hq : leftP x.items[j] r (d + 1) with
       | none =>
        rw [hq] at IHH hst;have E : Hid (leftP x c d = none) := by rw [Hid, leftP_eq, if_neg (by omega), if_neg (by simp [HG.out]), ← hst.out]
        clear hq hst;go_wp2_with fail
        refine IHH.out.mono ?_
        rintro e w6 ⟨rfl, hb6⟩
        have hb7 := hbr5.trans (hb6.mono hbr5.size)
        simp only [leftI]
        go_wp2_with fail
        go_ret
        exact ⟨by rw [E.out]; rfl, hb7⟩
       | some r' =>
        rw [hq] at IHH hst;have hrr := (left_spec _ _ _ _ hq).2.2;have hst' : Hid (leftL (x.items.drop (j + 1)) r' (d + 1) = leftL x.items (c - 1) (d + 1)) := hst.out;clear hq hst;have hr0 : (0 : Int) ≤ (r' : Int) := by omega
        have hrc' : r' ≤ c := by omega
        go_wp2_with fail
        refine IHH.out.mono ?_
        rintro e w6 ⟨rfl, hb6⟩
        have hb7 := hbr5.trans (hb6.mono hbr5.size);have hB7 := hB5.below hb6
        simp only [leftI]
        clear hbr hBr hbr5 hB5 hb6 IHH p0 p1 p2 p3 hrr hHr;go_wp2_with fail
        go_roundw
        case rel => exact ⟨j + 1, r', by omega, hrc', by go_num, rfl, hst'.out, hb7, hB7⟩
        case measure => simp [intOf]; omega
      ·have hjl : j = x.items.length := by omega
       subst hjl;have hall : leftL x.items (c - 1) (d + 1) = some r := by rw [← HLR.out, List.drop_length, leftL]
       have HALL := Hh hall;clear hall HLR
       have E : Hid (leftP x c d = some r) := by
        rw [Hid, leftP_eq, if_neg (by omega), if_neg (by simp [HG.out]), HALL.out]
        simp only
        rw [if_neg (by rintro ⟨h5, _⟩; rw [h5] at b5; cases b5)]
       have c0 := hBr.cell 0 rfl;go_wp2_with fail
       refine wp_loop_rounds 1 ?_
       rw [rounds_succ];go_wp2_with fail
       go_ret
       exact ⟨by rw [E.out]; rfl, hbr⟩
   ·have bpos0 : ¬ (0 : Int) < x.items.length := by omega
    have HPOS := Hh hpos;clear hpos;go_enter Tryz.func77, Tryz.ntmps77
    go_upto_region 22 with fail
    any_goals
     (have hbad : nodeR x d (c - 1) = false := by
       cases hq : nodeR x d (c - 1) with
       | false => rfl
       | true => exact absurd ((nodeR_456 (by have := HK.out; omega)).1 hq) (by have hn0 := HN0.out; have hone := HONE.out; have hpos := HPOS.out; have hk := HK.out; omega)
      go_ret
      exact ⟨by rw [left_none hbad]; rfl, hb0⟩)
    all_goals
     have hgood : nodeR x d (c - 1) = true := (nodeR_456 (by have := HK.out; omega)).2 ⟨by omega, by omega, fun h => HONE.out, fun h => by have := HK.out; omega, fun h => by have := HK.out; omega, by omega⟩;have hi0 : x.items.length = 0 := by have hn0 := HN0.out; have hone := HONE.out; have hpos := HPOS.out; have hk := HK.out; omega
     have hk := HK.out;have E : Hid (leftP x c d = some (c - 1)) := left_flat hc0 hgood hi0;have hli : ¬ (0 : Int) < x.items.length := by omega
     have hl2 : ¬ (2 : Int) < x.items.length := by omega
     have HI := Hh hi0;have HC := Hh hgood;clear hi0 hk hgood;have c0 := hB.cell 0 rfl;have c3 := hB.cell 3 rfl;go_wp2_with fail
     refine wp_loop_rounds 1 ?_
     rw [rounds_succ];go_wp2_with fail
     refine wp_loop_rounds 1 ?_
     rw [rounds_succ];go_wp2_with fail
     go_ret
     exact ⟨by rw [E.out, ← HC1.out]; rfl, hb0⟩
  ·have bone0 : ((x.items.length : Int) != 1) = true := by (first | (rw [bne_eq_false_iff_eq]; omega) | (rw [bne_iff_ne]; omega))
   have HONE := Hh hone;clear hone
   by_cases hpos : 0 < x.items.length
   ·have bpos0 : (0 : Int) < x.items.length := by omega
    have HPOS := Hh hpos;clear hpos;go_enter Tryz.func77, Tryz.ntmps77
    go_upto_region 22 with fail
    any_goals
     (have hbad : nodeR x d (c - 1) = false := by
       cases hq : nodeR x d (c - 1) with
       | false => rfl
       | true => exact absurd ((nodeR_456 (by have := HK.out; omega)).1 hq) (by have hn0 := HN0.out; have hone := HONE.out; have hpos := HPOS.out; have hk := HK.out; omega)
      go_ret
      exact ⟨by rw [left_none hbad]; rfl, hb0⟩)
    all_goals
     have HG : Hid (nodeR x d (c - 1) = true) := (nodeR_456 (by have := HK.out; omega)).2 ⟨by omega, by omega, fun h => HONE.out, fun h => by have := HK.out; omega, fun h => by have := HK.out; omega, by omega⟩;have c0 := hB.cell 0 rfl;have c3 := hB.cell 3 rfl;go_wp2_with fail
     have hB0 := hB;have hbz := hb0;go_loopw [1, 157] (fun v1 v157 wr => ∃ (j r : Nat), j ≤ x.items.length ∧ r ≤ c ∧ v157 = .int .i64 j ∧ v1 = .int .i64 r ∧ leftL (x.items.drop j) r (d + 1) = leftL x.items (c - 1) (d + 1) ∧ Below w.heap.size w wr ∧ Blk wr w.heap.size 54 #[.int .i64 x.kind, .int .u64 x.n, .slice ba x.bytes.length bc, .slice ia x.items.length ic]) (fun _ v157 _ => x.items.length - (intOf v157).toNat)
     case atStart => exact ⟨0, c - 1, Nat.zero_le _, by omega, rfl, by rw [HC1.out], rfl, hbz, hB0⟩
     case round =>
      obtain ⟨j, r, hj, hrc, rfl, rfl, hlr, hbr, hBr⟩ := hrel;have HLR := Hh hlr;clear hlr
      by_cases hlt : j < x.items.length
      ·have hHr : Holds wr H := hH.below hbr (Nat.le_refl _);obtain ⟨ib, io, hia, hel⟩ := HX.out.items (by omega);obtain ⟨eba, ebc, eia, eic, q0, q1, q2, q3, hex⟩ := hel.get j hlt;subst hia;have p0 := hHr.cell q0;have p1 := hHr.cell q1;have p2 := hHr.cell q2;have p3 := hHr.cell q3;have hstep : leftL (x.items.drop j) r (d + 1) = match leftP x.items[j] r (d + 1) with | none => none | some r' => leftL (x.items.drop (j + 1)) r' (d + 1) := by rw [List.drop_eq_getElem_cons hlt, leftL]; cases leftP x.items[j] r (d + 1) <;> rfl
       have hst := Hh (hstep.symm.trans HLR.out);clear hstep;have IHC := ih x.items[j] (cnt_items x j hlt) H hT _ _ eba _ ebc eia _ eic (wr.alloc (itemO x.items[j] eba ebc eia eic)) r (d + 1) hex.arg (hHr.alloc _) (by omega) (by omega);rw [show ((d + 1 : Nat) : Int) = (d : Int) + 1 by omega] at IHC;have IHH := Hh IHC;have hbr5 := hbr.alloc hbr.size (itemO x.items[j] eba ebc eia eic);have hB5 := hBr.alloc (itemO x.items[j] eba ebc eia eic);clear IHC q0 q1 q2 q3
       cases hq : leftP x.items[j] r (d + 1) with
       | none =>
        rw [hq] at IHH hst;have E : Hid (leftP x c d = none) := by rw [Hid, leftP_eq, if_neg (by omega), if_neg (by simp [HG.out]), ← hst.out]
        clear hq hst;go_wp2_with fail
        refine IHH.out.mono ?_
        rintro e w6 ⟨rfl, hb6⟩
        have hb7 := hbr5.trans (hb6.mono hbr5.size)
        simp only [leftI]
        go_wp2_with fail
        go_ret
        exact ⟨by rw [E.out]; rfl, hb7⟩
       | some r' =>
        rw [hq] at IHH hst;have hrr := (left_spec _ _ _ _ hq).2.2;have hst' : Hid (leftL (x.items.drop (j + 1)) r' (d + 1) = leftL x.items (c - 1) (d + 1)) := hst.out;clear hq hst;have hr0 : (0 : Int) ≤ (r' : Int) := by omega
        have hrc' : r' ≤ c := by omega
        go_wp2_with fail
        refine IHH.out.mono ?_
        rintro e w6 ⟨rfl, hb6⟩
        have hb7 := hbr5.trans (hb6.mono hbr5.size);have hB7 := hB5.below hb6
        simp only [leftI]
        clear hbr hBr hbr5 hB5 hb6 IHH p0 p1 p2 p3 hrr hHr;go_wp2_with fail
        go_roundw
        case rel => exact ⟨j + 1, r', by omega, hrc', by go_num, rfl, hst'.out, hb7, hB7⟩
        case measure => simp [intOf]; omega
      ·have hjl : j = x.items.length := by omega
       subst hjl;have hall : leftL x.items (c - 1) (d + 1) = some r := by rw [← HLR.out, List.drop_length, leftL]
       have HALL := Hh hall;clear hall HLR
       have E : Hid (leftP x c d = some r) := by
        rw [Hid, leftP_eq, if_neg (by omega), if_neg (by simp [HG.out]), HALL.out]
        simp only
        rw [if_neg (by rintro ⟨h5, _⟩; rw [h5] at b5; cases b5)]
       have c0 := hBr.cell 0 rfl;go_wp2_with fail
       refine wp_loop_rounds 1 ?_
       rw [rounds_succ];go_wp2_with fail
       go_ret
       exact ⟨by rw [E.out]; rfl, hbr⟩
   ·have bpos0 : ¬ (0 : Int) < x.items.length := by omega
    have HPOS := Hh hpos;clear hpos;go_enter Tryz.func77, Tryz.ntmps77
    go_upto_region 22 with fail
    any_goals
     (have hbad : nodeR x d (c - 1) = false := by
       cases hq : nodeR x d (c - 1) with
       | false => rfl
       | true => exact absurd ((nodeR_456 (by have := HK.out; omega)).1 hq) (by have hn0 := HN0.out; have hone := HONE.out; have hpos := HPOS.out; have hk := HK.out; omega)
      go_ret
      exact ⟨by rw [left_none hbad]; rfl, hb0⟩)
    all_goals
     have hgood : nodeR x d (c - 1) = true := (nodeR_456 (by have := HK.out; omega)).2 ⟨by omega, by omega, fun h => HONE.out, fun h => by have := HK.out; omega, fun h => by have := HK.out; omega, by omega⟩;have hi0 : x.items.length = 0 := by have hn0 := HN0.out; have hone := HONE.out; have hpos := HPOS.out; have hk := HK.out; omega
     have hk := HK.out;have E : Hid (leftP x c d = some (c - 1)) := left_flat hc0 hgood hi0;have hli : ¬ (0 : Int) < x.items.length := by omega
     have hl2 : ¬ (2 : Int) < x.items.length := by omega
     have HI := Hh hi0;have HC := Hh hgood;clear hi0 hk hgood;have c0 := hB.cell 0 rfl;have c3 := hB.cell 3 rfl;go_wp2_with fail
     refine wp_loop_rounds 1 ?_
     rw [rounds_succ];go_wp2_with fail
     refine wp_loop_rounds 1 ?_
     rw [rounds_succ];go_wp2_with fail
     go_ret
     exact ⟨by rw [E.out, ← HC1.out]; rfl, hb0⟩
end Go.Proofs.YtmacemcajlgddaaGreatDoor
