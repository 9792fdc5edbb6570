/- squeezed. Walks: the reference's suites of a -/
import Derived.Test.YtlebpackbfcfeaaDoorK40
import Derived.Test.YtlebpackbfcfeaaDoorK42
set_option linter.unusedVariables false
set_option linter.unusedSimpArgs false
set_option maxRecDepth 100000
set_option maxHeartbeats 12800000
namespace Go.Proofs.YtlebpackbfcfeaaDoor
open Go.RowKit
theorem suitesE_num {x : Itm} {v : Int} (h : numE x 65535 = some v) (h0 : 0 ≤ v) : suitesE x = .ok [v] := by
 unfold numE at h
 split at h
 ·rename_i hk
  injection h with h
  subst h
  rw [suitesE, if_pos hk.1, if_pos hk.2]
 ·split at h
  ·injection h with h
   omega
  ·cases h
theorem suitesE_no4 {x : Itm} (h : ∀ v, numE x 65535 = some v → v < 0) (h4 : x.kind ≠ 4) : suitesE x = .error 4 := by
 rw [suitesE]
 by_cases k0 : x.kind = 0
 ·rw [if_pos k0, if_neg fun hn => ?_]
  have := h x.n (by rw [numE, if_pos ⟨k0, hn⟩])
  omega
 ·rw [if_neg k0, if_pos (.inl h4)]
theorem numE_4 {x : Itm} (h : x.kind = 4) : numE x 65535 = none := by
 rw [numE, if_neg (by omega), if_neg (by omega)]
theorem r_list {H : Snap} (w : World) (hH : Holds w H) {x : Itm} {ja : Option Addr} {jb : Nat} {jc : Option Addr} {jd : Nat} (hx : IsItem H ja jb jc jd x) (hml : x.items.length ≤ 4096) :
  Calls Tryd.prog 60 #[itemV x ja jb jc jd] w (IntsOut w H (suitesE x)) := by
 have hB0 := Blk.new w 69 #[.int .i64 x.kind, .int .u64 x.n, .slice ja x.bytes.length jb, .slice jc x.items.length jd]
 have hG := (Grows.refl hH).alloc (.cells #[.int .i64 x.kind, .int .u64 x.n, .slice ja x.bytes.length jb, .slice jc x.items.length jd] 69)
 have hB : Blk (w.alloc (.cells #[.int .i64 x.kind, .int .u64 x.n, .slice ja x.bytes.length jb, .slice jc x.items.length jd] 69)) w.heap.size 69 #[.int .i64 x.kind, .int .u64 x.n, .slice ja x.bytes.length jb, .slice jc x.items.length jd] := hB0
 have b0 := hB.cell 0 rfl
 have b1 := hB.cell 1 rfl
 have b2 := hB.cell 2 rfl
 have b3 := hB.cell 3 rfl
 have NM0 := ref_number x.kind x.n ja x.bytes.length jb jc x.items.length jd (w.alloc (.cells #[.int .i64 x.kind, .int .u64 x.n, .slice ja x.bytes.length jb, .slice jc x.items.length jd] 69)) 65535 (by omega)
 rw [← numE_K] at NM0
 have NM := Hh NM0
 have HX := Hh hx
 have HML := Hh hml
 clear hx hml NM0 hB0 hH
 go_enter Tryd.func60, Tryd.ntmps60
 go_wp2_with fail
 generalize w.alloc (.cells #[.int .i64 x.kind, .int .u64 x.n, .slice ja x.bytes.length jb, .slice jc x.items.length jd] 69) = w1 at hB hG NM b0 b1 b2 b3 ⊢
 refine NM.out.mono ?_
 rintro e w2 ⟨rfl, hb2⟩
 have hB2 := hB.below hb2
 have hG2 := hG.below_ hb2
 clear NM b0 b1 b2 b3 hb2 hG hB
 have b0 := hB2.cell 0 rfl
 have b3 := hB2.cell 3 rfl
 obtain ⟨kd, hkd⟩ : ∃ kd, x.kind = kd := ⟨_, rfl⟩
 obtain ⟨il, hil⟩ : ∃ il, x.items.length = il := ⟨_, rfl⟩
 have HKD := Hh (And.intro hkd hil)
 rw [hkd] at b0
 rw [hil] at b3
 clear hkd hil hB2
 by_cases h4 : kd = 4
 ·subst h4
  have hnum := numE_4 HKD.out.1
  rw [hnum, numV]
  clear hnum
  by_cases h2 : il < 2
  ·have z2 : (il : Int) < 2 := by omega
   have z2d : decide ((il : Int) < 2) = true := decide_eq_true z2
   have E : Hid (suitesE x = .error 4) := by rw [Hid]; exact suitesE_no x (by rw [HKD.out.1]; decide) (.inr (by have := HKD.out.2; omega))
   clear h2
   go_wp2_with fail
   go_ret2
   exact IntsOut.err (q := 4) E.out rfl hG2.below
  ·have z2 : ¬ ((il : Int) < 2) := by omega
   have z2d : decide ((il : Int) < 2) = false := decide_eq_false z2
   have HE : Hid (suitesE x = suitesL x.items) := by rw [Hid]; exact suitesE_4 x HKD.out.1 (by have := HKD.out.2; omega)
   have HR : Hid (IsRowI H jc jd x.items) := ⟨by have := HX.out.bounds; omega, by have := HX.out.bounds; omega, fun h => HX.out.items h⟩
   have HL : Hid (x.items.length = il ∧ il ≤ 4096) := ⟨HKD.out.2, by have h1 := HKD.out.2; have h2 := HML.out; omega⟩
   have hlnc : (il : Int) ≤ (jd : Int) := by have := HR.out.le; have := HL.out; omega
   clear h2 HKD
   obtain ⟨L, hL⟩ : ∃ L, x.items = L := ⟨_, rfl⟩
   rw [hL] at HE HR HL
   clear hL
   go_wp2_with fail
   go_loopw [6, 35] (fun v6 v35 wr => ∃ (i : Nat) (VA : Option Addr) (vc vn : Nat) (a : List Int), i ≤ il ∧ v35 = .int .i64 (i : Int) ∧ v6 = .slice VA vn vc ∧ vn = a.length ∧ a.length = i ∧ numsE (L.take i) = some a ∧ Grows w H wr H ∧ OwnX lieI 3 wr w.heap.size (.slice VA vn vc) H a ∧ (∀ q, (Value.slice VA vn vc).ownBlock = some q → H q = none)) (fun _ v35 _ => il - (intOf v35).toNat)
   case atStart => exact ⟨0, none, 0, 0, [], Nat.zero_le _, rfl, rfl, rfl, rfl, rfl, hG2, OwnX.nil _ _ _ _ _, by intro q hq; simp [Value.ownBlock] at hq⟩
   case round =>
    clear hG2
    obtain ⟨i, VA, vc, vn, a, hi, rfl, rfl, rfl, hai, hnum, hGr, hOr, hnr⟩ := hrel
    have HI := Hh hi
    have HNUM := Hh hnum
    have HAI := Hh hai
    clear hi hnum hai
    by_cases hil : i < il
    ·have hii : (i : Int) < (il : Int) := by omega
     have hiL : i < L.length := by have := HL.out; omega
     obtain ⟨b, off, rfl, hel⟩ := HR.out.elems (by omega)
     obtain ⟨ya, yb, yc, yd, q0, q1, q2, q3, hye⟩ := hel.get i hiL
     have p0 := hGr.holds.cell q0
     have p1 := hGr.holds.cell q1
     have p2 := hGr.holds.cell q2
     have p3 := hGr.holds.cell q3
     have HBADN := Hh (fun h => numsE_take_bad hiL HNUM.out h)
     have HOKN := Hh (fun v h hv => numsE_take_ok (v := v) hiL HNUM.out h hv)
     obtain ⟨y, hy⟩ : ∃ y, L[i] = y := ⟨_, rfl⟩
     rw [hy] at p0 p1 p2 p3 HBADN HOKN hye
     have HIL := Hh hil
     have hi63 : (i : Int) + 1 ≤ 9223372036854775807 := by have := HL.out; omega
     have hT0 := Blk.new wr 69 #[.int .i64 0, .int .u64 0, .slice none 0 0, .slice none 0 0]
     have hTn : H wr.heap.size = none := hGr.holds.none_of_ge (Nat.le_refl _)
     have hG1 := hGr.alloc zeroO
     have hO1 := hOr.alloc zeroO
     have hol := Hh (show ∀ q, (Value.slice VA a.length vc).ownBlock = some q → w.heap.size ≤ q ∧ q < wr.heap.size from fun q hq => hOr.lt q hq)
     have hsz := Hh hGr.size
     clear hel q0 q1 q2 q3 hy hil hiL hGr hOr
     go_wp2_with (with_reducible refine stop_store ?_)
     unfold Stopped
     refine stI rfl rfl rfl rfl rfl hT0 rfl rfl rfl rfl rfl fun w3 hT3 hg3 => ?_
     have hG3 := hG1.grownOwn hTn hsz.out hg3
     have hO3 := hO1.kl hg3 (fun q hv => by have := (hol.out q hv).2; omega)
     have b0 := hT3.cell 0 rfl
     have b1 := hT3.cell 1 rfl
     have b2 := hT3.cell 2 rfl
     have b3 := hT3.cell 3 rfl
     have NM0 := ref_number y.kind y.n ya y.bytes.length yb yc y.items.length yd w3 65535 (by omega)
     rw [← numE_K] at NM0
     have NM := Hh NM0
     clear hT0 hG1 hO1 hg3 p0 p1 p2 p3 NM0
     go_wp2_with fail
     refine NM.out.mono ?_
     rintro e w4 ⟨rfl, hb4⟩
     have hG4 := hG3.below_ hb4
     have hO4 := hO3.below hb4
     clear NM hG3 hO3 hT3 b0 b1 b2 b3 hb4
     cases hv : numE y 65535 with
     | none =>
      have E : Hid (suitesE x = .error 4) := by rw [Hid, HE.out]; exact suitesL_none (HBADN.out (.inl hv))
      rw [numV]
      go_wp2_with fail
      go_ret2
      exact IntsOut.err (q := 4) E.out rfl hG4.below
     | some v =>
      rw [numV]
      have HV := Hh hv
      clear hv
      by_cases hv0 : v < 0
      ·have v0d : decide (v < 0) = true := decide_eq_true hv0
       have E : Hid (suitesE x = .error 4) := by rw [Hid, HE.out]; exact suitesL_none (HBADN.out (.inr ⟨v, HV.out, hv0⟩))
       go_wp2_with fail
       go_ret2
       exact IntsOut.err (q := 4) E.out rfl hG4.below
      ·have v0d : decide (v < 0) = false := decide_eq_false hv0
       have HN2 := Hh (HOKN.out v HV.out (by omega))
       have hG5 := hG4.alloc (.cells #[.int .i64 v] 3)
       have hO5 := hO4.alloc (.cells #[.int .i64 v] 3)
       clear hv0 hG4 hO4
       go_wp2_with (at_builtin; refine stop_in ?_)
       unfold Stopped
       refine OwnX.append rfl (.tmp 50) (.tmp 52) 22 rfl Tryd.underlying22 rfl (by omega) info_int rfl hO5 _ 1 _ [.int .i64 v] [v] rfl rfl (RowC.one rfl) (Src.new _ _ _ _ rfl _ rfl) (by have := HAI.out; have := HL.out; have := HI.out; simp; omega) hG5.size fun v' w6 hO6 hg6 hat6 => ?_
       obtain ⟨VA', vc', rfl, _⟩ := hO6.form
       have hn6 := own_hid3 hG5.holds hnr hat6
       have hG6 := hG5.grownRow hnr (fun q hq => (hol.out q hq).1) hg6
       have hlen : Hid ((a ++ [v]).length = i + 1) := by rw [Hid, List.length_append, HAI.out]; rfl
       obtain ⟨a', ha'⟩ : ∃ a', a ++ [v] = a' := ⟨_, rfl⟩
       rw [ha'] at hO6 hn6 HN2 hlen ⊢
       clear ha' hG5 hO5 hg6 hat6
       go_wp2_with fail
       go_roundw
       case rel => exact ⟨i + 1, VA', vc', _, a', HIL.out, by go_num, rfl, rfl, hlen.out, HN2.out, hG6, hO6, hn6⟩
       case measure => have := HIL.out; simp [intOf]; omega
    ·have hii : ¬ ((i : Int) < (il : Int)) := by omega
     have hid : decide ((i : Int) < (il : Int)) = false := decide_eq_false hii
     have HNL : Hid (numsE L = some a) := by
      have h := HNUM.out
      rw [List.take_of_length_le (by have := HL.out; omega)] at h
      exact h
     obtain ⟨H5, hl5, hh5, hf5, hz5, hir⟩ := hOr.snap hGr.holds (fun q hq => hnr q (own_of hq))
     have hlow : ∀ q, VA.map (·.block) = some q → w.heap.size ≤ q := fun q hq => (hOr.lt q (own_of hq)).1
     have hG5 := hGr.snap hl5 hh5 hf5 hlow
     obtain ⟨an, han⟩ : ∃ an, a.length = an := ⟨_, rfl⟩
     have HAN := Hh han
     have TW := Hh (r_twice (n := an) wr hh5 HAN.out.symm hir)
     have HIR := Hh hir
     rw [han]
     clear hil han hGr hOr hnr hf5 hir hl5 hlow hh5
     go_wp2_with fail
     refine TW.out.mono ?_
     rintro e w6 ⟨rfl, hb6⟩
     have hG6 := hG5.below_ hb6
     clear TW hG5 hb6
     cases htw : twice a with
     | true =>
      have E : Hid (suitesE x = .error 7) := by rw [Hid, HE.out]; exact suitesL_twice HNL.out htw
      clear htw
      go_wp2_with fail
      go_ret2
      exact IntsOut.err (q := 7) E.out rfl hG6.below
     | false =>
      have HTW := Hh htw
      clear htw
      by_cases h8 : 8 < an
      ·have z8 : (8 : Int) < (an : Int) := by omega
       have z8d : decide ((8 : Int) < (an : Int)) = true := decide_eq_true z8
       have E : Hid (suitesE x = .error 8) := by rw [Hid, HE.out]; exact suitesL_long HNL.out HTW.out (by have := HAN.out; omega)
       clear h8
       go_wp2_with fail
       go_ret2
       exact IntsOut.err (q := 8) E.out rfl hG6.below
      ·have z8 : ¬ ((8 : Int) < (an : Int)) := by omega
       have z8d : decide ((8 : Int) < (an : Int)) = false := decide_eq_false z8
       have E : Hid (suitesE x = .ok a) := by rw [Hid, HE.out]; exact suitesL_ok HNL.out HTW.out (by have := HAN.out; omega)
       clear h8
       go_wp2_with fail
       go_ret2
       exact IntsOut.ok E.out (by rw [HAN.out]; rfl) hG6 HIR.out
 ·have k4 : (kd != 4) = true := by rw [bne_iff_ne]; exact h4
  have k4' : (kd = 4) = False := eq_false h4
  have HK4 := Hh h4
  clear h4
  cases hv : numE x 65535 with
  | none =>
   have E : Hid (suitesE x = .error 4) := by rw [Hid]; exact suitesE_no4 (fun v h => by rw [hv] at h; cases h) (by rw [HKD.out.1]; exact HK4.out)
   rw [numV]
   clear hv
   go_wp2_with fail
   go_ret2
   exact IntsOut.err (q := 4) E.out rfl hG2.below
  | some v =>
   rw [numV]
   have HV := Hh hv
   clear hv
   by_cases hv0 : 0 ≤ v
   ·have v0d : decide (0 ≤ v) = true := decide_eq_true hv0
    have E : Hid (suitesE x = .ok [v]) := by rw [Hid]; exact suitesE_num HV.out hv0
    obtain ⟨H3, hG3, hl3, hr3⟩ := lit_row (L := lieI) hG2 (RowC.one rfl : RowC lieI H [.int .i64 v] [v]) 3 (by simp)
    clear hv0
    go_wp2_with fail
    go_ret2
    exact IntsOut.ok E.out rfl hG3 hr3
   ·have v0d : decide (0 ≤ v) = false := decide_eq_false hv0
    have E : Hid (suitesE x = .error 4) := by rw [Hid]; exact suitesE_no4 (fun v' h => by rw [HV.out] at h; injection h with h; omega) (by rw [HKD.out.1]; exact HK4.out)
    go_wp2_with fail
    go_ret2
    exact IntsOut.err (q := 4) E.out rfl hG2.below
end Go.Proofs.YtlebpackbfcfeaaDoor
