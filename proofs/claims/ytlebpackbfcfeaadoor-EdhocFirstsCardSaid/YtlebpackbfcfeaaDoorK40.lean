/- squeezed. Walks: the suites of an item (the  -/
import Derived.Test.YtlebpackbfcfeaaDoorK39
set_option linter.unusedVariables false
set_option linter.unusedSimpArgs false
set_option maxRecDepth 100000
set_option maxHeartbeats 12800000
namespace Go.Proofs.YtlebpackbfcfeaaDoor
open Go.RowKit
def IntsOut (w : World) (H : Snap) (r : Except Nat (List Int)) (e : Ending) (w' : World) : Prop :=
 match r with
 | .error q => e = .returned (.tuple #[.slice none 0 0, .int .i64 (q : Int)]) ∧ Below w.heap.size w w'
 | .ok xs => ∃ VA vc H', e = .returned (.tuple #[.slice VA xs.length vc, .int .i64 0]) ∧ Grows w H w' H' ∧ IsRow lieI H' VA vc xs
theorem IntsOut.err {w w' : World} {H : Snap} {r : Except Nat (List Int)} {e : Ending} {q : Nat} (hr : r = .error q) (he : e = .returned (.tuple #[.slice none 0 0, .int .i64 (q : Int)])) (hb : Below w.heap.size w w') : IntsOut w H r e w' := by
 subst hr; exact ⟨he, hb⟩
theorem IntsOut.ok {w w' : World} {H H' : Snap} {r : Except Nat (List Int)} {e : Ending} {xs : List Int} {VA : Option Addr} {vc : Nat} (hr : r = .ok xs) (he : e = .returned (.tuple #[.slice VA xs.length vc, .int .i64 0])) (hG : Grows w H w' H') (hi : IsRow lieI H' VA vc xs) : IntsOut w H r e w' := by
 subst hr; exact ⟨VA, vc, H', he, hG, hi⟩
theorem info_int : (Tryd.prog.info? 3).map (fun i => (i.zero, i.size, i.bytes)) = some (some (.int .i64 0), 1, 8) := by kernel_rfl
theorem suitesL_none {L : List Itm} (h : numsE L = none) : suitesL L = .error 4 := by rw [suitesL, h]
theorem suitesL_twice {L : List Itm} {l : List Int} (h : numsE L = some l) (ht : twice l = true) : suitesL L = .error 7 := by rw [suitesL, h]; simp only; rw [if_pos ht]
theorem suitesL_long {L : List Itm} {l : List Int} (h : numsE L = some l) (ht : twice l = false) (hl : 8 < l.length) : suitesL L = .error 8 := by rw [suitesL, h]; simp only; rw [if_neg (by rw [ht]; simp), if_pos hl]
theorem suitesL_ok {L : List Itm} {l : List Int} (h : numsE L = some l) (ht : twice l = false) (hl : ¬ 8 < l.length) : suitesL L = .ok l := by rw [suitesL, h]; simp only; rw [if_neg (by rw [ht]; simp), if_neg hl]
theorem e_suites {H : Snap} (w : World) (hH : Holds w H) {x : Itm} {ja : Option Addr} {jb : Nat} {jc : Option Addr} {jd : Nat} (hx : IsItem H ja jb jc jd x) (hml : x.items.length ≤ 4096) :
  Calls Tryd.prog 56 #[itemV x ja jb jc jd] w (IntsOut w H (suitesE x)) := by
 have hB := Blk.new w 69 #[.int .i64 x.kind, .int .u64 x.n, .slice ja x.bytes.length jb, .slice jc x.items.length jd]
 have hG := (Grows.refl hH).alloc (.cells #[.int .i64 x.kind, .int .u64 x.n, .slice ja x.bytes.length jb, .slice jc x.items.length jd] 69)
 have b0 := hB.cell 0 rfl
 have b1 := hB.cell 1 rfl
 have b2 := hB.cell 2 rfl
 have b3 := hB.cell 3 rfl
 have HX := Hh hx
 have HML := Hh hml
 clear hx hml
 go_enter Tryd.func56, Tryd.ntmps56
 go_upto_if 18 with fail
 obtain ⟨kd, hkd⟩ : ∃ kd, x.kind = kd := ⟨_, rfl⟩
 obtain ⟨il, hil⟩ : ∃ il, x.items.length = il := ⟨_, rfl⟩
 have HKD := Hh (And.intro hkd hil)
 go_cut [4] (fun s4 wx => ∃ (LA : Option Addr) (lc ln : Nat) (L : List Itm) (Hx : Snap), s4 = .slice LA ln lc ∧ ln = L.length ∧ L.length ≤ 4096 ∧ IsRowI Hx LA lc L ∧ Grows w H wx Hx ∧ suitesE x = suitesL L)
 case first =>
  by_cases h0 : kd = 0
  ·have k0 : (x.kind == 0) = true := by rw [hkd, beq_iff_eq]; exact h0
   have k0' : (x.kind = 0) = True := eq_true (by rw [hkd]; exact h0)
   have E : Hid (suitesE x = suitesL [x]) := by rw [Hid]; exact suitesE_0 x (by rw [hkd]; exact h0)
   obtain ⟨H2, hG2, hl2, hr2⟩ := lit_items hG (ItemsC.one HX.out) (by simp)
   clear hkd hil h0
   go_wp2_with fail
   go_meet
   exact ⟨_, _, _, [x], H2, rfl, rfl, by simp, by have h := hr2; simp only [size_alloc] at h; exact h, hG2, E.out⟩
  ·have k0 : (x.kind == 0) = false := by rw [hkd, beq_eq_false_iff_ne]; exact h0
   have k0' : (x.kind = 0) = False := eq_false (by rw [hkd]; exact h0)
   by_cases h4 : kd = 4
   ·have k4 : (x.kind != 4) = false := by rw [hkd, bne_eq_false_iff_eq]; exact h4
    have k4' : (x.kind = 4) = True := eq_true (by rw [hkd]; exact h4)
    by_cases h2 : il < 2
    ·have z2 : (x.items.length : Int) < 2 := by rw [hil]; omega
     have z2d : decide ((x.items.length : Int) < 2) = true := decide_eq_true z2
     have E : Hid (suitesE x = .error 4) := by rw [Hid]; exact suitesE_no x (by rw [hkd]; exact h0) (.inr (by omega))
     clear hkd hil h0 h2 h4
     go_wp2_with fail
     go_ret2
     exact IntsOut.err (q := 4) E.out rfl hG.below
    ·have z2 : ¬ ((x.items.length : Int) < 2) := by rw [hil]; omega
     have z2d : decide ((x.items.length : Int) < 2) = false := decide_eq_false z2
     have E : Hid (suitesE x = suitesL x.items) := by rw [Hid]; exact suitesE_4 x (by rw [hkd]; exact h4) (by omega)
     have HR : Hid (IsRowI H jc jd x.items) := ⟨by have := HX.out.bounds; omega, by have := HX.out.bounds; omega, fun h => HX.out.items h⟩
     clear hkd hil h0 h2 h4
     go_wp2_with fail
     go_meet
     exact ⟨_, _, _, x.items, H, rfl, rfl, HML.out, HR.out, hG, E.out⟩
   ·have k4 : (x.kind != 4) = true := by rw [hkd, bne_iff_ne]; exact h4
    have k4' : (x.kind = 4) = False := eq_false (by rw [hkd]; exact h4)
    have E : Hid (suitesE x = .error 4) := by rw [Hid]; exact suitesE_no x (by rw [hkd]; exact h0) (.inl (by rw [hkd]; exact h4))
    clear hkd hil h0 h4
    go_wp2_with fail
    go_ret2
    exact IntsOut.err (q := 4) E.out rfl hG.below
 case rest =>
  obtain ⟨LA, lc, ln, L, Hx, rfl, rfl, hL, hr, hGx, hE⟩ := hcut
  have HL := Hh hL
  have HE := Hh hE
  have HR := Hh hr
  have hlnc : (L.length : Int) ≤ (lc : Int) := by have := hr.le; omega
  clear hG hB b0 b1 b2 b3 hL hE hr hkd hil
  go_wp2_with fail
  go_loopw [5, 31] (fun v5 v31 wr => ∃ (i : Nat) (VA : Option Addr) (vc vn : Nat) (a : List Int), i ≤ L.length ∧ v31 = .int .i64 (i : Int) ∧ v5 = .slice VA vn vc ∧ vn = a.length ∧ a.length = i ∧ numsE (L.take i) = some a ∧ Grows w H wr Hx ∧ OwnX lieI 3 wr w.heap.size (.slice VA vn vc) Hx a ∧ (∀ q, (Value.slice VA vn vc).ownBlock = some q → Hx q = none)) (fun _ v31 _ => L.length - (intOf v31).toNat)
  case atStart => exact ⟨0, none, 0, 0, [], Nat.zero_le _, rfl, rfl, rfl, rfl, rfl, hGx, OwnX.nil _ _ _ _ _, by intro q hq; simp [Value.ownBlock] at hq⟩
  case round =>
   clear hGx
   obtain ⟨i, VA, vc, vn, a, hi, rfl, rfl, rfl, hai, hnum, hGr, hOr, hnr⟩ := hrel
   have HI := Hh hi
   have HNUM := Hh hnum
   have HAI := Hh hai
   clear hi hnum hai
   by_cases hil : i < L.length
   ·have hii : (i : Int) < (L.length : Int) := by omega
    obtain ⟨b, off, rfl, hel⟩ := HR.out.elems (by omega)
    obtain ⟨ya, yb, yc, yd, q0, q1, q2, q3, hye⟩ := hel.get i hil
    have p0 := hGr.holds.cell q0
    have p1 := hGr.holds.cell q1
    have p2 := hGr.holds.cell q2
    have p3 := hGr.holds.cell q3
    have HBADN := Hh (fun h => numsE_take_bad hil HNUM.out h)
    have HOKN := Hh (fun v h hv => numsE_take_ok (v := v) hil HNUM.out h hv)
    obtain ⟨y, hy⟩ : ∃ y, L[i] = y := ⟨_, rfl⟩
    rw [hy] at p0 p1 p2 p3 HBADN HOKN hye
    have HIL := Hh hil
    have hi63 : (i : Int) + 1 ≤ 9223372036854775807 := by have := HL.out; omega
    have hT0 := Blk.new wr 69 #[.int .i64 0, .int .u64 0, .slice none 0 0, .slice none 0 0]
    have hTn : Hx wr.heap.size = none := hGr.holds.none_of_ge (Nat.le_refl _)
    have hG1 := hGr.alloc zeroO
    have hO1 := hOr.alloc zeroO
    have hol := Hh (show ∀ q, (Value.slice VA a.length vc).ownBlock = some q → w.heap.size ≤ q ∧ q < wr.heap.size from fun q hq => hOr.lt q hq)
    have hsz := Hh hGr.size
    clear hel q0 q1 q2 q3 hy hil hGr hOr
    go_wp2_with (with_reducible refine stop_store ?_)
    unfold Stopped
    refine stI rfl rfl rfl rfl rfl hT0 rfl rfl rfl rfl rfl fun w3 hT3 hg3 => ?_
    have hG3 := hG1.grownOwn hTn hsz.out hg3
    have hO3 := hO1.kl hg3 (fun q hv => by have := (hol.out q hv).2; omega)
    have b0 := hT3.cell 0 rfl
    have b1 := hT3.cell 1 rfl
    have b2 := hT3.cell 2 rfl
    have b3 := hT3.cell 3 rfl
    have NM0 := e_number y.kind y.n ya y.bytes.length yb yc y.items.length yd w3
    rw [← numE_K] at NM0
    have NM := Hh NM0
    clear hT0 hG1 hO1 hg3 p0 p1 p2 p3 NM0
    go_wp2_with fail
    refine NM.out.mono ?_
    rintro e w4 ⟨rfl, hb4⟩
    have hG4 := hG3.below_ hb4
    have hO4 := hO3.below hb4
    clear NM hG3 hO3 hT3 b0 b1 b2 b3 hb4
    cases hv : numE y 65535 with
    | none =>
     have E : Hid (suitesE x = .error 4) := by rw [Hid, HE.out]; exact suitesL_none (HBADN.out (.inl hv))
     rw [numV]
     go_wp2_with fail
     go_ret2
     exact IntsOut.err (q := 4) E.out rfl hG4.below
    | some v =>
     rw [numV]
     have HV := Hh hv
     clear hv
     by_cases hv0 : v < 0
     ·have v0d : decide (v < 0) = true := decide_eq_true hv0
      have E : Hid (suitesE x = .error 4) := by rw [Hid, HE.out]; exact suitesL_none (HBADN.out (.inr ⟨v, HV.out, hv0⟩))
      go_wp2_with fail
      go_ret2
      exact IntsOut.err (q := 4) E.out rfl hG4.below
     ·have v0d : decide (v < 0) = false := decide_eq_false hv0
      have HN2 := Hh (HOKN.out v HV.out (by omega))
      have hG5 := hG4.alloc (.cells #[.int .i64 v] 3)
      have hO5 := hO4.alloc (.cells #[.int .i64 v] 3)
      clear hv0 hG4 hO4
      go_wp2_with (at_builtin; refine stop_in ?_)
      unfold Stopped
      refine OwnX.append rfl (.tmp 46) (.tmp 48) 22 rfl Tryd.underlying22 rfl (by omega) info_int rfl hO5 _ 1 _ [.int .i64 v] [v] rfl rfl (RowC.one rfl) (Src.new _ _ _ _ rfl _ rfl) (by have := HAI.out; have := HL.out; have := HI.out; simp; omega) hG5.size fun v' w6 hO6 hg6 hat6 => ?_
      obtain ⟨VA', vc', rfl, _⟩ := hO6.form
      have hn6 := own_hid3 hG5.holds hnr hat6
      have hG6 := hG5.grownRow hnr (fun q hq => (hol.out q hq).1) hg6
      have hlen : Hid ((a ++ [v]).length = i + 1) := by rw [Hid, List.length_append, HAI.out]; rfl
      obtain ⟨a', ha'⟩ : ∃ a', a ++ [v] = a' := ⟨_, rfl⟩
      rw [ha'] at hO6 hn6 HN2 hlen ⊢
      clear ha' hG5 hO5 hg6 hat6
      go_wp2_with fail
      go_roundw
      case rel => exact ⟨i + 1, VA', vc', _, a', HIL.out, by go_num, rfl, rfl, hlen.out, HN2.out, hG6, hO6, hn6⟩
      case measure => have := HIL.out; simp [intOf]; omega
   ·have hii : ¬ ((i : Int) < (L.length : Int)) := by omega
    have hid : decide ((i : Int) < (L.length : Int)) = false := decide_eq_false hii
    have HNL : Hid (numsE L = some a) := by
     have h := HNUM.out
     rw [List.take_of_length_le (by omega)] at h
     exact h
    obtain ⟨H5, hl5, hh5, hf5, hz5, hir⟩ := hOr.snap hGr.holds (fun q hq => hnr q (own_of hq))
    have hlow : ∀ q, VA.map (·.block) = some q → w.heap.size ≤ q := fun q hq => (hOr.lt q (own_of hq)).1
    have hG5 := hGr.snap hl5 hh5 hf5 hlow
    obtain ⟨an, han⟩ : ∃ an, a.length = an := ⟨_, rfl⟩
    have HAN := Hh han
    have han8 : (an : Int) ≤ 4096 := by have := HL.out; have := HI.out; have := HAI.out; omega
    have hanc : (an : Int) ≤ (vc : Int) := by have := hir.le; omega
    have HIR := Hh hir
    have HAT := Hh (show 0 < an → ∃ b off, VA = some ⟨b, off, none⟩ ∧ ∀ j, j < an → wr.cell? ⟨b, off + j, none⟩ = some (.int .i64 (a.getD j 0)) from fun h0 => by
     obtain ⟨b, off, e, hc⟩ := rowI_at hir (by omega)
     exact ⟨b, off, e, fun j hj => hh5.cell (hc j (by omega))⟩)
    rw [han]
    clear hil han hGr hOr hnr hf5 hir hl5 hlow
    go_wp2_with fail
    go_loopw [53] (fun v53 wx => wx = wr ∧ ∃ i' : Nat, i' ≤ an ∧ v53 = .int .i64 (i' : Int) ∧ (∀ p j, j < p → p < i' → a.getD j 0 ≠ a.getD p 0)) (fun v53 _ => an - (intOf v53).toNat)
    case atStart => exact ⟨rfl, 0, Nat.zero_le _, rfl, fun p j _ hp => absurd hp (by omega)⟩
    case round =>
     obtain ⟨rfl, p, hp, rfl, hne⟩ := hrel
     have HNE := Hh hne
     have HPP := Hh hp
     clear hne hp
     by_cases hpn : p < an
     ·have hpi : (p : Int) < (an : Int) := by omega
      obtain ⟨b, off, rfl, hcell⟩ := HAT.out (by omega)
      have HC := Hh hcell
      have q0 := hcell p hpn
      obtain ⟨v, hv⟩ : ∃ v, a.getD p 0 = v := ⟨_, rfl⟩
      rw [hv] at q0
      have HV := Hh hv
      have HPN := Hh hpn
      have hp63 : (p : Int) + 1 ≤ 9223372036854775807 := by omega
      have hp0 : (0 : Int) ≤ (p : Int) := by omega
      have hpc : (p : Int) ≤ (vc : Int) := by omega
      clear hcell hv hpn
      go_wp2_with fail
      go_loopw [62] (fun v62 wx => wx = wr ∧ ∃ j : Nat, j ≤ p ∧ v62 = .int .i64 (j : Int) ∧ (∀ j', j' < j → a.getD j' 0 ≠ v)) (fun v62 _ => p - (intOf v62).toNat)
      case atStart => exact ⟨rfl, 0, Nat.zero_le _, rfl, fun j hj => absurd hj (by omega)⟩
      case round =>
       obtain ⟨rfl, j, hj, rfl, hnej⟩ := hrel
       have HNEJ := Hh hnej
       have HJ := Hh hj
       clear hnej hj
       by_cases hjp : j < p
       ·have hjI : (j : Int) < (p : Int) := by omega
        have p0 := HC.out j (by have := HPN.out; omega)
        obtain ⟨u, hu⟩ : ∃ u, a.getD j 0 = u := ⟨_, rfl⟩
        rw [hu] at p0
        have HU := Hh hu
        have HJP := Hh hjp
        have hj63 : (j : Int) + 1 ≤ 9223372036854775807 := by omega
        clear hu hjp
        by_cases huv : u = v
        ·have d1 : (u == v) = true := by rw [beq_iff_eq]; exact huv
         have d2 : (u = v) = True := eq_true huv
         have E : Hid (suitesE x = .error 7) := by
          rw [Hid, HE.out]
          exact suitesL_twice HNL.out (twice_yes HJP.out (by have := HAN.out; have := HPN.out; omega) (by rw [HU.out, HV.out]; exact huv))
         clear huv
         go_wp2_with fail
         go_ret2
         exact IntsOut.err (q := 7) E.out rfl hG5.below
        ·have d1 : (u == v) = false := by rw [beq_eq_false_iff_ne]; exact huv
         have d2 : (u = v) = False := eq_false huv
         have HUV := Hh huv
         clear huv
         go_wp2_with fail
         go_roundw
         case rel => exact ⟨by trivial, j + 1, HJP.out, by go_num, fun j' hj' => by
          rcases Nat.lt_succ_iff_lt_or_eq.1 hj' with h | h
          ·exact HNEJ.out j' h
          ·subst h; rw [HU.out]; exact HUV.out⟩
         case measure => have := HJP.out; simp [intOf]; omega
       ·have hjI : ¬ ((j : Int) < (p : Int)) := by omega
        have hjd : decide ((j : Int) < (p : Int)) = false := decide_eq_false hjI
        have hje : j = p := by have := HJ.out; omega
        have HJE := Hh hje
        clear hjp hje
        go_wp2_with fail
        go_roundw
        case rel => exact ⟨by trivial, p + 1, HPN.out, by go_num, fun p' j' h1 h2 => by
          rcases Nat.lt_succ_iff_lt_or_eq.1 h2 with h | h
          ·exact HNE.out p' j' h1 h
          ·subst h; rw [HV.out]; exact HNEJ.out j' (by rw [HJE.out]; exact h1)⟩
        case measure => have := HPN.out; simp [intOf]; omega
     ·have hpi : ¬ ((p : Int) < (an : Int)) := by omega
      have hpd : decide ((p : Int) < (an : Int)) = false := decide_eq_false hpi
      have HTW : Hid (twice a = false) := by
       rw [Hid]
       exact twice_no fun p' j' ha hb => HNE.out p' j' ha (by have := HAN.out; have := HPP.out; omega)
      clear hpn
      by_cases h8 : 8 < an
      ·have z8 : (8 : Int) < (an : Int) := by omega
       have z8d : decide ((8 : Int) < (an : Int)) = true := decide_eq_true z8
       have E : Hid (suitesE x = .error 8) := by rw [Hid, HE.out]; exact suitesL_long HNL.out HTW.out (by have := HAN.out; omega)
       clear h8
       go_wp2_with fail
       go_ret2
       exact IntsOut.err (q := 8) E.out rfl hG5.below
      ·have z8 : ¬ ((8 : Int) < (an : Int)) := by omega
       have z8d : decide ((8 : Int) < (an : Int)) = false := decide_eq_false z8
       have E : Hid (suitesE x = .ok a) := by rw [Hid, HE.out]; exact suitesL_ok HNL.out HTW.out (by have := HAN.out; omega)
       clear h8
       go_wp2_with fail
       go_ret2
       exact IntsOut.ok E.out (by rw [HAN.out]; rfl) hG5 HIR.out
end Go.Proofs.YtlebpackbfcfeaaDoor
