/- Walks: the references' Protected, Input. -/
import Derived.Test.YtdbhgngikglmcaaDoorRm
import Derived.Test.YtdbhgngikglmcaaDoorJenv
set_option linter.unusedVariables false
set_option linter.unusedSimpArgs false
namespace Go.Proofs.YtdbhgngikglmcaaDoor
open Go.RowKit

theorem ref12_ValidH {H : Snap} (hTab : Tabs H) {p u : Itm} {a b : Ad} (hp : IsItem H a.ba a.bc a.ia a.ic p) (hu : IsItem H b.ba b.bc b.ia b.ic u) (w : World) (hH : Holds w H) :
    Calls Tryd.prog 40 #[.agg (hdrC p a u b)] w fun e w' => e = .returned (.bool (validH p u)) ∧ Below w.heap.size w w' := by
  refine (ref12_Valid hTab hp hu w hH).mono fun e w' h => ?_
  rw [validHR_eq hp.nums hu.nums] at h
  exact h

set_option maxRecDepth 100000 in
set_option maxHeartbeats 1600000 in
theorem ref12_Protected {H : Snap} (hTab : Tabs H) {p u : Itm} {a b : Ad} (hp : IsItem H a.ba a.bc a.ia a.ic p) (hu : IsItem H b.ba b.bc b.ia b.ic u) (w : World) (hH : Holds w H) :
    Calls Tryd.prog 24 #[.agg (hdrC p a u b)] w (ProtSaid w p u) := by
  have hB := Blk.new w 28 (hdrC p a u b)
  have hb0 := below_box w (.cells (hdrC p a u b) 28)
  have hH0 := hH.alloc (.cells (hdrC p a u b) 28)
  have V := Lib.hid (ref12_ValidH hTab hp hu _ hH0)
  cases hv : validH p u with
  | false =>
    rw [hv] at V
    have HV := Lib.hid hv
    clear hv
    go_enter Tryd.func24, Tryd.ntmps24
    go_wp2_with fail
    refine V.out.mono ?_
    rintro e w1 ⟨rfl, hb1⟩
    have hbz := hb0.trans (hb1.mono hb0.size)
    go_wp2_with fail
    go_ret2
    exact .inl ⟨HV.out, rfl, hbz⟩
  | true =>
    rw [hv] at V
    have HV := Lib.hid hv
    have hvp := (validH_valid hv).1
    have hil := (validP_items hvp).2.1
    clear hv
    go_enter Tryd.func24, Tryd.ntmps24
    go_wp2_with fail
    refine V.out.mono ?_
    rintro e w1 ⟨rfl, hb1⟩
    have hB1 := hB.below hb1
    have hbz := hb0.trans (hb1.mono hb0.size)
    have c0 := hB1.cell 0 rfl
    have c1 := hB1.cell 1 rfl
    have c2 := hB1.cell 2 rfl
    have c3 := hB1.cell 3 rfl
    by_cases h0 : p.items.length = 0
    · have E : Hid (protB p = []) := by rw [Hid, protB, if_pos h0]
      have k0 : ((p.items.length : Int) == 0) = true := by simp; simpa using h0
      clear h0
      go_wp2_with fail
      go_ret2
      exact .inr ⟨HV.out, _, rfl, by rw [E.out]; exact ⟨OwnB.nil _ _, hbz⟩⟩
    · have E : Hid (protB p = encB p) := by rw [Hid, protB, if_neg h0]
      have k0 : ((p.items.length : Int) == 0) = false := by rw [beq_eq_false_iff_ne]; omega
      have EN := Lib.hid (ref_Encode hTab hp.arg w1 (hH.below hbz (Nat.le_refl _)))
      have HVP := Lib.hid hvp
      clear h0 hvp
      go_wp2_with fail
      refine EN.out.mono ?_
      rintro e w2 (⟨hf, _⟩ | ⟨_, r, rfl, hfr⟩)
      · rw [HVP.out] at hf; cases hf
      · have R : Hid (Fresh w (protB p) r w2) := by
          rw [Hid, E.out]
          exact ⟨hfr.own.more hbz.size, hbz.trans (hfr.2.mono hbz.size)⟩
        clear hfr
        go_wp2_with fail
        go_ret2
        exact .inr ⟨HV.out, _, rfl, R.out⟩

set_option maxRecDepth 100000 in
set_option maxHeartbeats 6400000 in
theorem ref13_Input {H : Snap} (hTab : Tabs H) {p u : Itm} {a b : Ad} (hp : IsItem H a.ba a.bc a.ia a.ic p) (hu : IsItem H b.ba b.bc b.ia b.ic u) (s : ByteArray) (hs : s.size ≤ 1048576)
    {EA : Option Addr} {ec : Nat} {ext : List UInt8} (hext : IsBytes H EA ec ext) (hel : ext.length ≤ 1048576) {PA : Option Addr} {pc : Nat} {pay : List (List UInt8)} (hpay : IsRows H PA pc pay) (hpl : pay.length ≤ 1048576) (hpb : ∀ l ∈ pay, l.length ≤ 1048576) (w : World) (hH : Holds w H) :
    Calls Tryd.prog 10 #[.string s, .agg (hdrC p a u b), .slice EA ext.length ec, .slice PA pay.length pc] w (InputSaid w s.data.toList p u ext pay) := by
  have hb0 := below_box w (.cells (hdrC p a u b) 28)
  have hG0 := (Grows.refl hH).alloc (.cells (hdrC p a u b) 28)
  have P := Lib.hid (ref12_Protected hTab hp hu _ hG0.holds)
  go_enter Tryd.func10, Tryd.ntmps10
  go_wp2_with fail
  refine P.out.mono ?_
  rintro e w1 (⟨hv, rfl, hb1⟩ | ⟨hv, r, rfl, hf⟩)
  · have E : Hid (inputE s.data.toList p u ext pay = 1) := by rw [Hid, inputE, if_pos hv]
    have hbz := hb0.trans (hb1.mono hb0.size)
    clear hv
    go_wp2_with fail
    go_ret2
    exact ⟨_, [], by rw [E.out]; rfl, ⟨OwnB.nil _ _, hbz⟩, by rw [E.out]; rfl⟩
  · obtain ⟨RA, rc, rfl, _⟩ := hf.own.form
    have U := Lib.hid (utf8_ValidString hTab w1 (hG0.holds.below hf.2 (Nat.le_refl _)) s (by omega))
    cases hc : Lib.validD s.data.toList with
    | false =>
      have E : Hid (inputE s.data.toList p u ext pay = 5) := by rw [Hid, inputE, if_neg (by simp [hv]), if_pos hc]
      rw [hc] at U
      clear hv hc
      go_wp2_with fail
      refine U.out.mono ?_
      rintro e w2 ⟨rfl, hb2⟩
      have hbz := (hb0.trans (hf.2.mono hb0.size)).trans (hb2.mono (Nat.le_trans hb0.size hf.2.size))
      go_wp2_with fail
      go_ret2
      exact ⟨_, [], by rw [E.out]; rfl, ⟨OwnB.nil _ _, hbz⟩, by rw [E.out]; rfl⟩
    | true =>
      rw [hc] at U
      have HVC := Lib.hid (And.intro hv hc)
      clear hv hc
      go_wp2_with fail
      refine U.out.mono ?_
      rintro e w2 ⟨rfl, hb2⟩
      have hpb4 : (protB p).length ≤ 1099511627776 := by
        have := (validP_spec (validH_valid HVC.out.1).1).2.2
        unfold protB
        split
        · simp
        · omega
      have hG2 := (hG0.below_ hf.2).below_ hb2
      have hsr := (hf.own.src).below hb2
      obtain ⟨x3, hx3⟩ : ∃ x, Itm.mk 3 0 s.data.toList [] = x := ⟨_, rfl⟩
      obtain ⟨x4, hx4⟩ : ∃ x, Itm.mk 2 0 (protB p) [] = x := ⟨_, rfl⟩
      obtain ⟨x5, hx5⟩ : ∃ x, Itm.mk 2 0 ext [] = x := ⟨_, rfl⟩
      have T := Lib.hid (ref_Text s (by omega) w2 hG2.holds)
      rw [hx3] at T
      go_wp2_with fail
      refine T.out.mono ?_
      rintro e w3 ⟨v3, rfl, ta, tb, tc, td, H3, rfl, hG3, hi3⟩
      have B1 := Lib.hid (ref_Bytes (c := rc) (A := RA) (l := protB p) rfl hpb4 w3 (hsr.below hG3.below) hG3.holds)
      rw [hx4] at B1
      clear T
      go_wp2_with fail
      refine B1.out.mono ?_
      rintro e w4 ⟨v4, rfl, pa', pb', pc', pd', H4, rfl, hG4, hi4⟩
      have B2 := Lib.hid (ref_Bytes (c := ec) (A := EA) (l := ext) rfl (by omega) w4 (Src.of_row (hext.row.mono (hG3.le.trans hG4.le)) hG4.holds) hG4.holds)
      rw [hx5] at B2
      clear B1
      go_wp2_with fail
      refine B2.out.mono ?_
      rintro e w5 ⟨v5, rfl, ea', eb', ec', ed', H5, rfl, hG5, hi5⟩
      have hG := ((hG2.trans hG3).trans hG4).trans hG5
      have hl0 : ItemsC H5 (itemC x3 ta tb tc td ++ (itemC x4 pa' pb' pc' pd' ++ itemC x5 ea' eb' ec' ed')) [x3, x4, x5] :=
        (ItemsC.one (hi3.mono (hG4.le.trans hG5.le))).app ((ItemsC.one (hi4.mono hG5.le)).app (ItemsC.one hi5))
      have hO := OwnI.lit (w := w5) hl0 (w.heap.size + 1) (by have := hf.2.size; have := hb2.size; have := hG3.size; have := hG4.size; have := hG5.size; simp at *; omega) (by simp)
      have hGl := hG.alloc (.cells (itemC x3 ta tb tc td ++ (itemC x4 pa' pb' pc' pd' ++ itemC x5 ea' eb' ec' ed')).toArray 26)
      have hnv : H5 w5.heap.size = none := hG5.holds.none_of_ge (Nat.le_refl _)
      clear hG2 hG3 hG4 hG5 hi3 hi4 hi5 hG B2 hsr hf hb2 hl0
      go_upto_region 8 with fail
      go_loopw [12, 36] (fun v12 vi wr => ∃ (k : Nat) (Hr : Snap) (VA : Option Addr) (vc : Nat), k ≤ pay.length ∧ vi = .int .i64 k ∧ v12 = .slice VA (3 + k) vc ∧ Grows w H wr Hr ∧
        OwnI wr (w.heap.size + 1) (.slice VA (3 + k) vc) Hr ([x3, x4, x5] ++ (pay.take k).map bytesItm) ∧ (∀ g, (Value.slice VA (3 + k) vc).ownBlock = some g → Hr g = none)) (fun _ vi _ => pay.length - (intOf vi).toNat)
      case atStart => exact ⟨0, H5, _, _, Nat.zero_le _, rfl, rfl, hGl, hO, by intro g hg; simp [Value.ownBlock] at hg; subst hg; exact hnv⟩
      case round =>
        obtain ⟨k, Hr, VA, vc, hk, rfl, rfl, hGr, hOr, hnr⟩ := hrel
        by_cases hlt : k < pay.length
        · obtain ⟨rb, ro, hra, hrow⟩ := hpay.rows (by omega)
          obtain ⟨Aj, cj, q0, hbj⟩ := hrow k hlt
          subst hra
          have p0 := (hGr.holds.mono hGr.le).cell q0
          have hlj := hpb pay[k] (List.getElem_mem hlt)
          obtain ⟨x6, hx6⟩ : ∃ x, Itm.mk 2 0 pay[k] [] = x := ⟨_, rfl⟩
          have B := Lib.hid (ref_Bytes (c := cj) (A := Aj) (l := pay[k]) rfl (by omega) wr (Src.of_row (hbj.row.mono hGr.le) hGr.holds) hGr.holds)
          rw [hx6] at B
          clear q0 hrow
          go_wp2_with fail
          refine B.out.mono ?_
          rintro e w6 ⟨v6, rfl, ja, jb, jc, jd, H6, rfl, hG6, hi6⟩
          have hO6 := ((hOr.below hG6.below).mono hG6.le).alloc (.cells (itemC x6 ja jb jc jd).toArray 26)
          have hG7 := (hGr.trans hG6).alloc (.cells (itemC x6 ja jb jc jd).toArray 26)
          have hn6 : ∀ g, (Value.slice VA (3 + k) vc).ownBlock = some g → H6 g = none := fun g hg => hG6.none (hnr g hg) (hOr.lt g hg).2
          clear p0 B
          go_wp2_with (at_builtin; refine stop_in ?_)
          unfold Stopped
          refine wpList_app_items rfl (.tmp 40) (.tmp 43) rfl (w.heap.size + 1) (.slice VA (3 + k) vc) H6 _ rfl hO6 _ 1 _ (itemC x6 ja jb jc jd) [x6] rfl rfl (ItemsC.one hi6) (Src.new _ _ _ _ rfl _ rfl) (by simp; omega) (by have := hG7.size; have := hG6.size; have := hGr.size; simp at *; omega) fun v' w7 hO7 hg7 hat7 => ?_
          obtain ⟨VA', vc', rfl, _⟩ := hO7.form
          have hG8 := hG7.grownRow hn6 (fun g hg => by have := (hO6.lt g hg).1; omega) hg7
          have hn7 : ∀ g, (Value.slice VA' ([x3, x4, x5] ++ (pay.take k).map bytesItm ++ [x6]).length vc').ownBlock = some g → H6 g = none := fun g hg => by
            rcases hat7 with h | ⟨g', h1, h2⟩
            · exact hn6 g (by rw [← h, hg])
            · rw [hg] at h1
              injection h1 with h1
              subst h1
              exact hG7.hidden h2
          have hll : ([x3, x4, x5] ++ (pay.take k).map bytesItm ++ [x6]) = [x3, x4, x5] ++ (pay.take (k + 1)).map bytesItm := by
            rw [List.take_succ_eq_append_getElem hlt, List.map_append, ← hx6]
            simp
          have hlen : ([x3, x4, x5] ++ (pay.take (k + 1)).map bytesItm).length = 3 + (k + 1) := by simp; omega
          rw [hll, hlen] at hO7 hn7
          rw [hll, hlen]
          have hk63 : (k : Int) + 1 ≤ 9223372036854775807 := by omega
          clear hO6 hg7 hat7 hn6 hG7 hOr hGr hG6 hi6 hbj
          go_wp2_with fail
          go_roundw
          case rel => exact ⟨k + 1, H6, VA', vc', by omega, by go_num, rfl, hG8, hO7, hn7⟩
          case measure => simp [intOf]; omega
        · have hkl : k = pay.length := by omega
          subst hkl
          rw [List.take_length] at hOr
          have hI : Hid (inputI s.data.toList p ext pay = .mk 4 0 [] ([x3, x4, x5] ++ pay.map bytesItm)) := by rw [Hid, inputI, ← hx3, ← hx4, ← hx5]
          have hmod : ModestL ([x3, x4, x5] ++ pay.map bytesItm) := by
            rw [← hx3, ← hx4, ← hx5]
            refine ModestL.of fun x hx => ?_
            simp only [List.cons_append, List.nil_append, List.mem_cons, List.mem_map] at hx
            rcases hx with rfl | rfl | rfl | ⟨l, hl, rfl⟩ <;> rw [Modest, ModestL] <;> refine ⟨?_, by simp, trivial⟩
            · simpa using (by omega : s.size ≤ 1099511627776)
            · exact hpb4
            · omega
            · have := hpb l hl
              omega
          obtain ⟨L, hL⟩ : ∃ L, [x3, x4, x5] ++ pay.map bytesItm = L := ⟨_, rfl⟩
          have hLn : L.length = 3 + pay.length := by rw [← hL]; simp; omega
          rw [hL] at hOr hmod hI
          obtain ⟨H8, hl8, hh8, hf8, hz8, hle1, hle2, hel8⟩ := hOr.snap hGr.holds (fun g hg => hnr g (by cases VA <;> simp_all [Value.ownBlock]))
          have hGz : Grows w H wr H8 := ⟨hGr.below, hGr.le.trans hl8, hh8, fun b o hb => by
            rcases hf8 b o hb with h | h
            · exact hGr.fresh b o h
            · exact .inr (by have := (hOr.lt b (by cases VA <;> simp_all [Value.ownBlock])).1; omega)⟩
          obtain ⟨x7, hx7⟩ : ∃ x, Itm.mk 4 0 [] L = x := ⟨_, rfl⟩
          have hi8 : IsItem H8 none 0 VA vc x7 := by
            rw [← hx7, IsItem]
            exact ⟨⟨by omega, by omega, by omega, hle1, hle2⟩, IsBytes.nil _, hel8⟩
          have ha8 : ItemA H8 4 0 none 0 0 VA (3 + pay.length) vc x7 := by
            refine ⟨by rw [← hx7]; rfl, by rw [← hx7]; rfl, by rw [← hx7]; rfl, ?_, hi8⟩
            rw [← hx7]; exact hLn.symm
          rw [hx7] at hI
          have EN := Lib.hid (ref_Encode (hTab.mono hGz.le) ha8 wr hGz.holds)
          clear hL hmod hOr hx3 hx4 hx5 hx7 hLn ha8 hi8 hO hl8 hh8 hf8 hle1 hle2 hel8 hGr hnr hz8
          go_wp2_with fail
          refine EN.out.mono ?_
          rintro e w9 (⟨hv, rfl, hb9⟩ | ⟨hv, r, rfl, hfr⟩)
          · have E : Hid (inputE s.data.toList p u ext pay = 8) := by rw [Hid, inputE, if_neg (by simp [HVC.out.1]), if_neg (by simp [HVC.out.2]), hI.out, if_pos hv]
            have hbz := hGz.below.trans (hb9.mono hGz.size)
            clear hv
            go_wp2_with fail
            go_ret2
            exact ⟨_, [], by rw [E.out]; rfl, ⟨OwnB.nil _ _, hbz⟩, by rw [E.out]; rfl⟩
          · have E : Hid (inputE s.data.toList p u ext pay = 0) := by rw [Hid, inputE, if_neg (by simp [HVC.out.1]), if_neg (by simp [HVC.out.2]), hI.out, if_neg (by simp [hv])]
            have R : Hid (Fresh w (encB x7) r w9) := ⟨hfr.own.more hGz.size, hGz.below.trans (hfr.2.mono hGz.size)⟩
            obtain ⟨RA', rc', rfl, _⟩ := hfr.own.form
            clear hv hfr
            go_wp2_with fail
            go_ret2
            exact ⟨_, encB x7, by rw [E.out]; rfl, R.out, by rw [E.out, hI.out]; rfl⟩
end Go.Proofs.YtdbhgngikglmcaaDoor
