/- squeezed. Walks: the reference's Build; of p -/
import Derived.Test.YtgaoknihklmakaaGreatDoorK08
import Derived.Test.YtgaoknihklmakaaGreatDoorK02
import Derived.Test.YtgaoknihklmakaaGreatDoorK05
import Derived.Test.YtgaoknihklmakaaGreatDoorK07
import Derived.Test.YtgaoknihklmakaaGreatDoorK06
import Derived.Test.YtgaoknihklmakaaGreatDoorK01
set_option linter.unusedVariables false
set_option linter.unusedSimpArgs false
set_option maxRecDepth 100000
set_option maxHeartbeats 12800000
namespace Go.Proofs.YtgaoknihklmakaaGreatDoor
open Go.RowKit
theorem asc_drop (l : List Itm) (h : ascP l = true) : ∀ i : Nat, ascP (l.drop (2 * i)) = true
 | 0 => by simpa using h
 | i + 1 => by
  have ih := asc_drop l h i;rw [show 2 * (i + 1) = 2 * i + 2 by omega, ← List.drop_drop]
  generalize l.drop (2 * i) = m at ih
  match m, ih with
  | [], _ => rfl
  | [_], _ => rfl
  | _ :: _ :: m, ih => exact ascP_tail ih
theorem asc_at {l : List Itm} (h : ascP l = true) {m : Nat} (he : m % 2 = 0) (hm : m + 2 < l.length) : Lib.compareBytes (encB (l[m]'(by omega))) (encB l[m + 2]) < 0 := by
 obtain ⟨i, rfl⟩ : ∃ i, m = 2 * i := ⟨m / 2, by omega⟩
 have h1 := asc_drop l h i;have h2 := ascP_drop l (2 * i + 2) (by omega) hm
 simp only [Nat.add_sub_cancel] at h2
 rw [h1] at h2;have h3 := (Bool.and_eq_true _ _).mp h2.symm;have h4 := of_decide_eq_true h3.1
 simpa using h4
def BuildSaid2 (w : World) (H : Snap) (ps : List Itm) (e : Ending) (w' : World) : Prop :=
 ∃ v, (∃ l, e = .returned (.tuple #[v, .int .i64 0]) ∧ Gives w H (.mk 5 0 [] l) v w' ∧ validP (.mk 5 0 [] l) = true ∧ (encL l).length = (encL ps).length ∧ (ascP ps = true → l = ps)) ∨
  (∃ c, e = .returned (.tuple #[v, .int .i64 c]) ∧ c ≠ 0 ∧ Gives w H zeroItm v w' ∧ ¬ (ps.length % 2 = 0 ∧ ascP ps = true ∧ (∀ x ∈ ps, validP x = true) ∧ validP (.mk 5 0 [] ps) = true))
theorem ref_Build2 {H : Snap} (hTab : Tabs H) {A : Option Addr} {c : Nat} {ps : List Itm} (hr : IsRowI H A c ps) (hl : ps.length ≤ 1099511627776) (w : World) (hH : Holds w H) :
  Calls Tryz.prog 43 #[.slice A ps.length c] w (BuildSaid2 w H ps) := by
 have hT := Blk.new w 75 #[.int .i64 0, .int .u64 0, .slice none 0 0, .slice none 0 0];have hb := below_box w zeroO;have hn0 : H w.heap.size = none := hH.none_of_ge (Nat.le_refl _);have HR := Hh hr;clear hr
 by_cases heven : ps.length % 2 = 0
 case neg =>
  have b1 : ((ps.length : Int) % 2 != 0) = true := by rw [bne_iff_ne]; omega
  have p1 : ((ps.length : Int) % 2 = 0) = False := eq_false (by omega);have HE := Hh heven;clear heven;go_enter Tryz.func43, Tryz.ntmps43
  go_wp2_with fail
  refine ret_row_tmp rfl rfl hT rfl rfl size_item rfl ?_
  exact ⟨_, .inr ⟨1, rfl, by omega, ⟨none, 0, none, 0, H, rfl, Grows.of_below hH hb, IsItem.plain H 0 0 (by omega) (by omega)⟩, fun h => HE.out h.1⟩⟩
 have b1 : ((ps.length : Int) % 2 != 0) = false := by rw [bne_eq_false_iff_eq]; omega
 have p1 : ((ps.length : Int) % 2 = 0) = True := eq_true (by omega);have HE := Hh heven;clear heven;go_enter Tryz.func43, Tryz.ntmps43
 go_wp2_with fail
 go_loopw [18] (fun v18 wr => ∃ j : Nat, j ≤ ps.length ∧ v18 = .int .i64 j ∧ (∀ x ∈ ps.take j, validP x = true) ∧ Below w.heap.size w wr ∧ Blk wr w.heap.size 75 #[.int .i64 0, .int .u64 0, .slice none 0 0, .slice none 0 0]) (fun v18 _ => ps.length - (intOf v18).toNat)
 case atStart => exact ⟨0, Nat.zero_le _, rfl, by simp, hb, hT⟩
 case round =>
  clear hb hT;obtain ⟨j, hj, rfl, hval, hbr, hTr⟩ := hrel
  by_cases hlt : j < ps.length
  ·have hHr := hH.below hbr (Nat.le_refl _);obtain ⟨ib, io, hia, hel⟩ := HR.out.elems (by omega);obtain ⟨y1, y2, y3, y4, q0, q1, q2, q3, hex⟩ := hel.get j hlt;subst hia;have p0 := hHr.cell q0;have p1' := hHr.cell q1;have p2 := hHr.cell q2;have p3 := hHr.cell q3;have hHa := hHr.alloc (itemO ps[j] y1 y2 y3 y4);have V := Hh (ref_Valid hTab hex.arg _ hHa);have hb2 := hbr.alloc hbr.size (itemO ps[j] y1 y2 y3 y4);have hT2 := hTr.alloc (itemO ps[j] y1 y2 y3 y4);have hmem : ps[j] ∈ ps := List.getElem_mem hlt;have HT := Hh (show ps.take (j + 1) = ps.take j ++ [ps[j]] from List.take_succ_eq_append_getElem hlt);have HVL := Hh hval
   generalize ps[j]'hlt = x at *
   clear q0 q1 q2 q3 hel hex hbr hTr hHr hval
   cases hv : validP x with
   | false =>
    rw [hv] at V;have HX := Hh (And.intro hv hmem);clear hv hmem;go_wp2_with fail
    refine V.out.mono ?_
    rintro e w3 ⟨rfl, hb3⟩
    have hT3 := hT2.below hb3;have hbz := hb2.trans (hb3.mono hb2.size);clear hT2 hb2 hb3;go_wp2_with (with_reducible refine stop_store ?_)
    refine stI hT3 fun w9 hT9 hg9 => ?_
    have hG9 := (Grows.of_below hH hbz).grownOwn hn0 (Nat.le_refl _) hg9;go_wp2_with fail
    refine ret_row_tmp rfl rfl hT9 rfl rfl size_item rfl ?_
    exact ⟨_, .inr ⟨1, rfl, by omega, ⟨none, 0, none, 0, H, rfl, hG9, IsItem.plain H 0 0 (by omega) (by omega)⟩, fun h => by rw [h.2.2.1 x HX.out.2] at HX; cases HX.out.1⟩⟩
   | true =>
    rw [hv] at V;have HX := Hh hv;clear hv hmem;go_wp2_with fail
    refine V.out.mono ?_
    rintro e w3 ⟨rfl, hb3⟩
    have hT3 := hT2.below hb3;have hbz := hb2.trans (hb3.mono hb2.size);have hj63 : (j : Int) + 1 ≤ 9223372036854775807 := by omega
    clear hT2 hb2 hb3;go_wp2_with fail
    go_roundw
    case rel => exact ⟨j + 1, by omega, by go_num, fun y hy => by rw [HT.out, List.mem_append] at hy; rcases hy with hy | hy; exact HVL.out y hy; rw [List.mem_singleton.1 hy]; exact HX.out, hbz, hT3⟩
    case measure => simp [intOf]; omega
  ·have hkl : j = ps.length := by omega
   subst hkl;rw [List.take_length] at hval;have HVL := Hh hval;clear hval;go_wp2_with fail
   go_loopw [6, 7, 8] (fun v6 v7 v8 wr => ∃ (j : Nat) (L : List Itm) (b : Bool) (VA : Option Addr) (vc : Nat), j ≤ ps.length ∧ j % 2 = 0 ∧ v8 = .int .i64 (j : Int) ∧ v7 = .bool b ∧ v6 = .slice VA j vc ∧ L.length = j ∧ OwnI wr (w.heap.size + 1) (.slice VA j vc) H L ∧ (∀ x ∈ L, x ∈ ps) ∧
    (encL L).length = (encL (ps.take j)).length ∧ (ascP ps = true → b = false ∧ L = ps.take j) ∧ Below w.heap.size w wr ∧ Blk wr w.heap.size 75 #[.int .i64 0, .int .u64 0, .slice none 0 0, .slice none 0 0]) (fun _ _ v8 _ => ps.length + 1 - (intOf v8).toNat)
   case atStart => exact ⟨0, [], false, none, 0, Nat.zero_le _, rfl, rfl, rfl, rfl, rfl, OwnI.nil _ _ _, by simp, by simp, fun _ => ⟨rfl, by simp⟩, hbr, hTr⟩
   case round =>
    clear hbr hTr;obtain ⟨j, L, b, VA, vc, hj, hje, rfl, rfl, rfl, hLl, hOr, hmem, hsz, h2, hbr, hTr⟩ := hrel
    have HVC : Hid ((j : Int) ≤ vc) := by
     obtain ⟨_, c9, e, h1, _⟩ := hOr.form;injection e with _ _ e3
     subst e3;show (j : Int) ≤ (vc : Int)
     omega
    have HS := Hh (And.intro hmem (And.intro hsz h2));have HJ := Hh hje;clear hmem hsz h2 hje
    by_cases hlt : j < ps.length
    ·have hlt1 : j + 1 < ps.length := by have := HJ.out; have := HE.out; omega
     obtain ⟨ib, io, hia, hel⟩ := HR.out.elems (by omega);obtain ⟨y1, y2, y3, y4, q0, q1, q2, q3, hex⟩ := hel.get j hlt;obtain ⟨z1, z2, z3, z4, s0, s1, s2, s3, hez⟩ := hel.get (j + 1) hlt1;subst hia;have HVY := Hh (HVL.out ps[j] (List.getElem_mem hlt));have HM1 := Hh (And.intro (List.getElem_mem hlt) (List.getElem_mem hlt1))
     have HPS := Hh (show (encL (ps.take (j + 2))).length = (encL (ps.take j)).length + (encB ps[j]).length + (encB ps[j + 1]).length by
      have h1 := encL_take_succ ps (j + 1) hlt1;have h2 := encL_take_succ ps j hlt;rw [show j + 2 = j + 1 + 1 by omega, h1, h2]; simp only [List.length_append])
     have HPT := Hh (show ps.take (j + 2) = ps.take j ++ [ps[j], ps[j + 1]] by
      rw [show j + 2 = j + 1 + 1 by omega, List.take_succ_eq_append_getElem hlt1, List.take_succ_eq_append_getElem hlt, List.append_assoc];rfl)
     have HASC := Hh (show ascP ps = true → ∀ m (hm : m + 2 = j) (hl : m < L.length), Lib.compareBytes (encB L[m]) (encB ps[j]) < 0 from fun hA m hm hl => by
      have e := (HS.out.2.2 hA).2;have hmj : m < j := by omega
      have hmp : m < ps.length := by omega
      have h1 : L[m]? = some (ps[m]'hmp) := by rw [e, List.getElem?_take, if_pos hmj, List.getElem?_eq_getElem]
      rw [List.getElem?_eq_getElem hl] at h1;rw [Option.some.inj h1];have h2 := asc_at (m := m) hA (by have := HJ.out; omega) (by omega);have h3 : ps[m + 2]'(by omega) = ps[j] := by congr 1
      rw [h3] at h2
      exact h2)
     generalize ps[j]'hlt = y at *
     generalize ps[j + 1]'hlt1 = z at *
     clear hel;have hltI : (j : Int) < ps.length := by omega
     have hltI1 : (j : Int) + 1 < ps.length := by omega
     have hj63 : (j : Int) + 2 ≤ 9223372036854775807 := by omega
     have HW1 : Hid (IntKind.i64.wrap ((j : Int) + 1) = (j : Int) + 1) := IntWalk.i64_in _ (by omega);go_wp2_with fail
     go_loopw [9] (fun v9 wx => ∃ k : Nat, k ≤ j ∧ k % 2 = 0 ∧ (ascP ps = true → k = j) ∧ v9 = .int .i64 (k : Int) ∧ OwnI wx (w.heap.size + 1) (.slice VA j vc) H L ∧ Below w.heap.size w wx ∧ Blk wx w.heap.size 75 #[.int .i64 0, .int .u64 0, .slice none 0 0, .slice none 0 0]) (fun v9 _ => (intOf v9).toNat)
     case atStart => exact ⟨j, Nat.le_refl _, HJ.out, fun _ => rfl, rfl, hOr, hbr, hTr⟩
     case round =>
      clear hOr hbr hTr;obtain ⟨k, hk, hke, hkj, rfl, hOx, hbx, hTx⟩ := hrel;have HKJ := Hh hkj;clear hkj;have HKE := Hh hke;clear hke;have hkI : ((k : Nat) : Int) ≤ j := by omega
      go_upto_region 15 with fail
      go_cut [51] (fun s51 wx => ∃ bb : Bool, s51 = .bool bb ∧ (bb = true → 2 ≤ k) ∧ (ascP ps = true → bb = false) ∧ OwnI wx (w.heap.size + 1) (.slice VA j vc) H L ∧ Below w.heap.size w wx ∧ Blk wx w.heap.size 75 #[.int .i64 0, .int .u64 0, .slice none 0 0, .slice none 0 0])
      case first =>
       by_cases hk0 : k = 0
       ·subst hk0;skip
        refine wp_region_ways 16 (fun _ => True) (by kernel_rfl) (trivial) (fun hHeld => ?_)
        refine Tk 0 rfl hHeld ?_
        refine Tk 1 rfl hHeld ?_
        refine Tk 2 rfl hHeld ?_
        refine TkU 3 rfl hHeld ?_
        refine TkU 4 rfl hHeld ?_
        refine TkU 5 rfl hHeld ?_
        refine TkU 6 rfl hHeld ?_
        refine TkU 7 rfl hHeld ?_
        refine TkU 8 rfl hHeld ?_
        refine TkU 9 rfl hHeld ?_
        refine TkU 10 rfl hHeld ?_
        refine TkU 11 rfl hHeld ?_
        refine TkU 12 rfl hHeld ?_
        refine TkU 13 rfl hHeld ?_
        refine TkU 14 rfl hHeld ?_
        refine TkU 15 rfl hHeld ?_
        refine To 16 rfl fun K hK => ?_
        go_simp
        refine Kz hK ?_
        clear hK K
        refine Wd ?_
        go_wp2_with fail
        go_meet
        exact ⟨false, rfl, (fun h => by cases h), (fun _ => rfl), hOx, hbx.drew, hTx⟩
       ·obtain ⟨m, rfl⟩ : ∃ m, k = m + 2 := ⟨k - 2, by have := HKE.out; omega⟩
        have hmj : m < j := by omega
        obtain ⟨lb, lo, hla, x1, x2, x3, x4, c0, c1, c2, c3, hei⟩ := hOx.cells m (by omega);subst hla;have HVX := Hh (HVL.out _ (HS.out.1 _ (List.getElem_mem (show m < L.length by omega))));have HXL := Hh (show ascP ps = true → Lib.compareBytes (encB (L[m]'(by omega))) (encB y) < 0 from fun hA => HASC.out hA m (HKJ.out hA) (by omega))
        generalize L[m]'(by omega) = x at *
        have e2 : ((m + 2 : Nat) : Int) = (m : Int) + 2 := by omega
        rw [e2];have hw1 : IntKind.i64.wrap ((m : Int) + 2 - 2) = (m : Int) := by rw [show (m : Int) + 2 - 2 = (m : Int) by omega]; exact IntWalk.i64_in _ (by omega)
        have hw2 : IntKind.i64.wrap (m : Int) = (m : Int) := IntWalk.i64_in _ (by omega);have hmI : (m : Int) < j := by omega
        have hm0 : (0 : Int) ≤ (m : Int) := by omega
        have hmp : (0 : Int) < (m : Int) + 2 := by omega
        have hHx := (hH.below hbx (Nat.le_refl _)).drew;have p0 := hHx.cell q0;have p1 := hHx.cell q1;have p2 := hHx.cell q2;have p3 := hHx.cell q3;have c0 := cell_drew c0;have c1 := cell_drew c1;have c2 := cell_drew c2;have c3 := cell_drew c3;have hbz := hbx.drew;have hOz := OwnI.drew hOx;have hTz := hTx.drew;obtain ⟨cmp, hcmp⟩ : ∃ cmp, Lib.compareBytes (encB x) (encB y) = cmp := ⟨_, rfl⟩
        have gx := (validP_iff x).1 HVX.out;have gy := (validP_iff y).1 HVY.out;have HGX := Hh gx;have HGY := Hh gy;have HCM := Hh hcmp;have HCL := Hh (show ascP ps = true → cmp < 0 from fun hA => by have h := HXL.out hA; rw [hcmp] at h; exact h);clear gx gy hcmp e2 hOx hbx hTx hk0 hk;skip
        refine wp_region_ways 16 (fun w' => w'.cell? ⟨lb, lo + m * 4, none⟩ = some (.int .i64 x.kind) ∧ w'.cell? ⟨lb, lo + m * 4 + 1, none⟩ = some (.int .u64 x.n) ∧ w'.cell? ⟨lb, lo + m * 4 + 2, none⟩ = some (.slice x1 x.bytes.length x2) ∧ w'.cell? ⟨lb, lo + m * 4 + 3, none⟩ = some (.slice x3 x.items.length x4) ∧ w'.cell? ⟨ib, io + j * 4, none⟩ = some (.int .i64 y.kind) ∧ w'.cell? ⟨ib, io + j * 4 + 1, none⟩ = some (.int .u64 y.n) ∧ w'.cell? ⟨ib, io + j * 4 + 2, none⟩ = some (.slice y1 y.bytes.length y2) ∧ w'.cell? ⟨ib, io + j * 4 + 3, none⟩ = some (.slice y3 y.items.length y4)) (by kernel_rfl) (⟨c0, c1, c2, c3, p0, p1, p2, p3⟩) (fun hHeld => ?_)
        refine Tk 0 rfl hHeld ?_
        refine Tk 1 rfl hHeld ?_
        refine Tk 2 rfl hHeld ?_
        refine TkG 3 rfl hHeld ?_
        refine TkG 4 rfl hHeld ?_
        refine TkG 5 rfl hHeld ?_
        refine TkG 6 rfl hHeld ?_
        refine TkG 7 rfl hHeld ?_
        refine TkG 9 rfl hHeld ?_
        refine TkG 10 rfl hHeld ?_
        refine TkG 11 rfl hHeld ?_
        refine TkG 12 rfl hHeld ?_
        refine To 8 rfl fun K hK => ?_
        go_simp
        refine (ref_Raw x H _ _ x1 _ x2 x3 _ x4 _ 0 HGX.out.1 (by have := HGX.out.2.2; omega) hei.arg hHx).mono ?_
        rintro e w5 ⟨r5, rfl, hf5⟩
        obtain ⟨RA5, rc5, rfl, _⟩ := hf5.own.form;have hHx := hHx.below hf5.2 (Nat.le_refl _);have hbz := hbz.trans (hf5.2.mono hbz.size);have hOz := hOz.below hf5.2;have hTz := hTz.below hf5.2;have hsr5 := hf5.own.src;have c0 := cell_below c0 hf5.2;have c1 := cell_below c1 hf5.2;have c2 := cell_below c2 hf5.2;have c3 := cell_below c3 hf5.2
        refine Ko hK ?_ fun hHeld => ?_
        ·exact ⟨c0, c1, c2, c3, hHx.cell q0, hHx.cell q1, hHx.cell q2, hHx.cell q3⟩
        clear hK K
        refine To 13 rfl fun K hK => ?_
        go_simp
        refine (ref_Raw y H _ _ y1 _ y2 y3 _ y4 _ 0 HGY.out.1 (by have := HGY.out.2.2; omega) hex.arg hHx).mono ?_
        rintro e w6 ⟨r6, rfl, hf6⟩
        obtain ⟨RA6, rc6, rfl, _⟩ := hf6.own.form;have hHx := hHx.below hf6.2 (Nat.le_refl _);have hbz := hbz.trans (hf6.2.mono hbz.size);have hOz := hOz.below hf6.2;have hTz := hTz.below hf6.2;have hsr5 := hsr5.below hf6.2;have hsr6 := hf6.own.src;have c0 := cell_below c0 hf6.2;have c1 := cell_below c1 hf6.2;have c2 := cell_below c2 hf6.2;have c3 := cell_below c3 hf6.2
        refine Ko hK ?_ fun hHeld => ?_
        ·exact ⟨c0, c1, c2, c3, hHx.cell q0, hHx.cell q1, hHx.cell q2, hHx.cell q3⟩
        clear hK K
        refine To 14 rfl fun K hK => ?_
        go_simp
        refine (ref_Compare _ RA5 RA6 (encB x) (encB y) (encB x).length (encB y).length rc5 rc6 rfl rfl (by have := HGX.out.2.2; omega) (by have := HGY.out.2.2; omega) hsr5 hsr6).mono ?_
        rintro e w7 ⟨rfl, hb7⟩
        rw [HCM.out];have hHx := hHx.below hb7 (Nat.le_refl _);have hbz := hbz.trans (hb7.mono hbz.size);have hOz := hOz.below hb7;have hTz := hTz.below hb7;have c0 := cell_below c0 hb7;have c1 := cell_below c1 hb7;have c2 := cell_below c2 hb7;have c3 := cell_below c3 hb7
        refine Ko hK ?_ fun hHeld => ?_
        ·exact ⟨c0, c1, c2, c3, hHx.cell q0, hHx.cell q1, hHx.cell q2, hHx.cell q3⟩
        clear hK K
        refine TkG 15 rfl hHeld ?_
        refine To 16 rfl fun K hK => ?_
        go_simp
        refine Kz hK ?_
        clear hK K
        refine Wd ?_
        clear hHeld hsr5 hsr6 c0 c1 c2 c3 p0 p1 p2 p3;go_wp2_with fail
        go_meet
        exact ⟨decide ((0 : Int) < cmp), rfl, (fun _ => by omega), (fun hA => decide_eq_false (by have := HCL.out hA; omega)), hOz, hbz, hTz⟩
      case rest =>
       clear hOx hbx hTx;obtain ⟨bb, rfl, hbb, hba, hOx, hbx, hTx⟩ := hcut;have HBA := Hh hba;clear hba
       cases bb with
       | true =>
        obtain ⟨m, rfl⟩ : ∃ m, k = m + 2 := ⟨k - 2, by have := hbb rfl; omega⟩
        have hw1 : IntKind.i64.wrap (((m + 2 : Nat) : Int) - 2) = (m : Int) := by rw [show ((m + 2 : Nat) : Int) - 2 = (m : Int) by omega]; exact IntWalk.i64_in _ (by omega)
        clear hbb;go_wp2_with fail
        go_roundw
        case rel => exact ⟨m, by omega, by have := HKE.out; omega, (fun hA => by have := HBA.out hA; cases this), by first | rfl | go_num, hOx, hbx, hTx⟩
        case measure => simp [intOf]; omega
       | false =>
        clear hbb;go_upto_region 17 with fail
        go_cut [7] (fun s7 wx => ∃ b' : Bool, s7 = .bool b' ∧ (k = 0 → b' = b) ∧ (ascP ps = true → b' = b) ∧ OwnI wx (w.heap.size + 1) (.slice VA j vc) H L ∧ Below w.heap.size w wx ∧ Blk wx w.heap.size 75 #[.int .i64 0, .int .u64 0, .slice none 0 0, .slice none 0 0])
        case first =>
         cases b with
         | true =>
          refine wp_region_ways 20 (fun _ => True) (by kernel_rfl) (trivial) (fun hHeld => ?_)
          refine Tk 0 rfl hHeld ?_
          refine Tk 1 rfl hHeld ?_
          refine TkU 2 rfl hHeld ?_
          refine TkU 3 rfl hHeld ?_
          refine TkU 4 rfl hHeld ?_
          refine TkU 5 rfl hHeld ?_
          refine TkU 6 rfl hHeld ?_
          refine TkU 7 rfl hHeld ?_
          refine TkU 8 rfl hHeld ?_
          refine TkU 9 rfl hHeld ?_
          refine TkU 10 rfl hHeld ?_
          refine TkU 11 rfl hHeld ?_
          refine TkU 12 rfl hHeld ?_
          refine TkU 13 rfl hHeld ?_
          refine TkU 14 rfl hHeld ?_
          refine TkU 15 rfl hHeld ?_
          refine TkU 16 rfl hHeld ?_
          refine TkU 17 rfl hHeld ?_
          refine TkU 18 rfl hHeld ?_
          refine Tk 19 rfl hHeld ?_
          refine To 20 rfl fun K hK => ?_
          go_simp
          refine Kz hK ?_
          clear hK K
          refine Wd ?_
          go_wp2_with fail
          go_meet
          exact ⟨true, rfl, (fun _ => rfl), (fun _ => rfl), hOx, hbx.drew, hTx⟩
         | false =>
          by_cases hk0 : k = 0
          ·subst hk0
           refine wp_region_ways 20 (fun _ => True) (by kernel_rfl) (trivial) (fun hHeld => ?_)
           refine Tk 0 rfl hHeld ?_
           refine Tk 1 rfl hHeld ?_
           refine TkG 2 rfl hHeld ?_
           refine TkG 3 rfl hHeld ?_
           refine TkG 4 rfl hHeld ?_
           refine TkU 5 rfl hHeld ?_
           refine TkU 6 rfl hHeld ?_
           refine TkU 7 rfl hHeld ?_
           refine TkU 8 rfl hHeld ?_
           refine TkU 9 rfl hHeld ?_
           refine TkU 10 rfl hHeld ?_
           refine TkU 11 rfl hHeld ?_
           refine TkU 12 rfl hHeld ?_
           refine TkU 13 rfl hHeld ?_
           refine TkU 14 rfl hHeld ?_
           refine TkU 15 rfl hHeld ?_
           refine TkU 16 rfl hHeld ?_
           refine TkU 17 rfl hHeld ?_
           refine TkG 18 rfl hHeld ?_
           refine Tk 19 rfl hHeld ?_
           refine To 20 rfl fun K hK => ?_
           go_simp
           refine Kz hK ?_
           clear hK K
           refine Wd ?_
           go_wp2_with fail
           go_meet
           exact ⟨false, rfl, (fun _ => rfl), (fun _ => rfl), hOx, hbx.drew, hTx⟩
          ·skip
           obtain ⟨m, rfl⟩ : ∃ m, k = m + 2 := ⟨k - 2, by have := HKE.out; omega⟩
           have hmj : m < j := by omega
           obtain ⟨lb, lo, hla, x1, x2, x3, x4, c0, c1, c2, c3, hei⟩ := hOx.cells m (by omega);subst hla;have HVX := Hh (HVL.out _ (HS.out.1 _ (List.getElem_mem (show m < L.length by omega))));have HXL := Hh (show ascP ps = true → Lib.compareBytes (encB (L[m]'(by omega))) (encB y) < 0 from fun hA => HASC.out hA m (HKJ.out hA) (by omega))
           generalize L[m]'(by omega) = x at *
           have e2 : ((m + 2 : Nat) : Int) = (m : Int) + 2 := by omega
           rw [e2];have hw1 : IntKind.i64.wrap ((m : Int) + 2 - 2) = (m : Int) := by rw [show (m : Int) + 2 - 2 = (m : Int) by omega]; exact IntWalk.i64_in _ (by omega)
           have hw2 : IntKind.i64.wrap (m : Int) = (m : Int) := IntWalk.i64_in _ (by omega);have hmI : (m : Int) < j := by omega
           have hm0 : (0 : Int) ≤ (m : Int) := by omega
           have hmp : (0 : Int) < (m : Int) + 2 := by omega
           have hHx := (hH.below hbx (Nat.le_refl _)).drew;have p0 := hHx.cell q0;have p1 := hHx.cell q1;have p2 := hHx.cell q2;have p3 := hHx.cell q3;have c0 := cell_drew c0;have c1 := cell_drew c1;have c2 := cell_drew c2;have c3 := cell_drew c3;have hbz := hbx.drew;have hOz := OwnI.drew hOx;have hTz := hTx.drew;obtain ⟨cmp, hcmp⟩ : ∃ cmp, Lib.compareBytes (encB x) (encB y) = cmp := ⟨_, rfl⟩
           have gx := (validP_iff x).1 HVX.out;have gy := (validP_iff y).1 HVY.out;have HGX := Hh gx;have HGY := Hh gy;have HCM := Hh hcmp;have HCL := Hh (show ascP ps = true → cmp < 0 from fun hA => by have h := HXL.out hA; rw [hcmp] at h; exact h);clear gx gy hcmp e2 hOx hbx hTx hk0 hk
           refine wp_region_ways 20 (fun w' => w'.cell? ⟨lb, lo + m * 4, none⟩ = some (.int .i64 x.kind) ∧ w'.cell? ⟨lb, lo + m * 4 + 1, none⟩ = some (.int .u64 x.n) ∧ w'.cell? ⟨lb, lo + m * 4 + 2, none⟩ = some (.slice x1 x.bytes.length x2) ∧ w'.cell? ⟨lb, lo + m * 4 + 3, none⟩ = some (.slice x3 x.items.length x4) ∧ w'.cell? ⟨ib, io + j * 4, none⟩ = some (.int .i64 y.kind) ∧ w'.cell? ⟨ib, io + j * 4 + 1, none⟩ = some (.int .u64 y.n) ∧ w'.cell? ⟨ib, io + j * 4 + 2, none⟩ = some (.slice y1 y.bytes.length y2) ∧ w'.cell? ⟨ib, io + j * 4 + 3, none⟩ = some (.slice y3 y.items.length y4)) (by kernel_rfl) (⟨c0, c1, c2, c3, p0, p1, p2, p3⟩) (fun hHeld => ?_)
           refine Tk 0 rfl hHeld ?_
           refine Tk 1 rfl hHeld ?_
           refine TkG 2 rfl hHeld ?_
           refine TkG 3 rfl hHeld ?_
           refine TkG 4 rfl hHeld ?_
           refine TkG 5 rfl hHeld ?_
           refine TkG 6 rfl hHeld ?_
           refine TkG 7 rfl hHeld ?_
           refine TkG 8 rfl hHeld ?_
           refine TkG 9 rfl hHeld ?_
           refine TkG 11 rfl hHeld ?_
           refine TkG 12 rfl hHeld ?_
           refine TkG 13 rfl hHeld ?_
           refine TkG 14 rfl hHeld ?_
           refine To 10 rfl fun K hK => ?_
           go_simp
           refine (ref_Raw x H _ _ x1 _ x2 x3 _ x4 _ 0 HGX.out.1 (by have := HGX.out.2.2; omega) hei.arg hHx).mono ?_
           rintro e w5 ⟨r5, rfl, hf5⟩
           obtain ⟨RA5, rc5, rfl, _⟩ := hf5.own.form;have hHx := hHx.below hf5.2 (Nat.le_refl _);have hbz := hbz.trans (hf5.2.mono hbz.size);have hOz := hOz.below hf5.2;have hTz := hTz.below hf5.2;have hsr5 := hf5.own.src;have c0 := cell_below c0 hf5.2;have c1 := cell_below c1 hf5.2;have c2 := cell_below c2 hf5.2;have c3 := cell_below c3 hf5.2
           refine Ko hK ?_ fun hHeld => ?_
           ·exact ⟨c0, c1, c2, c3, hHx.cell q0, hHx.cell q1, hHx.cell q2, hHx.cell q3⟩
           clear hK K
           refine To 15 rfl fun K hK => ?_
           go_simp
           refine (ref_Raw y H _ _ y1 _ y2 y3 _ y4 _ 0 HGY.out.1 (by have := HGY.out.2.2; omega) hex.arg hHx).mono ?_
           rintro e w6 ⟨r6, rfl, hf6⟩
           obtain ⟨RA6, rc6, rfl, _⟩ := hf6.own.form;have hHx := hHx.below hf6.2 (Nat.le_refl _);have hbz := hbz.trans (hf6.2.mono hbz.size);have hOz := hOz.below hf6.2;have hTz := hTz.below hf6.2;have hsr5 := hsr5.below hf6.2;have hsr6 := hf6.own.src;have c0 := cell_below c0 hf6.2;have c1 := cell_below c1 hf6.2;have c2 := cell_below c2 hf6.2;have c3 := cell_below c3 hf6.2
           refine Ko hK ?_ fun hHeld => ?_
           ·exact ⟨c0, c1, c2, c3, hHx.cell q0, hHx.cell q1, hHx.cell q2, hHx.cell q3⟩
           clear hK K
           refine To 16 rfl fun K hK => ?_
           go_simp
           refine (ref_Compare _ RA5 RA6 (encB x) (encB y) (encB x).length (encB y).length rc5 rc6 rfl rfl (by have := HGX.out.2.2; omega) (by have := HGY.out.2.2; omega) hsr5 hsr6).mono ?_
           rintro e w7 ⟨rfl, hb7⟩
           rw [HCM.out];have hHx := hHx.below hb7 (Nat.le_refl _);have hbz := hbz.trans (hb7.mono hbz.size);have hOz := hOz.below hb7;have hTz := hTz.below hb7;have c0 := cell_below c0 hb7;have c1 := cell_below c1 hb7;have c2 := cell_below c2 hb7;have c3 := cell_below c3 hb7
           refine Ko hK ?_ fun hHeld => ?_
           ·exact ⟨c0, c1, c2, c3, hHx.cell q0, hHx.cell q1, hHx.cell q2, hHx.cell q3⟩
           clear hK K
           refine TkG 17 rfl hHeld ?_
           refine TkG 18 rfl hHeld ?_
           refine Tk 19 rfl hHeld ?_
           refine To 20 rfl fun K hK => ?_
           go_simp
           refine Kz hK ?_
           clear hK K
           refine Wd ?_
           clear hHeld hsr5 hsr6 c0 c1 c2 c3 p0 p1 p2 p3;go_wp2_with fail
           go_meet
           exact ⟨cmp == 0, rfl, (fun h => absurd h (by omega)), (fun hA => by rw [beq_eq_false_iff_ne]; have := HCL.out hA; omega), hOz, hbz, hTz⟩
        case rest =>
         clear hOx hbx hTx;obtain ⟨b', rfl, hb', hbA, hOx, hbx, hTx⟩ := hcut;have HBA2 := Hh hbA;clear hbA;have HB := Hh hb';clear hb';obtain ⟨cs1, cs2, hc1, hc2, hS1, hS2⟩ := hOx.parts k;have hHx := (hH.below hbx (Nat.le_refl _)).drew;have hHc := hH.below hbx (Nat.le_refl _);have p0 := hHx.cell q0;have p1 := hHx.cell q1;have p2 := hHx.cell q2;have p3 := hHx.cell q3;have r0 := hHx.cell s0;have r1 := hHx.cell s1;have r2 := hHx.cell s2;have r3 := hHx.cell s3;have hbz := (Below.refl wc.heap.size wc).drew;have hj1 : ((j : Int) + 1).toNat = j + 1 := by omega
         have hj1g : (0 : Int) ≤ (j : Int) + 1 := by omega
         have hw1 := HW1.out;have hkc : (k : Int) ≤ vc := Int.le_trans hkI HVC.out;have hk0 : (0 : Int) ≤ k := Int.natCast_nonneg k;go_upto_region 18 with fail
         refine wp_region_ways 19 (fun w' => w'.cell? ⟨ib, io + j * 4, none⟩ = some (.int .i64 y.kind) ∧ w'.cell? ⟨ib, io + j * 4 + 1, none⟩ = some (.int .u64 y.n) ∧ w'.cell? ⟨ib, io + j * 4 + 2, none⟩ = some (.slice y1 y.bytes.length y2) ∧ w'.cell? ⟨ib, io + j * 4 + 3, none⟩ = some (.slice y3 y.items.length y4) ∧ w'.cell? ⟨ib, io + (j + 1) * 4, none⟩ = some (.int .i64 z.kind) ∧ w'.cell? ⟨ib, io + (j + 1) * 4 + 1, none⟩ = some (.int .u64 z.n) ∧ w'.cell? ⟨ib, io + (j + 1) * 4 + 2, none⟩ = some (.slice z1 z.bytes.length z2) ∧ w'.cell? ⟨ib, io + (j + 1) * 4 + 3, none⟩ = some (.slice z3 z.items.length z4)) (by kernel_rfl) (⟨p0, p1, p2, p3, r0, r1, r2, r3⟩) (fun hHeld => ?_)
         refine Tk 0 rfl hHeld ?_
         refine Tk 1 rfl hHeld ?_
         refine Tk 2 rfl hHeld ?_
         refine Tk 4 rfl hHeld ?_
         refine Tk 5 rfl hHeld ?_
         refine Tk 6 rfl hHeld ?_
         refine Tk 7 rfl hHeld ?_
         refine Tk 8 rfl hHeld ?_
         refine Tk 9 rfl hHeld ?_
         refine Tk 10 rfl hHeld ?_
         refine Tk 11 rfl hHeld ?_
         refine Tk 12 rfl hHeld ?_
         refine Tk 15 rfl hHeld ?_
         refine Tk 16 rfl hHeld ?_
         refine Tk 17 rfl hHeld ?_
         refine Ways.two (i := 3) (j := 13) rfl rfl (by kernel_rfl) (fun K hK => ?_) (fun K hK => ?_)
         ·rw [if_pos (by rfl)]
          refine wp_app_items (.const (.slice none 0 0)) (.tmp 76) rfl wc.heap.size (.slice none 0 0) H [] rfl (OwnI.nil _ _ _) _ _ _ cs1 (L.take k) rfl (by rw [List.length_take]; omega) hc1 (hS1.below hbz) (by simp; omega) hbz.size fun v5 w5 hX hg hat => ?_
          rw [List.nil_append] at hX;have hbq := grown_none (by simpa [Value.ownBlock] using hg);have hbz := hbz.trans (hbq.mono hbz.size)
          try have hS3 := hS3.below hbq
          refine Ko hK ?_ fun hHeld => ?_
          ·exact ⟨(hHc.below hbz (Nat.le_refl _)).cell q0, (hHc.below hbz (Nat.le_refl _)).cell q1, (hHc.below hbz (Nat.le_refl _)).cell q2, (hHc.below hbz (Nat.le_refl _)).cell q3, (hHc.below hbz (Nat.le_refl _)).cell s0, (hHc.below hbz (Nat.le_refl _)).cell s1, (hHc.below hbz (Nat.le_refl _)).cell s2, (hHc.below hbz (Nat.le_refl _)).cell s3⟩
          clear hK K
          refine To 13 rfl fun K hK => ?_
          go_simp
          have hS3 := below_src hbz 75 #[.int .i64 y.kind, .int .u64 y.n, .slice y1 y.bytes.length y2, .slice y3 y.items.length y4, .int .i64 z.kind, .int .u64 z.n, .slice z1 z.bytes.length z2, .slice z3 z.items.length z4]
          try have hX := hX.alloc (.cells #[.int .i64 y.kind, .int .u64 y.n, .slice y1 y.bytes.length y2, .slice y3 y.items.length y4, .int .i64 z.kind, .int .u64 z.n, .slice z1 z.bytes.length z2, .slice z3 z.items.length z4] 75)
          have hbz := hbz.alloc hbz.size (.cells #[.int .i64 y.kind, .int .u64 y.n, .slice y1 y.bytes.length y2, .slice y3 y.items.length y4, .int .i64 z.kind, .int .u64 z.n, .slice z1 z.bytes.length z2, .slice z3 z.items.length z4] 75)
          refine Ko hK ?_ fun hHeld => ?_
          ·exact ⟨(hHc.below hbz (Nat.le_refl _)).cell q0, (hHc.below hbz (Nat.le_refl _)).cell q1, (hHc.below hbz (Nat.le_refl _)).cell q2, (hHc.below hbz (Nat.le_refl _)).cell q3, (hHc.below hbz (Nat.le_refl _)).cell s0, (hHc.below hbz (Nat.le_refl _)).cell s1, (hHc.below hbz (Nat.le_refl _)).cell s2, (hHc.below hbz (Nat.le_refl _)).cell s3⟩
          clear hK K
          refine To 14 rfl fun K hK => ?_
          rw [if_pos (by rfl)]
          refine wp_app_items (.tmp 77) (.tmp 87) rfl wc.heap.size _ H (L.take k) rfl hX _ _ _ (itemC y y1 y2 y3 y4 ++ itemC z z1 z2 z3 z4) [y, z] rfl rfl ((ItemsC.one hex).app (ItemsC.one hez)) hS3 (by rw [List.length_take]; simp; omega) hbz.size fun v7 w7 hX7 hg7 hat7 => ?_
          have hbz := hbz.grown hg7 hbz.size (fun q hq => (hX.lt q hq).1)
          refine Ko hK ?_ fun hHeld => ?_
          ·exact ⟨(hHc.below hbz (Nat.le_refl _)).cell q0, (hHc.below hbz (Nat.le_refl _)).cell q1, (hHc.below hbz (Nat.le_refl _)).cell q2, (hHc.below hbz (Nat.le_refl _)).cell q3, (hHc.below hbz (Nat.le_refl _)).cell s0, (hHc.below hbz (Nat.le_refl _)).cell s1, (hHc.below hbz (Nat.le_refl _)).cell s2, (hHc.below hbz (Nat.le_refl _)).cell s3⟩
          clear hK K
          refine To 18 rfl fun K hK => ?_
          rw [if_pos (by rfl)]
          refine wp_app_items (.tmp 88) (.tmp 91) rfl wc.heap.size _ H (L.take k ++ [y, z]) rfl hX7 _ _ _ cs2 (L.drop k) rfl (by rw [List.length_drop]; omega) hc2 ?_ (by rw [List.length_append, List.length_take, List.length_drop]; simp; omega) hbz.size fun v8 w8 hX8 hg8 hat8 => ?_
          ·exact (Src.slicek hS2 hc2 hLl HVC.out).below hbz
          have hbz := hbz.grown hg8 hbz.size (fun q hq => (hX7.lt q hq).1)
          refine Ko hK ?_ fun hHeld => ?_
          ·exact ⟨(hHc.below hbz (Nat.le_refl _)).cell q0, (hHc.below hbz (Nat.le_refl _)).cell q1, (hHc.below hbz (Nat.le_refl _)).cell q2, (hHc.below hbz (Nat.le_refl _)).cell q3, (hHc.below hbz (Nat.le_refl _)).cell s0, (hHc.below hbz (Nat.le_refl _)).cell s1, (hHc.below hbz (Nat.le_refl _)).cell s2, (hHc.below hbz (Nat.le_refl _)).cell s3⟩
          clear hK K
          refine To 19 rfl fun K hK => ?_
          go_simp
          refine Kz hK ?_
          clear hK K
          refine Wd ?_
          clear hHeld hX hX7 hg hat hg7 hat7 hg8 hat8 hbq hS3 hS1 hS2 hc1 hc2 p0 p1 p2 p3 r0 r1 r2 r3 hHx;obtain ⟨VA', vc', rfl, _⟩ := hX8.form;have hlen : (L.take k ++ [y, z] ++ L.drop k).length = j + 2 := by rw [List.length_append, List.length_append, List.length_take, List.length_drop]; simp; omega
          rw [hlen] at hX8;rw [hlen];have hO8 := hX8.more (base' := w.heap.size + 1) (by have := hTx.lt; omega);have hb8 := hbx.trans (hbz.mono hbx.size);have hT8 := hTx.below hbz;have HLN := Hh hlen;clear hlen hX8;go_wp2_with fail
          go_roundw
          case rel =>
           refine ⟨j + 2, L.take k ++ [y, z] ++ L.drop k, b', VA', vc', by omega, by have := HJ.out; omega, by go_num, rfl, rfl, HLN.out, hO8, fun x hx => ?_, ?_, fun h2 => ?_, hb8, hT8⟩
           ·simp only [List.mem_append, List.mem_cons, List.not_mem_nil, or_false] at hx
            rcases hx with (hx | rfl | rfl) | hx
            ·exact HS.out.1 x (List.mem_of_mem_take hx)
            ·exact HM1.out.1
            ·exact HM1.out.2
            ·exact HS.out.1 x (List.mem_of_mem_drop hx)
           ·rw [encL_put, HPS.out, HS.out.2.1]
           ·have hL0 := HS.out.2.2 h2;have hkj := HKJ.out h2
            refine ⟨by rw [HBA2.out h2]; exact hL0.1, ?_⟩
            rw [HPT.out, ← hL0.2, hkj, List.take_of_length_le (by omega), List.drop_of_length_le (by omega)]
            simp
          case measure => simp [intOf]; omega
         ·go_simp
          have hS3 := below_src hbz 75 #[.int .i64 y.kind, .int .u64 y.n, .slice y1 y.bytes.length y2, .slice y3 y.items.length y4, .int .i64 z.kind, .int .u64 z.n, .slice z1 z.bytes.length z2, .slice z3 z.items.length z4]
          try have hX := hX.alloc (.cells #[.int .i64 y.kind, .int .u64 y.n, .slice y1 y.bytes.length y2, .slice y3 y.items.length y4, .int .i64 z.kind, .int .u64 z.n, .slice z1 z.bytes.length z2, .slice z3 z.items.length z4] 75)
          have hbz := hbz.alloc hbz.size (.cells #[.int .i64 y.kind, .int .u64 y.n, .slice y1 y.bytes.length y2, .slice y3 y.items.length y4, .int .i64 z.kind, .int .u64 z.n, .slice z1 z.bytes.length z2, .slice z3 z.items.length z4] 75)
          refine Ko hK ?_ fun hHeld => ?_
          ·exact ⟨(hHc.below hbz (Nat.le_refl _)).cell q0, (hHc.below hbz (Nat.le_refl _)).cell q1, (hHc.below hbz (Nat.le_refl _)).cell q2, (hHc.below hbz (Nat.le_refl _)).cell q3, (hHc.below hbz (Nat.le_refl _)).cell s0, (hHc.below hbz (Nat.le_refl _)).cell s1, (hHc.below hbz (Nat.le_refl _)).cell s2, (hHc.below hbz (Nat.le_refl _)).cell s3⟩
          clear hK K
          refine To 3 rfl fun K hK => ?_
          rw [if_pos (by rfl)]
          refine wp_app_items (.const (.slice none 0 0)) (.tmp 76) rfl wc.heap.size (.slice none 0 0) H [] rfl (OwnI.nil _ _ _) _ _ _ cs1 (L.take k) rfl (by rw [List.length_take]; omega) hc1 (hS1.below hbz) (by simp; omega) hbz.size fun v5 w5 hX hg hat => ?_
          rw [List.nil_append] at hX;have hbq := grown_none (by simpa [Value.ownBlock] using hg);have hbz := hbz.trans (hbq.mono hbz.size)
          try have hS3 := hS3.below hbq
          refine Ko hK ?_ fun hHeld => ?_
          ·exact ⟨(hHc.below hbz (Nat.le_refl _)).cell q0, (hHc.below hbz (Nat.le_refl _)).cell q1, (hHc.below hbz (Nat.le_refl _)).cell q2, (hHc.below hbz (Nat.le_refl _)).cell q3, (hHc.below hbz (Nat.le_refl _)).cell s0, (hHc.below hbz (Nat.le_refl _)).cell s1, (hHc.below hbz (Nat.le_refl _)).cell s2, (hHc.below hbz (Nat.le_refl _)).cell s3⟩
          clear hK K
          refine To 14 rfl fun K hK => ?_
          rw [if_pos (by rfl)]
          refine wp_app_items (.tmp 77) (.tmp 87) rfl wc.heap.size _ H (L.take k) rfl hX _ _ _ (itemC y y1 y2 y3 y4 ++ itemC z z1 z2 z3 z4) [y, z] rfl rfl ((ItemsC.one hex).app (ItemsC.one hez)) hS3 (by rw [List.length_take]; simp; omega) hbz.size fun v7 w7 hX7 hg7 hat7 => ?_
          have hbz := hbz.grown hg7 hbz.size (fun q hq => (hX.lt q hq).1)
          refine Ko hK ?_ fun hHeld => ?_
          ·exact ⟨(hHc.below hbz (Nat.le_refl _)).cell q0, (hHc.below hbz (Nat.le_refl _)).cell q1, (hHc.below hbz (Nat.le_refl _)).cell q2, (hHc.below hbz (Nat.le_refl _)).cell q3, (hHc.below hbz (Nat.le_refl _)).cell s0, (hHc.below hbz (Nat.le_refl _)).cell s1, (hHc.below hbz (Nat.le_refl _)).cell s2, (hHc.below hbz (Nat.le_refl _)).cell s3⟩
          clear hK K
          refine To 18 rfl fun K hK => ?_
          rw [if_pos (by rfl)]
          refine wp_app_items (.tmp 88) (.tmp 91) rfl wc.heap.size _ H (L.take k ++ [y, z]) rfl hX7 _ _ _ cs2 (L.drop k) rfl (by rw [List.length_drop]; omega) hc2 ?_ (by rw [List.length_append, List.length_take, List.length_drop]; simp; omega) hbz.size fun v8 w8 hX8 hg8 hat8 => ?_
          ·exact (Src.slicek hS2 hc2 hLl HVC.out).below hbz
          have hbz := hbz.grown hg8 hbz.size (fun q hq => (hX7.lt q hq).1)
          refine Ko hK ?_ fun hHeld => ?_
          ·exact ⟨(hHc.below hbz (Nat.le_refl _)).cell q0, (hHc.below hbz (Nat.le_refl _)).cell q1, (hHc.below hbz (Nat.le_refl _)).cell q2, (hHc.below hbz (Nat.le_refl _)).cell q3, (hHc.below hbz (Nat.le_refl _)).cell s0, (hHc.below hbz (Nat.le_refl _)).cell s1, (hHc.below hbz (Nat.le_refl _)).cell s2, (hHc.below hbz (Nat.le_refl _)).cell s3⟩
          clear hK K
          refine To 19 rfl fun K hK => ?_
          go_simp
          refine Kz hK ?_
          clear hK K
          refine Wd ?_
          clear hHeld hX hX7 hg hat hg7 hat7 hg8 hat8 hbq hS3 hS1 hS2 hc1 hc2 p0 p1 p2 p3 r0 r1 r2 r3 hHx;obtain ⟨VA', vc', rfl, _⟩ := hX8.form;have hlen : (L.take k ++ [y, z] ++ L.drop k).length = j + 2 := by rw [List.length_append, List.length_append, List.length_take, List.length_drop]; simp; omega
          rw [hlen] at hX8;rw [hlen];have hO8 := hX8.more (base' := w.heap.size + 1) (by have := hTx.lt; omega);have hb8 := hbx.trans (hbz.mono hbx.size);have hT8 := hTx.below hbz;have HLN := Hh hlen;clear hlen hX8;go_wp2_with fail
          go_roundw
          case rel =>
           refine ⟨j + 2, L.take k ++ [y, z] ++ L.drop k, b', VA', vc', by omega, by have := HJ.out; omega, by go_num, rfl, rfl, HLN.out, hO8, fun x hx => ?_, ?_, fun h2 => ?_, hb8, hT8⟩
           ·simp only [List.mem_append, List.mem_cons, List.not_mem_nil, or_false] at hx
            rcases hx with (hx | rfl | rfl) | hx
            ·exact HS.out.1 x (List.mem_of_mem_take hx)
            ·exact HM1.out.1
            ·exact HM1.out.2
            ·exact HS.out.1 x (List.mem_of_mem_drop hx)
           ·rw [encL_put, HPS.out, HS.out.2.1]
           ·have hL0 := HS.out.2.2 h2;have hkj := HKJ.out h2
            refine ⟨by rw [HBA2.out h2]; exact hL0.1, ?_⟩
            rw [HPT.out, ← hL0.2, hkj, List.take_of_length_le (by omega), List.drop_of_length_le (by omega)]
            simp
          case measure => simp [intOf]; omega
    ·have hkl : j = ps.length := by omega
     subst hkl;have hmodL : (encL L).length = (encL ps).length := by have := HS.out.2.1; rw [List.take_length] at this; exact this
     have hL2 : ascP ps = true → b = false ∧ L = ps := fun h => by have := HS.out.2.2 h; rw [List.take_length] at this; exact this
     have HZ := Hh (And.intro hmodL hL2);clear hmodL hL2
     cases b with
     | true =>
      go_wp2_with (with_reducible refine stop_store ?_)
      refine stI hTr fun w9 hT9 hg9 => ?_
      have hG9 := (Grows.of_below hH hbr).grownOwn hn0 (Nat.le_refl _) hg9;go_wp2_with fail
      refine ret_row_tmp rfl rfl hT9 rfl rfl size_item rfl ?_
      exact ⟨_, .inr ⟨7, rfl, by omega, ⟨none, 0, none, 0, H, rfl, hG9, IsItem.plain H 0 0 (by omega) (by omega)⟩, fun h => by have := (HZ.out.2 h.2.1).1; cases this⟩⟩
     | false =>
      obtain ⟨H8, hl8, hh8, hf8, hz8, hle1, hle2, hel8⟩ := hOr.snap (hH.below hbr (Nat.le_refl _)) (fun g hg => hH.none_of_ge (by have := (hOr.lt g (own_of hg)).1; omega))
      have hGz : Grows w H wr H8 := ⟨hbr, hl8, hh8, fun b o hb => by
       rcases hf8 b o hb with h | h
       ·exact .inl h
       ·exact .inr (by have := (hOr.lt b (own_of h)).1; omega)⟩
      have hn8 : H8 w.heap.size = none := by
       cases h8 : H8 w.heap.size with
       | none => rfl
       | some o =>
        rcases hf8 _ o h8 with h | h
        ·rw [hn0] at h; cases h
        ·have := (hOr.lt w.heap.size (own_of h)).1; omega
      have hLl2 := hz8;obtain ⟨x7, hx7⟩ : ∃ x, Itm.mk 5 0 [] L = x := ⟨_, rfl⟩
      have hi8 : IsItem H8 none 0 VA vc x7 := by
       rw [← hx7, IsItem]
       exact ⟨⟨by omega, by omega, by omega, hle1, hle2⟩, IsBytes.nil _, hel8⟩
      have ha8 : ItemA H8 5 0 none 0 0 VA ps.length vc x7 := by
       refine ⟨by rw [← hx7]; rfl, by rw [← hx7]; rfl, by rw [← hx7]; rfl, ?_, hi8⟩
       rw [← hx7]; exact hz8
      have hG9 := hGz.alloc (.cells #[.int .i64 5, .int .u64 0, .slice none 0 0, .slice VA ps.length vc] 75);have hT9 := hTr.alloc (.cells #[.int .i64 5, .int .u64 0, .slice none 0 0, .slice VA ps.length vc] 75);have hB9 := Blk.new wr 75 #[.int .i64 5, .int .u64 0, .slice none 0 0, .slice VA ps.length vc];have V := Hh (ref_Valid (hTab.mono hl8) ha8 _ hG9.holds);have HA8 := Hh ha8;have HX7 := Hh hx7;clear hx7 hi8 ha8 hle1 hle2 hel8 hz8 hLl2 hf8 hOr hTr
      cases hv : validP x7 with
      | false =>
       rw [hv] at V;have HV := Hh hv;clear hv;go_wp2_with fail
       refine V.out.mono ?_
       rintro e w10 ⟨rfl, hb10⟩
       have hG10 := hG9.below_ hb10;have hT10 := hT9.below hb10;clear hG9 hT9 hB9 hGz hb10;go_wp2_with (with_reducible refine stop_store ?_)
       refine stI hT10 fun w11 hT11 hg11 => ?_
       have hG11 := hG10.grownOwn hn8 (Nat.le_refl _) hg11;go_wp2_with fail
       refine ret_row_tmp rfl rfl hT11 rfl rfl size_item rfl ?_
       exact ⟨_, .inr ⟨8, rfl, by omega, ⟨none, 0, none, 0, H8, rfl, hG11, IsItem.plain H8 0 0 (by omega) (by omega)⟩, fun h => by
        have h1 := HV.out;rw [← HX7.out, (HZ.out.2 h.2.1).2, h.2.2.2] at h1
        cases h1⟩⟩
      | true =>
       rw [hv] at V;have HV := Hh hv;clear hv;go_wp2_with fail
       refine V.out.mono ?_
       rintro e w10 ⟨rfl, hb10⟩
       have hG10 := hG9.below_ hb10;have hT10 := hT9.below hb10;have hB10 := hB9.below hb10;have c0 := hB10.cell 0 rfl;have c1 := hB10.cell 1 rfl;have c2 := hB10.cell 2 rfl;have c3 := hB10.cell 3 rfl;have C := Hh (ref_Copy x7 H8 _ _ _ _ _ _ _ _ w10 (validP_modest HV.out) HA8.out hG10.holds);clear hG9 hT9 hB9 hGz hb10;go_wp2_with fail
       refine C.out.mono ?_
       rintro e w11 ⟨v11, rfl, ja, jb, jc, jd, H11, rfl, hG11, hi11⟩
       have hT11 := hT10.below hG11.below;have hn11 := hG11.none hn8 hT10.lt;have hG12 := hG10.trans hG11;clear hT10 hG10 hG11 c0 c1 c2 c3;go_wp2_with (with_reducible refine stop_store ?_)
       refine stI hT11 fun w12 hT12 hg12 => ?_
       have hG13 := hG12.grownOwn hn11 (Nat.le_refl _) hg12;go_wp2_with fail
       refine ret_row_tmp rfl rfl hT12 rfl rfl size_item rfl ?_
       exact ⟨_, .inl ⟨L, rfl, by rw [HX7.out]; exact ⟨ja, jb, jc, jd, H11, rfl, hG13, hi11⟩, by rw [HX7.out]; exact HV.out, HZ.out.1, fun h => (HZ.out.2 h).2⟩⟩
theorem snap_keep {H H' : Snap} {A : Option Addr} (hf : ∀ b o, H' b = some o → H b = some o ∨ A.map (·.block) = some b) {q : Nat} (h0 : H q = none) (hA : A.map (·.block) = some q → False) : H' q = none := by
 cases h : H' q with
 | none => rfl
 | some o =>
  rcases hf q o h with h1 | h1
  ·rw [h0] at h1; cases h1
  ·exact (hA h1).elim
theorem own_hid3 {wr : World} {Hr : Snap} (hH : Holds wr Hr) {r0 r : Option Nat} (h0 : ∀ q, r0 = some q → Hr q = none) (h : At0 wr r0 r) : ∀ q, r = some q → Hr q = none := fun q hq => by
 rcases h with h | ⟨g, h1, h2⟩
 ·exact h0 q (by rw [← h, hq])
 ·rw [hq] at h1; injection h1 with h1; subst h1; exact hH.none_of_ge h2
def PL.pre (L : List Itm) (k0 : Nat) : PL → PL
 | .err q => .err q
 | .ok l k c => .ok (L ++ l) (k0 + k) c
theorem arr_err_step {p : List UInt8 → Nat → PR} {m : Nat} {b : List UInt8} {cc q : Nat} (L : List Itm) (k0 : Nat) (h : p b cc = .err q) : (arrP p (m + 1) b cc).pre L k0 = .err q := by rw [arrP, h]; rfl
theorem arr_ok_step {p : List UInt8 → Nat → PR} {m : Nat} {b : List UInt8} {cc k c' : Nat} {x : Itm} (L : List Itm) (k0 : Nat) (h : p b cc = .ok x k c') : (arrP p (m + 1) b cc).pre L k0 = (arrP p m (b.drop k) c').pre (L ++ [x]) (k0 + k) := by
 rw [arrP, h]
 simp only
 cases arrP p m (b.drop k) c' with
 | err q => rfl
 | ok l k2 c2 => simp [PL.pre, Nat.add_assoc]
theorem pre_nil (r : PL) : r.pre [] 0 = r := by cases r <;> simp [PL.pre]
theorem Rdg.snap {T : TypeId} {w w' : World} {H H' H'' : Snap} {g B : Nat} {A0 : Option Addr} {c : Nat} {l : List UInt8} {p cnt : Nat} {A : Option Addr} (h : Rdg T w H w' H' g A0 c l p cnt) (hl : H'.le H'') (hh : Holds w' H'') (hf : ∀ b o, H'' b = some o → H' b = some o ∨ A.map (·.block) = some b)
  (hA : ∀ q, A.map (·.block) = some q → B ≤ q) (hB : w.heap.size ≤ B) (hg : g < w.heap.size) : Rdg T w H w' H'' g A0 c l p cnt := by
 refine ⟨⟨h.grows.grown, h.grows.le.trans hl, hh, fun b o hb => ?_⟩, h.psr.blk, h.psr.bytes.mono hl, hh, ?_, h.psr.le, h.psr.small, h.psr.cnt_le⟩
 ·rcases hf b o hb with h1 | h1
  ·exact h.grows.fresh b o h1
  ·exact .inr (by have := hA _ h1; omega)
 ·cases hx : H'' g with
  | none => rfl
  | some o =>
   rcases hf g o hx with h1 | h1
   ·rw [h.psr.apart] at h1; cases h1
   ·have := hA _ h1; omega
section
variable {d : Nat} {w : World} {H : Snap} {g : Nat} {A : Option Addr} {c : Nat} {l : List UInt8} {p cnt lv : Nat}
theorem p_item_4 (ih : PItem d) (hTab : Tabs H) (hlv : lv + (d + 1) = 8) (hP : Psr 107 w g H A c l p cnt) (hc : cnt < 256) {f n k : Nat} (hh : headP (l.drop p) = .ok (f, n, k)) (hk : f / 32 = 4) : Calls Tryz.prog 58 #[.pointer (some ⟨g, 0, none⟩), .int .i64 (lv : Int)] w (ItemOut 107 w H g A c l p (parse (d + 1) (l.drop p) cnt)) := by
 have hgl := hP.gt;have hd0 := (Rdg.refl hP).alloc zeroO;have hT0 := Blk.new w 75 #[.int .i64 0, .int .u64 0, .slice none 0 0, .slice none 0 0];have hn0 : H w.heap.size = none := hP.holds.none_of_ge (Nat.le_refl _);have c2 := hd0.psr.blk.cell 2 rfl;have E0 := Hh (parse_arr d (l.drop p) cnt (by omega) hh hk);have S : (f : Int) / 32 = 4 := by omega
 have hlv1 : ¬ ((8 : Int) ≤ (lv : Int)) := by omega
 have KL : IntKind.i64.wrap ((lv : Int) + 1) = (lv : Int) + 1 := IntWalk.i64_in _ (by omega);have hlvi : (lv : Int) ≤ 8 := by omega
 have hc256 : ((cnt : Int) == 256) = false := by simp; omega
 have hc256' : ((cnt : Int) = 256) = False := eq_false (by omega);have KC : IntKind.i64.wrap ((cnt : Int) + 1) = (cnt : Int) + 1 := IntWalk.i64_in _ (by omega);have HC := Hh hc;clear hc;go_enter Tryz.func58, Tryz.ntmps58
 go_wp2_with (with_reducible refine stop_store ?_)
 refine wpList_store_cell rfl _ _ _ rfl rfl g 2 (.int .i64 ((cnt : Int) + 1)) rfl rfl _ _ hd0.psr.blk size_int1 (by simp) rfl fun w2 hB2 hG2 => ?_
 have hd2 : Rdg 107 w H w2 H g A c l p (cnt + 1) := hd0.step hG2 hB2 hP.le (by have := HC.out; omega);have hT2 := hT0.gr hG2 (by omega);have PH := Hh (p_head hd2.psr);clear hd0 hT0 hB2 hG2 c2 KC hc256 hc256';go_wp2_with fail
 refine PH.out.mono ?_
 intro e w3 hs
 rw [HeadSaid, hh] at hs;obtain ⟨rfl, hB3, hG3⟩ := hs;have HS := headP_spec hh;have hle3 : p + k ≤ l.length := by have := HS.le; rw [List.length_drop] at this; have := hP.le; omega
 have hd3 : Rdg 107 w H w3 H g A c l (p + k) (cnt + 1) := hd2.step hG3 hB3 hle3 (by have := HC.out; omega);have hT3 := hT2.gr hG3 (by omega);have HF := Hh HS;clear hd2 hT2 hB3 hG3 PH HS hh;rw [List.drop_drop] at E0;have hX0 := Blk.new w3 75 #[.int .i64 0, .int .u64 0, .slice none 0 0, .slice none 0 0];have hd4 := hd3.alloc zeroO;have hT4 := hT3.alloc zeroO;have hlt3 := Hh hT3.lt;have hXn : H w3.heap.size = none := hd3.psr.holds.none_of_ge (Nat.le_refl _);clear hd3 hT3;go_wp2_with (with_reducible refine stop_store ?_)
 refine stI hX0 fun w4 hX4 hg4 => ?_
 have hd5 := hd4.gb hXn (Nat.le_of_lt hlt3.out) hgl hg4;have hT5 := hT4.grown hg4 (by intro e; injection e with e; have := hlt3.out; omega);clear hd4 hT4 hX0 hg4;obtain ⟨X, hXX⟩ : ∃ X, w3.heap.size = X := ⟨_, rfl⟩
 rw [hXX] at hX4 hXn hlt3 ⊢;clear hXX;have HNL := Hh HF.out.n_lt;obtain ⟨P, hPP⟩ : ∃ P, p + k = P := ⟨_, rfl⟩
 rw [hPP] at hd5 E0;go_wp2_with fail
 go_loopw [7] (fun v7 wr => ∃ (m : Nat) (Hr : Snap) (VA : Option Addr) (vc vn : Nat) (L : List Itm) (k0 cc : Nat), v7 = .int .u64 (m : Int) ∧ m ≤ n ∧ vn = L.length ∧ Rdg 107 w H wr Hr g A c l (P + k0) cc ∧ Blk wr w.heap.size 75 #[.int .i64 0, .int .u64 0, .slice none 0 0, .slice none 0 0] ∧ Hr w.heap.size = none ∧
  Blk wr X 75 #[.int .i64 4, .int .u64 0, .slice none 0 0, .slice VA vn vc] ∧ Hr X = none ∧ OwnI wr (X + 1) (.slice VA vn vc) Hr L ∧ (∀ q, (Value.slice VA vn vc).ownBlock = some q → Hr q = none) ∧ L.length ≤ cc ∧
  arrP (parse d) n (l.drop P) (cnt + 1) = (arrP (parse d) m (l.drop (P + k0)) cc).pre L k0) (fun v7 _ => (intOf v7).toNat)
 case atStart => exact ⟨n, H, none, 0, 0, [], 0, cnt + 1, rfl, Nat.le_refl _, rfl, hd5, hT5, hn0, hX4, hXn, OwnI.nil _ _ H, by intro q hq; simp [Value.ownBlock] at hq, by simp, by rw [pre_nil]; rfl⟩
 case round =>
  clear hd5 hT5 hX4;obtain ⟨m, Hr, VA, vc, vn, L, k0, cc, rfl, hmn, rfl, hdr, hTr, hTn, hXr, hXrn, hOr, hnr, hLc, hrel2⟩ := hrel;have HREL := Hh hrel2;have HLC := Hh hLc;have HMN := Hh hmn;clear hrel2 hLc hmn
  by_cases hm0 : 0 < m
  ·obtain ⟨m1, rfl⟩ : ∃ m1, m = m1 + 1 := ⟨m - 1, by omega⟩
   have hmi : (0 : Int) < ((m1 + 1 : Nat) : Int) := by omega
   have IT := ih wr Hr g A c l (P + k0) cc (lv + 1) (hTab.mono hdr.grows.le) (by omega) hdr.psr;rw [show ((lv + 1 : Nat) : Int) = (lv : Int) + 1 by omega] at IT;have ITH := Hh IT;have hXl := Hh hXr.lt;clear IT;go_wp2_with fail
   refine ITH.out.mono ?_
   intro e w5 hs
   cases hp : parse d (l.drop (P + k0)) cc with
   | err q =>
    rw [hp, ItemOut] at hs;obtain ⟨rfl, H5, p5, cnt5, hd35⟩ := hs;have hq0 : ((q : Int) != 0) = true := by rw [bne_iff_ne]; have := parse_err _ _ _ _ hp; omega
    have hq0' : ((q : Int) = 0) = False := eq_false (by have := parse_err _ _ _ _ hp; omega);have E : Hid (parse (d + 1) (l.drop p) cnt = .err q) := by rw [Hid, E0.out, HREL.out, arr_err_step L k0 hp]
    have hd6 := hdr.trans hd35;have hT6 := hTr.rdg hd35 (by omega);have hn6 := hd35.hid hTn hTr.lt;have hY := Blk.new w5 75 #[.int .i64 0, .int .u64 0, .slice none 0 0, .slice none 0 0];have hYn : H5 w5.heap.size = none := hd6.psr.holds.none_of_ge (Nat.le_refl _);have hTl := Hh hT6.lt;have hd7 := hd6.alloc zeroO;have hT7 := hT6.alloc zeroO;clear ITH hp hdr hd35 hTr hXr hOr hnr HREL HLC hd6 hT6;go_wp2_with (with_reducible refine stop_store ?_)
    refine stI hY fun w8 hY8 hg8 => ?_
    have hd8 := hd7.gb hYn (Nat.le_of_lt hTl.out) hgl hg8;have hT8 := hT7.grown hg8 (by intro e; injection e with e; have := hTl.out; omega);clear hd7 hT7 hY hg8 hY8;go_wp2_with (with_reducible refine stop_store ?_)
    refine stI hT8 fun wz hTy hgz => ?_
    have hdz := hd8.gb hn6 (Nat.le_refl _) hgl hgz;go_wp2_with fail
    refine ret_row_tmp rfl rfl hTy rfl rfl size_item rfl ?_
    exact ItemOut.err E.out rfl hdz
   | ok x k' c' =>
    rw [hp, ItemOut] at hs;obtain ⟨ja, jb, jc, jd, H5, rfl, hd35, hi5⟩ := hs
    have HR2 : Hid (arrP (parse d) n (l.drop P) (cnt + 1) = (arrP (parse d) m1 (l.drop (P + (k0 + k'))) c').pre (L ++ [x]) (k0 + k')) := by
     rw [Hid, HREL.out, arr_ok_step L k0 hp, List.drop_drop, Nat.add_assoc]
    have HC2 : Hid ((L ++ [x]).length ≤ c') := by
     have := parse_counts d _ _ _ _ _ hp;have := HLC.out;rw [Hid, List.length_append]; simp; omega
    have hd6 := hdr.trans hd35;rw [Nat.add_assoc] at hd6;have hc6 := hd6.psr.cnt_le;have hT6 := hTr.rdg hd35 (by omega);have hn6 := hd35.hid hTn hTr.lt;have hX6 := hXr.rdg hd35 (by have := hlt3.out; omega);have hXn6 := hd35.hid hXrn hXr.lt;have hO6 := (hOr.rdg hd35 (by have := hlt3.out; omega)).mono hd35.grows.le;have hon6 : ∀ q, (Value.slice VA L.length vc).ownBlock = some q → H5 q = none := fun q hq => hd35.hid (hnr q hq) (hOr.lt q hq).2
    have hY := Blk.new w5 75 #[.int .i64 0, .int .u64 0, .slice none 0 0, .slice none 0 0];have hYn : H5 w5.heap.size = none := hd6.psr.holds.none_of_ge (Nat.le_refl _);have hTl := Hh (And.intro hT6.lt hX6.lt);have hol := Hh (show ∀ q, (Value.slice VA L.length vc).ownBlock = some q → X + 1 ≤ q ∧ q < w5.heap.size from fun q hq => hO6.lt q hq);have hd7 := hd6.alloc zeroO;have hT7 := hT6.alloc zeroO;have hX7 := hX6.alloc zeroO;have hO7 := hO6.alloc zeroO;have HLN := Hh (show L.length ≤ 256 by have := HC2.out; simp at this; omega);clear ITH hp hdr hd35 hTr hXr hOr hnr HREL HLC hd6 hT6 hX6 hO6;go_wp2_with (with_reducible refine stop_store ?_)
    refine stI hY fun w8 hY8 hg8 => ?_
    have hd8 := hd7.gb hYn (Nat.le_of_lt hTl.out.1) hgl hg8;have hT8 := hT7.grown hg8 (by intro e; injection e with e; have := hTl.out.1; omega);have hX8 := hX7.grown hg8 (by intro e; injection e with e; have := hTl.out.2; omega);have hO8 := hO7.kl hg8 (fun q hv => by have := (hol.out q hv).2; omega);have b0 := hY8.cell 0 rfl;have b1 := hY8.cell 1 rfl;have b2 := hY8.cell 2 rfl;have b3 := hY8.cell 3 rfl;have x3 := hX8.cell 3 rfl;have hd9 := hd8.alloc (.cells (itemC x ja jb jc jd).toArray 75);have hT9 := hT8.alloc (.cells (itemC x ja jb jc jd).toArray 75);have hX9 := hX8.alloc (.cells (itemC x ja jb jc jd).toArray 75);have hO9 := hO8.alloc (.cells (itemC x ja jb jc jd).toArray 75);clear hd7 hT7 hX7 hO7 hY hg8 hd8 hT8 hX8 hO8;go_wp2_with (at_builtin; refine stop_in ?_)
    refine wpList_app_items rfl (.tmp 159) (.tmp 161) rfl (X + 1) (.slice VA L.length vc) H5 _ rfl hO9 _ 1 _ (itemC x ja jb jc jd) [x] rfl rfl (ItemsC.one hi5) (Src.new _ _ _ _ rfl _ rfl) (by have := HLN.out; simp; omega) hX9.lt fun v' w10 hO10 hg10 hat10 => ?_
    obtain ⟨VA', vc', rfl, _⟩ := hO10.form;have hT10 := hT9.grown hg10 (fun e => by have := (hol.out _ e).1; have := hlt3.out; omega);have hX10 := hX9.grown hg10 (fun e => by have := (hol.out _ e).1; omega);have hn10 := own_hid3 hd9.psr.holds hon6 hat10;have hd10 := hd9.grownRow hon6 (fun q hq => by have := (hol.out q hq).1; have := hlt3.out; omega) hgl hg10;obtain ⟨L', hL'⟩ : ∃ L', L ++ [x] = L' := ⟨_, rfl⟩
    rw [hL'] at hO10 hn10 HR2 HC2 ⊢;have HLL : Hid (L'.length = L.length + 1) := by rw [Hid, ← hL']; simp
    clear hL' hd9 hT9 hX9 hO9 hg10 hat10 x3;have hO10l := Hh (show ∀ q, (Value.slice VA' L'.length vc').ownBlock = some q → X + 1 ≤ q from fun q hq => (hO10.lt q hq).1);go_wp2_with (with_reducible refine stop_store ?_)
    refine wpList_store_cell rfl _ _ _ rfl rfl X 3 _ rfl rfl _ _ hX10 size_items (by simp) rfl fun w11 hX11 hg11 => ?_
    have hd11 := hd10.gb hXn6 (Nat.le_of_lt hlt3.out) hgl hg11;have hT11 := hT10.grown hg11 (by intro e; injection e with e; have := hlt3.out; omega)
    have hO11 := hO10.kept hg11 (by
     cases hv : (Value.slice VA' L'.length vc').ownBlock with
     | none => exact .inl rfl
     | some q => exact .inr (fun e => by injection e with e; have := hO10l.out q hv; omega))
    have KM : IntKind.u64.wrap (((m1 + 1 : Nat) : Int) - 1) = (m1 : Int) := by rw [show ((m1 + 1 : Nat) : Int) - 1 = (m1 : Int) by omega, IntKind.wrap_u64]; have := HNL.out; have := HMN.out; omega
    have KM2 : IntKind.u64.wrap (m1 : Int) = (m1 : Int) := by rw [IntKind.wrap_u64]; have := HNL.out; have := HMN.out; omega
    clear hd10 hT10 hX10 hO10 hg11;go_wp2_with fail
    go_roundw
    case rel => exact ⟨m1, H5, VA', vc', _, L', k0 + k', c', by first | rfl | (simp; done) | go_num, by have := HMN.out; omega, rfl, hd11, hT11, hn6, hX11, hXn6, hO11, hn10, HC2.out, HR2.out⟩
    case measure => simp [intOf]; try omega
  ·have hm : m = 0 := by omega
   subst hm
   have E1 : Hid (parse (d + 1) (l.drop p) cnt = .ok (.mk 4 0 [] L) (k + k0) cc) := by
    rw [Hid, E0.out, HREL.out, arrP]; simp [PL.pre]
   obtain ⟨H5, hl5, hh5, hf5, hz5, hle1, hle2, hel5⟩ := hOr.snap hdr.psr.holds (fun q hq => hnr q (own_of hq));have hlow : ∀ q, VA.map (·.block) = some q → X + 1 ≤ q := fun q hq => (hOr.lt q (own_of hq)).1
   have hn5 : H5 w.heap.size = none := snap_keep hf5 hTn (fun e => by have := hlow _ e; have := hlt3.out; omega);have hd6 : Rdg 107 w H wr H5 g A c l (P + k0) cc := hdr.snap (B := X + 1) hl5 hh5 hf5 hlow (by have := hlt3.out; omega) hgl;have b0 := hXr.cell 0 rfl;have b1 := hXr.cell 1 rfl;have b2 := hXr.cell 2 rfl;have b3 := hXr.cell 3 rfl;have hii : IsItem H5 none 0 VA vc (.mk 4 0 [] L) := IsRowI.item ⟨hle1, hle2, hel5⟩ 4 (by omega) 0 (by omega);have HPP := Hh hPP;clear hOr hf5 hel5 hh5 hl5 hTn hnr hlow hdr HREL hPP;go_wp2_with (with_reducible refine stop_store ?_)
   refine stI hTr fun wz hTy hgz => ?_
   have hdz := hd6.gb hn5 (Nat.le_refl _) hgl hgz;go_wp2_with fail
   refine ret_row_tmp rfl rfl hTy rfl rfl size_item rfl ?_
   exact ItemOut.ok E1.out rfl (by rw [← Nat.add_assoc, HPP.out]; exact hdz) hii
end
section
variable {p : List UInt8 → Nat → PR} {m : Nat} {b : List UInt8} {cc q k c1 k2 c2 : Nat} {x y : Itm} {last : Option (List UInt8)}
theorem map_err1 (L : List Itm) (k0 : Nat) (h : p b cc = .err q) : (mapP p (m + 1) b cc last).pre L k0 = .err q := by rw [mapP, h]; rfl
theorem map_errk (L : List Itm) (k0 : Nat) (h : p b cc = .ok x k c1) (h2 : keyP last (b.take k) = some q) : (mapP p (m + 1) b cc last).pre L k0 = .err q := by rw [mapP, h]; simp only; rw [h2]; rfl
theorem map_err2 (L : List Itm) (k0 : Nat) (h : p b cc = .ok x k c1) (h2 : keyP last (b.take k) = none) (h3 : p (b.drop k) c1 = .err q) : (mapP p (m + 1) b cc last).pre L k0 = .err q := by rw [mapP, h]; simp only; rw [h2]; simp only; rw [h3]; rfl
theorem map_ok2 (L : List Itm) (k0 : Nat) (h : p b cc = .ok x k c1) (h2 : keyP last (b.take k) = none) (h3 : p (b.drop k) c1 = .ok y k2 c2) : (mapP p (m + 1) b cc last).pre L k0 = (mapP p m (b.drop (k + k2)) c2 (some (b.take k))).pre (L ++ [x, y]) (k0 + (k + k2)) := by
 rw [mapP, h]; simp only; rw [h2]; simp only; rw [h3]; simp only
 cases mapP p m (b.drop (k + k2)) c2 (some (b.take k)) with
 | err q => rfl
 | ok l k3 c3 => simp [PL.pre, Nat.add_assoc]
end
def mapR (r : PL) : PR := match r with
 | .err q => .err q
 | .ok L k c => .ok (.mk 5 0 [] L) k c
section
variable {d : Nat} {w : World} {H : Snap} {g : Nat} {A : Option Addr} {c : Nat} {l : List UInt8} {p cnt lv : Nat}
theorem p_pairs (ih : PItem d) (hTab : Tabs H) (hlv : lv + d = 8) (hP : Psr 107 w g H A c l p cnt) (hl0 : 0 < l.length) (n : Nat) (hn : n < 18446744073709551616) : Calls Tryz.prog 78 #[.pointer (some ⟨g, 0, none⟩), .int .u64 (n : Int), .int .i64 (lv : Int)] w (ItemOut 107 w H g A c l p (mapR (mapP (parse d) n (l.drop p) cnt none))) := by
 have hgl := hP.gt;obtain ⟨b, off, rfl, HCELL0⟩ := hP.bytes.at_ hl0;have HCL := Hh HCELL0;have hn0 : H w.heap.size = none := hP.holds.none_of_ge (Nat.le_refl _);have hn1 : H (w.heap.size + 1) = none := hP.holds.none_of_ge (Nat.le_succ _);have hd0 := ((Rdg.refl hP).alloc zeroO).alloc zeroO;have hT0 := (Blk.new w 75 #[.int .i64 0, .int .u64 0, .slice none 0 0, .slice none 0 0]).alloc zeroO;have hX0 := Blk.new (w.alloc zeroO) 75 #[.int .i64 0, .int .u64 0, .slice none 0 0, .slice none 0 0];rw [show (w.alloc zeroO).heap.size = w.heap.size + 1 by simp] at hX0;have HLEN := Hh (And.intro hP.small (And.intro hP.bytes.le hP.bytes.max));have HHH := Hh hP.holds;have HNN := Hh hn;have hlvi : (lv : Int) ≤ 8 := by omega
 clear HCELL0 hn;go_enter Tryz.func78, Tryz.ntmps78
 go_wp2_with (with_reducible refine stop_store ?_)
 refine stI hX0 fun w4 hX4 hg4 => ?_
 have hd5 := hd0.grownRow (row := some (w.heap.size + 1)) (by rintro q ⟨⟩; exact hn1) (by rintro q ⟨⟩; exact Nat.le_succ _) hgl hg4;have hT5 := hT0.gr hg4 (by omega);clear hd0 hT0 hX0 hg4;obtain ⟨X, hXX⟩ : ∃ X, w.heap.size + 1 = X := ⟨_, rfl⟩
 have hlt3 : Hid (w.heap.size < X) := by rw [Hid]; omega
 rw [hXX] at hX4 hn1 ⊢;clear hXX;go_wp2_with fail
 go_loopw [9, 10] (fun v9 v10 wr => ∃ (i : Nat) (Hr : Snap) (VA : Option Addr) (vc vn : Nat) (L : List Itm) (k0 cc : Nat) (last : Option (List UInt8)) (KB : Option Addr) (kn kc : Nat), v10 = .int .u64 (i : Int) ∧ v9 = .slice KB kn kc ∧ i ≤ n ∧ vn = L.length ∧
  ((i = 0 ∧ last = none) ∨ (0 < i ∧ ∃ key : List UInt8, last = some key ∧ kn = key.length ∧ key.length ≤ 4096 ∧ ∀ W, Holds W H → Src W KB (key.map byteV))) ∧
  Rdg 107 w H wr Hr g (some ⟨b, off, none⟩) c l (p + k0) cc ∧ Blk wr w.heap.size 75 #[.int .i64 0, .int .u64 0, .slice none 0 0, .slice none 0 0] ∧ Hr w.heap.size = none ∧
  Blk wr X 75 #[.int .i64 5, .int .u64 0, .slice none 0 0, .slice VA vn vc] ∧ Hr X = none ∧ OwnI wr (X + 1) (.slice VA vn vc) Hr L ∧ (∀ q, (Value.slice VA vn vc).ownBlock = some q → Hr q = none) ∧ L.length ≤ cc ∧
  mapP (parse d) n (l.drop p) cnt none = (mapP (parse d) (n - i) (l.drop (p + k0)) cc last).pre L k0) (fun _ v10 _ => n - (intOf v10).toNat)
 case atStart => exact ⟨0, H, none, 0, 0, [], 0, cnt, none, none, 0, 0, rfl, rfl, Nat.zero_le _, rfl, .inl ⟨rfl, rfl⟩, hd5, hT5, hn0, hX4, hn1, OwnI.nil _ _ H, by intro q hq; simp [Value.ownBlock] at hq, by simp, by rw [pre_nil]; rfl⟩
 case round =>
  clear hd5 hT5 hX4;obtain ⟨i, Hr, VA, vc, vn, L, k0, cc, last, KB, kn, kc, rfl, rfl, hin, rfl, hlast, hdr, hTr, hTn, hXr, hXrn, hOr, hnr, hLc, hrel2⟩ := hrel;have HREL := Hh hrel2;have HLC := Hh hLc;have HIN := Hh hin;have HLAST := Hh hlast;clear hrel2 hLc hin hlast
  by_cases hi0 : i < n
  ·obtain ⟨m1, hm1⟩ : ∃ m1, n - i = m1 + 1 := ⟨n - i - 1, by omega⟩
   have HM1 := Hh (show n - (i + 1) = m1 by omega);have HREL2 : Hid (mapP (parse d) n (l.drop p) cnt none = (mapP (parse d) (m1 + 1) (l.drop (p + k0)) cc last).pre L k0) := by rw [Hid, HREL.out, hm1]
   obtain ⟨P1, hP1⟩ : ∃ P1, p + k0 = P1 := ⟨_, rfl⟩
   have HPP1 := Hh hP1;rw [hP1] at hdr HREL2;clear hP1;have hmi : (i : Int) < (n : Int) := by omega
   have ITH := Hh (ih wr Hr g (some ⟨b, off, none⟩) c l P1 cc lv (hTab.mono hdr.grows.le) hlv hdr.psr);have a1 := hdr.psr.blk.cell 1 rfl;clear hm1 HREL;go_wp2_with fail
   refine ITH.out.mono ?_
   intro e w5 hs
   cases hp : parse d (l.drop P1) cc with
   | err q =>
    rw [hp, ItemOut] at hs;obtain ⟨rfl, H5, p5, cnt5, hd35⟩ := hs;have hq0 : ((q : Int) != 0) = true := by rw [bne_iff_ne]; have := parse_err _ _ _ _ hp; omega
    have hq0' : ((q : Int) = 0) = False := eq_false (by have := parse_err _ _ _ _ hp; omega);have E : Hid (mapR (mapP (parse d) n (l.drop p) cnt none) = .err q) := by rw [Hid, HREL2.out, map_err1 L k0 hp]; rfl
    have hd6 := hdr.trans hd35;have hT6 := hTr.rdg hd35 (by omega);have hn6 := hd35.hid hTn hTr.lt;have hY := Blk.new w5 75 #[.int .i64 0, .int .u64 0, .slice none 0 0, .slice none 0 0];have hYn : H5 w5.heap.size = none := hd6.psr.holds.none_of_ge (Nat.le_refl _);have hTl := Hh hT6.lt;have hd7 := hd6.alloc zeroO;have hT7 := hT6.alloc zeroO;clear ITH hp hdr hd35 hTr hXr hOr hnr HREL2 HLC hd6 hT6 a1;go_wp2_with (with_reducible refine stop_store ?_)
    refine stI hY fun w8 hY8 hg8 => ?_
    have hd8 := hd7.gb hYn (Nat.le_of_lt hTl.out) hgl hg8;have hT8 := hT7.grown hg8 (by intro e; injection e with e; have := hTl.out; omega);clear hd7 hT7 hY hg8 hY8;go_wp2_with (with_reducible refine stop_store ?_)
    refine stI hT8 fun wz hTy hgz => ?_
    have hdz := hd8.gb hn6 (Nat.le_refl _) hgl hgz;go_wp2_with fail
    refine ret_row_tmp rfl rfl hTy rfl rfl size_item rfl ?_
    exact ItemOut.err E.out rfl hdz
   | ok x k c1 =>
    rw [hp, ItemOut] at hs;obtain ⟨ja, jb, jc, jd, H5, rfl, hd35, hi5⟩ := hs;have HCC := Hh (parse_counts d _ _ _ _ _ hp);have rsp := parse_spec d _ _ _ _ _ hp;have hkpos := rsp.pos;have hkle := rsp.le;rw [List.length_drop] at hkle;have HKLE := Hh (show k ≤ l.length by omega);have HPX := Hh hp;obtain ⟨key, hkey⟩ : ∃ key, (l.drop P1).take k = key := ⟨_, rfl⟩
    have HKEY := Hh hkey;have HKL : Hid (k = key.length) := by rw [Hid, ← hkey, List.length_take, List.length_drop]; omega
    have HSK : Hid (∀ W, Holds W H → Src W (some ⟨b, off + P1, none⟩) (key.map byteV)) := fun W hW => by
     have h := src_sub (w := W) (n := k) (fun j hj => hW.cell (HCL.out j hj)) P1 (some ⟨b, off + P1, none⟩) (fun _ => rfl) (by omega);rw [hkey] at h
     exact h
    have hd6 := hdr.trans hd35;have hT6 := hTr.rdg hd35 (by omega);have hn6 := hd35.hid hTn hTr.lt;have hX6 := hXr.rdg hd35 (by have := hlt3.out; omega);have hXn6 := hd35.hid hXrn hXr.lt;have hO6 := (hOr.rdg hd35 (by have := hlt3.out; omega)).mono hd35.grows.le;have hon6 : ∀ q, (Value.slice VA L.length vc).ownBlock = some q → H5 q = none := fun q hq => hd35.hid (hnr q hq) (hOr.lt q hq).2
    have hY := Blk.new w5 75 #[.int .i64 0, .int .u64 0, .slice none 0 0, .slice none 0 0];have hYn : H5 w5.heap.size = none := hd6.psr.holds.none_of_ge (Nat.le_refl _);have hTl := Hh (And.intro hT6.lt hX6.lt);have hYg := Hh (show g < w5.heap.size from hd6.psr.gt);have hol := Hh (show ∀ q, (Value.slice VA L.length vc).ownBlock = some q → X + 1 ≤ q ∧ q < w5.heap.size from fun q hq => hO6.lt q hq);have hd7 := hd6.alloc zeroO;have hT7 := hT6.alloc zeroO;have hX7 := hX6.alloc zeroO;have hO7 := hO6.alloc zeroO;clear ITH hp hdr hd35 hTr hXr hOr hnr hd6 hT6 hX6 hO6 a1 rsp hkey;go_wp2_with (with_reducible refine stop_store ?_)
    refine stI hY fun w8 hY8 hg8 => ?_
    have hd8 := hd7.gb hYn (Nat.le_of_lt hTl.out.1) hgl hg8;have hT8 := hT7.grown hg8 (by intro e; injection e with e; have := hTl.out.1; omega);have hX8 := hX7.grown hg8 (by intro e; injection e with e; have := hTl.out.2; omega);have hO8 := hO7.kl hg8 (fun q hv => by have := (hol.out q hv).2; omega);obtain ⟨Y1, hY1⟩ : ∃ Y1, w5.heap.size = Y1 := ⟨_, rfl⟩
    rw [hY1] at hY8 hTl hYg hYn ⊢;have a0 := hd8.psr.blk.cell 0 rfl;have a1 := hd8.psr.blk.cell 1 rfl;have s1 : (P1 : Int) ≤ ((P1 + k : Nat) : Int) := by omega
    have s2 : ((P1 + k : Nat) : Int) ≤ (c : Int) := by have := HLEN.out.2.1; omega
    have s3 : (P1 : Int) ≤ (c : Int) := by omega
    have s4 : (0 : Int) ≤ (P1 : Int) := by omega
    have s5 : (c = P1) = False := eq_false (by have := HLEN.out.2.1; omega);have s6 : P1 + k - P1 = k := by omega
    have s7 : ((P1 + k : Nat) : Int).toNat = P1 + k := by omega
    clear hd7 hT7 hX7 hO7 hY hg8;go_wp2_with fail
    go_big_quiet (fail)
    have hd9' := hd8.drewN nq;have hT9' : Blk (w8.drewN nq) w.heap.size 75 #[.int .i64 0, .int .u64 0, .slice none 0 0, .slice none 0 0] := hT8;have hX9' : Blk (w8.drewN nq) X 75 #[.int .i64 5, .int .u64 0, .slice none 0 0, .slice VA L.length vc] := hX8;have hY9' : Blk (w8.drewN nq) Y1 75 #[.int .i64 x.kind, .int .u64 x.n, .slice ja x.bytes.length jb, .slice jc x.items.length jd] := hY8;have hO9' : OwnI (w8.drewN nq) (X + 1) (.slice VA L.length vc) H5 L := hO8
    generalize w8.drewN nq = w9 at hd9' hT9' hX9' hY9' hO9' ⊢
    obtain ⟨hd9, hT9, hX9, hY9, hO9⟩ := And.intro hd9' (And.intro hT9' (And.intro hX9' (And.intro hY9' hO9')));clear hd9' hT9' hX9' hY9' hO9' hd8 hT8 hX8 hY8 hO8 a0 a1 s1 s2 s3 s4 s5 s6 s7;have hH9 : Holds w9 H := hd9.psr.holds.mono hd9.grows.le
    rcases HLAST.out with ⟨hiz, rfl⟩ | ⟨hi, lk, rfl, hkn, hkl, hsl⟩
    ·have HKN : Hid (keyP none ((l.drop P1).take k) = none) := rfl;have hii0 : ¬ ((0 : Int) < (i : Int)) := by omega
     clear hiz;have a0 := hH9;have a1 := hH9;have ITH2 := Hh (ih w9 H5 g (some ⟨b, off, none⟩) c l (P1 + k) c1 lv (hTab.mono hd9.grows.le) hlv hd9.psr);clear a0 a1;go_wp2_with fail
     refine ITH2.out.mono ?_
     intro e w12 hs
     cases hp2 : parse d (l.drop (P1 + k)) c1 with
     | err q =>
      rw [hp2, ItemOut] at hs;obtain ⟨rfl, H6, p6, cnt6, hd36⟩ := hs;have hq0 : ((q : Int) != 0) = true := by rw [bne_iff_ne]; have := parse_err _ _ _ _ hp2; omega
      have hq0' : ((q : Int) = 0) = False := eq_false (by have := parse_err _ _ _ _ hp2; omega);have E : Hid (mapR (mapP (parse d) n (l.drop p) cnt none) = .err q) := by rw [Hid, HREL2.out, map_err2 L k0 HPX.out HKN.out (by rw [List.drop_drop]; exact hp2)]; rfl
      have hd13 := hd9.trans hd36;have hT13 := hT9.rdg hd36 (by omega);have hn13 := hd36.hid hn6 hT9.lt;have hZ := Blk.new w12 75 #[.int .i64 0, .int .u64 0, .slice none 0 0, .slice none 0 0];have hZn : H6 w12.heap.size = none := hd13.psr.holds.none_of_ge (Nat.le_refl _);have hTl2 := Hh hT13.lt;have hd14 := hd13.alloc zeroO;have hT14 := hT13.alloc zeroO;clear ITH2 hp2 hd36 hd13 hT13 hd9 hT9 hX9 hY9 hO9;go_wp2_with (with_reducible refine stop_store ?_)
      refine stI hZ fun w15 hZ15 hg15 => ?_
      have hd15 := hd14.gb hZn (Nat.le_of_lt hTl2.out) hgl hg15;have hT15 := hT14.grown hg15 (by intro e; injection e with e; have := hTl2.out; omega);clear hd14 hT14 hZ hg15 hZ15;go_wp2_with (with_reducible refine stop_store ?_)
      refine stI hT15 fun wz hTy hgz => ?_
      have hdz := hd15.gb hn13 (Nat.le_refl _) hgl hgz;go_wp2_with fail
      refine ret_row_tmp rfl rfl hTy rfl rfl size_item rfl ?_
      exact ItemOut.err E.out rfl hdz
     | ok y k2 c2 =>
      rw [hp2, ItemOut] at hs;obtain ⟨ka, kb, kd, ke, H6, rfl, hd36, hi6⟩ := hs
      have HR3 : Hid (mapP (parse d) n (l.drop p) cnt none = (mapP (parse d) m1 (l.drop (p + (k0 + (k + k2)))) c2 (some key)).pre (L ++ [x, y]) (k0 + (k + k2))) := by
       rw [Hid, HREL2.out, map_ok2 L k0 HPX.out HKN.out (by rw [List.drop_drop]; exact hp2), HKEY.out, List.drop_drop, ← HPP1.out];rw [show p + k0 + (k + k2) = p + (k0 + (k + k2)) by omega]
      have HC3 : Hid ((L ++ [x, y]).length ≤ c2) := by
       have h1 := HCC.out;have h2 := parse_counts d _ _ _ _ _ hp2;have := HLC.out;rw [Hid, List.length_append]; simp; omega
      have hd13 := hd9.trans hd36;have hc13 := hd13.psr.cnt_le;have hT13 := hT9.rdg hd36 (by omega);have hn13 := hd36.hid hn6 hT9.lt;have hX13 := hX9.rdg hd36 (by have := hlt3.out; omega);have hXn13 := hd36.hid hXn6 hX9.lt;have hY13 := hY9.rdg hd36 (by have := hYg.out; omega);have hO13 := (hO9.rdg hd36 (by have := hlt3.out; omega)).mono hd36.grows.le;have hon13 : ∀ q, (Value.slice VA L.length vc).ownBlock = some q → H6 q = none := fun q hq => hd36.hid (hon6 q hq) (hO9.lt q hq).2
      have hZ := Blk.new w12 75 #[.int .i64 0, .int .u64 0, .slice none 0 0, .slice none 0 0];have hZn : H6 w12.heap.size = none := hd13.psr.holds.none_of_ge (Nat.le_refl _);have hTl2 := Hh (And.intro hT13.lt (And.intro hX13.lt hY13.lt));have hol2 := Hh (show ∀ q, (Value.slice VA L.length vc).ownBlock = some q → X + 1 ≤ q ∧ q < w12.heap.size from fun q hq => hO13.lt q hq);have hd14 := hd13.alloc zeroO;have hT14 := hT13.alloc zeroO;have hX14 := hX13.alloc zeroO;have hY14 := hY13.alloc zeroO;have hO14 := hO13.alloc zeroO;have HLN := Hh (show L.length ≤ 256 by have := HC3.out; simp at this; omega);have hit : ItemsC H6 (itemC x ja jb jc jd ++ itemC y ka kb kd ke) [x, y] := (ItemsC.one (hi5.mono hd36.grows.le)).app (ItemsC.one hi6);clear ITH2 hp2 hd36 hd13 hT13 hX13 hY13 hO13 hd9 hT9 hX9 hY9 hO9;go_wp2_with (with_reducible refine stop_store ?_)
      refine stI hZ fun w15 hZ15 hg15 => ?_
      have hd15 := hd14.gb hZn (Nat.le_of_lt hTl2.out.1) hgl hg15;have hT15 := hT14.grown hg15 (by intro e; injection e with e; have := hTl2.out.1; omega);have hX15 := hX14.grown hg15 (by intro e; injection e with e; have := hTl2.out.2.1; omega);have hY15 := hY14.grown hg15 (by intro e; injection e with e; have := hTl2.out.2.2; omega);have hO15 := hO14.kl hg15 (fun q hv => by have := (hol2.out q hv).2; omega);have b0 := hZ15.cell 0 rfl;have b1 := hZ15.cell 1 rfl;have b2 := hZ15.cell 2 rfl;have b3 := hZ15.cell 3 rfl;have y0 := hY15.cell 0 rfl;have y1 := hY15.cell 1 rfl;have y2 := hY15.cell 2 rfl;have y3 := hY15.cell 3 rfl;have x3 := hX15.cell 3 rfl;have hd16 := hd15.alloc (.cells (itemC x ja jb jc jd ++ itemC y ka kb kd ke).toArray 75);have hT16 := hT15.alloc (.cells (itemC x ja jb jc jd ++ itemC y ka kb kd ke).toArray 75);have hX16 := hX15.alloc (.cells (itemC x ja jb jc jd ++ itemC y ka kb kd ke).toArray 75)
      have hO16 := hO15.alloc (.cells (itemC x ja jb jc jd ++ itemC y ka kb kd ke).toArray 75);clear hd14 hT14 hX14 hY14 hO14 hZ hg15 hd15 hT15 hX15 hY15 hO15;go_wp2_with (at_builtin; refine stop_in ?_)
      refine wpList_app_items rfl (.tmp 72) (.tmp 75) rfl (X + 1) (.slice VA L.length vc) H6 _ rfl hO16 _ 2 _ (itemC x ja jb jc jd ++ itemC y ka kb kd ke) [x, y] rfl rfl hit (Src.new _ _ _ _ rfl _ rfl) (by have := HLN.out; simp; omega) hX16.lt fun v' w17 hO17 hg17 hat17 => ?_
      obtain ⟨VA', vc', rfl, _⟩ := hO17.form;have hT17 := hT16.grown hg17 (fun e => by have := (hol2.out _ e).1; have := hlt3.out; omega);have hX17 := hX16.grown hg17 (fun e => by have := (hol2.out _ e).1; omega);have hn17 := own_hid3 hd16.psr.holds hon13 hat17;have hd17 := hd16.grownRow hon13 (fun q hq => by have := (hol2.out q hq).1; have := hlt3.out; omega) hgl hg17;obtain ⟨L', hL'⟩ : ∃ L', L ++ [x, y] = L' := ⟨_, rfl⟩
      rw [hL'] at hO17 hn17 HR3 HC3 ⊢;have HLL : Hid (L'.length = L.length + 2) := by rw [Hid, ← hL']; simp
      clear hL' hd16 hT16 hX16 hO16 hg17 hat17 x3 y0 y1 y2 y3 b0 b1 b2 b3 hZ15;have hO17l := Hh (show ∀ q, (Value.slice VA' L'.length vc').ownBlock = some q → X + 1 ≤ q from fun q hq => (hO17.lt q hq).1);go_wp2_with (with_reducible refine stop_store ?_)
      refine wpList_store_cell rfl _ _ _ rfl rfl X 3 _ rfl rfl _ _ hX17 size_items (by simp) rfl fun w18 hX18 hg18 => ?_
      have hd18 := hd17.gb hXn13 (Nat.le_of_lt hlt3.out) hgl hg18;have hT18 := hT17.grown hg18 (by intro e; injection e with e; have := hlt3.out; omega)
      have hO18 := hO17.kept hg18 (by
       cases hv : (Value.slice VA' L'.length vc').ownBlock with
       | none => exact .inl rfl
       | some q => exact .inr (fun e => by injection e with e; have := hO17l.out q hv; omega))
      have KI : IntKind.u64.wrap ((i : Int) + 1) = (i : Int) + 1 := by rw [IntKind.wrap_u64]; have := HNN.out; omega
      rw [show P1 + k + k2 = p + (k0 + (k + k2)) by have := HPP1.out; omega] at hd18;have hmi2 := Hh hmi;clear hd17 hT17 hX17 hO17 hg18 hmi;go_wp2_with fail
      go_roundw
      case rel => exact ⟨i + 1, H6, VA', vc', _, L', k0 + (k + k2), c2, some key, _, _, _, by first | rfl | (simp; done) | go_num, rfl, by have := hmi2.out; omega, rfl, .inr ⟨by omega, key, rfl, HKL.out, by have := HLEN.out.1; have := HKLE.out; have := HKL.out; omega, HSK.out⟩, hd18, hT18, hn13, hX18, hXn13, hO18, hn17, HC3.out, by rw [HM1.out]; exact HR3.out⟩
      case measure => have := hmi2.out; simp [intOf]; omega
    ·have hii0 : (0 : Int) < (i : Int) := by omega
     have CM := Hh (bytes_Compare w9 (some ⟨b, off + P1, none⟩) KB key lk k kn (c - P1) kc HKL.out hkn (HSK.out w9 hH9) (hsl w9 hH9));obtain ⟨q, hq⟩ : ∃ q, Lib.compareBytes key lk = q := ⟨_, rfl⟩
     rw [hq] at CM;have HQ := Hh hq;clear hkn hkl hsl hq;have a0 := hH9;have a1 := hH9
     by_cases hq0 : q = 0
     ·subst hq0;have HKN : Hid (keyP (some lk) ((l.drop P1).take k) = some 7) := by rw [Hid, HKEY.out, keyP]; rw [if_pos HQ.out]
      go_wp2_with fail
      refine CM.out.mono ?_
      rintro e w10 ⟨rfl, rfl⟩
      have E : Hid (mapR (mapP (parse d) n (l.drop p) cnt none) = .err 7) := by rw [Hid, HREL2.out, map_errk L k0 HPX.out HKN.out]; rfl
      go_wp2_with (with_reducible refine stop_store ?_)
      refine stI hT9 fun wz hTy hgz => ?_
      have hdz := hd9.gb hn6 (Nat.le_refl _) hgl hgz;go_wp2_with fail
      refine ret_row_tmp rfl rfl hTy rfl rfl size_item rfl ?_
      exact ItemOut.err (q := 7) E.out rfl hdz
     ·have t0 : (q == 0) = false := by simpa using hq0
      have t0' : (q = 0) = False := eq_false hq0
      by_cases hq1 : q < 0
      ·have HKN : Hid (keyP (some lk) ((l.drop P1).take k) = some 6) := by rw [Hid, HKEY.out, keyP]; rw [HQ.out, if_neg hq0, if_pos hq1]
       go_wp2_with fail
       refine CM.out.mono ?_
       rintro e w10 ⟨rfl, rfl⟩
       have E : Hid (mapR (mapP (parse d) n (l.drop p) cnt none) = .err 6) := by rw [Hid, HREL2.out, map_errk L k0 HPX.out HKN.out]; rfl
       go_wp2_with (with_reducible refine stop_store ?_)
       refine stI hT9 fun wz hTy hgz => ?_
       have hdz := hd9.gb hn6 (Nat.le_refl _) hgl hgz;go_wp2_with fail
       refine ret_row_tmp rfl rfl hTy rfl rfl size_item rfl ?_
       exact ItemOut.err (q := 6) E.out rfl hdz
      ·have HKN : Hid (keyP (some lk) ((l.drop P1).take k) = none) := by rw [Hid, HKEY.out, keyP]; rw [HQ.out, if_neg hq0, if_neg hq1]
       go_wp2_with fail
       refine CM.out.mono ?_
       rintro e w10 ⟨rfl, rfl⟩
       have ITH2 := Hh (ih w9 H5 g (some ⟨b, off, none⟩) c l (P1 + k) c1 lv (hTab.mono hd9.grows.le) hlv hd9.psr);clear a0 a1;go_wp2_with fail
       refine ITH2.out.mono ?_
       intro e w12 hs
       cases hp2 : parse d (l.drop (P1 + k)) c1 with
       | err q =>
        rw [hp2, ItemOut] at hs;obtain ⟨rfl, H6, p6, cnt6, hd36⟩ := hs;have hq0 : ((q : Int) != 0) = true := by rw [bne_iff_ne]; have := parse_err _ _ _ _ hp2; omega
        have hq0' : ((q : Int) = 0) = False := eq_false (by have := parse_err _ _ _ _ hp2; omega);have E : Hid (mapR (mapP (parse d) n (l.drop p) cnt none) = .err q) := by rw [Hid, HREL2.out, map_err2 L k0 HPX.out HKN.out (by rw [List.drop_drop]; exact hp2)]; rfl
        have hd13 := hd9.trans hd36;have hT13 := hT9.rdg hd36 (by omega);have hn13 := hd36.hid hn6 hT9.lt;have hZ := Blk.new w12 75 #[.int .i64 0, .int .u64 0, .slice none 0 0, .slice none 0 0];have hZn : H6 w12.heap.size = none := hd13.psr.holds.none_of_ge (Nat.le_refl _);have hTl2 := Hh hT13.lt;have hd14 := hd13.alloc zeroO;have hT14 := hT13.alloc zeroO;clear ITH2 hp2 hd36 hd13 hT13 hd9 hT9 hX9 hY9 hO9;go_wp2_with (with_reducible refine stop_store ?_)
        refine stI hZ fun w15 hZ15 hg15 => ?_
        have hd15 := hd14.gb hZn (Nat.le_of_lt hTl2.out) hgl hg15;have hT15 := hT14.grown hg15 (by intro e; injection e with e; have := hTl2.out; omega);clear hd14 hT14 hZ hg15 hZ15;go_wp2_with (with_reducible refine stop_store ?_)
        refine stI hT15 fun wz hTy hgz => ?_
        have hdz := hd15.gb hn13 (Nat.le_refl _) hgl hgz;go_wp2_with fail
        refine ret_row_tmp rfl rfl hTy rfl rfl size_item rfl ?_
        exact ItemOut.err E.out rfl hdz
       | ok y k2 c2 =>
        rw [hp2, ItemOut] at hs;obtain ⟨ka, kb, kd, ke, H6, rfl, hd36, hi6⟩ := hs
        have HR3 : Hid (mapP (parse d) n (l.drop p) cnt none = (mapP (parse d) m1 (l.drop (p + (k0 + (k + k2)))) c2 (some key)).pre (L ++ [x, y]) (k0 + (k + k2))) := by
         rw [Hid, HREL2.out, map_ok2 L k0 HPX.out HKN.out (by rw [List.drop_drop]; exact hp2), HKEY.out, List.drop_drop, ← HPP1.out];rw [show p + k0 + (k + k2) = p + (k0 + (k + k2)) by omega]
        have HC3 : Hid ((L ++ [x, y]).length ≤ c2) := by
         have h1 := HCC.out;have h2 := parse_counts d _ _ _ _ _ hp2;have := HLC.out;rw [Hid, List.length_append]; simp; omega
        have hd13 := hd9.trans hd36;have hc13 := hd13.psr.cnt_le;have hT13 := hT9.rdg hd36 (by omega);have hn13 := hd36.hid hn6 hT9.lt;have hX13 := hX9.rdg hd36 (by have := hlt3.out; omega);have hXn13 := hd36.hid hXn6 hX9.lt;have hY13 := hY9.rdg hd36 (by have := hYg.out; omega);have hO13 := (hO9.rdg hd36 (by have := hlt3.out; omega)).mono hd36.grows.le;have hon13 : ∀ q, (Value.slice VA L.length vc).ownBlock = some q → H6 q = none := fun q hq => hd36.hid (hon6 q hq) (hO9.lt q hq).2
        have hZ := Blk.new w12 75 #[.int .i64 0, .int .u64 0, .slice none 0 0, .slice none 0 0];have hZn : H6 w12.heap.size = none := hd13.psr.holds.none_of_ge (Nat.le_refl _);have hTl2 := Hh (And.intro hT13.lt (And.intro hX13.lt hY13.lt));have hol2 := Hh (show ∀ q, (Value.slice VA L.length vc).ownBlock = some q → X + 1 ≤ q ∧ q < w12.heap.size from fun q hq => hO13.lt q hq);have hd14 := hd13.alloc zeroO;have hT14 := hT13.alloc zeroO;have hX14 := hX13.alloc zeroO;have hY14 := hY13.alloc zeroO;have hO14 := hO13.alloc zeroO;have HLN := Hh (show L.length ≤ 256 by have := HC3.out; simp at this; omega);have hit : ItemsC H6 (itemC x ja jb jc jd ++ itemC y ka kb kd ke) [x, y] := (ItemsC.one (hi5.mono hd36.grows.le)).app (ItemsC.one hi6);clear ITH2 hp2 hd36 hd13 hT13 hX13 hY13 hO13 hd9 hT9 hX9 hY9 hO9;go_wp2_with (with_reducible refine stop_store ?_)
        refine stI hZ fun w15 hZ15 hg15 => ?_
        have hd15 := hd14.gb hZn (Nat.le_of_lt hTl2.out.1) hgl hg15;have hT15 := hT14.grown hg15 (by intro e; injection e with e; have := hTl2.out.1; omega);have hX15 := hX14.grown hg15 (by intro e; injection e with e; have := hTl2.out.2.1; omega);have hY15 := hY14.grown hg15 (by intro e; injection e with e; have := hTl2.out.2.2; omega);have hO15 := hO14.kl hg15 (fun q hv => by have := (hol2.out q hv).2; omega);have b0 := hZ15.cell 0 rfl;have b1 := hZ15.cell 1 rfl;have b2 := hZ15.cell 2 rfl;have b3 := hZ15.cell 3 rfl;have y0 := hY15.cell 0 rfl;have y1 := hY15.cell 1 rfl;have y2 := hY15.cell 2 rfl;have y3 := hY15.cell 3 rfl;have x3 := hX15.cell 3 rfl;have hd16 := hd15.alloc (.cells (itemC x ja jb jc jd ++ itemC y ka kb kd ke).toArray 75);have hT16 := hT15.alloc (.cells (itemC x ja jb jc jd ++ itemC y ka kb kd ke).toArray 75);have hX16 := hX15.alloc (.cells (itemC x ja jb jc jd ++ itemC y ka kb kd ke).toArray 75)
        have hO16 := hO15.alloc (.cells (itemC x ja jb jc jd ++ itemC y ka kb kd ke).toArray 75);clear hd14 hT14 hX14 hY14 hO14 hZ hg15 hd15 hT15 hX15 hY15 hO15;go_wp2_with (at_builtin; refine stop_in ?_)
        refine wpList_app_items rfl (.tmp 72) (.tmp 75) rfl (X + 1) (.slice VA L.length vc) H6 _ rfl hO16 _ 2 _ (itemC x ja jb jc jd ++ itemC y ka kb kd ke) [x, y] rfl rfl hit (Src.new _ _ _ _ rfl _ rfl) (by have := HLN.out; simp; omega) hX16.lt fun v' w17 hO17 hg17 hat17 => ?_
        obtain ⟨VA', vc', rfl, _⟩ := hO17.form;have hT17 := hT16.grown hg17 (fun e => by have := (hol2.out _ e).1; have := hlt3.out; omega);have hX17 := hX16.grown hg17 (fun e => by have := (hol2.out _ e).1; omega);have hn17 := own_hid3 hd16.psr.holds hon13 hat17;have hd17 := hd16.grownRow hon13 (fun q hq => by have := (hol2.out q hq).1; have := hlt3.out; omega) hgl hg17;obtain ⟨L', hL'⟩ : ∃ L', L ++ [x, y] = L' := ⟨_, rfl⟩
        rw [hL'] at hO17 hn17 HR3 HC3 ⊢;have HLL : Hid (L'.length = L.length + 2) := by rw [Hid, ← hL']; simp
        clear hL' hd16 hT16 hX16 hO16 hg17 hat17 x3 y0 y1 y2 y3 b0 b1 b2 b3 hZ15;have hO17l := Hh (show ∀ q, (Value.slice VA' L'.length vc').ownBlock = some q → X + 1 ≤ q from fun q hq => (hO17.lt q hq).1);go_wp2_with (with_reducible refine stop_store ?_)
        refine wpList_store_cell rfl _ _ _ rfl rfl X 3 _ rfl rfl _ _ hX17 size_items (by simp) rfl fun w18 hX18 hg18 => ?_
        have hd18 := hd17.gb hXn13 (Nat.le_of_lt hlt3.out) hgl hg18;have hT18 := hT17.grown hg18 (by intro e; injection e with e; have := hlt3.out; omega)
        have hO18 := hO17.kept hg18 (by
         cases hv : (Value.slice VA' L'.length vc').ownBlock with
         | none => exact .inl rfl
         | some q => exact .inr (fun e => by injection e with e; have := hO17l.out q hv; omega))
        have KI : IntKind.u64.wrap ((i : Int) + 1) = (i : Int) + 1 := by rw [IntKind.wrap_u64]; have := HNN.out; omega
        rw [show P1 + k + k2 = p + (k0 + (k + k2)) by have := HPP1.out; omega] at hd18;have hmi2 := Hh hmi;clear hd17 hT17 hX17 hO17 hg18 hmi;go_wp2_with fail
        go_roundw
        case rel => exact ⟨i + 1, H6, VA', vc', _, L', k0 + (k + k2), c2, some key, _, _, _, by first | rfl | (simp; done) | go_num, rfl, by have := hmi2.out; omega, rfl, .inr ⟨by omega, key, rfl, HKL.out, by have := HLEN.out.1; have := HKLE.out; have := HKL.out; omega, HSK.out⟩, hd18, hT18, hn13, hX18, hXn13, hO18, hn17, HC3.out, by rw [HM1.out]; exact HR3.out⟩
        case measure => have := hmi2.out; simp [intOf]; omega
  ·have hm : i = n := by have := HIN.out; omega
   subst hm;have hlti : ¬ ((i : Int) < (i : Int)) := by omega
   have E1 : Hid (mapR (mapP (parse d) i (l.drop p) cnt none) = .ok (.mk 5 0 [] L) k0 cc) := by
    rw [Hid, HREL.out, Nat.sub_self, mapP]; simp [PL.pre, mapR]
   obtain ⟨H5, hl5, hh5, hf5, hz5, hle1, hle2, hel5⟩ := hOr.snap hdr.psr.holds (fun q hq => hnr q (own_of hq));have hlow : ∀ q, VA.map (·.block) = some q → X + 1 ≤ q := fun q hq => (hOr.lt q (own_of hq)).1
   have hn5 : H5 w.heap.size = none := snap_keep hf5 hTn (fun e => by have := hlow _ e; have := hlt3.out; omega);have hd6 : Rdg 107 w H wr H5 g (some ⟨b, off, none⟩) c l (p + k0) cc := hdr.snap (B := X + 1) hl5 hh5 hf5 hlow (by have := hlt3.out; omega) hgl;have b0 := hXr.cell 0 rfl;have b1 := hXr.cell 1 rfl;have b2 := hXr.cell 2 rfl;have b3 := hXr.cell 3 rfl;have hii : IsItem H5 none 0 VA vc (.mk 5 0 [] L) := IsRowI.item ⟨hle1, hle2, hel5⟩ 5 (by omega) 0 (by omega);clear hOr hf5 hel5 hh5 hl5 hTn hnr hlow hdr HREL HLAST;go_wp2_with (with_reducible refine stop_store ?_)
   refine stI hTr fun wz hTy hgz => ?_
   have hdz := hd6.gb hn5 (Nat.le_refl _) hgl hgz;go_wp2_with fail
   refine ret_row_tmp rfl rfl hTy rfl rfl size_item rfl ?_
   exact ItemOut.ok E1.out rfl hdz hii
end
section
variable {d : Nat} {w : World} {H : Snap} {g : Nat} {A : Option Addr} {c : Nat} {l : List UInt8} {p cnt lv : Nat}
theorem p_item_5 (ih : PItem d) (hTab : Tabs H) (hlv : lv + (d + 1) = 8) (hP : Psr 107 w g H A c l p cnt) (hc : cnt < 256) {f n k : Nat} (hh : headP (l.drop p) = .ok (f, n, k)) (hk : f / 32 = 5) : Calls Tryz.prog 58 #[.pointer (some ⟨g, 0, none⟩), .int .i64 (lv : Int)] w (ItemOut 107 w H g A c l p (parse (d + 1) (l.drop p) cnt)) := by
 have hgl := hP.gt;have hd0 := (Rdg.refl hP).alloc zeroO;have hT0 := Blk.new w 75 #[.int .i64 0, .int .u64 0, .slice none 0 0, .slice none 0 0];have hn0 : H w.heap.size = none := hP.holds.none_of_ge (Nat.le_refl _);have c2 := hd0.psr.blk.cell 2 rfl;have E0 := Hh (parse_map d (l.drop p) cnt (by omega) hh hk);have S : (f : Int) / 32 = 5 := by omega
 have hlv1 : ¬ ((8 : Int) ≤ (lv : Int)) := by omega
 have KL : IntKind.i64.wrap ((lv : Int) + 1) = (lv : Int) + 1 := IntWalk.i64_in _ (by omega);have hlvi : (lv : Int) ≤ 8 := by omega
 have hc256 : ((cnt : Int) == 256) = false := by simp; omega
 have hc256' : ((cnt : Int) = 256) = False := eq_false (by omega);have KC : IntKind.i64.wrap ((cnt : Int) + 1) = (cnt : Int) + 1 := IntWalk.i64_in _ (by omega);have HC := Hh hc;clear hc;go_enter Tryz.func58, Tryz.ntmps58
 go_wp2_with (with_reducible refine stop_store ?_)
 refine wpList_store_cell rfl _ _ _ rfl rfl g 2 (.int .i64 ((cnt : Int) + 1)) rfl rfl _ _ hd0.psr.blk size_int1 (by simp) rfl fun w2 hB2 hG2 => ?_
 have hd2 : Rdg 107 w H w2 H g A c l p (cnt + 1) := hd0.step hG2 hB2 hP.le (by have := HC.out; omega);have hT2 := hT0.gr hG2 (by omega);have PH := Hh (p_head hd2.psr);clear hd0 hT0 hB2 hG2 c2 KC hc256 hc256';go_wp2_with fail
 refine PH.out.mono ?_
 intro e w3 hs
 rw [HeadSaid, hh] at hs;obtain ⟨rfl, hB3, hG3⟩ := hs;have HS := headP_spec hh;have hle3 : p + k ≤ l.length := by have := HS.le; rw [List.length_drop] at this; have := hP.le; omega
 have hd3 : Rdg 107 w H w3 H g A c l (p + k) (cnt + 1) := hd2.step hG3 hB3 hle3 (by have := HC.out; omega);have hT3 := hT2.gr hG3 (by omega);have HF := Hh HS;clear hd2 hT2 hB3 hG3 PH HS hh;rw [List.drop_drop] at E0;have hpos := HF.out.pos;have PR_ := p_pairs (lv := lv + 1) ih hTab (by omega) hd3.psr (by omega) n HF.out.n_lt;rw [show ((lv + 1 : Nat) : Int) = (lv : Int) + 1 by omega] at PR_;have PRH := Hh PR_;clear PR_ hpos;go_wp2_with fail
 refine PRH.out.mono ?_
 intro e w4 hs
 cases hp : mapP (parse d) n (l.drop (p + k)) (cnt + 1) none with
 | err q =>
  rw [hp, mapR, ItemOut] at hs;obtain ⟨rfl, H4, p4, cnt4, hd34⟩ := hs;have E : Hid (parse (d + 1) (l.drop p) cnt = .err q) := by rw [Hid, E0.out, hp]
  have hd4 := hd3.trans hd34;have hT4 := hT3.rdg hd34 (by omega);have hn4 := hd34.hid hn0 hT3.lt;clear hd34 hd3 hT3 PRH hp E0;go_wp2_with (with_reducible refine stop_store ?_)
  refine stI hT4 fun wz hTy hgz => ?_
  have hdz := hd4.gb hn4 (Nat.le_refl _) hgl hgz;go_wp2_with fail
  refine ret_row_tmp rfl rfl hTy rfl rfl size_item rfl ?_
  exact ItemOut.err E.out rfl hdz
 | ok L k' c' =>
  rw [hp, mapR, ItemOut] at hs;obtain ⟨ja, jb, jc, jd, H4, rfl, hd34, hi4⟩ := hs;have E : Hid (parse (d + 1) (l.drop p) cnt = .ok (.mk 5 0 [] L) (k + k') c') := by rw [Hid, E0.out, hp]
  have hd4 := hd3.trans hd34;have hT4 := hT3.rdg hd34 (by omega);have hn4 := hd34.hid hn0 hT3.lt;obtain ⟨X5, hX5⟩ : ∃ X, Itm.mk 5 0 [] L = X := ⟨_, rfl⟩
  rw [hX5] at hi4 E ⊢;clear hd34 hd3 hT3 PRH hp E0 hX5;go_wp2_with (with_reducible refine stop_store ?_)
  refine stI hT4 fun wz hTy hgz => ?_
  have hdz := hd4.gb hn4 (Nat.le_refl _) hgl hgz;go_wp2_with fail
  refine ret_row_tmp rfl rfl hTy rfl rfl size_item rfl ?_
  exact ItemOut.ok E.out rfl (by rw [← Nat.add_assoc]; exact hdz) hi4
end
theorem p_item : ∀ d : Nat, PItem d := by
 intro d
 induction d using Nat.strongRecOn with
 | _ d ih =>
 intro w H g A c l p cnt lv hTab hlv hP
 by_cases hc : cnt = 256
 ·exact p_item_full hTab hlv hP hc
 have hc : cnt < 256 := by have := hP.cnt_le; omega
 cases hh : headP (l.drop p) with
 | error q => exact p_item_head hTab hlv hP hc hh
 | ok r =>
  obtain ⟨f, n, k⟩ := r;have hf := (headP_spec hh).f_lt
  rcases (by omega : f / 32 = 0 ∨ f / 32 = 1 ∨ f / 32 = 2 ∨ f / 32 = 3 ∨ f / 32 = 7 ∨ (4 ≤ f / 32 ∧ f / 32 ≤ 6)) with hk | hk | hk | hk | hk | hk
  ·exact p_item_0 hTab hlv hP hc hh hk
  ·exact p_item_1 hTab hlv hP hc hh hk
  ·exact p_item_2 hTab hlv hP hc hh hk
  ·exact p_item_3 hTab hlv hP hc hh hk
  ·exact p_item_7 hTab hlv hP hc hh hk
  ·cases d with
   | zero => exact p_item_deep hTab (by omega) hP hc hh hk.1 hk.2
   | succ d =>
    have ihd := ih d (by omega)
    rcases (by omega : f / 32 = 4 ∨ f / 32 = 5 ∨ f / 32 = 6) with h4 | h5 | h6
    ·exact p_item_4 ihd hTab hlv hP hc hh h4
    ·exact p_item_5 ihd hTab hlv hP hc hh h5
    ·exact p_item_6 ihd hTab hlv hP hc hh h6
end Go.Proofs.YtgaoknihklmakaaGreatDoor
