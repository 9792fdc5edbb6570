/- squeezed. Walks: the reference's Build; of p -/
import Derived.Test.YtmacemcajlgddaaGreatDoorK23
import Derived.Test.YtmacemcajlgddaaGreatDoorK06
set_option linter.unusedVariables false
set_option linter.unusedSimpArgs false
set_option maxRecDepth 100000
set_option maxHeartbeats 12800000
namespace Go.Proofs.YtmacemcajlgddaaGreatDoor
open Go.RowKit
theorem asc_drop (l : List Itm) (h : ascP l = true) : ∀ i : Nat, ascP (l.drop (2 * i)) = true
 | 0 => by simpa using h
 | i + 1 => by
  have ih := asc_drop l h i;rw [show 2 * (i + 1) = 2 * i + 2 by omega, ← List.drop_drop]
  generalize l.drop (2 * i) = m at ih
  match m, ih with
  | [], _ => rfl
  | [_], _ => rfl
  | _ :: _ :: m, ih => exact ascP_tail ih
theorem asc_at {l : List Itm} (h : ascP l = true) {m : Nat} (he : m % 2 = 0) (hm : m + 2 < l.length) : Lib.compareBytes (encB (l[m]'(by omega))) (encB l[m + 2]) < 0 := by
 obtain ⟨i, rfl⟩ : ∃ i, m = 2 * i := ⟨m / 2, by omega⟩
 have h1 := asc_drop l h i;have h2 := ascP_drop l (2 * i + 2) (by omega) hm
 simp only [Nat.add_sub_cancel] at h2
 rw [h1] at h2;have h3 := (Bool.and_eq_true _ _).mp h2.symm;have h4 := of_decide_eq_true h3.1
 simpa using h4
def BuildSaid2 (w : World) (H : Snap) (ps : List Itm) (e : Ending) (w' : World) : Prop :=
 ∃ v, (∃ l, e = .returned (.tuple #[v, .int .i64 0]) ∧ Gives w H (.mk 5 0 [] l) v w' ∧ validP (.mk 5 0 [] l) = true ∧ (encL l).length = (encL ps).length ∧ (ascP ps = true → l = ps)) ∨
  (∃ c, e = .returned (.tuple #[v, .int .i64 c]) ∧ c ≠ 0 ∧ Gives w H zeroItm v w' ∧ ¬ (ps.length % 2 = 0 ∧ ascP ps = true ∧ (∀ x ∈ ps, validP x = true) ∧ validP (.mk 5 0 [] ps) = true))
theorem ref_Build2 {H : Snap} (hTab : Tabs H) {A : Option Addr} {c : Nat} {ps : List Itm} (hr : IsRowI H A c ps) (hl : ps.length ≤ 1099511627776) (w : World) (hH : Holds w H) :
  Calls Tryz.prog 45 #[.slice A ps.length c] w (BuildSaid2 w H ps) := by
 have hT := Blk.new w 54 #[.int .i64 0, .int .u64 0, .slice none 0 0, .slice none 0 0];have hb := below_box w zeroO;have hn0 : H w.heap.size = none := hH.none_of_ge (Nat.le_refl _);have HR := Hh hr;clear hr
 by_cases heven : ps.length % 2 = 0
 case neg =>
  have b1 : ((ps.length : Int) % 2 != 0) = true := by rw [bne_iff_ne]; omega
  have p1 : ((ps.length : Int) % 2 = 0) = False := eq_false (by omega);have HE := Hh heven;clear heven;go_enter Tryz.func45, Tryz.ntmps45
  go_wp2_with fail
  refine ret_row_tmp rfl rfl hT rfl rfl size_item rfl ?_
  exact ⟨_, .inr ⟨1, rfl, by omega, ⟨none, 0, none, 0, H, rfl, Grows.of_below hH hb, IsItem.plain H 0 0 (by omega) (by omega)⟩, fun h => HE.out h.1⟩⟩
 have b1 : ((ps.length : Int) % 2 != 0) = false := by rw [bne_eq_false_iff_eq]; omega
 have p1 : ((ps.length : Int) % 2 = 0) = True := eq_true (by omega);have HE := Hh heven;clear heven;go_enter Tryz.func45, Tryz.ntmps45
 go_wp2_with fail
 go_loopw [18] (fun v18 wr => ∃ j : Nat, j ≤ ps.length ∧ v18 = .int .i64 j ∧ (∀ x ∈ ps.take j, validP x = true) ∧ Below w.heap.size w wr ∧ Blk wr w.heap.size 54 #[.int .i64 0, .int .u64 0, .slice none 0 0, .slice none 0 0]) (fun v18 _ => ps.length - (intOf v18).toNat)
 case atStart => exact ⟨0, Nat.zero_le _, rfl, by simp, hb, hT⟩
 case round =>
  clear hb hT;obtain ⟨j, hj, rfl, hval, hbr, hTr⟩ := hrel
  by_cases hlt : j < ps.length
  ·have hHr := hH.below hbr (Nat.le_refl _);obtain ⟨ib, io, hia, hel⟩ := HR.out.elems (by omega);obtain ⟨y1, y2, y3, y4, q0, q1, q2, q3, hex⟩ := hel.get j hlt;subst hia;have p0 := hHr.cell q0;have p1' := hHr.cell q1;have p2 := hHr.cell q2;have p3 := hHr.cell q3;have hHa := hHr.alloc (itemO ps[j] y1 y2 y3 y4);have V := Hh (ref_Valid hTab hex.arg _ hHa);have hb2 := hbr.alloc hbr.size (itemO ps[j] y1 y2 y3 y4);have hT2 := hTr.alloc (itemO ps[j] y1 y2 y3 y4);have hmem : ps[j] ∈ ps := List.getElem_mem hlt;have HT := Hh (show ps.take (j + 1) = ps.take j ++ [ps[j]] from List.take_succ_eq_append_getElem hlt);have HVL := Hh hval
   generalize ps[j]'hlt = x at *
   clear q0 q1 q2 q3 hel hex hbr hTr hHr hval
   cases hv : validP x with
   | false =>
    rw [hv] at V;have HX := Hh (And.intro hv hmem);clear hv hmem;go_wp2_with fail
    refine V.out.mono ?_
    rintro e w3 ⟨rfl, hb3⟩
    have hT3 := hT2.below hb3;have hbz := hb2.trans (hb3.mono hb2.size);clear hT2 hb2 hb3;go_wp2_with (with_reducible refine stop_store ?_)
    refine stI hT3 fun w9 hT9 hg9 => ?_
    have hG9 := (Grows.of_below hH hbz).grownOwn hn0 (Nat.le_refl _) hg9;go_wp2_with fail
    refine ret_row_tmp rfl rfl hT9 rfl rfl size_item rfl ?_
    exact ⟨_, .inr ⟨1, rfl, by omega, ⟨none, 0, none, 0, H, rfl, hG9, IsItem.plain H 0 0 (by omega) (by omega)⟩, fun h => by rw [h.2.2.1 x HX.out.2] at HX; cases HX.out.1⟩⟩
   | true =>
    rw [hv] at V;have HX := Hh hv;clear hv hmem;go_wp2_with fail
    refine V.out.mono ?_
    rintro e w3 ⟨rfl, hb3⟩
    have hT3 := hT2.below hb3;have hbz := hb2.trans (hb3.mono hb2.size);have hj63 : (j : Int) + 1 ≤ 9223372036854775807 := by omega
    clear hT2 hb2 hb3;go_wp2_with fail
    go_roundw
    case rel => exact ⟨j + 1, by omega, by go_num, fun y hy => by rw [HT.out, List.mem_append] at hy; rcases hy with hy | hy; exact HVL.out y hy; rw [List.mem_singleton.1 hy]; exact HX.out, hbz, hT3⟩
    case measure => simp [intOf]; omega
  ·have hkl : j = ps.length := by omega
   subst hkl;rw [List.take_length] at hval;have HVL := Hh hval;clear hval;go_wp2_with fail
   go_loopw [6, 7, 8] (fun v6 v7 v8 wr => ∃ (j : Nat) (L : List Itm) (b : Bool) (VA : Option Addr) (vc : Nat), j ≤ ps.length ∧ j % 2 = 0 ∧ v8 = .int .i64 (j : Int) ∧ v7 = .bool b ∧ v6 = .slice VA j vc ∧ L.length = j ∧ OwnI wr (w.heap.size + 1) (.slice VA j vc) H L ∧ (∀ x ∈ L, x ∈ ps) ∧
    (encL L).length = (encL (ps.take j)).length ∧ (ascP ps = true → b = false ∧ L = ps.take j) ∧ Below w.heap.size w wr ∧ Blk wr w.heap.size 54 #[.int .i64 0, .int .u64 0, .slice none 0 0, .slice none 0 0]) (fun _ _ v8 _ => ps.length + 1 - (intOf v8).toNat)
   case atStart => exact ⟨0, [], false, none, 0, Nat.zero_le _, rfl, rfl, rfl, rfl, rfl, OwnI.nil _ _ _, by simp, by simp, fun _ => ⟨rfl, by simp⟩, hbr, hTr⟩
   case round =>
    clear hbr hTr;obtain ⟨j, L, b, VA, vc, hj, hje, rfl, rfl, rfl, hLl, hOr, hmem, hsz, h2, hbr, hTr⟩ := hrel
    have HVC : Hid ((j : Int) ≤ vc) := by
     obtain ⟨_, c9, e, h1, _⟩ := hOr.form;injection e with _ _ e3
     subst e3;show (j : Int) ≤ (vc : Int)
     omega
    have HS := Hh (And.intro hmem (And.intro hsz h2));have HJ := Hh hje;clear hmem hsz h2 hje
    by_cases hlt : j < ps.length
    ·have hlt1 : j + 1 < ps.length := by have := HJ.out; have := HE.out; omega
     obtain ⟨ib, io, hia, hel⟩ := HR.out.elems (by omega);obtain ⟨y1, y2, y3, y4, q0, q1, q2, q3, hex⟩ := hel.get j hlt;obtain ⟨z1, z2, z3, z4, s0, s1, s2, s3, hez⟩ := hel.get (j + 1) hlt1;subst hia;have HVY := Hh (HVL.out ps[j] (List.getElem_mem hlt));have HM1 := Hh (And.intro (List.getElem_mem hlt) (List.getElem_mem hlt1))
     have HPS := Hh (show (encL (ps.take (j + 2))).length = (encL (ps.take j)).length + (encB ps[j]).length + (encB ps[j + 1]).length by
      have h1 := encL_take_succ ps (j + 1) hlt1;have h2 := encL_take_succ ps j hlt;rw [show j + 2 = j + 1 + 1 by omega, h1, h2]; simp only [List.length_append])
     have HPT := Hh (show ps.take (j + 2) = ps.take j ++ [ps[j], ps[j + 1]] by
      rw [show j + 2 = j + 1 + 1 by omega, List.take_succ_eq_append_getElem hlt1, List.take_succ_eq_append_getElem hlt, List.append_assoc];rfl)
     have HASC := Hh (show ascP ps = true → ∀ m (hm : m + 2 = j) (hl : m < L.length), Lib.compareBytes (encB L[m]) (encB ps[j]) < 0 from fun hA m hm hl => by
      have e := (HS.out.2.2 hA).2;have hmj : m < j := by omega
      have hmp : m < ps.length := by omega
      have h1 : L[m]? = some (ps[m]'hmp) := by rw [e, List.getElem?_take, if_pos hmj, List.getElem?_eq_getElem]
      rw [List.getElem?_eq_getElem hl] at h1;rw [Option.some.inj h1];have h2 := asc_at (m := m) hA (by have := HJ.out; omega) (by omega);have h3 : ps[m + 2]'(by omega) = ps[j] := by congr 1
      rw [h3] at h2
      exact h2)
     generalize ps[j]'hlt = y at *
     generalize ps[j + 1]'hlt1 = z at *
     clear hel;have hltI : (j : Int) < ps.length := by omega
     have hltI1 : (j : Int) + 1 < ps.length := by omega
     have hj63 : (j : Int) + 2 ≤ 9223372036854775807 := by omega
     have HW1 : Hid (IntKind.i64.wrap ((j : Int) + 1) = (j : Int) + 1) := IntWalk.i64_in _ (by omega);go_wp2_with fail
     go_loopw [9] (fun v9 wx => ∃ k : Nat, k ≤ j ∧ k % 2 = 0 ∧ (ascP ps = true → k = j) ∧ v9 = .int .i64 (k : Int) ∧ OwnI wx (w.heap.size + 1) (.slice VA j vc) H L ∧ Below w.heap.size w wx ∧ Blk wx w.heap.size 54 #[.int .i64 0, .int .u64 0, .slice none 0 0, .slice none 0 0]) (fun v9 _ => (intOf v9).toNat)
     case atStart => exact ⟨j, Nat.le_refl _, HJ.out, fun _ => rfl, rfl, hOr, hbr, hTr⟩
     case round =>
      clear hOr hbr hTr;obtain ⟨k, hk, hke, hkj, rfl, hOx, hbx, hTx⟩ := hrel;have HKJ := Hh hkj;clear hkj;have HKE := Hh hke;clear hke;have hkI : ((k : Nat) : Int) ≤ j := by omega
      go_upto_region 15 with fail
      go_cut [51] (fun s51 wx => ∃ bb : Bool, s51 = .bool bb ∧ (bb = true → 2 ≤ k) ∧ (ascP ps = true → bb = false) ∧ OwnI wx (w.heap.size + 1) (.slice VA j vc) H L ∧ Below w.heap.size w wx ∧ Blk wx w.heap.size 54 #[.int .i64 0, .int .u64 0, .slice none 0 0, .slice none 0 0])
      case first =>
       by_cases hk0 : k = 0
       ·subst hk0;skip
        refine wp_region_ways 16 (fun _ => True) (by kernel_rfl) (trivial) (fun hHeld => ?_)
        refine Tk 0 rfl hHeld ?_
        refine Tk 1 rfl hHeld ?_
        refine Tk 2 rfl hHeld ?_
        refine TkU 3 rfl hHeld ?_
        refine TkU 4 rfl hHeld ?_
        refine TkU 5 rfl hHeld ?_
        refine TkU 6 rfl hHeld ?_
        refine TkU 7 rfl hHeld ?_
        refine TkU 8 rfl hHeld ?_
        refine TkU 9 rfl hHeld ?_
        refine TkU 10 rfl hHeld ?_
        refine TkU 11 rfl hHeld ?_
        refine TkU 12 rfl hHeld ?_
        refine TkU 13 rfl hHeld ?_
        refine TkU 14 rfl hHeld ?_
        refine TkU 15 rfl hHeld ?_
        refine To 16 rfl fun K hK => ?_
        go_simp
        refine hK.out _ _ (fun h => absurd rfl h) (fun _ => ?_)
        clear hK K
        try simp only [Act.put, zz4, zz5, zz6]
        refine Ways.done (by kernel_rfl) ?_
        go_wp2_with fail
        go_meet
        exact ⟨false, rfl, (fun h => by cases h), (fun _ => rfl), hOx, hbx.drew, hTx⟩
       ·obtain ⟨m, rfl⟩ : ∃ m, k = m + 2 := ⟨k - 2, by have := HKE.out; omega⟩
        have hmj : m < j := by omega
        obtain ⟨lb, lo, hla, x1, x2, x3, x4, c0, c1, c2, c3, hei⟩ := hOx.cells m (by omega);subst hla;have HVX := Hh (HVL.out _ (HS.out.1 _ (List.getElem_mem (show m < L.length by omega))));have HXL := Hh (show ascP ps = true → Lib.compareBytes (encB (L[m]'(by omega))) (encB y) < 0 from fun hA => HASC.out hA m (HKJ.out hA) (by omega))
        generalize L[m]'(by omega) = x at *
        have e2 : ((m + 2 : Nat) : Int) = (m : Int) + 2 := by omega
        rw [e2];have hw1 : IntKind.i64.wrap ((m : Int) + 2 - 2) = (m : Int) := by rw [show (m : Int) + 2 - 2 = (m : Int) by omega]; exact IntWalk.i64_in _ (by omega)
        have hw2 : IntKind.i64.wrap (m : Int) = (m : Int) := IntWalk.i64_in _ (by omega);have hmI : (m : Int) < j := by omega
        have hm0 : (0 : Int) ≤ (m : Int) := by omega
        have hmp : (0 : Int) < (m : Int) + 2 := by omega
        have hHx := (hH.below hbx (Nat.le_refl _)).drew;have p0 := hHx.cell q0;have p1 := hHx.cell q1;have p2 := hHx.cell q2;have p3 := hHx.cell q3;have c0 := cell_drew c0;have c1 := cell_drew c1;have c2 := cell_drew c2;have c3 := cell_drew c3;have hbz := hbx.drew;have hOz := OwnI.drew hOx;have hTz := hTx.drew;obtain ⟨cmp, hcmp⟩ : ∃ cmp, Lib.compareBytes (encB x) (encB y) = cmp := ⟨_, rfl⟩
        have gx := (validP_iff x).1 HVX.out;have gy := (validP_iff y).1 HVY.out;have HGX := Hh gx;have HGY := Hh gy;have HCM := Hh hcmp;have HCL := Hh (show ascP ps = true → cmp < 0 from fun hA => by have h := HXL.out hA; rw [hcmp] at h; exact h);clear gx gy hcmp e2 hOx hbx hTx hk0 hk;skip
        refine wp_region_ways 16 (fun w' => w'.cell? ⟨lb, lo + m * 4, none⟩ = some (.int .i64 x.kind) ∧ w'.cell? ⟨lb, lo + m * 4 + 1, none⟩ = some (.int .u64 x.n) ∧ w'.cell? ⟨lb, lo + m * 4 + 2, none⟩ = some (.slice x1 x.bytes.length x2) ∧ w'.cell? ⟨lb, lo + m * 4 + 3, none⟩ = some (.slice x3 x.items.length x4) ∧ w'.cell? ⟨ib, io + j * 4, none⟩ = some (.int .i64 y.kind) ∧ w'.cell? ⟨ib, io + j * 4 + 1, none⟩ = some (.int .u64 y.n) ∧ w'.cell? ⟨ib, io + j * 4 + 2, none⟩ = some (.slice y1 y.bytes.length y2) ∧ w'.cell? ⟨ib, io + j * 4 + 3, none⟩ = some (.slice y3 y.items.length y4)) (by kernel_rfl) (⟨c0, c1, c2, c3, p0, p1, p2, p3⟩) (fun hHeld => ?_)
        refine Tk 0 rfl hHeld ?_
        refine Tk 1 rfl hHeld ?_
        refine Tk 2 rfl hHeld ?_
        refine TkG 3 rfl hHeld ?_
        refine TkG 4 rfl hHeld ?_
        refine TkG 5 rfl hHeld ?_
        refine TkG 6 rfl hHeld ?_
        refine TkG 7 rfl hHeld ?_
        refine TkG 9 rfl hHeld ?_
        refine TkG 10 rfl hHeld ?_
        refine TkG 11 rfl hHeld ?_
        refine TkG 12 rfl hHeld ?_
        refine To 8 rfl fun K hK => ?_
        go_simp
        refine (ref_Raw x H _ _ x1 _ x2 x3 _ x4 _ 0 HGX.out.1 (by have := HGX.out.2.2; omega) hei.arg hHx).mono ?_
        rintro e w5 ⟨r5, rfl, hf5⟩
        obtain ⟨RA5, rc5, rfl, _⟩ := hf5.own.form;have hHx := hHx.below hf5.2 (Nat.le_refl _);have hbz := hbz.trans (hf5.2.mono hbz.size);have hOz := hOz.below hf5.2;have hTz := hTz.below hf5.2;have hsr5 := hf5.own.src;have c0 := cell_below c0 hf5.2;have c1 := cell_below c1 hf5.2;have c2 := cell_below c2 hf5.2;have c3 := cell_below c3 hf5.2
        refine hK.out _ _ (fun _ => ?_) (fun hHeld => ?_)
        ·exact ⟨c0, c1, c2, c3, hHx.cell q0, hHx.cell q1, hHx.cell q2, hHx.cell q3⟩
        clear hK K;have hHeld := hHeld (by decide)
        try simp only [Act.put, zz4, zz5, zz6]
        refine To 13 rfl fun K hK => ?_
        go_simp
        refine (ref_Raw y H _ _ y1 _ y2 y3 _ y4 _ 0 HGY.out.1 (by have := HGY.out.2.2; omega) hex.arg hHx).mono ?_
        rintro e w6 ⟨r6, rfl, hf6⟩
        obtain ⟨RA6, rc6, rfl, _⟩ := hf6.own.form;have hHx := hHx.below hf6.2 (Nat.le_refl _);have hbz := hbz.trans (hf6.2.mono hbz.size);have hOz := hOz.below hf6.2;have hTz := hTz.below hf6.2;have hsr5 := hsr5.below hf6.2;have hsr6 := hf6.own.src;have c0 := cell_below c0 hf6.2;have c1 := cell_below c1 hf6.2;have c2 := cell_below c2 hf6.2;have c3 := cell_below c3 hf6.2
        refine hK.out _ _ (fun _ => ?_) (fun hHeld => ?_)
        ·exact ⟨c0, c1, c2, c3, hHx.cell q0, hHx.cell q1, hHx.cell q2, hHx.cell q3⟩
        clear hK K;have hHeld := hHeld (by decide)
        try simp only [Act.put, zz4, zz5, zz6]
        refine To 14 rfl fun K hK => ?_
        go_simp
        refine (ref_Compare _ RA5 RA6 (encB x) (encB y) (encB x).length (encB y).length rc5 rc6 rfl rfl (by have := HGX.out.2.2; omega) (by have := HGY.out.2.2; omega) hsr5 hsr6).mono ?_
        rintro e w7 ⟨rfl, hb7⟩
        rw [HCM.out];have hHx := hHx.below hb7 (Nat.le_refl _);have hbz := hbz.trans (hb7.mono hbz.size);have hOz := hOz.below hb7;have hTz := hTz.below hb7;have c0 := cell_below c0 hb7;have c1 := cell_below c1 hb7;have c2 := cell_below c2 hb7;have c3 := cell_below c3 hb7
        refine hK.out _ _ (fun _ => ?_) (fun hHeld => ?_)
        ·exact ⟨c0, c1, c2, c3, hHx.cell q0, hHx.cell q1, hHx.cell q2, hHx.cell q3⟩
        clear hK K;have hHeld := hHeld (by decide)
        try simp only [Act.put, zz4, zz5, zz6]
        refine TkG 15 rfl hHeld ?_
        refine To 16 rfl fun K hK => ?_
        go_simp
        refine hK.out _ _ (fun h => absurd rfl h) (fun _ => ?_)
        clear hK K
        try simp only [Act.put, zz4, zz5, zz6]
        refine Ways.done (by kernel_rfl) ?_
        clear hHeld hsr5 hsr6 c0 c1 c2 c3 p0 p1 p2 p3;go_wp2_with fail
        go_meet
        exact ⟨decide ((0 : Int) < cmp), rfl, (fun _ => by omega), (fun hA => decide_eq_false (by have := HCL.out hA; omega)), hOz, hbz, hTz⟩
      case rest =>
       clear hOx hbx hTx;obtain ⟨bb, rfl, hbb, hba, hOx, hbx, hTx⟩ := hcut;have HBA := Hh hba;clear hba
       cases bb with
       | true =>
        obtain ⟨m, rfl⟩ : ∃ m, k = m + 2 := ⟨k - 2, by have := hbb rfl; omega⟩
        have hw1 : IntKind.i64.wrap (((m + 2 : Nat) : Int) - 2) = (m : Int) := by rw [show ((m + 2 : Nat) : Int) - 2 = (m : Int) by omega]; exact IntWalk.i64_in _ (by omega)
        clear hbb;go_wp2_with fail
        go_roundw
        case rel => exact ⟨m, by omega, by have := HKE.out; omega, (fun hA => by have := HBA.out hA; cases this), by first | rfl | go_num, hOx, hbx, hTx⟩
        case measure => simp [intOf]; omega
       | false =>
        clear hbb;go_upto_region 17 with fail
        go_cut [7] (fun s7 wx => ∃ b' : Bool, s7 = .bool b' ∧ (k = 0 → b' = b) ∧ (ascP ps = true → b' = b) ∧ OwnI wx (w.heap.size + 1) (.slice VA j vc) H L ∧ Below w.heap.size w wx ∧ Blk wx w.heap.size 54 #[.int .i64 0, .int .u64 0, .slice none 0 0, .slice none 0 0])
        case first =>
         cases b with
         | true =>
          refine wp_region_ways 20 (fun _ => True) (by kernel_rfl) (trivial) (fun hHeld => ?_)
          refine Tk 0 rfl hHeld ?_
          refine Tk 1 rfl hHeld ?_
          refine TkU 2 rfl hHeld ?_
          refine TkU 3 rfl hHeld ?_
          refine TkU 4 rfl hHeld ?_
          refine TkU 5 rfl hHeld ?_
          refine TkU 6 rfl hHeld ?_
          refine TkU 7 rfl hHeld ?_
          refine TkU 8 rfl hHeld ?_
          refine TkU 9 rfl hHeld ?_
          refine TkU 10 rfl hHeld ?_
          refine TkU 11 rfl hHeld ?_
          refine TkU 12 rfl hHeld ?_
          refine TkU 13 rfl hHeld ?_
          refine TkU 14 rfl hHeld ?_
          refine TkU 15 rfl hHeld ?_
          refine TkU 16 rfl hHeld ?_
          refine TkU 17 rfl hHeld ?_
          refine TkU 18 rfl hHeld ?_
          refine Tk 19 rfl hHeld ?_
          refine To 20 rfl fun K hK => ?_
          go_simp
          refine hK.out _ _ (fun h => absurd rfl h) (fun _ => ?_)
          clear hK K
          try simp only [Act.put, zz4, zz5, zz6]
          refine Ways.done (by kernel_rfl) ?_
          go_wp2_with fail
          go_meet
          exact ⟨true, rfl, (fun _ => rfl), (fun _ => rfl), hOx, hbx.drew, hTx⟩
         | false =>
          by_cases hk0 : k = 0
          ·subst hk0
           refine wp_region_ways 20 (fun _ => True) (by kernel_rfl) (trivial) (fun hHeld => ?_)
           refine Tk 0 rfl hHeld ?_
           refine Tk 1 rfl hHeld ?_
           refine TkG 2 rfl hHeld ?_
           refine TkG 3 rfl hHeld ?_
           refine TkG 4 rfl hHeld ?_
           refine TkU 5 rfl hHeld ?_
           refine TkU 6 rfl hHeld ?_
           refine TkU 7 rfl hHeld ?_
           refine TkU 8 rfl hHeld ?_
           refine TkU 9 rfl hHeld ?_
           refine TkU 10 rfl hHeld ?_
           refine TkU 11 rfl hHeld ?_
           refine TkU 12 rfl hHeld ?_
           refine TkU 13 rfl hHeld ?_
           refine TkU 14 rfl hHeld ?_
           refine TkU 15 rfl hHeld ?_
           refine TkU 16 rfl hHeld ?_
           refine TkU 17 rfl hHeld ?_
           refine TkG 18 rfl hHeld ?_
           refine Tk 19 rfl hHeld ?_
           refine To 20 rfl fun K hK => ?_
           go_simp
           refine hK.out _ _ (fun h => absurd rfl h) (fun _ => ?_)
           clear hK K
           try simp only [Act.put, zz4, zz5, zz6]
           refine Ways.done (by kernel_rfl) ?_
           go_wp2_with fail
           go_meet
           exact ⟨false, rfl, (fun _ => rfl), (fun _ => rfl), hOx, hbx.drew, hTx⟩
          ·skip
           obtain ⟨m, rfl⟩ : ∃ m, k = m + 2 := ⟨k - 2, by have := HKE.out; omega⟩
           have hmj : m < j := by omega
           obtain ⟨lb, lo, hla, x1, x2, x3, x4, c0, c1, c2, c3, hei⟩ := hOx.cells m (by omega);subst hla;have HVX := Hh (HVL.out _ (HS.out.1 _ (List.getElem_mem (show m < L.length by omega))));have HXL := Hh (show ascP ps = true → Lib.compareBytes (encB (L[m]'(by omega))) (encB y) < 0 from fun hA => HASC.out hA m (HKJ.out hA) (by omega))
           generalize L[m]'(by omega) = x at *
           have e2 : ((m + 2 : Nat) : Int) = (m : Int) + 2 := by omega
           rw [e2];have hw1 : IntKind.i64.wrap ((m : Int) + 2 - 2) = (m : Int) := by rw [show (m : Int) + 2 - 2 = (m : Int) by omega]; exact IntWalk.i64_in _ (by omega)
           have hw2 : IntKind.i64.wrap (m : Int) = (m : Int) := IntWalk.i64_in _ (by omega);have hmI : (m : Int) < j := by omega
           have hm0 : (0 : Int) ≤ (m : Int) := by omega
           have hmp : (0 : Int) < (m : Int) + 2 := by omega
           have hHx := (hH.below hbx (Nat.le_refl _)).drew;have p0 := hHx.cell q0;have p1 := hHx.cell q1;have p2 := hHx.cell q2;have p3 := hHx.cell q3;have c0 := cell_drew c0;have c1 := cell_drew c1;have c2 := cell_drew c2;have c3 := cell_drew c3;have hbz := hbx.drew;have hOz := OwnI.drew hOx;have hTz := hTx.drew;obtain ⟨cmp, hcmp⟩ : ∃ cmp, Lib.compareBytes (encB x) (encB y) = cmp := ⟨_, rfl⟩
           have gx := (validP_iff x).1 HVX.out;have gy := (validP_iff y).1 HVY.out;have HGX := Hh gx;have HGY := Hh gy;have HCM := Hh hcmp;have HCL := Hh (show ascP ps = true → cmp < 0 from fun hA => by have h := HXL.out hA; rw [hcmp] at h; exact h);clear gx gy hcmp e2 hOx hbx hTx hk0 hk
           refine wp_region_ways 20 (fun w' => w'.cell? ⟨lb, lo + m * 4, none⟩ = some (.int .i64 x.kind) ∧ w'.cell? ⟨lb, lo + m * 4 + 1, none⟩ = some (.int .u64 x.n) ∧ w'.cell? ⟨lb, lo + m * 4 + 2, none⟩ = some (.slice x1 x.bytes.length x2) ∧ w'.cell? ⟨lb, lo + m * 4 + 3, none⟩ = some (.slice x3 x.items.length x4) ∧ w'.cell? ⟨ib, io + j * 4, none⟩ = some (.int .i64 y.kind) ∧ w'.cell? ⟨ib, io + j * 4 + 1, none⟩ = some (.int .u64 y.n) ∧ w'.cell? ⟨ib, io + j * 4 + 2, none⟩ = some (.slice y1 y.bytes.length y2) ∧ w'.cell? ⟨ib, io + j * 4 + 3, none⟩ = some (.slice y3 y.items.length y4)) (by kernel_rfl) (⟨c0, c1, c2, c3, p0, p1, p2, p3⟩) (fun hHeld => ?_)
           refine Tk 0 rfl hHeld ?_
           refine Tk 1 rfl hHeld ?_
           refine TkG 2 rfl hHeld ?_
           refine TkG 3 rfl hHeld ?_
           refine TkG 4 rfl hHeld ?_
           refine TkG 5 rfl hHeld ?_
           refine TkG 6 rfl hHeld ?_
           refine TkG 7 rfl hHeld ?_
           refine TkG 8 rfl hHeld ?_
           refine TkG 9 rfl hHeld ?_
           refine TkG 11 rfl hHeld ?_
           refine TkG 12 rfl hHeld ?_
           refine TkG 13 rfl hHeld ?_
           refine TkG 14 rfl hHeld ?_
           refine To 10 rfl fun K hK => ?_
           go_simp
           refine (ref_Raw x H _ _ x1 _ x2 x3 _ x4 _ 0 HGX.out.1 (by have := HGX.out.2.2; omega) hei.arg hHx).mono ?_
           rintro e w5 ⟨r5, rfl, hf5⟩
           obtain ⟨RA5, rc5, rfl, _⟩ := hf5.own.form;have hHx := hHx.below hf5.2 (Nat.le_refl _);have hbz := hbz.trans (hf5.2.mono hbz.size);have hOz := hOz.below hf5.2;have hTz := hTz.below hf5.2;have hsr5 := hf5.own.src;have c0 := cell_below c0 hf5.2;have c1 := cell_below c1 hf5.2;have c2 := cell_below c2 hf5.2;have c3 := cell_below c3 hf5.2
           refine hK.out _ _ (fun _ => ?_) (fun hHeld => ?_)
           ·exact ⟨c0, c1, c2, c3, hHx.cell q0, hHx.cell q1, hHx.cell q2, hHx.cell q3⟩
           clear hK K;have hHeld := hHeld (by decide)
           try simp only [Act.put, zz4, zz5, zz6]
           refine To 15 rfl fun K hK => ?_
           go_simp
           refine (ref_Raw y H _ _ y1 _ y2 y3 _ y4 _ 0 HGY.out.1 (by have := HGY.out.2.2; omega) hex.arg hHx).mono ?_
           rintro e w6 ⟨r6, rfl, hf6⟩
           obtain ⟨RA6, rc6, rfl, _⟩ := hf6.own.form;have hHx := hHx.below hf6.2 (Nat.le_refl _);have hbz := hbz.trans (hf6.2.mono hbz.size);have hOz := hOz.below hf6.2;have hTz := hTz.below hf6.2;have hsr5 := hsr5.below hf6.2;have hsr6 := hf6.own.src;have c0 := cell_below c0 hf6.2;have c1 := cell_below c1 hf6.2;have c2 := cell_below c2 hf6.2;have c3 := cell_below c3 hf6.2
           refine hK.out _ _ (fun _ => ?_) (fun hHeld => ?_)
           ·exact ⟨c0, c1, c2, c3, hHx.cell q0, hHx.cell q1, hHx.cell q2, hHx.cell q3⟩
           clear hK K;have hHeld := hHeld (by decide)
           try simp only [Act.put, zz4, zz5, zz6]
           refine To 16 rfl fun K hK => ?_
           go_simp
           refine (ref_Compare _ RA5 RA6 (encB x) (encB y) (encB x).length (encB y).length rc5 rc6 rfl rfl (by have := HGX.out.2.2; omega) (by have := HGY.out.2.2; omega) hsr5 hsr6).mono ?_
           rintro e w7 ⟨rfl, hb7⟩
           rw [HCM.out];have hHx := hHx.below hb7 (Nat.le_refl _);have hbz := hbz.trans (hb7.mono hbz.size);have hOz := hOz.below hb7;have hTz := hTz.below hb7;have c0 := cell_below c0 hb7;have c1 := cell_below c1 hb7;have c2 := cell_below c2 hb7;have c3 := cell_below c3 hb7
           refine hK.out _ _ (fun _ => ?_) (fun hHeld => ?_)
           ·exact ⟨c0, c1, c2, c3, hHx.cell q0, hHx.cell q1, hHx.cell q2, hHx.cell q3⟩
           clear hK K;have hHeld := hHeld (by decide)
           try simp only [Act.put, zz4, zz5, zz6]
           refine TkG 17 rfl hHeld ?_
           refine TkG 18 rfl hHeld ?_
           refine Tk 19 rfl hHeld ?_
           refine To 20 rfl fun K hK => ?_
           go_simp
           refine hK.out _ _ (fun h => absurd rfl h) (fun _ => ?_)
           clear hK K
           try simp only [Act.put, zz4, zz5, zz6]
           refine Ways.done (by kernel_rfl) ?_
           clear hHeld hsr5 hsr6 c0 c1 c2 c3 p0 p1 p2 p3;go_wp2_with fail
           go_meet
           exact ⟨cmp == 0, rfl, (fun h => absurd h (by omega)), (fun hA => by rw [beq_eq_false_iff_ne]; have := HCL.out hA; omega), hOz, hbz, hTz⟩
        case rest =>
         clear hOx hbx hTx;obtain ⟨b', rfl, hb', hbA, hOx, hbx, hTx⟩ := hcut;have HBA2 := Hh hbA;clear hbA;have HB := Hh hb';clear hb';obtain ⟨cs1, cs2, hc1, hc2, hS1, hS2⟩ := hOx.parts k;have hHx := (hH.below hbx (Nat.le_refl _)).drew;have hHc := hH.below hbx (Nat.le_refl _);have p0 := hHx.cell q0;have p1 := hHx.cell q1;have p2 := hHx.cell q2;have p3 := hHx.cell q3;have r0 := hHx.cell s0;have r1 := hHx.cell s1;have r2 := hHx.cell s2;have r3 := hHx.cell s3;have hbz := (Below.refl wc.heap.size wc).drew;have hj1 : ((j : Int) + 1).toNat = j + 1 := by omega
         have hj1g : (0 : Int) ≤ (j : Int) + 1 := by omega
         have hw1 := HW1.out;have hkc : (k : Int) ≤ vc := Int.le_trans hkI HVC.out;have hk0 : (0 : Int) ≤ k := Int.natCast_nonneg k;go_upto_region 18 with fail
         refine wp_region_ways 19 (fun w' => w'.cell? ⟨ib, io + j * 4, none⟩ = some (.int .i64 y.kind) ∧ w'.cell? ⟨ib, io + j * 4 + 1, none⟩ = some (.int .u64 y.n) ∧ w'.cell? ⟨ib, io + j * 4 + 2, none⟩ = some (.slice y1 y.bytes.length y2) ∧ w'.cell? ⟨ib, io + j * 4 + 3, none⟩ = some (.slice y3 y.items.length y4) ∧ w'.cell? ⟨ib, io + (j + 1) * 4, none⟩ = some (.int .i64 z.kind) ∧ w'.cell? ⟨ib, io + (j + 1) * 4 + 1, none⟩ = some (.int .u64 z.n) ∧ w'.cell? ⟨ib, io + (j + 1) * 4 + 2, none⟩ = some (.slice z1 z.bytes.length z2) ∧ w'.cell? ⟨ib, io + (j + 1) * 4 + 3, none⟩ = some (.slice z3 z.items.length z4)) (by kernel_rfl) (⟨p0, p1, p2, p3, r0, r1, r2, r3⟩) (fun hHeld => ?_)
         refine Tk 0 rfl hHeld ?_
         refine Tk 1 rfl hHeld ?_
         refine Tk 2 rfl hHeld ?_
         refine Tk 4 rfl hHeld ?_
         refine Tk 5 rfl hHeld ?_
         refine Tk 6 rfl hHeld ?_
         refine Tk 7 rfl hHeld ?_
         refine Tk 8 rfl hHeld ?_
         refine Tk 9 rfl hHeld ?_
         refine Tk 10 rfl hHeld ?_
         refine Tk 11 rfl hHeld ?_
         refine Tk 12 rfl hHeld ?_
         refine Tk 15 rfl hHeld ?_
         refine Tk 16 rfl hHeld ?_
         refine Tk 17 rfl hHeld ?_
         refine Ways.two (i := 3) (j := 13) rfl rfl (by kernel_rfl) (fun K hK => ?_) (fun K hK => ?_)
         ·rw [if_pos (by rfl)]
          refine wp_app_items (.const (.slice none 0 0)) (.tmp 76) rfl wc.heap.size (.slice none 0 0) H [] rfl (OwnI.nil _ _ _) _ _ _ cs1 (L.take k) rfl (by rw [List.length_take]; omega) hc1 (hS1.below hbz) (by simp; omega) hbz.size fun v5 w5 hX hg hat => ?_
          rw [List.nil_append] at hX;have hbq := grown_none (by simpa [Value.ownBlock] using hg);have hbz := hbz.trans (hbq.mono hbz.size)
          try have hS3 := hS3.below hbq
          refine hK.out _ _ (fun _ => ?_) (fun hHeld => ?_)
          ·exact ⟨(hHc.below hbz (Nat.le_refl _)).cell q0, (hHc.below hbz (Nat.le_refl _)).cell q1, (hHc.below hbz (Nat.le_refl _)).cell q2, (hHc.below hbz (Nat.le_refl _)).cell q3, (hHc.below hbz (Nat.le_refl _)).cell s0, (hHc.below hbz (Nat.le_refl _)).cell s1, (hHc.below hbz (Nat.le_refl _)).cell s2, (hHc.below hbz (Nat.le_refl _)).cell s3⟩
          clear hK K;have hHeld := hHeld (by decide)
          try simp only [Act.put, zz1, zz2, zz3, zz4, zz5, zz6]
          refine To 13 rfl fun K hK => ?_
          go_simp
          have hS3 := below_src hbz 54 #[.int .i64 y.kind, .int .u64 y.n, .slice y1 y.bytes.length y2, .slice y3 y.items.length y4, .int .i64 z.kind, .int .u64 z.n, .slice z1 z.bytes.length z2, .slice z3 z.items.length z4]
          try have hX := hX.alloc (.cells #[.int .i64 y.kind, .int .u64 y.n, .slice y1 y.bytes.length y2, .slice y3 y.items.length y4, .int .i64 z.kind, .int .u64 z.n, .slice z1 z.bytes.length z2, .slice z3 z.items.length z4] 54)
          have hbz := hbz.alloc hbz.size (.cells #[.int .i64 y.kind, .int .u64 y.n, .slice y1 y.bytes.length y2, .slice y3 y.items.length y4, .int .i64 z.kind, .int .u64 z.n, .slice z1 z.bytes.length z2, .slice z3 z.items.length z4] 54)
          refine hK.out _ _ (fun _ => ?_) (fun hHeld => ?_)
          ·exact ⟨(hHc.below hbz (Nat.le_refl _)).cell q0, (hHc.below hbz (Nat.le_refl _)).cell q1, (hHc.below hbz (Nat.le_refl _)).cell q2, (hHc.below hbz (Nat.le_refl _)).cell q3, (hHc.below hbz (Nat.le_refl _)).cell s0, (hHc.below hbz (Nat.le_refl _)).cell s1, (hHc.below hbz (Nat.le_refl _)).cell s2, (hHc.below hbz (Nat.le_refl _)).cell s3⟩
          clear hK K;have hHeld := hHeld (by decide)
          try simp only [Act.put, zz1, zz2, zz3, zz4, zz5, zz6]
          refine To 14 rfl fun K hK => ?_
          rw [if_pos (by rfl)]
          refine wp_app_items (.tmp 77) (.tmp 87) rfl wc.heap.size _ H (L.take k) rfl hX _ _ _ (itemC y y1 y2 y3 y4 ++ itemC z z1 z2 z3 z4) [y, z] rfl rfl ((ItemsC.one hex).app (ItemsC.one hez)) hS3 (by rw [List.length_take]; simp; omega) hbz.size fun v7 w7 hX7 hg7 hat7 => ?_
          have hbz := hbz.grown hg7 hbz.size (fun q hq => (hX.lt q hq).1)
          refine hK.out _ _ (fun _ => ?_) (fun hHeld => ?_)
          ·exact ⟨(hHc.below hbz (Nat.le_refl _)).cell q0, (hHc.below hbz (Nat.le_refl _)).cell q1, (hHc.below hbz (Nat.le_refl _)).cell q2, (hHc.below hbz (Nat.le_refl _)).cell q3, (hHc.below hbz (Nat.le_refl _)).cell s0, (hHc.below hbz (Nat.le_refl _)).cell s1, (hHc.below hbz (Nat.le_refl _)).cell s2, (hHc.below hbz (Nat.le_refl _)).cell s3⟩
          clear hK K;have hHeld := hHeld (by decide)
          try simp only [Act.put, zz1, zz2, zz3, zz4, zz5, zz6]
          refine To 18 rfl fun K hK => ?_
          rw [if_pos (by rfl)]
          refine wp_app_items (.tmp 88) (.tmp 91) rfl wc.heap.size _ H (L.take k ++ [y, z]) rfl hX7 _ _ _ cs2 (L.drop k) rfl (by rw [List.length_drop]; omega) hc2 ?_ (by rw [List.length_append, List.length_take, List.length_drop]; simp; omega) hbz.size fun v8 w8 hX8 hg8 hat8 => ?_
          ·exact (Src.slicek hS2 hc2 hLl HVC.out).below hbz
          have hbz := hbz.grown hg8 hbz.size (fun q hq => (hX7.lt q hq).1)
          refine hK.out _ _ (fun _ => ?_) (fun hHeld => ?_)
          ·exact ⟨(hHc.below hbz (Nat.le_refl _)).cell q0, (hHc.below hbz (Nat.le_refl _)).cell q1, (hHc.below hbz (Nat.le_refl _)).cell q2, (hHc.below hbz (Nat.le_refl _)).cell q3, (hHc.below hbz (Nat.le_refl _)).cell s0, (hHc.below hbz (Nat.le_refl _)).cell s1, (hHc.below hbz (Nat.le_refl _)).cell s2, (hHc.below hbz (Nat.le_refl _)).cell s3⟩
          clear hK K;have hHeld := hHeld (by decide)
          try simp only [Act.put, zz1, zz2, zz3, zz4, zz5, zz6]
          refine To 19 rfl fun K hK => ?_
          go_simp
          refine hK.out _ _ (fun h => absurd rfl h) (fun _ => ?_)
          clear hK K
          try simp only [Act.put, zz1, zz2, zz3, zz4, zz5, zz6]
          refine Ways.done (by kernel_rfl) ?_
          clear hHeld hX hX7 hg hat hg7 hat7 hg8 hat8 hbq hS3 hS1 hS2 hc1 hc2 p0 p1 p2 p3 r0 r1 r2 r3 hHx;obtain ⟨VA', vc', rfl, _⟩ := hX8.form;have hlen : (L.take k ++ [y, z] ++ L.drop k).length = j + 2 := by rw [List.length_append, List.length_append, List.length_take, List.length_drop]; simp; omega
          rw [hlen] at hX8;rw [hlen];have hO8 := hX8.more (base' := w.heap.size + 1) (by have := hTx.lt; omega);have hb8 := hbx.trans (hbz.mono hbx.size);have hT8 := hTx.below hbz;have HLN := Hh hlen;clear hlen hX8;go_wp2_with fail
          go_roundw
          case rel =>
           refine ⟨j + 2, L.take k ++ [y, z] ++ L.drop k, b', VA', vc', by omega, by have := HJ.out; omega, by go_num, rfl, rfl, HLN.out, hO8, fun x hx => ?_, ?_, fun h2 => ?_, hb8, hT8⟩
           ·simp only [List.mem_append, List.mem_cons, List.not_mem_nil, or_false] at hx
            rcases hx with (hx | rfl | rfl) | hx
            ·exact HS.out.1 x (List.mem_of_mem_take hx)
            ·exact HM1.out.1
            ·exact HM1.out.2
            ·exact HS.out.1 x (List.mem_of_mem_drop hx)
           ·rw [encL_put, HPS.out, HS.out.2.1]
           ·have hL0 := HS.out.2.2 h2;have hkj := HKJ.out h2
            refine ⟨by rw [HBA2.out h2]; exact hL0.1, ?_⟩
            rw [HPT.out, ← hL0.2, hkj, List.take_of_length_le (by omega), List.drop_of_length_le (by omega)]
            simp
          case measure => simp [intOf]; omega
         ·go_simp
          have hS3 := below_src hbz 54 #[.int .i64 y.kind, .int .u64 y.n, .slice y1 y.bytes.length y2, .slice y3 y.items.length y4, .int .i64 z.kind, .int .u64 z.n, .slice z1 z.bytes.length z2, .slice z3 z.items.length z4]
          try have hX := hX.alloc (.cells #[.int .i64 y.kind, .int .u64 y.n, .slice y1 y.bytes.length y2, .slice y3 y.items.length y4, .int .i64 z.kind, .int .u64 z.n, .slice z1 z.bytes.length z2, .slice z3 z.items.length z4] 54)
          have hbz := hbz.alloc hbz.size (.cells #[.int .i64 y.kind, .int .u64 y.n, .slice y1 y.bytes.length y2, .slice y3 y.items.length y4, .int .i64 z.kind, .int .u64 z.n, .slice z1 z.bytes.length z2, .slice z3 z.items.length z4] 54)
          refine hK.out _ _ (fun _ => ?_) (fun hHeld => ?_)
          ·exact ⟨(hHc.below hbz (Nat.le_refl _)).cell q0, (hHc.below hbz (Nat.le_refl _)).cell q1, (hHc.below hbz (Nat.le_refl _)).cell q2, (hHc.below hbz (Nat.le_refl _)).cell q3, (hHc.below hbz (Nat.le_refl _)).cell s0, (hHc.below hbz (Nat.le_refl _)).cell s1, (hHc.below hbz (Nat.le_refl _)).cell s2, (hHc.below hbz (Nat.le_refl _)).cell s3⟩
          clear hK K;have hHeld := hHeld (by decide)
          try simp only [Act.put, zz1, zz2, zz3, zz4, zz5, zz6]
          refine To 3 rfl fun K hK => ?_
          rw [if_pos (by rfl)]
          refine wp_app_items (.const (.slice none 0 0)) (.tmp 76) rfl wc.heap.size (.slice none 0 0) H [] rfl (OwnI.nil _ _ _) _ _ _ cs1 (L.take k) rfl (by rw [List.length_take]; omega) hc1 (hS1.below hbz) (by simp; omega) hbz.size fun v5 w5 hX hg hat => ?_
          rw [List.nil_append] at hX;have hbq := grown_none (by simpa [Value.ownBlock] using hg);have hbz := hbz.trans (hbq.mono hbz.size)
          try have hS3 := hS3.below hbq
          refine hK.out _ _ (fun _ => ?_) (fun hHeld => ?_)
          ·exact ⟨(hHc.below hbz (Nat.le_refl _)).cell q0, (hHc.below hbz (Nat.le_refl _)).cell q1, (hHc.below hbz (Nat.le_refl _)).cell q2, (hHc.below hbz (Nat.le_refl _)).cell q3, (hHc.below hbz (Nat.le_refl _)).cell s0, (hHc.below hbz (Nat.le_refl _)).cell s1, (hHc.below hbz (Nat.le_refl _)).cell s2, (hHc.below hbz (Nat.le_refl _)).cell s3⟩
          clear hK K;have hHeld := hHeld (by decide)
          try simp only [Act.put, zz1, zz2, zz3, zz4, zz5, zz6]
          refine To 14 rfl fun K hK => ?_
          rw [if_pos (by rfl)]
          refine wp_app_items (.tmp 77) (.tmp 87) rfl wc.heap.size _ H (L.take k) rfl hX _ _ _ (itemC y y1 y2 y3 y4 ++ itemC z z1 z2 z3 z4) [y, z] rfl rfl ((ItemsC.one hex).app (ItemsC.one hez)) hS3 (by rw [List.length_take]; simp; omega) hbz.size fun v7 w7 hX7 hg7 hat7 => ?_
          have hbz := hbz.grown hg7 hbz.size (fun q hq => (hX.lt q hq).1)
          refine hK.out _ _ (fun _ => ?_) (fun hHeld => ?_)
          ·exact ⟨(hHc.below hbz (Nat.le_refl _)).cell q0, (hHc.below hbz (Nat.le_refl _)).cell q1, (hHc.below hbz (Nat.le_refl _)).cell q2, (hHc.below hbz (Nat.le_refl _)).cell q3, (hHc.below hbz (Nat.le_refl _)).cell s0, (hHc.below hbz (Nat.le_refl _)).cell s1, (hHc.below hbz (Nat.le_refl _)).cell s2, (hHc.below hbz (Nat.le_refl _)).cell s3⟩
          clear hK K;have hHeld := hHeld (by decide)
          try simp only [Act.put, zz1, zz2, zz3, zz4, zz5, zz6]
          refine To 18 rfl fun K hK => ?_
          rw [if_pos (by rfl)]
          refine wp_app_items (.tmp 88) (.tmp 91) rfl wc.heap.size _ H (L.take k ++ [y, z]) rfl hX7 _ _ _ cs2 (L.drop k) rfl (by rw [List.length_drop]; omega) hc2 ?_ (by rw [List.length_append, List.length_take, List.length_drop]; simp; omega) hbz.size fun v8 w8 hX8 hg8 hat8 => ?_
          ·exact (Src.slicek hS2 hc2 hLl HVC.out).below hbz
          have hbz := hbz.grown hg8 hbz.size (fun q hq => (hX7.lt q hq).1)
          refine hK.out _ _ (fun _ => ?_) (fun hHeld => ?_)
          ·exact ⟨(hHc.below hbz (Nat.le_refl _)).cell q0, (hHc.below hbz (Nat.le_refl _)).cell q1, (hHc.below hbz (Nat.le_refl _)).cell q2, (hHc.below hbz (Nat.le_refl _)).cell q3, (hHc.below hbz (Nat.le_refl _)).cell s0, (hHc.below hbz (Nat.le_refl _)).cell s1, (hHc.below hbz (Nat.le_refl _)).cell s2, (hHc.below hbz (Nat.le_refl _)).cell s3⟩
          clear hK K;have hHeld := hHeld (by decide)
          try simp only [Act.put, zz1, zz2, zz3, zz4, zz5, zz6]
          refine To 19 rfl fun K hK => ?_
          go_simp
          refine hK.out _ _ (fun h => absurd rfl h) (fun _ => ?_)
          clear hK K
          try simp only [Act.put, zz1, zz2, zz3, zz4, zz5, zz6]
          refine Ways.done (by kernel_rfl) ?_
          clear hHeld hX hX7 hg hat hg7 hat7 hg8 hat8 hbq hS3 hS1 hS2 hc1 hc2 p0 p1 p2 p3 r0 r1 r2 r3 hHx;obtain ⟨VA', vc', rfl, _⟩ := hX8.form;have hlen : (L.take k ++ [y, z] ++ L.drop k).length = j + 2 := by rw [List.length_append, List.length_append, List.length_take, List.length_drop]; simp; omega
          rw [hlen] at hX8;rw [hlen];have hO8 := hX8.more (base' := w.heap.size + 1) (by have := hTx.lt; omega);have hb8 := hbx.trans (hbz.mono hbx.size);have hT8 := hTx.below hbz;have HLN := Hh hlen;clear hlen hX8;go_wp2_with fail
          go_roundw
          case rel =>
           refine ⟨j + 2, L.take k ++ [y, z] ++ L.drop k, b', VA', vc', by omega, by have := HJ.out; omega, by go_num, rfl, rfl, HLN.out, hO8, fun x hx => ?_, ?_, fun h2 => ?_, hb8, hT8⟩
           ·simp only [List.mem_append, List.mem_cons, List.not_mem_nil, or_false] at hx
            rcases hx with (hx | rfl | rfl) | hx
            ·exact HS.out.1 x (List.mem_of_mem_take hx)
            ·exact HM1.out.1
            ·exact HM1.out.2
            ·exact HS.out.1 x (List.mem_of_mem_drop hx)
           ·rw [encL_put, HPS.out, HS.out.2.1]
           ·have hL0 := HS.out.2.2 h2;have hkj := HKJ.out h2
            refine ⟨by rw [HBA2.out h2]; exact hL0.1, ?_⟩
            rw [HPT.out, ← hL0.2, hkj, List.take_of_length_le (by omega), List.drop_of_length_le (by omega)]
            simp
          case measure => simp [intOf]; omega
    ·have hkl : j = ps.length := by omega
     subst hkl;have hmodL : (encL L).length = (encL ps).length := by have := HS.out.2.1; rw [List.take_length] at this; exact this
     have hL2 : ascP ps = true → b = false ∧ L = ps := fun h => by have := HS.out.2.2 h; rw [List.take_length] at this; exact this
     have HZ := Hh (And.intro hmodL hL2);clear hmodL hL2
     cases b with
     | true =>
      go_wp2_with (with_reducible refine stop_store ?_)
      refine stI hTr fun w9 hT9 hg9 => ?_
      have hG9 := (Grows.of_below hH hbr).grownOwn hn0 (Nat.le_refl _) hg9;go_wp2_with fail
      refine ret_row_tmp rfl rfl hT9 rfl rfl size_item rfl ?_
      exact ⟨_, .inr ⟨7, rfl, by omega, ⟨none, 0, none, 0, H, rfl, hG9, IsItem.plain H 0 0 (by omega) (by omega)⟩, fun h => by have := (HZ.out.2 h.2.1).1; cases this⟩⟩
     | false =>
      obtain ⟨H8, hl8, hh8, hf8, hz8, hle1, hle2, hel8⟩ := hOr.snap (hH.below hbr (Nat.le_refl _)) (fun g hg => hH.none_of_ge (by have := (hOr.lt g (own_of hg)).1; omega))
      have hGz : Grows w H wr H8 := ⟨hbr, hl8, hh8, fun b o hb => by
       rcases hf8 b o hb with h | h
       ·exact .inl h
       ·exact .inr (by have := (hOr.lt b (own_of h)).1; omega)⟩
      have hn8 : H8 w.heap.size = none := by
       cases h8 : H8 w.heap.size with
       | none => rfl
       | some o =>
        rcases hf8 _ o h8 with h | h
        ·rw [hn0] at h; cases h
        ·have := (hOr.lt w.heap.size (own_of h)).1; omega
      have hLl2 := hz8;obtain ⟨x7, hx7⟩ : ∃ x, Itm.mk 5 0 [] L = x := ⟨_, rfl⟩
      have hi8 : IsItem H8 none 0 VA vc x7 := by
       rw [← hx7, IsItem]
       exact ⟨⟨by omega, by omega, by omega, hle1, hle2⟩, IsBytes.nil _, hel8⟩
      have ha8 : ItemA H8 5 0 none 0 0 VA ps.length vc x7 := by
       refine ⟨by rw [← hx7]; rfl, by rw [← hx7]; rfl, by rw [← hx7]; rfl, ?_, hi8⟩
       rw [← hx7]; exact hz8
      have hG9 := hGz.alloc (.cells #[.int .i64 5, .int .u64 0, .slice none 0 0, .slice VA ps.length vc] 54);have hT9 := hTr.alloc (.cells #[.int .i64 5, .int .u64 0, .slice none 0 0, .slice VA ps.length vc] 54);have hB9 := Blk.new wr 54 #[.int .i64 5, .int .u64 0, .slice none 0 0, .slice VA ps.length vc];have V := Hh (ref_Valid (hTab.mono hl8) ha8 _ hG9.holds);have HA8 := Hh ha8;have HX7 := Hh hx7;clear hx7 hi8 ha8 hle1 hle2 hel8 hz8 hLl2 hf8 hOr hTr
      cases hv : validP x7 with
      | false =>
       rw [hv] at V;have HV := Hh hv;clear hv;go_wp2_with fail
       refine V.out.mono ?_
       rintro e w10 ⟨rfl, hb10⟩
       have hG10 := hG9.below_ hb10;have hT10 := hT9.below hb10;clear hG9 hT9 hB9 hGz hb10;go_wp2_with (with_reducible refine stop_store ?_)
       refine stI hT10 fun w11 hT11 hg11 => ?_
       have hG11 := hG10.grownOwn hn8 (Nat.le_refl _) hg11;go_wp2_with fail
       refine ret_row_tmp rfl rfl hT11 rfl rfl size_item rfl ?_
       exact ⟨_, .inr ⟨8, rfl, by omega, ⟨none, 0, none, 0, H8, rfl, hG11, IsItem.plain H8 0 0 (by omega) (by omega)⟩, fun h => by
        have h1 := HV.out;rw [← HX7.out, (HZ.out.2 h.2.1).2, h.2.2.2] at h1
        cases h1⟩⟩
      | true =>
       rw [hv] at V;have HV := Hh hv;clear hv;go_wp2_with fail
       refine V.out.mono ?_
       rintro e w10 ⟨rfl, hb10⟩
       have hG10 := hG9.below_ hb10;have hT10 := hT9.below hb10;have hB10 := hB9.below hb10;have c0 := hB10.cell 0 rfl;have c1 := hB10.cell 1 rfl;have c2 := hB10.cell 2 rfl;have c3 := hB10.cell 3 rfl;have C := Hh (ref_Copy x7 H8 _ _ _ _ _ _ _ _ w10 (validP_modest HV.out) HA8.out hG10.holds);clear hG9 hT9 hB9 hGz hb10;go_wp2_with fail
       refine C.out.mono ?_
       rintro e w11 ⟨v11, rfl, ja, jb, jc, jd, H11, rfl, hG11, hi11⟩
       have hT11 := hT10.below hG11.below;have hn11 := hG11.none hn8 hT10.lt;have hG12 := hG10.trans hG11;clear hT10 hG10 hG11 c0 c1 c2 c3;go_wp2_with (with_reducible refine stop_store ?_)
       refine stI hT11 fun w12 hT12 hg12 => ?_
       have hG13 := hG12.grownOwn hn11 (Nat.le_refl _) hg12;go_wp2_with fail
       refine ret_row_tmp rfl rfl hT12 rfl rfl size_item rfl ?_
       exact ⟨_, .inl ⟨L, rfl, by rw [HX7.out]; exact ⟨ja, jb, jc, jd, H11, rfl, hG13, hi11⟩, by rw [HX7.out]; exact HV.out, HZ.out.1, fun h => (HZ.out.2 h).2⟩⟩
end Go.Proofs.YtmacemcajlgddaaGreatDoor
