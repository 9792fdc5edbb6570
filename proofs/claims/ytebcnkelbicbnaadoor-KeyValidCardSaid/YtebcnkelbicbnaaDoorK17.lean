/- Walks: the references' Same. -/
import Derived.Test.YtebcnkelbicbnaaDoorK14
set_option linter.unusedVariables false
set_option linter.unusedSimpArgs false
namespace Go.Proofs.YtebcnkelbicbnaaDoor
open Go.RowKit

theorem cmp_zero : ∀ a b : List UInt8, Lib.compareBytes a b = 0 ↔ a = b
  | [], [] => by rw [Lib.compareBytes]; simp
  | [], y :: b => by rw [Lib.compareBytes]; simp
  | x :: a, [] => by rw [Lib.compareBytes]; simp
  | x :: a, y :: b => by
    rw [Lib.compareBytes]
    by_cases h1 : x < y
    · rw [if_pos h1]
      have : x ≠ y := by rintro rfl; exact UInt8.lt_irrefl x h1
      simp [this]
    · rw [if_neg h1]
      by_cases h2 : y < x
      · rw [if_pos h2]
        have : x ≠ y := by rintro rfl; exact UInt8.lt_irrefl x h2
        simp [this]
      · rw [if_neg h2]
        have e : x = y := UInt8.toNat_inj.1 (by rw [UInt8.lt_iff_toNat_lt] at h1 h2; omega)
        subst e
        simp [cmp_zero a b]
def SameSaid (x : Itm) : Prop := ∀ (y : Itm) (H : Snap) (k n : Int) (ba : Option Addr) (bl bc : Nat) (ia : Option Addr) (il ic : Nat) (k' n' : Int) (ba' : Option Addr) (bl' bc' : Nat) (ia' : Option Addr) (il' ic' : Nat) (w : World),
  Modest x → Modest y → ItemA H k n ba bl bc ia il ic x → ItemA H k' n' ba' bl' bc' ia' il' ic' y → Holds w H →
  Calls Tryd.prog 13 #[.agg #[.int .i64 k, .int .u64 n, .slice ba bl bc, .slice ia il ic], .agg #[.int .i64 k', .int .u64 n', .slice ba' bl' bc', .slice ia' il' ic']] w fun e w' => e = .returned (.bool (sameB x y)) ∧ Below w.heap.size w w'
theorem sameB_eq (x y : Itm) : sameB x y = (x.kind == y.kind && x.n == y.n && x.bytes == y.bytes && sameL x.items y.items) := by cases x; cases y; rw [sameB]; rfl
theorem sameL_len : ∀ l m : List Itm, sameL l m = true → l.length = m.length := fun l m h => by rw [sameL_iff] at h; rw [h]

set_option maxRecDepth 100000 in
set_option maxHeartbeats 6400000 in
theorem same_step (x : Itm) (ih : ∀ z : Itm, cnt z < cnt x → SameSaid z) : SameSaid x := by
  intro y H k n ba bl bc ia il ic k' n' ba' bl' bc' ia' il' ic' w hmx hmy hx hy hH
  obtain ⟨rfl, rfl, rfl, rfl, hxi⟩ := hx.eqs_
  obtain ⟨rfl, rfl, rfl, rfl, hyi⟩ := hy.eqs_
  have HX := Lib.hid hxi
  have HY := Lib.hid hyi
  have HMX := Lib.hid hmx
  have HMY := Lib.hid hmy
  have hbx := hxi.bounds
  have hby := hyi.bounds
  have hbw := (below_box w (itemO x ba bc ia ic)).alloc (by simp) (itemO y ba' bc' ia' ic')
  have hB1 := (Blk.new w 34 #[.int .i64 x.kind, .int .u64 x.n, .slice ba x.bytes.length bc, .slice ia x.items.length ic]).alloc (itemO y ba' bc' ia' ic')
  have hB2 := Blk.new (w.alloc (itemO x ba bc ia ic)) 34 #[.int .i64 y.kind, .int .u64 y.n, .slice ba' y.bytes.length bc', .slice ia' y.items.length ic']
  simp only [size_alloc] at hB2
  have hH2 : Holds ((w.alloc (itemO x ba bc ia ic)).alloc (itemO y ba' bc' ia' ic')) H := (hH.alloc _).alloc _
  have C := Lib.hid (ref_Compare _ ba ba' x.bytes y.bytes x.bytes.length y.bytes.length bc bc' rfl rfl (hmx.parts.1) (hmy.parts.1) (Src.of_row hxi.bytes.row hH2) (Src.of_row hyi.bytes.row hH2))
  have hxl : x.items.length ≤ 9223372036854775807 := by omega
  have hyl : y.items.length ≤ 9223372036854775807 := by omega
  have HN1 := Lib.hid hbx.2.2.1
  have HN2 := Lib.hid hby.2.2.1
  have E0 := sameB_eq x y
  clear hx hy hxi hyi hbx hby hmx hmy
  by_cases h1 : x.kind = y.kind
  case neg =>
    have E : Hid (sameB x y = false) := by rw [Hid, E0]; simp [h1]
    have b1 : (x.kind != y.kind) = true := by simp [h1]
    have p1 : (x.kind = y.kind) = False := eq_false h1
    clear h1 E0
    go_enter Tryd.func13, Tryd.ntmps13
    go_wp2_with fail
    go_ret
    exact ⟨by rw [E.out]; rfl, hbw⟩
  have b1 : (x.kind != y.kind) = false := by simp [h1]
  have p1 : (x.kind = y.kind) = True := eq_true h1
  have e1 : (x.kind == y.kind) = true := by simp [h1]
  rw [e1] at E0
  clear h1 e1
  by_cases h2 : x.n = y.n
  case neg =>
    have E : Hid (sameB x y = false) := by rw [Hid, E0]; simp [h2]
    have b2 : ((x.n : Int) != (y.n : Int)) = true := by simp; omega
    have p2 : (x.n = y.n) = False := eq_false h2
    clear h2 E0
    go_enter Tryd.func13, Tryd.ntmps13
    go_wp2_with fail
    go_ret
    exact ⟨by rw [E.out]; rfl, hbw⟩
  have b2 : ((x.n : Int) != (y.n : Int)) = false := by simp; omega
  have p2 : (x.n = y.n) = True := eq_true h2
  have e2 : (x.n == y.n) = true := by simp [h2]
  rw [e2] at E0
  clear h2 e2
  obtain ⟨cmp, hcmp⟩ : ∃ cmp, Lib.compareBytes x.bytes y.bytes = cmp := ⟨_, rfl⟩
  have hz := cmp_zero x.bytes y.bytes
  rw [hcmp] at C hz
  clear hcmp
  by_cases h3 : x.bytes = y.bytes
  case neg =>
    have E : Hid (sameB x y = false) := by rw [Hid, E0]; simp [h3]
    have h0 : cmp ≠ 0 := fun h => h3 (hz.1 h)
    have b3 : (cmp != 0) = true := by simp [h0]
    have p3 : (cmp = 0) = False := eq_false h0
    clear h3 E0 hz h0
    go_enter Tryd.func13, Tryd.ntmps13
    go_wp2_with fail
    refine C.out.mono ?_
    rintro e w1 ⟨rfl, hb1⟩
    have hbz := hbw.trans (hb1.mono hbw.size)
    go_wp2_with fail
    go_ret
    exact ⟨by rw [E.out]; rfl, hbz⟩
  have h0 := hz.2 h3
  have e3 : (x.bytes == y.bytes) = true := by simp [h3]
  rw [e3] at E0
  subst h0
  clear hz h3 e3
  by_cases h4 : x.items.length = y.items.length
  case neg =>
    have E : Hid (sameB x y = false) := by
      rw [Hid, E0]
      cases hs : sameL x.items y.items with
      | true => exact absurd (sameL_len _ _ hs) h4
      | false => rfl
    have b4 : ((x.items.length : Int) != (y.items.length : Int)) = true := by simp; omega
    have p4 : (x.items.length = y.items.length) = False := eq_false h4
    clear h4 E0
    go_enter Tryd.func13, Tryd.ntmps13
    go_wp2_with fail
    refine C.out.mono ?_
    rintro e w1 ⟨rfl, hb1⟩
    have hbz := hbw.trans (hb1.mono hbw.size)
    have hD1 := hB1.below hb1
    have hD2 := hB2.below hb1
    have c3 := hD1.cell 3 rfl
    have d3 := hD2.cell 3 rfl
    go_wp2_with fail
    go_ret
    exact ⟨by rw [E.out]; rfl, hbz⟩
  have b4 : ((x.items.length : Int) != (y.items.length : Int)) = false := by simp; omega
  have p4 : (x.items.length = y.items.length) = True := eq_true h4
  have H4 := Lib.hid h4
  have E : Hid (sameB x y = sameL x.items y.items) := by rw [Hid, E0]; rfl
  clear h4 E0
  go_enter Tryd.func13, Tryd.ntmps13
  go_wp2_with fail
  refine C.out.mono ?_
  rintro e w1 ⟨rfl, hb1⟩
  have hbz := hbw.trans (hb1.mono hbw.size)
  have hD1 := hB1.below hb1
  have hD2 := hB2.below hb1
  have c3 := hD1.cell 3 rfl
  have d3 := hD2.cell 3 rfl
  clear hB1 hB2 hb1 hbw C
  go_wp2_with fail
  go_loopw [39] (fun v39 wr => ∃ j : Nat, j ≤ x.items.length ∧ v39 = .int .i64 j ∧ sameL (x.items.drop j) (y.items.drop j) = sameL x.items y.items ∧ Below w.heap.size w wr ∧ Blk wr (w.heap.size + 1) 34 #[.int .i64 y.kind, .int .u64 y.n, .slice ba' y.bytes.length bc', .slice ia' y.items.length ic']) (fun v39 _ => x.items.length - (intOf v39).toNat)
  case atStart => exact ⟨0, Nat.zero_le _, rfl, rfl, hbz, hD2⟩
  case round =>
    obtain ⟨j, hj, rfl, hs, hbr, hDr⟩ := hrel
    have HS := Lib.hid hs
    clear hs c3 d3
    by_cases hlt : j < x.items.length
    · have hlty : j < y.items.length := by have := H4.out; omega
      have hHr : Holds wr H := hH.below hbr (Nat.le_refl _)
      obtain ⟨ib, io, hia, hel⟩ := HX.out.items (by omega)
      obtain ⟨jb, jo, hja, hel'⟩ := HY.out.items (by omega)
      obtain ⟨y1, y2, y3, y4, q0, q1, q2, q3, hex⟩ := hel.get j hlt
      obtain ⟨z1, z2, z3, z4, s0, s1, s2, s3, hez⟩ := hel'.get j hlty
      subst hia hja
      have p0 := hHr.cell q0
      have p1' := hHr.cell q1
      have p2' := hHr.cell q2
      have p3 := hHr.cell q3
      have hjy : (j : Int) < y.items.length := by omega
      have hstep : sameL (x.items.drop j) (y.items.drop j) = (sameB x.items[j] y.items[j] && sameL (x.items.drop (j + 1)) (y.items.drop (j + 1))) := by rw [List.drop_eq_getElem_cons hlt, List.drop_eq_getElem_cons hlty, sameL]
      have hst := Lib.hid (HS.out.symm.trans hstep)
      have IH := Lib.hid (fun w1 : World => fun h1 : Holds w1 H => ih x.items[j] (cnt_items x j hlt) y.items[j] H _ _ y1 _ y2 y3 _ y4 _ _ z1 _ z2 z3 _ z4 w1 (HMX.out.parts.2.2.get j hlt) (HMY.out.parts.2.2.get j hlty) hex.arg hez.arg h1)
      generalize x.items[j]'hlt = u at *
      generalize y.items[j]'hlty = v at *
      have hT := Blk.new wr 34 #[.int .i64 u.kind, .int .u64 u.n, .slice y1 u.bytes.length y2, .slice y3 u.items.length y4]
      have hHx := (hHr.alloc (itemO u y1 y2 y3 y4)).drew
      have hbx := (hbr.alloc hbr.size (itemO u y1 y2 y3 y4)).drew
      have hDx := (hDr.alloc (itemO u y1 y2 y3 y4)).drew
      have hTx := hT.drew
      clear hstep hel hel' hex hez q0 q1 q2 q3 hT
      go_upto_region 6 with fail
      refine wp_region_ways 7 (fun w' => w'.cell? ⟨wr.heap.size, 0, none⟩ = some (.int .i64 u.kind) ∧ w'.cell? ⟨wr.heap.size, 1, none⟩ = some (.int .u64 u.n) ∧ w'.cell? ⟨wr.heap.size, 2, none⟩ = some (.slice y1 u.bytes.length y2) ∧ w'.cell? ⟨wr.heap.size, 3, none⟩ = some (.slice y3 u.items.length y4) ∧ w'.cell? ⟨w.heap.size + 1, 3, none⟩ = some (.slice (some ⟨jb, jo, none⟩) y.items.length ic') ∧ w'.cell? ⟨jb, jo + j * 4, none⟩ = some (.int .i64 v.kind) ∧ w'.cell? ⟨jb, jo + j * 4 + 1, none⟩ = some (.int .u64 v.n) ∧ w'.cell? ⟨jb, jo + j * 4 + 2, none⟩ = some (.slice z1 v.bytes.length z2) ∧ w'.cell? ⟨jb, jo + j * 4 + 3, none⟩ = some (.slice z3 v.items.length z4)) (by kernel_rfl) (⟨hTx.cell 0 rfl, hTx.cell 1 rfl, hTx.cell 2 rfl, hTx.cell 3 rfl, hDx.cell 3 rfl, hHx.cell s0, hHx.cell s1, hHx.cell s2, hHx.cell s3⟩) (fun hHeld => ?_)
      refine Ways.take (i := 0) (v := ?_) rfl (by kernel_rfl) (fun _ _ _ h => h) (Or.inl ⟨by rfl, ?_⟩) hHeld ?_
      rotate_left
      · (intro w hSw; (try dsimp only at hSw); go_simp; try with_reducible rfl)
      try simp only [Act.put, List.setIfInBounds_toArray, List.set_cons_zero, List.set_cons_succ]
      refine Ways.take (i := 1) (v := ?_) rfl (by kernel_rfl) (fun _ _ _ h => h) (Or.inl ⟨by rfl, ?_⟩) hHeld ?_
      rotate_left
      · (intro w hSw; (try dsimp only at hSw); go_simp; try with_reducible rfl)
      try simp only [Act.put, List.setIfInBounds_toArray, List.set_cons_zero, List.set_cons_succ]
      refine Ways.take (i := 2) (v := ?_) rfl (by kernel_rfl) (fun _ _ _ h => h) (Or.inl ⟨by rfl, ?_⟩) hHeld ?_
      rotate_left
      · (intro w hSw; (try dsimp only at hSw); go_simp; try with_reducible rfl)
      try simp only [Act.put, List.setIfInBounds_toArray, List.set_cons_zero, List.set_cons_succ]
      refine Ways.take (i := 3) (v := ?_) rfl (by kernel_rfl) (fun _ _ _ h => h) (Or.inl ⟨by rfl, ?_⟩) hHeld ?_
      rotate_left
      · (intro w hSw; (try dsimp only at hSw); go_simp; try with_reducible rfl)
      try simp only [Act.put, List.setIfInBounds_toArray, List.set_cons_zero, List.set_cons_succ]
      refine Ways.take (i := 4) (v := ?_) rfl (by kernel_rfl) (fun _ _ _ h => h) (Or.inl ⟨by rfl, ?_⟩) hHeld ?_
      rotate_left
      · (intro w hSw; (try dsimp only at hSw); go_simp; try with_reducible rfl)
      try simp only [Act.put, List.setIfInBounds_toArray, List.set_cons_zero, List.set_cons_succ]
      refine Ways.take (i := 5) (v := ?_) rfl (by kernel_rfl) (fun _ _ _ h => h) (Or.inl ⟨by rfl, ?_⟩) hHeld ?_
      rotate_left
      · (intro w hSw; (try dsimp only at hSw); go_simp; try with_reducible rfl)
      try simp only [Act.put, List.setIfInBounds_toArray, List.set_cons_zero, List.set_cons_succ]
      refine Ways.one (i := 6) rfl (by kernel_rfl) (fun K hK => ?_)
      go_simp
      refine (IH.out _ hHx).mono ?_
      rintro e w6 ⟨rfl, hb6⟩
      have hH6 := hHx.below hb6 (Nat.le_refl _)
      have hb7 := hbx.trans (hb6.mono hbx.size)
      have hD6 := hDx.below hb6
      have hT6 := hTx.below hb6
      refine hK.out _ _ (fun _ => ?_) (fun hHeld => ?_)
      · exact ⟨hT6.cell 0 rfl, hT6.cell 1 rfl, hT6.cell 2 rfl, hT6.cell 3 rfl, hD6.cell 3 rfl, hH6.cell s0, hH6.cell s1, hH6.cell s2, hH6.cell s3⟩
      clear hK K
      have hHeld := hHeld (by decide)
      try simp only [Act.put, List.setIfInBounds_toArray, List.set_cons_zero, List.set_cons_succ]
      refine Ways.one (i := 7) rfl (by kernel_rfl) (fun K hK => ?_)
      go_simp
      refine hK.out _ _ (fun h => absurd rfl h) (fun _ => ?_)
      clear hK K
      try simp only [Act.put, List.setIfInBounds_toArray, List.set_cons_zero, List.set_cons_succ]
      refine Ways.done (by kernel_rfl) ?_
      clear hHeld p0 p1' p2' p3 s0 s1 s2 s3 hHr hHx hbx hDx hTx hT6 hH6 hb6
      cases hq : sameB u v with
      | false =>
        have EE : Hid (sameL x.items y.items = false) := by rw [Hid, hst.out, hq]; rfl
        clear hq
        go_wp2_with fail
        go_ret
        exact ⟨by rw [E.out, EE.out]; rfl, hb7⟩
      | true =>
        have EE : Hid (sameL (x.items.drop (j + 1)) (y.items.drop (j + 1)) = sameL x.items y.items) := by rw [Hid, hst.out, hq]; rfl
        clear hq
        go_wp2_with fail
        go_roundw
        case rel => exact ⟨j + 1, by omega, by go_num, EE.out, hb7, hD6⟩
        case measure => simp [intOf]; omega
    · have hjl : j = x.items.length := by omega
      subst hjl
      have EE : Hid (sameL x.items y.items = true) := by rw [Hid, ← HS.out, List.drop_length, H4.out, List.drop_length, sameL]
      go_wp2_with fail
      go_ret
      exact ⟨by rw [E.out, EE.out]; rfl, hbr⟩

theorem ref_Same (x : Itm) : SameSaid x := by
  have main : ∀ N, ∀ x : Itm, cnt x ≤ N → SameSaid x := by
    intro N
    induction N with
    | zero =>
      intro x hx
      have : 0 < cnt x := by cases x; rw [cnt]; omega
      omega
    | succ N ih => exact fun x hx => same_step x fun y hy => ih y (by omega)
  exact main _ x (Nat.le_refl _)
end Go.Proofs.YtebcnkelbicbnaaDoor
