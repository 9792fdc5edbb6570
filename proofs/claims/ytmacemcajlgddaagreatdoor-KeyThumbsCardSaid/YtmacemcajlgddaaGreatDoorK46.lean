/- SHA-256: the fraction of a root of a prime. -/
import Derived.Test.YtmacemcajlgddaaGreatDoorK45
set_option linter.unusedVariables false
set_option linter.unusedSimpArgs false
namespace Go.Proofs.YtmacemcajlgddaaGreatDoor
open Go.RowKit

set_option maxRecDepth 100000 in
set_option maxHeartbeats 6400000 in
theorem sha_fraction3 (p c : Nat) (hp : primeOK p = true) (hc : c < 18446744073709551616) (hf : isFrac 3 p c = true) (w : World) :
    Calls Tryz.prog 43 #[.int .u64 (p : Int), .int .i64 3] w fun e w' => e = .returned (.int .u64 (c : Int)) ∧ Below w.heap.size w w' := by
  unfold primeOK at hp
  simp only [Bool.and_eq_true, decide_eq_true_eq] at hp
  obtain ⟨⟨⟨⟨hp0, hp1⟩, hp3⟩, hp4⟩, hp5⟩ := hp
  obtain ⟨f0, _, _, e0, _⟩ := chkB_spec hp0
  obtain ⟨f, g, k, e1, e2, e3, hk1, hk20⟩ := chkB_spec hp1
  have SQ := Lib.hid (fun w => math_Sqrt (floatOfInt .f64 (p : Int)) f0 e0 w)
  have CB := Lib.hid (fun w => math_Cbrt (floatOfInt .f64 (p : Int)) f hp3 e1 w)
  have FL := Lib.hid (fun w => math_Floor f g e2 w)
  have CV := fun w => run_convert_float_int (P := Tryz.prog) w 102 49 .f64 .u64 g (k : Int) (by kernel_rfl) (by kernel_rfl) e3
  have HP := Lib.hid (And.intro hp4 (And.intro hp5 (And.intro hc (And.intro hf (And.intro hk1 hk20)))))
  have hG0 := Blk.new w 101 #[.int .u64 0, .int .u64 0, .int .u64 0, .int .u64 0]
  have hb0 := below_box w (.cells #[.int .u64 0, .int .u64 0, .int .u64 0, .int .u64 0] 101)
  clear hp0 hp1 hp3 e0 hp4 hp5 e1 e2 e3 hk1 hk20 hc hf
  go_enter Tryz.func43, Tryz.ntmps43
  go_wp2_with (with_reducible refine stop_store ?_)
  unfold Stopped
  refine wpList_store_cell rfl _ _ _ rfl rfl w.heap.size 3 (.int .u64 (p : Int)) rfl rfl _ _ hG0 size_u64c (by simp) rfl fun w2 hG hg2 => ?_
  have hb := hb0.grown hg2 hb0.size (by rintro q ⟨⟩; exact Nat.le_refl _)
  replace hG : Blk w2 w.heap.size 101 (rowN [0, 0, 0, p]) := hG
  clear hG0 hb0 hg2
  go_wp2_with fail
  refine (SQ.out _).mono ?_
  rintro e w3 ⟨rfl, rfl⟩
  go_wp2_with fail
  refine (CB.out _).mono ?_
  rintro e w3 ⟨rfl, rfl⟩
  go_wp2_with fail
  refine (FL.out _).mono ?_
  rintro e w3 ⟨rfl, rfl⟩
  clear SQ CB FL
  go_wp2_with (with_reducible refine stop_fop ?_)
  unfold Stopped
  refine wpList_fop rfl _ _ _ _ _ rfl (by simp) _ _ rfl rfl fun r1 w4 hw4 => ?_
  have hG4 := hG.or hw4
  have hb4 := below_or hb hw4
  go_wp2_with (with_reducible refine stop_fop ?_)
  unfold Stopped
  refine wpList_fop rfl _ _ _ _ _ rfl (by simp) _ _ rfl rfl fun r2 w5 hw5 => ?_
  have hG5 := hG4.or hw5
  have hb5 := below_or hb4 hw5
  go_wp2_with (with_reducible refine stop_fconv ?_)
  unfold Stopped
  refine wpList_fconv rfl _ _ _ rfl (by kernel_rfl) (by kernel_rfl) _ rfl fun m w6 hm hw6 => ?_
  have hG6 := hG5.or hw6
  have hb6 := below_or hb5 hw6
  clear hG hb hG4 hb4 hG5 hb5 hw4 hw5 hw6
  obtain ⟨lo, hlo, hlob⟩ : ∃ n : Nat, IntKind.u64.wrap ((m : Int) * 2) = (n : Int) ∧ n < 18446744073709551616 := by
    rw [IntKind.wrap_u64]
    exact ⟨((m : Int) * 2 % 18446744073709551616).toNat, by omega, by omega⟩
  have hR := Blk.new w6 101 (rowN [lo, k, 0, 0])
  have hG7 := hG6.alloc (.cells (rowN [lo, k, 0, 0]) 101)
  have hb7 := hb6.alloc hb6.size (.cells (rowN [lo, k, 0, 0]) 101)
  obtain ⟨R, hRe⟩ : ∃ R, w6.heap.size = R := ⟨_, rfl⟩
  have hGR : w.heap.size < R := by rw [← hRe]; exact hG6.lt
  rw [hRe] at hR
  have HRE := Lib.hid hRe
  have HGR := Lib.hid hGR
  have HM := Lib.hid (And.intro hm hlob)
  clear hG6 hb6 hRe hGR hm hlob
  go_wp2_with fail
  rw [HRE.out]
  go_loopw [9, 37] (fun v9 v37 wr => ∃ (j s : Nat), v37 = .int .i64 (j : Int) ∧ j ≤ 2 ∧ v9 = .float .f64 s ∧ Blk wr w.heap.size 101 (rowN [0, 0, 0, p]) ∧ Blk wr R 101 (rowN [lo, k, 0, 0]) ∧ Below w.heap.size w wr) (fun _ v37 _ => (2 - intOf v37).toNat)
  case atStart => exact ⟨0, _, rfl, by omega, rfl, hG7, hR, hb7⟩
  case round =>
    clear hG7 hR hb7 CV
    obtain ⟨j, s, rfl, hj1, rfl, hG, hR, hb⟩ := hrel
    have d0 : wr.cell? ⟨R, 0, none⟩ = some (.int .u64 (lo : Int)) := hR.cell 0 rfl
    have d1 : wr.cell? ⟨R, 1, none⟩ = some (.int .u64 (k : Int)) := hR.cell 1 rfl
    have d2 : wr.cell? ⟨R, 2, none⟩ = some (.int .u64 0) := hR.cell 2 rfl
    have d3 : wr.cell? ⟨R, 3, none⟩ = some (.int .u64 0) := hR.cell 3 rfl
    by_cases hlt : (j : Int) < 2
    · have F := Lib.hid (wide_float (x := [lo, k, 0, 0]) rfl wr)
      have HLT := Lib.hid hlt
      go_wp2_with fail
      refine F.out.mono ?_
      rintro e w8 ⟨⟨fl, rfl⟩, hb8⟩
      have hG8 := hG.below hb8
      have hR8 := hR.below hb8
      have hbb := hb.trans (hb8.mono hb.size)
      clear F d0 d1 d2 d3 hG hR hb hb8
      go_wp2_with (with_reducible refine stop_fop ?_)
      unfold Stopped
      refine wpList_fop rfl _ _ _ _ _ rfl (by simp) _ _ rfl rfl fun s2 w9 hw9 => ?_
      have hG9 := hG8.or hw9
      have hR9 := hR8.or hw9
      have hb9 := below_or hbb hw9
      clear hG8 hR8 hbb hw9
      go_wp2_with fail
      go_roundw
      case rel => exact ⟨j + 1, s2, by go_num, by have := HLT.out; omega, rfl, hG9, hR9, hb9⟩
      case measure => have := HLT.out; simp [intOf]; omega
    · have hK1 : num [lo, k, 0, 0] ^ 3 < 18446744073709551616 ^ 4 := by
        refine pow_small (.inr rfl) ?_
        have h1 := HM.out.2
        have h2 := HP.out.2.2.2.2.2
        have e : num [lo, k, 0, 0] = lo + 18446744073709551616 * (k + 18446744073709551616 * (0 + 18446744073709551616 * (0 + 18446744073709551616 * 0))) := rfl
        omega
      have PW := Lib.hid (sha_power (x := [lo, k, 0, 0]) rfl (by have h1 := HM.out.2; have h2 := HP.out.2.2.2.2.2; intro a ha; simp at ha; omega) 3 (by omega) hK1 wr)
      clear hK1
      go_wp2_with fail
      refine PW.out.mono ?_
      rintro e w10 ⟨z, rfl, hz4, hzw, hzn, hb10⟩
      obtain ⟨z0, z1, z2, z3, rfl⟩ := list4n hz4
      rw [show rowN [z0, z1, z2, z3] = #[.int .u64 (z0 : Int), .int .u64 (z1 : Int), .int .u64 (z2 : Int), .int .u64 (z3 : Int)] from rfl]
      obtain ⟨w11, hw11⟩ : ∃ w11, w10.alloc (.cells #[.int .u64 (z0 : Int), .int .u64 (z1 : Int), .int .u64 (z2 : Int), .int .u64 (z3 : Int)] 101) = w11 := ⟨_, rfl⟩
      have hG10 : Blk w11 w.heap.size 101 (rowN [0, 0, 0, p]) := by rw [← hw11]; exact (hG.below hb10).alloc _
      have hR10 : Blk w11 R 101 (rowN [lo, k, 0, 0]) := by rw [← hw11]; exact (hR.below hb10).alloc _
      have hbb : Below w.heap.size w w11 := by rw [← hw11]; exact (hb.trans (hb10.mono hb.size)).alloc (Nat.le_trans hb.size hb10.size) _
      obtain ⟨Z, hZe⟩ : ∃ Z, w10.heap.size = Z := ⟨_, rfl⟩
      have hZ10 : Blk w11 Z 101 (rowN [z0, z1, z2, z3]) := by rw [← hw11, ← hZe]; exact Blk.new w10 101 _
      have HW11 := Lib.hid (And.intro hw11 hZe)
      have HZ := Lib.hid (And.intro hzw hzn)
      have LS := Lib.hid (sha_less (x := [0, 0, 0, p]) (y := [z0, z1, z2, z3]) rfl rfl (by have h2 := HP.out.2.1; intro a ha; simp at ha; omega) hzw w11)
      obtain ⟨bl, hbl⟩ : ∃ b, decide (num [0, 0, 0, p] < num [z0, z1, z2, z3]) = b := ⟨_, rfl⟩
      rw [hbl] at LS
      have HBL := Lib.hid hbl
      clear hz4 hzw hzn PW hb10 hG hR hb d0 d1 d2 d3 hbl hw11 hZe
      have g0 : w11.cell? ⟨w.heap.size, 0, none⟩ = some (.int .u64 0) := hG10.cell 0 rfl
      have g1 : w11.cell? ⟨w.heap.size, 1, none⟩ = some (.int .u64 0) := hG10.cell 1 rfl
      have g2 : w11.cell? ⟨w.heap.size, 2, none⟩ = some (.int .u64 0) := hG10.cell 2 rfl
      have g3 : w11.cell? ⟨w.heap.size, 3, none⟩ = some (.int .u64 (p : Int)) := hG10.cell 3 rfl
      have y0 : w11.cell? ⟨Z, 0, none⟩ = some (.int .u64 (z0 : Int)) := hZ10.cell 0 rfl
      have y1 : w11.cell? ⟨Z, 1, none⟩ = some (.int .u64 (z1 : Int)) := hZ10.cell 1 rfl
      have y2 : w11.cell? ⟨Z, 2, none⟩ = some (.int .u64 (z2 : Int)) := hZ10.cell 2 rfl
      have y3 : w11.cell? ⟨Z, 3, none⟩ = some (.int .u64 (z3 : Int)) := hZ10.cell 3 rfl
      go_upto_region 14 with fail
      rw [HW11.out.1, HW11.out.2]
      go_wp2_with fail
      refine LS.out.mono ?_
      rintro e w12 ⟨rfl, hb12⟩
      have hG12 := hG10.below hb12
      have hR12 := hR10.below hb12
      have hZ12 := hZ10.below hb12
      replace hb12 := hbb.trans (hb12.mono hbb.size)
      clear g0 g1 g2 g3 y0 y1 y2 y3 hG10 hR10 hZ10 LS hbb
      go_upto_if 49 with fail
      go_cut [] (fun wx => ∃ (a b : Nat), a < 18446744073709551616 ∧ b ≤ 22 ∧ Blk wx w.heap.size 101 (rowN [0, 0, 0, p]) ∧ Blk wx R 101 (rowN [a, b, 0, 0]) ∧ Below w.heap.size w wx)
      case first =>
       cases bl with
       | true =>
        replace hG12 := hG12.drew
        replace hR12 := hR12.drew
        replace hZ12 := hZ12.drew
        replace hb12 := hb12.drew
        go_upto_region 15 with fail
        refine wp_region_ways 9 (fun wx => wx.cell? ⟨R, 0, none⟩ = some (.int .u64 (lo : Int)) ∧ wx.cell? ⟨R, 1, none⟩ = some (.int .u64 (k : Int)) ∧ wx.cell? ⟨R, 2, none⟩ = some (.int .u64 0) ∧ wx.cell? ⟨R, 3, none⟩ = some (.int .u64 0) ∧ wx.cell? ⟨Z, 0, none⟩ = some (.int .u64 (z0 : Int)) ∧ wx.cell? ⟨Z, 1, none⟩ = some (.int .u64 (z1 : Int)) ∧ wx.cell? ⟨Z, 2, none⟩ = some (.int .u64 (z2 : Int)) ∧ wx.cell? ⟨Z, 3, none⟩ = some (.int .u64 (z3 : Int)) ∧ wx.cell? ⟨w.heap.size, 0, none⟩ = some (.int .u64 0) ∧ wx.cell? ⟨w.heap.size, 1, none⟩ = some (.int .u64 0) ∧ wx.cell? ⟨w.heap.size, 2, none⟩ = some (.int .u64 0) ∧ wx.cell? ⟨w.heap.size, 3, none⟩ = some (.int .u64 (p : Int))) (by kernel_rfl) (⟨hR12.cell 0 rfl, hR12.cell 1 rfl, hR12.cell 2 rfl, hR12.cell 3 rfl, hZ12.cell 0 rfl, hZ12.cell 1 rfl, hZ12.cell 2 rfl, hZ12.cell 3 rfl, hG12.cell 0 rfl, hG12.cell 1 rfl, hG12.cell 2 rfl, hG12.cell 3 rfl⟩) (fun hHeld => ?_)
        refine Ways.take (i := 0) (v := ?_) rfl (by kernel_rfl) (fun _ _ _ h => h) (Or.inl ⟨by rfl, ?_⟩) hHeld ?_
        rotate_left
        · (intro w hSw; (try dsimp only at hSw); go_simp; try with_reducible rfl)
        try simp only [Act.put, List.getElem_toArray, List.getElem_cons_zero, List.getElem_cons_succ, List.setIfInBounds_toArray, List.set_cons_zero, List.set_cons_succ]
        refine Ways.take (i := 1) (v := ?_) rfl (by kernel_rfl) (fun _ _ _ h => h) (Or.inl ⟨by rfl, ?_⟩) hHeld ?_
        rotate_left
        · (intro w hSw; (try dsimp only at hSw); go_simp; try with_reducible rfl)
        try simp only [Act.put, List.getElem_toArray, List.getElem_cons_zero, List.getElem_cons_succ, List.setIfInBounds_toArray, List.set_cons_zero, List.set_cons_succ]
        refine Ways.take (i := 2) (v := ?_) rfl (by kernel_rfl) (fun _ _ _ h => h) (Or.inl ⟨by rfl, ?_⟩) hHeld ?_
        rotate_left
        · (intro w hSw; (try dsimp only at hSw); go_simp; try with_reducible rfl)
        try simp only [Act.put, List.getElem_toArray, List.getElem_cons_zero, List.getElem_cons_succ, List.setIfInBounds_toArray, List.set_cons_zero, List.set_cons_succ]
        refine Ways.take (i := 5) (v := ?_) rfl (by kernel_rfl) (fun _ _ _ h => h) (Or.inl ⟨by rfl, ?_⟩) hHeld ?_
        rotate_left
        · (intro w hSw; (try dsimp only at hSw); go_simp; try with_reducible rfl)
        try simp only [Act.put, List.getElem_toArray, List.getElem_cons_zero, List.getElem_cons_succ, List.setIfInBounds_toArray, List.set_cons_zero, List.set_cons_succ]
        refine Ways.one (i := 3) rfl (by kernel_rfl) (fun K hK => ?_)
        go_simp
        refine (sha_minus (x := [z0, z1, z2, z3]) (y := [0, 0, 0, p]) rfl rfl _).mono ?_
        rintro e w13 ⟨mm, rfl, hmm, hb13⟩
        replace hG12 := hG12.below hb13
        replace hR12 := hR12.below hb13
        replace hZ12 := hZ12.below hb13
        replace hb12 := hb12.trans (hb13.mono hb12.size)
        clear hb13
        clear hHeld
        refine hK.out _ _ (fun _ => ?_) (fun hHeld => ?_)
        · exact ⟨hR12.cell 0 rfl, hR12.cell 1 rfl, hR12.cell 2 rfl, hR12.cell 3 rfl, hZ12.cell 0 rfl, hZ12.cell 1 rfl, hZ12.cell 2 rfl, hZ12.cell 3 rfl, hG12.cell 0 rfl, hG12.cell 1 rfl, hG12.cell 2 rfl, hG12.cell 3 rfl⟩
        clear hK K
        replace hHeld := hHeld (by decide)
        try simp only [Act.put, List.getElem_toArray, List.getElem_cons_zero, List.getElem_cons_succ, List.setIfInBounds_toArray, List.set_cons_zero, List.set_cons_succ]
        refine Ways.one (i := 4) rfl (by kernel_rfl) (fun K hK => ?_)
        go_simp
        refine (wide_float hmm _).mono ?_
        rintro e w14 ⟨⟨fl, rfl⟩, hb14⟩
        replace hG12 := hG12.below hb14
        replace hR12 := hR12.below hb14
        replace hZ12 := hZ12.below hb14
        replace hb12 := hb12.trans (hb14.mono hb12.size)
        clear hb14
        clear hHeld
        refine hK.out _ _ (fun _ => ?_) (fun hHeld => ?_)
        · exact ⟨hR12.cell 0 rfl, hR12.cell 1 rfl, hR12.cell 2 rfl, hR12.cell 3 rfl, hZ12.cell 0 rfl, hZ12.cell 1 rfl, hZ12.cell 2 rfl, hZ12.cell 3 rfl, hG12.cell 0 rfl, hG12.cell 1 rfl, hG12.cell 2 rfl, hG12.cell 3 rfl⟩
        clear hK K
        replace hHeld := hHeld (by decide)
        try simp only [Act.put, List.getElem_toArray, List.getElem_cons_zero, List.getElem_cons_succ, List.setIfInBounds_toArray, List.set_cons_zero, List.set_cons_succ]
        refine Ways.one (i := 6) rfl (by kernel_rfl) (fun K hK => ?_)
        rw [if_pos (by rfl)]
        refine wp_fop _ _ _ _ _ rfl (by simp) _ _ rfl rfl fun fq w15 hw15 => ?_
        replace hG12 := hG12.or hw15
        replace hR12 := hR12.or hw15
        replace hZ12 := hZ12.or hw15
        replace hb12 := below_or hb12 hw15
        clear hw15
        clear hHeld
        refine hK.out _ _ (fun _ => ?_) (fun hHeld => ?_)
        · exact ⟨hR12.cell 0 rfl, hR12.cell 1 rfl, hR12.cell 2 rfl, hR12.cell 3 rfl, hZ12.cell 0 rfl, hZ12.cell 1 rfl, hZ12.cell 2 rfl, hZ12.cell 3 rfl, hG12.cell 0 rfl, hG12.cell 1 rfl, hG12.cell 2 rfl, hG12.cell 3 rfl⟩
        clear hK K
        replace hHeld := hHeld (by decide)
        try simp only [Act.put, List.getElem_toArray, List.getElem_cons_zero, List.getElem_cons_succ, List.setIfInBounds_toArray, List.set_cons_zero, List.set_cons_succ]
        refine Ways.one (i := 7) rfl (by kernel_rfl) (fun K hK => ?_)
        rw [if_pos (by rfl)]
        refine wp_fconv _ _ _ rfl (by kernel_rfl) (by kernel_rfl) _ rfl fun dd w16 hdd hw16 => ?_
        replace hG12 := hG12.or hw16
        replace hR12 := hR12.or hw16
        replace hZ12 := hZ12.or hw16
        replace hb12 := below_or hb12 hw16
        clear hw16
        clear hHeld
        refine hK.out _ _ (fun _ => ?_) (fun hHeld => ?_)
        · exact ⟨hR12.cell 0 rfl, hR12.cell 1 rfl, hR12.cell 2 rfl, hR12.cell 3 rfl, hZ12.cell 0 rfl, hZ12.cell 1 rfl, hZ12.cell 2 rfl, hZ12.cell 3 rfl, hG12.cell 0 rfl, hG12.cell 1 rfl, hG12.cell 2 rfl, hG12.cell 3 rfl⟩
        clear hK K
        replace hHeld := hHeld (by decide)
        try simp only [Act.put, List.getElem_toArray, List.getElem_cons_zero, List.getElem_cons_succ, List.setIfInBounds_toArray, List.set_cons_zero, List.set_cons_succ]
        refine Ways.one (i := 8) rfl (by kernel_rfl) (fun K hK => ?_)
        go_simp
        refine (sha_lower lo k 0 0 dd (by have h2 := HP.out.2.2.2.2.2; omega) HP.out.2.2.2.2.1 _).mono ?_
        rintro e w17 ⟨rfl, hb17⟩
        replace hG12 := hG12.below hb17
        replace hR12 := hR12.below hb17
        replace hZ12 := hZ12.below hb17
        replace hb12 := hb12.trans (hb17.mono hb12.size)
        clear hb17
        have HA : Hid ((lo + 18446744073709551616 - dd) % 18446744073709551616 < 18446744073709551616) := Nat.mod_lt _ (by decide)
        have HB : Hid (k - (if lo < dd then 1 else 0) ≤ 22) := by rw [Hid]; have h2 := HP.out.2.2.2.2.2; split <;> omega
        obtain ⟨a0, ha0⟩ : ∃ n, (lo + 18446744073709551616 - dd) % 18446744073709551616 = n := ⟨_, rfl⟩
        obtain ⟨b0, hq0⟩ : ∃ n, k - (if lo < dd then 1 else 0) = n := ⟨_, rfl⟩
        rw [ha0] at HA
        rw [hq0] at HB
        rw [ha0, hq0]
        clear ha0 hq0 hdd hlo
        clear hHeld
        refine hK.out _ _ (fun _ => ?_) (fun hHeld => ?_)
        · exact ⟨hR12.cell 0 rfl, hR12.cell 1 rfl, hR12.cell 2 rfl, hR12.cell 3 rfl, hZ12.cell 0 rfl, hZ12.cell 1 rfl, hZ12.cell 2 rfl, hZ12.cell 3 rfl, hG12.cell 0 rfl, hG12.cell 1 rfl, hG12.cell 2 rfl, hG12.cell 3 rfl⟩
        clear hK K
        replace hHeld := hHeld (by decide)
        try simp only [Act.put, List.getElem_toArray, List.getElem_cons_zero, List.getElem_cons_succ, List.setIfInBounds_toArray, List.set_cons_zero, List.set_cons_succ]
        refine Ways.one (i := 9) rfl (by kernel_rfl) (fun K hK => ?_)
        rw [if_pos (by rfl)]
        refine wp_store_item _ _ _ rfl R (rowN [a0, b0, 0, 0]) rfl rfl _ _ hR12 size_w4 rfl (rowN_one _) fun w18 hR18 hg18 => ?_
        refine hK.out _ _ (fun h => absurd rfl h) (fun _ => ?_)
        clear hK K
        try simp only [Act.put, List.getElem_toArray, List.getElem_cons_zero, List.getElem_cons_succ, List.setIfInBounds_toArray, List.set_cons_zero, List.set_cons_succ]
        refine Ways.done (by kernel_rfl) ?_
        clear hHeld
        have hG18 := hG12.grown hg18 (by intro hc; injection hc with hc; have := HGR.out; omega)
        have hb18 := hb12.grown hg18 hb12.size (by rintro q ⟨⟩; have := HGR.out; omega)
        clear hG12 hR12 hZ12 hb12 hg18
        go_wp2_with fail
        go_meet
        exact ⟨a0, b0, HA.out, HB.out, hG18, hR18, hb18⟩
       | false =>
        replace hG12 := hG12.drew
        replace hR12 := hR12.drew
        replace hZ12 := hZ12.drew
        replace hb12 := hb12.drew
        go_upto_region 16 with fail
        refine wp_region_ways 9 (fun wx => wx.cell? ⟨R, 0, none⟩ = some (.int .u64 (lo : Int)) ∧ wx.cell? ⟨R, 1, none⟩ = some (.int .u64 (k : Int)) ∧ wx.cell? ⟨R, 2, none⟩ = some (.int .u64 0) ∧ wx.cell? ⟨R, 3, none⟩ = some (.int .u64 0) ∧ wx.cell? ⟨Z, 0, none⟩ = some (.int .u64 (z0 : Int)) ∧ wx.cell? ⟨Z, 1, none⟩ = some (.int .u64 (z1 : Int)) ∧ wx.cell? ⟨Z, 2, none⟩ = some (.int .u64 (z2 : Int)) ∧ wx.cell? ⟨Z, 3, none⟩ = some (.int .u64 (z3 : Int)) ∧ wx.cell? ⟨w.heap.size, 0, none⟩ = some (.int .u64 0) ∧ wx.cell? ⟨w.heap.size, 1, none⟩ = some (.int .u64 0) ∧ wx.cell? ⟨w.heap.size, 2, none⟩ = some (.int .u64 0) ∧ wx.cell? ⟨w.heap.size, 3, none⟩ = some (.int .u64 (p : Int))) (by kernel_rfl) (⟨hR12.cell 0 rfl, hR12.cell 1 rfl, hR12.cell 2 rfl, hR12.cell 3 rfl, hZ12.cell 0 rfl, hZ12.cell 1 rfl, hZ12.cell 2 rfl, hZ12.cell 3 rfl, hG12.cell 0 rfl, hG12.cell 1 rfl, hG12.cell 2 rfl, hG12.cell 3 rfl⟩) (fun hHeld => ?_)
        refine Ways.take (i := 0) (v := ?_) rfl (by kernel_rfl) (fun _ _ _ h => h) (Or.inl ⟨by rfl, ?_⟩) hHeld ?_
        rotate_left
        · (intro w hSw; (try dsimp only at hSw); go_simp; try with_reducible rfl)
        try simp only [Act.put, List.getElem_toArray, List.getElem_cons_zero, List.getElem_cons_succ, List.setIfInBounds_toArray, List.set_cons_zero, List.set_cons_succ]
        refine Ways.take (i := 1) (v := ?_) rfl (by kernel_rfl) (fun _ _ _ h => h) (Or.inl ⟨by rfl, ?_⟩) hHeld ?_
        rotate_left
        · (intro w hSw; (try dsimp only at hSw); go_simp; try with_reducible rfl)
        try simp only [Act.put, List.getElem_toArray, List.getElem_cons_zero, List.getElem_cons_succ, List.setIfInBounds_toArray, List.set_cons_zero, List.set_cons_succ]
        refine Ways.take (i := 2) (v := ?_) rfl (by kernel_rfl) (fun _ _ _ h => h) (Or.inl ⟨by rfl, ?_⟩) hHeld ?_
        rotate_left
        · (intro w hSw; (try dsimp only at hSw); go_simp; try with_reducible rfl)
        try simp only [Act.put, List.getElem_toArray, List.getElem_cons_zero, List.getElem_cons_succ, List.setIfInBounds_toArray, List.set_cons_zero, List.set_cons_succ]
        refine Ways.take (i := 5) (v := ?_) rfl (by kernel_rfl) (fun _ _ _ h => h) (Or.inl ⟨by rfl, ?_⟩) hHeld ?_
        rotate_left
        · (intro w hSw; (try dsimp only at hSw); go_simp; try with_reducible rfl)
        try simp only [Act.put, List.getElem_toArray, List.getElem_cons_zero, List.getElem_cons_succ, List.setIfInBounds_toArray, List.set_cons_zero, List.set_cons_succ]
        refine Ways.one (i := 3) rfl (by kernel_rfl) (fun K hK => ?_)
        go_simp
        refine (sha_minus (x := [0, 0, 0, p]) (y := [z0, z1, z2, z3]) rfl rfl _).mono ?_
        rintro e w13 ⟨mm, rfl, hmm, hb13⟩
        replace hG12 := hG12.below hb13
        replace hR12 := hR12.below hb13
        replace hZ12 := hZ12.below hb13
        replace hb12 := hb12.trans (hb13.mono hb12.size)
        clear hb13
        clear hHeld
        refine hK.out _ _ (fun _ => ?_) (fun hHeld => ?_)
        · exact ⟨hR12.cell 0 rfl, hR12.cell 1 rfl, hR12.cell 2 rfl, hR12.cell 3 rfl, hZ12.cell 0 rfl, hZ12.cell 1 rfl, hZ12.cell 2 rfl, hZ12.cell 3 rfl, hG12.cell 0 rfl, hG12.cell 1 rfl, hG12.cell 2 rfl, hG12.cell 3 rfl⟩
        clear hK K
        replace hHeld := hHeld (by decide)
        try simp only [Act.put, List.getElem_toArray, List.getElem_cons_zero, List.getElem_cons_succ, List.setIfInBounds_toArray, List.set_cons_zero, List.set_cons_succ]
        refine Ways.one (i := 4) rfl (by kernel_rfl) (fun K hK => ?_)
        go_simp
        refine (wide_float hmm _).mono ?_
        rintro e w14 ⟨⟨fl, rfl⟩, hb14⟩
        replace hG12 := hG12.below hb14
        replace hR12 := hR12.below hb14
        replace hZ12 := hZ12.below hb14
        replace hb12 := hb12.trans (hb14.mono hb12.size)
        clear hb14
        clear hHeld
        refine hK.out _ _ (fun _ => ?_) (fun hHeld => ?_)
        · exact ⟨hR12.cell 0 rfl, hR12.cell 1 rfl, hR12.cell 2 rfl, hR12.cell 3 rfl, hZ12.cell 0 rfl, hZ12.cell 1 rfl, hZ12.cell 2 rfl, hZ12.cell 3 rfl, hG12.cell 0 rfl, hG12.cell 1 rfl, hG12.cell 2 rfl, hG12.cell 3 rfl⟩
        clear hK K
        replace hHeld := hHeld (by decide)
        try simp only [Act.put, List.getElem_toArray, List.getElem_cons_zero, List.getElem_cons_succ, List.setIfInBounds_toArray, List.set_cons_zero, List.set_cons_succ]
        refine Ways.one (i := 6) rfl (by kernel_rfl) (fun K hK => ?_)
        rw [if_pos (by rfl)]
        refine wp_fop _ _ _ _ _ rfl (by simp) _ _ rfl rfl fun fq w15 hw15 => ?_
        replace hG12 := hG12.or hw15
        replace hR12 := hR12.or hw15
        replace hZ12 := hZ12.or hw15
        replace hb12 := below_or hb12 hw15
        clear hw15
        clear hHeld
        refine hK.out _ _ (fun _ => ?_) (fun hHeld => ?_)
        · exact ⟨hR12.cell 0 rfl, hR12.cell 1 rfl, hR12.cell 2 rfl, hR12.cell 3 rfl, hZ12.cell 0 rfl, hZ12.cell 1 rfl, hZ12.cell 2 rfl, hZ12.cell 3 rfl, hG12.cell 0 rfl, hG12.cell 1 rfl, hG12.cell 2 rfl, hG12.cell 3 rfl⟩
        clear hK K
        replace hHeld := hHeld (by decide)
        try simp only [Act.put, List.getElem_toArray, List.getElem_cons_zero, List.getElem_cons_succ, List.setIfInBounds_toArray, List.set_cons_zero, List.set_cons_succ]
        refine Ways.one (i := 7) rfl (by kernel_rfl) (fun K hK => ?_)
        rw [if_pos (by rfl)]
        refine wp_fconv _ _ _ rfl (by kernel_rfl) (by kernel_rfl) _ rfl fun dd w16 hdd hw16 => ?_
        replace hG12 := hG12.or hw16
        replace hR12 := hR12.or hw16
        replace hZ12 := hZ12.or hw16
        replace hb12 := below_or hb12 hw16
        clear hw16
        clear hHeld
        refine hK.out _ _ (fun _ => ?_) (fun hHeld => ?_)
        · exact ⟨hR12.cell 0 rfl, hR12.cell 1 rfl, hR12.cell 2 rfl, hR12.cell 3 rfl, hZ12.cell 0 rfl, hZ12.cell 1 rfl, hZ12.cell 2 rfl, hZ12.cell 3 rfl, hG12.cell 0 rfl, hG12.cell 1 rfl, hG12.cell 2 rfl, hG12.cell 3 rfl⟩
        clear hK K
        replace hHeld := hHeld (by decide)
        try simp only [Act.put, List.getElem_toArray, List.getElem_cons_zero, List.getElem_cons_succ, List.setIfInBounds_toArray, List.set_cons_zero, List.set_cons_succ]
        refine Ways.one (i := 8) rfl (by kernel_rfl) (fun K hK => ?_)
        go_simp
        refine (sha_raise lo k 0 0 dd HM.out.2 hdd (by have h2 := HP.out.2.2.2.2.2; omega) _).mono ?_
        rintro e w17 ⟨rfl, hb17⟩
        replace hG12 := hG12.below hb17
        replace hR12 := hR12.below hb17
        replace hZ12 := hZ12.below hb17
        replace hb12 := hb12.trans (hb17.mono hb12.size)
        clear hb17
        have HA : Hid ((lo + dd) % 18446744073709551616 < 18446744073709551616) := Nat.mod_lt _ (by decide)
        have HB : Hid (k + (lo + dd) / 18446744073709551616 ≤ 22) := by rw [Hid]; have h1 := HM.out.2; have h2 := HP.out.2.2.2.2.2; omega
        obtain ⟨a0, ha0⟩ : ∃ n, (lo + dd) % 18446744073709551616 = n := ⟨_, rfl⟩
        obtain ⟨b0, hq0⟩ : ∃ n, k + (lo + dd) / 18446744073709551616 = n := ⟨_, rfl⟩
        rw [ha0] at HA
        rw [hq0] at HB
        rw [ha0, hq0]
        clear ha0 hq0 hdd hlo
        clear hHeld
        refine hK.out _ _ (fun _ => ?_) (fun hHeld => ?_)
        · exact ⟨hR12.cell 0 rfl, hR12.cell 1 rfl, hR12.cell 2 rfl, hR12.cell 3 rfl, hZ12.cell 0 rfl, hZ12.cell 1 rfl, hZ12.cell 2 rfl, hZ12.cell 3 rfl, hG12.cell 0 rfl, hG12.cell 1 rfl, hG12.cell 2 rfl, hG12.cell 3 rfl⟩
        clear hK K
        replace hHeld := hHeld (by decide)
        try simp only [Act.put, List.getElem_toArray, List.getElem_cons_zero, List.getElem_cons_succ, List.setIfInBounds_toArray, List.set_cons_zero, List.set_cons_succ]
        refine Ways.one (i := 9) rfl (by kernel_rfl) (fun K hK => ?_)
        rw [if_pos (by rfl)]
        refine wp_store_item _ _ _ rfl R (rowN [a0, b0, 0, 0]) rfl rfl _ _ hR12 size_w4 rfl (rowN_one _) fun w18 hR18 hg18 => ?_
        refine hK.out _ _ (fun h => absurd rfl h) (fun _ => ?_)
        clear hK K
        try simp only [Act.put, List.getElem_toArray, List.getElem_cons_zero, List.getElem_cons_succ, List.setIfInBounds_toArray, List.set_cons_zero, List.set_cons_succ]
        refine Ways.done (by kernel_rfl) ?_
        clear hHeld
        have hG18 := hG12.grown hg18 (by intro hc; injection hc with hc; have := HGR.out; omega)
        have hb18 := hb12.grown hg18 hb12.size (by rintro q ⟨⟩; have := HGR.out; omega)
        clear hG12 hR12 hZ12 hb12 hg18
        go_wp2_with fail
        go_meet
        exact ⟨a0, b0, HA.out, HB.out, hG18, hR18, hb18⟩
      case rest =>
        clear hG12 hR12 hZ12 hb12 HBL HZ HM HW11
        obtain ⟨a, b, ha, hb2, hG, hR, hb⟩ := hcut
        have HAB := Lib.hid (And.intro ha hb2)
        clear ha hb2
        go_wp2_with fail
        go_loopw [72] (fun _ wr => ∃ (a b : Nat), Hid (a < 18446744073709551616 ∧ b ≤ 22) ∧ Blk wr w.heap.size 101 (rowN [0, 0, 0, p]) ∧ Blk wr R 101 (rowN [a, b, 0, 0]) ∧ Below w.heap.size w wr) (fun _ wr => numAt wr R)
        case atStart => exact ⟨a, b, HAB, hG, hR, hb⟩
        case round =>
          clear HAB hG hR hb
          clear a b
          obtain ⟨a, b, HAB, hG, hR, hb⟩ := hrel
          have HM0 := Lib.hid (numAt_eq hR)
          have HA9 : Hid (a < 18446744073709551616 ∧ b ≤ 33 ∧ num [a, b, 0, 0] ^ 3 < 18446744073709551616 ^ 4) := by
            refine ⟨HAB.out.1, Nat.le_trans HAB.out.2 (by omega), ?_⟩
            rw [num4]
            refine pow_small (.inr rfl) ?_
            have h1 := HAB.out.1
            have h2 := HAB.out.2
            omega
          replace hG := hG.drew
          replace hR := hR.drew
          replace hb := hb.drew
          go_upto_region 17 with fail
          refine wp_region_ways 4 (fun wx => wx.cell? ⟨R, 0, none⟩ = some (.int .u64 (a : Int)) ∧ wx.cell? ⟨R, 1, none⟩ = some (.int .u64 (b : Int)) ∧ wx.cell? ⟨R, 2, none⟩ = some (.int .u64 0) ∧ wx.cell? ⟨R, 3, none⟩ = some (.int .u64 0) ∧ wx.cell? ⟨w.heap.size, 0, none⟩ = some (.int .u64 0) ∧ wx.cell? ⟨w.heap.size, 1, none⟩ = some (.int .u64 0) ∧ wx.cell? ⟨w.heap.size, 2, none⟩ = some (.int .u64 0) ∧ wx.cell? ⟨w.heap.size, 3, none⟩ = some (.int .u64 (p : Int))) (by kernel_rfl) (⟨hR.cell 0 rfl, hR.cell 1 rfl, hR.cell 2 rfl, hR.cell 3 rfl, hG.cell 0 rfl, hG.cell 1 rfl, hG.cell 2 rfl, hG.cell 3 rfl⟩) (fun hHeld => ?_)
          refine Ways.take (i := 0) (v := ?_) rfl (by kernel_rfl) (fun _ _ _ h => h) (Or.inl ⟨by rfl, ?_⟩) hHeld ?_
          rotate_left
          · (intro w hSw; (try dsimp only at hSw); go_simp; try with_reducible rfl)
          try simp only [Act.put, List.getElem_toArray, List.getElem_cons_zero, List.getElem_cons_succ, List.setIfInBounds_toArray, List.set_cons_zero, List.set_cons_succ]
          refine Ways.take (i := 1) (v := ?_) rfl (by kernel_rfl) (fun _ _ _ h => h) (Or.inl ⟨by rfl, ?_⟩) hHeld ?_
          rotate_left
          · (intro w hSw; (try dsimp only at hSw); go_simp; try with_reducible rfl)
          try simp only [Act.put, List.getElem_toArray, List.getElem_cons_zero, List.getElem_cons_succ, List.setIfInBounds_toArray, List.set_cons_zero, List.set_cons_succ]
          refine Ways.take (i := 2) (v := ?_) rfl (by kernel_rfl) (fun _ _ _ h => h) (Or.inl ⟨by rfl, ?_⟩) hHeld ?_
          rotate_left
          · (intro w hSw; (try dsimp only at hSw); go_simp; try with_reducible rfl)
          try simp only [Act.put, List.getElem_toArray, List.getElem_cons_zero, List.getElem_cons_succ, List.setIfInBounds_toArray, List.set_cons_zero, List.set_cons_succ]
          refine Ways.one (i := 3) rfl (by kernel_rfl) (fun K hK => ?_)
          go_simp
          refine (sha_power (x := [a, b, 0, 0]) rfl (w64_4 HA9.out.1 HA9.out.2.1) 3 (by omega) HA9.out.2.2 _).mono ?_
          rintro e w21 ⟨z, rfl, hz4, hzw, hzn, hb21⟩
          replace hG := hG.below hb21
          replace hR := hR.below hb21
          replace hb := hb.trans (hb21.mono hb.size)
          clear hb21
          rw [num4] at hzn
          obtain ⟨z0, z1, z2, z3, rfl⟩ := list4n hz4
          have HZN := Lib.hid (And.intro hzw hzn)
          clear hz4 hzw hzn
          clear hHeld
          refine hK.out _ _ (fun _ => ?_) (fun hHeld => ?_)
          · exact ⟨hR.cell 0 rfl, hR.cell 1 rfl, hR.cell 2 rfl, hR.cell 3 rfl, hG.cell 0 rfl, hG.cell 1 rfl, hG.cell 2 rfl, hG.cell 3 rfl⟩
          clear hK K
          replace hHeld := hHeld (by decide)
          try simp only [Act.put, List.getElem_toArray, List.getElem_cons_zero, List.getElem_cons_succ, List.setIfInBounds_toArray, List.set_cons_zero, List.set_cons_succ]
          refine Ways.one (i := 4) rfl (by kernel_rfl) (fun K hK => ?_)
          go_simp
          refine (sha_lessB (x := [0, 0, 0, p]) (y := [z0, z1, z2, z3]) rfl rfl (w64_goal3 HP.out.2.1) HZN.out.1 _).mono ?_
          rintro e w22 ⟨bl, rfl, HBL, hb22⟩
          replace hG := hG.below hb22
          replace hR := hR.below hb22
          replace hb := hb.trans (hb22.mono hb.size)
          clear hb22
          refine hK.out _ _ (fun h => absurd rfl h) (fun _ => ?_)
          clear hK K
          try simp only [Act.put, List.getElem_toArray, List.getElem_cons_zero, List.getElem_cons_succ, List.setIfInBounds_toArray, List.set_cons_zero, List.set_cons_succ]
          refine Ways.done (by kernel_rfl) ?_
          clear hHeld
          have HCMP : Hid (bl = decide (p * 18446744073709551616 ^ 3 < (a + 18446744073709551616 * b) ^ 3)) := by rw [Hid, HBL.out, num_goal3, HZN.out.2]
          clear HBL HZN HA9
          cases bl with
          | true =>
           have HLO : Hid (18446744073709551616 < a + 18446744073709551616 * b) := root_low HP.out.1 (of_decide_eq_true HCMP.out.symm)
           clear HCMP
           have d0 := hR.cell 0 (v := .int .u64 (a : Int)) rfl
           have d1 := hR.cell 1 (v := .int .u64 (b : Int)) rfl
           have d2 := hR.cell 2 (v := .int .u64 0) rfl
           have d3 := hR.cell 3 (v := .int .u64 0) rfl
           have LO := Lib.hid (fun w => sha_lower a b 0 0 1 (by have h1 := HAB.out.2; omega) (by have h1 := HLO.out; have h2 := HAB.out.1; omega) w)
           go_wp2_with fail
           refine (LO.out _).mono ?_
           rintro e w23 ⟨rfl, hb23⟩
           have HA2 : Hid ((a + 18446744073709551616 - 1) % 18446744073709551616 < 18446744073709551616 ∧ b - (if a < 1 then 1 else 0) ≤ 22 ∧ (a + 18446744073709551616 - 1) % 18446744073709551616 + 18446744073709551616 * (b - (if a < 1 then 1 else 0)) + 1 = a + 18446744073709551616 * b) := by
            have h1 := HLO.out
            have h2 := HAB.out.1
            have h3 := HAB.out.2
            rw [Hid]
            split <;> omega
           obtain ⟨a2, ha2⟩ : ∃ n, (a + 18446744073709551616 - 1) % 18446744073709551616 = n := ⟨_, rfl⟩
           obtain ⟨b2, hb2⟩ : ∃ n, b - (if a < 1 then 1 else 0) = n := ⟨_, rfl⟩
           rw [ha2, hb2] at HA2
           rw [ha2, hb2]
           clear ha2 hb2 LO HLO d0 d1 d2 d3
           replace hG := hG.below hb23
           replace hR := hR.below hb23
           replace hb := hb.trans (hb23.mono hb.size)
           clear hb23
           go_wp2_with (with_reducible refine stop_store ?_)
           unfold Stopped
           refine wpList_store_item rfl _ _ _ rfl rfl R (rowN [a2, b2, 0, 0]) rfl rfl _ _ hR size_w4 rfl (rowN_one _) fun w24 hR24 hg24 => ?_
           have hG24 := hG.grown hg24 (by intro hc; injection hc with hc; have := HGR.out; omega)
           have hb24 := hb.grown hg24 hb.size (by rintro q ⟨⟩; have := HGR.out; omega)
           clear hG hR hb hg24
           go_wp2_with fail
           go_roundw
           case rel => exact ⟨a2, b2, ⟨HA2.out.1, HA2.out.2.1⟩, hG24, hR24, hb24⟩
           case measure => rw [HM0.out, numAt_eq hR24]; have h1 := HA2.out.2.2; omega
          | false =>
           have HLE : Hid ((a + 18446744073709551616 * b) ^ 3 ≤ p * 18446744073709551616 ^ 3) := Nat.le_of_not_lt (of_decide_eq_false HCMP.out.symm)
           have HAA : Hid (a < 18446744073709551616) := HAB.out.1
           clear HCMP HM0 HAB
           go_wp2_with fail
           go_loopw [81] (fun _ wr => ∃ (a b : Nat), Hid (a < 18446744073709551616) ∧ Hid ((a + 18446744073709551616 * b) ^ 3 ≤ p * 18446744073709551616 ^ 3) ∧ Blk wr w.heap.size 101 (rowN [0, 0, 0, p]) ∧ Blk wr R 101 (rowN [a, b, 0, 0]) ∧ Below w.heap.size w wr) (fun _ wr => 32 * 18446744073709551616 - numAt wr R)
           case atStart => exact ⟨a, b, HAA, HLE, hG, hR, hb⟩
           case round =>
             clear HAA HLE hG hR hb
             obtain ⟨a, b, HAA, HLE, hG, hR, hb⟩ := hrel
             have HM0 := Lib.hid (numAt_eq hR)
             have HBD : Hid (a + 18446744073709551616 * b < 32 * 18446744073709551616) := root_bnd (.inr rfl) HP.out.2.1 HLE.out
             have HE2 : Hid (a < 18446744073709551616 ∧ b ≤ 31 ∧ (a + 1) % 18446744073709551616 < 18446744073709551616 ∧ b + (a + 1) / 18446744073709551616 ≤ 32 ∧ (a + 1) % 18446744073709551616 + 18446744073709551616 * (b + (a + 1) / 18446744073709551616) = a + 18446744073709551616 * b + 1) := by
              have h1 := HAA.out
              have h2 := HBD.out
              rw [Hid]
              omega
             obtain ⟨a2, ha2⟩ : ∃ n, (a + 1) % 18446744073709551616 = n := ⟨_, rfl⟩
             obtain ⟨b2, hb2⟩ : ∃ n, b + (a + 1) / 18446744073709551616 = n := ⟨_, rfl⟩
             have HN2 := Lib.hid (And.intro ha2 hb2)
             rw [ha2, hb2] at HE2
             clear ha2 hb2
             have HA9 : Hid (a2 < 18446744073709551616 ∧ b2 ≤ 33 ∧ num [a2, b2, 0, 0] ^ 3 < 18446744073709551616 ^ 4) := by
              refine ⟨HE2.out.2.2.1, Nat.le_trans HE2.out.2.2.2.1 (by omega), ?_⟩
              rw [num4]
              refine pow_small (.inr rfl) ?_
              have h1 := HE2.out.2.2.1
              have h2 := HE2.out.2.2.2.1
              omega
             replace hG := hG.drew
             replace hR := hR.drew
             replace hb := hb.drew
             go_upto_region 19 with fail
             refine wp_region_ways 6 (fun wx => wx.cell? ⟨R, 0, none⟩ = some (.int .u64 (a : Int)) ∧ wx.cell? ⟨R, 1, none⟩ = some (.int .u64 (b : Int)) ∧ wx.cell? ⟨R, 2, none⟩ = some (.int .u64 0) ∧ wx.cell? ⟨R, 3, none⟩ = some (.int .u64 0) ∧ wx.cell? ⟨w.heap.size, 0, none⟩ = some (.int .u64 0) ∧ wx.cell? ⟨w.heap.size, 1, none⟩ = some (.int .u64 0) ∧ wx.cell? ⟨w.heap.size, 2, none⟩ = some (.int .u64 0) ∧ wx.cell? ⟨w.heap.size, 3, none⟩ = some (.int .u64 (p : Int))) (by kernel_rfl) (⟨hR.cell 0 rfl, hR.cell 1 rfl, hR.cell 2 rfl, hR.cell 3 rfl, hG.cell 0 rfl, hG.cell 1 rfl, hG.cell 2 rfl, hG.cell 3 rfl⟩) (fun hHeld => ?_)
             refine Ways.take (i := 0) (v := ?_) rfl (by kernel_rfl) (fun _ _ _ h => h) (Or.inl ⟨by rfl, ?_⟩) hHeld ?_
             rotate_left
             · (intro w hSw; (try dsimp only at hSw); go_simp; try with_reducible rfl)
             try simp only [Act.put, List.getElem_toArray, List.getElem_cons_zero, List.getElem_cons_succ, List.setIfInBounds_toArray, List.set_cons_zero, List.set_cons_succ]
             refine Ways.take (i := 1) (v := ?_) rfl (by kernel_rfl) (fun _ _ _ h => h) (Or.inl ⟨by rfl, ?_⟩) hHeld ?_
             rotate_left
             · (intro w hSw; (try dsimp only at hSw); go_simp; try with_reducible rfl)
             try simp only [Act.put, List.getElem_toArray, List.getElem_cons_zero, List.getElem_cons_succ, List.setIfInBounds_toArray, List.set_cons_zero, List.set_cons_succ]
             refine Ways.take (i := 3) (v := ?_) rfl (by kernel_rfl) (fun _ _ _ h => h) (Or.inl ⟨by rfl, ?_⟩) hHeld ?_
             rotate_left
             · (intro w hSw; (try dsimp only at hSw); go_simp; try with_reducible rfl)
             try simp only [Act.put, List.getElem_toArray, List.getElem_cons_zero, List.getElem_cons_succ, List.setIfInBounds_toArray, List.set_cons_zero, List.set_cons_succ]
             refine Ways.one (i := 2) rfl (by kernel_rfl) (fun K hK => ?_)
             go_simp
             refine (sha_raise a b 0 0 1 HE2.out.1 (by omega) (by have h1 := HE2.out.2.1; omega) _).mono ?_
             rintro e w20 ⟨rfl, hb20⟩
             replace hG := hG.below hb20
             replace hR := hR.below hb20
             replace hb := hb.trans (hb20.mono hb.size)
             clear hb20
             rw [HN2.out.1, HN2.out.2]
             clear hHeld
             refine hK.out _ _ (fun _ => ?_) (fun hHeld => ?_)
             · exact ⟨hR.cell 0 rfl, hR.cell 1 rfl, hR.cell 2 rfl, hR.cell 3 rfl, hG.cell 0 rfl, hG.cell 1 rfl, hG.cell 2 rfl, hG.cell 3 rfl⟩
             clear hK K
             replace hHeld := hHeld (by decide)
             try simp only [Act.put, List.getElem_toArray, List.getElem_cons_zero, List.getElem_cons_succ, List.setIfInBounds_toArray, List.set_cons_zero, List.set_cons_succ]
             refine Ways.one (i := 4) rfl (by kernel_rfl) (fun K hK => ?_)
             go_simp
             refine (sha_power (x := [a2, b2, 0, 0]) rfl (w64_4 HA9.out.1 HA9.out.2.1) 3 (by omega) HA9.out.2.2 _).mono ?_
             rintro e w21 ⟨z, rfl, hz4, hzw, hzn, hb21⟩
             replace hG := hG.below hb21
             replace hR := hR.below hb21
             replace hb := hb.trans (hb21.mono hb.size)
             clear hb21
             rw [num4] at hzn
             obtain ⟨z0, z1, z2, z3, rfl⟩ := list4n hz4
             have HZN := Lib.hid (And.intro hzw hzn)
             clear hz4 hzw hzn
             clear hHeld
             refine hK.out _ _ (fun _ => ?_) (fun hHeld => ?_)
             · exact ⟨hR.cell 0 rfl, hR.cell 1 rfl, hR.cell 2 rfl, hR.cell 3 rfl, hG.cell 0 rfl, hG.cell 1 rfl, hG.cell 2 rfl, hG.cell 3 rfl⟩
             clear hK K
             replace hHeld := hHeld (by decide)
             try simp only [Act.put, List.getElem_toArray, List.getElem_cons_zero, List.getElem_cons_succ, List.setIfInBounds_toArray, List.set_cons_zero, List.set_cons_succ]
             refine Ways.one (i := 5) rfl (by kernel_rfl) (fun K hK => ?_)
             go_simp
             refine (sha_lessB (x := [0, 0, 0, p]) (y := [z0, z1, z2, z3]) rfl rfl (w64_goal3 HP.out.2.1) HZN.out.1 _).mono ?_
             rintro e w22 ⟨bl, rfl, HBL, hb22⟩
             replace hG := hG.below hb22
             replace hR := hR.below hb22
             replace hb := hb.trans (hb22.mono hb.size)
             clear hb22
             clear hHeld
             refine hK.out _ _ (fun _ => ?_) (fun hHeld => ?_)
             · exact ⟨hR.cell 0 rfl, hR.cell 1 rfl, hR.cell 2 rfl, hR.cell 3 rfl, hG.cell 0 rfl, hG.cell 1 rfl, hG.cell 2 rfl, hG.cell 3 rfl⟩
             clear hK K
             replace hHeld := hHeld (by decide)
             try simp only [Act.put, List.getElem_toArray, List.getElem_cons_zero, List.getElem_cons_succ, List.setIfInBounds_toArray, List.set_cons_zero, List.set_cons_succ]
             refine Ways.one (i := 6) rfl (by kernel_rfl) (fun K hK => ?_)
             go_simp
             refine hK.out _ _ (fun h => absurd rfl h) (fun _ => ?_)
             clear hK K
             try simp only [Act.put, List.getElem_toArray, List.getElem_cons_zero, List.getElem_cons_succ, List.setIfInBounds_toArray, List.set_cons_zero, List.set_cons_succ]
             refine Ways.done (by kernel_rfl) ?_
             clear hHeld
             have HCMP : Hid (bl = decide (p * 18446744073709551616 ^ 3 < (a + 18446744073709551616 * b + 1) ^ 3)) := by rw [Hid, HBL.out, num_goal3, HZN.out.2, HE2.out.2.2.2.2]
             clear HBL HZN HA9
             have d0 := hR.cell 0 (v := .int .u64 (a : Int)) rfl
             have d1 := hR.cell 1 (v := .int .u64 (b : Int)) rfl
             have d2 := hR.cell 2 (v := .int .u64 0) rfl
             have d3 := hR.cell 3 (v := .int .u64 0) rfl
             cases bl with
             | true =>
              have HFR : Hid (a = c) := by
               have h1 := frac_of (.inr rfl) HP.out.2.2.1 HP.out.2.2.2.1 HLE.out (of_decide_eq_true HCMP.out.symm)
               have h2 := HAA.out
               rw [Hid]
               omega
              rw [HFR.out] at d0
              clear HCMP
              simp only [Bool.not_true]
              go_wp2_with fail
              go_ret
              exact ⟨rfl, hb⟩
             | false =>
              have HLE2 : Hid ((a2 + 18446744073709551616 * b2) ^ 3 ≤ p * 18446744073709551616 ^ 3) := by
               have h1 := Nat.le_of_not_lt (of_decide_eq_false HCMP.out.symm)
               rw [← HE2.out.2.2.2.2] at h1
               exact h1
              clear HCMP
              have RA := Lib.hid (fun w => sha_raise a b 0 0 1 HE2.out.1 (by omega) (by have h1 := HE2.out.2.1; omega) w)
              simp only [Bool.not_false]
              go_wp2_with fail
              refine (RA.out _).mono ?_
              rintro e w23 ⟨rfl, hb23⟩
              rw [HN2.out.1, HN2.out.2]
              replace hG := hG.below hb23
              replace hR := hR.below hb23
              replace hb := hb.trans (hb23.mono hb.size)
              clear hb23 RA d0 d1 d2 d3
              go_wp2_with (with_reducible refine stop_store ?_)
              unfold Stopped
              refine wpList_store_item rfl _ _ _ rfl rfl R (rowN [a2, b2, 0, 0]) rfl rfl _ _ hR size_w4 rfl (rowN_one _) fun w24 hR24 hg24 => ?_
              have hG24 := hG.grown hg24 (by intro hc; injection hc with hc; have := HGR.out; omega)
              have hb24 := hb.grown hg24 hb.size (by rintro q ⟨⟩; have := HGR.out; omega)
              clear hG hR hb hg24
              go_wp2_with fail
              go_roundw
              case rel => exact ⟨a2, b2, HE2.out.2.2.1, HLE2, hG24, hR24, hb24⟩
              case measure => rw [HM0.out, numAt_eq hR24]; have h1 := HE2.out.2.2.2.2; have h2 := HBD.out; omega
end Go.Proofs.YtmacemcajlgddaaGreatDoor
