/- squeezed. The reference's SHA-256. -/
import Derived.Test.YtmacemcajlgddaaGreatDoorK33
import Derived.Test.YtmacemcajlgddaaGreatDoorK37
set_option linter.unusedVariables false
set_option linter.unusedSimpArgs false
set_option maxRecDepth 100000
set_option maxHeartbeats 6400000
namespace Go.Proofs.YtmacemcajlgddaaGreatDoor
open Go.RowKit
theorem size_w8q' : (Tryz.prog.info? 59).map (·.size) = some 8 := by kernel_rfl
theorem ref_initial (w : World) : Calls Tryz.prog 35 #[] w fun e w' => e = .returned (.agg (rowW constHI)) ∧ Below w.heap.size w w' := by
 have hB := Blk.new w 59 (rowW (List.replicate 8 0));have hb := below_box w (.cells (rowW (List.replicate 8 0)) 59);go_enter Tryz.func35, Tryz.ntmps35
 go_wp2_with (with_reducible refine stop_store ?_)
 refine wpList_store_item rfl _ _ _ rfl rfl w.heap.size (rowW constHI) rfl rfl _ _ hB size_w8q' (by simp [rowW_size, constHI_len]) (rowW_one _) fun w2 hB2 hg2 => ?_
 go_wp2_with fail
 refine ret_row rfl rfl hB2 rfl rfl size_w8q' rfl ?_
 exact ⟨rfl, hb.grown hg2 hb.size (by rintro q ⟨⟩; exact Nat.le_refl _)⟩
theorem ref_Sum256 {A : Option Addr} {c : Nat} {l : List UInt8} {n : Nat} (hn : n = l.length) (hmax : l.length ≤ 1099511627) (w : World) (hS : Src w A (l.map byteV)) :
  Calls Tryz.prog 26 #[.slice A n c] w fun e w' => ∃ r, e = .returned r ∧ Fresh w (shaP l) r w' := by
 have HN := Hh (And.intro hn hmax);have HS := Hh hS;have hG := Blk.new w 64 (rowV (iP8 0));have hb := below_box w (.cells (rowV (iP8 0)) 64);have IN := Hh (ref_initial (w.alloc (.cells (rowV (iP8 0)) 64)));obtain ⟨G, hGe⟩ : ∃ G, w.heap.size = G := ⟨_, rfl⟩
 have HGE := Hh hGe;rw [hGe] at hG;clear hn hmax hS hGe;go_enter Tryz.func26, Tryz.ntmps26
 go_wp2_with fail
 rw [HGE.out]
 refine IN.out.mono ?_
 rintro e w2 ⟨rfl, hb2⟩
 have hG2 := hG.below hb2;have hbb := hb.trans (hb2.mono hb.size);clear hG hb hb2 IN;go_wp2_with fail
 go_loopw [12] (fun v12 wx => ∃ i : Nat, v12 = .int .i64 (i : Int) ∧ i ≤ 8 ∧ Blk wx G 64 (rowV (iP8 i)) ∧ Below w.heap.size w wx) (fun v12 _ => (8 - intOf v12).toNat)
 case atStart => exact ⟨0, rfl, by omega, hG2, hbb⟩
 case round =>
  clear hG2 hbb;obtain ⟨i, rfl, hi, hG, hb⟩ := hrel
  by_cases hlt : (i : Int) < 8
  ·have hi8 : i < 8 := by omega
   have X0 := run_index8w wr (rowW constHI) i (.int .u64 (getW constHI i)) (i : Int) rfl hi8 (rowW_get constHI i hi8);obtain ⟨kw, hkw⟩ : ∃ kw, getW constHI i = kw := ⟨_, rfl⟩
   rw [hkw] at X0;have HKW := Hh hkw;clear hkw;go_wp2_with (with_reducible refine stop_store ?_)
   refine wpList_store_cell rfl _ _ _ rfl rfl G i (.int .u32 (upperP kw)) rfl (by rfl) _ _ hG size_u32 (by rw [rowV_size, iP8_len]; exact hi8) rfl fun w9 hG9 hg9 => ?_
   rw [rowV_set, ← HKW.out, ← show iP8 (i + 1) = (iP8 i).set i (upperP (getW constHI i)) from rfl] at hG9;have hb9 := hb.grown hg9 hb.size (by rintro q ⟨⟩; have := HGE.out; omega);clear hG hb hg9 X0;go_wp2_with fail
   go_roundw
   case rel => exact ⟨i + 1, by go_num, by omega, hG9, hb9⟩
   case measure => simp [intOf]; omega
  ·obtain rfl : i = 8 := by omega
   rw [iP8_8, ← S8.cells_eq] at hG;rw [show ((8 : Nat) : Int) = 8 from rfl] at hlt ⊢;have PD := Hh (ref_pad (c := c) HN.out.1 HN.out.2 wr (HS.out.below hb));go_wp2_with fail
   refine PD.out.mono ?_
   rintro e w5 ⟨r5, rfl, hf5⟩
   obtain ⟨PA, pc, rfl, hpl, hpm, _⟩ := hf5.own.form;have hG5 := hG.below hf5.2;have hb5 := hb.trans (hf5.2.mono hb.size)
   have HPG : Hid (∀ q, PA.map (·.block) = some q → G < q) := fun q hq => by
    have h1 := (hf5.own.lt q (by cases PA with | none => cases hq | some p => exact hq)).1;have h2 := hG.lt
    omega
   obtain ⟨Hp, _, hHp, hHf, _, hBp⟩ := hf5.own.snap (H := fun _ => none) (fun _ _ h => by cases h) (fun _ _ => rfl)
   have HNO : Hid (∀ b o, Hp b = some o → G < b) := fun b o hb => by
    rcases hHf b o hb with h | h
    ·cases h
    ·exact HPG.out b h
   have HPL := Hh (padP_len l);have hp0 : 0 < (padP l).length := by rw [HPL.out.1]; omega
   obtain ⟨pb, po, rfl, _⟩ := hBp.at_ hp0;obtain ⟨m, hm⟩ : ∃ m, (padP l).length = m := ⟨_, rfl⟩
   have HM := Hh hm;rw [hm] at hpl ⊢
   have HMM : Hid (m ≤ 1099511627776 ∧ m ≤ pc ∧ pc ≤ 9223372036854775807) := by
    refine ⟨?_, hpl, hpm⟩
    have h1 := HPL.out.1;have h2 := padN_lt l.length;have h3 := HN.out.2;rw [HM.out] at h1
    omega
   have HBP := Hh hBp;clear hG hb hf5 PD hHf hm hpl hpm hp0 hBp;go_wp2_with fail
   go_loopw [7] (fun v7 wx => ∃ k lo : Nat, v7 = .int .i64 (lo : Int) ∧ Hid (lo = 64 * k) ∧ Hid (lo ≤ m) ∧ Holds wx Hp ∧ Blk wx G 64 (foldP (padP l) k).cells ∧ Below w.heap.size w wx) (fun v7 _ => m - (intOf v7).toNat)
   case atStart => exact ⟨0, 0, rfl, rfl, Nat.zero_le _, hHp, hG5, hb5⟩
   case round =>
    clear hHp hG5 hb5;obtain ⟨k, lo, rfl, HLO, HLM, hHx, hG, hb⟩ := hrel
    by_cases hlt : (lo : Int) < (m : Int)
    ·have h64 : Hid (lo + 64 ≤ m) := by have := HPL.out; have := HM.out; have := HLO.out; rw [Hid]; omega
     have hB64 : IsBytes Hp (some ⟨pb, po + lo, none⟩) (pc - lo) (blkB (padP l) k) := by
      have h := HBP.out.drop' lo (by rw [HM.out]; exact HLM.out);rw [if_neg (by have := HMM.out; omega), Option.map_some, addr_add] at h;have h2 := h.take' 64;rw [HLO.out] at h2 ⊢
      exact h2
     have hl64 : (blkB (padP l) k).length = 64 := blkB_len (by have := HLO.out; have := h64.out; rw [HM.out]; omega);have HB64 := Hh (And.intro hB64 hl64);have HFS := Hh (foldP_succ (padP l) k);obtain ⟨s, hs⟩ : ∃ s, foldP (padP l) k = s := ⟨_, rfl⟩
     rw [hs] at hG HFS;obtain ⟨a0, a1, a2, a3, a4, a5, a6, a7⟩ := s;obtain ⟨hi64, hhi⟩ : ∃ h, lo + 64 = h := ⟨_, rfl⟩
     have HHI := Hh hhi;have hw1 : IntKind.i64.wrap ((lo : Int) + 64) = (hi64 : Int) := by rw [← hhi, Int.natCast_add]; exact IntWalk.i64_in _ (by have := HMM.out; have := h64.out; omega)
     have b1 : (lo : Int) ≤ (hi64 : Int) := by omega
     have b2 : (hi64 : Int) ≤ (pc : Int) := by have := HMM.out; have := h64.out; omega
     have b3 : ¬ (pc = lo) := by have := HMM.out; have := h64.out; omega
     have b4 : hi64 - lo = 64 := by omega
     clear hB64 hl64 hs hhi hi;replace hHx := hHx.drew;replace hG := hG.drew;replace hb := hb.drew;go_upto_region 11 with fail
     refine wp_region_ways 7 (fun wx => wx.cell? ⟨G, 0, none⟩ = some (.int .u32 a0) ∧ wx.cell? ⟨G, 1, none⟩ = some (.int .u32 a1) ∧ wx.cell? ⟨G, 2, none⟩ = some (.int .u32 a2) ∧ wx.cell? ⟨G, 3, none⟩ = some (.int .u32 a3) ∧ wx.cell? ⟨G, 4, none⟩ = some (.int .u32 a4) ∧ wx.cell? ⟨G, 5, none⟩ = some (.int .u32 a5) ∧ wx.cell? ⟨G, 6, none⟩ = some (.int .u32 a6) ∧ wx.cell? ⟨G, 7, none⟩ = some (.int .u32 a7)) (by kernel_rfl) (⟨hG.cell 0 rfl, hG.cell 1 rfl, hG.cell 2 rfl, hG.cell 3 rfl, hG.cell 4 rfl, hG.cell 5 rfl, hG.cell 6 rfl, hG.cell 7 rfl⟩) (fun hHeld => ?_)
     refine Tk 0 rfl hHeld ?_
     refine Tk 1 rfl hHeld ?_
     refine Tk 2 rfl hHeld ?_
     refine Tk 3 rfl hHeld ?_
     refine Tk 4 rfl hHeld ?_
     refine Tk 5 rfl hHeld ?_
     refine To 6 rfl fun K hK => ?_
     go_simp
     refine (ref_block256 HB64.out.1 HB64.out.2 ⟨a0, a1, a2, a3, a4, a5, a6, a7⟩ _ hHx).mono ?_
     rintro e w6 ⟨rfl, hb6⟩
     replace hHx := hHx.below hb6 (Nat.le_refl _);replace hG := hG.below hb6;replace hb := hb.trans (hb6.mono hb.size);clear hb6;rw [← HFS.out];clear hHeld
     refine hK.out _ _ (fun _ => ?_) (fun hHeld => ?_)
     ·exact ⟨hG.cell 0 rfl, hG.cell 1 rfl, hG.cell 2 rfl, hG.cell 3 rfl, hG.cell 4 rfl, hG.cell 5 rfl, hG.cell 6 rfl, hG.cell 7 rfl⟩
     clear hK K;replace hHeld := hHeld (by decide)
     try simp only [Act.put, zz1, zz2, zz3, zz4, zz5, zz6]
     refine To 7 rfl fun K hK => ?_
     rw [if_pos (by rfl)]
     refine wp_store_item _ _ _ rfl G (foldP (padP l) (k + 1)).cells rfl rfl _ _ hG size_w8 rfl (S8.one _) fun w9 hG9 hg9 => ?_
     refine hK.out _ _ (fun h => absurd rfl h) (fun _ => ?_)
     clear hK K
     try simp only [Act.put, zz1, zz2, zz3, zz4, zz5, zz6]
     refine Ways.done (by kernel_rfl) ?_
     clear hHeld;have hb9 := hb.grown hg9 hb.size (by rintro q ⟨⟩; have := HGE.out; omega)
     have hHx9 : Holds w9 Hp := hHx.grown hg9 (by
      rintro q ⟨⟩
      cases hq : Hp G with
      | none => rfl
      | some o => have := HNO.out _ _ hq; omega)
     clear hG hb hHx hg9;go_wp2_with fail
     go_roundw
     case rel => exact ⟨k + 1, hi64, rfl, by have := HLO.out; have := HHI.out; rw [Hid]; omega, by have := HHI.out; have := h64.out; rw [Hid]; omega, hHx9, hG9, hb9⟩
     case measure => have := HHI.out; have := h64.out; simp [intOf]; omega
    ·have hkn : k = (padP l).length / 64 := by have := HLO.out; have := HM.out; have := HLM.out; omega
     rw [hkn] at hG;have HSH : Hid ((foldP (padP l) ((padP l).length / 64)).list.flatMap wordB = shaP l) := rfl;obtain ⟨s, hs⟩ : ∃ s, foldP (padP l) ((padP l).length / 64) = s := ⟨_, rfl⟩
     rw [hs] at hG HSH;rw [← outP_8] at HSH;obtain ⟨a0, a1, a2, a3, a4, a5, a6, a7⟩ := s;have HOL := Hh (fun i hi => outP_len ⟨a0, a1, a2, a3, a4, a5, a6, a7⟩ i hi);have HOS := Hh (fun i hi => outP_succ ⟨a0, a1, a2, a3, a4, a5, a6, a7⟩ i hi);clear hs hkn hHx hi;have q0 := hG.cell 0 (v := .int .u32 a0) rfl;have q1 := hG.cell 1 (v := .int .u32 a1) rfl;have q2 := hG.cell 2 (v := .int .u32 a2) rfl;have q3 := hG.cell 3 (v := .int .u32 a3) rfl;have q4 := hG.cell 4 (v := .int .u32 a4) rfl;have q5 := hG.cell 5 (v := .int .u32 a5) rfl;have q6 := hG.cell 6 (v := .int .u32 a6) rfl;have q7 := hG.cell 7 (v := .int .u32 a7) rfl;have hb9 := hb;clear hG hb;go_wp2_with fail
     go_loopw [8, 38] (fun v10 v51 wx => ∃ (i mo co : Nat) (VO : Option Addr), v10 = .slice VO mo co ∧ v51 = .int .i64 (i : Int) ∧ i ≤ 8 ∧ Hid (mo = 4 * i) ∧ OwnB wx w.heap.size (.slice VO mo co) (outP ⟨a0, a1, a2, a3, a4, a5, a6, a7⟩ i) ∧ Below w.heap.size w wx) (fun _ v51 _ => (8 - intOf v51).toNat)
     case atStart => exact ⟨0, 0, 0, none, rfl, rfl, by omega, rfl, OwnB.nil _ _, hb9⟩
     case round =>
      clear q0 q1 q2 q3 q4 q5 q6 q7 hb9;obtain ⟨i, mo, co, VO, rfl, rfl, hi, HMO, hO, hb⟩ := hrel
      rcases (show i = 0 ∨ i = 1 ∨ i = 2 ∨ i = 3 ∨ i = 4 ∨ i = 5 ∨ i = 6 ∨ i = 7 ∨ i = 8 by omega) with rfl | rfl | rfl | rfl | rfl | rfl | rfl | rfl | rfl
      ·have X0 := run_index8u wr #[.int .u32 a0, .int .u32 a1, .int .u32 a2, .int .u32 a3, .int .u32 a4, .int .u32 a5, .int .u32 a6, .int .u32 a7] 0 (.int .u32 a0) 0 rfl (by omega) rfl;go_wp2_with (at_builtin; refine stop_in ?_)
       unfold Stopped
       clear X0;have hO1 := hO.alloc (.cells #[.int .u8 (a0 / 16777216 % 256), .int .u8 (a0 / 65536 % 256), .int .u8 (a0 / 256 % 256), .int .u8 (a0 % 256)] 5);have hb1 := hb.alloc hb.size (.cells #[.int .u8 (a0 / 16777216 % 256), .int .u8 (a0 / 65536 % 256), .int .u8 (a0 / 256 % 256), .int .u8 (a0 % 256)] 5)
       refine wpList_app_bytes rfl (.tmp 41) (.tmp 53) rfl w.heap.size _ _ rfl hO1 _ 4 _ (wordB a0) rfl rfl (Src.new _ _ _ _ rfl _ (by rw [wordB_cells])) (by rw [HOL.out 0 (by omega), wordB_len]; omega) hb1.size fun v' w5 hO5 hg5 hat5 => ?_
       have hb5 := below_of_grown hb1 hg5 (fun q hq => (hO.lt q hq).1);replace hO5 := (HOS.out 0 (by omega)) ▸ hO5;obtain ⟨A5, c5, rfl, _⟩ := hO5.form;rw [HOL.out (0 + 1) (by omega)] at hO5 ⊢;clear hO hb hO1 hb1 hg5 hat5;go_wp2_with fail
       go_roundw
       case rel => exact ⟨1, _, c5, A5, rfl, by go_num, by omega, rfl, hO5, hb5⟩
       case measure => simp [intOf]
      ·have X0 := run_index8u wr #[.int .u32 a0, .int .u32 a1, .int .u32 a2, .int .u32 a3, .int .u32 a4, .int .u32 a5, .int .u32 a6, .int .u32 a7] 1 (.int .u32 a1) 1 rfl (by omega) rfl;go_wp2_with (at_builtin; refine stop_in ?_)
       unfold Stopped
       clear X0;have hO1 := hO.alloc (.cells #[.int .u8 (a1 / 16777216 % 256), .int .u8 (a1 / 65536 % 256), .int .u8 (a1 / 256 % 256), .int .u8 (a1 % 256)] 5);have hb1 := hb.alloc hb.size (.cells #[.int .u8 (a1 / 16777216 % 256), .int .u8 (a1 / 65536 % 256), .int .u8 (a1 / 256 % 256), .int .u8 (a1 % 256)] 5)
       refine wpList_app_bytes rfl (.tmp 41) (.tmp 53) rfl w.heap.size _ _ rfl hO1 _ 4 _ (wordB a1) rfl rfl (Src.new _ _ _ _ rfl _ (by rw [wordB_cells])) (by rw [HOL.out 1 (by omega), wordB_len]; omega) hb1.size fun v' w5 hO5 hg5 hat5 => ?_
       have hb5 := below_of_grown hb1 hg5 (fun q hq => (hO.lt q hq).1);replace hO5 := (HOS.out 1 (by omega)) ▸ hO5;obtain ⟨A5, c5, rfl, _⟩ := hO5.form;rw [HOL.out (1 + 1) (by omega)] at hO5 ⊢;clear hO hb hO1 hb1 hg5 hat5;go_wp2_with fail
       go_roundw
       case rel => exact ⟨2, _, c5, A5, rfl, by go_num, by omega, rfl, hO5, hb5⟩
       case measure => simp [intOf]
      ·have X0 := run_index8u wr #[.int .u32 a0, .int .u32 a1, .int .u32 a2, .int .u32 a3, .int .u32 a4, .int .u32 a5, .int .u32 a6, .int .u32 a7] 2 (.int .u32 a2) 2 rfl (by omega) rfl;go_wp2_with (at_builtin; refine stop_in ?_)
       unfold Stopped
       clear X0;have hO1 := hO.alloc (.cells #[.int .u8 (a2 / 16777216 % 256), .int .u8 (a2 / 65536 % 256), .int .u8 (a2 / 256 % 256), .int .u8 (a2 % 256)] 5);have hb1 := hb.alloc hb.size (.cells #[.int .u8 (a2 / 16777216 % 256), .int .u8 (a2 / 65536 % 256), .int .u8 (a2 / 256 % 256), .int .u8 (a2 % 256)] 5)
       refine wpList_app_bytes rfl (.tmp 41) (.tmp 53) rfl w.heap.size _ _ rfl hO1 _ 4 _ (wordB a2) rfl rfl (Src.new _ _ _ _ rfl _ (by rw [wordB_cells])) (by rw [HOL.out 2 (by omega), wordB_len]; omega) hb1.size fun v' w5 hO5 hg5 hat5 => ?_
       have hb5 := below_of_grown hb1 hg5 (fun q hq => (hO.lt q hq).1);replace hO5 := (HOS.out 2 (by omega)) ▸ hO5;obtain ⟨A5, c5, rfl, _⟩ := hO5.form;rw [HOL.out (2 + 1) (by omega)] at hO5 ⊢;clear hO hb hO1 hb1 hg5 hat5;go_wp2_with fail
       go_roundw
       case rel => exact ⟨3, _, c5, A5, rfl, by go_num, by omega, rfl, hO5, hb5⟩
       case measure => simp [intOf]
      ·have X0 := run_index8u wr #[.int .u32 a0, .int .u32 a1, .int .u32 a2, .int .u32 a3, .int .u32 a4, .int .u32 a5, .int .u32 a6, .int .u32 a7] 3 (.int .u32 a3) 3 rfl (by omega) rfl;go_wp2_with (at_builtin; refine stop_in ?_)
       unfold Stopped
       clear X0;have hO1 := hO.alloc (.cells #[.int .u8 (a3 / 16777216 % 256), .int .u8 (a3 / 65536 % 256), .int .u8 (a3 / 256 % 256), .int .u8 (a3 % 256)] 5);have hb1 := hb.alloc hb.size (.cells #[.int .u8 (a3 / 16777216 % 256), .int .u8 (a3 / 65536 % 256), .int .u8 (a3 / 256 % 256), .int .u8 (a3 % 256)] 5)
       refine wpList_app_bytes rfl (.tmp 41) (.tmp 53) rfl w.heap.size _ _ rfl hO1 _ 4 _ (wordB a3) rfl rfl (Src.new _ _ _ _ rfl _ (by rw [wordB_cells])) (by rw [HOL.out 3 (by omega), wordB_len]; omega) hb1.size fun v' w5 hO5 hg5 hat5 => ?_
       have hb5 := below_of_grown hb1 hg5 (fun q hq => (hO.lt q hq).1);replace hO5 := (HOS.out 3 (by omega)) ▸ hO5;obtain ⟨A5, c5, rfl, _⟩ := hO5.form;rw [HOL.out (3 + 1) (by omega)] at hO5 ⊢;clear hO hb hO1 hb1 hg5 hat5;go_wp2_with fail
       go_roundw
       case rel => exact ⟨4, _, c5, A5, rfl, by go_num, by omega, rfl, hO5, hb5⟩
       case measure => simp [intOf]
      ·have X0 := run_index8u wr #[.int .u32 a0, .int .u32 a1, .int .u32 a2, .int .u32 a3, .int .u32 a4, .int .u32 a5, .int .u32 a6, .int .u32 a7] 4 (.int .u32 a4) 4 rfl (by omega) rfl;go_wp2_with (at_builtin; refine stop_in ?_)
       unfold Stopped
       clear X0;have hO1 := hO.alloc (.cells #[.int .u8 (a4 / 16777216 % 256), .int .u8 (a4 / 65536 % 256), .int .u8 (a4 / 256 % 256), .int .u8 (a4 % 256)] 5);have hb1 := hb.alloc hb.size (.cells #[.int .u8 (a4 / 16777216 % 256), .int .u8 (a4 / 65536 % 256), .int .u8 (a4 / 256 % 256), .int .u8 (a4 % 256)] 5)
       refine wpList_app_bytes rfl (.tmp 41) (.tmp 53) rfl w.heap.size _ _ rfl hO1 _ 4 _ (wordB a4) rfl rfl (Src.new _ _ _ _ rfl _ (by rw [wordB_cells])) (by rw [HOL.out 4 (by omega), wordB_len]; omega) hb1.size fun v' w5 hO5 hg5 hat5 => ?_
       have hb5 := below_of_grown hb1 hg5 (fun q hq => (hO.lt q hq).1);replace hO5 := (HOS.out 4 (by omega)) ▸ hO5;obtain ⟨A5, c5, rfl, _⟩ := hO5.form;rw [HOL.out (4 + 1) (by omega)] at hO5 ⊢;clear hO hb hO1 hb1 hg5 hat5;go_wp2_with fail
       go_roundw
       case rel => exact ⟨5, _, c5, A5, rfl, by go_num, by omega, rfl, hO5, hb5⟩
       case measure => simp [intOf]
      ·have X0 := run_index8u wr #[.int .u32 a0, .int .u32 a1, .int .u32 a2, .int .u32 a3, .int .u32 a4, .int .u32 a5, .int .u32 a6, .int .u32 a7] 5 (.int .u32 a5) 5 rfl (by omega) rfl;go_wp2_with (at_builtin; refine stop_in ?_)
       unfold Stopped
       clear X0;have hO1 := hO.alloc (.cells #[.int .u8 (a5 / 16777216 % 256), .int .u8 (a5 / 65536 % 256), .int .u8 (a5 / 256 % 256), .int .u8 (a5 % 256)] 5);have hb1 := hb.alloc hb.size (.cells #[.int .u8 (a5 / 16777216 % 256), .int .u8 (a5 / 65536 % 256), .int .u8 (a5 / 256 % 256), .int .u8 (a5 % 256)] 5)
       refine wpList_app_bytes rfl (.tmp 41) (.tmp 53) rfl w.heap.size _ _ rfl hO1 _ 4 _ (wordB a5) rfl rfl (Src.new _ _ _ _ rfl _ (by rw [wordB_cells])) (by rw [HOL.out 5 (by omega), wordB_len]; omega) hb1.size fun v' w5 hO5 hg5 hat5 => ?_
       have hb5 := below_of_grown hb1 hg5 (fun q hq => (hO.lt q hq).1);replace hO5 := (HOS.out 5 (by omega)) ▸ hO5;obtain ⟨A5, c5, rfl, _⟩ := hO5.form;rw [HOL.out (5 + 1) (by omega)] at hO5 ⊢;clear hO hb hO1 hb1 hg5 hat5;go_wp2_with fail
       go_roundw
       case rel => exact ⟨6, _, c5, A5, rfl, by go_num, by omega, rfl, hO5, hb5⟩
       case measure => simp [intOf]
      ·have X0 := run_index8u wr #[.int .u32 a0, .int .u32 a1, .int .u32 a2, .int .u32 a3, .int .u32 a4, .int .u32 a5, .int .u32 a6, .int .u32 a7] 6 (.int .u32 a6) 6 rfl (by omega) rfl;go_wp2_with (at_builtin; refine stop_in ?_)
       unfold Stopped
       clear X0;have hO1 := hO.alloc (.cells #[.int .u8 (a6 / 16777216 % 256), .int .u8 (a6 / 65536 % 256), .int .u8 (a6 / 256 % 256), .int .u8 (a6 % 256)] 5);have hb1 := hb.alloc hb.size (.cells #[.int .u8 (a6 / 16777216 % 256), .int .u8 (a6 / 65536 % 256), .int .u8 (a6 / 256 % 256), .int .u8 (a6 % 256)] 5)
       refine wpList_app_bytes rfl (.tmp 41) (.tmp 53) rfl w.heap.size _ _ rfl hO1 _ 4 _ (wordB a6) rfl rfl (Src.new _ _ _ _ rfl _ (by rw [wordB_cells])) (by rw [HOL.out 6 (by omega), wordB_len]; omega) hb1.size fun v' w5 hO5 hg5 hat5 => ?_
       have hb5 := below_of_grown hb1 hg5 (fun q hq => (hO.lt q hq).1);replace hO5 := (HOS.out 6 (by omega)) ▸ hO5;obtain ⟨A5, c5, rfl, _⟩ := hO5.form;rw [HOL.out (6 + 1) (by omega)] at hO5 ⊢;clear hO hb hO1 hb1 hg5 hat5;go_wp2_with fail
       go_roundw
       case rel => exact ⟨7, _, c5, A5, rfl, by go_num, by omega, rfl, hO5, hb5⟩
       case measure => simp [intOf]
      ·have X0 := run_index8u wr #[.int .u32 a0, .int .u32 a1, .int .u32 a2, .int .u32 a3, .int .u32 a4, .int .u32 a5, .int .u32 a6, .int .u32 a7] 7 (.int .u32 a7) 7 rfl (by omega) rfl;go_wp2_with (at_builtin; refine stop_in ?_)
       unfold Stopped
       clear X0;have hO1 := hO.alloc (.cells #[.int .u8 (a7 / 16777216 % 256), .int .u8 (a7 / 65536 % 256), .int .u8 (a7 / 256 % 256), .int .u8 (a7 % 256)] 5);have hb1 := hb.alloc hb.size (.cells #[.int .u8 (a7 / 16777216 % 256), .int .u8 (a7 / 65536 % 256), .int .u8 (a7 / 256 % 256), .int .u8 (a7 % 256)] 5)
       refine wpList_app_bytes rfl (.tmp 41) (.tmp 53) rfl w.heap.size _ _ rfl hO1 _ 4 _ (wordB a7) rfl rfl (Src.new _ _ _ _ rfl _ (by rw [wordB_cells])) (by rw [HOL.out 7 (by omega), wordB_len]; omega) hb1.size fun v' w5 hO5 hg5 hat5 => ?_
       have hb5 := below_of_grown hb1 hg5 (fun q hq => (hO.lt q hq).1);replace hO5 := (HOS.out 7 (by omega)) ▸ hO5;obtain ⟨A5, c5, rfl, _⟩ := hO5.form;rw [HOL.out (7 + 1) (by omega)] at hO5 ⊢;clear hO hb hO1 hb1 hg5 hat5;go_wp2_with fail
       go_roundw
       case rel => exact ⟨8, _, c5, A5, rfl, by go_num, by omega, rfl, hO5, hb5⟩
       case measure => simp [intOf]
      ·rw [HSH.out] at hO;go_wp2_with fail
       go_ret
       exact ⟨_, rfl, by have h := hO.form; obtain ⟨_, _, e, _⟩ := h; exact ⟨hO, hb⟩⟩
end Go.Proofs.YtmacemcajlgddaaGreatDoor
