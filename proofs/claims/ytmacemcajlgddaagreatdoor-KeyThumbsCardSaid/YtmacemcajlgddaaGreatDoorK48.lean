/- squeezed. SHA-256 of the program. Walks: the -/
import Derived.Test.YtmacemcajlgddaaGreatDoorK47
import Derived.Test.YtmacemcajlgddaaGreatDoorK37
import Derived.Test.YtmacemcajlgddaaGreatDoorK33
import Derived.Test.YtmacemcajlgddaaGreatDoorK29
import Derived.Test.YtmacemcajlgddaaGreatDoorK32
import Derived.Test.YtmacemcajlgddaaGreatDoorK38
set_option linter.unusedVariables false
set_option linter.unusedSimpArgs false
set_option maxRecDepth 100000
set_option maxHeartbeats 6400000
namespace Go.Proofs.YtmacemcajlgddaaGreatDoor
open Go.RowKit
theorem sha_Sum256 {A : Option Addr} {c : Nat} {l : List UInt8} {n : Nat} (hn : n = l.length) (hmax : l.length ≤ 1099511627) (w : World) (hS : Src w A (l.map byteV)) :
  Calls Tryz.prog 24 #[.slice A n c] w fun e w' => ∃ r, e = .returned r ∧ Fresh w (shaP l) r w' := by
 have HN := Hh (And.intro hn hmax);have CN := Hh (sha_constants (fun _ => none) w);clear hn hmax;go_enter Tryz.func24, Tryz.ntmps24
 go_wp2_with fail
 refine CN.out.mono ?_
 rintro e w1 ⟨LA, lc, rfl, hL, hb1⟩
 have HS1 := Hh (hS.below hb1);have HB1 := Hh hb1;have HLT := Hh hL;obtain ⟨lg, rfl, hlg⟩ := ownU_at hL (by decide)
 have HLG : Hid (∀ i, i < 64 → w1.cell? ⟨lg, i, none⟩ = some (.int .u64 (getN (constK.take 64) i : Int))) := fun i hi => by
  rw [hlg i (by rw [K64_len]; exact hi), getN_eq (l := constK.take 64) (by rw [show (constK.take 64).length = 64 from rfl]; exact hi)];rfl
 have HLL : Hid (lg < w1.heap.size) := (hL.lt lg rfl).2;have hF := Blk.new w1 59 (rowN [0, 0, 0, 0, 0, 0, 0, 0]);have hb := below_box w1 (.cells (rowN [0, 0, 0, 0, 0, 0, 0, 0]) 59);obtain ⟨F, hFe⟩ : ∃ F, w1.heap.size = F := ⟨_, rfl⟩
 have HFF := Hh hFe;rw [hFe] at hF;clear hFe hL hlg hb1 hS CN;go_wp2_with (with_reducible refine stop_store ?_)
 unfold Stopped
 rw [HFF.out]
 refine wpList_store_item rfl _ _ _ rfl rfl F (rowN constH) rfl rfl _ _ hF size_w8q (by rfl) (rowN_one _) fun w2 hF2 hg2 => ?_
 have hb2 := hb.grown hg2 hb.size (by rintro q ⟨⟩; have := HFF.out; omega);have hK0 := Blk.new w2 63 (rowV (kP 0));have hF3 := hF2.alloc (.cells (rowV (kP 0)) 63);have hb3 := hb2.alloc hb2.size (.cells (rowV (kP 0)) 63);obtain ⟨K0, hKe⟩ : ∃ K, w2.heap.size = K := ⟨_, rfl⟩
 have HKF : Hid (w1.heap.size ≤ K0 ∧ F < K0) := ⟨by rw [← hKe]; exact hb2.size, by rw [← hKe]; exact hF2.lt⟩
 have HKE := Hh hKe;rw [hKe] at hK0;clear hKe hF hb hF2 hg2 hb2;go_wp2_with fail
 rw [HKE.out];go_loopw [17] (fun v17 wr => ∃ i : Nat, v17 = .int .i64 (i : Int) ∧ i ≤ 64 ∧ Blk wr F 59 (rowN constH) ∧ Blk wr K0 63 (rowV (kP i)) ∧ Below w1.heap.size w1 wr) (fun v17 _ => (64 - intOf v17).toNat)
 case atStart => exact ⟨0, rfl, by omega, hF3, hK0, hb3⟩
 case round =>
  clear hF3 hK0 hb3;obtain ⟨i, rfl, hi, hF, hK, hb⟩ := hrel
  by_cases hlt : (i : Int) < 64
  ·have hi6 : i < 64 := by omega
   have cl : wr.cell? ⟨lg, i, none⟩ = some (.int .u64 (getN (constK.take 64) i : Int)) := by rw [hb.cell HLL.out]; exact HLG.out i hi6
   have HWD := Hh (K64_word hi6);obtain ⟨kw, hkw⟩ : ∃ kw, getN (constK.take 64) i = kw := ⟨_, rfl⟩
   rw [hkw] at cl HWD;clear hkw;go_wp2_with (with_reducible refine stop_store ?_)
   refine wpList_store_cell rfl _ _ _ rfl rfl K0 i (.int .u32 (upperP (kw : Int))) rfl (by rfl) _ _ hK size_u32 (by rw [rowV_size, kP_len]; exact hi6) rfl fun w9 hK9 hg9 => ?_
   rw [rowV_set, HWD.out, ← show kP (i + 1) = (kP i).set i (getW constK32 i) from rfl] at hK9;have hF9 := hF.grown hg9 (by intro hc; injection hc with hc; have := HKF.out; omega);have hb9 := hb.grown hg9 hb.size (by rintro q ⟨⟩; exact HKF.out.1);clear hF hK hb hg9 cl;go_wp2_with fail
   go_roundw
   case rel => exact ⟨i + 1, by go_num, by omega, hF9, hK9, hb9⟩
   case measure => simp [intOf]; omega
  ·obtain rfl : i = 64 := by omega
   rw [kP_64] at hK;rw [show ((64 : Nat) : Int) = 64 from rfl] at hlt ⊢;have hH0 := Blk.new wr 64 (rowV (hP8 0));have hF3 := hF.alloc (.cells (rowV (hP8 0)) 64);have hK3 := hK.alloc (.cells (rowV (hP8 0)) 64);have hb3 := hb.alloc hb.size (.cells (rowV (hP8 0)) 64);obtain ⟨G, hGe⟩ : ∃ G, wr.heap.size = G := ⟨_, rfl⟩
   have HGE := Hh hGe;have HGK : Hid (w1.heap.size ≤ G ∧ F < G ∧ K0 < G) := ⟨by rw [← hGe]; exact hb.size, by rw [← hGe]; exact hF.lt, by rw [← hGe]; exact hK.lt⟩
   rw [hGe] at hH0;clear hGe hF hK hb;go_wp2_with fail
   rw [HGE.out];go_loopw [29] (fun v29 wx => ∃ i : Nat, v29 = .int .i64 (i : Int) ∧ i ≤ 8 ∧ Blk wx F 59 (rowN constH) ∧ Blk wx K0 63 (rowV KK) ∧ Blk wx G 64 (rowV (hP8 i)) ∧ Below w1.heap.size w1 wx) (fun v29 _ => (8 - intOf v29).toNat)
   case atStart => exact ⟨0, rfl, by omega, hF3, hK3, hH0, hb3⟩
   case round =>
    clear hF3 hK3 hH0 hb3;obtain ⟨i, rfl, hi, hF, hK, hH, hb⟩ := hrel
    by_cases hlt : (i : Int) < 8
    ·have hi8 : i < 8 := by omega
     have cl : wr.cell? ⟨F, i, none⟩ = some (.int .u64 (getN constH i : Int)) := hF.cell i (rowN_get constH i hi8);obtain ⟨kw, hkw⟩ : ∃ kw, getN constH i = kw := ⟨_, rfl⟩
     rw [hkw] at cl;have HKW := Hh hkw;clear hkw;go_wp2_with (with_reducible refine stop_store ?_)
     refine wpList_store_cell rfl _ _ _ rfl rfl G i (.int .u32 (upperP (kw : Int))) rfl (by rfl) _ _ hH size_u32 (by rw [rowV_size, hP8_len]; exact hi8) rfl fun w9 hH9 hg9 => ?_
     rw [rowV_set, ← HKW.out, ← show hP8 (i + 1) = (hP8 i).set i (upperP ((getN constH i : Nat) : Int)) from rfl] at hH9;have hF9 := hF.grown hg9 (by intro hc; injection hc with hc; have := HGK.out; omega);have hK9 := hK.grown hg9 (by intro hc; injection hc with hc; have := HGK.out; omega);have hb9 := hb.grown hg9 hb.size (by rintro q ⟨⟩; exact HGK.out.1);clear hF hK hH hb hg9 cl;go_wp2_with fail
     go_roundw
     case rel => exact ⟨i + 1, by go_num, by omega, hF9, hK9, hH9, hb9⟩
     case measure => simp [intOf]; omega
    ·obtain rfl : i = 8 := by omega
     rw [hP8_8, ← S8.cells_eq] at hH;rw [show ((8 : Nat) : Int) = 8 from rfl] at hlt ⊢;have PD := Hh (sha_padded (c := c) HN.out.1 HN.out.2 wr (HS1.out.below hb));go_wp2_with fail
     refine PD.out.mono ?_
     rintro e w5 ⟨r5, rfl, hf5⟩
     obtain ⟨PA, pc, rfl, hpl, hpm, _⟩ := hf5.own.form;have hK5 := hK.below hf5.2;have hH5 := hH.below hf5.2;have hb5 := hb.trans (hf5.2.mono hb.size)
     have HPG : Hid (∀ q, PA.map (·.block) = some q → G < q) := fun q hq => by
      have h1 := (hf5.own.lt q (by cases PA with | none => cases hq | some p => exact hq)).1;have h2 := hH.lt
      omega
     obtain ⟨Hp, _, hHp, hHf, _, hBp⟩ := hf5.own.snap (H := fun _ => none) (fun _ _ h => by cases h) (fun _ _ => rfl)
     have HNO : Hid (∀ b o, Hp b = some o → G < b) := fun b o hb => by
      rcases hHf b o hb with h | h
      ·cases h
      ·exact HPG.out b h
     have HPL := Hh (padP_len l);obtain ⟨m, hm⟩ : ∃ m, (padP l).length = m := ⟨_, rfl⟩
     have HM := Hh hm;rw [hm];clear hF hK hH hb hf5 PD hHf hm hpl hpm;go_wp2_with fail
     go_loopw [9] (fun v9 wx => ∃ (k nn : Nat) (VA : Option Addr) (vc : Nat), v9 = .slice VA nn vc ∧ Hid (64 * k + nn = m) ∧ Hid (IsBytes Hp VA vc ((padP l).drop (64 * k))) ∧ Holds wx Hp ∧ Blk wx K0 63 (rowV KK) ∧ Blk wx G 64 (foldP (padP l) k).cells ∧ Below w1.heap.size w1 wx) (fun v9 _ => lenS v9)
     case atStart => exact ⟨0, m, PA, pc, rfl, by rw [Hid]; omega, by rw [Hid]; simpa using hBp, hHp, hK5, hH5, hb5⟩
     case round =>
      clear hHp hBp hK5 hH5 hb5;obtain ⟨k, nn, VA, vc, rfl, HNK, HBK, hHx, hK, hH, hb⟩ := hrel
      by_cases hlt : (0 : Int) < (nn : Int)
      ·have hn64 : Hid (64 ≤ nn) := by have := HPL.out; have := HM.out; have := HNK.out; rw [Hid]; omega
       have hdl : ((padP l).drop (64 * k)).length = nn := by rw [List.length_drop, HM.out]; have := HNK.out; omega
       obtain ⟨b, off, rfl, _⟩ := HBK.out.at_ (by rw [hdl]; omega);have hvc := HBK.out.le;rw [hdl] at hvc;have hvm := HBK.out.max;have HV := Hh (And.intro hvc hvm);have HDL := Hh hdl;have hB64 : IsBytes Hp (some ⟨b, off, none⟩) vc (blkB (padP l) k) := HBK.out.take' 64;have hl64 : (blkB (padP l) k).length = 64 := blkB_len (by have := HNK.out; have := hn64.out; rw [HM.out]; omega);have RD := Hh (sha_round32 hB64 hl64 wr hHx hH hK KK_len);rw [blockP_KK, ← foldP_succ] at RD;have h64v : (64 : Int) ≤ (vc : Int) := by have := hn64.out; omega
       have h64n : (64 : Int) ≤ (nn : Int) := by have := hn64.out; omega
       clear hdl hvc hvm hB64 hl64;go_wp2_with fail
       refine RD.out.mono ?_
       rintro e w6 ⟨⟨v6, rfl⟩, hH6, hg6⟩
       have hK6 := hK.grown hg6 (by intro hc; injection hc with hc; have := HGK.out; omega);have hb6 := hb.grown hg6 hb.size (by rintro q ⟨⟩; exact HGK.out.1)
       have hHx6 : Holds w6 Hp := hHx.grown hg6 (by
        rintro q ⟨⟩
        cases hq : Hp G with
        | none => rfl
        | some o => have := HNO.out _ _ hq; omega)
       have hB6 := Hh (HBK.out.drop' 64 (by rw [HDL.out]; exact hn64.out));clear hK hH hb hHx hg6 RD;go_wp2_with fail
       go_roundw
       case rel =>
        refine ⟨k + 1, nn - 64, _, vc - 64, rfl, by have := HNK.out; have := hn64.out; rw [Hid]; omega, ?_, hHx6, hK6, hH6, hb6⟩
        have h := hB6.out;rw [List.drop_drop] at h;rw [Hid, show 64 * (k + 1) = 64 * k + 64 by omega];rw [Option.map_some, addr_add] at h
        simpa using h
       case measure => have := hn64.out; simp only [lenS]; omega
      ·obtain rfl : nn = 0 := by omega
       have hkn : k = (padP l).length / 64 := by have := HNK.out; have := HM.out; omega
       rw [hkn] at hH;have HSH : Hid ((foldP (padP l) ((padP l).length / 64)).list.flatMap wordB = shaP l) := rfl;obtain ⟨s, hs⟩ : ∃ s, foldP (padP l) ((padP l).length / 64) = s := ⟨_, rfl⟩
       rw [hs] at hH HSH;rw [← outP_8] at HSH;obtain ⟨a0, a1, a2, a3, a4, a5, a6, a7⟩ := s;have HOL := Hh (fun i hi => outP_len ⟨a0, a1, a2, a3, a4, a5, a6, a7⟩ i hi);have HOS := Hh (fun i hi => outP_succ ⟨a0, a1, a2, a3, a4, a5, a6, a7⟩ i hi);have hb9 := HB1.out.trans (hb.mono HB1.out.size);clear hs hkn HBK HNK hHx hK hb;have q0 := hH.cell 0 (v := .int .u32 a0) rfl;have q1 := hH.cell 1 (v := .int .u32 a1) rfl;have q2 := hH.cell 2 (v := .int .u32 a2) rfl;have q3 := hH.cell 3 (v := .int .u32 a3) rfl;have q4 := hH.cell 4 (v := .int .u32 a4) rfl;have q5 := hH.cell 5 (v := .int .u32 a5) rfl;have q6 := hH.cell 6 (v := .int .u32 a6) rfl;have q7 := hH.cell 7 (v := .int .u32 a7) rfl;clear hH;go_wp2_with fail
       go_loopw [10, 51] (fun v10 v51 wx => ∃ (i mo co : Nat) (VO : Option Addr), v10 = .slice VO mo co ∧ v51 = .int .i64 (i : Int) ∧ i ≤ 8 ∧ Hid (mo = 4 * i) ∧ OwnB wx w.heap.size (.slice VO mo co) (outP ⟨a0, a1, a2, a3, a4, a5, a6, a7⟩ i) ∧ Below w.heap.size w wx) (fun _ v51 _ => (8 - intOf v51).toNat)
       case atStart => exact ⟨0, 0, 0, none, rfl, rfl, by omega, rfl, OwnB.nil _ _, hb9⟩
       case round =>
        clear q0 q1 q2 q3 q4 q5 q6 q7 hb9;obtain ⟨i, mo, co, VO, rfl, rfl, hi, HMO, hO, hb⟩ := hrel
        rcases (show i = 0 ∨ i = 1 ∨ i = 2 ∨ i = 3 ∨ i = 4 ∨ i = 5 ∨ i = 6 ∨ i = 7 ∨ i = 8 by omega) with rfl | rfl | rfl | rfl | rfl | rfl | rfl | rfl | rfl
        ·have X0 := run_index8u wr #[.int .u32 a0, .int .u32 a1, .int .u32 a2, .int .u32 a3, .int .u32 a4, .int .u32 a5, .int .u32 a6, .int .u32 a7] 0 (.int .u32 a0) 0 rfl (by omega) rfl;go_wp2_with (at_builtin; refine stop_in ?_)
         unfold Stopped
         clear X0;have hO1 := hO.alloc (.cells #[.int .u8 (a0 / 16777216 % 256), .int .u8 (a0 / 65536 % 256), .int .u8 (a0 / 256 % 256), .int .u8 (a0 % 256)] 5);have hb1 := hb.alloc hb.size (.cells #[.int .u8 (a0 / 16777216 % 256), .int .u8 (a0 / 65536 % 256), .int .u8 (a0 / 256 % 256), .int .u8 (a0 % 256)] 5)
         refine wpList_app_bytes rfl (.tmp 54) (.tmp 66) rfl w.heap.size _ _ rfl hO1 _ 4 _ (wordB a0) rfl rfl (Src.new _ _ _ _ rfl _ (by rw [wordB_cells])) (by rw [HOL.out 0 (by omega), wordB_len]; omega) hb1.size fun v' w5 hO5 hg5 hat5 => ?_
         have hb5 := below_of_grown hb1 hg5 (fun q hq => (hO.lt q hq).1);replace hO5 := (HOS.out 0 (by omega)) ▸ hO5;obtain ⟨A5, c5, rfl, _⟩ := hO5.form;rw [HOL.out (0 + 1) (by omega)] at hO5 ⊢;clear hO hb hO1 hb1 hg5 hat5;go_wp2_with fail
         go_roundw
         case rel => exact ⟨1, _, c5, A5, rfl, by go_num, by omega, rfl, hO5, hb5⟩
         case measure => simp [intOf]
        ·have X0 := run_index8u wr #[.int .u32 a0, .int .u32 a1, .int .u32 a2, .int .u32 a3, .int .u32 a4, .int .u32 a5, .int .u32 a6, .int .u32 a7] 1 (.int .u32 a1) 1 rfl (by omega) rfl;go_wp2_with (at_builtin; refine stop_in ?_)
         unfold Stopped
         clear X0;have hO1 := hO.alloc (.cells #[.int .u8 (a1 / 16777216 % 256), .int .u8 (a1 / 65536 % 256), .int .u8 (a1 / 256 % 256), .int .u8 (a1 % 256)] 5);have hb1 := hb.alloc hb.size (.cells #[.int .u8 (a1 / 16777216 % 256), .int .u8 (a1 / 65536 % 256), .int .u8 (a1 / 256 % 256), .int .u8 (a1 % 256)] 5)
         refine wpList_app_bytes rfl (.tmp 54) (.tmp 66) rfl w.heap.size _ _ rfl hO1 _ 4 _ (wordB a1) rfl rfl (Src.new _ _ _ _ rfl _ (by rw [wordB_cells])) (by rw [HOL.out 1 (by omega), wordB_len]; omega) hb1.size fun v' w5 hO5 hg5 hat5 => ?_
         have hb5 := below_of_grown hb1 hg5 (fun q hq => (hO.lt q hq).1);replace hO5 := (HOS.out 1 (by omega)) ▸ hO5;obtain ⟨A5, c5, rfl, _⟩ := hO5.form;rw [HOL.out (1 + 1) (by omega)] at hO5 ⊢;clear hO hb hO1 hb1 hg5 hat5;go_wp2_with fail
         go_roundw
         case rel => exact ⟨2, _, c5, A5, rfl, by go_num, by omega, rfl, hO5, hb5⟩
         case measure => simp [intOf]
        ·have X0 := run_index8u wr #[.int .u32 a0, .int .u32 a1, .int .u32 a2, .int .u32 a3, .int .u32 a4, .int .u32 a5, .int .u32 a6, .int .u32 a7] 2 (.int .u32 a2) 2 rfl (by omega) rfl;go_wp2_with (at_builtin; refine stop_in ?_)
         unfold Stopped
         clear X0;have hO1 := hO.alloc (.cells #[.int .u8 (a2 / 16777216 % 256), .int .u8 (a2 / 65536 % 256), .int .u8 (a2 / 256 % 256), .int .u8 (a2 % 256)] 5);have hb1 := hb.alloc hb.size (.cells #[.int .u8 (a2 / 16777216 % 256), .int .u8 (a2 / 65536 % 256), .int .u8 (a2 / 256 % 256), .int .u8 (a2 % 256)] 5)
         refine wpList_app_bytes rfl (.tmp 54) (.tmp 66) rfl w.heap.size _ _ rfl hO1 _ 4 _ (wordB a2) rfl rfl (Src.new _ _ _ _ rfl _ (by rw [wordB_cells])) (by rw [HOL.out 2 (by omega), wordB_len]; omega) hb1.size fun v' w5 hO5 hg5 hat5 => ?_
         have hb5 := below_of_grown hb1 hg5 (fun q hq => (hO.lt q hq).1);replace hO5 := (HOS.out 2 (by omega)) ▸ hO5;obtain ⟨A5, c5, rfl, _⟩ := hO5.form;rw [HOL.out (2 + 1) (by omega)] at hO5 ⊢;clear hO hb hO1 hb1 hg5 hat5;go_wp2_with fail
         go_roundw
         case rel => exact ⟨3, _, c5, A5, rfl, by go_num, by omega, rfl, hO5, hb5⟩
         case measure => simp [intOf]
        ·have X0 := run_index8u wr #[.int .u32 a0, .int .u32 a1, .int .u32 a2, .int .u32 a3, .int .u32 a4, .int .u32 a5, .int .u32 a6, .int .u32 a7] 3 (.int .u32 a3) 3 rfl (by omega) rfl;go_wp2_with (at_builtin; refine stop_in ?_)
         unfold Stopped
         clear X0;have hO1 := hO.alloc (.cells #[.int .u8 (a3 / 16777216 % 256), .int .u8 (a3 / 65536 % 256), .int .u8 (a3 / 256 % 256), .int .u8 (a3 % 256)] 5);have hb1 := hb.alloc hb.size (.cells #[.int .u8 (a3 / 16777216 % 256), .int .u8 (a3 / 65536 % 256), .int .u8 (a3 / 256 % 256), .int .u8 (a3 % 256)] 5)
         refine wpList_app_bytes rfl (.tmp 54) (.tmp 66) rfl w.heap.size _ _ rfl hO1 _ 4 _ (wordB a3) rfl rfl (Src.new _ _ _ _ rfl _ (by rw [wordB_cells])) (by rw [HOL.out 3 (by omega), wordB_len]; omega) hb1.size fun v' w5 hO5 hg5 hat5 => ?_
         have hb5 := below_of_grown hb1 hg5 (fun q hq => (hO.lt q hq).1);replace hO5 := (HOS.out 3 (by omega)) ▸ hO5;obtain ⟨A5, c5, rfl, _⟩ := hO5.form;rw [HOL.out (3 + 1) (by omega)] at hO5 ⊢;clear hO hb hO1 hb1 hg5 hat5;go_wp2_with fail
         go_roundw
         case rel => exact ⟨4, _, c5, A5, rfl, by go_num, by omega, rfl, hO5, hb5⟩
         case measure => simp [intOf]
        ·have X0 := run_index8u wr #[.int .u32 a0, .int .u32 a1, .int .u32 a2, .int .u32 a3, .int .u32 a4, .int .u32 a5, .int .u32 a6, .int .u32 a7] 4 (.int .u32 a4) 4 rfl (by omega) rfl;go_wp2_with (at_builtin; refine stop_in ?_)
         unfold Stopped
         clear X0;have hO1 := hO.alloc (.cells #[.int .u8 (a4 / 16777216 % 256), .int .u8 (a4 / 65536 % 256), .int .u8 (a4 / 256 % 256), .int .u8 (a4 % 256)] 5);have hb1 := hb.alloc hb.size (.cells #[.int .u8 (a4 / 16777216 % 256), .int .u8 (a4 / 65536 % 256), .int .u8 (a4 / 256 % 256), .int .u8 (a4 % 256)] 5)
         refine wpList_app_bytes rfl (.tmp 54) (.tmp 66) rfl w.heap.size _ _ rfl hO1 _ 4 _ (wordB a4) rfl rfl (Src.new _ _ _ _ rfl _ (by rw [wordB_cells])) (by rw [HOL.out 4 (by omega), wordB_len]; omega) hb1.size fun v' w5 hO5 hg5 hat5 => ?_
         have hb5 := below_of_grown hb1 hg5 (fun q hq => (hO.lt q hq).1);replace hO5 := (HOS.out 4 (by omega)) ▸ hO5;obtain ⟨A5, c5, rfl, _⟩ := hO5.form;rw [HOL.out (4 + 1) (by omega)] at hO5 ⊢;clear hO hb hO1 hb1 hg5 hat5;go_wp2_with fail
         go_roundw
         case rel => exact ⟨5, _, c5, A5, rfl, by go_num, by omega, rfl, hO5, hb5⟩
         case measure => simp [intOf]
        ·have X0 := run_index8u wr #[.int .u32 a0, .int .u32 a1, .int .u32 a2, .int .u32 a3, .int .u32 a4, .int .u32 a5, .int .u32 a6, .int .u32 a7] 5 (.int .u32 a5) 5 rfl (by omega) rfl;go_wp2_with (at_builtin; refine stop_in ?_)
         unfold Stopped
         clear X0;have hO1 := hO.alloc (.cells #[.int .u8 (a5 / 16777216 % 256), .int .u8 (a5 / 65536 % 256), .int .u8 (a5 / 256 % 256), .int .u8 (a5 % 256)] 5);have hb1 := hb.alloc hb.size (.cells #[.int .u8 (a5 / 16777216 % 256), .int .u8 (a5 / 65536 % 256), .int .u8 (a5 / 256 % 256), .int .u8 (a5 % 256)] 5)
         refine wpList_app_bytes rfl (.tmp 54) (.tmp 66) rfl w.heap.size _ _ rfl hO1 _ 4 _ (wordB a5) rfl rfl (Src.new _ _ _ _ rfl _ (by rw [wordB_cells])) (by rw [HOL.out 5 (by omega), wordB_len]; omega) hb1.size fun v' w5 hO5 hg5 hat5 => ?_
         have hb5 := below_of_grown hb1 hg5 (fun q hq => (hO.lt q hq).1);replace hO5 := (HOS.out 5 (by omega)) ▸ hO5;obtain ⟨A5, c5, rfl, _⟩ := hO5.form;rw [HOL.out (5 + 1) (by omega)] at hO5 ⊢;clear hO hb hO1 hb1 hg5 hat5;go_wp2_with fail
         go_roundw
         case rel => exact ⟨6, _, c5, A5, rfl, by go_num, by omega, rfl, hO5, hb5⟩
         case measure => simp [intOf]
        ·have X0 := run_index8u wr #[.int .u32 a0, .int .u32 a1, .int .u32 a2, .int .u32 a3, .int .u32 a4, .int .u32 a5, .int .u32 a6, .int .u32 a7] 6 (.int .u32 a6) 6 rfl (by omega) rfl;go_wp2_with (at_builtin; refine stop_in ?_)
         unfold Stopped
         clear X0;have hO1 := hO.alloc (.cells #[.int .u8 (a6 / 16777216 % 256), .int .u8 (a6 / 65536 % 256), .int .u8 (a6 / 256 % 256), .int .u8 (a6 % 256)] 5);have hb1 := hb.alloc hb.size (.cells #[.int .u8 (a6 / 16777216 % 256), .int .u8 (a6 / 65536 % 256), .int .u8 (a6 / 256 % 256), .int .u8 (a6 % 256)] 5)
         refine wpList_app_bytes rfl (.tmp 54) (.tmp 66) rfl w.heap.size _ _ rfl hO1 _ 4 _ (wordB a6) rfl rfl (Src.new _ _ _ _ rfl _ (by rw [wordB_cells])) (by rw [HOL.out 6 (by omega), wordB_len]; omega) hb1.size fun v' w5 hO5 hg5 hat5 => ?_
         have hb5 := below_of_grown hb1 hg5 (fun q hq => (hO.lt q hq).1);replace hO5 := (HOS.out 6 (by omega)) ▸ hO5;obtain ⟨A5, c5, rfl, _⟩ := hO5.form;rw [HOL.out (6 + 1) (by omega)] at hO5 ⊢;clear hO hb hO1 hb1 hg5 hat5;go_wp2_with fail
         go_roundw
         case rel => exact ⟨7, _, c5, A5, rfl, by go_num, by omega, rfl, hO5, hb5⟩
         case measure => simp [intOf]
        ·have X0 := run_index8u wr #[.int .u32 a0, .int .u32 a1, .int .u32 a2, .int .u32 a3, .int .u32 a4, .int .u32 a5, .int .u32 a6, .int .u32 a7] 7 (.int .u32 a7) 7 rfl (by omega) rfl;go_wp2_with (at_builtin; refine stop_in ?_)
         unfold Stopped
         clear X0;have hO1 := hO.alloc (.cells #[.int .u8 (a7 / 16777216 % 256), .int .u8 (a7 / 65536 % 256), .int .u8 (a7 / 256 % 256), .int .u8 (a7 % 256)] 5);have hb1 := hb.alloc hb.size (.cells #[.int .u8 (a7 / 16777216 % 256), .int .u8 (a7 / 65536 % 256), .int .u8 (a7 / 256 % 256), .int .u8 (a7 % 256)] 5)
         refine wpList_app_bytes rfl (.tmp 54) (.tmp 66) rfl w.heap.size _ _ rfl hO1 _ 4 _ (wordB a7) rfl rfl (Src.new _ _ _ _ rfl _ (by rw [wordB_cells])) (by rw [HOL.out 7 (by omega), wordB_len]; omega) hb1.size fun v' w5 hO5 hg5 hat5 => ?_
         have hb5 := below_of_grown hb1 hg5 (fun q hq => (hO.lt q hq).1);replace hO5 := (HOS.out 7 (by omega)) ▸ hO5;obtain ⟨A5, c5, rfl, _⟩ := hO5.form;rw [HOL.out (7 + 1) (by omega)] at hO5 ⊢;clear hO hb hO1 hb1 hg5 hat5;go_wp2_with fail
         go_roundw
         case rel => exact ⟨8, _, c5, A5, rfl, by go_num, by omega, rfl, hO5, hb5⟩
         case measure => simp [intOf]
        ·rw [HSH.out] at hO;go_wp2_with fail
         go_ret
         exact ⟨_, rfl, by have h := hO.form; obtain ⟨_, _, e, _⟩ := h; exact ⟨hO, hb⟩⟩
def bareK (q : Ky) : Ky := ⟨q.kty, q.crv, 0, [], q.x, [], q.k⟩
def thC (q : Ky) : Int := if validK q = true then (if q.kty = 1 ∧ q.x.length = 0 then 12 else 0) else 1
def thB (q : Ky) : List UInt8 := if thC q = 0 then shaP (encB (itemK (bareK q))) else []
def pubC (q : Ky) : Int := if validK q = true then (if q.kty = 4 ∨ q.x.length = 0 then 12 else 0) else 1
def pubK (q : Ky) : Ky := if pubC q = 0 then ⟨q.kty, q.crv, q.alg, q.kid, q.x, [], []⟩ else zeroKy
def ThOut (w : World) (q : Ky) (e : Ending) (w' : World) : Prop := ∃ r, e = .returned (.tuple #[r, .int .i64 (thC q)]) ∧ Fresh w (thB q) r w'
def PubOut (w : World) (H : Snap) (q : Ky) (e : Ending) (w' : World) : Prop := ∃ a H', e = .returned (.tuple #[.agg (keyQ (pubK q) a), .int .i64 (pubC q)]) ∧ Grows w H w' H' ∧ KeyA H' (pubK q) a
theorem th_no {q : Ky} (h : validK q = false) : thC q = 1 ∧ thB q = [] := by
 have e : thC q = 1 := by rw [thC, if_neg (by rw [h]; simp)]
 exact ⟨e, by rw [thB, if_neg (by rw [e]; decide)]⟩
theorem th_12 {q : Ky} (h : validK q = true) (h1 : q.kty = 1) (hx : q.x.length = 0) : thC q = 12 ∧ thB q = [] := by
 have e : thC q = 12 := by rw [thC, if_pos h, if_pos ⟨h1, hx⟩]
 exact ⟨e, by rw [thB, if_neg (by rw [e]; decide)]⟩
theorem th_ok {q : Ky} (h : validK q = true) (h1 : ¬ (q.kty = 1 ∧ q.x.length = 0)) : thC q = 0 ∧ thB q = shaP (encB (itemK (bareK q))) := by
 have e : thC q = 0 := by rw [thC, if_pos h, if_neg h1]
 exact ⟨e, by rw [thB, if_pos e]⟩
theorem bare_valid {q : Ky} (h : validK q = true) (h1 : ¬ (q.kty = 1 ∧ q.x.length = 0)) : validK (bareK q) = true := by
 rw [validK_iff] at h ⊢;obtain ⟨_, _, _, h⟩ := h
 refine ⟨by simp [bareK], by simp [bareK], by simp [bareK], ?_⟩
 rcases h with ⟨a1, a2, a3, a4, a5, a6⟩ | ⟨a1, a2, a3, a4, a5⟩
 ·have hx : ¬ q.x.length = 0 := fun hx => h1 ⟨a1, hx⟩
  exact .inl ⟨a1, a2, a3, .inl rfl, by show 0 < q.x.length + 0; omega, a6⟩
 ·exact .inr ⟨a1, a2, by show q.x.length + 0 = 0; omega, a4, a5⟩
theorem bare_len {q : Ky} (h : validK (bareK q) = true) : (encB (itemK (bareK q))).length ≤ 1099511627 := by
 have := (validP_spec (validP_itemK h)).2.2
 omega
theorem bareA {H : Snap} {q : Ky} {a : KAd} (h : KeyA H q a) : KeyA H (bareK q) ⟨none, 0, a.xa, a.xc, none, 0, a.ka, a.kc⟩ :=
 ⟨h.kty, h.crv, by simp only [bareK]; omega, IsBytes.nil _, h.x, IsBytes.nil _, h.k⟩
theorem pub_no {q : Ky} (h : validK q = false) : pubC q = 1 ∧ pubK q = zeroKy := by
 have e : pubC q = 1 := by rw [pubC, if_neg (by rw [h]; simp)]
 exact ⟨e, by rw [pubK, if_neg (by rw [e]; decide)]⟩
theorem pub_12 {q : Ky} (h : validK q = true) (h1 : q.kty = 4 ∨ q.x.length = 0) : pubC q = 12 ∧ pubK q = zeroKy := by
 have e : pubC q = 12 := by rw [pubC, if_pos h, if_pos h1]
 exact ⟨e, by rw [pubK, if_neg (by rw [e]; decide)]⟩
theorem pub_ok {q : Ky} (h : validK q = true) (h1 : ¬ (q.kty = 4 ∨ q.x.length = 0)) : pubC q = 0 ∧ pubK q = ⟨q.kty, q.crv, q.alg, q.kid, q.x, [], []⟩ := by
 have e : pubC q = 0 := by rw [pubC, if_pos h, if_neg h1]
 exact ⟨e, by rw [pubK, if_pos e]⟩
theorem zeroA (H : Snap) : KeyA H zeroKy ⟨none, 0, none, 0, none, 0, none, 0⟩ :=
 ⟨by simp [zeroKy], by simp [zeroKy], by simp [zeroKy], IsBytes.nil _, IsBytes.nil _, IsBytes.nil _, IsBytes.nil _⟩
theorem okp_k {q : Ky} (h : validK q = true) (h4 : ¬ q.kty = 4) : q.k = [] := by
 rw [validK_iff] at h
 exact List.eq_nil_of_length_eq_zero (by omega)
theorem key_Thumb {H : Snap} (hTab : Tabs H) {q : Ky} {a : KAd} (hq : KeyA H q a) (w : World) (hH : Holds w H) :
  Calls Tryz.prog 10 #[.agg (keyQ q a)] w (ThOut w q) := by
 obtain ⟨ni, hni⟩ : ∃ ni, ni = q.kid.length := ⟨_, rfl⟩
 obtain ⟨nx, hnx⟩ : ∃ nx, nx = q.x.length := ⟨_, rfl⟩
 obtain ⟨nd, hnd⟩ : ∃ nd, nd = q.d.length := ⟨_, rfl⟩
 obtain ⟨nk, hnk⟩ : ∃ nk, nk = q.k.length := ⟨_, rfl⟩
 have HN := Hh (And.intro hni (And.intro hnx (And.intro hnd hnk)));have V : Hid (∀ W, Calls Tryz.prog 20 #[.agg (keyC q.kty q.crv q.alg a.ia q.kid.length a.ic a.xa q.x.length a.xc a.da q.d.length a.dc a.ka q.k.length a.kc)] W fun e w' => e = .returned (.bool (validK q)) ∧ Below W.heap.size W w') := fun W => key_ValidN q.kty q.crv q.alg a.ia q.kid.length a.ic a.xa q.x.length a.xc a.da q.d.length a.dc a.ka q.k.length a.kc W hq.len.1 hq.len.2
 have EN : Hid (∀ W, Holds W H → Calls Tryz.prog 23 #[.agg (keyC q.kty q.crv 0 none 0 0 a.xa q.x.length a.xc none 0 0 a.ka q.k.length a.kc)] W (EncOut W (bareK q))) := fun W hW => key_Encode hTab (bareA hq) W hW
 show Calls Tryz.prog 10 #[.agg (keyC q.kty q.crv q.alg a.ia q.kid.length a.ic a.xa q.x.length a.xc a.da q.d.length a.dc a.ka q.k.length a.kc)] w (ThOut w q)
 rw [← hni, ← hnx, ← hnd, ← hnk] at V ⊢;rw [← hnx, ← hnk] at EN;have hG1 := (Grows.refl hH).alloc (.cells (keyC q.kty q.crv q.alg a.ia ni a.ic a.xa nx a.xc a.da nd a.dc a.ka nk a.kc) 24);have hB1 := Blk.new w 24 (keyC q.kty q.crv q.alg a.ia ni a.ic a.xa nx a.xc a.da nd a.dc a.ka nk a.kc);have c0 := hB1.cell 0 rfl;have c1 := hB1.cell 1 rfl;have c2 := hB1.cell 2 rfl;have c3 := hB1.cell 3 rfl;have c4 := hB1.cell 4 rfl;have c5 := hB1.cell 5 rfl;have c6 := hB1.cell 6 rfl;clear hni hnx hnd hnk hq hH hTab;go_enter Tryz.func10, Tryz.ntmps10
 go_wp2_with fail
 refine (V.out _).mono ?_
 rintro e w3 ⟨rfl, hb3⟩
 have hB3 := hB1.below hb3;have hG3 := hG1.below_ hb3;clear hb3 V c0 c1 c2 c3 c4 c5 c6 hB1 hG1
 cases hv : validK q with
 | false =>
  have E := Hh (th_no hv);clear hv;go_wp2_with fail
  go_ret2
  exact ⟨_, by rw [E.out.1]; rfl, by rw [E.out.2]; exact ⟨OwnB.nil _ _, hG3.below⟩⟩
 | true =>
  have HV := Hh hv;clear hv;obtain ⟨t, ht⟩ : ∃ t, q.kty = t := ⟨_, rfl⟩
  rw [ht] at hB3 EN;have HTT := Hh ht;clear ht;have c0 := hB3.cell 0 rfl;have c1 := hB3.cell 1 rfl;have c4 := hB3.cell 4 rfl;have c6 := hB3.cell 6 rfl
  by_cases h1 : t = 1
  ·by_cases hx : nx = 0
   ·subst h1 hx;have E := Hh (th_12 HV.out HTT.out HN.out.2.1.symm);go_wp2_with fail
    go_ret2
    exact ⟨_, by rw [E.out.1]; rfl, by rw [E.out.2]; exact ⟨OwnB.nil _ _, hG3.below⟩⟩
   ·subst h1;have HNO : Hid (¬ (q.kty = 1 ∧ q.x.length = 0)) := by rw [Hid, ← HN.out.2.1]; exact fun h => hx h.2
    have E := Hh (th_ok HV.out HNO.out);have HBV := Hh (bare_valid HV.out HNO.out);have b1 : (nx = 0) = False := eq_false hx;have b2 : ((nx : Int) = 0) = False := eq_false (by omega);have b3 : ((nx : Int) == 0) = false := by rw [beq_eq_false_iff_ne]; omega
    clear hx;go_wp2_with fail
    refine (EN.out _ hG3.holds).mono ?_
    rintro e w5 ⟨r5, L, rfl, hf5, hL⟩
    have HL : Hid (L = encB (itemK (bareK q))) := by rw [Hid, hL, if_pos HBV.out]
    have hc5 : codeK (bareK q) = 0 := by rw [codeK, if_pos HBV.out]
    rw [hc5];obtain ⟨A5, c5, rfl, hj5⟩ := hf5.own.form;have SM := Hh (sha_Sum256 (c := c5) (n := L.length) rfl (by rw [HL.out]; exact bare_len HBV.out) w5 hf5.own.src);have hbb := hG3.below.trans (hf5.2.mono hG3.below.size);clear hj5 hc5 hL hf5 c0 c1 c4 c6 EN;obtain ⟨m, hm⟩ : ∃ m, L.length = m := ⟨_, rfl⟩
    rw [hm] at SM ⊢;clear hm;go_wp2_with fail
    refine SM.out.mono ?_
    rintro e w6 ⟨r6, rfl, hf6⟩
    have ho := hf6.own.more (base' := w.heap.size) hbb.size;have hb9 := hbb.trans (hf6.2.mono hbb.size);clear SM hf6 hbb hG3 hB3;go_wp2_with fail
    go_ret2
    exact ⟨_, by rw [E.out.1]; rfl, by rw [E.out.2, ← HL.out]; exact ⟨ho, hb9⟩⟩
  ·have HNO : Hid (¬ (q.kty = 1 ∧ q.x.length = 0)) := by rw [Hid, HTT.out]; exact fun h => h1 h.1
   have E := Hh (th_ok HV.out HNO.out);have HBV := Hh (bare_valid HV.out HNO.out);have b1 : (t = 1) = False := eq_false h1;have b3 : (t == 1) = false := by rw [beq_eq_false_iff_ne]; exact h1
   clear h1;go_wp2_with fail
   refine (EN.out _ hG3.holds).mono ?_
   rintro e w5 ⟨r5, L, rfl, hf5, hL⟩
   have HL : Hid (L = encB (itemK (bareK q))) := by rw [Hid, hL, if_pos HBV.out]
   have hc5 : codeK (bareK q) = 0 := by rw [codeK, if_pos HBV.out]
   rw [hc5];obtain ⟨A5, c5, rfl, hj5⟩ := hf5.own.form;have SM := Hh (sha_Sum256 (c := c5) (n := L.length) rfl (by rw [HL.out]; exact bare_len HBV.out) w5 hf5.own.src);have hbb := hG3.below.trans (hf5.2.mono hG3.below.size);clear hj5 hc5 hL hf5 c0 c1 c4 c6 EN;obtain ⟨m, hm⟩ : ∃ m, L.length = m := ⟨_, rfl⟩
   rw [hm] at SM ⊢;clear hm;go_wp2_with fail
   refine SM.out.mono ?_
   rintro e w6 ⟨r6, rfl, hf6⟩
   have ho := hf6.own.more (base' := w.heap.size) hbb.size;have hb9 := hbb.trans (hf6.2.mono hbb.size);clear SM hf6 hbb hG3 hB3;go_wp2_with fail
   go_ret2
   exact ⟨_, by rw [E.out.1]; rfl, by rw [E.out.2, ← HL.out]; exact ⟨ho, hb9⟩⟩
theorem ref11_Thumb {H : Snap} (hTab : Tabs H) {q : Ky} {a : KAd} (hq : KeyA H q a) (w : World) (hH : Holds w H) :
  Calls Tryz.prog 11 #[.agg (keyQ q a)] w (ThOut w q) := by
 obtain ⟨ni, hni⟩ : ∃ ni, ni = q.kid.length := ⟨_, rfl⟩
 obtain ⟨nx, hnx⟩ : ∃ nx, nx = q.x.length := ⟨_, rfl⟩
 obtain ⟨nd, hnd⟩ : ∃ nd, nd = q.d.length := ⟨_, rfl⟩
 obtain ⟨nk, hnk⟩ : ∃ nk, nk = q.k.length := ⟨_, rfl⟩
 have HN := Hh (And.intro hni (And.intro hnx (And.intro hnd hnk)));have V : Hid (∀ W, Calls Tryz.prog 22 #[.agg (keyC q.kty q.crv q.alg a.ia q.kid.length a.ic a.xa q.x.length a.xc a.da q.d.length a.dc a.ka q.k.length a.kc)] W fun e w' => e = .returned (.bool (validK q)) ∧ Below W.heap.size W w') := fun W => ref_ValidN q.kty q.crv q.alg a.ia q.kid.length a.ic a.xa q.x.length a.xc a.da q.d.length a.dc a.ka q.k.length a.kc W hq.len.1 hq.len.2
 have EN : Hid (∀ W, Holds W H → Calls Tryz.prog 25 #[.agg (keyC q.kty q.crv 0 none 0 0 a.xa q.x.length a.xc none 0 0 a.ka q.k.length a.kc)] W (EncOut W (bareK q))) := fun W hW => ref11_Encode hTab (bareA hq) W hW
 show Calls Tryz.prog 11 #[.agg (keyC q.kty q.crv q.alg a.ia q.kid.length a.ic a.xa q.x.length a.xc a.da q.d.length a.dc a.ka q.k.length a.kc)] w (ThOut w q)
 rw [← hni, ← hnx, ← hnd, ← hnk] at V ⊢;rw [← hnx, ← hnk] at EN;have hG1 := (Grows.refl hH).alloc (.cells (keyC q.kty q.crv q.alg a.ia ni a.ic a.xa nx a.xc a.da nd a.dc a.ka nk a.kc) 24);have hB1 := Blk.new w 24 (keyC q.kty q.crv q.alg a.ia ni a.ic a.xa nx a.xc a.da nd a.dc a.ka nk a.kc);have c0 := hB1.cell 0 rfl;have c1 := hB1.cell 1 rfl;have c2 := hB1.cell 2 rfl;have c3 := hB1.cell 3 rfl;have c4 := hB1.cell 4 rfl;have c5 := hB1.cell 5 rfl;have c6 := hB1.cell 6 rfl;clear hni hnx hnd hnk hq hH hTab;go_enter Tryz.func11, Tryz.ntmps11
 go_wp2_with fail
 refine (V.out _).mono ?_
 rintro e w3 ⟨rfl, hb3⟩
 have hB3 := hB1.below hb3;have hG3 := hG1.below_ hb3;clear hb3 V c0 c1 c2 c3 c4 c5 c6 hB1 hG1
 cases hv : validK q with
 | false =>
  have E := Hh (th_no hv);clear hv;go_wp2_with fail
  go_ret2
  exact ⟨_, by rw [E.out.1]; rfl, by rw [E.out.2]; exact ⟨OwnB.nil _ _, hG3.below⟩⟩
 | true =>
  have HV := Hh hv;clear hv;obtain ⟨t, ht⟩ : ∃ t, q.kty = t := ⟨_, rfl⟩
  rw [ht] at hB3 EN;have HTT := Hh ht;clear ht;have c0 := hB3.cell 0 rfl;have c1 := hB3.cell 1 rfl;have c4 := hB3.cell 4 rfl;have c6 := hB3.cell 6 rfl
  by_cases h1 : t = 1
  ·by_cases hx : nx = 0
   ·subst h1 hx;have E := Hh (th_12 HV.out HTT.out HN.out.2.1.symm);go_wp2_with fail
    go_ret2
    exact ⟨_, by rw [E.out.1]; rfl, by rw [E.out.2]; exact ⟨OwnB.nil _ _, hG3.below⟩⟩
   ·subst h1;have HNO : Hid (¬ (q.kty = 1 ∧ q.x.length = 0)) := by rw [Hid, ← HN.out.2.1]; exact fun h => hx h.2
    have E := Hh (th_ok HV.out HNO.out);have HBV := Hh (bare_valid HV.out HNO.out);have b1 : (nx = 0) = False := eq_false hx;have b2 : ((nx : Int) = 0) = False := eq_false (by omega);have b3 : ((nx : Int) == 0) = false := by rw [beq_eq_false_iff_ne]; omega
    clear hx;go_wp2_with fail
    refine (EN.out _ hG3.holds).mono ?_
    rintro e w5 ⟨r5, L, rfl, hf5, hL⟩
    have HL : Hid (L = encB (itemK (bareK q))) := by rw [Hid, hL, if_pos HBV.out]
    have hc5 : codeK (bareK q) = 0 := by rw [codeK, if_pos HBV.out]
    rw [hc5];obtain ⟨A5, c5, rfl, hj5⟩ := hf5.own.form;have SM := Hh (ref_Sum256 (c := c5) (n := L.length) rfl (by rw [HL.out]; exact bare_len HBV.out) w5 hf5.own.src);have hbb := hG3.below.trans (hf5.2.mono hG3.below.size);clear hj5 hc5 hL hf5 c0 c1 c4 c6 EN;obtain ⟨m, hm⟩ : ∃ m, L.length = m := ⟨_, rfl⟩
    rw [hm] at SM ⊢;clear hm;go_wp2_with fail
    refine SM.out.mono ?_
    rintro e w6 ⟨r6, rfl, hf6⟩
    have ho := hf6.own.more (base' := w.heap.size) hbb.size;have hb9 := hbb.trans (hf6.2.mono hbb.size);clear SM hf6 hbb hG3 hB3;go_wp2_with fail
    go_ret2
    exact ⟨_, by rw [E.out.1]; rfl, by rw [E.out.2, ← HL.out]; exact ⟨ho, hb9⟩⟩
  ·have HNO : Hid (¬ (q.kty = 1 ∧ q.x.length = 0)) := by rw [Hid, HTT.out]; exact fun h => h1 h.1
   have E := Hh (th_ok HV.out HNO.out);have HBV := Hh (bare_valid HV.out HNO.out);have b1 : (t = 1) = False := eq_false h1;have b3 : (t == 1) = false := by rw [beq_eq_false_iff_ne]; exact h1
   clear h1;go_wp2_with fail
   refine (EN.out _ hG3.holds).mono ?_
   rintro e w5 ⟨r5, L, rfl, hf5, hL⟩
   have HL : Hid (L = encB (itemK (bareK q))) := by rw [Hid, hL, if_pos HBV.out]
   have hc5 : codeK (bareK q) = 0 := by rw [codeK, if_pos HBV.out]
   rw [hc5];obtain ⟨A5, c5, rfl, hj5⟩ := hf5.own.form;have SM := Hh (ref_Sum256 (c := c5) (n := L.length) rfl (by rw [HL.out]; exact bare_len HBV.out) w5 hf5.own.src);have hbb := hG3.below.trans (hf5.2.mono hG3.below.size);clear hj5 hc5 hL hf5 c0 c1 c4 c6 EN;obtain ⟨m, hm⟩ : ∃ m, L.length = m := ⟨_, rfl⟩
   rw [hm] at SM ⊢;clear hm;go_wp2_with fail
   refine SM.out.mono ?_
   rintro e w6 ⟨r6, rfl, hf6⟩
   have ho := hf6.own.more (base' := w.heap.size) hbb.size;have hb9 := hbb.trans (hf6.2.mono hbb.size);clear SM hf6 hbb hG3 hB3;go_wp2_with fail
   go_ret2
   exact ⟨_, by rw [E.out.1]; rfl, by rw [E.out.2, ← HL.out]; exact ⟨ho, hb9⟩⟩
end Go.Proofs.YtmacemcajlgddaaGreatDoor
