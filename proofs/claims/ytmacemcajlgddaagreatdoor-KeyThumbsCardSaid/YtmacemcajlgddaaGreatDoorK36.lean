/- squeezed. SHA-256: the reference's constants -/
import Derived.Test.YtmacemcajlgddaaGreatDoorK35
import Derived.Great.BuildSlice
set_option linter.unusedVariables false
set_option linter.unusedSimpArgs false
set_option maxRecDepth 100000
set_option maxHeartbeats 3200000
namespace Go.Proofs.YtmacemcajlgddaaGreatDoor
open Go.RowKit
def rowW (l : List Int) : Array Value := (l.map (Value.int .u64)).toArray
theorem rowW_size (l : List Int) : (rowW l).size = l.length := by simp [rowW]
theorem rowW_get (l : List Int) (i : Nat) (h : i < l.length) : (rowW l)[i]? = some (.int .u64 (getW l i)) := by
 simp [rowW, getW, h]
theorem rowW_one (l : List Int) : (rowW l).all (·.oneCell') = true := by simp [rowW, Value.oneCell']
def constKI : List Int := [4794697086780616226, 8158064640168781261, 13096744586834688815, 16840607885511220156, 4131703408338449720, 6480981068601479193, 10538285296894168987, 12329834152419229976, 15566598209576043074, 1334009975649890238, 2608012711638119052, 6128411473006802146, 8268148722764581231, 9286055187155687089, 11230858885718282805, 13951009754708518548, 16472876342353939154, 17275323862435702243, 1135362057144423861, 2597628984639134821, 3308224258029322869, 5365058923640841347, 6679025012923562964, 8573033837759648693, 10970295158949994411, 12119686244451234320, 12683024718118986047, 13788192230050041572, 14330467153632333762, 15395433587784984357, 489312712824947311, 1452737877330783856, 2861767655752347644, 3322285676063803686, 5560940570517711597, 5996557281743188959, 7280758554555802590, 8532644243296465576, 9350256976987008742, 10552545826968843579, 11727347734174303076, 12113106623233404929, 14000437183269869457, 14369950271660146224, 15101387698204529176, 15463397548674623760, 17586052441742319658, 1182934255886127544, 1847814050463011016, 2177327727835720531, 2830643537854262169, 3796741975233480872, 4115178125766777443, 5681478168544905931, 6601373596472566643, 7507060721942968483, 8399075790359081724, 8693463985226723168, 9568029438360202098, 10144078919501101548, 10430055236837252648, 11840083180663258601, 13761210420658862357, 14299343276471374635, 14566680578165727644, 15097957966210449927, 16922976911328602910, 17689382322260857208, 500013540394364858, 748580250866718886, 1242879168328830382, 1977374033974150939, 2944078676154940804, 3659926193048069267, 4368137639120453308, 4836135668995329356, 5532061633213252278, 6448918945643986474, 6902733635092675308, 7801388544844847127]
def constHI : List Int := [7640891576956012808, 13503953896175478587, 4354685564936845355, 11912009170470909681, 5840696475078001361, 11170449401992604703, 2270897969802886507, 6620516959819538809]
theorem constKI_len : constKI.length = 80 := rfl
theorem constHI_len : constHI.length = 8 := rfl
def upperP (x : Int) : Int := IntKind.u32.wrap (x / 4294967296)
def constK32 : List Int := constKI.map upperP
theorem constK32_get (k : Nat) (h : k < 80) : getW constK32 k = upperP (getW constKI k) := by
 have h1 : k < constKI.length := by rw [constKI_len]; exact h
 unfold getW constK32
 rw [List.getD_eq_getElem?_getD, List.getD_eq_getElem?_getD, List.getElem?_map, List.getElem?_eq_getElem h1];rfl
theorem size_w80 : (Tryz.prog.info? 80).map (·.size) = some 80 := by kernel_rfl
theorem stop_build {P : Program} {ops : Array Oper} {Q : Exit → Act → World → Prop} {rest : List Oper} {a : Act} {w : World} {dst : Option Tmp} {ty : TypeId} {ps : Array (Nat × Operand)} {T : TypeId} {pos : String} {af : Array Edge} {g : Option (Nat × Bool)}
  (h : Stopped (wpList P ops Q (⟨dst, .build ty ps, T, pos, af, g⟩ :: rest) a w)) : wpList P ops Q (⟨dst, .build ty ps, T, pos, af, g⟩ :: rest) a w := h
theorem ref_constants (w : World) : Calls Tryz.prog 49 #[] w fun e w' => e = .returned (.agg (rowW constKI)) ∧ Below w.heap.size w w' := by
 have hB := Blk.new w 80 (rowW (List.replicate 80 0));have hb := below_box w (.cells (rowW (List.replicate 80 0)) 80);go_enter Tryz.func49, Tryz.ntmps49
 go_wp2_with (with_reducible refine stop_build ?_)
 refine wpList_buildTo rfl _ _ rfl _ rfl (rowW constKI) (by kernel_rfl) ?_
 go_wp2_with (with_reducible refine stop_store ?_)
 refine wpList_store_item rfl _ _ _ rfl rfl w.heap.size (rowW constKI) rfl rfl _ _ hB size_w80 (by simp [rowW_size, constKI_len]) (rowW_one _) fun w2 hB2 hg2 => ?_
 go_wp2_with fail
 refine ret_row rfl rfl hB2 rfl rfl size_w80 rfl ?_
 exact ⟨rfl, hb.grown hg2 hb.size (by rintro q ⟨⟩; exact Nat.le_refl _)⟩
theorem ref_block256 {H : Snap} {b off c : Nat} {bs : List UInt8} (hb : IsBytes H (some ⟨b, off, none⟩) c bs) (hl : bs.length = 64) (h0 : S8) (w : World) (hH : Holds w H) :
  Calls Tryz.prog 37 #[.agg h0.cells, .slice (some ⟨b, off, none⟩) 64 c] w fun e w' => e = .returned (.agg (blockP constK32 h0 bs).cells) ∧ Below w.heap.size w w' := by
 have HB := Hh hb;have HL := Hh hl;have hB0 := Blk.new w 64 h0.cells;have hR0 := Blk.new (w.alloc (.cells h0.cells 64)) 64 (rowV (List.replicate 8 0));rw [size_alloc] at hR0;have hb0 := below_box w (.cells h0.cells 64);have hb1 := hb0.alloc hb0.size (.cells (rowV (List.replicate 8 0)) 64);replace hB0 := hB0.alloc (.cells (rowV (List.replicate 8 0)) 64);go_enter Tryz.func37, Tryz.ntmps37
 go_wp2_with fail
 refine (ref_constants _).mono ?_
 rintro e w2 ⟨rfl, hb2⟩
 have hC := Blk.new w2 80 (rowW (List.replicate 80 0));have hB2 := (hB0.below hb2).alloc (.cells (rowW (List.replicate 80 0)) 80);have hR2 := (hR0.below hb2).alloc (.cells (rowW (List.replicate 80 0)) 80);have hbb := (hb1.trans (hb2.mono hb1.size)).alloc (Nat.le_trans hb1.size hb2.size) (.cells (rowW (List.replicate 80 0)) 80);have hlR := (hR0.below hb2).lt;obtain ⟨kg, hkg⟩ : ∃ kg, w2.heap.size = kg := ⟨_, rfl⟩
 obtain ⟨hg, hhg⟩ : ∃ hg, w.heap.size = hg := ⟨_, rfl⟩
 rw [hkg] at hC hlR;rw [hhg] at hB2 hR2 hlR;have HKG := Hh (And.intro hkg hhg);clear hb2 hb0 hb1 hB0 hR0 hb hl;have hbs := hbb.size;have hC' := hC;clear hkg hhg;go_wp2_with (with_reducible refine stop_store ?_)
 unfold Stopped
 rw [HKG.out.1, HKG.out.2]
 refine wpList_store_item rfl _ _ _ rfl rfl kg (rowW constKI) rfl rfl _ _ hC size_w80 (by simp [rowW_size, constKI_len]) (rowW_one _) fun wq hKb hgq => ?_
 have hh := hB2.grown hgq (by intro hc; injection hc; omega);have hR := hR2.grown hgq (by intro hc; injection hc; omega);have hbq : Below w.heap.size w wq := hbb.grown hgq hbb.size (by rintro q ⟨⟩; have := HKG.out; omega);have HH := Hh (hH.below hbq (Nat.le_refl _));have HN := Hh (Blk.new wq 63 (rowV (schedP bs 0)));have HBQ := Hh hbq;have H64 := Hh (show 64 ≤ constKI.length by rw [constKI_len]; omega);clear hC hC' hgq hB2 hR2 hbb hH hbs hbq hlR;go_wp2_with fail
 go_loopw [18] (fun v18 wr => ∃ k : Nat, v18 = .int .i64 (k : Int) ∧ k ≤ 64 ∧ Blk wr wq.heap.size 63 (rowV (schedP bs k)) ∧ Below wq.heap.size wq wr) (fun v18 _ => (64 - intOf v18).toNat)
 case atStart => exact ⟨0, rfl, by omega, HN.out, below_box _ _⟩
 case round =>
  obtain ⟨k, rfl, hk64, hW, hbw⟩ := hrel
  by_cases hlt : (k : Int) < 64
  ·by_cases h16 : (k : Int) < 16
   ·obtain ⟨j0, hj0⟩ : ∃ j, 4 * k = j := ⟨_, rfl⟩
    obtain ⟨j1, hj1⟩ : ∃ j, 4 * k + 1 = j := ⟨_, rfl⟩
    obtain ⟨j2, hj2⟩ : ∃ j, 4 * k + 2 = j := ⟨_, rfl⟩
    obtain ⟨j3, hj3⟩ : ∃ j, 4 * k + 3 = j := ⟨_, rfl⟩
    have W0 : IntKind.i64.wrap (4 * (k : Int)) = (j0 : Int) := by rw [← hj0]; exact IntWalk.i64_in _ (by omega)
    have W1 : IntKind.i64.wrap ((j0 : Int) + 1) = (j1 : Int) := by rw [← hj1, ← hj0]; exact IntWalk.i64_in _ (by omega)
    have W2 : IntKind.i64.wrap ((j0 : Int) + 2) = (j2 : Int) := by rw [← hj2, ← hj0]; exact IntWalk.i64_in _ (by omega)
    have W3 : IntKind.i64.wrap ((j0 : Int) + 3) = (j3 : Int) := by rw [← hj3, ← hj0]; exact IntWalk.i64_in _ (by omega)
    have l0 : (j0 : Int) < 64 := by omega
    have l1 : (j1 : Int) < 64 := by omega
    have l2 : (j2 : Int) < 64 := by omega
    have l3 : (j3 : Int) < 64 := by omega
    have b0 := byteI_cell HB.out j0 (by have := HL.out; omega);have b1 := byteI_cell HB.out j1 (by have := HL.out; omega);have b2 := byteI_cell HB.out j2 (by have := HL.out; omega);have b3 := byteI_cell HB.out j3 (by have := HL.out; omega);have HJ := Hh (And.intro hj0 (And.intro hj1 (And.intro hj2 hj3)));clear hj0 hj1 hj2 hj3;have HHr := Hh (HH.out.below hbw (Nat.le_refl _));have hWd := hW.drew;go_upto_region 7 with fail
    refine wp_region_ways 35 (fun wx => wx.cell? ⟨b, off + j0, none⟩ = some (.int .u8 (byteI bs j0)) ∧ wx.cell? ⟨b, off + j1, none⟩ = some (.int .u8 (byteI bs j1)) ∧ wx.cell? ⟨b, off + j2, none⟩ = some (.int .u8 (byteI bs j2)) ∧ wx.cell? ⟨b, off + j3, none⟩ = some (.int .u8 (byteI bs j3))) (by kernel_rfl) (⟨HHr.out.drew.cell b0, HHr.out.drew.cell b1, HHr.out.drew.cell b2, HHr.out.drew.cell b3⟩) (fun hHeld => ?_)
    refine Tk 0 rfl hHeld ?_
    refine Tk 1 rfl hHeld ?_
    refine Tk 2 rfl hHeld ?_
    refine Tk 3 rfl hHeld ?_
    refine Tk 4 rfl hHeld ?_
    refine Tk 5 rfl hHeld ?_
    refine Tk 6 rfl hHeld ?_
    refine Tk 7 rfl hHeld ?_
    refine Tk 8 rfl hHeld ?_
    refine Tk 9 rfl hHeld ?_
    refine Tk 10 rfl hHeld ?_
    refine Tk 11 rfl hHeld ?_
    refine Tk 12 rfl hHeld ?_
    refine Tk 13 rfl hHeld ?_
    refine Tk 14 rfl hHeld ?_
    refine Tk 15 rfl hHeld ?_
    refine Tk 16 rfl hHeld ?_
    refine Tk 17 rfl hHeld ?_
    refine Tk 18 rfl hHeld ?_
    refine Tk 19 rfl hHeld ?_
    refine Tk 20 rfl hHeld ?_
    refine Tk 21 rfl hHeld ?_
    refine Tk 22 rfl hHeld ?_
    refine Tk 23 rfl hHeld ?_
    refine Tk 24 rfl hHeld ?_
    refine Tk 25 rfl hHeld ?_
    refine Tk 26 rfl hHeld ?_
    refine Tk 27 rfl hHeld ?_
    refine Tk 28 rfl hHeld ?_
    refine Tk 29 rfl hHeld ?_
    refine Tk 30 rfl hHeld ?_
    refine Tk 31 rfl hHeld ?_
    refine Tk 32 rfl hHeld ?_
    refine Tk 33 rfl hHeld ?_
    refine Tk 34 rfl hHeld ?_
    refine To 35 rfl fun K hK => ?_
    rw [if_pos (by rfl)]
    refine wp_store_cell _ _ _ rfl wq.heap.size k (.int .u32 (wordP (byteI bs j0) (byteI bs j1) (byteI bs j2) (byteI bs j3))) rfl rfl _ _ hWd size_u32 (by rw [rowV_size, schedP_len]; omega) rfl fun w9 hW9 hg9 => ?_
    refine hK.out _ _ (fun h => absurd rfl h) (fun _ => ?_)
    clear hK K
    try simp only [Act.put, zz1, zz2, zz3, zz4, zz5, zz6]
    refine Ways.done (by kernel_rfl) ?_
    clear hHeld;have hbn : Below wq.heap.size wq w9 := hbw.drew.grown hg9 hbw.size (by rintro q ⟨⟩; exact Nat.le_refl _)
    have hWn : Blk w9 wq.heap.size 63 (rowV (schedP bs (k + 1))) := by
     obtain ⟨rfl, rfl, rfl, rfl⟩ := HJ.out;rw [schedP_lo _ _ (by omega)] at hW9
     exact hW9
    clear hW9 hg9 hWd;go_wp2_with fail
    go_roundw
    case rel => exact ⟨k + 1, by go_num, by omega, hWn, hbn⟩
    case measure => simp [intOf]; omega
   ·have hk16 : 16 ≤ k := by omega
    obtain ⟨a15, ha15⟩ : ∃ j, k - 15 = j := ⟨_, rfl⟩
    obtain ⟨a2, ha2⟩ : ∃ j, k - 2 = j := ⟨_, rfl⟩
    obtain ⟨a7, ha7⟩ : ∃ j, k - 7 = j := ⟨_, rfl⟩
    obtain ⟨a16, ha16⟩ : ∃ j, k - 16 = j := ⟨_, rfl⟩
    have W15 : IntKind.i64.wrap ((k : Int) - 15) = (a15 : Int) := by rw [← ha15, show ((k - 15 : Nat) : Int) = (k : Int) - 15 by omega]; exact IntWalk.i64_in _ (by omega)
    have W2 : IntKind.i64.wrap ((k : Int) - 2) = (a2 : Int) := by rw [← ha2, show ((k - 2 : Nat) : Int) = (k : Int) - 2 by omega]; exact IntWalk.i64_in _ (by omega)
    have W7 : IntKind.i64.wrap ((k : Int) - 7) = (a7 : Int) := by rw [← ha7, show ((k - 7 : Nat) : Int) = (k : Int) - 7 by omega]; exact IntWalk.i64_in _ (by omega)
    have W16 : IntKind.i64.wrap ((k : Int) - 16) = (a16 : Int) := by rw [← ha16, show ((k - 16 : Nat) : Int) = (k : Int) - 16 by omega]; exact IntWalk.i64_in _ (by omega)
    have l15 : (a15 : Int) < 64 := by omega
    have l2 : (a2 : Int) < 64 := by omega
    have l7 : (a7 : Int) < 64 := by omega
    have l16 : (a16 : Int) < 64 := by omega
    have hWd := hW.drew;have b15 := hWd.cell a15 (rowV_get _ _ (by rw [schedP_len]; omega));have b2 := hWd.cell a2 (rowV_get _ _ (by rw [schedP_len]; omega));have b7 := hWd.cell a7 (rowV_get _ _ (by rw [schedP_len]; omega));have b16 := hWd.cell a16 (rowV_get _ _ (by rw [schedP_len]; omega));have HJ := Hh (And.intro ha15 (And.intro ha2 (And.intro ha7 ha16)));obtain ⟨x15, hx15⟩ : ∃ x, getW (schedP bs k) a15 = x := ⟨_, rfl⟩
    obtain ⟨x2, hx2⟩ : ∃ x, getW (schedP bs k) a2 = x := ⟨_, rfl⟩
    obtain ⟨x7, hx7⟩ : ∃ x, getW (schedP bs k) a7 = x := ⟨_, rfl⟩
    obtain ⟨x16, hx16⟩ : ∃ x, getW (schedP bs k) a16 = x := ⟨_, rfl⟩
    rw [hx15] at b15;rw [hx2] at b2;rw [hx7] at b7;rw [hx16] at b16;have HX := Hh (And.intro hx15 (And.intro hx2 (And.intro hx7 hx16)));clear ha15 ha2 ha7 ha16 hx15 hx2 hx7 hx16;go_upto_region 8 with fail
    refine wp_region_ways 10 (fun wx => wx.cell? ⟨wq.heap.size, a15, none⟩ = some (.int .u32 x15) ∧ wx.cell? ⟨wq.heap.size, a2, none⟩ = some (.int .u32 x2)) (by kernel_rfl) (⟨b15, b2⟩) (fun hHeld => ?_)
    refine TkS 0 rfl hHeld ?_
    refine TkS 1 rfl hHeld ?_
    refine TkS 2 rfl hHeld ?_
    refine TkS 3 rfl hHeld ?_
    refine TkS 4 rfl hHeld ?_
    refine TkS 5 rfl hHeld ?_
    refine TkS 6 rfl hHeld ?_
    refine TkS 7 rfl hHeld ?_
    refine TkS 8 rfl hHeld ?_
    refine TkS 9 rfl hHeld ?_
    refine Ways.done (by kernel_rfl) ?_
    clear hHeld;go_upto_region 9 with fail
    refine wp_region_ways 29 (fun wx => wx.cell? ⟨wq.heap.size, a7, none⟩ = some (.int .u32 x7) ∧ wx.cell? ⟨wq.heap.size, a16, none⟩ = some (.int .u32 x16)) (by kernel_rfl) (⟨b7, b16⟩) (fun hHeld => ?_)
    refine Tk 0 rfl hHeld ?_
    refine Tk 1 rfl hHeld ?_
    refine Tk 3 rfl hHeld ?_
    refine Tk 6 rfl hHeld ?_
    refine Tk 7 rfl hHeld ?_
    refine Tk 9 rfl hHeld ?_
    refine Tk 10 rfl hHeld ?_
    refine Tk 11 rfl hHeld ?_
    refine Tk 12 rfl hHeld ?_
    refine Tk 14 rfl hHeld ?_
    refine Tk 16 rfl hHeld ?_
    refine Tk 19 rfl hHeld ?_
    refine Tk 20 rfl hHeld ?_
    refine Tk 23 rfl hHeld ?_
    refine Tk 24 rfl hHeld ?_
    refine Tk 25 rfl hHeld ?_
    refine Tk 26 rfl hHeld ?_
    refine To 2 rfl fun K hK => ?_
    go_simp
    refine (ref_rot17 _ _).mono ?_
    rintro e w5 ⟨rfl, rfl⟩
    clear hHeld
    refine hK.out _ _ (fun _ => ?_) (fun hHeld => ?_)
    ·exact ⟨b7, b16⟩
    clear hK K;replace hHeld := hHeld (by decide)
    try simp only [Act.put, zz1, zz2, zz3, zz4, zz5, zz6]
    refine To 4 rfl fun K hK => ?_
    go_simp
    refine (ref_rot19 _ _).mono ?_
    rintro e w5 ⟨rfl, rfl⟩
    clear hHeld
    refine hK.out _ _ (fun _ => ?_) (fun hHeld => ?_)
    ·exact ⟨b7, b16⟩
    clear hK K;replace hHeld := hHeld (by decide)
    try simp only [Act.put, zz1, zz2, zz3, zz4, zz5, zz6]
    refine Tk 5 rfl hHeld ?_
    refine Tk 8 rfl hHeld ?_
    refine Tk 13 rfl hHeld ?_
    refine To 15 rfl fun K hK => ?_
    go_simp
    refine (ref_rot7 _ _).mono ?_
    rintro e w5 ⟨rfl, rfl⟩
    clear hHeld
    refine hK.out _ _ (fun _ => ?_) (fun hHeld => ?_)
    ·exact ⟨b7, b16⟩
    clear hK K;replace hHeld := hHeld (by decide)
    try simp only [Act.put, zz1, zz2, zz3, zz4, zz5, zz6]
    refine To 17 rfl fun K hK => ?_
    go_simp
    refine (ref_rot18 _ _).mono ?_
    rintro e w5 ⟨rfl, rfl⟩
    clear hHeld
    refine hK.out _ _ (fun _ => ?_) (fun hHeld => ?_)
    ·exact ⟨b7, b16⟩
    clear hK K;replace hHeld := hHeld (by decide)
    try simp only [Act.put, zz1, zz2, zz3, zz4, zz5, zz6]
    refine Tk 18 rfl hHeld ?_
    refine Tk 21 rfl hHeld ?_
    refine Tk 22 rfl hHeld ?_
    refine Tk 27 rfl hHeld ?_
    refine Tk 28 rfl hHeld ?_
    refine To 29 rfl fun K hK => ?_
    rw [if_pos (by rfl)]
    refine wp_store_cell _ _ _ rfl wq.heap.size k (.int .u32 (mixP x15 x2 x7 x16)) rfl rfl _ _ hWd size_u32 (by rw [rowV_size, schedP_len]; omega) rfl fun w9 hW9 hg9 => ?_
    refine hK.out _ _ (fun h => absurd rfl h) (fun _ => ?_)
    clear hK K
    try simp only [Act.put, zz1, zz2, zz3, zz4, zz5, zz6]
    refine Ways.done (by kernel_rfl) ?_
    clear hHeld;have hbn : Below wq.heap.size wq w9 := hbw.drew.drew.grown hg9 hbw.size (by rintro q ⟨⟩; exact Nat.le_refl _)
    have hWn : Blk w9 wq.heap.size 63 (rowV (schedP bs (k + 1))) := by
     obtain ⟨rfl, rfl, rfl, rfl⟩ := HJ.out;obtain ⟨rfl, rfl, rfl, rfl⟩ := HX.out;rw [schedP_hi _ _ (by omega)] at hW9
     exact hW9
    clear hW9 hg9 hWd;go_wp2_with fail
    go_roundw
    case rel => exact ⟨k + 1, by go_num, by omega, hWn, hbn⟩
    case measure => simp [intOf]; omega
  ·obtain rfl : k = 64 := by omega
   rw [show ((64 : Nat) : Int) = 64 from rfl] at hlt ⊢;have hhr := hh.below hbw;have hKr := hKb.below hbw;have d0 : wr.cell? ⟨hg, 0, none⟩ = some (.int .u32 h0.a) := hhr.cell 0 rfl;have d1 : wr.cell? ⟨hg, 1, none⟩ = some (.int .u32 h0.b) := hhr.cell 1 rfl;have d2 : wr.cell? ⟨hg, 2, none⟩ = some (.int .u32 h0.c) := hhr.cell 2 rfl;have d3 : wr.cell? ⟨hg, 3, none⟩ = some (.int .u32 h0.d) := hhr.cell 3 rfl;have d4 : wr.cell? ⟨hg, 4, none⟩ = some (.int .u32 h0.e) := hhr.cell 4 rfl;have d5 : wr.cell? ⟨hg, 5, none⟩ = some (.int .u32 h0.f) := hhr.cell 5 rfl;have d6 : wr.cell? ⟨hg, 6, none⟩ = some (.int .u32 h0.g) := hhr.cell 6 rfl;have d7 : wr.cell? ⟨hg, 7, none⟩ = some (.int .u32 h0.h) := hhr.cell 7 rfl;have HZ := Hh hbw.size;have HGW : Hid (hg < wq.heap.size ∧ kg < wq.heap.size) := ⟨hh.lt, hKb.lt⟩
   obtain ⟨G, hG⟩ : ∃ G, wr.heap.size = G := ⟨_, rfl⟩
   have HN2 := Hh (Blk.new wr 64 h0.cells);rw [hG] at HN2;have hW2 := hW.alloc (.cells h0.cells 64);have hb2 := hbw.alloc hbw.size (.cells h0.cells 64);have HG := Hh hG;have HGS : Hid (wq.heap.size < G) := by have := hW.lt; rw [Hid]; omega
   clear HN hlt hk64 hhr hG;go_wp2_with fail
   rw [HG.out];go_loopw [97] (fun v97 wx => ∃ k : Nat, v97 = .int .i64 (k : Int) ∧ k ≤ 64 ∧ Blk wx G 64 (roundsP constK32 (schedP bs 64) h0 k).cells ∧ Blk wx wq.heap.size 63 (rowV (schedP bs 64)) ∧ Below wq.heap.size wq wx) (fun v97 _ => (64 - intOf v97).toNat)
   case atStart => exact ⟨0, rfl, by omega, HN2.out, hW2, hb2⟩
   case round =>
    clear hW2 hb2 HN2 d0 d1 d2 d3 d4 d5 d6 d7 hW hKr;obtain ⟨k, rfl, hk64, hS, hWx, hbx⟩ := hrel
    by_cases hlt : (k : Int) < 64
    ·obtain ⟨s, hs⟩ : ∃ s, roundsP constK32 (schedP bs 64) h0 k = s := ⟨_, rfl⟩
     rw [hs] at hS;have HSE := Hh hs;clear hs;have c0 : wr.cell? ⟨G, 0, none⟩ = some (.int .u32 s.a) := hS.cell 0 rfl;have c1 : wr.cell? ⟨G, 1, none⟩ = some (.int .u32 s.b) := hS.cell 1 rfl;have c2 : wr.cell? ⟨G, 2, none⟩ = some (.int .u32 s.c) := hS.cell 2 rfl;have c3 : wr.cell? ⟨G, 3, none⟩ = some (.int .u32 s.d) := hS.cell 3 rfl;have c4 : wr.cell? ⟨G, 4, none⟩ = some (.int .u32 s.e) := hS.cell 4 rfl;have c5 : wr.cell? ⟨G, 5, none⟩ = some (.int .u32 s.f) := hS.cell 5 rfl;have c6 : wr.cell? ⟨G, 6, none⟩ = some (.int .u32 s.g) := hS.cell 6 rfl;have c7 : wr.cell? ⟨G, 7, none⟩ = some (.int .u32 s.h) := hS.cell 7 rfl;have ck := (hKb.below hbx).cell k (rowW_get _ _ (by have := H64.out; omega));have cw := hWx.cell k (rowV_get _ _ (by rw [schedP_len]; omega));have h80 : (k : Int) < 80 := by omega
     obtain ⟨xk, hxk⟩ : ∃ x, getW constKI k = x := ⟨_, rfl⟩
     obtain ⟨xw, hxw⟩ : ∃ x, getW (schedP bs 64) k = x := ⟨_, rfl⟩
     rw [hxk] at ck;rw [hxw] at cw;have HX := Hh (And.intro hxk hxw);clear hxk hxw;go_upto_region 15 with fail
     refine wp_region_ways 6 (fun wx => wx.cell? ⟨G, 0, none⟩ = some (.int .u32 s.a) ∧ wx.cell? ⟨G, 4, none⟩ = some (.int .u32 s.e)) (by kernel_rfl) (⟨c0, c4⟩) (fun hHeld => ?_)
     refine TkS 0 rfl hHeld ?_
     refine TkS 1 rfl hHeld ?_
     refine TkS 2 rfl hHeld ?_
     refine TkS 3 rfl hHeld ?_
     refine TkS 4 rfl hHeld ?_
     refine TkS 5 rfl hHeld ?_
     refine Ways.done (by kernel_rfl) ?_
     clear hHeld;go_upto_region 16 with fail
     refine wp_region_ways 33 (fun wx => wx.cell? ⟨G, 7, none⟩ = some (.int .u32 s.h) ∧ wx.cell? ⟨G, 5, none⟩ = some (.int .u32 s.f) ∧ wx.cell? ⟨G, 6, none⟩ = some (.int .u32 s.g) ∧ wx.cell? ⟨kg, k, none⟩ = some (.int .u64 xk) ∧ wx.cell? ⟨wq.heap.size, k, none⟩ = some (.int .u32 xw)) (by kernel_rfl) (⟨c7, c5, c6, ck, cw⟩) (fun hHeld => ?_)
     refine TkS 0 rfl hHeld ?_
     refine TkS 1 rfl hHeld ?_
     refine TkS 2 rfl hHeld ?_
     refine TkS 4 rfl hHeld ?_
     refine TkS 7 rfl hHeld ?_
     refine TkS 11 rfl hHeld ?_
     refine TkS 12 rfl hHeld ?_
     refine TkS 13 rfl hHeld ?_
     refine TkS 14 rfl hHeld ?_
     refine TkS 15 rfl hHeld ?_
     refine TkS 16 rfl hHeld ?_
     refine TkS 17 rfl hHeld ?_
     refine TkS 18 rfl hHeld ?_
     refine TkS 19 rfl hHeld ?_
     refine TkS 20 rfl hHeld ?_
     refine TkS 22 rfl hHeld ?_
     refine TkS 23 rfl hHeld ?_
     refine TkS 24 rfl hHeld ?_
     refine TkS 25 rfl hHeld ?_
     refine TkS 26 rfl hHeld ?_
     refine TkS 28 rfl hHeld ?_
     refine TkS 29 rfl hHeld ?_
     refine TkS 30 rfl hHeld ?_
     refine To 3 rfl fun K hK => ?_
     go_simp
     refine (ref_rot6 _ _).mono ?_
     rintro e w5 ⟨rfl, rfl⟩
     clear hHeld
     refine hK.out _ _ (fun _ => ?_) (fun hHeld => ?_)
     ·exact ⟨c7, c5, c6, ck, cw⟩
     clear hK K;replace hHeld := hHeld (by decide)
     try simp only [Act.put, zz1, zz2, zz3, zz4, zz5, zz6]
     refine To 5 rfl fun K hK => ?_
     go_simp
     refine (ref_rot11 _ _).mono ?_
     rintro e w5 ⟨rfl, rfl⟩
     clear hHeld
     refine hK.out _ _ (fun _ => ?_) (fun hHeld => ?_)
     ·exact ⟨c7, c5, c6, ck, cw⟩
     clear hK K;replace hHeld := hHeld (by decide)
     try simp only [Act.put, zz1, zz2, zz3, zz4, zz5, zz6]
     refine TkS 6 rfl hHeld ?_
     refine To 8 rfl fun K hK => ?_
     go_simp
     refine (ref_rot25 _ _).mono ?_
     rintro e w5 ⟨rfl, rfl⟩
     clear hHeld
     refine hK.out _ _ (fun _ => ?_) (fun hHeld => ?_)
     ·exact ⟨c7, c5, c6, ck, cw⟩
     clear hK K;replace hHeld := hHeld (by decide)
     try simp only [Act.put, zz1, zz2, zz3, zz4, zz5, zz6]
     refine TkS 9 rfl hHeld ?_
     refine TkS 10 rfl hHeld ?_
     refine TkS 21 rfl hHeld ?_
     refine TkS 27 rfl hHeld ?_
     refine TkS 31 rfl hHeld ?_
     refine TkS 32 rfl hHeld ?_
     refine Ways.done (by kernel_rfl) ?_
     clear hHeld;obtain ⟨xu, hxu⟩ : ∃ x, IntKind.u32.wrap (xk / 4294967296) = x := ⟨_, rfl⟩
     rw [hxu];have HXU := Hh hxu;clear hxu;go_upto_region 17 with fail
     refine wp_region_ways 25 (fun wx => wx.cell? ⟨G, 1, none⟩ = some (.int .u32 s.b) ∧ wx.cell? ⟨G, 2, none⟩ = some (.int .u32 s.c)) (by kernel_rfl) (⟨c1, c2⟩) (fun hHeld => ?_)
     refine TkS 0 rfl hHeld ?_
     refine TkS 2 rfl hHeld ?_
     refine TkS 5 rfl hHeld ?_
     refine TkS 8 rfl hHeld ?_
     refine TkS 9 rfl hHeld ?_
     refine TkS 10 rfl hHeld ?_
     refine TkS 11 rfl hHeld ?_
     refine TkS 12 rfl hHeld ?_
     refine TkS 13 rfl hHeld ?_
     refine TkS 14 rfl hHeld ?_
     refine TkS 15 rfl hHeld ?_
     refine TkS 16 rfl hHeld ?_
     refine TkS 17 rfl hHeld ?_
     refine TkS 18 rfl hHeld ?_
     refine TkS 19 rfl hHeld ?_
     refine TkS 20 rfl hHeld ?_
     refine TkS 21 rfl hHeld ?_
     refine TkS 22 rfl hHeld ?_
     refine To 1 rfl fun K hK => ?_
     go_simp
     refine (ref_rot2 _ _).mono ?_
     rintro e w5 ⟨rfl, rfl⟩
     clear hHeld
     refine hK.out _ _ (fun _ => ?_) (fun hHeld => ?_)
     ·exact ⟨c1, c2⟩
     clear hK K;replace hHeld := hHeld (by decide)
     try simp only [Act.put, zz1, zz2, zz3, zz4, zz5, zz6]
     refine To 3 rfl fun K hK => ?_
     go_simp
     refine (ref_rot13 _ _).mono ?_
     rintro e w5 ⟨rfl, rfl⟩
     clear hHeld
     refine hK.out _ _ (fun _ => ?_) (fun hHeld => ?_)
     ·exact ⟨c1, c2⟩
     clear hK K;replace hHeld := hHeld (by decide)
     try simp only [Act.put, zz1, zz2, zz3, zz4, zz5, zz6]
     refine TkS 4 rfl hHeld ?_
     refine To 6 rfl fun K hK => ?_
     go_simp
     refine (ref_rot22 _ _).mono ?_
     rintro e w5 ⟨rfl, rfl⟩
     clear hHeld
     refine hK.out _ _ (fun _ => ?_) (fun hHeld => ?_)
     ·exact ⟨c1, c2⟩
     clear hK K;replace hHeld := hHeld (by decide)
     try simp only [Act.put, zz1, zz2, zz3, zz4, zz5, zz6]
     refine TkS 7 rfl hHeld ?_
     refine TkS 23 rfl hHeld ?_
     refine TkS 24 rfl hHeld ?_
     refine Ways.done (by kernel_rfl) ?_
     clear hHeld;go_wp2_with (with_reducible refine stop_store ?_)
     refine wpList_store_item rfl _ _ _ rfl rfl G (roundP s xu xw).cells rfl rfl _ _ hS size_w8 rfl (S8.one _) fun w9 hS9 hg9 => ?_
     have hS10 : Blk w9 G 64 (roundsP constK32 (schedP bs 64) h0 (k + 1)).cells := by
      rw [roundsP, HSE.out, constK32_get _ (by omega), upperP, HX.out.1, HX.out.2, HXU.out]
      exact hS9
     have hGs : wq.heap.size < G := HGS.out;have hW10 := hWx.drew.drew.drew.grown hg9 (by intro hc; injection hc; omega);have hb10 := hbx.drew.drew.drew.grown hg9 hbx.size (by rintro q ⟨⟩; omega);clear hS9 hg9 hS hWx c0 c1 c2 c3 c4 c5 c6 c7 ck cw hbx hGs;go_wp2_with fail
     go_roundw
     case rel => exact ⟨k + 1, by go_num, by omega, hS10, hW10, hb10⟩
     case measure => simp [intOf]; omega
    ·obtain rfl : k = 64 := by omega
     rw [show ((64 : Nat) : Int) = 64 from rfl] at hlt ⊢;obtain ⟨s, hs⟩ : ∃ s, roundsP constK32 (schedP bs 64) h0 64 = s := ⟨_, rfl⟩
     rw [hs] at hS;have HSE := Hh hs;have hh2 := hh.below hbx;have hGs : wq.heap.size < G := HGS.out;have hgh : hg < wq.heap.size := HGW.out.1;clear hs hlt hk64 hKb hWx;go_wp2_with fail
     go_loopw [179] (fun v179 wx => ∃ k : Nat, v179 = .int .i64 (k : Int) ∧ k ≤ 8 ∧ Blk wx hg 64 (rowV (addP h0.list s.list k)) ∧ Blk wx G 64 (rowV s.list) ∧ wq.grownBy wx (some hg)) (fun v179 _ => (8 - intOf v179).toNat)
     case atStart => exact ⟨0, rfl, by omega, hh2, hS, grown_of_below hbx _⟩
     case round =>
      clear hh2 hS hbx;obtain ⟨k, rfl, hk8, hhx, hSx, hgx⟩ := hrel
      by_cases hlt : (k : Int) < 8
      ·have ch := hhx.drew.cell k (rowV_get _ _ (by rw [addP_len]; simp [S8.list]; omega));have cs := hSx.drew.cell k (rowV_get _ _ (by simp [S8.list]; omega));obtain ⟨xh, hxh⟩ : ∃ x, getW (addP h0.list s.list k) k = x := ⟨_, rfl⟩
       obtain ⟨xs, hxs⟩ : ∃ x, getW s.list k = x := ⟨_, rfl⟩
       rw [hxh] at ch;rw [hxs] at cs;have HX := Hh (And.intro hxh hxs);clear hxh hxs;go_upto_region 23 with fail
       refine wp_region_ways 8 (fun wx => wx.cell? ⟨hg, k, none⟩ = some (.int .u32 xh) ∧ wx.cell? ⟨G, k, none⟩ = some (.int .u32 xs)) (by kernel_rfl) (⟨ch, cs⟩) (fun hHeld => ?_)
       refine Tk 0 rfl hHeld ?_
       refine Tk 1 rfl hHeld ?_
       refine Tk 2 rfl hHeld ?_
       refine Tk 3 rfl hHeld ?_
       refine Tk 4 rfl hHeld ?_
       refine Tk 5 rfl hHeld ?_
       refine Tk 6 rfl hHeld ?_
       refine Tk 7 rfl hHeld ?_
       refine To 8 rfl fun K hK => ?_
       rw [if_pos (by rfl)]
       refine wp_store_cell _ _ _ rfl hg k (.int .u32 (IntKind.u32.wrap (xh + xs))) rfl rfl _ _ hhx.drew size_u32 (by rw [rowV_size, addP_len]; simp [S8.list]; omega) rfl fun w9 hh9 hg9 => ?_
       refine hK.out _ _ (fun h => absurd rfl h) (fun _ => ?_)
       clear hK K
       try simp only [Act.put, zz1, zz2, zz3, zz4, zz5, zz6]
       refine Ways.done (by kernel_rfl) ?_
       clear hHeld
       have hh10 : Blk w9 hg 64 (rowV (addP h0.list s.list (k + 1))) := by
        obtain ⟨rfl, rfl⟩ := HX.out;rw [rowV_set] at hh9
        exact hh9
       have hS10 := hSx.drew.grown hg9 (by intro hc; injection hc; omega);have hg10 := grown_step (grown_drew hgx) hg9 (.inl rfl);clear hh9 hg9 ch cs hhx hSx hgx;go_wp2_with fail
       go_roundw
       case rel => exact ⟨k + 1, by go_num, by omega, hh10, hS10, hg10⟩
       case measure => simp [intOf]; omega
      ·obtain rfl : k = 8 := by omega
       rw [show ((8 : Nat) : Int) = 8 from rfl] at hlt ⊢;have hE : rowV (addP h0.list s.list 8) = (blockP constK32 h0 bs).cells := by rw [blockP, HSE.out]; rfl
       rw [hE] at hhx;clear hE;have hRx := (hR.below (Below.refl _ _)).grown hgx (by intro hc; injection hc; omega);have l0 := hhx.cell 0 rfl;have l1 := hhx.cell 1 rfl;have l2 := hhx.cell 2 rfl;have l3 := hhx.cell 3 rfl;have l4 := hhx.cell 4 rfl;have l5 := hhx.cell 5 rfl;have l6 := hhx.cell 6 rfl;have l7 := hhx.cell 7 rfl;go_wp2_with (with_reducible refine stop_store ?_)
       refine wpList_store_item rfl _ _ _ rfl rfl (hg + 1) (blockP constK32 h0 bs).cells rfl rfl _ _ hRx size_w8 rfl (S8.one _) fun wz hRz hgz => ?_
       clear l0 l1 l2 l3 l4 l5 l6 l7
       have hbz : Below w.heap.size w wz := by
        have e1 := HBQ.out;have e2 := HKG.out.2
        exact (e1.grown hgx e1.size (by rintro q ⟨⟩; omega)).grown hgz (Nat.le_trans e1.size hgx.size) (by rintro q ⟨⟩; omega)
       go_wp2_with fail
       refine ret_row rfl rfl hRz rfl rfl size_w8 rfl ?_
       exact ⟨rfl, hbz⟩
end Go.Proofs.YtmacemcajlgddaaGreatDoor
