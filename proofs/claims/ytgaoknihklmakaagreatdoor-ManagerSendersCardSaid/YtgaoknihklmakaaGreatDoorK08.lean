/- squeezed. Walks: the references' Copy, List, -/
import Derived.Test.YtgaoknihklmakaaGreatDoorK05
import Derived.Test.YtgaoknihklmakaaGreatDoorK00
import Derived.Test.YtgaoknihklmakaaGreatDoorK06
import Derived.Test.YtgaoknihklmakaaGreatDoorK07
import Derived.Test.YtgaoknihklmakaaGreatDoorK03
import Derived.Test.YtgaoknihklmakaaGreatDoorK02
set_option linter.unusedVariables false
set_option linter.unusedSimpArgs false
set_option maxRecDepth 100000
set_option maxHeartbeats 6400000
namespace Go.Proofs.YtgaoknihklmakaaGreatDoor
open Go.RowKit
theorem IsItem.build {H : Snap} {x : Itm} {ba : Option Addr} {bc : Nat} {ia : Option Addr} {ic : Nat} (hk : -9223372036854775808 ≤ x.kind ∧ x.kind ≤ 9223372036854775807) (hn : x.n < 18446744073709551616) (hb : IsBytes H ba bc x.bytes)
  (h1 : x.items.length ≤ ic) (h2 : ic ≤ 9223372036854775807) (he : 0 < x.items.length → ∃ b off, ia = some ⟨b, off, none⟩ ∧ IsElems H b off x.items) : IsItem H ba bc ia ic x := by
 cases x
 rw [IsItem]
 exact ⟨⟨hk.1, hk.2, hn, h1, h2⟩, hb, he⟩
def CopySaid (x : Itm) : Prop := ∀ (H : Snap) (k n : Int) (ba : Option Addr) (bl bc : Nat) (ia : Option Addr) (il ic : Nat) (w : World), Modest x → ItemA H k n ba bl bc ia il ic x → Holds w H →
 Calls Tryz.prog 57 #[.agg #[.int .i64 k, .int .u64 n, .slice ba bl bc, .slice ia il ic]] w fun e w' => ∃ v, e = .returned v ∧ Gives w H x v w'
theorem copy_step (x : Itm) (ih : ∀ y : Itm, cnt y < cnt x → CopySaid y) : CopySaid x := by
 intro H k n ba bl bc ia il ic w hm hx hH
 obtain ⟨rfl, rfl, rfl, rfl, hxi⟩ := hx.eqs_;have HX := Hh hxi;have HM := Hh hm;have hml := hm.parts;have hB := ((Blk.new w 75 #[.int .i64 x.kind, .int .u64 x.n, .slice ba x.bytes.length bc, .slice ia x.items.length ic]).alloc zeroO).drew;have hT := (Blk.new (w.alloc (itemO x ba bc ia ic)) 75 #[.int .i64 0, .int .u64 0, .slice none 0 0, .slice none 0 0]).drew
 simp only [size_alloc] at hT
 have hb := ((below_box w (itemO x ba bc ia ic)).alloc (by simp) zeroO).drew;have hHx : Holds ((w.alloc (itemO x ba bc ia ic)).alloc zeroO).drew H := ((hH.alloc _).alloc _).drew;have hil : x.items.length ≤ 9223372036854775807 := by omega
 have hbl : x.bytes.length ≤ 1099511627776 := hml.1;clear hx hxi hm hml;go_enter Tryz.func57, Tryz.ntmps57
 go_upto_region 1 with fail
 go_cut [3] (fun s3 wx => ∃ N BA BC H1, s3 = .pointer (some ⟨N, 0, none⟩) ∧ Blk wx N 75 #[.int .i64 x.kind, .int .u64 x.n, .slice BA x.bytes.length BC, .slice none 0 0] ∧ Blk wx w.heap.size 75 #[.int .i64 x.kind, .int .u64 x.n, .slice ba x.bytes.length bc, .slice ia x.items.length ic] ∧
  Blk wx (w.heap.size + 1) 75 #[.int .i64 0, .int .u64 0, .slice none 0 0, .slice none 0 0] ∧ Grows w H wx H1 ∧ IsBytes H1 BA BC x.bytes ∧ H1 N = none ∧ H1 (w.heap.size + 1) = none ∧ w.heap.size + 1 < N)
 case first =>
  refine wp_region_ways 9 (fun w' => w'.cell? ⟨w.heap.size, 0, none⟩ = some (.int .i64 x.kind) ∧ w'.cell? ⟨w.heap.size, 1, none⟩ = some (.int .u64 x.n) ∧ w'.cell? ⟨w.heap.size, 2, none⟩ = some (.slice ba x.bytes.length bc)) (by kernel_rfl) (⟨hB.cell 0 rfl, hB.cell 1 rfl, hB.cell 2 rfl⟩) (fun hHeld => ?_)
  refine Tk 0 rfl hHeld ?_
  refine Tk 1 rfl hHeld ?_
  refine Tk 2 rfl hHeld ?_
  refine Tk 3 rfl hHeld ?_
  refine Tk 4 rfl hHeld ?_
  refine Tk 5 rfl hHeld ?_
  refine Ways.two (i := 6) (j := 8) rfl rfl (by kernel_rfl) (fun K hK => ?_) (fun K hK => ?_)
  ·rw [if_pos (by rfl)]
   refine wp_app_bytes (.const (.slice none 0 0)) (.tmp 12) rfl _ (.slice none 0 0) [] rfl (OwnB.nil _ _) ba _ bc x.bytes rfl rfl (Src.of_row HX.out.bytes.row hHx) (by simpa using hbl) (Nat.le_refl _) fun v' w5 hO hg hat => ?_
   rw [List.nil_append] at hO;have hbq := grown_none (by simpa [Value.ownBlock] using hg);obtain ⟨BA, BC, rfl, _⟩ := hO.form
   try have hne : ∀ q, (Value.slice BA x.bytes.length BC).ownBlock = some q → q ≠ w.heap.size + 1 + 1 := fun q hq e => by have h1 := (hO.lt q hq).1; have h2 := hP.lt; (try simp only [drew_heap, size_alloc] at h1 h2); omega
   have hO2 : ∀ q, (Value.slice BA x.bytes.length BC).ownBlock = some q → w.heap.size + 1 < q := fun q hq => by have h1 := (hO.lt q hq).1; have h2 := hT.lt; (try simp only [drew_heap, size_alloc] at h1 h2); omega
   have hB := hB.below hbq;have hT := hT.below hbq
   try have hP := hP.below hbq
   have hb := hb.trans (hbq.mono hb.size);have hHx := hHx.below hbq (Nat.le_refl _)
   refine Ko hK ?_ fun hHeld => ?_
   ·exact ⟨hB.cell 0 rfl, hB.cell 1 rfl, hB.cell 2 rfl⟩
   clear hK K
   refine Tk 7 rfl hHeld ?_
   refine To 8 rfl fun K hK => ?_
   go_simp
   have hP := below_newBlk hb 75 #[.int .i64 0, .int .u64 0, .slice none 0 0, .slice none 0 0]
   try have hne : ∀ q, (Value.slice BA x.bytes.length BC).ownBlock = some q → q ≠ w5.heap.size := fun q hq e => by have h1 := (hO.lt q hq).2; omega
   have hNN := hT.lt
   try simp only [drew_heap, size_alloc] at hP hNN
   have hB := hB.alloc zeroO;have hT := hT.alloc zeroO
   try have hO := hO.alloc zeroO
   have hHx := hHx.alloc zeroO;have hb := hb.alloc hb.size zeroO
   refine Ko hK ?_ fun hHeld => ?_
   ·exact ⟨hB.cell 0 rfl, hB.cell 1 rfl, hB.cell 2 rfl⟩
   clear hK K
   refine To 9 rfl fun K hK => ?_
   rw [if_pos (by rfl)]
   refine wp_store_item _ _ _ rfl _ _ rfl rfl _ _ hP size_item rfl (one4 _ _ _ _ rfl rfl rfl rfl) fun w6 hP hg6 => ?_
   have hB := hB.gr hg6 (by omega);have hT := hT.gr hg6 (by omega);have hb := hb.grown hg6 hb.size (by rintro q ⟨⟩; omega);have hHx := hHx.grown hg6 (by rintro q ⟨⟩; exact hH.none_of_ge (by omega));have hO := hO.kept hg6 (by cases hv : (Value.slice BA x.bytes.length BC).ownBlock with | none => exact .inl rfl | some q => exact .inr (fun e => by injection e with e; exact hne q hv e))
   refine Kz hK ?_
   clear hK K
   refine Wd ?_
   obtain ⟨H1, hl1, hh1, hf1, hz1, hi1⟩ := hO.snap hHx (fun q hq => hH.none_of_ge (by have := hO2 q (by cases BA <;> simp_all [Value.ownBlock]); omega))
   have hN1 : ∀ q, w.heap.size ≤ q → (∀ q', (Value.slice BA x.bytes.length BC).ownBlock = some q' → q' ≠ q) → H1 q = none := fun q hq hd => by
    cases hq1 : H1 q with
    | none => rfl
    | some o =>
     rcases hf1 q o hq1 with h | h
     ·rw [hH.none_of_ge hq] at h; cases h
     ·exact absurd rfl (hd q (by cases BA <;> simp_all [Value.ownBlock]))
   go_wp2_with fail
   go_meet
   exact ⟨_, _, _, H1, rfl, hP, hB, hT, ⟨hb, hl1, hh1, fun b o hb1 => (hf1 b o hb1).imp id fun h => by have := hO2 b (by cases BA <;> simp_all [Value.ownBlock]); omega⟩, hi1, hN1 _ (by omega) (fun q' hq' => hne q' hq'), hN1 _ (by omega) (fun q' hq' => by have := hO2 q' hq'; omega), by omega⟩
  ·go_simp
   have hP := below_newBlk hb 75 #[.int .i64 0, .int .u64 0, .slice none 0 0, .slice none 0 0]
   try have hne : ∀ q, (Value.slice BA x.bytes.length BC).ownBlock = some q → q ≠ w5.heap.size := fun q hq e => by have h1 := (hO.lt q hq).2; omega
   have hNN := hT.lt
   try simp only [drew_heap, size_alloc] at hP hNN
   have hB := hB.alloc zeroO;have hT := hT.alloc zeroO
   try have hO := hO.alloc zeroO
   have hHx := hHx.alloc zeroO;have hb := hb.alloc hb.size zeroO
   refine Ko hK ?_ fun hHeld => ?_
   ·exact ⟨hB.cell 0 rfl, hB.cell 1 rfl, hB.cell 2 rfl⟩
   clear hK K
   refine To 6 rfl fun K hK => ?_
   rw [if_pos (by rfl)]
   refine wp_app_bytes (.const (.slice none 0 0)) (.tmp 12) rfl _ (.slice none 0 0) [] rfl (OwnB.nil _ _) ba _ bc x.bytes rfl rfl (Src.of_row HX.out.bytes.row hHx) (by simpa using hbl) (Nat.le_refl _) fun v' w5 hO hg hat => ?_
   rw [List.nil_append] at hO;have hbq := grown_none (by simpa [Value.ownBlock] using hg);obtain ⟨BA, BC, rfl, _⟩ := hO.form
   try have hne : ∀ q, (Value.slice BA x.bytes.length BC).ownBlock = some q → q ≠ w.heap.size + 1 + 1 := fun q hq e => by have h1 := (hO.lt q hq).1; have h2 := hP.lt; (try simp only [drew_heap, size_alloc] at h1 h2); omega
   have hO2 : ∀ q, (Value.slice BA x.bytes.length BC).ownBlock = some q → w.heap.size + 1 < q := fun q hq => by have h1 := (hO.lt q hq).1; have h2 := hT.lt; (try simp only [drew_heap, size_alloc] at h1 h2); omega
   have hB := hB.below hbq;have hT := hT.below hbq
   try have hP := hP.below hbq
   have hb := hb.trans (hbq.mono hb.size);have hHx := hHx.below hbq (Nat.le_refl _)
   refine Ko hK ?_ fun hHeld => ?_
   ·exact ⟨hB.cell 0 rfl, hB.cell 1 rfl, hB.cell 2 rfl⟩
   clear hK K
   refine Tk 7 rfl hHeld ?_
   refine To 9 rfl fun K hK => ?_
   rw [if_pos (by rfl)]
   refine wp_store_item _ _ _ rfl _ _ rfl rfl _ _ hP size_item rfl (one4 _ _ _ _ rfl rfl rfl rfl) fun w6 hP hg6 => ?_
   have hB := hB.gr hg6 (by omega);have hT := hT.gr hg6 (by omega);have hb := hb.grown hg6 hb.size (by rintro q ⟨⟩; omega);have hHx := hHx.grown hg6 (by rintro q ⟨⟩; exact hH.none_of_ge (by omega));have hO := hO.kept hg6 (by cases hv : (Value.slice BA x.bytes.length BC).ownBlock with | none => exact .inl rfl | some q => exact .inr (fun e => by injection e with e; exact hne q hv e))
   refine Kz hK ?_
   clear hK K
   refine Wd ?_
   obtain ⟨H1, hl1, hh1, hf1, hz1, hi1⟩ := hO.snap hHx (fun q hq => hH.none_of_ge (by have := hO2 q (by cases BA <;> simp_all [Value.ownBlock]); omega))
   have hN1 : ∀ q, w.heap.size ≤ q → (∀ q', (Value.slice BA x.bytes.length BC).ownBlock = some q' → q' ≠ q) → H1 q = none := fun q hq hd => by
    cases hq1 : H1 q with
    | none => rfl
    | some o =>
     rcases hf1 q o hq1 with h | h
     ·rw [hH.none_of_ge hq] at h; cases h
     ·exact absurd rfl (hd q (by cases BA <;> simp_all [Value.ownBlock]))
   go_wp2_with fail
   go_meet
   exact ⟨_, _, _, H1, rfl, hP, hB, hT, ⟨hb, hl1, hh1, fun b o hb1 => (hf1 b o hb1).imp id fun h => by have := hO2 b (by cases BA <;> simp_all [Value.ownBlock]); omega⟩, hi1, hN1 _ (by omega) (fun q' hq' => hne q' hq'), hN1 _ (by omega) (fun q' hq' => by have := hO2 q' hq'; omega), by omega⟩
 case rest =>
  clear hB hT hb hHx;obtain ⟨N, BA, BC, H1, rfl, hP, hB, hT, hG1, hi1, hn1, hn2, hNN⟩ := hcut;have c3 := hB.cell 3 rfl;have hNl := hP.lt;have hO1 := OwnI.nil wc (N + 1) H1;clear hB;go_wp2_with fail
  go_loopw [4, 18] (fun v4 v18 wr => ∃ (j : Nat) (Hr : Snap) (VA : Option Addr) (vc vn : Nat), j ≤ x.items.length ∧ v18 = .int .i64 j ∧ v4 = .slice VA vn vc ∧ vn = (x.items.take j).length ∧ Grows w H wr Hr ∧ H1.le Hr ∧ OwnI wr (N + 1) (.slice VA vn vc) Hr (x.items.take j) ∧
   Blk wr N 75 #[.int .i64 x.kind, .int .u64 x.n, .slice BA x.bytes.length BC, .slice none 0 0] ∧ Blk wr (w.heap.size + 1) 75 #[.int .i64 0, .int .u64 0, .slice none 0 0, .slice none 0 0] ∧ Hr N = none ∧ Hr (w.heap.size + 1) = none ∧ (∀ q, (Value.slice VA vn vc).ownBlock = some q → Hr q = none)) (fun _ v18 _ => x.items.length - (intOf v18).toNat)
  case atStart => exact ⟨0, H1, _, _, _, Nat.zero_le _, rfl, rfl, rfl, hG1, Snap.le.refl _, hO1, hP, hT, hn1, hn2, by intro q hq; simp [Value.ownBlock] at hq⟩
  case round =>
   clear hP hT hG1 hn1 hn2 hO1;obtain ⟨j, Hr, VA, vc, vn, hj, rfl, rfl, hvn, hGr, hle, hOr, hPr, hTr, hNr, hTn, hnr⟩ := hrel;have HV := Hh hvn;clear hvn
   by_cases hlt : j < x.items.length
   ·obtain ⟨ib, io, hia, hel⟩ := HX.out.items (by omega);obtain ⟨eba, ebc, eia, eic, q0, q1, q2, q3, hex⟩ := hel.get j hlt;subst hia;have p0 := (hGr.holds.mono hGr.le).cell q0;have p1 := (hGr.holds.mono hGr.le).cell q1;have p2 := (hGr.holds.mono hGr.le).cell q2;have p3 := (hGr.holds.mono hGr.le).cell q3;have hG2 := hGr.alloc (itemO x.items[j] eba ebc eia eic);have hO2 := hOr.alloc (itemO x.items[j] eba ebc eia eic);have hP2 := hPr.alloc (itemO x.items[j] eba ebc eia eic);have hT2 := hTr.alloc (itemO x.items[j] eba ebc eia eic);have IH := Hh (ih x.items[j] (cnt_items x j hlt) Hr _ _ eba _ ebc eia _ eic _ (HM.out.parts.2.2.get j hlt) (hex.mono hGr.le).arg hG2.holds);have HT := Hh (show x.items.take (j + 1) = x.items.take j ++ [x.items[j]] from List.take_succ_eq_append_getElem hlt);have hlm := HM.out.parts.2.1
    generalize x.items[j]'hlt = y at *
    clear q0 q1 q2 q3 hel hex hOr;go_wp2_with fail
    refine IH.out.mono ?_
    rintro e w6 ⟨v6, rfl, ja, jb, jc, jd, H6, rfl, hG6, hi6⟩
    have hO6 := ((hO2.below hG6.below).mono hG6.le).alloc (.cells (itemC y ja jb jc jd).toArray 75);have hG7 := (hG2.trans hG6).alloc (.cells (itemC y ja jb jc jd).toArray 75);have hP6 := (hP2.below hG6.below).alloc (.cells (itemC y ja jb jc jd).toArray 75);have hT6 := (hT2.below hG6.below).alloc (.cells (itemC y ja jb jc jd).toArray 75);have hn6 : ∀ q, (Value.slice VA vn vc).ownBlock = some q → H6 q = none := fun q hq => hG6.none (hnr q hq) (hO2.lt q hq).2
    have hN6 := hG6.none hNr hP2.lt;have hTn6 := hG6.none hTn hT2.lt;have hle6 := hle.trans hG6.le;clear p0 p1 p2 p3 IH hGr hPr hTr hG2 hG6 hP2 hT2;go_wp2_with (at_builtin; refine stop_in ?_)
    unfold Stopped
    obtain rfl := HV.out
    refine wpList_app_items rfl (.tmp 22) (.tmp 25) rfl (N + 1) (.slice VA _ vc) H6 _ rfl hO6 _ 1 _ (itemC y ja jb jc jd) [y] rfl rfl (ItemsC.one hi6) (Src.new _ _ _ _ rfl _ rfl) (by rw [List.length_take]; simp; omega) (by have := hP6.lt; simp only [size_alloc] at this ⊢; omega) fun v' w7 hO7 hg7 hat7 => ?_
    obtain ⟨VA', vc', rfl, _⟩ := hO7.form;have hG8 := hG7.grownRow hn6 (fun q hq => by have := (hO6.lt q hq).1; omega) hg7;have hP7 := hP6.grown hg7 (fun e => by have := (hO6.lt N e).1; omega);have hT7 := hT6.grown hg7 (fun e => by have := (hO6.lt _ e).1; omega)
    have hn7 : ∀ q, (Value.slice VA' (x.items.take j ++ [y]).length vc').ownBlock = some q → H6 q = none := fun q hq => by
     rcases hat7 with h | ⟨g', h1, h2⟩
     ·exact hn6 q (by rw [← h, hq])
     ·rw [hq] at h1;injection h1 with h1
      subst h1
      exact hG7.hidden h2
    have hl9 : (x.items.take j ++ [y]).length = j + 1 := by rw [← HT.out, List.length_take]; omega
    rw [hl9] at hO7 hn7;rw [hl9];rw [← HT.out] at hO7;clear hl9;have hj63 : (j : Int) + 1 ≤ 9223372036854775807 := by omega
    clear hO6 hg7 hat7 hn6 hG7 hP6 hT6 hi6;go_wp2_with fail
    go_roundw
    case rel => exact ⟨j + 1, H6, VA', vc', _, by omega, by go_num, rfl, by rw [List.length_take]; omega, hG8, hle6, hO7, hP7, hT7, hN6, hTn6, hn7⟩
    case measure => simp [intOf]; omega
   ·have hkl : j = x.items.length := by omega
    subst hkl;rw [List.take_length] at hOr;have HV2 : Hid (vn = x.items.length) := by have := HV.out; rw [List.take_length] at this; exact this
    clear HV;obtain ⟨H8, hl8, hh8, hf8, hz8, hle1, hle2, hel8⟩ := hOr.snap hGr.holds (fun g hg => hnr g (by cases VA <;> simp_all [Value.ownBlock]));have hlow : ∀ b, VA.map (·.block) = some b → N + 1 ≤ b := fun b hb => (hOr.lt b (by cases VA <;> simp_all [Value.ownBlock])).1
    have hGz : Grows w H wr H8 := ⟨hGr.below, hGr.le.trans hl8, hh8, fun b o hb => by
     rcases hf8 b o hb with h | h
     ·exact hGr.fresh b o h
     ·exact .inr (by have := hlow b h; omega)⟩
    have hkeep : ∀ q, q ≤ N → Hr q = none → H8 q = none := fun q hq h0 => by
     cases h8 : H8 q with
     | none => rfl
     | some o =>
      rcases hf8 q o h8 with h | h
      ·rw [h0] at h; cases h
      ·have := hlow q h; omega
    have hbd := HX.out.bounds;have HI := Hh (IsItem.build (x := x) (H := H8) (ba := BA) (bc := BC) (ia := VA) (ic := vc) ⟨hbd.1, hbd.2.1⟩ hbd.2.2.1 (hi1.mono (hle.trans hl8)) hle1 hle2 hel8);have hNz := hkeep N (Nat.le_refl _) hNr;have hTz := hkeep (w.heap.size + 1) (by omega) hTn;clear hbd hel8 hle1 hle2 hf8 hOr hGr hnr hlow hkeep hNr hTn hz8;go_wp2_with (with_reducible refine stop_store ?_)
    refine wpList_store_cell rfl _ _ _ rfl rfl N 3 (.slice VA vn vc) rfl rfl _ _ hPr size_items (by simp) rfl fun w9 hP9 hg9 => ?_
    have hT9 := hTr.gr hg9 (by omega);have hG9 := hGz.grownOwn hNz (by omega) hg9;have r0 := hP9.cell 0 rfl;have r1 := hP9.cell 1 rfl;have r2 := hP9.cell 2 rfl;have r3 := hP9.cell 3 rfl;clear hPr hTr hGz;go_wp2_with (with_reducible refine stop_store ?_)
    refine stI hT9 fun w10 hT10 hg10 => ?_
    have hG10 := hG9.grownOwn hTz (by omega) hg10;go_wp2_with fail
    refine ret_row rfl rfl hT10 rfl rfl size_item rfl ?_
    obtain rfl := HV2.out
    exact ⟨_, rfl, BA, BC, VA, vc, H8, rfl, hG10, HI.out⟩
theorem ref_Copy (x : Itm) : CopySaid x := by
 have main : ∀ N, ∀ x : Itm, cnt x ≤ N → CopySaid x := by
  intro N
  induction N with
  | zero =>
   intro x hx
   have : 0 < cnt x := by cases x; rw [cnt]; omega
   omega
  | succ N ih =>
   intro x hx
   exact copy_step x fun y hy => ih y (by omega)
 exact main _ x (Nat.le_refl _)
structure IsRowI (H : Snap) (A : Option Addr) (c : Nat) (l : List Itm) : Prop where
 le : l.length ≤ c
 max : c ≤ 9223372036854775807
 elems : 0 < l.length → ∃ b off, A = some ⟨b, off, none⟩ ∧ IsElems H b off l
theorem IsRowI.item {H : Snap} {A : Option Addr} {c : Nat} {l : List Itm} (h : IsRowI H A c l) (k : Int) (hk : 0 ≤ k ∧ k ≤ 8) (n : Nat) (hn : n < 18446744073709551616) : IsItem H none 0 A c (.mk k n [] l) := by
 rw [IsItem]
 exact ⟨⟨by omega, by omega, hn, h.le, h.max⟩, IsBytes.nil _, h.elems⟩
theorem lit_items_own {w wr : World} {H Hr : Snap} (_h : Grows w H wr Hr) {l : List Itm} {cs : List Value} (hc : ItemsC Hr cs l) (hm : l.length ≤ 4096) :
  OwnI (wr.alloc (.cells cs.toArray 75)) wr.heap.size (.slice (some ⟨wr.heap.size, 0, none⟩) l.length l.length) Hr l := OwnI.lit hc _ (Nat.le_refl _) hm
theorem lit_items {w wr : World} {H Hr : Snap} (h : Grows w H wr Hr) {l : List Itm} {cs : List Value} (hc : ItemsC Hr cs l) (hm : l.length ≤ 4096) :
  ∃ H', Grows w H (wr.alloc (.cells cs.toArray 75)) H' ∧ Hr.le H' ∧ IsRowI H' (some ⟨wr.heap.size, 0, none⟩) l.length l := by
 have hO := lit_items_own h hc hm;have hG := h.alloc (.cells cs.toArray 75);obtain ⟨H', hl, hh, hf, hz, h1, h2, h3⟩ := hO.snap hG.holds (fun q hq => by cases hq; exact h.holds.none_of_ge (Nat.le_refl _))
 refine ⟨H', ⟨hG.below, hG.le.trans hl, hh, fun b o hb => ?_⟩, hl, ⟨h1, h2, h3⟩⟩
 rcases hf b o hb with h4 | h4
 ·exact hG.fresh b o h4
 ·simp at h4; exact .inr (by have := h.size; omega)
theorem map_err {p : List UInt8 → Nat → PR} (hp : ∀ b c q, p b c = .err q → q ≠ 0) : ∀ (n : Nat) (b : List UInt8) (c : Nat) (last : Option (List UInt8)) (q : Nat), mapP p n b c last = .err q → q ≠ 0
 | 0, b, c, last, q, h => by rw [mapP] at h; cases h
 | n + 1, b, c, last, q, h => by
  rw [mapP] at h
  split at h
  ·rename_i h1
   injection h with h
   subst h
   exact hp _ _ _ h1
  ·split at h
   ·rename_i h2
    injection h with h
    subst h
    unfold keyP at h2
    repeat' split at h2
    all_goals first | (injection h2 with h2; omega) | cases h2
   ·split at h
    ·rename_i h3
     injection h with h
     subst h
     exact hp _ _ _ h3
    ·split at h
     ·rename_i h4
      injection h with h
      subst h
      exact map_err hp n _ _ _ _ h4
     ·cases h
theorem arr_err {p : List UInt8 → Nat → PR} (hp : ∀ b c q, p b c = .err q → q ≠ 0) : ∀ (n : Nat) (b : List UInt8) (c : Nat) (q : Nat), arrP p n b c = .err q → q ≠ 0
 | 0, b, c, q, h => by rw [arrP] at h; cases h
 | n + 1, b, c, q, h => by
  rw [arrP] at h
  split at h
  ·rename_i h1
   injection h with h
   subst h
   exact hp _ _ _ h1
  ·split at h
   ·rename_i h4
    injection h with h
    subst h
    exact arr_err hp n _ _ _ h4
   ·cases h
theorem parse_err : ∀ (d : Nat) (b : List UInt8) (c q : Nat), parse d b c = .err q → q ≠ 0 := by
 intro d
 induction d with
 | zero =>
  intro b c q h
  rw [parse.eq_def] at h
  simp only at h
  repeat' split at h
  all_goals first
   | (injection h with h; omega)
   | cases h
   | skip
  ·rename_i h1; have := headP_err h1; omega
  ·rename_i h1; have := sevenP_err h1; omega
 | succ d ih =>
  intro b c q h
  rw [parse.eq_def] at h
  simp only at h
  repeat' split at h
  all_goals first
   | (injection h with h; omega)
   | cases h
   | skip
  ·rename_i h1; have := headP_err h1; omega
  ·rename_i h1; have := sevenP_err h1; omega
  ·rename_i h1; exact ih _ _ _ h1
  ·rename_i h1; exact map_err ih _ _ _ _ _ h1
  ·rename_i h1; exact arr_err ih _ _ _ _ h1
section
variable {d : Nat} {w : World} {H : Snap} {g : Nat} {A : Option Addr} {c : Nat} {l : List UInt8} {p cnt lv : Nat}
theorem p_item_6 (ih : PItem d) (hTab : Tabs H) (hlv : lv + (d + 1) = 8) (hP : Psr 107 w g H A c l p cnt) (hc : cnt < 256) {f n k : Nat} (hh : headP (l.drop p) = .ok (f, n, k)) (hk : f / 32 = 6) : Calls Tryz.prog 58 #[.pointer (some ⟨g, 0, none⟩), .int .i64 (lv : Int)] w (ItemOut 107 w H g A c l p (parse (d + 1) (l.drop p) cnt)) := by
 have hgl := hP.gt;have hd0 := (Rdg.refl hP).alloc zeroO;have hT0 := Blk.new w 75 #[.int .i64 0, .int .u64 0, .slice none 0 0, .slice none 0 0];have hn0 : H w.heap.size = none := hP.holds.none_of_ge (Nat.le_refl _);have c2 := hd0.psr.blk.cell 2 rfl;have E0 := Hh (parse_tag d (l.drop p) cnt (by omega) hh hk);have S : (f : Int) / 32 = 6 := by omega
 have hlv1 : ¬ ((8 : Int) ≤ (lv : Int)) := by omega
 have KL : IntKind.i64.wrap ((lv : Int) + 1) = (lv : Int) + 1 := IntWalk.i64_in _ (by omega);have hlvi : (lv : Int) ≤ 8 := by omega
 have hc256 : ((cnt : Int) == 256) = false := by simp; omega
 have hc256' : ((cnt : Int) = 256) = False := eq_false (by omega);have KC : IntKind.i64.wrap ((cnt : Int) + 1) = (cnt : Int) + 1 := IntWalk.i64_in _ (by omega);have HC := Hh hc;clear hc;go_enter Tryz.func58, Tryz.ntmps58
 go_wp2_with (with_reducible refine stop_store ?_)
 refine wpList_store_cell rfl _ _ _ rfl rfl g 2 (.int .i64 ((cnt : Int) + 1)) rfl rfl _ _ hd0.psr.blk size_int1 (by simp) rfl fun w2 hB2 hG2 => ?_
 have hd2 : Rdg 107 w H w2 H g A c l p (cnt + 1) := hd0.step hG2 hB2 hP.le (by have := HC.out; omega);have hT2 := hT0.gr hG2 (by omega);have PH := Hh (p_head hd2.psr);clear hd0 hT0 hB2 hG2 c2 KC hc256 hc256';go_wp2_with fail
 refine PH.out.mono ?_
 intro e w3 hs
 rw [HeadSaid, hh] at hs;obtain ⟨rfl, hB3, hG3⟩ := hs;have HS := headP_spec hh;have hle3 : p + k ≤ l.length := by have := HS.le; rw [List.length_drop] at this; have := hP.le; omega
 have hd3 : Rdg 107 w H w3 H g A c l (p + k) (cnt + 1) := hd2.step hG3 hB3 hle3 (by have := HC.out; omega);have hT3 := hT2.gr hG3 (by omega);have HF := Hh HS;clear hd2 hT2 hB3 hG3 PH HS hh;have IT := ih w3 H g A c l (p + k) (cnt + 1) (lv + 1) hTab (by omega) hd3.psr;rw [show ((lv + 1 : Nat) : Int) = (lv : Int) + 1 by omega] at IT;have ITH := Hh IT;rw [List.drop_drop] at E0;clear IT;go_wp2_with fail
 refine ITH.out.mono ?_
 intro e w4 hs
 cases hp : parse d (l.drop (p + k)) (cnt + 1) with
 | err q =>
  rw [hp, ItemOut] at hs;obtain ⟨rfl, H4, p4, cnt4, hd34⟩ := hs;have hq0 : ((q : Int) != 0) = true := by rw [bne_iff_ne]; have := parse_err _ _ _ _ hp; omega
  have hq0' : ((q : Int) = 0) = False := eq_false (by have := parse_err _ _ _ _ hp; omega);have E : Hid (parse (d + 1) (l.drop p) cnt = .err q) := by rw [Hid, E0.out, hp]
  have hd4 := hd3.trans hd34;have hT4 := hT3.rdg hd34 (by omega);have hn4 := hd34.hid hn0 hT3.lt;have hX := Blk.new w4 75 #[.int .i64 0, .int .u64 0, .slice none 0 0, .slice none 0 0];have hd5 := hd4.alloc zeroO;have hT5 := hT4.alloc zeroO;have hd4h := Hh hd4.psr.holds;have hT4l := Hh hT4.lt;clear hd34 hd3 hT3 ITH hp E0 hd4 hT4;have hge4 : w.heap.size ≤ w4.heap.size := Nat.le_of_lt hT4l.out;have hH5 := (Holds.none_of_ge (w := w4) (H := H4) (hd4h.out) (Nat.le_refl _))
  go_wp2_with (with_reducible refine stop_store ?_)
  refine stI hX fun w6 hX6 hg6 => ?_
  have hd6 := hd5.gb hH5 hge4 hgl hg6;have hT6 := hT5.grown hg6 (by intro e; injection e with e; have := hT4l.out; omega);clear hd5 hT5 hX hg6 hX6;go_wp2_with (with_reducible refine stop_store ?_)
  refine stI hT6 fun wz hTy hgz => ?_
  have hdz := hd6.gb hn4 (Nat.le_refl _) hgl hgz;go_wp2_with fail
  refine ret_row_tmp rfl rfl hTy rfl rfl size_item rfl ?_
  exact ItemOut.err E.out rfl hdz
 | ok x k' c' =>
  rw [hp, ItemOut] at hs;obtain ⟨ja, jb, jc, jd, H4, rfl, hd34, hi4⟩ := hs;have E : Hid (parse (d + 1) (l.drop p) cnt = .ok (.mk 6 n [] [x]) (k + k') c') := by rw [Hid, E0.out, hp]
  have hd4 := hd3.trans hd34;have hT4 := hT3.rdg hd34 (by omega);have hn4 := hd34.hid hn0 hT3.lt;have hX := Blk.new w4 75 #[.int .i64 0, .int .u64 0, .slice none 0 0, .slice none 0 0];have hd5 := hd4.alloc zeroO;have hT5 := hT4.alloc zeroO;have hd4h := Hh hd4.psr.holds;have hT4l := Hh hT4.lt;clear hd34 hd3 hT3 ITH hp E0 hd4 hT4;have hge4 : w.heap.size ≤ w4.heap.size := Nat.le_of_lt hT4l.out;have hH5 := (Holds.none_of_ge (w := w4) (H := H4) (hd4h.out) (Nat.le_refl _))
  go_wp2_with (with_reducible refine stop_store ?_)
  refine stI hX fun w6 hX6 hg6 => ?_
  have hd6 := hd5.gb hH5 hge4 hgl hg6;have hT6 := hT5.grown hg6 (by intro e; injection e with e; have := hT4l.out; omega);have b0 := hX6.cell 0 rfl;have b1 := hX6.cell 1 rfl;have b2 := hX6.cell 2 rfl;have b3 := hX6.cell 3 rfl;obtain ⟨H7, hG7, hl7, hr7⟩ := lit_items (Grows.refl hd6.psr.holds) (ItemsC.one hi4) (by simp);have hd7 := hd6.grown hG7;have hT7 := hT6.alloc (.cells (itemC x ja jb jc jd).toArray 75);have hn7 := hG7.none hn4 hT6.lt;have hnl := Hh HF.out.n_lt;clear hd5 hT5 hX hg6 hX6 hd6 hT6 hG7;go_wp2_with (with_reducible refine stop_store ?_)
  refine stI hT7 fun wz hTy hgz => ?_
  have hdz := hd7.gb hn7 (Nat.le_refl _) hgl hgz;go_wp2_with fail
  refine ret_row_tmp rfl rfl hTy rfl rfl size_item rfl ?_
  exact ItemOut.ok E.out rfl (by rw [← Nat.add_assoc]; exact hdz) (hr7.item 6 (by omega) n hnl.out)
end
def bytesE (b : List UInt8) : Except Nat (List UInt8 × Nat) :=
 match prefixP b with
 | .err e => .error e
 | .ok x k _ => if x.kind ≠ 2 ∨ x.bytes.length < 1 ∨ 64 < x.bytes.length then .error 4 else .ok (x.bytes, k)
def d4 (m : Int) (su : List Int) (gx cn : List UInt8) (b : List UInt8) : Except Nat First :=
 match decExt b with
 | .error e => .error e
 | .ok ext => .ok ⟨m, su, gx, cn, ext⟩
def d3 (m : Int) (su : List Int) (gx : List UInt8) (b : List UInt8) : Except Nat First :=
 match parseConn b with
 | .error e => .error e
 | .ok (c, k4) => d4 m su gx c (b.drop k4)
def d2 (m : Int) (su : List Int) (b : List UInt8) : Except Nat First :=
 match bytesE b with
 | .error e => .error e
 | .ok (gx, k3) => d3 m su gx (b.drop k3)
def d1 (m : Int) (b : List UInt8) : Except Nat First :=
 match prefixP b with
 | .err e => .error e
 | .ok y k2 _ => match suitesE y with
  | .error e => .error e
  | .ok l => d2 m l (b.drop k2)
theorem encB_len (k : Int) (n : Nat) (bs : List UInt8) (l : List Itm) (h8 : k ≠ 8) (h7 : k ≠ 7) : (encB (.mk k n bs l)).length ≤ 9 + bs.length + (encL l).length := by
 rw [encB_eq, if_neg (by simpa [Itm.kind] using h8), if_neg (by simp [Itm.kind, h7])];have := (headB_le k.toNat (numP (.mk k n bs l))).2
 simp only [Itm.kind, Itm.bytes, Itm.items, List.length_append]
 omega
theorem good_str (k : Int) (hk : k = 2 ∨ k = 3) (bs : List UInt8) (lv : Nat) (hv : k = 3 → Lib.validD bs = true) : Good (.mk k 0 bs []) lv := by
 refine Good.of ?_ (by simp only [Itm.items]; rw [GoodL]; trivial) (fun h => by simp only [Itm.kind] at h; omega)
 rw [nodeOk, if_pos (by rw [isPlain_iff]; simp only [Itm.kind]; omega)]
 rcases hk with rfl | rfl
 ·simp [okPlain, Itm.kind, Itm.n, Itm.items]
 ·simp [okPlain, Itm.kind, Itm.n, Itm.items, Itm.bytes, hv rfl]
section
variable {w w' : World} {base : Nat} {H : Snap} {l : List Itm}
theorem OwnI.parts {A : Option Addr} {m c : Nat} (h : OwnI w base (.slice A m c) H l) (k : Nat) : ∃ cs1 cs2, ItemsC H cs1 (l.take k) ∧ ItemsC H cs2 (l.drop k) ∧ Src w A cs1 ∧ (k < l.length → ∃ b off, A = some ⟨b, off, none⟩ ∧ Src w (some ⟨b, off + k * 4, none⟩) cs2) := by
 obtain ⟨cs, hc, ho⟩ := h;have hs := Src.of_own ho;obtain ⟨h1, h2⟩ := hc.split k
 refine ⟨_, _, h1, h2, fun hne => ?_, fun hk => ?_⟩
 ·obtain ⟨b, off, e, hx⟩ := hs (by rintro rfl; simp at hne)
  exact ⟨b, off, e, fun j v hj => hx j v (by rw [List.getElem?_take] at hj; split at hj; exact hj; cases hj)⟩
 ·obtain ⟨b, off, e, hx⟩ := hs (by rintro rfl; have := hc.len; simp at this; omega)
  refine ⟨b, off, e, fun _ => ⟨b, off + k * 4, rfl, fun j v hj => ?_⟩⟩
  rw [List.getElem?_drop] at hj;rw [Nat.add_assoc]
  exact hx _ v hj
theorem OwnI.cells {A : Option Addr} {m c : Nat} (h : OwnI w base (.slice A m c) H l) (k : Nat) (hk : k < l.length) : ∃ b off, A = some ⟨b, off, none⟩ ∧ ∃ ba bc ia ic, w.cell? ⟨b, off + k * 4, none⟩ = some (.int .i64 l[k].kind) ∧ w.cell? ⟨b, off + k * 4 + 1, none⟩ = some (.int .u64 l[k].n) ∧
  w.cell? ⟨b, off + k * 4 + 2, none⟩ = some (.slice ba l[k].bytes.length bc) ∧ w.cell? ⟨b, off + k * 4 + 3, none⟩ = some (.slice ia l[k].items.length ic) ∧ IsItem H ba bc ia ic l[k] := by
 obtain ⟨cs, hc, ho⟩ := h;obtain ⟨b, off, e, hx⟩ := Src.of_own ho (by rintro rfl; have := hc.len; simp at this; omega);obtain ⟨ba, bc, ia, ic, h0, h1, h2, h3, hi⟩ := hc.get k hk
 exact ⟨b, off, e, ba, bc, ia, ic, hx _ _ h0, hx _ _ h1, hx _ _ h2, hx _ _ h3, hi⟩
end
theorem cell_below {w w' : World} {a : Addr} {v : Value} (h : w.cell? a = some v) (hb : Below w.heap.size w w') : w'.cell? a = some v := (hb.cell (World.block_lt_of_cell? w _ h)).trans h
theorem cell_drew {w : World} {a : Addr} {v : Value} (h : w.cell? a = some v) : w.drew.cell? a = some v := h
theorem OwnI.drew {w : World} {base : Nat} {v : Value} {H : Snap} {l : List Itm} (h : OwnI w base v H l) : OwnI w.drew base v H l := h
theorem own_of {A : Option Addr} {m c q : Nat} (h : A.map (·.block) = some q) : (Value.slice A m c).ownBlock = some q := by cases A <;> simp_all [Value.ownBlock]
theorem Src.slicek {w : World} {H : Snap} {A : Option Addr} {cs : List Value} {L : List Itm} {k j vc : Nat} (h : k < L.length → ∃ b off, A = some ⟨b, off, none⟩ ∧ Src w (some ⟨b, off + k * 4, none⟩) cs) (hc : ItemsC H cs (L.drop k)) (hL : L.length = j) (hvc : (j : Int) ≤ vc) :
  Src w (if vc = k then A else Option.map (fun x => x.add (k * 4)) A) cs := by
 by_cases hk : k < L.length
 ·obtain ⟨b, off, rfl, hs⟩ := h hk;rw [if_neg (by omega), Option.map_some, addr_add]
  exact hs
 ·rw [List.drop_eq_nil_of_le (by omega), ItemsC] at hc;subst hc
  exact Src.nil _ _
theorem below_src {B : Nat} {w wr : World} (_h : Below B w wr) (t : TypeId) (cs : Array Value) : Src (wr.alloc (.cells cs t)) (some ⟨wr.heap.size, 0, none⟩) cs.toList := Src.lit _ _ _
theorem encL_put (L : List Itm) (k : Nat) (y z : Itm) : (encL (L.take k ++ [y, z] ++ L.drop k)).length = (encL L).length + (encB y).length + (encB z).length := by
 have h := congrArg List.length (encL_append (L.take k) (L.drop k));rw [List.take_append_drop] at h;rw [encL_append, encL_append]
 simp only [encL, List.length_append, List.append_nil] at h ⊢
 omega
end Go.Proofs.YtgaoknihklmakaaGreatDoor
