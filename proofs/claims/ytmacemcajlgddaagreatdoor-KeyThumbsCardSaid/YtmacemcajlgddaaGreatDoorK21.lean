/- squeezed. Walks: the references' Copy, List, -/
import Derived.Test.YtmacemcajlgddaaGreatDoorK17
import Derived.Test.YtmacemcajlgddaaGreatDoorK01
set_option linter.unusedVariables false
set_option linter.unusedSimpArgs false
set_option maxRecDepth 100000
set_option maxHeartbeats 6400000
namespace Go.Proofs.YtmacemcajlgddaaGreatDoor
open Go.RowKit
theorem IsItem.build {H : Snap} {x : Itm} {ba : Option Addr} {bc : Nat} {ia : Option Addr} {ic : Nat} (hk : -9223372036854775808 ≤ x.kind ∧ x.kind ≤ 9223372036854775807) (hn : x.n < 18446744073709551616) (hb : IsBytes H ba bc x.bytes)
  (h1 : x.items.length ≤ ic) (h2 : ic ≤ 9223372036854775807) (he : 0 < x.items.length → ∃ b off, ia = some ⟨b, off, none⟩ ∧ IsElems H b off x.items) : IsItem H ba bc ia ic x := by
 cases x
 rw [IsItem]
 exact ⟨⟨hk.1, hk.2, hn, h1, h2⟩, hb, he⟩
def CopySaid (x : Itm) : Prop := ∀ (H : Snap) (k n : Int) (ba : Option Addr) (bl bc : Nat) (ia : Option Addr) (il ic : Nat) (w : World), Modest x → ItemA H k n ba bl bc ia il ic x → Holds w H →
 Calls Tryz.prog 74 #[.agg #[.int .i64 k, .int .u64 n, .slice ba bl bc, .slice ia il ic]] w fun e w' => ∃ v, e = .returned v ∧ Gives w H x v w'
theorem copy_step (x : Itm) (ih : ∀ y : Itm, cnt y < cnt x → CopySaid y) : CopySaid x := by
 intro H k n ba bl bc ia il ic w hm hx hH
 obtain ⟨rfl, rfl, rfl, rfl, hxi⟩ := hx.eqs_;have HX := Hh hxi;have HM := Hh hm;have hml := hm.parts;have hB := ((Blk.new w 54 #[.int .i64 x.kind, .int .u64 x.n, .slice ba x.bytes.length bc, .slice ia x.items.length ic]).alloc zeroO).drew;have hT := (Blk.new (w.alloc (itemO x ba bc ia ic)) 54 #[.int .i64 0, .int .u64 0, .slice none 0 0, .slice none 0 0]).drew
 simp only [size_alloc] at hT
 have hb := ((below_box w (itemO x ba bc ia ic)).alloc (by simp) zeroO).drew;have hHx : Holds ((w.alloc (itemO x ba bc ia ic)).alloc zeroO).drew H := ((hH.alloc _).alloc _).drew;have hil : x.items.length ≤ 9223372036854775807 := by omega
 have hbl : x.bytes.length ≤ 1099511627776 := hml.1;clear hx hxi hm hml;go_enter Tryz.func74, Tryz.ntmps74
 go_upto_region 1 with fail
 go_cut [3] (fun s3 wx => ∃ N BA BC H1, s3 = .pointer (some ⟨N, 0, none⟩) ∧ Blk wx N 54 #[.int .i64 x.kind, .int .u64 x.n, .slice BA x.bytes.length BC, .slice none 0 0] ∧ Blk wx w.heap.size 54 #[.int .i64 x.kind, .int .u64 x.n, .slice ba x.bytes.length bc, .slice ia x.items.length ic] ∧
  Blk wx (w.heap.size + 1) 54 #[.int .i64 0, .int .u64 0, .slice none 0 0, .slice none 0 0] ∧ Grows w H wx H1 ∧ IsBytes H1 BA BC x.bytes ∧ H1 N = none ∧ H1 (w.heap.size + 1) = none ∧ w.heap.size + 1 < N)
 case first =>
  refine wp_region_ways 9 (fun w' => w'.cell? ⟨w.heap.size, 0, none⟩ = some (.int .i64 x.kind) ∧ w'.cell? ⟨w.heap.size, 1, none⟩ = some (.int .u64 x.n) ∧ w'.cell? ⟨w.heap.size, 2, none⟩ = some (.slice ba x.bytes.length bc)) (by kernel_rfl) (⟨hB.cell 0 rfl, hB.cell 1 rfl, hB.cell 2 rfl⟩) (fun hHeld => ?_)
  refine Tk 0 rfl hHeld ?_
  refine Tk 1 rfl hHeld ?_
  refine Tk 2 rfl hHeld ?_
  refine Tk 3 rfl hHeld ?_
  refine Tk 4 rfl hHeld ?_
  refine Tk 5 rfl hHeld ?_
  refine Ways.two (i := 6) (j := 8) rfl rfl (by kernel_rfl) (fun K hK => ?_) (fun K hK => ?_)
  ·rw [if_pos (by rfl)]
   refine wp_app_bytes (.const (.slice none 0 0)) (.tmp 12) rfl _ (.slice none 0 0) [] rfl (OwnB.nil _ _) ba _ bc x.bytes rfl rfl (Src.of_row HX.out.bytes.row hHx) (by simpa using hbl) (Nat.le_refl _) fun v' w5 hO hg hat => ?_
   rw [List.nil_append] at hO;have hbq := grown_none (by simpa [Value.ownBlock] using hg);obtain ⟨BA, BC, rfl, _⟩ := hO.form
   try have hne : ∀ q, (Value.slice BA x.bytes.length BC).ownBlock = some q → q ≠ w.heap.size + 1 + 1 := fun q hq e => by have h1 := (hO.lt q hq).1; have h2 := hP.lt; (try simp only [drew_heap, size_alloc] at h1 h2); omega
   have hO2 : ∀ q, (Value.slice BA x.bytes.length BC).ownBlock = some q → w.heap.size + 1 < q := fun q hq => by have h1 := (hO.lt q hq).1; have h2 := hT.lt; (try simp only [drew_heap, size_alloc] at h1 h2); omega
   have hB := hB.below hbq;have hT := hT.below hbq
   try have hP := hP.below hbq
   have hb := hb.trans (hbq.mono hb.size);have hHx := hHx.below hbq (Nat.le_refl _)
   refine hK.out _ _ (fun _ => ?_) (fun hHeld => ?_)
   ·exact ⟨hB.cell 0 rfl, hB.cell 1 rfl, hB.cell 2 rfl⟩
   clear hK K;have hHeld := hHeld (by decide)
   try simp only [Act.put, zz4, zz5, zz6]
   refine Tk 7 rfl hHeld ?_
   refine To 8 rfl fun K hK => ?_
   go_simp
   have hP := below_newBlk hb 54 #[.int .i64 0, .int .u64 0, .slice none 0 0, .slice none 0 0]
   try have hne : ∀ q, (Value.slice BA x.bytes.length BC).ownBlock = some q → q ≠ w5.heap.size := fun q hq e => by have h1 := (hO.lt q hq).2; omega
   have hNN := hT.lt
   try simp only [drew_heap, size_alloc] at hP hNN
   have hB := hB.alloc zeroO;have hT := hT.alloc zeroO
   try have hO := hO.alloc zeroO
   have hHx := hHx.alloc zeroO;have hb := hb.alloc hb.size zeroO
   refine hK.out _ _ (fun _ => ?_) (fun hHeld => ?_)
   ·exact ⟨hB.cell 0 rfl, hB.cell 1 rfl, hB.cell 2 rfl⟩
   clear hK K;have hHeld := hHeld (by decide)
   try simp only [Act.put, zz4, zz5, zz6]
   refine To 9 rfl fun K hK => ?_
   rw [if_pos (by rfl)]
   refine wp_store_item _ _ _ rfl _ _ rfl rfl _ _ hP size_item rfl (one4 _ _ _ _ rfl rfl rfl rfl) fun w6 hP hg6 => ?_
   have hB := hB.gr hg6 (by omega);have hT := hT.gr hg6 (by omega);have hb := hb.grown hg6 hb.size (by rintro q ⟨⟩; omega);have hHx := hHx.grown hg6 (by rintro q ⟨⟩; exact hH.none_of_ge (by omega));have hO := hO.kept hg6 (by cases hv : (Value.slice BA x.bytes.length BC).ownBlock with | none => exact .inl rfl | some q => exact .inr (fun e => by injection e with e; exact hne q hv e))
   refine hK.out _ _ (fun h => absurd rfl h) (fun _ => ?_)
   clear hK K
   try simp only [Act.put, zz4, zz5, zz6]
   refine Ways.done (by kernel_rfl) ?_
   obtain ⟨H1, hl1, hh1, hf1, hz1, hi1⟩ := hO.snap hHx (fun q hq => hH.none_of_ge (by have := hO2 q (by cases BA <;> simp_all [Value.ownBlock]); omega))
   have hN1 : ∀ q, w.heap.size ≤ q → (∀ q', (Value.slice BA x.bytes.length BC).ownBlock = some q' → q' ≠ q) → H1 q = none := fun q hq hd => by
    cases hq1 : H1 q with
    | none => rfl
    | some o =>
     rcases hf1 q o hq1 with h | h
     ·rw [hH.none_of_ge hq] at h; cases h
     ·exact absurd rfl (hd q (by cases BA <;> simp_all [Value.ownBlock]))
   go_wp2_with fail
   go_meet
   exact ⟨_, _, _, H1, rfl, hP, hB, hT, ⟨hb, hl1, hh1, fun b o hb1 => (hf1 b o hb1).imp id fun h => by have := hO2 b (by cases BA <;> simp_all [Value.ownBlock]); omega⟩, hi1, hN1 _ (by omega) (fun q' hq' => hne q' hq'), hN1 _ (by omega) (fun q' hq' => by have := hO2 q' hq'; omega), by omega⟩
  ·go_simp
   have hP := below_newBlk hb 54 #[.int .i64 0, .int .u64 0, .slice none 0 0, .slice none 0 0]
   try have hne : ∀ q, (Value.slice BA x.bytes.length BC).ownBlock = some q → q ≠ w5.heap.size := fun q hq e => by have h1 := (hO.lt q hq).2; omega
   have hNN := hT.lt
   try simp only [drew_heap, size_alloc] at hP hNN
   have hB := hB.alloc zeroO;have hT := hT.alloc zeroO
   try have hO := hO.alloc zeroO
   have hHx := hHx.alloc zeroO;have hb := hb.alloc hb.size zeroO
   refine hK.out _ _ (fun _ => ?_) (fun hHeld => ?_)
   ·exact ⟨hB.cell 0 rfl, hB.cell 1 rfl, hB.cell 2 rfl⟩
   clear hK K;have hHeld := hHeld (by decide)
   try simp only [Act.put, zz4, zz5, zz6]
   refine To 6 rfl fun K hK => ?_
   rw [if_pos (by rfl)]
   refine wp_app_bytes (.const (.slice none 0 0)) (.tmp 12) rfl _ (.slice none 0 0) [] rfl (OwnB.nil _ _) ba _ bc x.bytes rfl rfl (Src.of_row HX.out.bytes.row hHx) (by simpa using hbl) (Nat.le_refl _) fun v' w5 hO hg hat => ?_
   rw [List.nil_append] at hO;have hbq := grown_none (by simpa [Value.ownBlock] using hg);obtain ⟨BA, BC, rfl, _⟩ := hO.form
   try have hne : ∀ q, (Value.slice BA x.bytes.length BC).ownBlock = some q → q ≠ w.heap.size + 1 + 1 := fun q hq e => by have h1 := (hO.lt q hq).1; have h2 := hP.lt; (try simp only [drew_heap, size_alloc] at h1 h2); omega
   have hO2 : ∀ q, (Value.slice BA x.bytes.length BC).ownBlock = some q → w.heap.size + 1 < q := fun q hq => by have h1 := (hO.lt q hq).1; have h2 := hT.lt; (try simp only [drew_heap, size_alloc] at h1 h2); omega
   have hB := hB.below hbq;have hT := hT.below hbq
   try have hP := hP.below hbq
   have hb := hb.trans (hbq.mono hb.size);have hHx := hHx.below hbq (Nat.le_refl _)
   refine hK.out _ _ (fun _ => ?_) (fun hHeld => ?_)
   ·exact ⟨hB.cell 0 rfl, hB.cell 1 rfl, hB.cell 2 rfl⟩
   clear hK K;have hHeld := hHeld (by decide)
   try simp only [Act.put, zz4, zz5, zz6]
   refine Tk 7 rfl hHeld ?_
   refine To 9 rfl fun K hK => ?_
   rw [if_pos (by rfl)]
   refine wp_store_item _ _ _ rfl _ _ rfl rfl _ _ hP size_item rfl (one4 _ _ _ _ rfl rfl rfl rfl) fun w6 hP hg6 => ?_
   have hB := hB.gr hg6 (by omega);have hT := hT.gr hg6 (by omega);have hb := hb.grown hg6 hb.size (by rintro q ⟨⟩; omega);have hHx := hHx.grown hg6 (by rintro q ⟨⟩; exact hH.none_of_ge (by omega));have hO := hO.kept hg6 (by cases hv : (Value.slice BA x.bytes.length BC).ownBlock with | none => exact .inl rfl | some q => exact .inr (fun e => by injection e with e; exact hne q hv e))
   refine hK.out _ _ (fun h => absurd rfl h) (fun _ => ?_)
   clear hK K
   try simp only [Act.put, zz4, zz5, zz6]
   refine Ways.done (by kernel_rfl) ?_
   obtain ⟨H1, hl1, hh1, hf1, hz1, hi1⟩ := hO.snap hHx (fun q hq => hH.none_of_ge (by have := hO2 q (by cases BA <;> simp_all [Value.ownBlock]); omega))
   have hN1 : ∀ q, w.heap.size ≤ q → (∀ q', (Value.slice BA x.bytes.length BC).ownBlock = some q' → q' ≠ q) → H1 q = none := fun q hq hd => by
    cases hq1 : H1 q with
    | none => rfl
    | some o =>
     rcases hf1 q o hq1 with h | h
     ·rw [hH.none_of_ge hq] at h; cases h
     ·exact absurd rfl (hd q (by cases BA <;> simp_all [Value.ownBlock]))
   go_wp2_with fail
   go_meet
   exact ⟨_, _, _, H1, rfl, hP, hB, hT, ⟨hb, hl1, hh1, fun b o hb1 => (hf1 b o hb1).imp id fun h => by have := hO2 b (by cases BA <;> simp_all [Value.ownBlock]); omega⟩, hi1, hN1 _ (by omega) (fun q' hq' => hne q' hq'), hN1 _ (by omega) (fun q' hq' => by have := hO2 q' hq'; omega), by omega⟩
 case rest =>
  clear hB hT hb hHx;obtain ⟨N, BA, BC, H1, rfl, hP, hB, hT, hG1, hi1, hn1, hn2, hNN⟩ := hcut;have c3 := hB.cell 3 rfl;have hNl := hP.lt;have hO1 := OwnI.nil wc (N + 1) H1;clear hB;go_wp2_with fail
  go_loopw [4, 18] (fun v4 v18 wr => ∃ (j : Nat) (Hr : Snap) (VA : Option Addr) (vc vn : Nat), j ≤ x.items.length ∧ v18 = .int .i64 j ∧ v4 = .slice VA vn vc ∧ vn = (x.items.take j).length ∧ Grows w H wr Hr ∧ H1.le Hr ∧ OwnI wr (N + 1) (.slice VA vn vc) Hr (x.items.take j) ∧
   Blk wr N 54 #[.int .i64 x.kind, .int .u64 x.n, .slice BA x.bytes.length BC, .slice none 0 0] ∧ Blk wr (w.heap.size + 1) 54 #[.int .i64 0, .int .u64 0, .slice none 0 0, .slice none 0 0] ∧ Hr N = none ∧ Hr (w.heap.size + 1) = none ∧ (∀ q, (Value.slice VA vn vc).ownBlock = some q → Hr q = none)) (fun _ v18 _ => x.items.length - (intOf v18).toNat)
  case atStart => exact ⟨0, H1, _, _, _, Nat.zero_le _, rfl, rfl, rfl, hG1, Snap.le.refl _, hO1, hP, hT, hn1, hn2, by intro q hq; simp [Value.ownBlock] at hq⟩
  case round =>
   clear hP hT hG1 hn1 hn2 hO1;obtain ⟨j, Hr, VA, vc, vn, hj, rfl, rfl, hvn, hGr, hle, hOr, hPr, hTr, hNr, hTn, hnr⟩ := hrel;have HV := Hh hvn;clear hvn
   by_cases hlt : j < x.items.length
   ·obtain ⟨ib, io, hia, hel⟩ := HX.out.items (by omega);obtain ⟨eba, ebc, eia, eic, q0, q1, q2, q3, hex⟩ := hel.get j hlt;subst hia;have p0 := (hGr.holds.mono hGr.le).cell q0;have p1 := (hGr.holds.mono hGr.le).cell q1;have p2 := (hGr.holds.mono hGr.le).cell q2;have p3 := (hGr.holds.mono hGr.le).cell q3;have hG2 := hGr.alloc (itemO x.items[j] eba ebc eia eic);have hO2 := hOr.alloc (itemO x.items[j] eba ebc eia eic);have hP2 := hPr.alloc (itemO x.items[j] eba ebc eia eic);have hT2 := hTr.alloc (itemO x.items[j] eba ebc eia eic);have IH := Hh (ih x.items[j] (cnt_items x j hlt) Hr _ _ eba _ ebc eia _ eic _ (HM.out.parts.2.2.get j hlt) (hex.mono hGr.le).arg hG2.holds);have HT := Hh (show x.items.take (j + 1) = x.items.take j ++ [x.items[j]] from List.take_succ_eq_append_getElem hlt);have hlm := HM.out.parts.2.1
    generalize x.items[j]'hlt = y at *
    clear q0 q1 q2 q3 hel hex hOr;go_wp2_with fail
    refine IH.out.mono ?_
    rintro e w6 ⟨v6, rfl, ja, jb, jc, jd, H6, rfl, hG6, hi6⟩
    have hO6 := ((hO2.below hG6.below).mono hG6.le).alloc (.cells (itemC y ja jb jc jd).toArray 54);have hG7 := (hG2.trans hG6).alloc (.cells (itemC y ja jb jc jd).toArray 54);have hP6 := (hP2.below hG6.below).alloc (.cells (itemC y ja jb jc jd).toArray 54);have hT6 := (hT2.below hG6.below).alloc (.cells (itemC y ja jb jc jd).toArray 54);have hn6 : ∀ q, (Value.slice VA vn vc).ownBlock = some q → H6 q = none := fun q hq => hG6.none (hnr q hq) (hO2.lt q hq).2
    have hN6 := hG6.none hNr hP2.lt;have hTn6 := hG6.none hTn hT2.lt;have hle6 := hle.trans hG6.le;clear p0 p1 p2 p3 IH hGr hPr hTr hG2 hG6 hP2 hT2;go_wp2_with (at_builtin; refine stop_in ?_)
    unfold Stopped
    obtain rfl := HV.out
    refine wpList_app_items rfl (.tmp 22) (.tmp 25) rfl (N + 1) (.slice VA _ vc) H6 _ rfl hO6 _ 1 _ (itemC y ja jb jc jd) [y] rfl rfl (ItemsC.one hi6) (Src.new _ _ _ _ rfl _ rfl) (by rw [List.length_take]; simp; omega) (by have := hP6.lt; simp only [size_alloc] at this ⊢; omega) fun v' w7 hO7 hg7 hat7 => ?_
    obtain ⟨VA', vc', rfl, _⟩ := hO7.form;have hG8 := hG7.grownRow hn6 (fun q hq => by have := (hO6.lt q hq).1; omega) hg7;have hP7 := hP6.grown hg7 (fun e => by have := (hO6.lt N e).1; omega);have hT7 := hT6.grown hg7 (fun e => by have := (hO6.lt _ e).1; omega)
    have hn7 : ∀ q, (Value.slice VA' (x.items.take j ++ [y]).length vc').ownBlock = some q → H6 q = none := fun q hq => by
     rcases hat7 with h | ⟨g', h1, h2⟩
     ·exact hn6 q (by rw [← h, hq])
     ·rw [hq] at h1;injection h1 with h1
      subst h1
      exact hG7.hidden h2
    have hl9 : (x.items.take j ++ [y]).length = j + 1 := by rw [← HT.out, List.length_take]; omega
    rw [hl9] at hO7 hn7;rw [hl9];rw [← HT.out] at hO7;clear hl9;have hj63 : (j : Int) + 1 ≤ 9223372036854775807 := by omega
    clear hO6 hg7 hat7 hn6 hG7 hP6 hT6 hi6;go_wp2_with fail
    go_roundw
    case rel => exact ⟨j + 1, H6, VA', vc', _, by omega, by go_num, rfl, by rw [List.length_take]; omega, hG8, hle6, hO7, hP7, hT7, hN6, hTn6, hn7⟩
    case measure => simp [intOf]; omega
   ·have hkl : j = x.items.length := by omega
    subst hkl;rw [List.take_length] at hOr;have HV2 : Hid (vn = x.items.length) := by have := HV.out; rw [List.take_length] at this; exact this
    clear HV;obtain ⟨H8, hl8, hh8, hf8, hz8, hle1, hle2, hel8⟩ := hOr.snap hGr.holds (fun g hg => hnr g (by cases VA <;> simp_all [Value.ownBlock]));have hlow : ∀ b, VA.map (·.block) = some b → N + 1 ≤ b := fun b hb => (hOr.lt b (by cases VA <;> simp_all [Value.ownBlock])).1
    have hGz : Grows w H wr H8 := ⟨hGr.below, hGr.le.trans hl8, hh8, fun b o hb => by
     rcases hf8 b o hb with h | h
     ·exact hGr.fresh b o h
     ·exact .inr (by have := hlow b h; omega)⟩
    have hkeep : ∀ q, q ≤ N → Hr q = none → H8 q = none := fun q hq h0 => by
     cases h8 : H8 q with
     | none => rfl
     | some o =>
      rcases hf8 q o h8 with h | h
      ·rw [h0] at h; cases h
      ·have := hlow q h; omega
    have hbd := HX.out.bounds;have HI := Hh (IsItem.build (x := x) (H := H8) (ba := BA) (bc := BC) (ia := VA) (ic := vc) ⟨hbd.1, hbd.2.1⟩ hbd.2.2.1 (hi1.mono (hle.trans hl8)) hle1 hle2 hel8);have hNz := hkeep N (Nat.le_refl _) hNr;have hTz := hkeep (w.heap.size + 1) (by omega) hTn;clear hbd hel8 hle1 hle2 hf8 hOr hGr hnr hlow hkeep hNr hTn hz8;go_wp2_with (with_reducible refine stop_store ?_)
    refine wpList_store_cell rfl _ _ _ rfl rfl N 3 (.slice VA vn vc) rfl rfl _ _ hPr size_items (by simp) rfl fun w9 hP9 hg9 => ?_
    have hT9 := hTr.gr hg9 (by omega);have hG9 := hGz.grownOwn hNz (by omega) hg9;have r0 := hP9.cell 0 rfl;have r1 := hP9.cell 1 rfl;have r2 := hP9.cell 2 rfl;have r3 := hP9.cell 3 rfl;clear hPr hTr hGz;go_wp2_with (with_reducible refine stop_store ?_)
    refine stI hT9 fun w10 hT10 hg10 => ?_
    have hG10 := hG9.grownOwn hTz (by omega) hg10;go_wp2_with fail
    refine ret_row rfl rfl hT10 rfl rfl size_item rfl ?_
    obtain rfl := HV2.out
    exact ⟨_, rfl, BA, BC, VA, vc, H8, rfl, hG10, HI.out⟩
theorem ref_Copy (x : Itm) : CopySaid x := by
 have main : ∀ N, ∀ x : Itm, cnt x ≤ N → CopySaid x := by
  intro N
  induction N with
  | zero =>
   intro x hx
   have : 0 < cnt x := by cases x; rw [cnt]; omega
   omega
  | succ N ih =>
   intro x hx
   exact copy_step x fun y hy => ih y (by omega)
 exact main _ x (Nat.le_refl _)
end Go.Proofs.YtmacemcajlgddaaGreatDoor
