/- squeezed. Walks: reading the second message, the reference. -/
import Derived.Test.YtlebpackbfcfeaaDoorJ45
set_option linter.unusedVariables false
set_option linter.unusedSimpArgs false
open List (getElem_toArray getElem_cons_zero getElem_cons_succ setIfInBounds_toArray set_cons_zero set_cons_succ)
namespace Go.Proofs.YtlebpackbfcfeaaDoor
open Go.RowKit

theorem SrcR.one' {w : World} {b n : Nat} {t : TypeId} {A : Option Addr} {c : Nat} {x : List UInt8} (hB : Blk w b t #[.slice A n c]) (hn : x.length = n) (hx : Src w A (x.map byteV)) : SrcR w (some ⟨b, 0, none⟩) [x] := by
 subst hn
 exact SrcR.one hB hx
theorem ref_Join1 {A : Option Addr} {x : List UInt8} (hx : x.length ≤ 1099511627000) (w : World) (hs : SrcR w A [x]) :
   Calls Tryd.prog 52 #[.slice A 1 1] w fun e w' => ∃ r, e = .returned r ∧ Fresh w x r w' := by
 have h := ref_Join (A := A) (n := 1) (c := 1) (ls := [x]) rfl (by simp) (by simpa using hx) w hs
 rwa [show ([x] : List (List UInt8)).flatten = x by simp] at h
set_option maxRecDepth 100000 in
set_option maxHeartbeats 6400000 in
theorem ref_DecodeSecond {H : Snap} (hTab : Tabs H) (w : World) (hH : Holds w H) {A : Option Addr} {n c : Nat} {l : List UInt8} (hn : n = l.length) (hl : IsBytes H A c l) :
   Calls Tryd.prog 32 #[.slice A n c] w (SecondOut w H (decSecond l)) := by
 have DC := Lib.hid (ref_Decode hTab w hH hn hl)
 have HN := Lib.hid hn
 have HH := Lib.hid hH
 clear hTab hn hl hH
 go_enter Tryd.func32, Tryd.ntmps32
 by_cases c1 : 635 < n
 · have c1a : (635 : Int) < (n : Int) := by omega
   have c1d : decide ((635 : Int) < (n : Int)) = true := decide_eq_true c1a
   have c1n : decide (635 < n) = true := decide_eq_true c1
   have E : Hid (decSecond l = .error 8) := by rw [Hid, decSecond, if_pos (by have := HN.out; omega)]
   clear DC
   go_wp2_with fail
   go_ret3
   exact SecondOut.err (q := 8) E.out rfl (Below.refl _ _)
 have c1a : ¬ ((635 : Int) < (n : Int)) := by omega
 have c1d : decide ((635 : Int) < (n : Int)) = false := decide_eq_false c1a
 have c1n : decide (635 < n) = false := decide_eq_false c1
 have E0 : Hid (decSecond l = match decodeP l with
   | .error e => .error e
   | .ok x => if x.kind ≠ 2 then .error 4 else if x.bytes.length < 33 then .error 2 else if 632 < x.bytes.length then .error 8 else .ok (x.bytes.take 32, x.bytes.drop 32)) := by
   rw [Hid, decSecond, if_neg (by have := HN.out; omega)]
   rfl
 clear c1
 go_wp2_with fail
 refine DC.out.mono ?_
 intro e w2 hs
 unfold DecodeOut at hs
 clear DC
 cases hd : decodeP l with
 | error q =>
   rw [hd] at hs
   obtain ⟨rfl, hb2⟩ := hs
   have E : Hid (decSecond l = .error q) := by rw [Hid, E0.out, hd]
   have hq0 : ((q : Int) != 0) = true := by rw [bne_iff_ne]; have := decode_err hd; omega
   have hq0' : ((q : Int) = 0) = False := eq_false (by have := decode_err hd; omega)
   have hX0 := Blk.new w2 69 #[.int .i64 0, .int .u64 0, .slice none 0 0, .slice none 0 0]
   have hb3 := hb2.alloc hb2.size zeroO
   have HSZ := Lib.hid hb2.size
   clear hd E0 hb2
   go_wp2_with (with_reducible refine stop_store ?_)
   unfold Stopped
   refine wpList_store_item rfl _ _ _ rfl rfl _ _ rfl rfl _ _ hX0 size_item rfl (one4 _ _ _ _ rfl rfl rfl rfl) fun w4 hX4 hg4 => ?_
   have hb4 := below_of_grown hb3 hg4 (by rintro q ⟨⟩; exact HSZ.out)
   go_wp2_with fail
   go_ret3
   exact SecondOut.err E.out rfl hb4
 | ok x =>
   rw [hd] at hs
   obtain ⟨ja, jb, jc, jd, H2, rfl, hG2, hi2⟩ := hs
   have E1 : Hid (decSecond l = if x.kind ≠ 2 then .error 4 else if x.bytes.length < 33 then .error 2 else if 632 < x.bytes.length then .error 8 else .ok (x.bytes.take 32, x.bytes.drop 32)) := by rw [Hid, E0.out, hd]
   have hX0 := Blk.new w2 69 #[.int .i64 0, .int .u64 0, .slice none 0 0, .slice none 0 0]
   have hXn : H2 w2.heap.size = none := hG2.holds.none_of_ge (Nat.le_refl _)
   have hG3 := hG2.alloc zeroO
   have HSZ := Lib.hid hG2.below.size
   have HBY := Lib.hid hi2.bytes
   obtain ⟨bl, hbl⟩ : ∃ bl, x.bytes.length = bl := ⟨_, rfl⟩
   have HBL := Lib.hid hbl
   clear hd E0
   go_wp2_with (with_reducible refine stop_store ?_)
   unfold Stopped
   refine wpList_store_item rfl _ _ _ rfl rfl _ _ rfl rfl _ _ hX0 size_item rfl (one4 _ _ _ _ rfl rfl rfl rfl) fun w4 hX4 hg4 => ?_
   have hG4 := hG3.grownOwn hXn HSZ.out hg4
   rw [hbl] at hX4
   obtain ⟨kd, hkd⟩ : ∃ kd, x.kind = kd := ⟨_, rfl⟩
   rw [hkd] at hX4 E1
   have b0 := hX4.cell 0 rfl
   have b2 := hX4.cell 2 rfl
   clear hX0 hg4 hbl hkd hG3 hi2
   by_cases c2 : kd = 2
   case neg =>
     have c2a : (kd != 2) = true := by rw [bne_iff_ne]; exact c2
     have c2b : (kd = 2) = False := eq_false c2
     have E : Hid (decSecond l = .error 4) := by rw [Hid, E1.out, if_pos c2]
     go_wp2_with fail
     go_ret3
     exact SecondOut.err (q := 4) E.out rfl hG4.below
   subst c2
   by_cases c3 : bl < 33
   · have c3a : (bl : Int) < 33 := by omega
     have c3d : decide ((bl : Int) < 33) = true := decide_eq_true c3a
     have c3n : decide (bl < 33) = true := decide_eq_true c3
     have E : Hid (decSecond l = .error 2) := by rw [Hid, E1.out, if_neg (by simp), if_pos (by have := HBL.out; omega)]
     go_wp2_with fail
     go_ret3
     exact SecondOut.err (q := 2) E.out rfl hG4.below
   have c3a : ¬ ((bl : Int) < 33) := by omega
   have c3d : decide ((bl : Int) < 33) = false := decide_eq_false c3a
   have c3n : decide (bl < 33) = false := decide_eq_false c3
   by_cases c4 : 632 < bl
   · have c4a : (632 : Int) < (bl : Int) := by omega
     have c4d : decide ((632 : Int) < (bl : Int)) = true := decide_eq_true c4a
     have c4n : decide (632 < bl) = true := decide_eq_true c4
     have E : Hid (decSecond l = .error 8) := by rw [Hid, E1.out, if_neg (by simp), if_neg (by have := HBL.out; omega), if_pos (by have := HBL.out; omega)]
     go_wp2_with fail
     go_ret3
     exact SecondOut.err (q := 8) E.out rfl hG4.below
   have c4a : ¬ ((632 : Int) < (bl : Int)) := by omega
   have c4d : decide ((632 : Int) < (bl : Int)) = false := decide_eq_false c4a
   have c4n : decide (632 < bl) = false := decide_eq_false c4
   have E : Hid (decSecond l = .ok (x.bytes.take 32, x.bytes.drop 32)) := by rw [Hid, E1.out, if_neg (by simp), if_neg (by have := HBL.out; omega), if_neg (by have := HBL.out; omega)]
   obtain ⟨bs, hbs⟩ : ∃ bs, x.bytes = bs := ⟨_, rfl⟩
   rw [hbs] at HBY HBL E
   have hjb := HBY.out.le
   have HL := Lib.hid (show bs.length = bl ∧ 33 ≤ bl ∧ bl ≤ 632 ∧ bl ≤ jb from ⟨HBL.out, by omega, by omega, by have := HBL.out; omega⟩)
   have n1 : 32 ≤ bl := by omega
   have n2 : bl ≤ jb := HL.out.2.2.2
   have n3 : 32 ≤ jb := by omega
   have n4 : (jb = 32) = False := eq_false (by have := HL.out; omega)
   have i1 : (32 : Int) ≤ (bl : Int) := by omega
   have i2 : (bl : Int) ≤ (jb : Int) := by omega
   have i3 : (32 : Int) ≤ (jb : Int) := by omega
   have HT := Lib.hid (HBY.out.take 32)
   have HD := Lib.hid (show IsBytes H2 (Option.map (fun x => x.add 32) ja) (jb - 32) (bs.drop 32) by have h := HBY.out.drop 32 (by have := HL.out; omega); rwa [if_neg (by have := HL.out; omega)] at h)
   have HTL := Lib.hid (show (bs.take 32).length = 32 ∧ (bs.drop 32).length = bl - 32 by rw [List.length_take, List.length_drop]; have := HL.out; omega)
   have HG4 := Lib.hid hG4
   clear hbs hjb E1 c3 c4 hG2
   go_upto_region 12 with fail
   have hG := HG4.out.drew
   have hX := hX4.drew
   have HLE := Lib.hid (Snap.le.refl H2)
   refine wp_region_ways 13 (fun w' => w'.cell? ⟨w2.heap.size, 2, none⟩ = some (.slice ja bl jb)) (by kernel_rfl) (b2) (fun hHeld => ?_)
   refine Ways.takeS (i := 0) (v := ?_) rfl (by kernel_rfl) (fun _ _ _ h => h) (Or.inl ⟨by rfl, ?_⟩) hHeld ?_
   rotate_left
   · (intro w hSw; (try dsimp only at hSw); go_simp; try with_reducible rfl)
   try simp only [Act.put, getElem_toArray, getElem_cons_zero, getElem_cons_succ, setIfInBounds_toArray, set_cons_zero, set_cons_succ]
   refine Ways.takeS (i := 1) (v := ?_) rfl (by kernel_rfl) (fun _ _ _ h => h) (Or.inl ⟨by rfl, ?_⟩) hHeld ?_
   rotate_left
   · (intro w hSw; (try dsimp only at hSw); go_simp; try with_reducible rfl)
   try simp only [Act.put, getElem_toArray, getElem_cons_zero, getElem_cons_succ, setIfInBounds_toArray, set_cons_zero, set_cons_succ]
   refine Ways.takeS (i := 2) (v := ?_) rfl (by kernel_rfl) (fun _ _ _ h => h) (Or.inl ⟨by rfl, ?_⟩) hHeld ?_
   rotate_left
   · (intro w hSw; (try dsimp only at hSw); go_simp; try with_reducible rfl)
   try simp only [Act.put, getElem_toArray, getElem_cons_zero, getElem_cons_succ, setIfInBounds_toArray, set_cons_zero, set_cons_succ]
   refine Ways.takeS (i := 5) (v := ?_) rfl (by kernel_rfl) (fun _ _ _ h => h) (Or.inl ⟨by rfl, ?_⟩) hHeld ?_
   rotate_left
   · (intro w hSw; (try dsimp only at hSw); go_simp; try with_reducible rfl)
   try simp only [Act.put, getElem_toArray, getElem_cons_zero, getElem_cons_succ, setIfInBounds_toArray, set_cons_zero, set_cons_succ]
   refine Ways.takeS (i := 6) (v := ?_) rfl (by kernel_rfl) (fun _ _ _ h => h) (Or.inl ⟨by rfl, ?_⟩) hHeld ?_
   rotate_left
   · (intro w hSw; (try dsimp only at hSw); go_simp; try with_reducible rfl)
   try simp only [Act.put, getElem_toArray, getElem_cons_zero, getElem_cons_succ, setIfInBounds_toArray, set_cons_zero, set_cons_succ]
   refine Ways.takeS (i := 7) (v := ?_) rfl (by kernel_rfl) (fun _ _ _ h => h) (Or.inl ⟨by rfl, ?_⟩) hHeld ?_
   rotate_left
   · (intro w hSw; (try dsimp only at hSw); go_simp; try with_reducible rfl)
   try simp only [Act.put, getElem_toArray, getElem_cons_zero, getElem_cons_succ, setIfInBounds_toArray, set_cons_zero, set_cons_succ]
   refine Ways.two (i := 3) (j := 8) rfl rfl (by kernel_rfl) (fun K hK => ?_) (fun K hK => ?_)
   · go_simp
     have hB3 := hG.newBlk 24 #[.slice ja 32 jb]
     (try have hB8 := hB8.alloc (.cells #[.slice ja 32 jb] 24))
     have hX := hX.alloc (.cells #[.slice ja 32 jb] 24)
     have hG := hG.alloc (.cells #[.slice ja 32 jb] 24)
     (try simp only [drew_heap, size_alloc] at hB3)
     refine hK.out _ _ (fun _ => ?_) (fun hHeld => ?_)
     · exact hX.cell 2 rfl
     clear hK K
     have hHeld := hHeld (by decide)
     try simp only [Act.put, getElem_toArray, getElem_cons_zero, getElem_cons_succ, setIfInBounds_toArray, set_cons_zero, set_cons_succ]
     refine Ways.two (i := 4) (j := 8) rfl rfl (by kernel_rfl) (fun K hK => ?_) (fun K hK => ?_)
     · go_simp
       refine (ref_Join1 (x := bs.take 32) (by have := HTL.out; have := HL.out; omega) _ (SrcR.one' hB3 HTL.out.1 (Src.of_row (HT.out.mono HLE.out).row hG.holds))).mono ?_
       rintro e w4 ⟨r, rfl, hf⟩
       obtain ⟨TA4, tc4, rfl, hjunk⟩ := hf.own.form
       clear hjunk
       rw [HTL.out.1] at hf ⊢
       obtain ⟨H4, hGn, htb, hjunk⟩ := Fresh.snapB hG.holds hf
       clear hjunk
       have hX := hX.below hf.2
       (try have hB8 := hB8.below hf.2)
       (try have hub := hub.mono hGn.le)
       have HLE := Lib.hid (HLE.out.trans hGn.le)
       have hG := hG.trans hGn
       clear hf hGn
       refine hK.out _ _ (fun _ => ?_) (fun hHeld => ?_)
       · exact hX.cell 2 rfl
       clear hK K
       have hHeld := hHeld (by decide)
       try simp only [Act.put, getElem_toArray, getElem_cons_zero, getElem_cons_succ, setIfInBounds_toArray, set_cons_zero, set_cons_succ]
       refine Ways.one (i := 8) rfl (by kernel_rfl) (fun K hK => ?_)
       go_simp
       have hB8 := hG.newBlk 24 #[.slice (Option.map (fun x => x.add 32) ja) (bl - 32) (jb - 32)]
       (try have hB3 := hB3.alloc (.cells #[.slice (Option.map (fun x => x.add 32) ja) (bl - 32) (jb - 32)] 24))
       have hX := hX.alloc (.cells #[.slice (Option.map (fun x => x.add 32) ja) (bl - 32) (jb - 32)] 24)
       have hG := hG.alloc (.cells #[.slice (Option.map (fun x => x.add 32) ja) (bl - 32) (jb - 32)] 24)
       (try simp only [drew_heap, size_alloc] at hB8)
       refine hK.out _ _ (fun _ => ?_) (fun hHeld => ?_)
       · exact hX.cell 2 rfl
       clear hK K
       have hHeld := hHeld (by decide)
       try simp only [Act.put, getElem_toArray, getElem_cons_zero, getElem_cons_succ, setIfInBounds_toArray, set_cons_zero, set_cons_succ]
       refine Ways.one (i := 9) rfl (by kernel_rfl) (fun K hK => ?_)
       go_simp
       refine (ref_Join1 (x := bs.drop 32) (by have := HTL.out; have := HL.out; omega) _ (SrcR.one' hB8 HTL.out.2 (Src.of_row (HD.out.mono HLE.out).row hG.holds))).mono ?_
       rintro e w9 ⟨r, rfl, hf⟩
       obtain ⟨TA9, tc9, rfl, hjunk⟩ := hf.own.form
       clear hjunk
       rw [HTL.out.2] at hf ⊢
       obtain ⟨H9, hGn, hub, hjunk⟩ := Fresh.snapB hG.holds hf
       clear hjunk
       have hX := hX.below hf.2
       (try have hB3 := hB3.below hf.2)
       (try have htb := htb.mono hGn.le)
       have HLE := Lib.hid (HLE.out.trans hGn.le)
       have hG := hG.trans hGn
       clear hf hGn
       refine hK.out _ _ (fun _ => ?_) (fun hHeld => ?_)
       · exact hX.cell 2 rfl
       clear hK K
       have hHeld := hHeld (by decide)
       try simp only [Act.put, getElem_toArray, getElem_cons_zero, getElem_cons_succ, setIfInBounds_toArray, set_cons_zero, set_cons_succ]
       refine Ways.takeS (i := 10) (v := ?_) rfl (by kernel_rfl) (fun _ _ _ h => h) (Or.inl ⟨by rfl, ?_⟩) hHeld ?_
       rotate_left
       · (intro w hSw; (try dsimp only at hSw); go_simp; try with_reducible rfl)
       try simp only [Act.put, getElem_toArray, getElem_cons_zero, getElem_cons_succ, setIfInBounds_toArray, set_cons_zero, set_cons_succ]
       refine Ways.takeS (i := 11) (v := ?_) rfl (by kernel_rfl) (fun _ _ _ h => h) (Or.inl ⟨by rfl, ?_⟩) hHeld ?_
       rotate_left
       · (intro w hSw; (try dsimp only at hSw); go_simp; try with_reducible rfl)
       try simp only [Act.put, getElem_toArray, getElem_cons_zero, getElem_cons_succ, setIfInBounds_toArray, set_cons_zero, set_cons_succ]
       refine Ways.takeS (i := 12) (v := ?_) rfl (by kernel_rfl) (fun _ _ _ h => h) (Or.inl ⟨by rfl, ?_⟩) hHeld ?_
       rotate_left
       · (intro w hSw; (try dsimp only at hSw); go_simp; try with_reducible rfl)
       try simp only [Act.put, getElem_toArray, getElem_cons_zero, getElem_cons_succ, setIfInBounds_toArray, set_cons_zero, set_cons_succ]
       refine Ways.done (by kernel_rfl) ?_
       go_wp2_with fail
       go_ret3
       exact SecondOut.ok E.out HTL.out.1.symm HTL.out.2.symm rfl hG htb hub
     · go_simp
       have hB8 := hG.newBlk 24 #[.slice (Option.map (fun x => x.add 32) ja) (bl - 32) (jb - 32)]
       (try have hB3 := hB3.alloc (.cells #[.slice (Option.map (fun x => x.add 32) ja) (bl - 32) (jb - 32)] 24))
       have hX := hX.alloc (.cells #[.slice (Option.map (fun x => x.add 32) ja) (bl - 32) (jb - 32)] 24)
       have hG := hG.alloc (.cells #[.slice (Option.map (fun x => x.add 32) ja) (bl - 32) (jb - 32)] 24)
       (try simp only [drew_heap, size_alloc] at hB8)
       refine hK.out _ _ (fun _ => ?_) (fun hHeld => ?_)
       · exact hX.cell 2 rfl
       clear hK K
       have hHeld := hHeld (by decide)
       try simp only [Act.put, getElem_toArray, getElem_cons_zero, getElem_cons_succ, setIfInBounds_toArray, set_cons_zero, set_cons_succ]
       refine Ways.one (i := 4) rfl (by kernel_rfl) (fun K hK => ?_)
       go_simp
       refine (ref_Join1 (x := bs.take 32) (by have := HTL.out; have := HL.out; omega) _ (SrcR.one' hB3 HTL.out.1 (Src.of_row (HT.out.mono HLE.out).row hG.holds))).mono ?_
       rintro e w4 ⟨r, rfl, hf⟩
       obtain ⟨TA4, tc4, rfl, hjunk⟩ := hf.own.form
       clear hjunk
       rw [HTL.out.1] at hf ⊢
       obtain ⟨H4, hGn, htb, hjunk⟩ := Fresh.snapB hG.holds hf
       clear hjunk
       have hX := hX.below hf.2
       (try have hB8 := hB8.below hf.2)
       (try have hub := hub.mono hGn.le)
       have HLE := Lib.hid (HLE.out.trans hGn.le)
       have hG := hG.trans hGn
       clear hf hGn
       refine hK.out _ _ (fun _ => ?_) (fun hHeld => ?_)
       · exact hX.cell 2 rfl
       clear hK K
       have hHeld := hHeld (by decide)
       try simp only [Act.put, getElem_toArray, getElem_cons_zero, getElem_cons_succ, setIfInBounds_toArray, set_cons_zero, set_cons_succ]
       refine Ways.one (i := 9) rfl (by kernel_rfl) (fun K hK => ?_)
       go_simp
       refine (ref_Join1 (x := bs.drop 32) (by have := HTL.out; have := HL.out; omega) _ (SrcR.one' hB8 HTL.out.2 (Src.of_row (HD.out.mono HLE.out).row hG.holds))).mono ?_
       rintro e w9 ⟨r, rfl, hf⟩
       obtain ⟨TA9, tc9, rfl, hjunk⟩ := hf.own.form
       clear hjunk
       rw [HTL.out.2] at hf ⊢
       obtain ⟨H9, hGn, hub, hjunk⟩ := Fresh.snapB hG.holds hf
       clear hjunk
       have hX := hX.below hf.2
       (try have hB3 := hB3.below hf.2)
       (try have htb := htb.mono hGn.le)
       have HLE := Lib.hid (HLE.out.trans hGn.le)
       have hG := hG.trans hGn
       clear hf hGn
       refine hK.out _ _ (fun _ => ?_) (fun hHeld => ?_)
       · exact hX.cell 2 rfl
       clear hK K
       have hHeld := hHeld (by decide)
       try simp only [Act.put, getElem_toArray, getElem_cons_zero, getElem_cons_succ, setIfInBounds_toArray, set_cons_zero, set_cons_succ]
       refine Ways.takeS (i := 10) (v := ?_) rfl (by kernel_rfl) (fun _ _ _ h => h) (Or.inl ⟨by rfl, ?_⟩) hHeld ?_
       rotate_left
       · (intro w hSw; (try dsimp only at hSw); go_simp; try with_reducible rfl)
       try simp only [Act.put, getElem_toArray, getElem_cons_zero, getElem_cons_succ, setIfInBounds_toArray, set_cons_zero, set_cons_succ]
       refine Ways.takeS (i := 11) (v := ?_) rfl (by kernel_rfl) (fun _ _ _ h => h) (Or.inl ⟨by rfl, ?_⟩) hHeld ?_
       rotate_left
       · (intro w hSw; (try dsimp only at hSw); go_simp; try with_reducible rfl)
       try simp only [Act.put, getElem_toArray, getElem_cons_zero, getElem_cons_succ, setIfInBounds_toArray, set_cons_zero, set_cons_succ]
       refine Ways.takeS (i := 12) (v := ?_) rfl (by kernel_rfl) (fun _ _ _ h => h) (Or.inl ⟨by rfl, ?_⟩) hHeld ?_
       rotate_left
       · (intro w hSw; (try dsimp only at hSw); go_simp; try with_reducible rfl)
       try simp only [Act.put, getElem_toArray, getElem_cons_zero, getElem_cons_succ, setIfInBounds_toArray, set_cons_zero, set_cons_succ]
       refine Ways.done (by kernel_rfl) ?_
       go_wp2_with fail
       go_ret3
       exact SecondOut.ok E.out HTL.out.1.symm HTL.out.2.symm rfl hG htb hub
   · go_simp
     have hB8 := hG.newBlk 24 #[.slice (Option.map (fun x => x.add 32) ja) (bl - 32) (jb - 32)]
     (try have hB3 := hB3.alloc (.cells #[.slice (Option.map (fun x => x.add 32) ja) (bl - 32) (jb - 32)] 24))
     have hX := hX.alloc (.cells #[.slice (Option.map (fun x => x.add 32) ja) (bl - 32) (jb - 32)] 24)
     have hG := hG.alloc (.cells #[.slice (Option.map (fun x => x.add 32) ja) (bl - 32) (jb - 32)] 24)
     (try simp only [drew_heap, size_alloc] at hB8)
     refine hK.out _ _ (fun _ => ?_) (fun hHeld => ?_)
     · exact hX.cell 2 rfl
     clear hK K
     have hHeld := hHeld (by decide)
     try simp only [Act.put, getElem_toArray, getElem_cons_zero, getElem_cons_succ, setIfInBounds_toArray, set_cons_zero, set_cons_succ]
     refine Ways.one (i := 3) rfl (by kernel_rfl) (fun K hK => ?_)
     go_simp
     have hB3 := hG.newBlk 24 #[.slice ja 32 jb]
     (try have hB8 := hB8.alloc (.cells #[.slice ja 32 jb] 24))
     have hX := hX.alloc (.cells #[.slice ja 32 jb] 24)
     have hG := hG.alloc (.cells #[.slice ja 32 jb] 24)
     (try simp only [drew_heap, size_alloc] at hB3)
     refine hK.out _ _ (fun _ => ?_) (fun hHeld => ?_)
     · exact hX.cell 2 rfl
     clear hK K
     have hHeld := hHeld (by decide)
     try simp only [Act.put, getElem_toArray, getElem_cons_zero, getElem_cons_succ, setIfInBounds_toArray, set_cons_zero, set_cons_succ]
     refine Ways.one (i := 4) rfl (by kernel_rfl) (fun K hK => ?_)
     go_simp
     refine (ref_Join1 (x := bs.take 32) (by have := HTL.out; have := HL.out; omega) _ (SrcR.one' hB3 HTL.out.1 (Src.of_row (HT.out.mono HLE.out).row hG.holds))).mono ?_
     rintro e w4 ⟨r, rfl, hf⟩
     obtain ⟨TA4, tc4, rfl, hjunk⟩ := hf.own.form
     clear hjunk
     rw [HTL.out.1] at hf ⊢
     obtain ⟨H4, hGn, htb, hjunk⟩ := Fresh.snapB hG.holds hf
     clear hjunk
     have hX := hX.below hf.2
     (try have hB8 := hB8.below hf.2)
     (try have hub := hub.mono hGn.le)
     have HLE := Lib.hid (HLE.out.trans hGn.le)
     have hG := hG.trans hGn
     clear hf hGn
     refine hK.out _ _ (fun _ => ?_) (fun hHeld => ?_)
     · exact hX.cell 2 rfl
     clear hK K
     have hHeld := hHeld (by decide)
     try simp only [Act.put, getElem_toArray, getElem_cons_zero, getElem_cons_succ, setIfInBounds_toArray, set_cons_zero, set_cons_succ]
     refine Ways.one (i := 9) rfl (by kernel_rfl) (fun K hK => ?_)
     go_simp
     refine (ref_Join1 (x := bs.drop 32) (by have := HTL.out; have := HL.out; omega) _ (SrcR.one' hB8 HTL.out.2 (Src.of_row (HD.out.mono HLE.out).row hG.holds))).mono ?_
     rintro e w9 ⟨r, rfl, hf⟩
     obtain ⟨TA9, tc9, rfl, hjunk⟩ := hf.own.form
     clear hjunk
     rw [HTL.out.2] at hf ⊢
     obtain ⟨H9, hGn, hub, hjunk⟩ := Fresh.snapB hG.holds hf
     clear hjunk
     have hX := hX.below hf.2
     (try have hB3 := hB3.below hf.2)
     (try have htb := htb.mono hGn.le)
     have HLE := Lib.hid (HLE.out.trans hGn.le)
     have hG := hG.trans hGn
     clear hf hGn
     refine hK.out _ _ (fun _ => ?_) (fun hHeld => ?_)
     · exact hX.cell 2 rfl
     clear hK K
     have hHeld := hHeld (by decide)
     try simp only [Act.put, getElem_toArray, getElem_cons_zero, getElem_cons_succ, setIfInBounds_toArray, set_cons_zero, set_cons_succ]
     refine Ways.takeS (i := 10) (v := ?_) rfl (by kernel_rfl) (fun _ _ _ h => h) (Or.inl ⟨by rfl, ?_⟩) hHeld ?_
     rotate_left
     · (intro w hSw; (try dsimp only at hSw); go_simp; try with_reducible rfl)
     try simp only [Act.put, getElem_toArray, getElem_cons_zero, getElem_cons_succ, setIfInBounds_toArray, set_cons_zero, set_cons_succ]
     refine Ways.takeS (i := 11) (v := ?_) rfl (by kernel_rfl) (fun _ _ _ h => h) (Or.inl ⟨by rfl, ?_⟩) hHeld ?_
     rotate_left
     · (intro w hSw; (try dsimp only at hSw); go_simp; try with_reducible rfl)
     try simp only [Act.put, getElem_toArray, getElem_cons_zero, getElem_cons_succ, setIfInBounds_toArray, set_cons_zero, set_cons_succ]
     refine Ways.takeS (i := 12) (v := ?_) rfl (by kernel_rfl) (fun _ _ _ h => h) (Or.inl ⟨by rfl, ?_⟩) hHeld ?_
     rotate_left
     · (intro w hSw; (try dsimp only at hSw); go_simp; try with_reducible rfl)
     try simp only [Act.put, getElem_toArray, getElem_cons_zero, getElem_cons_succ, setIfInBounds_toArray, set_cons_zero, set_cons_succ]
     refine Ways.done (by kernel_rfl) ?_
     go_wp2_with fail
     go_ret3
     exact SecondOut.ok E.out HTL.out.1.symm HTL.out.2.symm rfl hG htb hub
end Go.Proofs.YtlebpackbfcfeaaDoor
