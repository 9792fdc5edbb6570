/- squeezed. Walks: reading the second message, the program. -/
import Derived.Test.YtlebpackbfcfeaaDoorJ44
set_option linter.unusedVariables false
set_option linter.unusedSimpArgs false
open List (getElem_toArray getElem_cons_zero getElem_cons_succ setIfInBounds_toArray set_cons_zero set_cons_succ)
namespace Go.Proofs.YtlebpackbfcfeaaDoor
open Go.RowKit

theorem decode_err {l : List UInt8} {q : Nat} (h : decodeP l = .error q) : q ≠ 0 := by
 unfold decodeP at h
 split at h
 · injection h with h; omega
 · split at h
   · rename_i e hp
     injection h with h
     subst h
     exact parse_err _ _ _ _ hp
   · split at h
     · injection h with h; omega
     · cases h
def SecondOut (w : World) (H : Snap) (r : Except Nat (List UInt8 × List UInt8)) (e : Ending) (w' : World) : Prop :=
 match r with
 | .error q => e = .returned (.tuple #[.slice none 0 0, .slice none 0 0, .int .i64 (q : Int)]) ∧ Below w.heap.size w w'
 | .ok (a, b) => ∃ A c B d H', e = .returned (.tuple #[.slice A a.length c, .slice B b.length d, .int .i64 0]) ∧ Grows w H w' H' ∧ IsBytes H' A c a ∧ IsBytes H' B d b
theorem SecondOut.err {w w' : World} {H : Snap} {r : Except Nat (List UInt8 × List UInt8)} {e : Ending} {q : Nat} (hr : r = .error q) (he : e = .returned (.tuple #[.slice none 0 0, .slice none 0 0, .int .i64 (q : Int)])) (hb : Below w.heap.size w w') : SecondOut w H r e w' := by
 subst hr; exact ⟨he, hb⟩
theorem SecondOut.ok {w w' : World} {H H' : Snap} {r : Except Nat (List UInt8 × List UInt8)} {e : Ending} {a b : List UInt8} {A B : Option Addr} {n m c d : Nat} (hr : r = .ok (a, b)) (hn : n = a.length) (hm : m = b.length) (he : e = .returned (.tuple #[.slice A n c, .slice B m d, .int .i64 0])) (hg : Grows w H w' H') (ha : IsBytes H' A c a) (hb : IsBytes H' B d b) : SecondOut w H r e w' := by
 subst hr hn hm; exact ⟨A, c, B, d, H', he, hg, ha, hb⟩
set_option maxRecDepth 100000 in
set_option maxHeartbeats 6400000 in
theorem e_DecodeSecond {H : Snap} (hTab : Tabs H) (w : World) (hH : Holds w H) {A : Option Addr} {n c : Nat} {l : List UInt8} (hn : n = l.length) (hl : IsBytes H A c l) :
   Calls Tryd.prog 31 #[.slice A n c] w (SecondOut w H (decSecond l)) := by
 have DC := Lib.hid (cbor_Decode hTab w hH hn hl)
 have HN := Lib.hid hn
 have HH := Lib.hid hH
 clear hTab hn hl hH
 go_enter Tryd.func31, Tryd.ntmps31
 by_cases c1 : 635 < n
 · have c1a : (635 : Int) < (n : Int) := by omega
   have c1d : decide ((635 : Int) < (n : Int)) = true := decide_eq_true c1a
   have c1n : decide (635 < n) = true := decide_eq_true c1
   have E : Hid (decSecond l = .error 8) := by rw [Hid, decSecond, if_pos (by have := HN.out; omega)]
   clear DC
   go_wp2_with fail
   go_ret3
   exact SecondOut.err (q := 8) E.out rfl (Below.refl _ _)
 have c1a : ¬ ((635 : Int) < (n : Int)) := by omega
 have c1d : decide ((635 : Int) < (n : Int)) = false := decide_eq_false c1a
 have c1n : decide (635 < n) = false := decide_eq_false c1
 have E0 : Hid (decSecond l = match decodeP l with
   | .error e => .error e
   | .ok x => if x.kind ≠ 2 then .error 4 else if x.bytes.length < 33 then .error 2 else if 632 < x.bytes.length then .error 8 else .ok (x.bytes.take 32, x.bytes.drop 32)) := by
   rw [Hid, decSecond, if_neg (by have := HN.out; omega)]
   rfl
 clear c1
 go_wp2_with fail
 refine DC.out.mono ?_
 intro e w2 hs
 unfold DecodeOut at hs
 clear DC
 cases hd : decodeP l with
 | error q =>
   rw [hd] at hs
   obtain ⟨rfl, hb2⟩ := hs
   have E : Hid (decSecond l = .error q) := by rw [Hid, E0.out, hd]
   have hq0 : ((q : Int) != 0) = true := by rw [bne_iff_ne]; have := decode_err hd; omega
   have hq0' : ((q : Int) = 0) = False := eq_false (by have := decode_err hd; omega)
   have hX0 := Blk.new w2 69 #[.int .i64 0, .int .u64 0, .slice none 0 0, .slice none 0 0]
   have hb3 := hb2.alloc hb2.size zeroO
   have HSZ := Lib.hid hb2.size
   clear hd E0 hb2
   go_wp2_with (with_reducible refine stop_store ?_)
   unfold Stopped
   refine wpList_store_item rfl _ _ _ rfl rfl _ _ rfl rfl _ _ hX0 size_item rfl (one4 _ _ _ _ rfl rfl rfl rfl) fun w4 hX4 hg4 => ?_
   have hb4 := below_of_grown hb3 hg4 (by rintro q ⟨⟩; exact HSZ.out)
   go_wp2_with fail
   go_ret3
   exact SecondOut.err E.out rfl hb4
 | ok x =>
   rw [hd] at hs
   obtain ⟨ja, jb, jc, jd, H2, rfl, hG2, hi2⟩ := hs
   have E1 : Hid (decSecond l = if x.kind ≠ 2 then .error 4 else if x.bytes.length < 33 then .error 2 else if 632 < x.bytes.length then .error 8 else .ok (x.bytes.take 32, x.bytes.drop 32)) := by rw [Hid, E0.out, hd]
   have hX0 := Blk.new w2 69 #[.int .i64 0, .int .u64 0, .slice none 0 0, .slice none 0 0]
   have hXn : H2 w2.heap.size = none := hG2.holds.none_of_ge (Nat.le_refl _)
   have hG3 := hG2.alloc zeroO
   have HSZ := Lib.hid hG2.below.size
   have HBY := Lib.hid hi2.bytes
   obtain ⟨bl, hbl⟩ : ∃ bl, x.bytes.length = bl := ⟨_, rfl⟩
   have HBL := Lib.hid hbl
   clear hd E0
   go_wp2_with (with_reducible refine stop_store ?_)
   unfold Stopped
   refine wpList_store_item rfl _ _ _ rfl rfl _ _ rfl rfl _ _ hX0 size_item rfl (one4 _ _ _ _ rfl rfl rfl rfl) fun w4 hX4 hg4 => ?_
   have hG4 := hG3.grownOwn hXn HSZ.out hg4
   rw [hbl] at hX4
   obtain ⟨kd, hkd⟩ : ∃ kd, x.kind = kd := ⟨_, rfl⟩
   rw [hkd] at hX4 E1
   have b0 := hX4.cell 0 rfl
   have b2 := hX4.cell 2 rfl
   clear hX0 hg4 hbl hkd hG3 hi2
   by_cases c2 : kd = 2
   case neg =>
     have c2a : (kd != 2) = true := by rw [bne_iff_ne]; exact c2
     have c2b : (kd = 2) = False := eq_false c2
     have E : Hid (decSecond l = .error 4) := by rw [Hid, E1.out, if_pos c2]
     go_wp2_with fail
     go_ret3
     exact SecondOut.err (q := 4) E.out rfl hG4.below
   subst c2
   by_cases c3 : bl < 33
   · have c3a : (bl : Int) < 33 := by omega
     have c3d : decide ((bl : Int) < 33) = true := decide_eq_true c3a
     have c3n : decide (bl < 33) = true := decide_eq_true c3
     have E : Hid (decSecond l = .error 2) := by rw [Hid, E1.out, if_neg (by simp), if_pos (by have := HBL.out; omega)]
     go_wp2_with fail
     go_ret3
     exact SecondOut.err (q := 2) E.out rfl hG4.below
   have c3a : ¬ ((bl : Int) < 33) := by omega
   have c3d : decide ((bl : Int) < 33) = false := decide_eq_false c3a
   have c3n : decide (bl < 33) = false := decide_eq_false c3
   by_cases c4 : 632 < bl
   · have c4a : (632 : Int) < (bl : Int) := by omega
     have c4d : decide ((632 : Int) < (bl : Int)) = true := decide_eq_true c4a
     have c4n : decide (632 < bl) = true := decide_eq_true c4
     have E : Hid (decSecond l = .error 8) := by rw [Hid, E1.out, if_neg (by simp), if_neg (by have := HBL.out; omega), if_pos (by have := HBL.out; omega)]
     go_wp2_with fail
     go_ret3
     exact SecondOut.err (q := 8) E.out rfl hG4.below
   have c4a : ¬ ((632 : Int) < (bl : Int)) := by omega
   have c4d : decide ((632 : Int) < (bl : Int)) = false := decide_eq_false c4a
   have c4n : decide (632 < bl) = false := decide_eq_false c4
   have E : Hid (decSecond l = .ok (x.bytes.take 32, x.bytes.drop 32)) := by rw [Hid, E1.out, if_neg (by simp), if_neg (by have := HBL.out; omega), if_neg (by have := HBL.out; omega)]
   obtain ⟨bs, hbs⟩ : ∃ bs, x.bytes = bs := ⟨_, rfl⟩
   rw [hbs] at HBY HBL E
   have hjb := HBY.out.le
   have HL := Lib.hid (show bs.length = bl ∧ 33 ≤ bl ∧ bl ≤ 632 ∧ bl ≤ jb from ⟨HBL.out, by omega, by omega, by have := HBL.out; omega⟩)
   have n1 : 32 ≤ bl := by omega
   have n2 : bl ≤ jb := HL.out.2.2.2
   have n3 : 32 ≤ jb := by omega
   have n4 : (jb = 32) = False := eq_false (by have := HL.out; omega)
   have i1 : (32 : Int) ≤ (bl : Int) := by omega
   have i2 : (bl : Int) ≤ (jb : Int) := by omega
   have i3 : (32 : Int) ≤ (jb : Int) := by omega
   have HT := Lib.hid (HBY.out.take 32)
   have HD := Lib.hid (show IsBytes H2 (Option.map (fun x => x.add 32) ja) (jb - 32) (bs.drop 32) by have h := HBY.out.drop 32 (by have := HL.out; omega); rwa [if_neg (by have := HL.out; omega)] at h)
   have HTL := Lib.hid (show (bs.take 32).length = 32 ∧ (bs.drop 32).length = bl - 32 by rw [List.length_take, List.length_drop]; have := HL.out; omega)
   have HG4 := Lib.hid hG4
   clear hbs hjb E1 c3 c4 hG2
   go_upto_region 12 with fail
   refine wp_region_ways 11 (fun w' => w'.cell? ⟨w2.heap.size, 2, none⟩ = some (.slice ja bl jb)) (by kernel_rfl) (b2) (fun hHeld => ?_)
   refine Ways.takeS (i := 0) (v := ?_) rfl (by kernel_rfl) (fun _ _ _ h => h) (Or.inl ⟨by rfl, ?_⟩) hHeld ?_
   rotate_left
   · (intro w hSw; (try dsimp only at hSw); go_simp; try with_reducible rfl)
   try simp only [Act.put, getElem_toArray, getElem_cons_zero, getElem_cons_succ, setIfInBounds_toArray, set_cons_zero, set_cons_succ]
   refine Ways.takeS (i := 1) (v := ?_) rfl (by kernel_rfl) (fun _ _ _ h => h) (Or.inl ⟨by rfl, ?_⟩) hHeld ?_
   rotate_left
   · (intro w hSw; (try dsimp only at hSw); go_simp; try with_reducible rfl)
   try simp only [Act.put, getElem_toArray, getElem_cons_zero, getElem_cons_succ, setIfInBounds_toArray, set_cons_zero, set_cons_succ]
   refine Ways.takeS (i := 2) (v := ?_) rfl (by kernel_rfl) (fun _ _ _ h => h) (Or.inl ⟨by rfl, ?_⟩) hHeld ?_
   rotate_left
   · (intro w hSw; (try dsimp only at hSw); go_simp; try with_reducible rfl)
   try simp only [Act.put, getElem_toArray, getElem_cons_zero, getElem_cons_succ, setIfInBounds_toArray, set_cons_zero, set_cons_succ]
   refine Ways.takeS (i := 4) (v := ?_) rfl (by kernel_rfl) (fun _ _ _ h => h) (Or.inl ⟨by rfl, ?_⟩) hHeld ?_
   rotate_left
   · (intro w hSw; (try dsimp only at hSw); go_simp; try with_reducible rfl)
   try simp only [Act.put, getElem_toArray, getElem_cons_zero, getElem_cons_succ, setIfInBounds_toArray, set_cons_zero, set_cons_succ]
   refine Ways.takeS (i := 5) (v := ?_) rfl (by kernel_rfl) (fun _ _ _ h => h) (Or.inl ⟨by rfl, ?_⟩) hHeld ?_
   rotate_left
   · (intro w hSw; (try dsimp only at hSw); go_simp; try with_reducible rfl)
   try simp only [Act.put, getElem_toArray, getElem_cons_zero, getElem_cons_succ, setIfInBounds_toArray, set_cons_zero, set_cons_succ]
   refine Ways.takeS (i := 6) (v := ?_) rfl (by kernel_rfl) (fun _ _ _ h => h) (Or.inl ⟨by rfl, ?_⟩) hHeld ?_
   rotate_left
   · (intro w hSw; (try dsimp only at hSw); go_simp; try with_reducible rfl)
   try simp only [Act.put, getElem_toArray, getElem_cons_zero, getElem_cons_succ, setIfInBounds_toArray, set_cons_zero, set_cons_succ]
   refine Ways.one (i := 3) rfl (by kernel_rfl) (fun K hK => ?_)
   have hGa := HG4.out.drew
   refine wp_app_bytes (.const (.slice none 0 0)) (.tmp 35) rfl _ (.slice none 0 0) [] rfl (OwnB.nil _ _) _ _ _ (bs.take 32) rfl HTL.out.1.symm (Src.of_row HT.out.row hGa.holds) (by have := HTL.out.1; simp only [List.length_nil]; omega) (Nat.le_refl _) fun v' w5 hO5 hg5 hat5 => ?_
   rw [List.nil_append] at hO5
   have hb5 := grown_none (by simpa [Value.ownBlock] using hg5)
   have hX5 := (hX4.drew).below hb5
   obtain ⟨TA, tc, rfl, hjunk⟩ := hO5.form
   clear hjunk hg5 hat5
   rw [HTL.out.1] at hO5 ⊢
   obtain ⟨H5, hG5, htb, hjunk⟩ := Fresh.snapB hGa.holds ⟨hO5, hb5⟩
   clear hjunk
   have HLE5 := hG5.le
   have hG5 := hGa.trans hG5
   go_simp
   refine hK.out _ _ (fun _ => ?_) (fun hHeld => ?_)
   · exact hX5.cell 2 rfl
   clear hK K
   have hHeld := hHeld (by decide)
   try simp only [Act.put, getElem_toArray, getElem_cons_zero, getElem_cons_succ, setIfInBounds_toArray, set_cons_zero, set_cons_succ]
   refine Ways.one (i := 7) rfl (by kernel_rfl) (fun K hK => ?_)
   refine wp_app_bytes (.const (.slice none 0 0)) (.tmp 39) rfl _ (.slice none 0 0) [] rfl (OwnB.nil _ _) _ _ _ (bs.drop 32) rfl HTL.out.2.symm (Src.of_row (HD.out.mono HLE5).row hG5.holds) (by have := HTL.out.2; have := HL.out; simp only [List.length_nil]; omega) (Nat.le_refl _) fun v' w6 hO6 hg6 hat6 => ?_
   rw [List.nil_append] at hO6
   have hb6 := grown_none (by simpa [Value.ownBlock] using hg6)
   have hX6 := hX5.below hb6
   obtain ⟨UA, uc, rfl, hjunk⟩ := hO6.form
   clear hjunk hg6 hat6
   rw [HTL.out.2] at hO6 ⊢
   obtain ⟨H6, hG6, hub, hjunk⟩ := Fresh.snapB hG5.holds ⟨hO6, hb6⟩
   clear hjunk
   have htb6 := htb.mono hG6.le
   have hG6 := hG5.trans hG6
   go_simp
   refine hK.out _ _ (fun _ => ?_) (fun hHeld => ?_)
   · exact hX6.cell 2 rfl
   clear hK K
   have hHeld := hHeld (by decide)
   try simp only [Act.put, getElem_toArray, getElem_cons_zero, getElem_cons_succ, setIfInBounds_toArray, set_cons_zero, set_cons_succ]
   refine Ways.takeS (i := 8) (v := ?_) rfl (by kernel_rfl) (fun _ _ _ h => h) (Or.inl ⟨by rfl, ?_⟩) hHeld ?_
   rotate_left
   · (intro w hSw; (try dsimp only at hSw); go_simp; try with_reducible rfl)
   try simp only [Act.put, getElem_toArray, getElem_cons_zero, getElem_cons_succ, setIfInBounds_toArray, set_cons_zero, set_cons_succ]
   refine Ways.takeS (i := 9) (v := ?_) rfl (by kernel_rfl) (fun _ _ _ h => h) (Or.inl ⟨by rfl, ?_⟩) hHeld ?_
   rotate_left
   · (intro w hSw; (try dsimp only at hSw); go_simp; try with_reducible rfl)
   try simp only [Act.put, getElem_toArray, getElem_cons_zero, getElem_cons_succ, setIfInBounds_toArray, set_cons_zero, set_cons_succ]
   refine Ways.takeS (i := 10) (v := ?_) rfl (by kernel_rfl) (fun _ _ _ h => h) (Or.inl ⟨by rfl, ?_⟩) hHeld ?_
   rotate_left
   · (intro w hSw; (try dsimp only at hSw); go_simp; try with_reducible rfl)
   try simp only [Act.put, getElem_toArray, getElem_cons_zero, getElem_cons_succ, setIfInBounds_toArray, set_cons_zero, set_cons_succ]
   refine Ways.done (by kernel_rfl) ?_
   go_wp2_with fail
   go_ret3
   exact SecondOut.ok E.out HTL.out.1.symm HTL.out.2.symm rfl hG6 htb6 hub
end Go.Proofs.YtlebpackbfcfeaaDoor
