/- Walks: header.pairs, number, permitted. -/
import Derived.Test.YtdbhgngikglmcaaDoorWcborD
set_option linter.unusedVariables false
set_option linter.unusedSimpArgs false
namespace Go.Proofs.YtdbhgngikglmcaaDoor
open Go.RowKit

theorem info_pair : (Tryd.prog.info? 90).map (fun i => (i.zero, i.size, i.bytes)) = some (some (.agg #[.int .i64 0, .int .u64 0, .slice none 0 0, .slice none 0 0, .int .i64 0, .int .u64 0, .slice none 0 0, .slice none 0 0]), 8, 128) := by kernel_rfl

set_option maxRecDepth 100000 in
set_option maxHeartbeats 3200000 in
theorem header_pairs {H : Snap} {k n : Int} {ba : Option Addr} {bl bc : Nat} {ia : Option Addr} {il ic : Nat} {x : Itm} (hx : ItemA H k n ba bl bc ia il ic x) (heven : x.items.length % 2 = 0) (hlen : x.items.length ≤ 1099511627776) (w : World) (hH : Holds w H) :
    Calls Tryd.prog 51 #[.agg #[.int .i64 k, .int .u64 n, .slice ba bl bc, .slice ia il ic]] w
      fun e w' => ∃ A c cs, e = .returned (.slice A (x.items.length / 2) c) ∧ Src w' A cs ∧ ItemsC H cs x.items ∧ Below w.heap.size w w' := by
  obtain ⟨rfl, rfl, rfl, rfl, hxi⟩ := hx.eqs
  have HX := Lib.hid hxi
  have HE := Lib.hid heven
  have hB1 := Blk.new w 26 #[.int .i64 x.kind, .int .u64 x.n, .slice ba x.bytes.length bc, .slice ia x.items.length ic]
  have HB0 := Lib.hid (below_box w (itemO x ba bc ia ic))
  obtain ⟨i0, hi0, hz0, hz1, hz2⟩ := info_parts info_pair
  clear hxi hx heven
  go_enter Tryd.func51, Tryd.ntmps51
  go_upto_region 3 with fail
  go_loopw [3, 4] (fun v3 v4 wr => ∃ (k : Nat) (VA : Option Addr) (vc : Nat) (pre : List Value), k * 2 ≤ x.items.length ∧ v4 = .int .i64 ((k : Int) * 2) ∧ v3 = .slice VA k vc ∧ Below w.heap.size w wr ∧
    Blk wr w.heap.size 26 #[.int .i64 x.kind, .int .u64 x.n, .slice ba x.bytes.length bc, .slice ia x.items.length ic] ∧ wr.ownsRow (w.heap.size + 1) 90 8 (.slice VA k vc) k pre ∧ ItemsC H pre (x.items.take (k * 2))) (fun _ v4 _ => x.items.length - (intOf v4).toNat)
  case atStart => exact ⟨0, none, 0, [], by omega, rfl, rfl, HB0.out, hB1, World.ownsRow_nil _ _ _ _, by simp [ItemsC]⟩
  case round =>
    obtain ⟨k, VA, vc, pre, hk, rfl, rfl, hb, hC1, hown, hpre⟩ := hrel
    have c3 := hC1.cell 3 rfl
    have hw1 : IntKind.i64.wrap ((k : Int) * 2 + 1) = (k : Int) * 2 + 1 := IntWalk.i64_in _ (by omega)
    have hw2 : IntKind.i64.wrap ((k : Int) * 2 + 2) = (k : Int) * 2 + 2 := IntWalk.i64_in _ (by omega)
    have ht1 : ((k : Int) * 2 + 1).toNat = k * 2 + 1 := by omega
    have ht0 : ((k : Int) * 2).toNat = k * 2 := by omega
    by_cases hlt : k * 2 < x.items.length
    · have heven := HE.out
      have hlt1 : k * 2 + 1 < x.items.length := by omega
      have hi1 : (k : Int) * 2 + 1 < x.items.length := by omega
      have hi2 : (k : Int) * 2 < x.items.length := by omega
      have hj1 : (0 : Int) ≤ (k : Int) * 2 + 1 := by omega
      have hj2 : (0 : Int) ≤ (k : Int) * 2 := by omega
      obtain ⟨ib, io, hia, hel⟩ := HX.out.items (by omega)
      subst hia
      obtain ⟨y1, y2, y3, y4, p0, p1, p2, p3, hy⟩ := hel.get (k * 2) hlt
      obtain ⟨z1, z2, z3, z4, q0, q1, q2, q3, hz⟩ := hel.get (k * 2 + 1) hlt1
      have htk : x.items.take (k * 2) ++ [x.items[k * 2], x.items[k * 2 + 1]] = x.items.take ((k + 1) * 2) := by
        rw [show (k + 1) * 2 = k * 2 + 1 + 1 by omega, List.take_succ_eq_append_getElem hlt1, List.take_succ_eq_append_getElem hlt]
        simp only [List.append_assoc, List.cons_append, List.nil_append]
      generalize x.items[k * 2]'hlt = y at *
      generalize x.items[k * 2 + 1]'hlt1 = z at *
      have hyz : ItemsC H (itemC y y1 y2 y3 y4 ++ itemC z z1 z2 z3 z4) [y, z] := (ItemsC.one hy).app (ItemsC.one hz)
      have hHr : Holds wr H := hH.below hb (Nat.le_refl _)
      clear hel
      go_upto_region 5 with fail
      refine wp_region_ways 15 (fun w' => w'.cell? ⟨w.heap.size, 3, none⟩ = some (.slice (some ⟨ib, io, none⟩) x.items.length ic) ∧ w'.cell? ⟨ib, io + (k * 2) * 4, none⟩ = some (.int .i64 y.kind) ∧ w'.cell? ⟨ib, io + (k * 2) * 4 + 1, none⟩ = some (.int .u64 y.n) ∧ w'.cell? ⟨ib, io + (k * 2) * 4 + 2, none⟩ = some (.slice y1 y.bytes.length y2) ∧ w'.cell? ⟨ib, io + (k * 2) * 4 + 3, none⟩ = some (.slice y3 y.items.length y4) ∧ w'.cell? ⟨ib, io + (k * 2 + 1) * 4, none⟩ = some (.int .i64 z.kind) ∧ w'.cell? ⟨ib, io + (k * 2 + 1) * 4 + 1, none⟩ = some (.int .u64 z.n) ∧ w'.cell? ⟨ib, io + (k * 2 + 1) * 4 + 2, none⟩ = some (.slice z1 z.bytes.length z2) ∧ w'.cell? ⟨ib, io + (k * 2 + 1) * 4 + 3, none⟩ = some (.slice z3 z.items.length z4)) (by kernel_rfl) (⟨hC1.drew.cell 3 rfl, hHr.drew.cell p0, hHr.drew.cell p1, hHr.drew.cell p2, hHr.drew.cell p3, hHr.drew.cell q0, hHr.drew.cell q1, hHr.drew.cell q2, hHr.drew.cell q3⟩) (fun hHeld => ?_)
      refine Ways.take (i := 0) (v := ?_) rfl (by kernel_rfl) (fun _ _ _ h => h) (Or.inl ⟨by rfl, ?_⟩) hHeld ?_
      rotate_left
      · (intro w hSw; (try dsimp only at hSw); go_simp; try with_reducible rfl)
      try simp only [Act.put, List.setIfInBounds_toArray, List.set_cons_zero, List.set_cons_succ]
      refine Ways.take (i := 1) (v := ?_) rfl (by kernel_rfl) (fun _ _ _ h => h) (Or.inl ⟨by rfl, ?_⟩) hHeld ?_
      rotate_left
      · (intro w hSw; (try dsimp only at hSw); go_simp; try with_reducible rfl)
      try simp only [Act.put, List.setIfInBounds_toArray, List.set_cons_zero, List.set_cons_succ]
      refine Ways.take (i := 2) (v := ?_) rfl (by kernel_rfl) (fun _ _ _ h => h) (Or.inl ⟨by rfl, ?_⟩) hHeld ?_
      rotate_left
      · (intro w hSw; (try dsimp only at hSw); go_simp; try with_reducible rfl)
      try simp only [Act.put, List.setIfInBounds_toArray, List.set_cons_zero, List.set_cons_succ]
      refine Ways.take (i := 3) (v := ?_) rfl (by kernel_rfl) (fun _ _ _ h => h) (Or.inl ⟨by rfl, ?_⟩) hHeld ?_
      rotate_left
      · (intro w hSw; (try dsimp only at hSw); go_simp; try with_reducible rfl)
      try simp only [Act.put, List.setIfInBounds_toArray, List.set_cons_zero, List.set_cons_succ]
      refine Ways.take (i := 4) (v := ?_) rfl (by kernel_rfl) (fun _ _ _ h => h) (Or.inl ⟨by rfl, ?_⟩) hHeld ?_
      rotate_left
      · (intro w hSw; (try dsimp only at hSw); go_simp; try with_reducible rfl)
      try simp only [Act.put, List.setIfInBounds_toArray, List.set_cons_zero, List.set_cons_succ]
      refine Ways.take (i := 5) (v := ?_) rfl (by kernel_rfl) (fun _ _ _ h => h) (Or.inl ⟨by rfl, ?_⟩) hHeld ?_
      rotate_left
      · (intro w hSw; (try dsimp only at hSw); go_simp; try with_reducible rfl)
      try simp only [Act.put, List.setIfInBounds_toArray, List.set_cons_zero, List.set_cons_succ]
      refine Ways.take (i := 6) (v := ?_) rfl (by kernel_rfl) (fun _ _ _ h => h) (Or.inl ⟨by rfl, ?_⟩) hHeld ?_
      rotate_left
      · (intro w hSw; (try dsimp only at hSw); go_simp; try with_reducible rfl)
      try simp only [Act.put, List.setIfInBounds_toArray, List.set_cons_zero, List.set_cons_succ]
      refine Ways.take (i := 7) (v := ?_) rfl (by kernel_rfl) (fun _ _ _ h => h) (Or.inl ⟨by rfl, ?_⟩) hHeld ?_
      rotate_left
      · (intro w hSw; (try dsimp only at hSw); go_simp; try with_reducible rfl)
      try simp only [Act.put, List.setIfInBounds_toArray, List.set_cons_zero, List.set_cons_succ]
      refine Ways.take (i := 8) (v := ?_) rfl (by kernel_rfl) (fun _ _ _ h => h) (Or.inl ⟨by rfl, ?_⟩) hHeld ?_
      rotate_left
      · (intro w hSw; (try dsimp only at hSw); go_simp; try with_reducible rfl)
      try simp only [Act.put, List.setIfInBounds_toArray, List.set_cons_zero, List.set_cons_succ]
      refine Ways.take (i := 9) (v := ?_) rfl (by kernel_rfl) (fun _ _ _ h => h) (Or.inl ⟨by rfl, ?_⟩) hHeld ?_
      rotate_left
      · (intro w hSw; (try dsimp only at hSw); go_simp; try with_reducible rfl)
      try simp only [Act.put, List.setIfInBounds_toArray, List.set_cons_zero, List.set_cons_succ]
      refine Ways.take (i := 10) (v := ?_) rfl (by kernel_rfl) (fun _ _ _ h => h) (Or.inl ⟨by rfl, ?_⟩) hHeld ?_
      rotate_left
      · (intro w hSw; (try dsimp only at hSw); go_simp; try with_reducible rfl)
      try simp only [Act.put, List.setIfInBounds_toArray, List.set_cons_zero, List.set_cons_succ]
      refine Ways.take (i := 11) (v := ?_) rfl (by kernel_rfl) (fun _ _ _ h => h) (Or.inl ⟨by rfl, ?_⟩) hHeld ?_
      rotate_left
      · (intro w hSw; (try dsimp only at hSw); go_simp; try with_reducible rfl)
      try simp only [Act.put, List.setIfInBounds_toArray, List.set_cons_zero, List.set_cons_succ]
      refine Ways.take (i := 12) (v := ?_) rfl (by kernel_rfl) (fun _ _ _ h => h) (Or.inl ⟨by rfl, ?_⟩) hHeld ?_
      rotate_left
      · (intro w hSw; (try dsimp only at hSw); go_simp; try with_reducible rfl)
      try simp only [Act.put, List.setIfInBounds_toArray, List.set_cons_zero, List.set_cons_succ]
      refine Ways.one (i := 13) rfl (by kernel_rfl) (fun K hK => ?_)
      go_simp
      have hE := World.ownsRow.alloc hown.drew (.cells (itemC y y1 y2 y3 y4 ++ itemC z z1 z2 z3 z4).toArray 90)
      have hD1 := hC1.drew.alloc (.cells (itemC y y1 y2 y3 y4 ++ itemC z z1 z2 z3 z4).toArray 90)
      have hHd := hHr.drew.alloc (.cells (itemC y y1 y2 y3 y4 ++ itemC z z1 z2 z3 z4).toArray 90)
      refine hK.out _ _ (fun _ => ?_) (fun hHeld => ?_)
      · exact ⟨hD1.cell 3 rfl, hHd.cell p0, hHd.cell p1, hHd.cell p2, hHd.cell p3, hHd.cell q0, hHd.cell q1, hHd.cell q2, hHd.cell q3⟩
      clear hK K
      have hHeld := hHeld (by decide)
      try simp only [Act.put, List.setIfInBounds_toArray, List.set_cons_zero, List.set_cons_succ]
      refine Ways.one (i := 14) rfl (by kernel_rfl) (fun K hK => ?_)
      rw [if_pos (by rfl)]
      refine wp_append_src (.tmp 13) (.tmp 26) 87 rfl (w.heap.size + 1) 90 i0 _ 8 128 Tryd.underlying87 hi0 hz0 hz1 hz2 rfl (by omega) (.slice VA k vc) k pre rfl hE _ 1 _ (itemC y y1 y2 y3 y4 ++ itemC z z1 z2 z3 z4) rfl (by simp [itemC]) (Src.new _ _ _ _ rfl _ rfl) (ItemsC.oneCell hyz) (by simp only [maxLen]; omega) (by omega) (by have := hC1.lt; simp; omega) fun v' w5 hown5 hg5 hat5 => ?_
      have hF1 := hD1.grown hg5 (fun h => by have := (World.ownsRow.lt hown _ h).1; omega)
      have hHe := hHd.grown hg5 (fun g hg => hH.none_of_ge (by have := (World.ownsRow.lt hown g hg).1; omega))
      refine hK.out _ _ (fun _ => ?_) (fun hHeld => ?_)
      · exact ⟨hF1.cell 3 rfl, hHe.cell p0, hHe.cell p1, hHe.cell p2, hHe.cell p3, hHe.cell q0, hHe.cell q1, hHe.cell q2, hHe.cell q3⟩
      clear hK K
      have hHeld := hHeld (by decide)
      try simp only [Act.put, List.setIfInBounds_toArray, List.set_cons_zero, List.set_cons_succ]
      refine Ways.one (i := 15) rfl (by kernel_rfl) (fun K hK => ?_)
      go_simp
      refine hK.out _ _ (fun h => absurd rfl h) (fun _ => ?_)
      clear hK K
      try simp only [Act.put, List.setIfInBounds_toArray, List.set_cons_zero, List.set_cons_succ]
      refine Ways.done (by kernel_rfl) ?_
      obtain ⟨VA', vc', rfl⟩ : ∃ A c, v' = .slice A (k + 1) c := by
        rcases hown5.2 with ⟨_, h⟩ | ⟨g, cap, cur, h, _⟩
        · omega
        · exact ⟨_, _, h⟩
      have hb5 : Below w.heap.size w w5 := ((hb.drew).alloc hb.size _).grown hg5 (by have := hb.size; simp; omega) (fun g hg => by have := (World.ownsRow.lt hown g hg).1; omega)
      have hpre5 : ItemsC H (pre ++ (itemC y y1 y2 y3 y4 ++ itemC z z1 z2 z3 z4)) (x.items.take ((k + 1) * 2)) := by rw [← htk]; exact hpre.app hyz
      clear hHeld p0 p1 p2 p3 q0 q1 q2 q3 hC1 c3 hown hg5 hat5 hD1 hHd hHe hE hpre hb
      go_wp2_with fail
      go_roundw
      case rel => exact ⟨k + 1, VA', vc', _, by omega, by rw [show ((k + 1 : Nat) : Int) * 2 = (k : Int) * 2 + 2 by omega], rfl, hb5, hF1, hown5, hpre5⟩
      case measure => simp [intOf]; omega
    · have heven := HE.out
      have hkk : k * 2 = x.items.length := by omega
      have hd : x.items.length / 2 = k := by omega
      rw [hkk, List.take_length] at hpre
      have hi1 : (x.items.length : Int) ≤ (k : Int) * 2 + 1 := by omega
      have HD := Lib.hid hd
      clear hd hkk heven
      go_wp2_with fail
      go_ret
      rw [HD.out]
      exact ⟨VA, vc, pre, rfl, Src.of_own hown, hpre, hb⟩

set_option maxRecDepth 100000 in
theorem header_number (k n : Int) (ba : Option Addr) (bl bc : Nat) (ia : Option Addr) (il ic : Nat) (w : World) :
    Calls Tryd.prog 69 #[.agg #[.int .i64 k, .int .u64 n, .slice ba bl bc, .slice ia il ic]] w
      fun e w' => e = .returned (.bool ((k == 0 || k == 1) && decide (n ≤ 65535))) ∧ Below w.heap.size w w' := by
  go_enter Tryd.func69, Tryd.ntmps69
  go_wp2_with fail
  all_goals
    go_ret
    refine ⟨?_, below_box _ _⟩
    show Ending.returned (Value.bool _) = _
    simp_all
theorem header_numberP {H : Snap} {k n : Int} {ba : Option Addr} {bl bc : Nat} {ia : Option Addr} {il ic : Nat} {x : Itm} (hx : ItemA H k n ba bl bc ia il ic x) (w : World) :
    Calls Tryd.prog 69 #[.agg #[.int .i64 k, .int .u64 n, .slice ba bl bc, .slice ia il ic]] w
      fun e w' => e = .returned (.bool (numberP x)) ∧ Below w.heap.size w w' := by
  obtain ⟨rfl, rfl, rfl, rfl, hxi⟩ := hx.eqs
  refine (header_number x.kind x.n ba _ bc ia _ ic w).mono ?_
  rintro e w' ⟨rfl, hb⟩
  refine ⟨?_, hb⟩
  rw [numberP]
  congr 3
  simp
  omega

set_option maxRecDepth 100000 in
set_option maxHeartbeats 1600000 in
theorem header_permitted {H : Snap} {ba : Option Addr} {bc : Nat} {ia : Option Addr} {ic : Nat} {x : Itm} (hx : IsItem H ba bc ia ic x)
    {ba' : Option Addr} {bc' : Nat} {ia' : Option Addr} {ic' : Nat} {y : Itm} (hy : IsItem H ba' bc' ia' ic' y) (w : World) :
    Calls Tryd.prog 52 #[.agg #[.int .i64 x.kind, .int .u64 x.n, .slice ba x.bytes.length bc, .slice ia x.items.length ic, .int .i64 y.kind, .int .u64 y.n, .slice ba' y.bytes.length bc', .slice ia' y.items.length ic']] w
      fun e w' => e = .returned (.bool (permP x y)) ∧ Below w.heap.size w w' := by
  have N1 := fun w1 => header_numberP hx.arg w1
  have N2 := fun w1 => header_numberP hy.arg w1
  have hb1 := below_box w (.cells #[.int .i64 x.kind, .int .u64 x.n, .slice ba x.bytes.length bc, .slice ia x.items.length ic, .int .i64 y.kind, .int .u64 y.n, .slice ba' y.bytes.length bc', .slice ia' y.items.length ic'] 90)
  have hB1 := Blk.new w 90 #[.int .i64 x.kind, .int .u64 x.n, .slice ba x.bytes.length bc, .slice ia x.items.length ic, .int .i64 y.kind, .int .u64 y.n, .slice ba' y.bytes.length bc', .slice ia' y.items.length ic']
  have HN1 := Lib.hid N1
  have HN2 := Lib.hid N2
  clear N1 N2 hx hy
  by_cases h3 : x.kind = 3
  · have E : Hid (permP x y = true) := by rw [Hid, permP, if_pos h3]
    have k3 : (x.kind == 3) = true := by simp [h3]
    clear h3
    go_enter Tryd.func52, Tryd.ntmps52
    go_wp2_with fail
    go_ret
    exact ⟨by rw [E.out]; rfl, hb1⟩
  have k3 : (x.kind == 3) = false := by simp [h3]
  cases hn : numberP x with
  | false =>
    have E : Hid (permP x y = false) := by rw [Hid, permP, if_neg h3, if_pos hn]
    rw [hn] at HN1
    clear h3 hn
    go_enter Tryd.func52, Tryd.ntmps52
    go_wp2_with fail
    refine (HN1.out _).mono ?_
    rintro e w1 ⟨rfl, hb2⟩
    have hbb := hb1.trans (hb2.mono hb1.size)
    clear hb1 hb2
    go_wp2_with fail
    go_ret
    exact ⟨by rw [E.out]; rfl, hbb⟩
  | true =>
    rw [hn] at HN1
    by_cases h1 : x.kind = 1
    · have E : Hid (permP x y = true) := by rw [Hid, permP, if_neg h3, if_neg (by simp [hn]), if_pos h1]
      have k1 : (x.kind == 1) = true := by simp [h1]
      clear h3 hn h1
      go_enter Tryd.func52, Tryd.ntmps52
      go_wp2_with fail
      refine (HN1.out _).mono ?_
      rintro e w1 ⟨rfl, hb2⟩
      have c0 := (hB1.below hb2).cell 0 rfl
      have hbb := hb1.trans (hb2.mono hb1.size)
      clear hb1 hb2 hB1
      go_wp2_with fail
      go_ret
      exact ⟨by rw [E.out]; rfl, hbb⟩
    have k1 : (x.kind == 1) = false := by simp [h1]
    have E : Hid (permP x y = if x.n = 1 then numberP y && (y.kind == 1 || y.n != 0) else if x.n = 4 ∨ x.n = 5 ∨ x.n = 6 ∨ x.n = 12 then y.kind == 2 else true) := by rw [Hid, permP, if_neg h3, if_neg (by simp [hn]), if_neg h1]
    clear h3 hn h1
    go_enter Tryd.func52, Tryd.ntmps52
    go_wp2_with fail
    refine (HN1.out _).mono ?_
    rintro e w1 ⟨rfl, hb2⟩
    have hB2 := hB1.below hb2
    have c0 := hB2.cell 0 rfl
    have c1 := hB2.cell 1 rfl
    have c4 := hB2.cell 4 rfl
    have c5 := hB2.cell 5 rfl
    have c6 := hB2.cell 6 rfl
    have c7 := hB2.cell 7 rfl
    have hbb := hb1.trans (hb2.mono hb1.size)
    clear hb1 hb2 hB1
    by_cases n1 : x.n = 1
    · have E2 : Hid (permP x y = (numberP y && (y.kind == 1 || y.n != 0))) := by rw [Hid, E.out, if_pos n1]
      have m1 : ((x.n : Int) == 1) = true := by simp [n1]
      clear n1 E
      go_wp2_with fail
      refine (HN2.out _).mono ?_
      rintro e w2 ⟨rfl, hb3⟩
      have hB3 := hB2.below hb3
      have hbb3 := hbb.trans (hb3.mono hbb.size)
      have d4 := hB3.cell 4 rfl
      have d5 := hB3.cell 5 rfl
      clear c0 c1 c4 c5 c6 c7 hbb hb3
      cases hm : numberP y with
      | false =>
        have E3 : Hid (permP x y = false) := by rw [Hid, E2.out, hm]; rfl
        clear hm
        go_wp2_with fail
        go_ret
        exact ⟨by rw [E3.out]; rfl, hbb3⟩
      | true =>
        by_cases g1 : y.kind = 1
        · have E3 : Hid (permP x y = true) := by rw [Hid, E2.out, hm, g1]; rfl
          have l1 : (y.kind == 1) = true := by simp [g1]
          clear hm g1
          go_wp2_with fail
          go_ret
          exact ⟨by rw [E3.out]; rfl, hbb3⟩
        · have l1 : (y.kind == 1) = false := by simp [g1]
          have E3 : Hid (permP x y = ((y.n : Int) != 0)) := by
            rw [Hid, E2.out, hm, l1, Bool.true_and, Bool.false_or]
            rw [Bool.eq_iff_iff, bne_iff_ne, bne_iff_ne]
            omega
          clear hm g1
          go_wp2_with fail
          all_goals
            go_ret
            refine ⟨?_, hbb3⟩
            rw [E3.out]
            show Ending.returned (Value.bool _) = _
            simp_all
    · have m1 : ((x.n : Int) == 1) = false := by simp; omega
      by_cases n2 : x.n = 4 ∨ x.n = 5 ∨ x.n = 6 ∨ x.n = 12
      · have E2 : Hid (permP x y = (y.kind == 2)) := by rw [Hid, E.out, if_neg n1, if_pos n2]
        have t : (((x.n : Int) == 4) = true) ∨ (((x.n : Int) == 4) = false ∧ ((x.n : Int) == 5) = true) ∨ (((x.n : Int) == 4) = false ∧ ((x.n : Int) == 5) = false ∧ ((x.n : Int) == 6) = true) ∨ (((x.n : Int) == 4) = false ∧ ((x.n : Int) == 5) = false ∧ ((x.n : Int) == 6) = false ∧ ((x.n : Int) == 12) = true) := by
          simp only [beq_iff_eq, beq_eq_false_iff_ne, ne_eq]
          omega
        have T := Lib.hid t
        clear n1 n2 E t
        rcases T.out with t1 | ⟨t1, t2⟩ | ⟨t1, t2, t3⟩ | ⟨t1, t2, t3, t4⟩
        all_goals
          go_wp2_with fail
          go_ret
          exact ⟨by rw [E2.out]; rfl, hbb⟩
      · have E2 : Hid (permP x y = true) := by rw [Hid, E.out, if_neg n1, if_neg n2]
        have t1 : ((x.n : Int) == 4) = false := by rw [beq_eq_false_iff_ne]; omega
        have t2 : ((x.n : Int) == 5) = false := by rw [beq_eq_false_iff_ne]; omega
        have t3 : ((x.n : Int) == 6) = false := by rw [beq_eq_false_iff_ne]; omega
        have t4 : ((x.n : Int) == 12) = false := by rw [beq_eq_false_iff_ne]; omega
        clear n1 n2 E
        go_wp2_with fail
        go_ret
        exact ⟨by rw [E2.out]; rfl, hbb⟩
end Go.Proofs.YtdbhgngikglmcaaDoor
