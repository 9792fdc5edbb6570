/- Walks: the program's reader of items: pairs. Walks: the program's reader of items: maps; all items. -/
import Derived.Test.YtebcnkelbicbnaaGreatDoorM19
import Derived.Test.YtebcnkelbicbnaaGreatDoorM11
set_option linter.unusedVariables false
set_option linter.unusedSimpArgs false
namespace Go.Proofs.YtebcnkelbicbnaaGreatDoor
open Go.RowKit

section
variable {p : List UInt8 → Nat → PR} {m : Nat} {b : List UInt8} {cc q k c1 k2 c2 : Nat} {x y : Itm} {last : Option (List UInt8)}
theorem map_err1 (L : List Itm) (k0 : Nat) (h : p b cc = .err q) : (mapP p (m + 1) b cc last).pre L k0 = .err q := by rw [mapP, h]; rfl
theorem map_errk (L : List Itm) (k0 : Nat) (h : p b cc = .ok x k c1) (h2 : keyP last (b.take k) = some q) : (mapP p (m + 1) b cc last).pre L k0 = .err q := by rw [mapP, h]; simp only; rw [h2]; rfl
theorem map_err2 (L : List Itm) (k0 : Nat) (h : p b cc = .ok x k c1) (h2 : keyP last (b.take k) = none) (h3 : p (b.drop k) c1 = .err q) : (mapP p (m + 1) b cc last).pre L k0 = .err q := by rw [mapP, h]; simp only; rw [h2]; simp only; rw [h3]; rfl
theorem map_ok2 (L : List Itm) (k0 : Nat) (h : p b cc = .ok x k c1) (h2 : keyP last (b.take k) = none) (h3 : p (b.drop k) c1 = .ok y k2 c2) : (mapP p (m + 1) b cc last).pre L k0 = (mapP p m (b.drop (k + k2)) c2 (some (b.take k))).pre (L ++ [x, y]) (k0 + (k + k2)) := by
  rw [mapP, h]; simp only; rw [h2]; simp only; rw [h3]; simp only
  cases mapP p m (b.drop (k + k2)) c2 (some (b.take k)) with
  | err q => rfl
  | ok l k3 c3 => simp [PL.pre, Nat.add_assoc]
end
def mapR (r : PL) : PR := match r with
  | .err q => .err q
  | .ok L k c => .ok (.mk 5 0 [] L) k c
section
variable {d : Nat} {w : World} {H : Snap} {g : Nat} {A : Option Addr} {c : Nat} {l : List UInt8} {p cnt lv : Nat}
set_option maxRecDepth 100000 in
set_option maxHeartbeats 6400000 in
theorem p_pairs (ih : PItem d) (hTab : Tabs H) (hlv : lv + d = 8) (hP : Psr 109 w g H A c l p cnt) (hl0 : 0 < l.length) (n : Nat) (hn : n < 18446744073709551616) : Calls Tryz.prog 96 #[.pointer (some ⟨g, 0, none⟩), .int .u64 (n : Int), .int .i64 (lv : Int)] w (ItemOut 109 w H g A c l p (mapR (mapP (parse d) n (l.drop p) cnt none))) := by
  have hgl := hP.gt
  obtain ⟨b, off, rfl, HCELL0⟩ := hP.bytes.at_ hl0
  have HCL := Lib.hid HCELL0
  have hn0 : H w.heap.size = none := hP.holds.none_of_ge (Nat.le_refl _)
  have hn1 : H (w.heap.size + 1) = none := hP.holds.none_of_ge (Nat.le_succ _)
  have hd0 := ((Rdg.refl hP).alloc zeroO).alloc zeroO
  have hT0 := (Blk.new w 26 #[.int .i64 0, .int .u64 0, .slice none 0 0, .slice none 0 0]).alloc zeroO
  have hX0 := Blk.new (w.alloc zeroO) 26 #[.int .i64 0, .int .u64 0, .slice none 0 0, .slice none 0 0]
  rw [show (w.alloc zeroO).heap.size = w.heap.size + 1 by simp] at hX0
  have HLEN := Lib.hid (And.intro hP.small (And.intro hP.bytes.le hP.bytes.max))
  have HHH := Lib.hid hP.holds
  have HNN := Lib.hid hn
  have hlvi : (lv : Int) ≤ 8 := by omega
  clear HCELL0 hn
  go_enter Tryz.func96, Tryz.ntmps96
  go_wp2_with (with_reducible refine stop_store ?_)
  unfold Stopped
  refine wpList_store_item rfl _ _ _ rfl rfl _ _ rfl rfl _ _ hX0 size_item rfl (one4 _ _ _ _ rfl rfl rfl rfl) fun w4 hX4 hg4 => ?_
  have hd5 := hd0.grownRow (row := some (w.heap.size + 1)) (by rintro q ⟨⟩; exact hn1) (by rintro q ⟨⟩; exact Nat.le_succ _) hgl hg4
  have hT5 := hT0.grown hg4 (by intro e; injection e with e; omega)
  clear hd0 hT0 hX0 hg4
  obtain ⟨X, hXX⟩ : ∃ X, w.heap.size + 1 = X := ⟨_, rfl⟩
  have hlt3 : Hid (w.heap.size < X) := by rw [Hid]; omega
  rw [hXX] at hX4 hn1 ⊢
  clear hXX
  go_wp2_with fail
  go_loopw [9, 10] (fun v9 v10 wr => ∃ (i : Nat) (Hr : Snap) (VA : Option Addr) (vc vn : Nat) (L : List Itm) (k0 cc : Nat) (last : Option (List UInt8)) (KB : Option Addr) (kn kc : Nat), v10 = .int .u64 (i : Int) ∧ v9 = .slice KB kn kc ∧ i ≤ n ∧ vn = L.length ∧
    ((i = 0 ∧ last = none) ∨ (0 < i ∧ ∃ key : List UInt8, last = some key ∧ kn = key.length ∧ key.length ≤ 4096 ∧ ∀ W, Holds W H → Src W KB (key.map byteV))) ∧
    Rdg 109 w H wr Hr g (some ⟨b, off, none⟩) c l (p + k0) cc ∧ Blk wr w.heap.size 26 #[.int .i64 0, .int .u64 0, .slice none 0 0, .slice none 0 0] ∧ Hr w.heap.size = none ∧
    Blk wr X 26 #[.int .i64 5, .int .u64 0, .slice none 0 0, .slice VA vn vc] ∧ Hr X = none ∧ OwnI wr (X + 1) (.slice VA vn vc) Hr L ∧ (∀ q, (Value.slice VA vn vc).ownBlock = some q → Hr q = none) ∧ L.length ≤ cc ∧
    mapP (parse d) n (l.drop p) cnt none = (mapP (parse d) (n - i) (l.drop (p + k0)) cc last).pre L k0) (fun _ v10 _ => n - (intOf v10).toNat)
  case atStart => exact ⟨0, H, none, 0, 0, [], 0, cnt, none, none, 0, 0, rfl, rfl, Nat.zero_le _, rfl, .inl ⟨rfl, rfl⟩, hd5, hT5, hn0, hX4, hn1, OwnI.nil _ _ H, by intro q hq; simp [Value.ownBlock] at hq, by simp, by rw [pre_nil]; rfl⟩
  case round =>
    clear hd5 hT5 hX4
    obtain ⟨i, Hr, VA, vc, vn, L, k0, cc, last, KB, kn, kc, rfl, rfl, hin, rfl, hlast, hdr, hTr, hTn, hXr, hXrn, hOr, hnr, hLc, hrel2⟩ := hrel
    have HREL := Lib.hid hrel2
    have HLC := Lib.hid hLc
    have HIN := Lib.hid hin
    have HLAST := Lib.hid hlast
    clear hrel2 hLc hin hlast
    by_cases hi0 : i < n
    · obtain ⟨m1, hm1⟩ : ∃ m1, n - i = m1 + 1 := ⟨n - i - 1, by omega⟩
      have HM1 := Lib.hid (show n - (i + 1) = m1 by omega)
      have HREL2 : Hid (mapP (parse d) n (l.drop p) cnt none = (mapP (parse d) (m1 + 1) (l.drop (p + k0)) cc last).pre L k0) := by rw [Hid, HREL.out, hm1]
      obtain ⟨P1, hP1⟩ : ∃ P1, p + k0 = P1 := ⟨_, rfl⟩
      have HPP1 := Lib.hid hP1
      rw [hP1] at hdr HREL2
      clear hP1
      have hmi : (i : Int) < (n : Int) := by omega
      have ITH := Lib.hid (ih wr Hr g (some ⟨b, off, none⟩) c l P1 cc lv (hTab.mono hdr.grows.le) hlv hdr.psr)
      have a1 := hdr.psr.blk.cell 1 rfl
      clear hm1 HREL
      go_wp2_with fail
      refine ITH.out.mono ?_
      intro e w5 hs
      cases hp : parse d (l.drop P1) cc with
      | err q =>
        rw [hp, ItemOut] at hs
        obtain ⟨rfl, H5, p5, cnt5, hd35⟩ := hs
        have hq0 : ((q : Int) != 0) = true := by rw [bne_iff_ne]; have := parse_err _ _ _ _ hp; omega
        have hq0' : ((q : Int) = 0) = False := eq_false (by have := parse_err _ _ _ _ hp; omega)
        have E : Hid (mapR (mapP (parse d) n (l.drop p) cnt none) = .err q) := by rw [Hid, HREL2.out, map_err1 L k0 hp]; rfl
        have hd6 := hdr.trans hd35
        have hT6 := hTr.rdg hd35 (by omega)
        have hn6 := hd35.hid hTn hTr.lt
        have hY := Blk.new w5 26 #[.int .i64 0, .int .u64 0, .slice none 0 0, .slice none 0 0]
        have hYn : H5 w5.heap.size = none := hd6.psr.holds.none_of_ge (Nat.le_refl _)
        have hTl := Lib.hid hT6.lt
        have hd7 := hd6.alloc zeroO
        have hT7 := hT6.alloc zeroO
        clear ITH hp hdr hd35 hTr hXr hOr hnr HREL2 HLC hd6 hT6 a1
        go_wp2_with (with_reducible refine stop_store ?_)
        unfold Stopped
        refine wpList_store_item rfl _ _ _ rfl rfl _ _ rfl rfl _ _ hY size_item rfl (one4 _ _ _ _ rfl rfl rfl rfl) fun w8 hY8 hg8 => ?_
        have hd8 := hd7.grownRow (row := some w5.heap.size) (by rintro q ⟨⟩; exact hYn) (by rintro q ⟨⟩; exact Nat.le_of_lt hTl.out) hgl hg8
        have hT8 := hT7.grown hg8 (by intro e; injection e with e; have := hTl.out; omega)
        clear hd7 hT7 hY hg8 hY8
        go_wp2_with (with_reducible refine stop_store ?_)
        unfold Stopped
        refine wpList_store_item rfl _ _ _ rfl rfl _ _ rfl rfl _ _ hT8 size_item rfl (one4 _ _ _ _ rfl rfl rfl rfl) fun wz hTy hgz => ?_
        have hdz := hd8.grownRow (row := some w.heap.size) (by rintro q ⟨⟩; exact hn6) (by rintro q ⟨⟩; exact Nat.le_refl _) hgl hgz
        go_wp2_with fail
        refine ret_row_tmp rfl rfl hTy rfl rfl size_item rfl ?_

        exact ItemOut.err E.out rfl hdz
      | ok x k c1 =>
        rw [hp, ItemOut] at hs
        obtain ⟨ja, jb, jc, jd, H5, rfl, hd35, hi5⟩ := hs
        have HCC := Lib.hid (parse_counts d _ _ _ _ _ hp)
        have rsp := parse_spec d _ _ _ _ _ hp
        have hkpos := rsp.pos
        have hkle := rsp.le
        rw [List.length_drop] at hkle
        have HKLE := Lib.hid (show k ≤ l.length by omega)
        have HPX := Lib.hid hp
        obtain ⟨key, hkey⟩ : ∃ key, (l.drop P1).take k = key := ⟨_, rfl⟩
        have HKEY := Lib.hid hkey
        have HKL : Hid (k = key.length) := by rw [Hid, ← hkey, List.length_take, List.length_drop]; omega
        have HSK : Hid (∀ W, Holds W H → Src W (some ⟨b, off + P1, none⟩) (key.map byteV)) := fun W hW => by
          have h := src_sub (w := W) (n := k) (fun j hj => hW.cell (HCL.out j hj)) P1 (some ⟨b, off + P1, none⟩) (fun _ => rfl) (by omega)
          rw [hkey] at h
          exact h
        have hd6 := hdr.trans hd35
        have hT6 := hTr.rdg hd35 (by omega)
        have hn6 := hd35.hid hTn hTr.lt
        have hX6 := hXr.rdg hd35 (by have := hlt3.out; omega)
        have hXn6 := hd35.hid hXrn hXr.lt
        have hO6 := (hOr.rdg hd35 (by have := hlt3.out; omega)).mono hd35.grows.le
        have hon6 : ∀ q, (Value.slice VA L.length vc).ownBlock = some q → H5 q = none := fun q hq => hd35.hid (hnr q hq) (hOr.lt q hq).2
        have hY := Blk.new w5 26 #[.int .i64 0, .int .u64 0, .slice none 0 0, .slice none 0 0]
        have hYn : H5 w5.heap.size = none := hd6.psr.holds.none_of_ge (Nat.le_refl _)
        have hTl := Lib.hid (And.intro hT6.lt hX6.lt)
        have hYg := Lib.hid (show g < w5.heap.size from hd6.psr.gt)
        have hol := Lib.hid (show ∀ q, (Value.slice VA L.length vc).ownBlock = some q → X + 1 ≤ q ∧ q < w5.heap.size from fun q hq => hO6.lt q hq)
        have hd7 := hd6.alloc zeroO
        have hT7 := hT6.alloc zeroO
        have hX7 := hX6.alloc zeroO
        have hO7 := hO6.alloc zeroO
        clear ITH hp hdr hd35 hTr hXr hOr hnr hd6 hT6 hX6 hO6 a1 rsp hkey
        go_wp2_with (with_reducible refine stop_store ?_)
        unfold Stopped
        refine wpList_store_item rfl _ _ _ rfl rfl _ _ rfl rfl _ _ hY size_item rfl (one4 _ _ _ _ rfl rfl rfl rfl) fun w8 hY8 hg8 => ?_
        have hd8 := hd7.grownRow (row := some w5.heap.size) (by rintro q ⟨⟩; exact hYn) (by rintro q ⟨⟩; exact Nat.le_of_lt hTl.out.1) hgl hg8
        have hT8 := hT7.grown hg8 (by intro e; injection e with e; have := hTl.out.1; omega)
        have hX8 := hX7.grown hg8 (by intro e; injection e with e; have := hTl.out.2; omega)
        have hO8 := hO7.kept hg8 (by
          cases hv : (Value.slice VA L.length vc).ownBlock with
          | none => exact .inl rfl
          | some q => exact .inr (fun e => by injection e with e; have := (hol.out q hv).2; omega))
        obtain ⟨Y1, hY1⟩ : ∃ Y1, w5.heap.size = Y1 := ⟨_, rfl⟩
        rw [hY1] at hY8 hTl hYg hYn ⊢
        have a0 := hd8.psr.blk.cell 0 rfl
        have a1 := hd8.psr.blk.cell 1 rfl
        have s1 : (P1 : Int) ≤ ((P1 + k : Nat) : Int) := by omega
        have s2 : ((P1 + k : Nat) : Int) ≤ (c : Int) := by have := HLEN.out.2.1; omega
        have s3 : (P1 : Int) ≤ (c : Int) := by omega
        have s4 : (0 : Int) ≤ (P1 : Int) := by omega
        have s5 : (c = P1) = False := eq_false (by have := HLEN.out.2.1; omega)
        have s6 : P1 + k - P1 = k := by omega
        have s7 : ((P1 + k : Nat) : Int).toNat = P1 + k := by omega
        clear hd7 hT7 hX7 hO7 hY hg8
        go_wp2_with fail
        go_big_quiet (fail)
        have hd9' := hd8.drewN nq
        have hT9' : Blk (w8.drewN nq) w.heap.size 26 #[.int .i64 0, .int .u64 0, .slice none 0 0, .slice none 0 0] := hT8
        have hX9' : Blk (w8.drewN nq) X 26 #[.int .i64 5, .int .u64 0, .slice none 0 0, .slice VA L.length vc] := hX8
        have hY9' : Blk (w8.drewN nq) Y1 26 #[.int .i64 x.kind, .int .u64 x.n, .slice ja x.bytes.length jb, .slice jc x.items.length jd] := hY8
        have hO9' : OwnI (w8.drewN nq) (X + 1) (.slice VA L.length vc) H5 L := hO8
        generalize w8.drewN nq = w9 at hd9' hT9' hX9' hY9' hO9' ⊢
        obtain ⟨hd9, hT9, hX9, hY9, hO9⟩ := And.intro hd9' (And.intro hT9' (And.intro hX9' (And.intro hY9' hO9')))
        clear hd9' hT9' hX9' hY9' hO9' hd8 hT8 hX8 hY8 hO8 a0 a1 s1 s2 s3 s4 s5 s6 s7
        have hH9 : Holds w9 H := hd9.psr.holds.mono hd9.grows.le
        rcases HLAST.out with ⟨hiz, rfl⟩ | ⟨hi, lk, rfl, hkn, hkl, hsl⟩
        · have HKN : Hid (keyP none ((l.drop P1).take k) = none) := rfl
          have hii0 : ¬ ((0 : Int) < (i : Int)) := by omega
          clear hiz
          have a0 := hH9
          have a1 := hH9
          have ITH2 := Lib.hid (ih w9 H5 g (some ⟨b, off, none⟩) c l (P1 + k) c1 lv (hTab.mono hd9.grows.le) hlv hd9.psr)
          clear a0 a1
          go_wp2_with fail
          refine ITH2.out.mono ?_
          intro e w12 hs
          cases hp2 : parse d (l.drop (P1 + k)) c1 with
          | err q =>
            rw [hp2, ItemOut] at hs
            obtain ⟨rfl, H6, p6, cnt6, hd36⟩ := hs
            have hq0 : ((q : Int) != 0) = true := by rw [bne_iff_ne]; have := parse_err _ _ _ _ hp2; omega
            have hq0' : ((q : Int) = 0) = False := eq_false (by have := parse_err _ _ _ _ hp2; omega)
            have E : Hid (mapR (mapP (parse d) n (l.drop p) cnt none) = .err q) := by rw [Hid, HREL2.out, map_err2 L k0 HPX.out HKN.out (by rw [List.drop_drop]; exact hp2)]; rfl
            have hd13 := hd9.trans hd36
            have hT13 := hT9.rdg hd36 (by omega)
            have hn13 := hd36.hid hn6 hT9.lt
            have hZ := Blk.new w12 26 #[.int .i64 0, .int .u64 0, .slice none 0 0, .slice none 0 0]
            have hZn : H6 w12.heap.size = none := hd13.psr.holds.none_of_ge (Nat.le_refl _)
            have hTl2 := Lib.hid hT13.lt
            have hd14 := hd13.alloc zeroO
            have hT14 := hT13.alloc zeroO
            clear ITH2 hp2 hd36 hd13 hT13 hd9 hT9 hX9 hY9 hO9
            go_wp2_with (with_reducible refine stop_store ?_)
            unfold Stopped
            refine wpList_store_item rfl _ _ _ rfl rfl _ _ rfl rfl _ _ hZ size_item rfl (one4 _ _ _ _ rfl rfl rfl rfl) fun w15 hZ15 hg15 => ?_
            have hd15 := hd14.grownRow (row := some w12.heap.size) (by rintro q ⟨⟩; exact hZn) (by rintro q ⟨⟩; exact Nat.le_of_lt hTl2.out) hgl hg15
            have hT15 := hT14.grown hg15 (by intro e; injection e with e; have := hTl2.out; omega)
            clear hd14 hT14 hZ hg15 hZ15
            go_wp2_with (with_reducible refine stop_store ?_)
            unfold Stopped
            refine wpList_store_item rfl _ _ _ rfl rfl _ _ rfl rfl _ _ hT15 size_item rfl (one4 _ _ _ _ rfl rfl rfl rfl) fun wz hTy hgz => ?_
            have hdz := hd15.grownRow (row := some w.heap.size) (by rintro q ⟨⟩; exact hn13) (by rintro q ⟨⟩; exact Nat.le_refl _) hgl hgz
            go_wp2_with fail
            refine ret_row_tmp rfl rfl hTy rfl rfl size_item rfl ?_

            exact ItemOut.err E.out rfl hdz
          | ok y k2 c2 =>
            rw [hp2, ItemOut] at hs
            obtain ⟨ka, kb, kd, ke, H6, rfl, hd36, hi6⟩ := hs
            have HR3 : Hid (mapP (parse d) n (l.drop p) cnt none = (mapP (parse d) m1 (l.drop (p + (k0 + (k + k2)))) c2 (some key)).pre (L ++ [x, y]) (k0 + (k + k2))) := by
              rw [Hid, HREL2.out, map_ok2 L k0 HPX.out HKN.out (by rw [List.drop_drop]; exact hp2), HKEY.out, List.drop_drop, ← HPP1.out]
              rw [show p + k0 + (k + k2) = p + (k0 + (k + k2)) by omega]
            have HC3 : Hid ((L ++ [x, y]).length ≤ c2) := by
              have h1 := HCC.out
              have h2 := parse_counts d _ _ _ _ _ hp2
              have := HLC.out
              rw [Hid, List.length_append]; simp; omega
            have hd13 := hd9.trans hd36
            have hc13 := hd13.psr.cnt_le
            have hT13 := hT9.rdg hd36 (by omega)
            have hn13 := hd36.hid hn6 hT9.lt
            have hX13 := hX9.rdg hd36 (by have := hlt3.out; omega)
            have hXn13 := hd36.hid hXn6 hX9.lt
            have hY13 := hY9.rdg hd36 (by have := hYg.out; omega)
            have hO13 := (hO9.rdg hd36 (by have := hlt3.out; omega)).mono hd36.grows.le
            have hon13 : ∀ q, (Value.slice VA L.length vc).ownBlock = some q → H6 q = none := fun q hq => hd36.hid (hon6 q hq) (hO9.lt q hq).2
            have hZ := Blk.new w12 26 #[.int .i64 0, .int .u64 0, .slice none 0 0, .slice none 0 0]
            have hZn : H6 w12.heap.size = none := hd13.psr.holds.none_of_ge (Nat.le_refl _)
            have hTl2 := Lib.hid (And.intro hT13.lt (And.intro hX13.lt hY13.lt))
            have hol2 := Lib.hid (show ∀ q, (Value.slice VA L.length vc).ownBlock = some q → X + 1 ≤ q ∧ q < w12.heap.size from fun q hq => hO13.lt q hq)
            have hd14 := hd13.alloc zeroO
            have hT14 := hT13.alloc zeroO
            have hX14 := hX13.alloc zeroO
            have hY14 := hY13.alloc zeroO
            have hO14 := hO13.alloc zeroO
            have HLN := Lib.hid (show L.length ≤ 256 by have := HC3.out; simp at this; omega)
            have hit : ItemsC H6 (itemC x ja jb jc jd ++ itemC y ka kb kd ke) [x, y] := (ItemsC.one (hi5.mono hd36.grows.le)).app (ItemsC.one hi6)
            clear ITH2 hp2 hd36 hd13 hT13 hX13 hY13 hO13 hd9 hT9 hX9 hY9 hO9
            go_wp2_with (with_reducible refine stop_store ?_)
            unfold Stopped
            refine wpList_store_item rfl _ _ _ rfl rfl _ _ rfl rfl _ _ hZ size_item rfl (one4 _ _ _ _ rfl rfl rfl rfl) fun w15 hZ15 hg15 => ?_
            have hd15 := hd14.grownRow (row := some w12.heap.size) (by rintro q ⟨⟩; exact hZn) (by rintro q ⟨⟩; exact Nat.le_of_lt hTl2.out.1) hgl hg15
            have hT15 := hT14.grown hg15 (by intro e; injection e with e; have := hTl2.out.1; omega)
            have hX15 := hX14.grown hg15 (by intro e; injection e with e; have := hTl2.out.2.1; omega)
            have hY15 := hY14.grown hg15 (by intro e; injection e with e; have := hTl2.out.2.2; omega)
            have hO15 := hO14.kept hg15 (by
              cases hv : (Value.slice VA L.length vc).ownBlock with
              | none => exact .inl rfl
              | some q => exact .inr (fun e => by injection e with e; have := (hol2.out q hv).2; omega))
            have b0 := hZ15.cell 0 rfl
            have b1 := hZ15.cell 1 rfl
            have b2 := hZ15.cell 2 rfl
            have b3 := hZ15.cell 3 rfl
            have y0 := hY15.cell 0 rfl
            have y1 := hY15.cell 1 rfl
            have y2 := hY15.cell 2 rfl
            have y3 := hY15.cell 3 rfl
            have x3 := hX15.cell 3 rfl
            have hd16 := hd15.alloc (.cells (itemC x ja jb jc jd ++ itemC y ka kb kd ke).toArray 26)
            have hT16 := hT15.alloc (.cells (itemC x ja jb jc jd ++ itemC y ka kb kd ke).toArray 26)
            have hX16 := hX15.alloc (.cells (itemC x ja jb jc jd ++ itemC y ka kb kd ke).toArray 26)
            have hO16 := hO15.alloc (.cells (itemC x ja jb jc jd ++ itemC y ka kb kd ke).toArray 26)
            clear hd14 hT14 hX14 hY14 hO14 hZ hg15 hd15 hT15 hX15 hY15 hO15
            go_wp2_with (at_builtin; refine stop_in ?_)
            unfold Stopped
            refine wpList_app_items rfl (.tmp 72) (.tmp 75) rfl (X + 1) (.slice VA L.length vc) H6 _ rfl hO16 _ 2 _ (itemC x ja jb jc jd ++ itemC y ka kb kd ke) [x, y] rfl rfl hit (Src.new _ _ _ _ rfl _ rfl) (by have := HLN.out; simp; omega) hX16.lt fun v' w17 hO17 hg17 hat17 => ?_
            obtain ⟨VA', vc', rfl, _⟩ := hO17.form
            have hT17 := hT16.grown hg17 (fun e => by have := (hol2.out _ e).1; have := hlt3.out; omega)
            have hX17 := hX16.grown hg17 (fun e => by have := (hol2.out _ e).1; omega)
            have hn17 := own_hid3 hd16.psr.holds hon13 hat17
            have hd17 := hd16.grownRow hon13 (fun q hq => by have := (hol2.out q hq).1; have := hlt3.out; omega) hgl hg17
            obtain ⟨L', hL'⟩ : ∃ L', L ++ [x, y] = L' := ⟨_, rfl⟩
            rw [hL'] at hO17 hn17 HR3 HC3 ⊢
            have HLL : Hid (L'.length = L.length + 2) := by rw [Hid, ← hL']; simp
            clear hL' hd16 hT16 hX16 hO16 hg17 hat17 x3 y0 y1 y2 y3 b0 b1 b2 b3 hZ15
            have hO17l := Lib.hid (show ∀ q, (Value.slice VA' L'.length vc').ownBlock = some q → X + 1 ≤ q from fun q hq => (hO17.lt q hq).1)
            go_wp2_with (with_reducible refine stop_store ?_)
            unfold Stopped
            refine wpList_store_cell rfl _ _ _ rfl rfl X 3 _ rfl rfl _ _ hX17 size_items (by simp) rfl fun w18 hX18 hg18 => ?_
            have hd18 := hd17.grownRow (row := some X) (by rintro q ⟨⟩; exact hXn13) (by rintro q ⟨⟩; exact Nat.le_of_lt hlt3.out) hgl hg18
            have hT18 := hT17.grown hg18 (by intro e; injection e with e; have := hlt3.out; omega)
            have hO18 := hO17.kept hg18 (by
              cases hv : (Value.slice VA' L'.length vc').ownBlock with
              | none => exact .inl rfl
              | some q => exact .inr (fun e => by injection e with e; have := hO17l.out q hv; omega))
            have KI : IntKind.u64.wrap ((i : Int) + 1) = (i : Int) + 1 := by rw [IntKind.wrap_u64]; have := HNN.out; omega
            rw [show P1 + k + k2 = p + (k0 + (k + k2)) by have := HPP1.out; omega] at hd18
            have hmi2 := Lib.hid hmi
            clear hd17 hT17 hX17 hO17 hg18 hmi
            go_wp2_with fail
            go_roundw
            case rel => exact ⟨i + 1, H6, VA', vc', _, L', k0 + (k + k2), c2, some key, _, _, _, by first | rfl | (simp; done) | go_num, rfl, by have := hmi2.out; omega, rfl, .inr ⟨by omega, key, rfl, HKL.out, by have := HLEN.out.1; have := HKLE.out; have := HKL.out; omega, HSK.out⟩, hd18, hT18, hn13, hX18, hXn13, hO18, hn17, HC3.out, by rw [HM1.out]; exact HR3.out⟩
            case measure => have := hmi2.out; simp [intOf]; omega
        · have hii0 : (0 : Int) < (i : Int) := by omega
          have CM := Lib.hid (bytes_Compare w9 (some ⟨b, off + P1, none⟩) KB key lk k kn (c - P1) kc HKL.out hkn (HSK.out w9 hH9) (hsl w9 hH9))
          obtain ⟨q, hq⟩ : ∃ q, Lib.compareBytes key lk = q := ⟨_, rfl⟩
          rw [hq] at CM
          have HQ := Lib.hid hq
          clear hkn hkl hsl hq
          have a0 := hH9
          have a1 := hH9
          by_cases hq0 : q = 0
          · subst hq0
            have HKN : Hid (keyP (some lk) ((l.drop P1).take k) = some 7) := by rw [Hid, HKEY.out, keyP]; rw [if_pos HQ.out]
            go_wp2_with fail
            refine CM.out.mono ?_
            rintro e w10 ⟨rfl, rfl⟩
            have E : Hid (mapR (mapP (parse d) n (l.drop p) cnt none) = .err 7) := by rw [Hid, HREL2.out, map_errk L k0 HPX.out HKN.out]; rfl
            go_wp2_with (with_reducible refine stop_store ?_)
            unfold Stopped
            refine wpList_store_item rfl _ _ _ rfl rfl _ _ rfl rfl _ _ hT9 size_item rfl (one4 _ _ _ _ rfl rfl rfl rfl) fun wz hTy hgz => ?_
            have hdz := hd9.grownRow (row := some w.heap.size) (by rintro q ⟨⟩; exact hn6) (by rintro q ⟨⟩; exact Nat.le_refl _) hgl hgz
            go_wp2_with fail
            refine ret_row_tmp rfl rfl hTy rfl rfl size_item rfl ?_
            exact ItemOut.err (q := 7) E.out rfl hdz
          · have t0 : (q == 0) = false := by simpa using hq0
            have t0' : (q = 0) = False := eq_false hq0
            by_cases hq1 : q < 0
            · have HKN : Hid (keyP (some lk) ((l.drop P1).take k) = some 6) := by rw [Hid, HKEY.out, keyP]; rw [HQ.out, if_neg hq0, if_pos hq1]
              go_wp2_with fail
              refine CM.out.mono ?_
              rintro e w10 ⟨rfl, rfl⟩
              have E : Hid (mapR (mapP (parse d) n (l.drop p) cnt none) = .err 6) := by rw [Hid, HREL2.out, map_errk L k0 HPX.out HKN.out]; rfl
              go_wp2_with (with_reducible refine stop_store ?_)
              unfold Stopped
              refine wpList_store_item rfl _ _ _ rfl rfl _ _ rfl rfl _ _ hT9 size_item rfl (one4 _ _ _ _ rfl rfl rfl rfl) fun wz hTy hgz => ?_
              have hdz := hd9.grownRow (row := some w.heap.size) (by rintro q ⟨⟩; exact hn6) (by rintro q ⟨⟩; exact Nat.le_refl _) hgl hgz
              go_wp2_with fail
              refine ret_row_tmp rfl rfl hTy rfl rfl size_item rfl ?_
              exact ItemOut.err (q := 6) E.out rfl hdz
            · have HKN : Hid (keyP (some lk) ((l.drop P1).take k) = none) := by rw [Hid, HKEY.out, keyP]; rw [HQ.out, if_neg hq0, if_neg hq1]
              go_wp2_with fail
              refine CM.out.mono ?_
              rintro e w10 ⟨rfl, rfl⟩
              have ITH2 := Lib.hid (ih w9 H5 g (some ⟨b, off, none⟩) c l (P1 + k) c1 lv (hTab.mono hd9.grows.le) hlv hd9.psr)
              clear a0 a1
              go_wp2_with fail
              refine ITH2.out.mono ?_
              intro e w12 hs
              cases hp2 : parse d (l.drop (P1 + k)) c1 with
              | err q =>
                rw [hp2, ItemOut] at hs
                obtain ⟨rfl, H6, p6, cnt6, hd36⟩ := hs
                have hq0 : ((q : Int) != 0) = true := by rw [bne_iff_ne]; have := parse_err _ _ _ _ hp2; omega
                have hq0' : ((q : Int) = 0) = False := eq_false (by have := parse_err _ _ _ _ hp2; omega)
                have E : Hid (mapR (mapP (parse d) n (l.drop p) cnt none) = .err q) := by rw [Hid, HREL2.out, map_err2 L k0 HPX.out HKN.out (by rw [List.drop_drop]; exact hp2)]; rfl
                have hd13 := hd9.trans hd36
                have hT13 := hT9.rdg hd36 (by omega)
                have hn13 := hd36.hid hn6 hT9.lt
                have hZ := Blk.new w12 26 #[.int .i64 0, .int .u64 0, .slice none 0 0, .slice none 0 0]
                have hZn : H6 w12.heap.size = none := hd13.psr.holds.none_of_ge (Nat.le_refl _)
                have hTl2 := Lib.hid hT13.lt
                have hd14 := hd13.alloc zeroO
                have hT14 := hT13.alloc zeroO
                clear ITH2 hp2 hd36 hd13 hT13 hd9 hT9 hX9 hY9 hO9
                go_wp2_with (with_reducible refine stop_store ?_)
                unfold Stopped
                refine wpList_store_item rfl _ _ _ rfl rfl _ _ rfl rfl _ _ hZ size_item rfl (one4 _ _ _ _ rfl rfl rfl rfl) fun w15 hZ15 hg15 => ?_
                have hd15 := hd14.grownRow (row := some w12.heap.size) (by rintro q ⟨⟩; exact hZn) (by rintro q ⟨⟩; exact Nat.le_of_lt hTl2.out) hgl hg15
                have hT15 := hT14.grown hg15 (by intro e; injection e with e; have := hTl2.out; omega)
                clear hd14 hT14 hZ hg15 hZ15
                go_wp2_with (with_reducible refine stop_store ?_)
                unfold Stopped
                refine wpList_store_item rfl _ _ _ rfl rfl _ _ rfl rfl _ _ hT15 size_item rfl (one4 _ _ _ _ rfl rfl rfl rfl) fun wz hTy hgz => ?_
                have hdz := hd15.grownRow (row := some w.heap.size) (by rintro q ⟨⟩; exact hn13) (by rintro q ⟨⟩; exact Nat.le_refl _) hgl hgz
                go_wp2_with fail
                refine ret_row_tmp rfl rfl hTy rfl rfl size_item rfl ?_

                exact ItemOut.err E.out rfl hdz
              | ok y k2 c2 =>
                rw [hp2, ItemOut] at hs
                obtain ⟨ka, kb, kd, ke, H6, rfl, hd36, hi6⟩ := hs
                have HR3 : Hid (mapP (parse d) n (l.drop p) cnt none = (mapP (parse d) m1 (l.drop (p + (k0 + (k + k2)))) c2 (some key)).pre (L ++ [x, y]) (k0 + (k + k2))) := by
                  rw [Hid, HREL2.out, map_ok2 L k0 HPX.out HKN.out (by rw [List.drop_drop]; exact hp2), HKEY.out, List.drop_drop, ← HPP1.out]
                  rw [show p + k0 + (k + k2) = p + (k0 + (k + k2)) by omega]
                have HC3 : Hid ((L ++ [x, y]).length ≤ c2) := by
                  have h1 := HCC.out
                  have h2 := parse_counts d _ _ _ _ _ hp2
                  have := HLC.out
                  rw [Hid, List.length_append]; simp; omega
                have hd13 := hd9.trans hd36
                have hc13 := hd13.psr.cnt_le
                have hT13 := hT9.rdg hd36 (by omega)
                have hn13 := hd36.hid hn6 hT9.lt
                have hX13 := hX9.rdg hd36 (by have := hlt3.out; omega)
                have hXn13 := hd36.hid hXn6 hX9.lt
                have hY13 := hY9.rdg hd36 (by have := hYg.out; omega)
                have hO13 := (hO9.rdg hd36 (by have := hlt3.out; omega)).mono hd36.grows.le
                have hon13 : ∀ q, (Value.slice VA L.length vc).ownBlock = some q → H6 q = none := fun q hq => hd36.hid (hon6 q hq) (hO9.lt q hq).2
                have hZ := Blk.new w12 26 #[.int .i64 0, .int .u64 0, .slice none 0 0, .slice none 0 0]
                have hZn : H6 w12.heap.size = none := hd13.psr.holds.none_of_ge (Nat.le_refl _)
                have hTl2 := Lib.hid (And.intro hT13.lt (And.intro hX13.lt hY13.lt))
                have hol2 := Lib.hid (show ∀ q, (Value.slice VA L.length vc).ownBlock = some q → X + 1 ≤ q ∧ q < w12.heap.size from fun q hq => hO13.lt q hq)
                have hd14 := hd13.alloc zeroO
                have hT14 := hT13.alloc zeroO
                have hX14 := hX13.alloc zeroO
                have hY14 := hY13.alloc zeroO
                have hO14 := hO13.alloc zeroO
                have HLN := Lib.hid (show L.length ≤ 256 by have := HC3.out; simp at this; omega)
                have hit : ItemsC H6 (itemC x ja jb jc jd ++ itemC y ka kb kd ke) [x, y] := (ItemsC.one (hi5.mono hd36.grows.le)).app (ItemsC.one hi6)
                clear ITH2 hp2 hd36 hd13 hT13 hX13 hY13 hO13 hd9 hT9 hX9 hY9 hO9
                go_wp2_with (with_reducible refine stop_store ?_)
                unfold Stopped
                refine wpList_store_item rfl _ _ _ rfl rfl _ _ rfl rfl _ _ hZ size_item rfl (one4 _ _ _ _ rfl rfl rfl rfl) fun w15 hZ15 hg15 => ?_
                have hd15 := hd14.grownRow (row := some w12.heap.size) (by rintro q ⟨⟩; exact hZn) (by rintro q ⟨⟩; exact Nat.le_of_lt hTl2.out.1) hgl hg15
                have hT15 := hT14.grown hg15 (by intro e; injection e with e; have := hTl2.out.1; omega)
                have hX15 := hX14.grown hg15 (by intro e; injection e with e; have := hTl2.out.2.1; omega)
                have hY15 := hY14.grown hg15 (by intro e; injection e with e; have := hTl2.out.2.2; omega)
                have hO15 := hO14.kept hg15 (by
                  cases hv : (Value.slice VA L.length vc).ownBlock with
                  | none => exact .inl rfl
                  | some q => exact .inr (fun e => by injection e with e; have := (hol2.out q hv).2; omega))
                have b0 := hZ15.cell 0 rfl
                have b1 := hZ15.cell 1 rfl
                have b2 := hZ15.cell 2 rfl
                have b3 := hZ15.cell 3 rfl
                have y0 := hY15.cell 0 rfl
                have y1 := hY15.cell 1 rfl
                have y2 := hY15.cell 2 rfl
                have y3 := hY15.cell 3 rfl
                have x3 := hX15.cell 3 rfl
                have hd16 := hd15.alloc (.cells (itemC x ja jb jc jd ++ itemC y ka kb kd ke).toArray 26)
                have hT16 := hT15.alloc (.cells (itemC x ja jb jc jd ++ itemC y ka kb kd ke).toArray 26)
                have hX16 := hX15.alloc (.cells (itemC x ja jb jc jd ++ itemC y ka kb kd ke).toArray 26)
                have hO16 := hO15.alloc (.cells (itemC x ja jb jc jd ++ itemC y ka kb kd ke).toArray 26)
                clear hd14 hT14 hX14 hY14 hO14 hZ hg15 hd15 hT15 hX15 hY15 hO15
                go_wp2_with (at_builtin; refine stop_in ?_)
                unfold Stopped
                refine wpList_app_items rfl (.tmp 72) (.tmp 75) rfl (X + 1) (.slice VA L.length vc) H6 _ rfl hO16 _ 2 _ (itemC x ja jb jc jd ++ itemC y ka kb kd ke) [x, y] rfl rfl hit (Src.new _ _ _ _ rfl _ rfl) (by have := HLN.out; simp; omega) hX16.lt fun v' w17 hO17 hg17 hat17 => ?_
                obtain ⟨VA', vc', rfl, _⟩ := hO17.form
                have hT17 := hT16.grown hg17 (fun e => by have := (hol2.out _ e).1; have := hlt3.out; omega)
                have hX17 := hX16.grown hg17 (fun e => by have := (hol2.out _ e).1; omega)
                have hn17 := own_hid3 hd16.psr.holds hon13 hat17
                have hd17 := hd16.grownRow hon13 (fun q hq => by have := (hol2.out q hq).1; have := hlt3.out; omega) hgl hg17
                obtain ⟨L', hL'⟩ : ∃ L', L ++ [x, y] = L' := ⟨_, rfl⟩
                rw [hL'] at hO17 hn17 HR3 HC3 ⊢
                have HLL : Hid (L'.length = L.length + 2) := by rw [Hid, ← hL']; simp
                clear hL' hd16 hT16 hX16 hO16 hg17 hat17 x3 y0 y1 y2 y3 b0 b1 b2 b3 hZ15
                have hO17l := Lib.hid (show ∀ q, (Value.slice VA' L'.length vc').ownBlock = some q → X + 1 ≤ q from fun q hq => (hO17.lt q hq).1)
                go_wp2_with (with_reducible refine stop_store ?_)
                unfold Stopped
                refine wpList_store_cell rfl _ _ _ rfl rfl X 3 _ rfl rfl _ _ hX17 size_items (by simp) rfl fun w18 hX18 hg18 => ?_
                have hd18 := hd17.grownRow (row := some X) (by rintro q ⟨⟩; exact hXn13) (by rintro q ⟨⟩; exact Nat.le_of_lt hlt3.out) hgl hg18
                have hT18 := hT17.grown hg18 (by intro e; injection e with e; have := hlt3.out; omega)
                have hO18 := hO17.kept hg18 (by
                  cases hv : (Value.slice VA' L'.length vc').ownBlock with
                  | none => exact .inl rfl
                  | some q => exact .inr (fun e => by injection e with e; have := hO17l.out q hv; omega))
                have KI : IntKind.u64.wrap ((i : Int) + 1) = (i : Int) + 1 := by rw [IntKind.wrap_u64]; have := HNN.out; omega
                rw [show P1 + k + k2 = p + (k0 + (k + k2)) by have := HPP1.out; omega] at hd18
                have hmi2 := Lib.hid hmi
                clear hd17 hT17 hX17 hO17 hg18 hmi
                go_wp2_with fail
                go_roundw
                case rel => exact ⟨i + 1, H6, VA', vc', _, L', k0 + (k + k2), c2, some key, _, _, _, by first | rfl | (simp; done) | go_num, rfl, by have := hmi2.out; omega, rfl, .inr ⟨by omega, key, rfl, HKL.out, by have := HLEN.out.1; have := HKLE.out; have := HKL.out; omega, HSK.out⟩, hd18, hT18, hn13, hX18, hXn13, hO18, hn17, HC3.out, by rw [HM1.out]; exact HR3.out⟩
                case measure => have := hmi2.out; simp [intOf]; omega
    · have hm : i = n := by have := HIN.out; omega
      subst hm
      have hlti : ¬ ((i : Int) < (i : Int)) := by omega
      have E1 : Hid (mapR (mapP (parse d) i (l.drop p) cnt none) = .ok (.mk 5 0 [] L) k0 cc) := by
        rw [Hid, HREL.out, Nat.sub_self, mapP]; simp [PL.pre, mapR]
      obtain ⟨H5, hl5, hh5, hf5, hz5, hle1, hle2, hel5⟩ := hOr.snap hdr.psr.holds (fun q hq => hnr q (own_of hq))
      have hlow : ∀ q, VA.map (·.block) = some q → X + 1 ≤ q := fun q hq => (hOr.lt q (own_of hq)).1
      have hn5 : H5 w.heap.size = none := snap_keep hf5 hTn (fun e => by have := hlow _ e; have := hlt3.out; omega)
      have hd6 : Rdg 109 w H wr H5 g (some ⟨b, off, none⟩) c l (p + k0) cc := hdr.snap (B := X + 1) hl5 hh5 hf5 hlow (by have := hlt3.out; omega) hgl
      have b0 := hXr.cell 0 rfl
      have b1 := hXr.cell 1 rfl
      have b2 := hXr.cell 2 rfl
      have b3 := hXr.cell 3 rfl
      have hii : IsItem H5 none 0 VA vc (.mk 5 0 [] L) := IsRowI.item ⟨hle1, hle2, hel5⟩ 5 (by omega) 0 (by omega)
      clear hOr hf5 hel5 hh5 hl5 hTn hnr hlow hdr HREL HLAST
      go_wp2_with (with_reducible refine stop_store ?_)
      unfold Stopped
      refine wpList_store_item rfl _ _ _ rfl rfl _ _ rfl rfl _ _ hTr size_item rfl (one4 _ _ _ _ rfl rfl rfl rfl) fun wz hTy hgz => ?_
      have hdz := hd6.grownRow (row := some w.heap.size) (by rintro q ⟨⟩; exact hn5) (by rintro q ⟨⟩; exact Nat.le_refl _) hgl hgz
      go_wp2_with fail
      refine ret_row_tmp rfl rfl hTy rfl rfl size_item rfl ?_

      exact ItemOut.ok E1.out rfl hdz hii
end
end Go.Proofs.YtebcnkelbicbnaaGreatDoor
namespace Go.Proofs.YtebcnkelbicbnaaGreatDoor
open Go.RowKit

section
variable {d : Nat} {w : World} {H : Snap} {g : Nat} {A : Option Addr} {c : Nat} {l : List UInt8} {p cnt lv : Nat}
set_option maxRecDepth 100000 in
set_option maxHeartbeats 6400000 in
theorem p_item_5 (ih : PItem d) (hTab : Tabs H) (hlv : lv + (d + 1) = 8) (hP : Psr 109 w g H A c l p cnt) (hc : cnt < 256) {f n k : Nat} (hh : headP (l.drop p) = .ok (f, n, k)) (hk : f / 32 = 5) : Calls Tryz.prog 79 #[.pointer (some ⟨g, 0, none⟩), .int .i64 (lv : Int)] w (ItemOut 109 w H g A c l p (parse (d + 1) (l.drop p) cnt)) := by
  have hgl := hP.gt
  have hd0 := (Rdg.refl hP).alloc zeroO
  have hT0 := Blk.new w 26 #[.int .i64 0, .int .u64 0, .slice none 0 0, .slice none 0 0]
  have hn0 : H w.heap.size = none := hP.holds.none_of_ge (Nat.le_refl _)
  have c2 := hd0.psr.blk.cell 2 rfl

  have E0 := Lib.hid (parse_map d (l.drop p) cnt (by omega) hh hk)
  have S : (f : Int) / 32 = 5 := by omega
  have hlv1 : ¬ ((8 : Int) ≤ (lv : Int)) := by omega
  have KL : IntKind.i64.wrap ((lv : Int) + 1) = (lv : Int) + 1 := IntWalk.i64_in _ (by omega)
  have hlvi : (lv : Int) ≤ 8 := by omega

  have hc256 : ((cnt : Int) == 256) = false := by simp; omega
  have hc256' : ((cnt : Int) = 256) = False := eq_false (by omega)
  have KC : IntKind.i64.wrap ((cnt : Int) + 1) = (cnt : Int) + 1 := IntWalk.i64_in _ (by omega)
  have HC := Lib.hid hc
  clear hc
  go_enter Tryz.func79, Tryz.ntmps79
  go_wp2_with (with_reducible refine stop_store ?_)
  unfold Stopped
  refine wpList_store_cell rfl _ _ _ rfl rfl g 2 (.int .i64 ((cnt : Int) + 1)) rfl rfl _ _ hd0.psr.blk size_int1 (by simp) rfl fun w2 hB2 hG2 => ?_
  have hd2 : Rdg 109 w H w2 H g A c l p (cnt + 1) := hd0.step hG2 hB2 hP.le (by have := HC.out; omega)
  have hT2 := hT0.grown hG2 (by intro e; injection e with e; omega)
  have PH := Lib.hid (p_head hd2.psr)
  clear hd0 hT0 hB2 hG2 c2 KC hc256 hc256'
  go_wp2_with fail
  refine PH.out.mono ?_
  intro e w3 hs
  rw [HeadSaid, hh] at hs

  obtain ⟨rfl, hB3, hG3⟩ := hs
  have HS := headP_spec hh
  have hle3 : p + k ≤ l.length := by have := HS.le; rw [List.length_drop] at this; have := hP.le; omega
  have hd3 : Rdg 109 w H w3 H g A c l (p + k) (cnt + 1) := hd2.step hG3 hB3 hle3 (by have := HC.out; omega)
  have hT3 := hT2.grown hG3 (by intro e; injection e with e; omega)
  have HF := Lib.hid HS
  clear hd2 hT2 hB3 hG3 PH HS hh

  rw [List.drop_drop] at E0
  have hpos := HF.out.pos
  have PR_ := p_pairs (lv := lv + 1) ih hTab (by omega) hd3.psr (by omega) n HF.out.n_lt
  rw [show ((lv + 1 : Nat) : Int) = (lv : Int) + 1 by omega] at PR_
  have PRH := Lib.hid PR_
  clear PR_ hpos
  go_wp2_with fail
  refine PRH.out.mono ?_
  intro e w4 hs
  cases hp : mapP (parse d) n (l.drop (p + k)) (cnt + 1) none with
  | err q =>
    rw [hp, mapR, ItemOut] at hs
    obtain ⟨rfl, H4, p4, cnt4, hd34⟩ := hs
    have E : Hid (parse (d + 1) (l.drop p) cnt = .err q) := by rw [Hid, E0.out, hp]
    have hd4 := hd3.trans hd34
    have hT4 := hT3.rdg hd34 (by omega)
    have hn4 := hd34.hid hn0 hT3.lt
    clear hd34 hd3 hT3 PRH hp E0
    go_wp2_with (with_reducible refine stop_store ?_)
    unfold Stopped
    refine wpList_store_item rfl _ _ _ rfl rfl _ _ rfl rfl _ _ hT4 size_item rfl (one4 _ _ _ _ rfl rfl rfl rfl) fun wz hTy hgz => ?_
    have hdz := hd4.grownRow (row := some w.heap.size) (by rintro q ⟨⟩; exact hn4) (by rintro q ⟨⟩; exact Nat.le_refl _) hgl hgz
    go_wp2_with fail
    refine ret_row_tmp rfl rfl hTy rfl rfl size_item rfl ?_

    exact ItemOut.err E.out rfl hdz
  | ok L k' c' =>
    rw [hp, mapR, ItemOut] at hs
    obtain ⟨ja, jb, jc, jd, H4, rfl, hd34, hi4⟩ := hs
    have E : Hid (parse (d + 1) (l.drop p) cnt = .ok (.mk 5 0 [] L) (k + k') c') := by rw [Hid, E0.out, hp]
    have hd4 := hd3.trans hd34
    have hT4 := hT3.rdg hd34 (by omega)
    have hn4 := hd34.hid hn0 hT3.lt
    obtain ⟨X5, hX5⟩ : ∃ X, Itm.mk 5 0 [] L = X := ⟨_, rfl⟩
    rw [hX5] at hi4 E ⊢
    clear hd34 hd3 hT3 PRH hp E0 hX5
    go_wp2_with (with_reducible refine stop_store ?_)
    unfold Stopped
    refine wpList_store_item rfl _ _ _ rfl rfl _ _ rfl rfl _ _ hT4 size_item rfl (one4 _ _ _ _ rfl rfl rfl rfl) fun wz hTy hgz => ?_
    have hdz := hd4.grownRow (row := some w.heap.size) (by rintro q ⟨⟩; exact hn4) (by rintro q ⟨⟩; exact Nat.le_refl _) hgl hgz
    go_wp2_with fail
    refine ret_row_tmp rfl rfl hTy rfl rfl size_item rfl ?_

    exact ItemOut.ok E.out rfl (by rw [← Nat.add_assoc]; exact hdz) hi4
end
/-- The program's reader of items. -/
theorem p_item : ∀ d : Nat, PItem d := by
  intro d
  induction d using Nat.strongRecOn with
  | _ d ih =>
  intro w H g A c l p cnt lv hTab hlv hP
  by_cases hc : cnt = 256
  · exact p_item_full hTab hlv hP hc
  have hc : cnt < 256 := by have := hP.cnt_le; omega
  cases hh : headP (l.drop p) with
  | error q => exact p_item_head hTab hlv hP hc hh
  | ok r =>
    obtain ⟨f, n, k⟩ := r
    have hf := (headP_spec hh).f_lt
    rcases (by omega : f / 32 = 0 ∨ f / 32 = 1 ∨ f / 32 = 2 ∨ f / 32 = 3 ∨ f / 32 = 7 ∨ (4 ≤ f / 32 ∧ f / 32 ≤ 6)) with hk | hk | hk | hk | hk | hk
    · exact p_item_0 hTab hlv hP hc hh hk
    · exact p_item_1 hTab hlv hP hc hh hk
    · exact p_item_2 hTab hlv hP hc hh hk
    · exact p_item_3 hTab hlv hP hc hh hk
    · exact p_item_7 hTab hlv hP hc hh hk
    · cases d with
      | zero => exact p_item_deep hTab (by omega) hP hc hh hk.1 hk.2
      | succ d =>
        have ihd := ih d (by omega)
        rcases (by omega : f / 32 = 4 ∨ f / 32 = 5 ∨ f / 32 = 6) with h4 | h5 | h6
        · exact p_item_4 ihd hTab hlv hP hc hh h4
        · exact p_item_5 ihd hTab hlv hP hc hh h5
        · exact p_item_6 ihd hTab hlv hP hc hh h6
end Go.Proofs.YtebcnkelbicbnaaGreatDoor
