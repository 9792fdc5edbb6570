/- Walk: cbor.Find. -/
import Derived.Test.YtdbhgngikglmcaaDoorWcborC
set_option linter.unusedVariables false
set_option linter.unusedSimpArgs false
namespace Go.Proofs.YtdbhgngikglmcaaDoor
open Go.RowKit

set_option maxRecDepth 100000 in
set_option maxHeartbeats 3200000 in
theorem cbor_Find {H : Snap} (hT : Tabs H) {k n : Int} {ba : Option Addr} {bl bc : Nat} {ia : Option Addr} {il ic : Nat} {x : Itm} (hx : ItemA H k n ba bl bc ia il ic x)
    {k' n' : Int} {ba' : Option Addr} {bl' bc' : Nat} {ia' : Option Addr} {il' ic' : Nat} {y : Itm} (hy : ItemA H k' n' ba' bl' bc' ia' il' ic' y) (w : World) (hH : Holds w H) :
    Calls Tryd.prog 53 #[.agg #[.int .i64 k, .int .u64 n, .slice ba bl bc, .slice ia il ic], .agg #[.int .i64 k', .int .u64 n', .slice ba' bl' bc', .slice ia' il' ic']] w
      fun e w' => ∃ v, e = .returned (.tuple #[v, .bool (findP x y).isSome]) ∧ Gives w H ((findP x y).getD zeroItm) v w' := by
  obtain ⟨rfl, rfl, rfl, rfl, hxi⟩ := hx.eqs
  obtain ⟨rfl, rfl, rfl, rfl, hyi⟩ := hy.eqs
  have HX := Lib.hid hxi
  have HXA := Lib.hid hx
  have HYA := Lib.hid hy
  have hB1 := ((Blk.new w 26 #[.int .i64 x.kind, .int .u64 x.n, .slice ba x.bytes.length bc, .slice ia x.items.length ic]).alloc (itemO y ba' bc' ia' ic')).alloc zeroO
  have hB2 := (Blk.new (w.alloc (itemO x ba bc ia ic)) 26 #[.int .i64 y.kind, .int .u64 y.n, .slice ba' y.bytes.length bc', .slice ia' y.items.length ic']).alloc zeroO
  have hB3 := Blk.new ((w.alloc (itemO x ba bc ia ic)).alloc (itemO y ba' bc' ia' ic')) 26 #[.int .i64 0, .int .u64 0, .slice none 0 0, .slice none 0 0]
  have hG0 := (((Grows.refl hH).alloc (itemO x ba bc ia ic)).alloc (itemO y ba' bc' ia' ic')).alloc zeroO
  simp only [size_alloc] at hB2 hB3
  have hn3 : H (w.heap.size + 1 + 1) = none := hH.none_of_ge (by omega)
  by_cases h5 : x.kind = 5
  · have k5 : (x.kind != 5) = false := by simp [h5]
    have H5 := Lib.hid h5
    clear h5
    have V := Lib.hid (cbor_Valid hT hx _ hG0.holds)
    cases hvx : validP x with
    | false =>
      have E : Hid (findP x y = none) := by rw [Hid, findP, if_neg (by simp [hvx])]
      have HG := Lib.hid hG0
      rw [hvx] at V
      clear hvx hxi hyi hx hy hG0
      go_enter Tryd.func53, Tryd.ntmps53
      go_wp2_with fail
      refine V.out.mono ?_
      rintro e w1 ⟨rfl, hb1⟩
      have hB3 := hB3.below hb1
      have HG1 := Lib.hid (HG.out.below_ hb1)
      clear hB1 hB2 hb1 HG
      go_wp2_with (with_reducible refine stop_store ?_)
      unfold Stopped
      refine wpList_store_item rfl _ _ _ rfl rfl _ _ rfl rfl _ _ hB3 size_item rfl (one4 _ _ _ _ rfl rfl rfl rfl) fun w6 hJ2 hg6 => ?_
      go_wp2_with fail
      refine ret_row_tmp rfl rfl hJ2 rfl rfl size_item rfl ?_
      rw [E.out]
      exact ⟨_, rfl, none, 0, none, 0, H, rfl, HG1.out.grownOwn hn3 (by omega) hg6, IsItem.plain H 0 0 (by omega) (by omega)⟩
    | true =>
      have hmx := validP_modest hvx
      obtain ⟨hx1, hx2, hKx, hex⟩ := validP_items hvx
      have heven := Lib.hid (validP_even hvx H5.out)
      have HVX := Lib.hid hvx
      rw [hvx] at V
      clear hvx hxi hyi hx hy
      go_enter Tryd.func53, Tryd.ntmps53
      go_wp2_with fail
      refine V.out.mono ?_
      rintro e w1 ⟨rfl, hb1⟩
      have hB1 := hB1.below hb1
      have hB2 := hB2.below hb1
      have hB3 := hB3.below hb1
      have hG1 := hG0.below_ hb1
      have q0 := hB2.cell 0 rfl
      have q1 := hB2.cell 1 rfl
      have q2 := hB2.cell 2 rfl
      have q3 := hB2.cell 3 rfl
      have V2 := Lib.hid (cbor_Valid hT HYA.out _ hG1.holds)
      cases hvy : validP y with
      | false =>
        have E : Hid (findP x y = none) := by rw [Hid, findP, if_neg (by simp [hvy])]
        rw [hvy] at V2
        clear hvy
        go_wp2_with fail
        refine V2.out.mono ?_
        rintro e w2 ⟨rfl, hb2⟩
        have hB3 := hB3.below hb2
        have HG2 := Lib.hid (hG1.below_ hb2)
        clear hB1 hB2 hb1 hb2 q0 q1 q2 q3 hG1 hG0
        go_wp2_with (with_reducible refine stop_store ?_)
        unfold Stopped
        refine wpList_store_item rfl _ _ _ rfl rfl _ _ rfl rfl _ _ hB3 size_item rfl (one4 _ _ _ _ rfl rfl rfl rfl) fun w6 hJ2 hg6 => ?_
        go_wp2_with fail
        refine ret_row_tmp rfl rfl hJ2 rfl rfl size_item rfl ?_
        rw [E.out]
        exact ⟨_, rfl, none, 0, none, 0, H, rfl, HG2.out.grownOwn hn3 (by omega) hg6, IsItem.plain H 0 0 (by omega) (by omega)⟩
      | true =>
        obtain ⟨hky, _, hly⟩ := validP_spec hvy
        have E : Hid (findP x y = findL (encB y) x.items) := by rw [Hid, findP, if_pos ⟨H5.out, HVX.out, hvy⟩]
        rw [hvy] at V2
        clear hvy
        go_wp2_with fail
        refine V2.out.mono ?_
        rintro e w2 ⟨rfl, hb2⟩
        have hB1 := hB1.below hb2
        have hB2 := hB2.below hb2
        have hB3 := hB3.below hb2
        have hG2 := hG1.below_ hb2
        have A := Lib.hid (cbor_add y H _ _ _ _ _ _ _ _ w2 w2.heap.size (.slice none 0 0) [] hky HYA.out hG2.holds (OwnB.nil _ _) (Nat.le_refl _) (by simp [Value.ownBlock]) (by simp; omega))
        clear hb1 hb2 q0 q1 q2 q3 hG1 hG0
        have q0 := hB2.cell 0 rfl
        have q1 := hB2.cell 1 rfl
        have q2 := hB2.cell 2 rfl
        have q3 := hB2.cell 3 rfl
        go_wp2_with fail
        refine A.out.mono ?_
        rintro e w3 ⟨r, rfl, hown, hg3, _⟩
        obtain ⟨KA, kc, rfl, _, _, hsrc⟩ := hown.form
        rw [List.nil_append] at hown hsrc
        have hb3 := grown_none hg3
        have h3B1 := hB1.below hb3
        have h3B3 := hB3.below hb3
        have HG3 := Lib.hid (hG2.below_ hb3)
        have c3 := h3B1.cell 3 rfl
        clear hB2 q0 q1 q2 q3 hG2 A V V2 hg3
        go_upto_region 5 with fail
        go_loopw [7] (fun vi wr => ∃ k : Nat, k ≤ x.items.length ∧ k % 2 = 0 ∧ vi = .int .i64 k ∧ findL (encB y) (x.items.drop k) = findP x y ∧ Below w3.heap.size w3 wr) (fun vi _ => x.items.length - (intOf vi).toNat)
        case atStart => exact ⟨0, Nat.zero_le _, rfl, rfl, by rw [E.out]; simp, Below.refl _ _⟩
        case round =>
          obtain ⟨k, hk, hk2, rfl, hf, hbr⟩ := hrel
          have HGr := Lib.hid (HG3.out.below_ hbr)
          have d3 := (h3B1.below hbr).cell 3 rfl
          by_cases hlt : k < x.items.length
          · have heven := heven.out
            have hlt1 : k + 1 < x.items.length := by omega
            have hst := findL_step (encB y) x.items k hlt1
            rw [hf] at hst
            obtain ⟨ib, io, hia, hel⟩ := HX.out.items (by omega)
            subst hia
            obtain ⟨eba, ebc, eia, eic, z0, z1, z2, z3, hez⟩ := hel.get k hlt
            have hHr := HGr.out.holds
            have p0 := hHr.cell z0
            have p1 := hHr.cell z1
            have p2 := hHr.cell z2
            have p3 := hHr.cell z3
            have HST := Lib.hid hst
            have A := Lib.hid (cbor_add x.items[k] H _ _ _ _ _ _ _ _ wr wr.heap.size (.slice none 0 0) [] (hKx.get k hlt) hez.arg hHr (OwnB.nil _ _) (Nat.le_refl _) (by simp [Value.ownBlock]) (by have := encL_get x.items k hlt; simp; omega))
            clear z0 z1 z2 z3 hez hst hf heven
            go_wp2_with fail
            refine A.out.mono ?_
            rintro e w4 ⟨r, rfl, hown4, hg4, _⟩
            obtain ⟨EA, ec, rfl, _, _, hsrc4⟩ := hown4.form
            rw [List.nil_append] at hown4 hsrc4
            have hb4 := grown_none hg4
            have Q := Lib.hid (bytes_Equal w4 EA KA (encB x.items[k]) (encB y) (encB x.items[k]).length (encB y).length ec kc rfl rfl hsrc4 (hsrc.below (hbr.trans (hb4.mono hbr.size))))
            have HGr4 := Lib.hid (HGr.out.below_ hb4)
            have hB1r := (h3B1.below hbr).below hb4
            have hB3r := (h3B3.below hbr).below hb4
            have hbr4 := hbr.trans (hb4.mono hbr.size)
            have e3 := hB1r.cell 3 rfl
            clear d3 p0 p1 p2 p3 A hg4 hbr hHr
            go_wp2_with fail
            refine Q.out.mono ?_
            rintro e w5 ⟨rfl, rfl⟩
            cases hq : (encB x.items[k] == encB y) with
            | true =>
              have E2 : Hid (findP x y = some x.items[k + 1]) := HST.out.trans (if_pos (by simpa using hq))
              obtain ⟨eba', ebc', eia', eic', z0, z1, z2, z3, hez⟩ := hel.get (k + 1) hlt1
              have hHr := HGr4.out.holds
              have p0 := hHr.cell z0
              have p1 := hHr.cell z1
              have p2 := hHr.cell z2
              have p3 := hHr.cell z3
              have C := Lib.hid (cbor_copied x.items[k + 1] H _ _ eba' _ ebc' eia' _ eic' w4 (hmx.parts.2.2.get (k + 1) hlt1) hez.arg hHr)
              have i1 : ((k : Int) + 1).toNat = k + 1 := by omega
              have i2 : (k : Int) + 1 < x.items.length := by omega
              have i3 : IntKind.i64.wrap ((k : Int) + 1) = (k : Int) + 1 := IntWalk.i64_in _ (by omega)
              clear z0 z1 z2 z3 hez hq Q hel
              go_wp2_with fail
              refine C.out.mono ?_
              rintro e w5 ⟨v, rfl, rba, rbc, ria, ric, Hs, rfl, hG5, his⟩
              have hF3 := hB3r.below hG5.below
              have hn3' := hG5.none hn3 (by have := hB3r.lt; omega)
              have HG5 := Lib.hid (HGr4.out.trans hG5)
              clear e3 p0 p1 p2 p3 C hB1r
              go_wp2_with (with_reducible refine stop_store ?_)
              unfold Stopped
              refine wpList_store_item rfl _ _ _ rfl rfl _ _ rfl rfl _ _ hF3 size_item rfl (one4 _ _ _ _ rfl rfl rfl rfl) fun w6 hJ2 hg6 => ?_
              go_wp2_with fail
              refine ret_row_tmp rfl rfl hJ2 rfl rfl size_item rfl ?_
              rw [E2.out]
              exact ⟨_, rfl, rba, rbc, ria, ric, Hs, rfl, HG5.out.grownOwn hn3' (by omega) hg6, his⟩
            | false =>
              have E2 : Hid (findL (encB y) (x.items.drop (k + 2)) = findP x y) := (HST.out.trans (if_neg (by simpa using hq))).symm
              have heven := heven.out
              have i3 : IntKind.i64.wrap ((k : Int) + 2) = (k : Int) + 2 := IntWalk.i64_in _ (by omega)
              clear hq Q hel e3
              go_wp2_with fail
              go_roundw
              case rel => exact ⟨k + 2, by omega, by omega, by go_num, E2.out, hbr4⟩
              case measure => simp [intOf]; omega
          · have E2 : Hid (findP x y = none) := by
              rw [Hid, ← hf, List.drop_eq_nil_of_le (by omega)]
              rfl
            have hB3r := h3B3.below hbr
            clear hf
            go_wp2_with (with_reducible refine stop_store ?_)
            unfold Stopped
            refine wpList_store_item rfl _ _ _ rfl rfl _ _ rfl rfl _ _ hB3r size_item rfl (one4 _ _ _ _ rfl rfl rfl rfl) fun w6 hJ2 hg6 => ?_
            go_wp2_with fail
            refine ret_row_tmp rfl rfl hJ2 rfl rfl size_item rfl ?_
            rw [E2.out]
            exact ⟨_, rfl, none, 0, none, 0, H, rfl, HGr.out.grownOwn hn3 (by omega) hg6, IsItem.plain H 0 0 (by omega) (by omega)⟩
  · have k5 : (x.kind != 5) = true := by simp [h5]
    have E : Hid (findP x y = none) := by rw [Hid, findP, if_neg (by simp [h5])]
    clear h5
    have HG := Lib.hid hG0
    clear hxi hyi hx hy hG0
    go_enter Tryd.func53, Tryd.ntmps53
    go_wp2_with (with_reducible refine stop_store ?_)
    unfold Stopped
    refine wpList_store_item rfl _ _ _ rfl rfl _ _ rfl rfl _ _ hB3 size_item rfl (one4 _ _ _ _ rfl rfl rfl rfl) fun w6 hJ2 hg6 => ?_
    go_wp2_with fail
    refine ret_row_tmp rfl rfl hJ2 rfl rfl size_item rfl ?_
    rw [E.out]
    exact ⟨_, rfl, none, 0, none, 0, H, rfl, HG.out.grownOwn hn3 (by omega) hg6, IsItem.plain H 0 0 (by omega) (by omega)⟩
end Go.Proofs.YtdbhgngikglmcaaDoor
