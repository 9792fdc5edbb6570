/- squeezed. Walks: the program's reader of items: maps; all items. -/
import Derived.Test.YtlebpackbfcfeaaDoorJ22
set_option linter.unusedVariables false
set_option linter.unusedSimpArgs false
namespace Go.Proofs.YtlebpackbfcfeaaDoor
open Go.RowKit

section
variable {d : Nat} {w : World} {H : Snap} {g : Nat} {A : Option Addr} {c : Nat} {l : List UInt8} {p cnt lv : Nat}
set_option maxRecDepth 100000 in
set_option maxHeartbeats 6400000 in
theorem p_item_5 (ih : PItem d) (hTab : Tabs H) (hlv : lv + (d + 1) = 8) (hP : Psr 110 w g H A c l p cnt) (hc : cnt < 256) {f n k : Nat} (hh : headP (l.drop p) = .ok (f, n, k)) (hk : f / 32 = 5) : Calls Tryd.prog 77 #[.pointer (some ⟨g, 0, none⟩), .int .i64 (lv : Int)] w (ItemOut 110 w H g A c l p (parse (d + 1) (l.drop p) cnt)) := by
 have hgl := hP.gt
 have hd0 := (Rdg.refl hP).alloc zeroO
 have hT0 := Blk.new w 69 #[.int .i64 0, .int .u64 0, .slice none 0 0, .slice none 0 0]
 have hn0 : H w.heap.size = none := hP.holds.none_of_ge (Nat.le_refl _)
 have c2 := hd0.psr.blk.cell 2 rfl

 have E0 := Lib.hid (parse_map d (l.drop p) cnt (by omega) hh hk)
 have S : (f : Int) / 32 = 5 := by omega
 have hlv1 : ¬ ((8 : Int) ≤ (lv : Int)) := by omega
 have KL : IntKind.i64.wrap ((lv : Int) + 1) = (lv : Int) + 1 := IntWalk.i64_in _ (by omega)
 have hlvi : (lv : Int) ≤ 8 := by omega

 have hc256 : ((cnt : Int) == 256) = false := by simp; omega
 have hc256' : ((cnt : Int) = 256) = False := eq_false (by omega)
 have KC : IntKind.i64.wrap ((cnt : Int) + 1) = (cnt : Int) + 1 := IntWalk.i64_in _ (by omega)
 have HC := Lib.hid hc
 clear hc
 go_enter Tryd.func77, Tryd.ntmps77
 go_wp2_with (with_reducible refine stop_store ?_)
 unfold Stopped
 refine wpList_store_cell rfl _ _ _ rfl rfl g 2 (.int .i64 ((cnt : Int) + 1)) rfl rfl _ _ hd0.psr.blk size_int1 (by simp) rfl fun w2 hB2 hG2 => ?_
 have hd2 : Rdg 110 w H w2 H g A c l p (cnt + 1) := hd0.step hG2 hB2 hP.le (by have := HC.out; omega)
 have hT2 := hT0.grown hG2 (by intro e; injection e with e; omega)
 have PH := Lib.hid (p_head hd2.psr)
 clear hd0 hT0 hB2 hG2 c2 KC hc256 hc256'
 go_wp2_with fail
 refine PH.out.mono ?_
 intro e w3 hs
 rw [HeadSaid, hh] at hs

 obtain ⟨rfl, hB3, hG3⟩ := hs
 have HS := headP_spec hh
 have hle3 : p + k ≤ l.length := by have := HS.le; rw [List.length_drop] at this; have := hP.le; omega
 have hd3 : Rdg 110 w H w3 H g A c l (p + k) (cnt + 1) := hd2.step hG3 hB3 hle3 (by have := HC.out; omega)
 have hT3 := hT2.grown hG3 (by intro e; injection e with e; omega)
 have HF := Lib.hid HS
 clear hd2 hT2 hB3 hG3 PH HS hh

 rw [List.drop_drop] at E0
 have hpos := HF.out.pos
 have PR_ := p_pairs (lv := lv + 1) ih hTab (by omega) hd3.psr (by omega) n HF.out.n_lt
 rw [show ((lv + 1 : Nat) : Int) = (lv : Int) + 1 by omega] at PR_
 have PRH := Lib.hid PR_
 clear PR_ hpos
 go_wp2_with fail
 refine PRH.out.mono ?_
 intro e w4 hs
 cases hp : mapP (parse d) n (l.drop (p + k)) (cnt + 1) none with
 | err q =>
   rw [hp, mapR, ItemOut] at hs
   obtain ⟨rfl, H4, p4, cnt4, hd34⟩ := hs
   have E : Hid (parse (d + 1) (l.drop p) cnt = .err q) := by rw [Hid, E0.out, hp]
   have hd4 := hd3.trans hd34
   have hT4 := hT3.rdg hd34 (by omega)
   have hn4 := hd34.hid hn0 hT3.lt
   clear hd34 hd3 hT3 PRH hp E0
   go_wp2_with (with_reducible refine stop_store ?_)
   unfold Stopped
   refine wpList_store_item rfl _ _ _ rfl rfl _ _ rfl rfl _ _ hT4 size_item rfl (one4 _ _ _ _ rfl rfl rfl rfl) fun wz hTy hgz => ?_
   have hdz := hd4.grownRow (row := some w.heap.size) (by rintro q ⟨⟩; exact hn4) (by rintro q ⟨⟩; exact Nat.le_refl _) hgl hgz
   go_wp2_with fail
   refine ret_row_tmp rfl rfl hTy rfl rfl size_item rfl ?_

   exact ItemOut.err E.out rfl hdz
 | ok L k' c' =>
   rw [hp, mapR, ItemOut] at hs
   obtain ⟨ja, jb, jc, jd, H4, rfl, hd34, hi4⟩ := hs
   have E : Hid (parse (d + 1) (l.drop p) cnt = .ok (.mk 5 0 [] L) (k + k') c') := by rw [Hid, E0.out, hp]
   have hd4 := hd3.trans hd34
   have hT4 := hT3.rdg hd34 (by omega)
   have hn4 := hd34.hid hn0 hT3.lt
   obtain ⟨X5, hX5⟩ : ∃ X, Itm.mk 5 0 [] L = X := ⟨_, rfl⟩
   rw [hX5] at hi4 E ⊢
   clear hd34 hd3 hT3 PRH hp E0 hX5
   go_wp2_with (with_reducible refine stop_store ?_)
   unfold Stopped
   refine wpList_store_item rfl _ _ _ rfl rfl _ _ rfl rfl _ _ hT4 size_item rfl (one4 _ _ _ _ rfl rfl rfl rfl) fun wz hTy hgz => ?_
   have hdz := hd4.grownRow (row := some w.heap.size) (by rintro q ⟨⟩; exact hn4) (by rintro q ⟨⟩; exact Nat.le_refl _) hgl hgz
   go_wp2_with fail
   refine ret_row_tmp rfl rfl hTy rfl rfl size_item rfl ?_

   exact ItemOut.ok E.out rfl (by rw [← Nat.add_assoc]; exact hdz) hi4
end
theorem p_item : ∀ d : Nat, PItem d := by
 intro d
 induction d using Nat.strongRecOn with
 | _ d ih =>
 intro w H g A c l p cnt lv hTab hlv hP
 by_cases hc : cnt = 256
 · exact p_item_full hTab hlv hP hc
 have hc : cnt < 256 := by have := hP.cnt_le; omega
 cases hh : headP (l.drop p) with
 | error q => exact p_item_head hTab hlv hP hc hh
 | ok r =>
   obtain ⟨f, n, k⟩ := r
   have hf := (headP_spec hh).f_lt
   rcases (by omega : f / 32 = 0 ∨ f / 32 = 1 ∨ f / 32 = 2 ∨ f / 32 = 3 ∨ f / 32 = 7 ∨ (4 ≤ f / 32 ∧ f / 32 ≤ 6)) with hk | hk | hk | hk | hk | hk
   · exact p_item_0 hTab hlv hP hc hh hk
   · exact p_item_1 hTab hlv hP hc hh hk
   · exact p_item_2 hTab hlv hP hc hh hk
   · exact p_item_3 hTab hlv hP hc hh hk
   · exact p_item_7 hTab hlv hP hc hh hk
   · cases d with
     | zero => exact p_item_deep hTab (by omega) hP hc hh hk.1 hk.2
     | succ d =>
       have ihd := ih d (by omega)
       rcases (by omega : f / 32 = 4 ∨ f / 32 = 5 ∨ f / 32 = 6) with h4 | h5 | h6
       · exact p_item_4 ihd hTab hlv hP hc hh h4
       · exact p_item_5 ihd hTab hlv hP hc hh h5
       · exact p_item_6 ihd hTab hlv hP hc hh h6
end Go.Proofs.YtlebpackbfcfeaaDoor
