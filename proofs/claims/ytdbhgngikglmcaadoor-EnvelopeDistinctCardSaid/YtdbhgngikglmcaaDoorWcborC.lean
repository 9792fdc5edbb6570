/- Walks: cbor.Array. -/
import Derived.Test.YtdbhgngikglmcaaDoorWcborB
import Derived.Test.YtdbhgngikglmcaaDoorJmem
set_option linter.unusedVariables false
set_option linter.unusedSimpArgs false
namespace Go.Proofs.YtdbhgngikglmcaaDoor
open Go.RowKit

set_option maxRecDepth 100000 in
set_option maxHeartbeats 3200000 in
theorem cbor_Array {H : Snap} (l : List Itm) (A : Option Addr) (n c : Nat) (w : World) (cs : List Value) (hs : Src w A cs) (hcs : ItemsC H cs l) (hn : n = l.length) (hl : l.length ≤ 1099511627776) (hm : ModestL l) (hH : Holds w H) :
    Calls Tryd.prog 23 #[.slice A n c] w fun e w' => ∃ v, e = .returned v ∧ Gives w H (.mk 4 0 [] l) v w' := by
  have HN := Lib.hid hn
  have hB1 := (Blk.new w 26 #[.int .i64 0, .int .u64 0, .slice none 0 0, .slice none 0 0]).alloc (.cells #[.int .i64 4, .int .u64 0, .slice none 0 0, .slice none 0 0] 26)
  have hB2 := Blk.new (w.alloc (.cells #[.int .i64 0, .int .u64 0, .slice none 0 0, .slice none 0 0] 26)) 26 #[.int .i64 4, .int .u64 0, .slice none 0 0, .slice none 0 0]
  rw [show (w.alloc (.cells #[.int .i64 0, .int .u64 0, .slice none 0 0, .slice none 0 0] 26)).heap.size = w.heap.size + 1 by simp] at hB2
  have HG := Lib.hid (((Grows.refl hH).alloc (.cells #[.int .i64 0, .int .u64 0, .slice none 0 0, .slice none 0 0] 26)).alloc (.cells #[.int .i64 4, .int .u64 0, .slice none 0 0, .slice none 0 0] 26))
  clear hn
  go_enter Tryd.func23, Tryd.ntmps23
  go_upto_region 3 with fail
  go_loopw [9] (fun vi wr => ∃ (k : Nat) (Hr : Snap) (VA : Option Addr) (vc : Nat), k ≤ l.length ∧ vi = .int .i64 k ∧ Grows w H wr Hr ∧ Hr w.heap.size = none ∧ Hr (w.heap.size + 1) = none ∧
    Blk wr w.heap.size 26 #[.int .i64 0, .int .u64 0, .slice none 0 0, .slice none 0 0] ∧ Blk wr (w.heap.size + 1) 26 #[.int .i64 4, .int .u64 0, .slice none 0 0, .slice VA k vc] ∧
    OwnI wr (w.heap.size + 2) (.slice VA k vc) Hr (l.take k) ∧ (∀ g, (Value.slice VA k vc).ownBlock = some g → Hr g = none)) (fun vi _ => l.length - (intOf vi).toNat)
  case atStart => exact ⟨0, H, none, 0, Nat.zero_le _, rfl, HG.out, hH.none_of_ge (Nat.le_refl _), hH.none_of_ge (by omega), hB1, hB2, by simpa using OwnI.nil _ _ H, by simp [Value.ownBlock]⟩
  case round =>
    obtain ⟨k, Hr, VA, vc, hk, rfl, hGr, hn1, hn2, hC2, hC1, hCv, hnv⟩ := hrel
    have hn := HN.out
    by_cases hlt : k < l.length
    · obtain ⟨eba, ebc, eia, eic, x0, x1, x2, x3, hex⟩ := hcs.get k hlt
      obtain ⟨sb, so, rfl, hsrc⟩ := (hs.below hGr.below) (by intro h; subst h; simp at x0)
      have p0 := hsrc _ _ x0
      have p1 := hsrc _ _ x1
      have p2 := hsrc _ _ x2
      have p3 := hsrc _ _ x3
      simp only [← Nat.add_assoc] at p0 p1 p2 p3
      have hlt' : k < n := by omega
      have IH := Lib.hid (cbor_copied l[k] Hr _ _ eba _ ebc eia _ eic (wr.alloc (.cells #[.int .i64 l[k].kind, .int .u64 l[k].n, .slice eba l[k].bytes.length ebc, .slice eia l[k].items.length eic] 26)).drew (hm.get k hlt) (hex.mono hGr.le).arg (hGr.holds.alloc _).drew)
      have hCt := Blk.new wr 26 #[.int .i64 l[k].kind, .int .u64 l[k].n, .slice eba l[k].bytes.length ebc, .slice eia l[k].items.length eic]
      have hC1d := (hC1.alloc (.cells #[.int .i64 l[k].kind, .int .u64 l[k].n, .slice eba l[k].bytes.length ebc, .slice eia l[k].items.length eic] 26)).drew
      have hCtd := hCt.drew
      have hwz : w.heap.size + 2 ≤ wr.heap.size := by have := hC1.lt; omega
      clear x0 x1 x2 x3 hsrc hn
      go_upto_region 5 with fail
      refine wp_region_ways 7 (fun w' => w'.cell? ⟨w.heap.size + 1, 3, none⟩ = some (.slice VA k vc) ∧ w'.cell? ⟨wr.heap.size, 0, none⟩ = some (.int .i64 l[k].kind) ∧ w'.cell? ⟨wr.heap.size, 1, none⟩ = some (.int .u64 l[k].n) ∧ w'.cell? ⟨wr.heap.size, 2, none⟩ = some (.slice eba l[k].bytes.length ebc) ∧ w'.cell? ⟨wr.heap.size, 3, none⟩ = some (.slice eia l[k].items.length eic)) (by kernel_rfl) (⟨hC1d.cell 3 rfl, hCtd.cell 0 rfl, hCtd.cell 1 rfl, hCtd.cell 2 rfl, hCtd.cell 3 rfl⟩) (fun hHeld => ?_)
      refine Ways.take (i := 0) (v := ?_) rfl (by kernel_rfl) (fun _ _ _ h => h) (Or.inl ⟨by rfl, ?_⟩) hHeld ?_
      rotate_left
      · (intro w hSw; (try dsimp only at hSw); go_simp; try with_reducible rfl)
      try simp only [Act.put, List.setIfInBounds_toArray, List.set_cons_zero, List.set_cons_succ]
      refine Ways.take (i := 1) (v := ?_) rfl (by kernel_rfl) (fun _ _ _ h => h) (Or.inl ⟨by rfl, ?_⟩) hHeld ?_
      rotate_left
      · (intro w hSw; (try dsimp only at hSw); go_simp; try with_reducible rfl)
      try simp only [Act.put, List.setIfInBounds_toArray, List.set_cons_zero, List.set_cons_succ]
      refine Ways.take (i := 2) (v := ?_) rfl (by kernel_rfl) (fun _ _ _ h => h) (Or.inl ⟨by rfl, ?_⟩) hHeld ?_
      rotate_left
      · (intro w hSw; (try dsimp only at hSw); go_simp; try with_reducible rfl)
      try simp only [Act.put, List.setIfInBounds_toArray, List.set_cons_zero, List.set_cons_succ]
      refine Ways.one (i := 3) rfl (by kernel_rfl) (fun K hK => ?_)
      go_simp
      refine IH.out.mono ?_
      rintro e w3 ⟨v, rfl, rba, rbc, ria, ric, Hs, rfl, hG3, his⟩
      have hD1 := (hC1.alloc (.cells #[.int .i64 l[k].kind, .int .u64 l[k].n, .slice eba l[k].bytes.length ebc, .slice eia l[k].items.length eic] 26)).drew.below hG3.below
      have hDt := hCt.drew.below hG3.below
      have hDv := ((hCv.alloc (.cells #[.int .i64 l[k].kind, .int .u64 l[k].n, .slice eba l[k].bytes.length ebc, .slice eia l[k].items.length eic] 26)).below ((Below.refl _ _).drew.trans hG3.below)).mono hG3.le
      refine hK.out _ _ (fun _ => ?_) (fun hHeld => ?_)
      · exact ⟨hD1.cell 3 rfl, hDt.cell 0 rfl, hDt.cell 1 rfl, hDt.cell 2 rfl, hDt.cell 3 rfl⟩
      clear hK K
      have hHeld := hHeld (by decide)
      try simp only [Act.put, List.setIfInBounds_toArray, List.set_cons_zero, List.set_cons_succ]
      refine Ways.one (i := 4) rfl (by kernel_rfl) (fun K hK => ?_)
      go_simp
      have hE1 := hD1.alloc (.cells #[.int .i64 l[k].kind, .int .u64 l[k].n, .slice rba l[k].bytes.length rbc, .slice ria l[k].items.length ric] 26)
      have hEt := hDt.alloc (.cells #[.int .i64 l[k].kind, .int .u64 l[k].n, .slice rba l[k].bytes.length rbc, .slice ria l[k].items.length ric] 26)
      have hEv := hDv.alloc (.cells #[.int .i64 l[k].kind, .int .u64 l[k].n, .slice rba l[k].bytes.length rbc, .slice ria l[k].items.length ric] 26)
      refine hK.out _ _ (fun _ => ?_) (fun hHeld => ?_)
      · exact ⟨hE1.cell 3 rfl, hEt.cell 0 rfl, hEt.cell 1 rfl, hEt.cell 2 rfl, hEt.cell 3 rfl⟩
      clear hK K
      have hHeld := hHeld (by decide)
      try simp only [Act.put, List.setIfInBounds_toArray, List.set_cons_zero, List.set_cons_succ]
      refine Ways.one (i := 5) rfl (by kernel_rfl) (fun K hK => ?_)
      rw [if_pos (by rfl)]
      refine wp_app_items (.tmp 14) (.tmp 17) rfl (w.heap.size + 2) (.slice VA k vc) Hs (l.take k) rfl hEv _ _ _ (itemC l[k] rba rbc ria ric) [l[k]] rfl rfl (ItemsC.one his) (Src.new _ _ _ _ rfl _ rfl) (by simp; omega) (by have := hG3.below.size; simp at this ⊢; omega) fun v' w5 hown5 hg5 hat5 => ?_
      obtain ⟨VA', vc', rfl, hvc1, hvc2⟩ := hown5.form
      have hF1 := hE1.grown hg5 (fun h => by have := (hCv.lt _ h).1; omega)
      have hFt := hEt.grown hg5 (fun h => by have := (hCv.lt _ h).2; omega)
      refine hK.out _ _ (fun _ => ?_) (fun hHeld => ?_)
      · exact ⟨hF1.cell 3 rfl, hFt.cell 0 rfl, hFt.cell 1 rfl, hFt.cell 2 rfl, hFt.cell 3 rfl⟩
      clear hK K
      have hHeld := hHeld (by decide)
      try simp only [Act.put, List.setIfInBounds_toArray, List.set_cons_zero, List.set_cons_succ]
      refine Ways.take (i := 6) (v := ?_) rfl (by kernel_rfl) (fun _ _ _ h => h) (Or.inl ⟨by rfl, ?_⟩) hHeld ?_
      rotate_left
      · (intro w hSw; (try dsimp only at hSw); go_simp; try with_reducible rfl)
      try simp only [Act.put, List.setIfInBounds_toArray, List.set_cons_zero, List.set_cons_succ]
      refine Ways.one (i := 7) rfl (by kernel_rfl) (fun K hK => ?_)
      rw [if_pos (by rfl)]
      refine wp_store_cell _ _ _ rfl (w.heap.size + 1) 3 _ rfl rfl _ _ hF1 size_items (by simp) rfl fun w6 hJ1 hg6 => ?_
      refine hK.out _ _ (fun h => absurd rfl h) (fun _ => ?_)
      clear hK K
      try simp only [Act.put, List.setIfInBounds_toArray, List.set_cons_zero, List.set_cons_succ]
      refine Ways.done (by kernel_rfl) ?_
      have hG4 := (((hGr.alloc (.cells #[.int .i64 l[k].kind, .int .u64 l[k].n, .slice eba l[k].bytes.length ebc, .slice eia l[k].items.length eic] 26)).drew).trans hG3).alloc (.cells #[.int .i64 l[k].kind, .int .u64 l[k].n, .slice rba l[k].bytes.length rbc, .slice ria l[k].items.length ric] 26)
      have hm1 := hG3.none hn1 (by simp; omega)
      have hm2 := hG3.none hn2 (by simp; omega)
      have hmv : ∀ g, (Value.slice VA k vc).ownBlock = some g → Hs g = none := fun g hg => hG3.none (hnv g hg) (by have := (hCv.lt g hg).2; simp; omega)
      have hG5 := hG4.grownRow hmv (fun g hg => by have := (hCv.lt g hg).1; omega) hg5
      have hG6 := hG5.grownOwn hm2 (by omega) hg6
      have hJ2 := (((hC2.alloc (.cells #[.int .i64 l[k].kind, .int .u64 l[k].n, .slice eba l[k].bytes.length ebc, .slice eia l[k].items.length eic] 26)).drew.below hG3.below).alloc (.cells #[.int .i64 l[k].kind, .int .u64 l[k].n, .slice rba l[k].bytes.length rbc, .slice ria l[k].items.length ric] 26)).grown hg5 (fun h => by have := (hCv.lt _ h).1; omega)
      have hJ2 := hJ2.grown hg6 (by simp)
      have hnv' : ∀ g, (Value.slice VA' (l.take k ++ [l[k]]).length vc').ownBlock = some g → Hs g = none := fun g hg => by
        rcases hat5 with h | ⟨g', h1, h2⟩
        · exact hmv g (by rw [← h, hg])
        · rw [hg] at h1
          injection h1 with h1
          subst h1
          exact hG4.hidden h2
      have hv5 := hown5.kept hg6 (.inr fun h => by have := (hown5.lt _ h).1; omega)
      rw [← List.take_succ_eq_append_getElem hlt] at hv5 hnv' hJ1
      rw [List.length_take, Nat.min_eq_left (by omega)] at hv5 hnv' hJ1
      clear hHeld IH p0 p1 p2 p3 hCt hC1d hCtd hC1 hC2 hCv hD1 hDt hDv hE1 hEt hEv hown5 hg5 hat5 hF1 hFt hG4 hG5 hg6
      go_wp2_with fail
      go_roundw
      case rel => exact ⟨k + 1, Hs, VA', vc', by omega, by go_num, hG6, hm1, hm2, hJ2, hJ1, hv5, hnv'⟩
      case measure => simp [intOf]; omega
    · have hkl : k = l.length := by omega
      subst hkl
      rw [List.take_length] at hCv
      have c0 := hC1.cell 0 rfl
      have c1 := hC1.cell 1 rfl
      have c2 := hC1.cell 2 rfl
      have c3 := hC1.cell 3 rfl
      obtain ⟨H', hl1, hh', hf', _, hle1, hle2, hel⟩ := hCv.snap hGr.holds (fun g hg => hnv g (by cases VA <;> simp_all [Value.ownBlock]))
      have hG' : Grows w H wr H' := ⟨hGr.below, hGr.le.trans hl1, hh', fun b o hb => by
        rcases hf' b o hb with h | h
        · exact hGr.fresh b o h
        · exact .inr (by have := (hCv.lt b (by cases VA <;> simp_all [Value.ownBlock])).1; omega)⟩
      have hn1' : H' w.heap.size = none := by
        cases hx : H' w.heap.size with
        | none => rfl
        | some o =>
          rcases hf' _ _ hx with h | h
          · rw [hn1] at h; cases h
          · have := (hCv.lt w.heap.size (by cases VA <;> simp_all [Value.ownBlock])).1; omega
      have hitem : IsItem H' none 0 VA vc (.mk 4 0 [] l) := by
        rw [IsItem]
        exact ⟨⟨by omega, by omega, by omega, hle1, hle2⟩, IsBytes.nil _, hel⟩
      clear hl1 hh' hf' hle1 hle2 hel hCv hGr
      go_wp2_with (with_reducible refine stop_store ?_)
      unfold Stopped
      refine wpList_store_item rfl _ _ _ rfl rfl _ _ rfl rfl _ _ hC2 size_item rfl (one4 _ _ _ _ rfl rfl rfl rfl) fun w6 hJ2 hg6 => ?_
      go_wp2_with fail
      refine ret_row rfl rfl hJ2 rfl rfl size_item rfl ?_
      exact ⟨_, rfl, none, 0, VA, vc, H', rfl, hG'.grownOwn hn1' (Nat.le_refl _) hg6, hitem⟩
end Go.Proofs.YtdbhgngikglmcaaDoor
