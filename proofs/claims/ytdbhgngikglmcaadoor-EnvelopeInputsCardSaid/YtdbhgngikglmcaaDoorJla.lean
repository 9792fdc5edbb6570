/- Walks: envelope.Encode at the example; the examples of chapter 13. Walks: the examples of chapter 13; headers. -/
import Derived.Test.YtdbhgngikglmcaaDoorJenv
import Derived.Test.YtdbhgngikglmcaaDoorJrc
import Derived.Test.YtdbhgngikglmcaaDoorDk7
import Derived.Test.YtdbhgngikglmcaaDoorRn
set_option linter.unusedVariables false
set_option linter.unusedSimpArgs false
namespace Go.Proofs.YtdbhgngikglmcaaDoor
open Go.RowKit

def envI : Itm := .mk 6 16 [] [.mk 4 0 [] [bytesItm [], emptyM, bytesItm [1, 2]]]
theorem envI_enc : encB envI = [208, 131, 64, 160, 66, 1, 2] := by
  simp [envI, encB, encL, headB, numP, Itm.kind, Itm.n, Itm.bytes, Itm.items]
  decide
theorem envI_valid : validP envI = true := by
  rw [validP_iff]
  refine ⟨Good.of rfl (GoodL.of fun x hx => ?_) (fun h => by simp [envI, Itm.kind] at h), by simp [envI, cnt, cntL], by rw [envI_enc]; simp⟩
  simp only [envI, Itm.items, List.mem_singleton] at hx
  subst hx
  refine Good.of rfl (GoodL.of fun x hx => ?_) (fun h => by simp [Itm.kind] at h)
  simp only [Itm.items, List.mem_cons, List.not_mem_nil, or_false] at hx
  rcases hx with rfl | rfl | rfl
  · exact good_str 2 (.inl rfl) _ _ (fun h => by omega)
  · exact Good.of rfl (by simp only [Itm.items]; rw [GoodL]; trivial) (fun _ => rfl)
  · exact good_str 2 (.inl rfl) _ _ (fun h => by omega)
theorem lit_own {w wr : World} {H Hr : Snap} (_h : Grows w H wr Hr) {l : List Itm} {cs : List Value} (hc : ItemsC Hr cs l) (hm : l.length ≤ 4096) :
    OwnI (wr.alloc (.cells cs.toArray 26)) wr.heap.size (.slice (some ⟨wr.heap.size, 0, none⟩) l.length l.length) Hr l := OwnI.lit hc _ (Nat.le_refl _) hm
/-- A row of items that was just made, as data. -/
theorem lit_snap {w wr : World} {H Hr : Snap} (h : Grows w H wr Hr) {l : List Itm} {cs : List Value} (hc : ItemsC Hr cs l) (hm : l.length ≤ 4096) :
    ∃ H', Grows w H (wr.alloc (.cells cs.toArray 26)) H' ∧ Hr.le H' ∧ IsRowI H' (some ⟨wr.heap.size, 0, none⟩) l.length l := by
  have hO := lit_own h hc hm
  have hG := h.alloc (.cells cs.toArray 26)
  obtain ⟨H', hl, hh, hf, hz, h1, h2, h3⟩ := hO.snap hG.holds (fun q hq => by cases hq; exact h.holds.none_of_ge (Nat.le_refl _))
  refine ⟨H', ⟨hG.below, hG.le.trans hl, hh, fun b o hb => ?_⟩, hl, ⟨h1, h2, h3⟩⟩
  rcases hf b o hb with h4 | h4
  · exact hG.fresh b o h4
  · simp at h4; exact .inr (by have := h.size; omega)

set_option maxRecDepth 100000 in
set_option maxHeartbeats 6400000 in
theorem env_Encode {H : Snap} (hTab : Tabs H) (w : World) (hH : Holds w H) (g : Nat) (hB : Blk w g 5 #[.int .u8 1, .int .u8 2]) :
    Calls Tryd.prog 15 #[.int .i64 16, .agg #[.int .i64 5, .int .u64 0, .slice none 0 0, .slice none 0 0, .int .i64 5, .int .u64 0, .slice none 0 0, .slice none 0 0, .slice (some ⟨g, 0, none⟩) 2 2, .slice none 0 0]] w fun e w' => ∃ r, e = .returned (.tuple #[r, .int .i64 0]) ∧ Fresh w [208, 131, 64, 160, 66, 1, 2] r w' := by
  have hE := Blk.new w 51 #[.int .i64 5, .int .u64 0, .slice none 0 0, .slice none 0 0, .int .i64 5, .int .u64 0, .slice none 0 0, .slice none 0 0, .slice (some ⟨g, 0, none⟩) 2 2, .slice none 0 0]
  have hG := (Grows.refl hH).alloc (.cells #[.int .i64 5, .int .u64 0, .slice none 0 0, .slice none 0 0, .int .i64 5, .int .u64 0, .slice none 0 0, .slice none 0 0, .slice (some ⟨g, 0, none⟩) 2 2, .slice none 0 0] 51)
  have hSB : Src w (some ⟨g, 0, none⟩) (([1, 2] : List UInt8).map byteV) := fun _ => ⟨g, 0, rfl, fun j v hj => by
    match j, hj with
    | 0, hj => cases hj; exact hB.cell 0 rfl
    | 1, hj => cases hj; exact hB.cell 1 rfl⟩
  have P := Lib.hid (header_Protected hTab (p := emptyM) (u := emptyM) (a := ⟨none, 0, none, 0⟩) (b := ⟨none, 0, none, 0⟩) (IsItem.plain _ 5 0 (by omega) (by omega)) (IsItem.plain _ 5 0 (by omega) (by omega)) _ hG.holds)
  go_enter Tryd.func15, Tryd.ntmps15
  go_wp2_with fail
  refine P.out.mono ?_
  rintro e w1 (⟨hv, _⟩ | ⟨hv, r, rfl, hf⟩)
  · rw [empty_valid] at hv; cases hv
  obtain ⟨RA, rc, rfl, _⟩ := hf.own.form
  have hE := hE.below hf.2
  have hG := hG.below_ hf.2
  have hsr := hf.own.src
  have hsb := (hSB.alloc (.cells #[.int .i64 5, .int .u64 0, .slice none 0 0, .slice none 0 0, .int .i64 5, .int .u64 0, .slice none 0 0, .slice none 0 0, .slice (some ⟨g, 0, none⟩) 2 2, .slice none 0 0] 51)).below hf.2
  clear P hf hv hSB hB
  have hp0 : (protB emptyM).length = 0 := by simp [protB, Itm.items]
  have hp1 : protB emptyM = [] := by simp [protB, Itm.items]
  rw [hp1] at hsr
  rw [hp0]
  have e9 := hE.cell 9 rfl
  clear hp0 hp1
  go_upto_region 4 with fail
  go_cut [8] (fun s8 wx => ∃ (N : Nat) (H5 : Snap), s8 = .slice (some ⟨N, 0, none⟩) 3 3 ∧ Grows w H wx H5 ∧ IsRowI H5 (some ⟨N, 0, none⟩) 3 [bytesItm [], emptyM, bytesItm [1, 2]])
  case first =>
    have hE := hE.drew
    have hG := hG.drew
    have hsr : Src w1.drew RA (([] : List UInt8).map byteV) := hsr
    have hsb : Src w1.drew (some ⟨g, 0, none⟩) (([1, 2] : List UInt8).map byteV) := hsb
    refine wp_region_ways 9 (fun w' => w'.cell? ⟨w.heap.size, 4, none⟩ = some (.int .i64 5) ∧ w'.cell? ⟨w.heap.size, 5, none⟩ = some (.int .u64 0) ∧ w'.cell? ⟨w.heap.size, 6, none⟩ = some (.slice none 0 0) ∧ w'.cell? ⟨w.heap.size, 7, none⟩ = some (.slice none 0 0) ∧ w'.cell? ⟨w.heap.size, 8, none⟩ = some (.slice (some ⟨g, 0, none⟩) 2 2)) (by kernel_rfl) (⟨hE.cell 4 rfl, hE.cell 5 rfl, hE.cell 6 rfl, hE.cell 7 rfl, hE.cell 8 rfl⟩) (fun hHeld => ?_)
    refine Ways.take (i := 0) (v := ?_) rfl (by kernel_rfl) (fun _ _ _ h => h) (Or.inl ⟨by rfl, ?_⟩) hHeld ?_
    rotate_left
    · (intro w hSw; (try dsimp only at hSw); go_simp; try with_reducible rfl)
    try simp only [Act.put, List.getElem_toArray, List.getElem_cons_zero, List.getElem_cons_succ, List.setIfInBounds_toArray, List.set_cons_zero, List.set_cons_succ]
    refine Ways.take (i := 2) (v := ?_) rfl (by kernel_rfl) (fun _ _ _ h => h) (Or.inl ⟨by rfl, ?_⟩) hHeld ?_
    rotate_left
    · (intro w hSw; (try dsimp only at hSw); go_simp; try with_reducible rfl)
    try simp only [Act.put, List.getElem_toArray, List.getElem_cons_zero, List.getElem_cons_succ, List.setIfInBounds_toArray, List.set_cons_zero, List.set_cons_succ]
    refine Ways.take (i := 3) (v := ?_) rfl (by kernel_rfl) (fun _ _ _ h => h) (Or.inl ⟨by rfl, ?_⟩) hHeld ?_
    rotate_left
    · (intro w hSw; (try dsimp only at hSw); go_simp; try with_reducible rfl)
    try simp only [Act.put, List.getElem_toArray, List.getElem_cons_zero, List.getElem_cons_succ, List.setIfInBounds_toArray, List.set_cons_zero, List.set_cons_succ]
    refine Ways.take (i := 4) (v := ?_) rfl (by kernel_rfl) (fun _ _ _ h => h) (Or.inl ⟨by rfl, ?_⟩) hHeld ?_
    rotate_left
    · (intro w hSw; (try dsimp only at hSw); go_simp; try with_reducible rfl)
    try simp only [Act.put, List.getElem_toArray, List.getElem_cons_zero, List.getElem_cons_succ, List.setIfInBounds_toArray, List.set_cons_zero, List.set_cons_succ]
    refine Ways.take (i := 5) (v := ?_) rfl (by kernel_rfl) (fun _ _ _ h => h) (Or.inl ⟨by rfl, ?_⟩) hHeld ?_
    rotate_left
    · (intro w hSw; (try dsimp only at hSw); go_simp; try with_reducible rfl)
    try simp only [Act.put, List.getElem_toArray, List.getElem_cons_zero, List.getElem_cons_succ, List.setIfInBounds_toArray, List.set_cons_zero, List.set_cons_succ]
    refine Ways.take (i := 6) (v := ?_) rfl (by kernel_rfl) (fun _ _ _ h => h) (Or.inl ⟨by rfl, ?_⟩) hHeld ?_
    rotate_left
    · (intro w hSw; (try dsimp only at hSw); go_simp; try with_reducible rfl)
    try simp only [Act.put, List.getElem_toArray, List.getElem_cons_zero, List.getElem_cons_succ, List.setIfInBounds_toArray, List.set_cons_zero, List.set_cons_succ]
    refine Ways.one (i := 1) rfl (by kernel_rfl) (fun K hK => ?_)
    go_simp
    refine (cbor_Bytes (A := RA) (c := rc) (l := []) rfl (by simp) w1.drew hsr hG.holds).mono ?_
    rintro e w3 ⟨v3, rfl, ka, kb, kc, kd, H3, rfl, hG3, hi3⟩
    have hE := hE.below hG3.below
    have hsb := hsb.below hG3.below
    have hG := hG.trans hG3
    obtain ⟨x1, hx1⟩ : ∃ x, Itm.mk 2 0 [] [] = x := ⟨_, rfl⟩
    rw [hx1] at hi3 ⊢
    refine hK.out _ _ (fun _ => ?_) (fun hHeld => ?_)
    · exact ⟨hE.cell 4 rfl, hE.cell 5 rfl, hE.cell 6 rfl, hE.cell 7 rfl, hE.cell 8 rfl⟩
    clear hK K
    have hHeld := hHeld (by decide)
    try simp only [Act.put, List.getElem_toArray, List.getElem_cons_zero, List.getElem_cons_succ, List.setIfInBounds_toArray, List.set_cons_zero, List.set_cons_succ]
    refine Ways.one (i := 7) rfl (by kernel_rfl) (fun K hK => ?_)
    go_simp
    refine (cbor_Bytes (A := some ⟨g, 0, none⟩) (c := 2) (l := [1, 2]) rfl (by simp) _ hsb hG.holds).mono ?_
    rintro e w4 ⟨v4, rfl, la, lb, lc, ld, H4, rfl, hG4, hi4⟩
    have hE := hE.below hG4.below
    have hG := hG.trans hG4
    obtain ⟨x3, hx3⟩ : ∃ x, Itm.mk 2 0 [1, 2] [] = x := ⟨_, rfl⟩
    rw [hx3] at hi4 ⊢
    refine hK.out _ _ (fun _ => ?_) (fun hHeld => ?_)
    · exact ⟨hE.cell 4 rfl, hE.cell 5 rfl, hE.cell 6 rfl, hE.cell 7 rfl, hE.cell 8 rfl⟩
    clear hK K
    have hHeld := hHeld (by decide)
    try simp only [Act.put, List.getElem_toArray, List.getElem_cons_zero, List.getElem_cons_succ, List.setIfInBounds_toArray, List.set_cons_zero, List.set_cons_succ]
    refine Ways.one (i := 8) rfl (by kernel_rfl) (fun K hK => ?_)
    go_simp
    have hE := hE.alloc (.cells #[.int .i64 x1.kind, .int .u64 x1.n, .slice ka x1.bytes.length kb, .slice kc x1.items.length kd, .int .i64 5, .int .u64 0, .slice none 0 0, .slice none 0 0, .int .i64 x3.kind, .int .u64 x3.n, .slice la x3.bytes.length lb, .slice lc x3.items.length ld] 26)
    have hcs : ItemsC H4 (itemC x1 ka kb kc kd ++ (itemC emptyM none 0 none 0 ++ itemC x3 la lb lc ld)) [x1, emptyM, x3] := (ItemsC.one (hi3.mono hG4.le)).app ((ItemsC.one (IsItem.plain _ 5 0 (by omega) (by omega))).app (ItemsC.one hi4))
    obtain ⟨H5, hG5, hl5, hr5⟩ := lit_snap hG hcs (by simp)
    refine hK.out _ _ (fun _ => ?_) (fun hHeld => ?_)
    · exact ⟨hE.cell 4 rfl, hE.cell 5 rfl, hE.cell 6 rfl, hE.cell 7 rfl, hE.cell 8 rfl⟩
    clear hK K
    have hHeld := hHeld (by decide)
    try simp only [Act.put, List.getElem_toArray, List.getElem_cons_zero, List.getElem_cons_succ, List.setIfInBounds_toArray, List.set_cons_zero, List.set_cons_succ]
    refine Ways.one (i := 9) rfl (by kernel_rfl) (fun K hK => ?_)
    go_simp
    refine hK.out _ _ (fun h => absurd rfl h) (fun _ => ?_)
    clear hK K
    try simp only [Act.put, List.getElem_toArray, List.getElem_cons_zero, List.getElem_cons_succ, List.setIfInBounds_toArray, List.set_cons_zero, List.set_cons_succ]
    refine Ways.done (by kernel_rfl) ?_
    go_wp2_with fail
    go_meet
    exact ⟨_, H5, rfl, hG5, by rw [← hx1, ← hx3] at hr5; exact hr5⟩
  case rest =>
    clear hE hG hsr hsb e9
    obtain ⟨N, H5, rfl, hG, hr⟩ := hcut
    obtain ⟨y, hy⟩ : ∃ y, Itm.mk 4 0 [] [bytesItm [], emptyM, bytesItm [1, 2]] = y := ⟨_, rfl⟩
    have hi : IsItem H5 none 0 (some ⟨N, 0, none⟩) 3 y := by rw [← hy]; exact hr.item 4 (by omega) 0 (by omega)
    have hyc : itemC y none 0 (some ⟨N, 0, none⟩) 3 = [.int .i64 4, .int .u64 0, .slice none 0 0, .slice (some ⟨N, 0, none⟩) 3 3] := by rw [← hy]; rfl
    obtain ⟨H6, hG6, hl6, hr6⟩ := lit_snap hG (ItemsC.one hi) (by simp)
    rw [hyc] at hG6
    have ha : ItemA H6 6 16 none 0 0 (some ⟨wc.heap.size, 0, none⟩) 1 1 envI := ⟨rfl, rfl, rfl, rfl, by rw [envI, hy]; exact hr6.item 6 (by omega) 16 (by omega)⟩
    have EN := Lib.hid (cbor_Encode (hTab.mono hG6.le) ha _ hG6.holds)
    have hbb := hG6.below
    clear hr hi hyc hG hG6 hl6 hr6 ha hy
    go_wp2_with fail
    refine EN.out.mono ?_
    rintro e w9 (⟨hv, _⟩ | ⟨hv, r, rfl, hfr⟩)
    · rw [envI_valid] at hv; cases hv
    · rw [envI_enc] at hfr
      have R : Hid (Fresh w [208, 131, 64, 160, 66, 1, 2] r w9) := ⟨hfr.own.more hbb.size, hbb.trans (hfr.2.mono hbb.size)⟩
      clear hfr hv EN
      go_wp2_with fail
      go_ret2
      exact ⟨_, rfl, R.out⟩
end Go.Proofs.YtdbhgngikglmcaaDoor
namespace Go.Proofs.YtdbhgngikglmcaaDoor
open Go.RowKit

/-- Rows of byte strings that were just made, as data. -/
theorem rows_snap {w wr : World} {H Hr : Snap} (h : Grows w H wr Hr) (t : TypeId) (vs : List Value) (ls : List (List UInt8)) (hm : ls.length ≤ 4096)
    (hv : ∀ j (hj : j < ls.length), ∃ A c, vs[j]? = some (.slice A ls[j].length c) ∧ IsBytes Hr A c ls[j]) :
    ∃ H', Grows w H (wr.alloc (.cells vs.toArray t)) H' ∧ Hr.le H' ∧ IsRows H' (some ⟨wr.heap.size, 0, none⟩) ls.length ls := by
  have h0 : Hr wr.heap.size = none := h.holds.none_of_ge (Nat.le_refl _)
  have hG := (h.alloc (.cells vs.toArray t)).withOwn (g := wr.heap.size) h0 h.size (heap_alloc_new wr _)
  refine ⟨_, hG, Snap.le_with h0, ⟨Nat.le_refl _, by omega, fun _ => ⟨wr.heap.size, 0, rfl, fun j hj => ?_⟩⟩⟩
  obtain ⟨A, c, h1, h2⟩ := hv j hj
  refine ⟨A, c, ?_, h2.mono (Snap.le_with h0)⟩
  simp [Snap.cell?, Snap.with]
  simpa using h1
def macL : List UInt8 := [77, 65, 67, 48]
theorem mac_enc : encB (inputI macL emptyM [] [[]]) = [132, 100, 77, 65, 67, 48, 64, 64, 64] := by
  simp [inputI, macL, protB, encB, encL, headB, numP, Itm.kind, Itm.n, Itm.bytes, Itm.items]
  decide
theorem mac_text : Lib.validD macL = true := by kernel_rfl
theorem mac_code : inputE macL emptyM emptyM [] [[]] = 0 := by
  rw [inputE, if_neg (by rw [empty_valid]; simp), if_neg (by rw [mac_text]; simp), if_neg]
  rw [input_valid mac_text (by simp [macL, protB, Itm.items])]
  simp

set_option maxRecDepth 100000 in
set_option maxHeartbeats 6400000 in
theorem law13_awake {H : Snap} (hTab : Tabs H) (w : World) (hH : Holds w H) :
    Calls Tryd.prog 6 #[] w fun e w' => e = .returned (.bool true) ∧ Below w.heap.size w w' := by
  go_enter Tryd.func6, Tryd.ntmps6
  go_wp2_with fail
  refine (ref12_Empty _).mono ?_
  rintro e w1 ⟨rfl, hb1⟩
  have hG1 := (Grows.of_below hH hb1).alloc (.cells #[.int .u8 1, .int .u8 2] 5)
  have EN := Lib.hid (env_Encode hTab _ hG1.holds w1.heap.size (Blk.new w1 5 #[.int .u8 1, .int .u8 2]))
  go_wp2_with fail
  refine EN.out.mono ?_
  rintro e w2 ⟨r1, rfl, hf1⟩
  obtain ⟨A1, c1, rfl, _⟩ := hf1.own.form
  have hG2 := hG1.below_ hf1.2
  have hs1 := hf1.own.src
  clear EN hG1 hf1 hb1
  go_wp2_with fail
  refine (ref12_Empty _).mono ?_
  rintro e w3 ⟨rfl, hb3⟩
  have hG3 := hG2.below_ hb3
  have hs1 := hs1.below hb3
  obtain ⟨H4, hG4, hl4, hr4⟩ := rows_snap hG3 23 [.slice none 0 0] [[]] (by simp) (fun j hj => by
    have : j = 0 := by simpa using hj
    subst this
    exact ⟨none, 0, rfl, IsBytes.nil _⟩)
  have hs1 := hs1.alloc (.cells #[.slice none 0 0] 23)
  have IN := Lib.hid (envelope_Input (hTab.mono hG4.le) (p := emptyM) (u := emptyM) (a := ⟨none, 0, none, 0⟩) (b := ⟨none, 0, none, 0⟩) (IsItem.plain _ 5 0 (by omega) (by omega)) (IsItem.plain _ 5 0 (by omega) (by omega)) ⟨#[77, 65, 67, 48]⟩ (by show (4 : Nat) ≤ _; omega)
    (ext := []) (IsBytes.nil _) (by simp) hr4 (by simp) (by simp) _ hG4.holds)
  have hbb := hG4.below
  clear hG2 hG3 hb3 hG4 hl4 hr4
  go_wp2_with fail
  refine IN.out.mono ?_
  rintro e w5 ⟨r2, l2, rfl, hf2, hl2⟩
  have hcode : inputE (⟨#[77, 65, 67, 48]⟩ : ByteArray).data.toList emptyM emptyM [] [[]] = 0 := mac_code
  rw [if_pos hcode] at hl2
  rw [hcode]
  replace hl2 := hl2.trans mac_enc
  subst hl2
  obtain ⟨A2, c2, rfl, _⟩ := hf2.own.form
  have k1 := conv_bytes (hs1.below hf2.2) 7 c1 rfl
  have k2 := conv_bytes hf2.own.src 9 c2 rfl
  have hbz := hbb.trans (hf2.2.mono hbb.size)
  clear IN hcode hs1 hf2 hbb
  go_wp2_with fail
  go_ret
  exact ⟨rfl, hbz⟩
end Go.Proofs.YtdbhgngikglmcaaDoor
