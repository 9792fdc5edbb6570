/- Walks: the deck's items of more levels. -/
import Derived.Test.YtdbhgngikglmcaaDoorDk6
set_option linter.unusedVariables false
set_option linter.unusedSimpArgs false
namespace Go.Proofs.YtdbhgngikglmcaaDoor
open Go.RowKit

theorem encB_zero : (encB zeroItm).length ≤ 39 := by
  have := encB_len 0 0 [] [] (by omega) (by omega)
  show (encB (.mk 0 0 [] [])).length ≤ 39
  simp [encL] at this
  omega
theorem encL_bound {B : Nat} : ∀ {l : List Itm}, (∀ x ∈ l, (encB x).length ≤ B) → (encL l).length ≤ l.length * B
  | [], _ => by simp [encL]
  | x :: l, h => by
    have h1 := h x (by simp)
    have h2 := encL_bound (l := l) fun y hy => h y (by simp [hy])
    rw [encL, List.length_append, List.length_cons, Nat.succ_mul]
    omega
theorem own_hid3 {wr : World} {Hr : Snap} (hH : Holds wr Hr) {r0 r : Option Nat} (h0 : ∀ q, r0 = some q → Hr q = none) (h : At0 wr r0 r) : ∀ q, r = some q → Hr q = none := fun q hq => by
  rcases h with h | ⟨g, h1, h2⟩
  · exact h0 q (by rw [← h, hq])
  · rw [hq] at h1; injection h1 with h1; subst h1; exact hH.none_of_ge h2
theorem Dealt.snap {w w' : World} {H H' H'' : Snap} {g B : Nat} {A : Option Addr} (h : Dealt w H w' H' g) (hl : H'.le H'') (hh : Holds w' H'') (hf : ∀ b o, H'' b = some o → H' b = some o ∨ A.map (·.block) = some b)
    (hA : ∀ q, A.map (·.block) = some q → B ≤ q) (hB : w.heap.size ≤ B) (hg : g < w.heap.size) : Dealt w H w' H'' g := by
  refine ⟨⟨h.grows.grown, h.grows.le.trans hl, hh, fun b o hb => ?_⟩, h.deck.deck.mono hl, hh, snap_keep hf h.deck.apart (fun e => by have := hA _ e; omega)⟩
  rcases hf b o hb with h1 | h1
  · exact h.grows.fresh b o h1
  · exact .inr (by have := hA _ h1; omega)

set_option maxRecDepth 100000 in
set_option maxHeartbeats 12800000 in
theorem item_succ (m : Nat) (hm : m ≤ 8) (ih : DeckItem m) : DeckItem (m + 1) := by
  intro w H g hTab hD
  have HBI := Lib.hid (BI_le (m + 1))
  have hgl := hD.deck.lt
  have hD0 := hD.alloc zeroO
  have hd0 := hD.grows ((Grows.refl hD.holds).alloc zeroO)
  have hT0 := Blk.new w 26 #[.int .i64 0, .int .u64 0, .slice none 0 0, .slice none 0 0]
  have hn1 : H w.heap.size = none := hD.holds.none_of_ge (Nat.le_refl _)
  have NX := Lib.hid (deck_Next _ hD0 9 (by omega) (by omega))
  clear hD
  have hm1 : ((m + 1 : Nat) : Int) = (m : Int) + 1 := by omega
  rw [hm1]
  have b0 : (((m : Int) + 1) == 0) = false := by rw [beq_eq_false_iff_ne]; omega
  have p0 : ((m : Int) + 1 = 0) = False := eq_false (by omega)
  have hw0 : IntKind.i64.wrap ((m : Int) + 1 - 1) = (m : Int) := by rw [show (m : Int) + 1 - 1 = (m : Int) by omega]; exact IntWalk.i64_in _ (by omega)
  have hw1 : IntKind.i64.wrap (m : Int) = (m : Int) := IntWalk.i64_in _ (by omega)
  clear hm1 hm
  go_enter Tryd.func31, Tryd.ntmps31
  go_wp2_with fail
  refine NX.out.mono ?_
  rintro e w1 ⟨r, rfl, hr, hd1'⟩
  have hd1 := hd0.trans hd1'
  have hT1 := hT0.dealt hd1' (by omega)
  clear NX hd0 hd1' hT0 hD0
  rcases (by omega : r = 0 ∨ r = 1 ∨ r = 2 ∨ r = 3 ∨ r = 4 ∨ r = 5 ∨ r = 6 ∨ r = 7 ∨ r = 8) with rfl | rfl | rfl | rfl | rfl | rfl | rfl | rfl | rfl
  · have NB := Lib.hid (mk_Number w1 hd1.deck)
    go_wp2_with fail
    refine NB.out.mono ?_
    rintro e w2 ⟨m', rfl, hm', hd2⟩
    have hTz := hT1.dealt hd2 (by omega)
    have hdz := hd1.trans hd2
    have hnz := hd2.hid hn1 hT1.lt
    have HMM := Lib.hid hm'
    clear NB hd1 hd2 hT1 hn1 hm'
    go_wp2_with (with_reducible refine stop_store ?_)
    unfold Stopped
    refine wpList_store_item rfl _ _ _ rfl rfl _ _ rfl rfl _ _ hTz size_item rfl (one4 _ _ _ _ rfl rfl rfl rfl) fun wz hTy hgz => ?_
    have hdy := hdz.grownRow (row := some w.heap.size) (by rintro q ⟨⟩; exact hnz) (by rintro q ⟨⟩; exact Nat.le_refl _) hgl hgz
    go_wp2_with fail
    refine ret_row rfl rfl hTy rfl rfl size_item rfl ?_
    exact ⟨_, .mk 0 m' [] [], rfl, ⟨none, 0, none, 0, _, rfl, hdy, IsItem.plain _ 0 m' (by omega) HMM.out⟩, modest_plain _ _ _ (by simp), by have := encB_len 0 m' [] [] (by omega) (by omega); have := HBI.out; simp [encL] at *; omega⟩
  · have NB := Lib.hid (mk_Number w1 hd1.deck)
    go_wp2_with fail
    refine NB.out.mono ?_
    rintro e w2 ⟨m', rfl, hm', hd2⟩
    have hTz := hT1.dealt hd2 (by omega)
    have hdz := hd1.trans hd2
    have hnz := hd2.hid hn1 hT1.lt
    have HMM := Lib.hid hm'
    clear NB hd1 hd2 hT1 hn1 hm'
    go_wp2_with (with_reducible refine stop_store ?_)
    unfold Stopped
    refine wpList_store_item rfl _ _ _ rfl rfl _ _ rfl rfl _ _ hTz size_item rfl (one4 _ _ _ _ rfl rfl rfl rfl) fun wz hTy hgz => ?_
    have hdy := hdz.grownRow (row := some w.heap.size) (by rintro q ⟨⟩; exact hnz) (by rintro q ⟨⟩; exact Nat.le_refl _) hgl hgz
    go_wp2_with fail
    refine ret_row rfl rfl hTy rfl rfl size_item rfl ?_
    exact ⟨_, .mk 1 m' [] [], rfl, ⟨none, 0, none, 0, _, rfl, hdy, IsItem.plain _ 1 m' (by omega) HMM.out⟩, modest_plain _ _ _ (by simp), by have := encB_len 1 m' [] [] (by omega) (by omega); have := HBI.out; simp [encL] at *; omega⟩
  · have NB := Lib.hid (mk_Bytes w1 hd1.deck 30 (by omega) (by omega))
    go_wp2_with fail
    refine NB.out.mono ?_
    rintro e w2 ⟨A, c, l, rfl, hl, H2, hb2, hd2⟩
    have hT2 := hT1.dealt hd2 (by omega)
    have hn2 := hd2.hid hn1 hT1.lt
    have hd2' := hd1.trans hd2
    have RB := Lib.hid (ref_Bytes (A := A) (c := c) (l := l) rfl (by omega) w2 (Src.of_row hb2.row hd2.holds) hd2.holds)
    have HL := Lib.hid hl
    clear NB hd1 hd2 hT1 hn1 hl hb2
    go_wp2_with fail
    refine RB.out.mono ?_
    rintro e w3 ⟨v3, rfl, ja, jb, jc, jd, H3, rfl, hG3, hi3⟩
    have hTz := hT2.below hG3.below
    have hnz := hG3.none hn2 hT2.lt
    have hdz := hd2'.grown hG3
    clear hT2 hn2 hd2' hG3 RB
    go_wp2_with (with_reducible refine stop_store ?_)
    unfold Stopped
    refine wpList_store_item rfl _ _ _ rfl rfl _ _ rfl rfl _ _ hTz size_item rfl (one4 _ _ _ _ rfl rfl rfl rfl) fun wz hTy hgz => ?_
    have hdy := hdz.grownRow (row := some w.heap.size) (by rintro q ⟨⟩; exact hnz) (by rintro q ⟨⟩; exact Nat.le_refl _) hgl hgz
    go_wp2_with fail
    refine ret_row rfl rfl hTy rfl rfl size_item rfl ?_
    exact ⟨_, .mk 2 0 l [], rfl, ⟨ja, jb, jc, jd, H3, rfl, hdy, hi3⟩, modest_plain _ _ _ (by have := HL.out; omega), by have := encB_len 2 0 l [] (by omega) (by omega); have := HBI.out; have := HL.out; simp [encL] at *; omega⟩
  · have NB := Lib.hid (mk_Text w1 hd1.deck 8 (by omega) (by omega))
    go_wp2_with fail
    refine NB.out.mono ?_
    rintro e w2 ⟨s, rfl, hl, hd2⟩
    have hT2 := hT1.dealt hd2 (by omega)
    have hn2 := hd2.hid hn1 hT1.lt
    have hd2' := hd1.trans hd2
    have RB := Lib.hid (ref_Text s (by omega) w2 hd2.holds)
    have HL := Lib.hid hl
    clear NB hd1 hd2 hT1 hn1 hl
    go_wp2_with fail
    refine RB.out.mono ?_
    rintro e w3 ⟨v3, rfl, ja, jb, jc, jd, H3, rfl, hG3, hi3⟩
    have hTz := hT2.below hG3.below
    have hnz := hG3.none hn2 hT2.lt
    have hdz := hd2'.grown hG3
    have HLS : Hid (s.data.toList.length = s.size) := by rw [Hid]; first | rfl | simp
    obtain ⟨XT, hXT⟩ : ∃ X, Itm.mk 3 0 s.data.toList [] = X := ⟨_, rfl⟩
    rw [hXT] at hi3 ⊢
    have HXT := Lib.hid hXT
    clear hT2 hn2 hd2' hG3 RB hXT
    go_wp2_with (with_reducible refine stop_store ?_)
    unfold Stopped
    refine wpList_store_item rfl _ _ _ rfl rfl _ _ rfl rfl _ _ hTz size_item rfl (one4 _ _ _ _ rfl rfl rfl rfl) fun wz hTy hgz => ?_
    have hdy := hdz.grownRow (row := some w.heap.size) (by rintro q ⟨⟩; exact hnz) (by rintro q ⟨⟩; exact Nat.le_refl _) hgl hgz
    go_wp2_with fail
    refine ret_row rfl rfl hTy rfl rfl size_item rfl ?_
    exact ⟨_, XT, rfl, ⟨ja, jb, jc, jd, H3, rfl, hdy, hi3⟩, by rw [← HXT.out]; exact modest_plain _ _ _ (by have := HL.out; have := HLS.out; omega), by have := encB_len 3 0 s.data.toList [] (by omega) (by omega); have := HBI.out; have := HL.out; have := HLS.out; rw [← HXT.out]; simp [encL] at *; omega⟩
  · have NB := Lib.hid (deck_Next w1 hd1.deck 4 (by omega) (by omega))
    go_wp2_with fail
    refine NB.out.mono ?_
    rintro e w2 ⟨n0, rfl, hn0', hd2⟩
    have hT2 := hT1.dealt hd2 (by omega)
    have hn2 := hd2.hid hn1 hT1.lt
    have hd3 := hd1.trans hd2
    have hO2 := OwnI.nil w2 (w.heap.size + 1) H
    clear NB hd1 hd2 hT1 hn1
    go_wp2_with fail
    go_loopw [6, 7] (fun v6 v7 wr => ∃ (kk : Nat) (Hr : Snap) (VA : Option Addr) (vc vn : Nat) (L : List Itm), v7 = .int .i64 (kk : Int) ∧ v6 = .slice VA vn vc ∧ vn = L.length ∧ Dealt w H wr Hr g ∧ OwnI wr (w.heap.size + 1) (.slice VA vn vc) Hr L ∧ (∀ z ∈ L, Modest z ∧ (encB z).length ≤ BI m) ∧ L.length + 1 * kk ≤ 3 ∧   Blk wr w.heap.size 26 #[.int .i64 0, .int .u64 0, .slice none 0 0, .slice none 0 0] ∧ Hr w.heap.size = none ∧ (∀ q, (Value.slice VA vn vc).ownBlock = some q → Hr q = none)) (fun _ v7 _ => (intOf v7).toNat)
    case atStart => exact ⟨n0, H, _, _, _, [], rfl, rfl, rfl, hd3, hO2, by simp, by simp; omega, hT2, hn2, by intro q hq; simp [Value.ownBlock] at hq⟩
    case round =>
      clear hT2 hn2 hd3 hO2 hn0'
      obtain ⟨kk, Hr, VA, vc, vn, L, rfl, rfl, rfl, hdr, hOr, hL1, hL2, hTr, hTn, hnr⟩ := hrel
      have HLL := Lib.hid (And.intro hL1 hL2)
      clear hL1 hL2
      by_cases hlt : (0 : Int) < (kk : Int)
      · skip
        have IT := Lib.hid (ih wr Hr g (hTab.mono hdr.le) hdr.deck)
        go_wp2_with fail
        refine IT.out.mono ?_
        rintro e w4 ⟨v4, y, rfl, ⟨ja, jb, jc, jd, H4, rfl, hd4, hi4⟩, hmy, hly⟩
        have hO4 := ((hOr.dealt hd4 (by omega)).mono hd4.le).alloc (.cells (itemC y ja jb jc jd).toArray 26)
        have hn4 : ∀ q, (Value.slice VA L.length vc).ownBlock = some q → H4 q = none := fun q hq => hd4.hid (hnr q hq) (hOr.lt q hq).2
        have hT4 := (hTr.dealt hd4 (by omega)).alloc (.cells (itemC y ja jb jc jd).toArray 26)
        have hTn4 := hd4.hid hTn hTr.lt
        have hd5 := (hdr.trans hd4).alloc (.cells (itemC y ja jb jc jd).toArray 26)
        have HY := Lib.hid (And.intro hmy hly)
        clear IT hd4 hdr hOr hTr hnr hTn hmy hly
        go_wp2_with (at_builtin; refine stop_in ?_)
        unfold Stopped
        refine wpList_app_items rfl (.tmp 73) (.tmp 78) rfl (w.heap.size + 1) (.slice VA L.length vc) H4 _ rfl hO4 _ 1 _ (itemC y ja jb jc jd) [y] rfl rfl (ItemsC.one hi4) (Src.new _ _ _ _ rfl _ rfl) (by have := HLL.out.2; simp; omega) (by have := hT4.lt; simp only [size_alloc] at this ⊢; omega) fun v' w7 hO7 hg7 hat7 => ?_
        obtain ⟨VA', vc', rfl, _⟩ := hO7.form
        have hT7 := hT4.grown hg7 (fun e => by have := (hO4.lt _ e).1; omega)
        have hn7 := own_hid3 hd5.holds hn4 hat7
        have hd7 := hd5.grownRow hn4 (fun q hq => by have := (hO4.lt q hq).1; omega) hgl hg7
        obtain ⟨L', hL'⟩ : ∃ L', L ++ [y] = L' := ⟨_, rfl⟩
        rw [hL'] at hO7 hn7 ⊢
        have HL2 : Hid ((∀ z ∈ L', Modest z ∧ (encB z).length ≤ BI m) ∧ L'.length = L.length + 1) := by
          rw [Hid, ← hL']
          refine ⟨fun z hz => ?_, by simp⟩
          rw [List.mem_append] at hz
          rcases hz with hz | hz
          · exact HLL.out.1 z hz
          · rw [List.mem_singleton.1 hz]; exact HY.out
        clear hL' hO4 hn4 hT4 hd5 hg7 hat7 hi4
        have hk2 : IntKind.i64.wrap ((kk : Int) - 1) = (kk : Int) - 1 := IntWalk.i64_in _ (by have := HLL.out.2; omega)
        go_wp2_with fail
        go_roundw
        case rel => exact ⟨kk - 1, _, VA', vc', _, L', by rw [show ((kk - 1 : Nat) : Int) = (kk : Int) - 1 by omega], rfl, rfl, hd7, hO7, HL2.out.1, by have := HL2.out.2; have := HLL.out.2; omega, hT7, hTn4, hn7⟩
        case measure => simp [intOf]; omega
      · skip
        obtain ⟨H5, hl5, hh5, hf5, hz5, hle1, hle2, hel5⟩ := hOr.snap hdr.holds (fun q hq => hnr q (own_of hq))
        have hlow : ∀ q, VA.map (·.block) = some q → w.heap.size + 1 ≤ q := fun q hq => (hOr.lt q (own_of hq)).1
        have hn5 : H5 w.heap.size = none := snap_keep hf5 hTn (fun e => by have := hlow _ e; omega)
        have hd6 : Dealt w H wr H5 g := hdr.snap (B := w.heap.size + 1) hl5 hh5 hf5 hlow (by omega) hgl
        obtain ⟨x7, hx7⟩ : ∃ x, Itm.mk 4 0 [] L = x := ⟨_, rfl⟩
        have ha7 : ItemA H5 4 0 none 0 0 VA L.length vc x7 := by
          refine ⟨by rw [← hx7]; rfl, by rw [← hx7]; rfl, by rw [← hx7]; rfl, by rw [← hx7]; rfl, ?_⟩
          rw [← hx7]
          exact IsRowI.item ⟨hle1, hle2, hel5⟩ 4 (by omega) 0 (by omega)
        have WH := Lib.hid (mk_whole (hTab.mono hd6.le) ha7 _ hd6.holds)
        have HX7 := Lib.hid (show Modest x7 ∧ (encB x7).length ≤ 9 + 6 * BI m by
          rw [← hx7]
          refine ⟨by rw [Modest]; exact ⟨by simp, by have := HLL.out.2; omega, ModestL.of fun z hz => (HLL.out.1 z hz).1⟩, ?_⟩
          have h1 := encB_len 4 0 [] L (by omega) (by omega)
          have h2 := encL_bound (fun z hz => (HLL.out.1 z hz).2)
          have h3 : L.length * BI m ≤ 6 * BI m := Nat.mul_le_mul_right _ (by have := HLL.out.2; omega)
          simp only [List.length_nil] at h1
          omega)
        clear hOr hf5 hel5 ha7 hx7 hh5 hl5 hTn hnr hlow hdr
        go_wp2_with fail
        refine WH.out.mono ?_
        rintro e w8 ⟨v8, y8, rfl, ⟨qa, qb, qc, qd, H8, rfl, hG8, hi8⟩, hy8⟩
        have hTz := hTr.below hG8.below
        have hnz := hG8.none hn5 hTr.lt
        have hdz := hd6.grown hG8
        have HY := Lib.hid hy8
        clear WH hTr hG8 hd6 hn5 hy8
        go_wp2_with (with_reducible refine stop_store ?_)
        unfold Stopped
        refine wpList_store_item rfl _ _ _ rfl rfl _ _ rfl rfl _ _ hTz size_item rfl (one4 _ _ _ _ rfl rfl rfl rfl) fun wz hTy hgz => ?_
        have hdy := hdz.grownRow (row := some w.heap.size) (by rintro q ⟨⟩; exact hnz) (by rintro q ⟨⟩; exact Nat.le_refl _) hgl hgz
        go_wp2_with fail
        refine ret_row rfl rfl hTy rfl rfl size_item rfl ?_
        refine ⟨_, y8, rfl, ⟨qa, qb, qc, qd, H8, rfl, hdy, hi8⟩, ?_⟩
        rcases HY.out with rfl | rfl
        · exact ⟨HX7.out.1, by have := HX7.out.2; rw [BI]; omega⟩
        · exact ⟨modest_zero, Nat.le_trans encB_zero (BI_le _)⟩
  · have NB := Lib.hid (deck_Next w1 hd1.deck 4 (by omega) (by omega))
    go_wp2_with fail
    refine NB.out.mono ?_
    rintro e w2 ⟨n0, rfl, hn0', hd2⟩
    have hT2 := hT1.dealt hd2 (by omega)
    have hn2 := hd2.hid hn1 hT1.lt
    have hd3 := hd1.trans hd2
    have hO2 := OwnI.nil w2 (w.heap.size + 1) H
    clear NB hd1 hd2 hT1 hn1
    go_wp2_with fail
    go_loopw [6, 7] (fun v6 v7 wr => ∃ (kk : Nat) (Hr : Snap) (VA : Option Addr) (vc vn : Nat) (L : List Itm), v7 = .int .i64 (kk : Int) ∧ v6 = .slice VA vn vc ∧ vn = L.length ∧ Dealt w H wr Hr g ∧ OwnI wr (w.heap.size + 1) (.slice VA vn vc) Hr L ∧ (∀ z ∈ L, Modest z ∧ (encB z).length ≤ BI m) ∧ L.length + 2 * kk ≤ 6 ∧   Blk wr w.heap.size 26 #[.int .i64 0, .int .u64 0, .slice none 0 0, .slice none 0 0] ∧ Hr w.heap.size = none ∧ (∀ q, (Value.slice VA vn vc).ownBlock = some q → Hr q = none)) (fun _ v7 _ => (intOf v7).toNat)
    case atStart => exact ⟨n0, H, _, _, _, [], rfl, rfl, rfl, hd3, hO2, by simp, by simp; omega, hT2, hn2, by intro q hq; simp [Value.ownBlock] at hq⟩
    case round =>
      clear hT2 hn2 hd3 hO2 hn0'
      obtain ⟨kk, Hr, VA, vc, vn, L, rfl, rfl, rfl, hdr, hOr, hL1, hL2, hTr, hTn, hnr⟩ := hrel
      have HLL := Lib.hid (And.intro hL1 hL2)
      clear hL1 hL2
      by_cases hlt : (0 : Int) < (kk : Int)
      · skip
        have IT := Lib.hid (ih wr Hr g (hTab.mono hdr.le) hdr.deck)
        go_wp2_with fail
        refine IT.out.mono ?_
        rintro e w4 ⟨v4, y, rfl, ⟨ja, jb, jc, jd, H4, rfl, hd4, hi4⟩, hmy, hly⟩
        have hO4 := ((hOr.dealt hd4 (by omega)).mono hd4.le).alloc (.cells (itemC y ja jb jc jd).toArray 26)
        have hn4 : ∀ q, (Value.slice VA L.length vc).ownBlock = some q → H4 q = none := fun q hq => hd4.hid (hnr q hq) (hOr.lt q hq).2
        have hT4 := (hTr.dealt hd4 (by omega)).alloc (.cells (itemC y ja jb jc jd).toArray 26)
        have hTn4 := hd4.hid hTn hTr.lt
        have hd5 := (hdr.trans hd4).alloc (.cells (itemC y ja jb jc jd).toArray 26)
        have HY := Lib.hid (And.intro hmy hly)
        clear IT hd4 hdr hOr hTr hnr hTn hmy hly
        go_wp2_with (at_builtin; refine stop_in ?_)
        unfold Stopped
        refine wpList_app_items rfl (.tmp 73) (.tmp 78) rfl (w.heap.size + 1) (.slice VA L.length vc) H4 _ rfl hO4 _ 1 _ (itemC y ja jb jc jd) [y] rfl rfl (ItemsC.one hi4) (Src.new _ _ _ _ rfl _ rfl) (by have := HLL.out.2; simp; omega) (by have := hT4.lt; simp only [size_alloc] at this ⊢; omega) fun v' w7 hO7 hg7 hat7 => ?_
        obtain ⟨VA', vc', rfl, _⟩ := hO7.form
        have hT7 := hT4.grown hg7 (fun e => by have := (hO4.lt _ e).1; omega)
        have hn7 := own_hid3 hd5.holds hn4 hat7
        have hd7 := hd5.grownRow hn4 (fun q hq => by have := (hO4.lt q hq).1; omega) hgl hg7
        obtain ⟨L', hL'⟩ : ∃ L', L ++ [y] = L' := ⟨_, rfl⟩
        rw [hL'] at hO7 hn7 ⊢
        have HL2 : Hid ((∀ z ∈ L', Modest z ∧ (encB z).length ≤ BI m) ∧ L'.length = L.length + 1) := by
          rw [Hid, ← hL']
          refine ⟨fun z hz => ?_, by simp⟩
          rw [List.mem_append] at hz
          rcases hz with hz | hz
          · exact HLL.out.1 z hz
          · rw [List.mem_singleton.1 hz]; exact HY.out
        clear hL' hO4 hn4 hT4 hd5 hg7 hat7 hi4
        have HLLa : Hid ((∀ z ∈ L', Modest z ∧ (encB z).length ≤ BI m) ∧ L'.length + 1 + 2 * (kk - 1) ≤ 6) := ⟨HL2.out.1, by have := HL2.out.2; have := HLL.out.2; omega⟩
        clear HLL HL2
        obtain ⟨wr2, hwr2⟩ : ∃ x, w7 = x := ⟨_, rfl⟩
        subst hwr2
        obtain ⟨HLL, hdr, hOr, hTr, hTn, hnr⟩ := And.intro HLLa (And.intro hd7 (And.intro hO7 (And.intro hT7 (And.intro hTn4 hn7))))
        clear HLLa hd7 hO7 hT7 hTn4 hn7 HY
        have IT := Lib.hid (ih w7 H4 g (hTab.mono hdr.le) hdr.deck)
        go_wp2_with fail
        refine IT.out.mono ?_
        rintro e w14 ⟨v4, z', rfl, ⟨ja, jb, jc, jd, H14, rfl, hd4, hi4⟩, hmy, hly⟩
        have hO4 := ((hOr.dealt hd4 (by omega)).mono hd4.le).alloc (.cells (itemC z' ja jb jc jd).toArray 26)
        have hn4 : ∀ q, (Value.slice VA' L'.length vc').ownBlock = some q → H14 q = none := fun q hq => hd4.hid (hnr q hq) (hOr.lt q hq).2
        have hT4 := (hTr.dealt hd4 (by omega)).alloc (.cells (itemC z' ja jb jc jd).toArray 26)
        have hTn4 := hd4.hid hTn hTr.lt
        have hd5 := (hdr.trans hd4).alloc (.cells (itemC z' ja jb jc jd).toArray 26)
        have HY := Lib.hid (And.intro hmy hly)
        clear IT hd4 hdr hOr hTr hnr hTn hmy hly
        go_wp2_with (at_builtin; refine stop_in ?_)
        unfold Stopped
        refine wpList_app_items rfl (.tmp 82) (.tmp 87) rfl (w.heap.size + 1) (.slice VA' L'.length vc') H14 _ rfl hO4 _ 1 _ (itemC z' ja jb jc jd) [z'] rfl rfl (ItemsC.one hi4) (Src.new _ _ _ _ rfl _ rfl) (by have := HLL.out.2; simp; omega) (by have := hT4.lt; simp only [size_alloc] at this ⊢; omega) fun v' w17 hO7 hg7 hat7 => ?_
        obtain ⟨VA2, vc2, rfl, _⟩ := hO7.form
        have hT7 := hT4.grown hg7 (fun e => by have := (hO4.lt _ e).1; omega)
        have hn7 := own_hid3 hd5.holds hn4 hat7
        have hd7 := hd5.grownRow hn4 (fun q hq => by have := (hO4.lt q hq).1; omega) hgl hg7
        obtain ⟨L2, hL'⟩ : ∃ L2, L' ++ [z'] = L2 := ⟨_, rfl⟩
        rw [hL'] at hO7 hn7 ⊢
        have HL2 : Hid ((∀ z ∈ L2, Modest z ∧ (encB z).length ≤ BI m) ∧ L2.length = L'.length + 1) := by
          rw [Hid, ← hL']
          refine ⟨fun z hz => ?_, by simp⟩
          rw [List.mem_append] at hz
          rcases hz with hz | hz
          · exact HLL.out.1 z hz
          · rw [List.mem_singleton.1 hz]; exact HY.out
        clear hL' hO4 hn4 hT4 hd5 hg7 hat7 hi4
        have hk2 : IntKind.i64.wrap ((kk : Int) - 1) = (kk : Int) - 1 := IntWalk.i64_in _ (by have := HLL.out.2; omega)
        go_wp2_with fail
        go_roundw
        case rel => exact ⟨kk - 1, _, VA2, vc2, _, L2, by rw [show ((kk - 1 : Nat) : Int) = (kk : Int) - 1 by omega], rfl, rfl, hd7, hO7, HL2.out.1, by have := HL2.out.2; have := HLL.out.2; omega, hT7, hTn4, hn7⟩
        case measure => simp [intOf]; omega
      · skip
        obtain ⟨H5, hl5, hh5, hf5, hz5, hle1, hle2, hel5⟩ := hOr.snap hdr.holds (fun q hq => hnr q (own_of hq))
        have hlow : ∀ q, VA.map (·.block) = some q → w.heap.size + 1 ≤ q := fun q hq => (hOr.lt q (own_of hq)).1
        have hn5 : H5 w.heap.size = none := snap_keep hf5 hTn (fun e => by have := hlow _ e; omega)
        have hd6 : Dealt w H wr H5 g := hdr.snap (B := w.heap.size + 1) hl5 hh5 hf5 hlow (by omega) hgl
        have BD := Lib.hid (ref_Build (hTab.mono hd6.le) (IsRowI.two hle1 hle2 hel5) (by have := HLL.out.2; omega) wr hd6.holds)
        clear hOr hf5 hel5 hh5 hl5 hTn hnr hlow hdr
        go_wp2_with fail
        refine BD.out.mono ?_
        intro e w8 hbs
        obtain ⟨v8, c, y8, rfl, ⟨qa, qb, qc, qd, H8, rfl, hG8, hi8⟩, hbo⟩ := hbs.one
        have hT8 := hTr.below hG8.below
        have hn8 := hG8.none hn5 hTr.lt
        have hd8 := hd6.grown hG8
        have hTz := hT8.alloc (itemO y8 qa qb qc qd)
        have hB8 := Blk.new w8 26 #[.int .i64 y8.kind, .int .u64 y8.n, .slice qa y8.bytes.length qb, .slice qc y8.items.length qd]
        have hdz := hd8.alloc (itemO y8 qa qb qc qd)
        have hnz := hn8
        clear BD hTr hG8 hd6 hn5 hT8 hd8 hn8
        rcases hbo with ⟨rfl, l, hxl, hvx, hsz, _⟩ | ⟨hc, hxz, hno⟩
        · have HXY := Lib.hid (show Modest y8 ∧ (encB y8).length ≤ BI (m + 1) by
            refine ⟨validP_modest hvx, ?_⟩
            rw [hxl]
            have h1 := encB_len 5 0 [] l (by omega) (by omega)
            have h2 := encL_bound (fun z hz => (HLL.out.1 z hz).2)
            have h3 : L.length * BI m ≤ 6 * BI m := Nat.mul_le_mul_right _ (by have := HLL.out.2; omega)
            simp only [List.length_nil] at h1
            rw [BI]
            omega)
          clear hxl hvx hsz
          go_upto_region 30 with fail
          go_wp2_with (with_reducible refine stop_store ?_)
          unfold Stopped
          refine wpList_store_item rfl _ _ _ rfl rfl _ _ rfl rfl _ _ hTz size_item rfl (one4 _ _ _ _ rfl rfl rfl rfl) fun wz hTy hgz => ?_
          have hdy := hdz.grownRow (row := some w.heap.size) (by rintro q ⟨⟩; exact hnz) (by rintro q ⟨⟩; exact Nat.le_refl _) hgl hgz
          go_wp2_with fail
          refine ret_row rfl rfl hTy rfl rfl size_item rfl ?_
          exact ⟨_, y8, rfl, ⟨qa, qb, qc, qd, H8, rfl, hdy, hi8⟩, HXY.out.1, HXY.out.2⟩
        · have b1 : (c != 0) = true := by simp [hc]
          have p1 : (c = 0) = False := eq_false hc
          clear hc hno hxz
          go_upto_region 29 with fail
          go_wp2_with (with_reducible refine stop_store ?_)
          unfold Stopped
          refine wpList_store_item rfl _ _ _ rfl rfl _ _ rfl rfl _ _ hTz size_item rfl (one4 _ _ _ _ rfl rfl rfl rfl) fun wz hTy hgz => ?_
          have hdy := hdz.grownRow (row := some w.heap.size) (by rintro q ⟨⟩; exact hnz) (by rintro q ⟨⟩; exact Nat.le_refl _) hgl hgz
          go_wp2_with fail
          refine ret_row rfl rfl hTy rfl rfl size_item rfl ?_
          exact ⟨_, .mk 5 0 [] [], rfl, ⟨none, 0, none, 0, H8, rfl, hdy, IsItem.plain _ 5 0 (by omega) (by omega)⟩, modest_plain _ _ _ (by simp), by have := encB_len 5 0 [] [] (by omega) (by omega); have := BI_le (m + 1); simp [encL] at *; omega⟩
  · have NB := Lib.hid (mk_Number w1 hd1.deck)
    go_wp2_with fail
    refine NB.out.mono ?_
    rintro e w2 ⟨m', rfl, hm', hd2⟩
    have hT2 := hT1.dealt hd2 (by omega)
    have hd3 := hd1.trans hd2
    have hn2 := hd2.hid hn1 hT1.lt
    have HMM := Lib.hid hm'
    clear NB hd1 hd2 hT1 hn1 hm'
    have IT := Lib.hid (ih w2 H g hTab hd3.deck)
    go_wp2_with fail
    refine IT.out.mono ?_
    rintro e w4 ⟨v4, y, rfl, ⟨ja, jb, jc, jd, H4, rfl, hd4, hi4⟩, hmy, hly⟩
    have hT4 := (hT2.dealt hd4 (by omega)).alloc (.cells (itemC y ja jb jc jd).toArray 26)
    have hn4 := hd4.hid hn2 hT2.lt
    have hd5 := (hd3.trans hd4).alloc (.cells (itemC y ja jb jc jd).toArray 26)
    have hO := OwnI.lit (w := w4) (ItemsC.one hi4) w4.heap.size (Nat.le_refl _) (by simp)
    have hwt : w.heap.size < w4.heap.size := by have := hT2.lt; have := hd4.size; omega
    obtain ⟨H5, hl5, hh5, hf5, hz5, hle1, hle2, hel5⟩ := hO.snap hd5.holds (fun q hq => by cases hq; exact hd4.holds.none_of_ge (Nat.le_refl _))
    have hk5 : ∀ q, q < w4.heap.size → H4 q = none → H5 q = none := fun q hq h0 => snap_keep hf5 h0 (fun e => by simp at e; omega)
    have hd6 : Dealt w H (w4.alloc (.cells (itemC y ja jb jc jd).toArray 26)) H5 g := hd5.snap (B := w4.heap.size) hl5 hh5 hf5 (fun q hq => by simp at hq; omega) (by omega) hgl
    have hn5 := hk5 _ hwt hn4
    obtain ⟨x7, hx7⟩ : ∃ x, Itm.mk 6 m' [] [y] = x := ⟨_, rfl⟩
    have ha7 : ItemA H5 6 m' none 0 0 (some ⟨w4.heap.size, 0, none⟩) 1 1 x7 := by
      refine ⟨by rw [← hx7]; rfl, by rw [← hx7]; rfl, by rw [← hx7]; rfl, by rw [← hx7]; rfl, ?_⟩
      rw [← hx7]
      exact IsRowI.item ⟨hle1, hle2, hel5⟩ 6 (by omega) m' HMM.out
    have WH := Lib.hid (mk_whole (hTab.mono hd6.le) ha7 _ hd6.holds)
    have HX7 := Lib.hid (show Modest x7 ∧ (encB x7).length ≤ 9 + BI m by
      rw [← hx7]
      refine ⟨by rw [Modest, ModestL, ModestL]; exact ⟨by simp, by simp, hmy, trivial⟩, ?_⟩
      have := encB_len 6 m' [] [y] (by omega) (by omega)
      simp [encL] at this
      omega)
    clear IT hT2 hn2 hd3 hd4 hd5 hO hf5 hel5 hk5 ha7 hi4 hmy hly hx7 hh5 hl5 hn4
    go_wp2_with fail
    refine WH.out.mono ?_
    rintro e w8 ⟨v8, y8, rfl, ⟨qa, qb, qc, qd, H8, rfl, hG8, hi8⟩, hy8⟩
    have hTz := hT4.below hG8.below
    have hnz := hG8.none hn5 hT4.lt
    have hdz := hd6.grown hG8
    have HY := Lib.hid hy8
    clear WH hT4 hG8 hd6 hn5 hy8
    go_wp2_with (with_reducible refine stop_store ?_)
    unfold Stopped
    refine wpList_store_item rfl _ _ _ rfl rfl _ _ rfl rfl _ _ hTz size_item rfl (one4 _ _ _ _ rfl rfl rfl rfl) fun wz hTy hgz => ?_
    have hdy := hdz.grownRow (row := some w.heap.size) (by rintro q ⟨⟩; exact hnz) (by rintro q ⟨⟩; exact Nat.le_refl _) hgl hgz
    go_wp2_with fail
    refine ret_row rfl rfl hTy rfl rfl size_item rfl ?_
    refine ⟨_, y8, rfl, ⟨qa, qb, qc, qd, H8, rfl, hdy, hi8⟩, ?_⟩
    rcases HY.out with rfl | rfl
    · exact ⟨HX7.out.1, by have := HX7.out.2; rw [BI]; omega⟩
    · exact ⟨modest_zero, Nat.le_trans encB_zero (BI_le _)⟩
  · have hB := Blk.new w1 22 #[.int .u64 20, .int .u64 21, .int .u64 22, .int .u64 23, .int .u64 0, .int .u64 19, .int .u64 32, .int .u64 255]
    have hd2 := hd1.alloc (.cells #[.int .u64 20, .int .u64 21, .int .u64 22, .int .u64 23, .int .u64 0, .int .u64 19, .int .u64 32, .int .u64 255] 22)
    have hT2 := hT1.alloc (.cells #[.int .u64 20, .int .u64 21, .int .u64 22, .int .u64 23, .int .u64 0, .int .u64 19, .int .u64 32, .int .u64 255] 22)
    have NB := Lib.hid (deck_Next _ hd2.deck 8 (by omega) (by omega))
    go_wp2_with fail
    refine NB.out.mono ?_
    rintro e w3 ⟨j, rfl, hj, hd3⟩
    have hB3 := hB.dealt hd3 (by have := hd1.size; omega)
    obtain ⟨v, hc, hP⟩ := hB3.pick isU64 (by kernel_rfl) j (by simp; omega)
    obtain ⟨x, rfl, hx⟩ := isU64_spec hP
    have hTz := hT2.dealt hd3 (by omega)
    have hnz := hd3.hid hn1 hT2.lt
    have hdz := hd2.trans hd3
    have HMM := Lib.hid hx
    clear NB hB hB3 hP hd1 hd2 hd3 hx hT1 hT2 hn1
    go_wp2_with (with_reducible refine stop_store ?_)
    unfold Stopped
    refine wpList_store_item rfl _ _ _ rfl rfl _ _ rfl rfl _ _ hTz size_item rfl (one4 _ _ _ _ rfl rfl rfl rfl) fun wz hTy hgz => ?_
    have hdy := hdz.grownRow (row := some w.heap.size) (by rintro q ⟨⟩; exact hnz) (by rintro q ⟨⟩; exact Nat.le_refl _) hgl hgz
    go_wp2_with fail
    refine ret_row rfl rfl hTy rfl rfl size_item rfl ?_
    exact ⟨_, .mk 7 x [] [], rfl, ⟨none, 0, none, 0, _, rfl, hdy, IsItem.plain _ 7 x (by omega) HMM.out⟩, modest_plain _ _ _ (by simp), Nat.le_trans (encB_simple x) HBI.out⟩
  · have NB := Lib.hid (mk_Float w1 hd1.deck)
    go_wp2_with fail
    refine NB.out.mono ?_
    rintro e w2 ⟨⟨m', rfl, hm'⟩, hd2⟩
    have hTz := hT1.dealt hd2 (by omega)
    have hdz := hd1.trans hd2
    have hnz := hd2.hid hn1 hT1.lt
    have HMM := Lib.hid hm'
    clear NB hd1 hd2 hT1 hn1 hm'
    go_wp2_with (with_reducible refine stop_store ?_)
    unfold Stopped
    refine wpList_store_item rfl _ _ _ rfl rfl _ _ rfl rfl _ _ hTz size_item rfl (one4 _ _ _ _ rfl rfl rfl rfl) fun wz hTy hgz => ?_
    have hdy := hdz.grownRow (row := some w.heap.size) (by rintro q ⟨⟩; exact hnz) (by rintro q ⟨⟩; exact Nat.le_refl _) hgl hgz
    go_wp2_with fail
    refine ret_row rfl rfl hTy rfl rfl size_item rfl ?_
    exact ⟨_, .mk 8 m' [] [], rfl, ⟨none, 0, none, 0, _, rfl, hdy, IsItem.plain _ 8 m' (by omega) HMM.out⟩, modest_plain _ _ _ (by simp), Nat.le_trans (encB_float m') HBI.out⟩
end Go.Proofs.YtdbhgngikglmcaaDoor
