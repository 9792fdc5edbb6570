/- Walks: the deck's floats and items. -/
import Derived.Test.YtdbhgngikglmcaaDoorJda
import Derived.Test.YtdbhgngikglmcaaDoorRr
set_option linter.unusedVariables false
set_option linter.unusedSimpArgs false
namespace Go.Proofs.YtdbhgngikglmcaaDoor
open Go.RowKit

theorem bits_nat (op : BinOp) (a b : Int) : ∃ n : Nat, bits op .u64 a b = (n : Int) ∧ n < 18446744073709551616 := by
  obtain ⟨n, h1, h2⟩ := bits_ret op a b
  injection h1 with h1
  injection h1 with _ h1
  exact ⟨n, h1, h2⟩
theorem widen5_bits (op : BinOp) (a b : Int) (w : World) : Calls Tryd.prog 67 #[.int .u64 (bits op .u64 a b), .int .i64 5, .int .i64 10] w (WidenSaid w) := by
  obtain ⟨n, h1, h2⟩ := bits_nat op a b
  rw [h1]
  exact ref_Widen5 n h2 w
theorem widen8_bits (op : BinOp) (a b : Int) (w : World) : Calls Tryd.prog 67 #[.int .u64 (bits op .u64 a b), .int .i64 8, .int .i64 23] w (WidenSaid w) := by
  obtain ⟨n, h1, h2⟩ := bits_nat op a b
  rw [h1]
  exact ref_Widen8 n h2 w
theorem isNaN_bits (op : BinOp) (a b : Int) (w : World) : Calls Tryd.prog 68 #[.int .u64 (bits op .u64 a b)] w fun e w' => (∃ bb : Bool, e = .returned (.bool bb)) ∧ w = w' := by
  obtain ⟨n, h1, h2⟩ := bits_nat op a b
  rw [h1]
  exact (ref_IsNaN n h2 w).mono fun e w' h => ⟨⟨_, h.1⟩, h.2⟩

/-- A number from the deck. -/
def DealtN (w : World) (H : Snap) (g : Nat) (e : Ending) (w' : World) : Prop := (∃ n : Nat, e = .returned (.int .u64 (n : Int)) ∧ n < 18446744073709551616) ∧ Dealt w H w' H g

set_option maxRecDepth 100000 in
set_option maxHeartbeats 3200000 in
theorem mk_Float {H : Snap} {g : Nat} (w : World) (hD : DeckIn w g H) :
    Calls Tryd.prog 49 #[.pointer (some ⟨g, 0, none⟩)] w (DealtN w H g) := by
  have NX := Lib.hid (deck_Next w hD 1073741824 (by omega) (by omega))
  have hgl := hD.deck.lt
  clear hD
  go_enter Tryd.func49, Tryd.ntmps49
  go_wp2_with fail
  refine NX.out.mono ?_
  rintro e w1 ⟨r, rfl, hr, hd1⟩
  have K0 : IntKind.u64.wrap (r : Int) = (r : Int) := IntWalk.u64_in _ (by omega)
  have N2 := Lib.hid (deck_Next w1 hd1.deck 5 (by omega) (by omega))
  clear NX
  go_wp2_with fail
  refine N2.out.mono ?_
  rintro e w2 ⟨q, rfl, hq, hd2⟩
  have hd := hd1.trans hd2
  clear N2 hd1 hd2
  rcases (by omega : q = 0 ∨ q = 1 ∨ q = 2 ∨ q = 3 ∨ q = 4) with rfl | rfl | rfl | rfl | rfl
  · go_wp2_with (go_at_call 67; refine (widen5_bits _ _ _ _).mono ?_; rintro e w3 ⟨⟨n, rfl, hn⟩, rfl⟩)
    go_ret
    exact ⟨⟨n, rfl, hn⟩, hd⟩
  · go_wp2_with (go_at_call 67; refine (widen8_bits _ _ _ _).mono ?_; rintro e w3 ⟨⟨n, rfl, hn⟩, rfl⟩)
    go_ret
    exact ⟨⟨n, rfl, hn⟩, hd⟩
  · have hB := Blk.new w2 22 #[.int .u64 9221120237041090560, .int .u64 9218868437227405312, .int .u64 18442240474082181120, .int .u64 9223372036854775808, .int .u64 0, .int .u64 1, .int .u64 4609434218613702656]
    have hd2 := hd.alloc (.cells #[.int .u64 9221120237041090560, .int .u64 9218868437227405312, .int .u64 18442240474082181120, .int .u64 9223372036854775808, .int .u64 0, .int .u64 1, .int .u64 4609434218613702656] 22)
    have N3 := Lib.hid (deck_Next _ hd2.deck 7 (by omega) (by omega))
    go_wp2_with fail
    refine N3.out.mono ?_
    rintro e w3 ⟨j, rfl, hj, hd3⟩
    have hB3 := hB.dealt hd3 (by have := hd.size; omega)
    obtain ⟨v, hc, hP⟩ := hB3.pick isU64 (by kernel_rfl) j (by simp; omega)
    obtain ⟨x, rfl, hx⟩ := isU64_spec hP
    have hdz := hd2.trans hd3
    have HX := Lib.hid hx
    clear N3 hB hB3 hP hd2 hd3 hx
    go_wp2_with fail
    go_ret
    exact ⟨⟨x, rfl, HX.out⟩, hdz⟩
  all_goals
    have N3 := Lib.hid (deck_Next w2 hd.deck 1073741824 (by omega) (by omega))
    go_wp2_with fail
    refine N3.out.mono ?_
    rintro e w3 ⟨j, rfl, hj, hd3⟩
    have hdz := hd.trans hd3
    have K1 : IntKind.u64.wrap (j : Int) = (j : Int) := IntWalk.u64_in _ (by omega)
    clear N3 hd hd3
    go_wp2_with (go_at_call 68; refine (isNaN_bits _ _ _ _).mono ?_; rintro e w4 ⟨⟨bb, rfl⟩, rfl⟩; cases bb)
    all_goals go_ret
    · exact ⟨bits_ret .., hdz⟩
    · exact ⟨⟨9221120237041090560, rfl, by omega⟩, hdz⟩

set_option maxRecDepth 100000 in
theorem mk_whole {H : Snap} (hT : Tabs H) {k n : Int} {ba : Option Addr} {bl bc : Nat} {ia : Option Addr} {il ic : Nat} {x : Itm} (hx : ItemA H k n ba bl bc ia il ic x) (w : World) (hH : Holds w H) :
    Calls Tryd.prog 48 #[.agg #[.int .i64 k, .int .u64 n, .slice ba bl bc, .slice ia il ic]] w fun e w' => ∃ v y, e = .returned v ∧ Gives w H y v w' ∧ (y = x ∨ y = zeroItm) := by
  obtain ⟨rfl, rfl, rfl, rfl, hxi⟩ := hx.eqs_
  have hB := (Blk.new w 26 #[.int .i64 x.kind, .int .u64 x.n, .slice ba x.bytes.length bc, .slice ia x.items.length ic]).alloc zeroO
  have hT' := Blk.new (w.alloc (itemO x ba bc ia ic)) 26 #[.int .i64 0, .int .u64 0, .slice none 0 0, .slice none 0 0]
  simp only [size_alloc] at hT'
  have hG := ((Grows.refl hH).alloc (itemO x ba bc ia ic)).alloc zeroO
  have hn0 : H (w.heap.size + 1) = none := hH.none_of_ge (by omega)
  have V := Lib.hid (ref_Valid hT hxi.arg _ hG.holds)
  cases hv : validP x with
  | false =>
    rw [hv] at V
    clear hv
    go_enter Tryd.func48, Tryd.ntmps48
    go_wp2_with fail
    refine V.out.mono ?_
    rintro e w2 ⟨rfl, hb2⟩
    have hT2 := hT'.below hb2
    have hG2 := hG.below_ hb2
    clear V hB hT' hG hb2
    go_wp2_with (with_reducible refine stop_store ?_)
    unfold Stopped
    refine wpList_store_item rfl _ _ _ rfl rfl _ _ rfl rfl _ _ hT2 size_item rfl (one4 _ _ _ _ rfl rfl rfl rfl) fun w3 hT3 hg3 => ?_
    have hG3 := hG2.grownOwn hn0 (by omega) hg3
    go_wp2_with fail
    refine ret_row rfl rfl hT3 rfl rfl size_item rfl ?_
    exact ⟨_, zeroItm, rfl, ⟨none, 0, none, 0, H, rfl, hG3, IsItem.plain _ 0 0 (by omega) (by omega)⟩, .inr rfl⟩
  | true =>
    rw [hv] at V
    clear hv
    go_enter Tryd.func48, Tryd.ntmps48
    go_wp2_with fail
    refine V.out.mono ?_
    rintro e w2 ⟨rfl, hb2⟩
    have hB2 := hB.below hb2
    have hT2 := hT'.below hb2
    have hG2 := hG.below_ hb2
    have c0 := hB2.cell 0 rfl
    have c1 := hB2.cell 1 rfl
    have c2 := hB2.cell 2 rfl
    have c3 := hB2.cell 3 rfl
    clear V hB hT' hG hb2
    go_wp2_with (with_reducible refine stop_store ?_)
    unfold Stopped
    refine wpList_store_item rfl _ _ _ rfl rfl _ _ rfl rfl _ _ hT2 size_item rfl (one4 _ _ _ _ rfl rfl rfl rfl) fun w3 hT3 hg3 => ?_
    have hG3 := hG2.grownOwn hn0 (by omega) hg3
    go_wp2_with fail
    refine ret_row rfl rfl hT3 rfl rfl size_item rfl ?_
    exact ⟨_, x, rfl, ⟨ba, bc, ia, ic, H, rfl, hG3, hxi⟩, .inl rfl⟩

/-- An item from the deck, in new memory. -/
def GivesD (w : World) (H : Snap) (g : Nat) (x : Itm) (v : Value) (w' : World) : Prop := ∃ ba bc ia ic H', v = itemV x ba bc ia ic ∧ Dealt w H w' H' g ∧ IsItem H' ba bc ia ic x
def DealtI (w : World) (H : Snap) (g B : Nat) (e : Ending) (w' : World) : Prop := ∃ v x, e = .returned v ∧ GivesD w H g x v w' ∧ Modest x ∧ (encB x).length ≤ B
/-- The longest encoding of an item of some levels. -/
def BI : Nat → Nat
  | 0 => 39
  | d + 1 => 9 + 6 * BI d
theorem BI_le : ∀ d, 39 ≤ BI d
  | 0 => Nat.le_refl _
  | d + 1 => by have := BI_le d; rw [BI]; omega
def DeckItem (d : Nat) : Prop := ∀ (w : World) (H : Snap) (g : Nat), Tabs H → DeckIn w g H → Calls Tryd.prog 31 #[.pointer (some ⟨g, 0, none⟩), .int .i64 (d : Int)] w (DealtI w H g (BI d))
theorem modest_plain (k : Int) (n : Nat) (l : List UInt8) (h : l.length ≤ 1099511627776) : Modest (.mk k n l []) := by rw [Modest, ModestL]; exact ⟨h, by simp, trivial⟩
theorem encB_simple (n : Nat) : (encB (.mk 7 n [] [])).length ≤ 39 := by
  rw [encB_eq]
  simp only [Itm.kind, Itm.n, Itm.bytes, Itm.items, encL, List.append_nil]
  rw [if_neg (by omega)]
  split
  · simp
  · have := (headB_le (7 : Int).toNat (numP (.mk 7 n [] []))).2
    omega
theorem encB_float (n : Nat) : (encB (.mk 8 n [] [])).length ≤ 39 := by
  rw [encB_eq, if_pos (show (Itm.mk 8 n [] []).kind = 8 from rfl)]
  rcases floatB_length n with h | h | h <;> (simp only [Itm.n]; omega)

set_option maxRecDepth 100000 in
set_option maxHeartbeats 12800000 in
theorem item_zero : DeckItem 0 := by
  intro w H g hTab hD
  have HBI := Lib.hid (BI_le 0)
  have hgl := hD.deck.lt
  have hD0 := hD.alloc zeroO
  have hd0 := hD.grows ((Grows.refl hD.holds).alloc zeroO)
  have hT0 := Blk.new w 26 #[.int .i64 0, .int .u64 0, .slice none 0 0, .slice none 0 0]
  have hn1 : H w.heap.size = none := hD.holds.none_of_ge (Nat.le_refl _)
  have NX := Lib.hid (deck_Next _ hD0 9 (by omega) (by omega))
  clear hD
  go_enter Tryd.func31, Tryd.ntmps31
  go_wp2_with fail
  refine NX.out.mono ?_
  rintro e w1 ⟨r, rfl, hr, hd1'⟩
  have hd1 := hd0.trans hd1'
  have hT1 := hT0.dealt hd1' (by omega)
  clear NX hd0 hd1' hT0 hD0
  rcases (by omega : r = 0 ∨ r = 1 ∨ r = 2 ∨ r = 3 ∨ r = 4 ∨ r = 5 ∨ r = 6 ∨ r = 7 ∨ r = 8) with rfl | rfl | rfl | rfl | rfl | rfl | rfl | rfl | rfl
  · have NB := Lib.hid (mk_Number w1 hd1.deck)
    go_wp2_with fail
    refine NB.out.mono ?_
    rintro e w2 ⟨m', rfl, hm', hd2⟩
    have hTz := hT1.dealt hd2 (by omega)
    have hdz := hd1.trans hd2
    have hnz := hd2.hid hn1 hT1.lt
    have HMM := Lib.hid hm'
    clear NB hd1 hd2 hT1 hn1 hm'
    go_wp2_with (with_reducible refine stop_store ?_)
    unfold Stopped
    refine wpList_store_item rfl _ _ _ rfl rfl _ _ rfl rfl _ _ hTz size_item rfl (one4 _ _ _ _ rfl rfl rfl rfl) fun wz hTy hgz => ?_
    have hdy := hdz.grownRow (row := some w.heap.size) (by rintro q ⟨⟩; exact hnz) (by rintro q ⟨⟩; exact Nat.le_refl _) hgl hgz
    go_wp2_with fail
    refine ret_row rfl rfl hTy rfl rfl size_item rfl ?_
    exact ⟨_, .mk 0 m' [] [], rfl, ⟨none, 0, none, 0, _, rfl, hdy, IsItem.plain _ 0 m' (by omega) HMM.out⟩, modest_plain _ _ _ (by simp), by have := encB_len 0 m' [] [] (by omega) (by omega); have := HBI.out; simp [encL] at *; omega⟩
  · have NB := Lib.hid (mk_Number w1 hd1.deck)
    go_wp2_with fail
    refine NB.out.mono ?_
    rintro e w2 ⟨m', rfl, hm', hd2⟩
    have hTz := hT1.dealt hd2 (by omega)
    have hdz := hd1.trans hd2
    have hnz := hd2.hid hn1 hT1.lt
    have HMM := Lib.hid hm'
    clear NB hd1 hd2 hT1 hn1 hm'
    go_wp2_with (with_reducible refine stop_store ?_)
    unfold Stopped
    refine wpList_store_item rfl _ _ _ rfl rfl _ _ rfl rfl _ _ hTz size_item rfl (one4 _ _ _ _ rfl rfl rfl rfl) fun wz hTy hgz => ?_
    have hdy := hdz.grownRow (row := some w.heap.size) (by rintro q ⟨⟩; exact hnz) (by rintro q ⟨⟩; exact Nat.le_refl _) hgl hgz
    go_wp2_with fail
    refine ret_row rfl rfl hTy rfl rfl size_item rfl ?_
    exact ⟨_, .mk 1 m' [] [], rfl, ⟨none, 0, none, 0, _, rfl, hdy, IsItem.plain _ 1 m' (by omega) HMM.out⟩, modest_plain _ _ _ (by simp), by have := encB_len 1 m' [] [] (by omega) (by omega); have := HBI.out; simp [encL] at *; omega⟩
  · have NB := Lib.hid (mk_Bytes w1 hd1.deck 30 (by omega) (by omega))
    go_wp2_with fail
    refine NB.out.mono ?_
    rintro e w2 ⟨A, c, l, rfl, hl, H2, hb2, hd2⟩
    have hT2 := hT1.dealt hd2 (by omega)
    have hn2 := hd2.hid hn1 hT1.lt
    have hd2' := hd1.trans hd2
    have RB := Lib.hid (ref_Bytes (A := A) (c := c) (l := l) rfl (by omega) w2 (Src.of_row hb2.row hd2.holds) hd2.holds)
    have HL := Lib.hid hl
    clear NB hd1 hd2 hT1 hn1 hl hb2
    go_wp2_with fail
    refine RB.out.mono ?_
    rintro e w3 ⟨v3, rfl, ja, jb, jc, jd, H3, rfl, hG3, hi3⟩
    have hTz := hT2.below hG3.below
    have hnz := hG3.none hn2 hT2.lt
    have hdz := hd2'.grown hG3
    clear hT2 hn2 hd2' hG3 RB
    go_wp2_with (with_reducible refine stop_store ?_)
    unfold Stopped
    refine wpList_store_item rfl _ _ _ rfl rfl _ _ rfl rfl _ _ hTz size_item rfl (one4 _ _ _ _ rfl rfl rfl rfl) fun wz hTy hgz => ?_
    have hdy := hdz.grownRow (row := some w.heap.size) (by rintro q ⟨⟩; exact hnz) (by rintro q ⟨⟩; exact Nat.le_refl _) hgl hgz
    go_wp2_with fail
    refine ret_row rfl rfl hTy rfl rfl size_item rfl ?_
    exact ⟨_, .mk 2 0 l [], rfl, ⟨ja, jb, jc, jd, H3, rfl, hdy, hi3⟩, modest_plain _ _ _ (by have := HL.out; omega), by have := encB_len 2 0 l [] (by omega) (by omega); have := HBI.out; have := HL.out; simp [encL] at *; omega⟩
  · have NB := Lib.hid (mk_Text w1 hd1.deck 8 (by omega) (by omega))
    go_wp2_with fail
    refine NB.out.mono ?_
    rintro e w2 ⟨s, rfl, hl, hd2⟩
    have hT2 := hT1.dealt hd2 (by omega)
    have hn2 := hd2.hid hn1 hT1.lt
    have hd2' := hd1.trans hd2
    have RB := Lib.hid (ref_Text s (by omega) w2 hd2.holds)
    have HL := Lib.hid hl
    clear NB hd1 hd2 hT1 hn1 hl
    go_wp2_with fail
    refine RB.out.mono ?_
    rintro e w3 ⟨v3, rfl, ja, jb, jc, jd, H3, rfl, hG3, hi3⟩
    have hTz := hT2.below hG3.below
    have hnz := hG3.none hn2 hT2.lt
    have hdz := hd2'.grown hG3
    have HLS : Hid (s.data.toList.length = s.size) := by rw [Hid]; first | rfl | simp
    obtain ⟨XT, hXT⟩ : ∃ X, Itm.mk 3 0 s.data.toList [] = X := ⟨_, rfl⟩
    rw [hXT] at hi3 ⊢
    have HXT := Lib.hid hXT
    clear hT2 hn2 hd2' hG3 RB hXT
    go_wp2_with (with_reducible refine stop_store ?_)
    unfold Stopped
    refine wpList_store_item rfl _ _ _ rfl rfl _ _ rfl rfl _ _ hTz size_item rfl (one4 _ _ _ _ rfl rfl rfl rfl) fun wz hTy hgz => ?_
    have hdy := hdz.grownRow (row := some w.heap.size) (by rintro q ⟨⟩; exact hnz) (by rintro q ⟨⟩; exact Nat.le_refl _) hgl hgz
    go_wp2_with fail
    refine ret_row rfl rfl hTy rfl rfl size_item rfl ?_
    exact ⟨_, XT, rfl, ⟨ja, jb, jc, jd, H3, rfl, hdy, hi3⟩, by rw [← HXT.out]; exact modest_plain _ _ _ (by have := HL.out; have := HLS.out; omega), by have := encB_len 3 0 s.data.toList [] (by omega) (by omega); have := HBI.out; have := HL.out; have := HLS.out; rw [← HXT.out]; simp [encL] at *; omega⟩
  · have NB := Lib.hid (mk_Number w1 hd1.deck)
    go_wp2_with fail
    refine NB.out.mono ?_
    rintro e w2 ⟨m', rfl, hm', hd2⟩
    have hTz := hT1.dealt hd2 (by omega)
    have hdz := hd1.trans hd2
    have hnz := hd2.hid hn1 hT1.lt
    have HMM := Lib.hid hm'
    clear NB hd1 hd2 hT1 hn1 hm'
    go_wp2_with (with_reducible refine stop_store ?_)
    unfold Stopped
    refine wpList_store_item rfl _ _ _ rfl rfl _ _ rfl rfl _ _ hTz size_item rfl (one4 _ _ _ _ rfl rfl rfl rfl) fun wz hTy hgz => ?_
    have hdy := hdz.grownRow (row := some w.heap.size) (by rintro q ⟨⟩; exact hnz) (by rintro q ⟨⟩; exact Nat.le_refl _) hgl hgz
    go_wp2_with fail
    refine ret_row rfl rfl hTy rfl rfl size_item rfl ?_
    exact ⟨_, .mk 0 m' [] [], rfl, ⟨none, 0, none, 0, _, rfl, hdy, IsItem.plain _ 0 m' (by omega) HMM.out⟩, modest_plain _ _ _ (by simp), by have := encB_len 0 m' [] [] (by omega) (by omega); have := HBI.out; simp [encL] at *; omega⟩
  · have NB := Lib.hid (mk_Number w1 hd1.deck)
    go_wp2_with fail
    refine NB.out.mono ?_
    rintro e w2 ⟨m', rfl, hm', hd2⟩
    have hTz := hT1.dealt hd2 (by omega)
    have hdz := hd1.trans hd2
    have hnz := hd2.hid hn1 hT1.lt
    have HMM := Lib.hid hm'
    clear NB hd1 hd2 hT1 hn1 hm'
    go_wp2_with (with_reducible refine stop_store ?_)
    unfold Stopped
    refine wpList_store_item rfl _ _ _ rfl rfl _ _ rfl rfl _ _ hTz size_item rfl (one4 _ _ _ _ rfl rfl rfl rfl) fun wz hTy hgz => ?_
    have hdy := hdz.grownRow (row := some w.heap.size) (by rintro q ⟨⟩; exact hnz) (by rintro q ⟨⟩; exact Nat.le_refl _) hgl hgz
    go_wp2_with fail
    refine ret_row rfl rfl hTy rfl rfl size_item rfl ?_
    exact ⟨_, .mk 0 m' [] [], rfl, ⟨none, 0, none, 0, _, rfl, hdy, IsItem.plain _ 0 m' (by omega) HMM.out⟩, modest_plain _ _ _ (by simp), by have := encB_len 0 m' [] [] (by omega) (by omega); have := HBI.out; simp [encL] at *; omega⟩
  · have NB := Lib.hid (mk_Number w1 hd1.deck)
    go_wp2_with fail
    refine NB.out.mono ?_
    rintro e w2 ⟨m', rfl, hm', hd2⟩
    have hTz := hT1.dealt hd2 (by omega)
    have hdz := hd1.trans hd2
    have hnz := hd2.hid hn1 hT1.lt
    have HMM := Lib.hid hm'
    clear NB hd1 hd2 hT1 hn1 hm'
    go_wp2_with (with_reducible refine stop_store ?_)
    unfold Stopped
    refine wpList_store_item rfl _ _ _ rfl rfl _ _ rfl rfl _ _ hTz size_item rfl (one4 _ _ _ _ rfl rfl rfl rfl) fun wz hTy hgz => ?_
    have hdy := hdz.grownRow (row := some w.heap.size) (by rintro q ⟨⟩; exact hnz) (by rintro q ⟨⟩; exact Nat.le_refl _) hgl hgz
    go_wp2_with fail
    refine ret_row rfl rfl hTy rfl rfl size_item rfl ?_
    exact ⟨_, .mk 0 m' [] [], rfl, ⟨none, 0, none, 0, _, rfl, hdy, IsItem.plain _ 0 m' (by omega) HMM.out⟩, modest_plain _ _ _ (by simp), by have := encB_len 0 m' [] [] (by omega) (by omega); have := HBI.out; simp [encL] at *; omega⟩
  · have hB := Blk.new w1 22 #[.int .u64 20, .int .u64 21, .int .u64 22, .int .u64 23, .int .u64 0, .int .u64 19, .int .u64 32, .int .u64 255]
    have hd2 := hd1.alloc (.cells #[.int .u64 20, .int .u64 21, .int .u64 22, .int .u64 23, .int .u64 0, .int .u64 19, .int .u64 32, .int .u64 255] 22)
    have hT2 := hT1.alloc (.cells #[.int .u64 20, .int .u64 21, .int .u64 22, .int .u64 23, .int .u64 0, .int .u64 19, .int .u64 32, .int .u64 255] 22)
    have NB := Lib.hid (deck_Next _ hd2.deck 8 (by omega) (by omega))
    go_wp2_with fail
    refine NB.out.mono ?_
    rintro e w3 ⟨j, rfl, hj, hd3⟩
    have hB3 := hB.dealt hd3 (by have := hd1.size; omega)
    obtain ⟨v, hc, hP⟩ := hB3.pick isU64 (by kernel_rfl) j (by simp; omega)
    obtain ⟨x, rfl, hx⟩ := isU64_spec hP
    have hTz := hT2.dealt hd3 (by omega)
    have hnz := hd3.hid hn1 hT2.lt
    have hdz := hd2.trans hd3
    have HMM := Lib.hid hx
    clear NB hB hB3 hP hd1 hd2 hd3 hx hT1 hT2 hn1
    go_wp2_with (with_reducible refine stop_store ?_)
    unfold Stopped
    refine wpList_store_item rfl _ _ _ rfl rfl _ _ rfl rfl _ _ hTz size_item rfl (one4 _ _ _ _ rfl rfl rfl rfl) fun wz hTy hgz => ?_
    have hdy := hdz.grownRow (row := some w.heap.size) (by rintro q ⟨⟩; exact hnz) (by rintro q ⟨⟩; exact Nat.le_refl _) hgl hgz
    go_wp2_with fail
    refine ret_row rfl rfl hTy rfl rfl size_item rfl ?_
    exact ⟨_, .mk 7 x [] [], rfl, ⟨none, 0, none, 0, _, rfl, hdy, IsItem.plain _ 7 x (by omega) HMM.out⟩, modest_plain _ _ _ (by simp), Nat.le_trans (encB_simple x) HBI.out⟩
  · have NB := Lib.hid (mk_Float w1 hd1.deck)
    go_wp2_with fail
    refine NB.out.mono ?_
    rintro e w2 ⟨⟨m', rfl, hm'⟩, hd2⟩
    have hTz := hT1.dealt hd2 (by omega)
    have hdz := hd1.trans hd2
    have hnz := hd2.hid hn1 hT1.lt
    have HMM := Lib.hid hm'
    clear NB hd1 hd2 hT1 hn1 hm'
    go_wp2_with (with_reducible refine stop_store ?_)
    unfold Stopped
    refine wpList_store_item rfl _ _ _ rfl rfl _ _ rfl rfl _ _ hTz size_item rfl (one4 _ _ _ _ rfl rfl rfl rfl) fun wz hTy hgz => ?_
    have hdy := hdz.grownRow (row := some w.heap.size) (by rintro q ⟨⟩; exact hnz) (by rintro q ⟨⟩; exact Nat.le_refl _) hgl hgz
    go_wp2_with fail
    refine ret_row rfl rfl hTy rfl rfl size_item rfl ?_
    exact ⟨_, .mk 8 m' [] [], rfl, ⟨none, 0, none, 0, _, rfl, hdy, IsItem.plain _ 8 m' (by omega) HMM.out⟩, modest_plain _ _ _ (by simp), Nat.le_trans (encB_float m') HBI.out⟩
end Go.Proofs.YtdbhgngikglmcaaDoor
