/- Walks: cbor.Uint, Int, Bytes, Text. Two ways of counting an item's parts agree: plain mathematics. The two readings of header parameters agree: plain mathematics. A region that draws its order, whose last operation may write what its loads read: all others keep S. -/
import Derived.Test.YtebcnkelbicbnaaDoorK01
import Derived.Laws.IdiomStrings
import Derived.Test.YtebcnkelbicbnaaDoorK00
import Derived.Deep.RegionHeld
set_option linter.unusedVariables false
set_option linter.unusedSimpArgs false
namespace Go.Proofs.YtebcnkelbicbnaaDoor
open Go.RowKit

theorem IsItem.plain (H : Snap) (k : Int) (n : Nat) (hk : -9223372036854775808 ≤ k ∧ k ≤ 9223372036854775807) (hn : n < 18446744073709551616) : IsItem H none 0 none 0 (.mk k n [] []) := by
  rw [IsItem]
  exact ⟨⟨hk.1, hk.2, hn, Nat.le_refl _, by omega⟩, IsBytes.nil H, fun h => absurd h (by simp)⟩
theorem Gives.plain {w w' : World} {H : Snap} {k n : Int} {m : Nat} (hH : Holds w H) (hb : Below w.heap.size w w') (hk : -9223372036854775808 ≤ k ∧ k ≤ 9223372036854775807) (hm : m < 18446744073709551616) (hn : n = (m : Int)) :
    Gives w H (.mk k m [] []) (.agg #[.int .i64 k, .int .u64 n, .slice none 0 0, .slice none 0 0]) w' := by
  subst hn
  exact ⟨none, 0, none, 0, H, rfl, Grows.of_below hH hb, IsItem.plain H k m hk hm⟩
theorem Fresh.gives {w w1 : World} {H : Snap} {l : List UInt8} {r : Value} {k : Int} (hH : Holds w H) (h : Fresh w l r w1) (hk : -9223372036854775808 ≤ k ∧ k ≤ 9223372036854775807) :
    Gives w H (.mk k 0 l []) (.agg #[.int .i64 k, .int .u64 0, r, .slice none 0 0]) w1 := by
  obtain ⟨A, c, rfl, _⟩ := h.own.form
  obtain ⟨H', hl, hh, hf, _, hi⟩ := h.own.snap (hH.below h.2 (Nat.le_refl _)) (fun g hg => hH.none_of_ge (h.own.lt g (by cases A <;> simp_all [Value.ownBlock])).1)
  refine ⟨A, c, none, 0, H', rfl, ⟨h.2, hl, hh, fun b o hb => ?_⟩, ?_⟩
  · rcases hf b o hb with h1 | h1
    · exact .inl h1
    · exact .inr (h.own.lt b (by cases A <;> simp_all [Value.ownBlock])).1
  · rw [IsItem]
    exact ⟨⟨hk.1, hk.2, by omega, Nat.le_refl _, by omega⟩, hi, fun h => absurd h (by simp)⟩

theorem Grows.own {w wA w1 w' : World} {H H' : Snap} {g : Nat} (hA : Below w.heap.size w wA) (hH : Holds w H) (h : Grows wA H w1 H') (hg : w1.grownBy w' (some g)) (h1 : w.heap.size ≤ g) (h2 : g < wA.heap.size) : Grows w H w' H' :=
  ⟨(hA.trans (h.below.mono hA.size)).grown hg (Nat.le_trans hA.size h.below.size) (by rintro k ⟨⟩; exact h1), h.le, h.holds.grown hg (by rintro k ⟨⟩; exact h.none (hH.none_of_ge h1) h2), fun b o hb => by
    rcases h.fresh b o hb with h | h
    · exact .inl h
    · exact .inr (Nat.le_trans hA.size h)⟩
/-- A store into a block of the call's own keeps what is given: the block is not among the data. -/
theorem Gives.own {w wA w1 w' : World} {H : Snap} {x : Itm} {v : Value} {g : Nat} (hA : Below w.heap.size w wA) (hH : Holds w H) (h : Gives wA H x v w1) (hg : w1.grownBy w' (some g)) (h1 : w.heap.size ≤ g) (h2 : g < wA.heap.size) : Gives w H x v w' := by
  obtain ⟨ba, bc, ia, ic, H', e, hG, hi⟩ := h
  exact ⟨ba, bc, ia, ic, H', e, hG.own hA hH hg h1 h2, hi⟩
theorem one4 (a b c d : Value) (ha : a.oneCell' = true) (hb : b.oneCell' = true) (hc : c.oneCell' = true) (hd : d.oneCell' = true) : (#[a, b, c, d] : Array Value).all (·.oneCell') = true := by simp [ha, hb, hc, hd]

set_option maxRecDepth 100000 in
theorem cbor_Uint (n : Nat) (hn : n < 18446744073709551616) {H : Snap} (w : World) (hH : Holds w H) :
    Calls Tryd.prog 56 #[.int .u64 n] w fun e w' => ∃ v, e = .returned v ∧ Gives w H (.mk 0 n [] []) v w' := by
  have HN := Lib.hid hn
  clear hn
  go_enter Tryd.func56, Tryd.ntmps56
  go_wp2_with fail
  refine ret_row rfl rfl (Blk.new _ _ _) rfl rfl size_item rfl ?_
  exact ⟨_, rfl, Gives.plain hH (below_box _ _) (by omega) HN.out rfl⟩

set_option maxRecDepth 100000 in
theorem cbor_Int (n : Int) (h1 : -9223372036854775808 ≤ n) (h2 : n ≤ 9223372036854775807) {H : Snap} (w : World) (hH : Holds w H) :
    Calls Tryd.prog 37 #[.int .i64 n] w fun e w' => ∃ v, e = .returned v ∧ Gives w H (intP n) v w' := by
  by_cases h0 : n < 0
  · have E : Hid (intP n = .mk 1 (-1 - n).toNat [] [] ∧ (-1 - n).toNat < 18446744073709551616 ∧ -1 - n = ((-1 - n).toNat : Int)) := ⟨by rw [intP, if_pos h0], by omega, by omega⟩
    have K1 : IntKind.u64.wrap (-1 - n) = -1 - n := by rw [IntKind.wrap_u64]; omega
    have K0 : IntKind.i64.wrap (-1 - n) = -1 - n := IntWalk.i64_in _ (by omega)
    clear h1 h2
    go_enter Tryd.func37, Tryd.ntmps37
    go_wp2_with fail
    refine ret_row rfl rfl (Blk.new _ _ _) rfl rfl size_item rfl ?_
    rw [E.out.1]
    exact ⟨_, rfl, Gives.plain hH (below_box _ _) (by omega) E.out.2.1 E.out.2.2⟩
  · have E : Hid (intP n = .mk 0 n.toNat [] [] ∧ n.toNat < 18446744073709551616 ∧ n = (n.toNat : Int)) := ⟨by rw [intP, if_neg h0], by omega, by omega⟩
    have K1 : IntKind.u64.wrap n = n := by rw [IntKind.wrap_u64]; omega
    have U := Lib.hid (cbor_Uint n.toNat E.out.2.1 (w.alloc (.cells #[.int .i64 0, .int .u64 0, .slice none 0 0, .slice none 0 0] 34)) (hH.alloc _))
    rw [← E.out.2.2] at U
    have hn := Int.not_lt.1 h0
    clear h1 h2 h0
    go_enter Tryd.func37, Tryd.ntmps37
    go_wp2_with fail
    refine U.out.mono ?_
    rintro e w1 ⟨v, rfl, hg⟩
    have HG := Lib.hid hg
    obtain ⟨ba, bc, ia, ic, H', rfl, hg, hi⟩ := hg
    have hB := (Blk.new w 34 #[.int .i64 0, .int .u64 0, .slice none 0 0, .slice none 0 0]).below hg.below
    go_wp2_with (with_reducible refine stop_store ?_)
    unfold Stopped
    refine wpList_store_item rfl _ _ _ rfl rfl _ _ rfl rfl _ _ hB size_item rfl (one4 _ _ _ _ rfl rfl rfl rfl) fun w2 hB2 hG2 => ?_
    go_wp2_with fail
    refine ret_row rfl rfl hB2 rfl rfl size_item rfl ?_
    rw [E.out.1]
    exact ⟨_, rfl, HG.out.own (below_box _ _) hH hG2 (Nat.le_refl _) (by simp)⟩

set_option maxRecDepth 100000 in
theorem cbor_Bytes {A : Option Addr} {n c : Nat} {l : List UInt8} (hn : n = l.length) (hl : l.length ≤ 1099511627776) {H : Snap} (w : World) (hs : Src w A (l.map byteV)) (hH : Holds w H) :
    Calls Tryd.prog 39 #[.slice A n c] w fun e w' => ∃ v, e = .returned v ∧ Gives w H (.mk 2 0 l []) v w' := by
  have C := Lib.hid (slices_Clone (w.alloc (.cells #[.int .i64 0, .int .u64 0, .slice none 0 0, .slice none 0 0] 34)) A l n c hn hl (hs.alloc _))
  clear hn
  go_enter Tryd.func39, Tryd.ntmps39
  go_wp2_with fail
  refine C.out.mono ?_
  rintro e w1 ⟨r, rfl, hf⟩
  have hB := (Blk.new w 34 #[.int .i64 0, .int .u64 0, .slice none 0 0, .slice none 0 0]).below hf.2
  have HF := Lib.hid (hf.gives (k := 2) (hH.alloc (.cells #[.int .i64 0, .int .u64 0, .slice none 0 0, .slice none 0 0] 34)) (by omega))
  obtain ⟨A', c', rfl, _⟩ := hf.own.form
  go_wp2_with (with_reducible refine stop_store ?_)
  unfold Stopped
  refine wpList_store_item rfl _ _ _ rfl rfl _ _ rfl rfl _ _ hB size_item rfl (one4 _ _ _ _ rfl rfl rfl rfl) fun w2 hB2 hG2 => ?_
  go_wp2_with fail
  refine ret_row rfl rfl hB2 rfl rfl size_item rfl ?_
  exact ⟨_, rfl, HF.out.own (below_box _ _) hH hG2 (Nat.le_refl _) (by simp)⟩

end Go.Proofs.YtebcnkelbicbnaaDoor
namespace Go.Proofs.YtebcnkelbicbnaaDoor
open Go.RowKit

/-- What a node may be at a level, its elements left aside. -/
def nodeOk (x : Itm) (lv : Nat) : Bool := if isPlain x = true then okPlain x else frameOk x lv
mutual
/-- An item whose form is right: sizes left aside. -/
def Good : Itm → Nat → Prop
  | .mk k n bs l, lv => nodeOk (.mk k n bs l) lv = true ∧ GoodL l (lv + 1) ∧ (k = 5 → ascP l = true)
def GoodL : List Itm → Nat → Prop
  | [], _ => True
  | x :: l, lv => Good x lv ∧ GoodL l lv
end
theorem Good.node {x : Itm} {lv : Nat} (h : Good x lv) : nodeOk x lv = true := by cases x; rw [Good] at h; exact h.1
theorem Good.items {x : Itm} {lv : Nat} (h : Good x lv) : GoodL x.items (lv + 1) := by cases x; rw [Good] at h; exact h.2.1
theorem Good.asc {x : Itm} {lv : Nat} (h : Good x lv) (h5 : x.kind = 5) : ascP x.items = true := by cases x; rw [Good] at h; exact h.2.2 h5
theorem Good.of {x : Itm} {lv : Nat} (h1 : nodeOk x lv = true) (h2 : GoodL x.items (lv + 1)) (h3 : x.kind = 5 → ascP x.items = true) : Good x lv := by cases x; rw [Good]; exact ⟨h1, h2, h3⟩
theorem GoodL.get : ∀ {l : List Itm} {lv : Nat}, GoodL l lv → ∀ x ∈ l, Good x lv
  | [], _, _, x, hx => by cases hx
  | y :: l, lv, h, x, hx => by
    rw [GoodL] at h
    rcases List.mem_cons.1 hx with rfl | hx
    · exact h.1
    · exact h.2.get x hx
/-- An item of a plain kind, or a frame. -/
theorem nodeOk_cases {x : Itm} {lv : Nat} (h : nodeOk x lv = true) : (isPlain x = true ∧ okPlain x = true) ∨ (isPlain x = false ∧ frameOk x lv = true) := by
  unfold nodeOk at h
  cases hp : isPlain x with
  | true => rw [if_pos hp] at h; exact .inl ⟨rfl, h⟩
  | false => rw [if_neg (by simp [hp])] at h; exact .inr ⟨rfl, h⟩
theorem nodeOk_kind {x : Itm} {lv : Nat} (h : nodeOk x lv = true) : 0 ≤ x.kind ∧ x.kind ≤ 8 := by
  rcases nodeOk_cases h with ⟨h1, _⟩ | ⟨_, h1⟩
  · rw [isPlain_iff] at h1; omega
  · have := frameOk_spec h1; omega
theorem frameOk_le {x : Itm} {lv lv' : Nat} (h : frameOk x lv = true) (hl : lv' ≤ lv) : frameOk x lv' = true := by
  obtain ⟨h1, h2, h3, h4⟩ := frameOk_spec h
  exact decide_eq_true ⟨h1, h2, by omega, h4⟩
theorem nodeOk_le {x : Itm} {lv lv' : Nat} (h : nodeOk x lv = true) (hl : lv' ≤ lv) : nodeOk x lv' = true := by
  rcases nodeOk_cases h with ⟨h1, h2⟩ | ⟨h1, h2⟩
  · rw [nodeOk, if_pos h1]; exact h2
  · rw [nodeOk, if_neg (by simp [h1])]; exact frameOk_le h2 hl
mutual
theorem Good.le : ∀ {x : Itm} {lv lv' : Nat}, Good x lv → lv' ≤ lv → Good x lv'
  | .mk k n bs l, lv, lv', h, hl => by
    rw [Good] at h ⊢
    exact ⟨nodeOk_le h.1 hl, GoodL.le h.2.1 (by omega), h.2.2⟩
theorem GoodL.le : ∀ {l : List Itm} {lv lv' : Nat}, GoodL l lv → lv' ≤ lv → GoodL l lv'
  | [], _, _, _, _ => by rw [GoodL]; trivial
  | x :: l, lv, lv', h, hl => by
    rw [GoodL] at h ⊢
    exact ⟨Good.le h.1 hl, GoodL.le h.2 hl⟩
end
theorem node_plain {x : Itm} {lv : Nat} (h : nodeOk x lv = true) (hp : isPlain x = true) : x.items = [] ∧ (x.kind = 8 ∨ x.kind = 7 → x.bytes = []) := by
  rcases nodeOk_cases h with ⟨_, h2⟩ | ⟨h1, _⟩
  · exact okPlain_items hp h2
  · rw [hp] at h1; cases h1
/-- The bytes of a node, with its elements behind it. -/
theorem node_enc {x : Itm} {lv : Nat} (h : nodeOk x lv = true) : (encB x).length = spendP x + (encL x.items).length := by
  cases hp : isPlain x with
  | true =>
    obtain ⟨h1, h2⟩ := node_plain h hp
    rw [← spend_enc x h1 h2, h1, encL]; simp
  | false =>
    rcases nodeOk_cases h with ⟨h1, _⟩ | ⟨_, h2⟩
    · rw [hp] at h1; cases h1
    · have hf := frameOk_spec h2
      rw [encB_eq, if_neg (by omega), if_neg (by omega), spend_mid x (by omega) (by omega)]
      simp; omega
theorem spend_bytes {x : Itm} {lv : Nat} (h : nodeOk x lv = true) : x.bytes.length ≤ spendP x := by
  by_cases h8 : x.kind = 8
  · have := (node_plain h ((isPlain_iff x).2 (by omega))).2 (by omega)
    rw [this]; simp
  by_cases h7 : x.kind = 7
  · have := (node_plain h ((isPlain_iff x).2 (by omega))).2 (by omega)
    rw [this]; simp
  rw [spend_mid x h8 h7]; omega
theorem cntL_len : ∀ l : List Itm, l.length ≤ cntL l
  | [] => by simp [cntL]
  | x :: l => by
    have := cntL_len l
    have h : 0 < cnt x := by cases x; rw [cnt]; omega
    rw [cntL]; simp; omega
theorem cnt_eq (x : Itm) : cnt x = cntL x.items + 1 := by cases x; rw [cnt]; rfl
mutual
theorem chk_good : ∀ (x : Itm) (lv i s : Nat) (p : Nat × Nat), chk x lv i s = some p → Good x lv
  | .mk k n bs l, lv, i, s, p, h => by
    rw [chk] at h
    split at h
    · cases h
    split at h
    · rename_i hp
      split at h
      · rename_i ho
        have hi := (okPlain_items hp ho.1).1
        have hk := (isPlain_iff _).1 hp
        simp only [Itm.items, Itm.kind] at hi hk
        subst hi
        rw [Good, GoodL]
        exact ⟨by rw [nodeOk, if_pos hp]; exact ho.1, trivial, fun h => by omega⟩
      · cases h
    rename_i hp
    split at h
    · cases h
    rename_i hf
    split at h
    · cases h
    split at h
    · cases h
    rename_i q hq
    split at h
    · cases h
    rename_i ha
    rw [Good]
    refine ⟨by rw [nodeOk, if_neg hp]; simpa using hf, chkL_good l _ _ _ _ hq, fun h5 => ?_⟩
    cases hs : ascP l with
    | true => rfl
    | false => exact absurd ⟨h5, hs⟩ ha
theorem chkL_good : ∀ (l : List Itm) (lv i s : Nat) (p : Nat × Nat), chkL l lv i s = some p → GoodL l lv
  | [], _, _, _, _, _ => by rw [GoodL]; trivial
  | x :: l, lv, i, s, p, h => by
    rw [chkL] at h
    split at h
    · cases h
    rename_i q hq
    rw [GoodL]
    exact ⟨chk_good x _ _ _ _ hq, chkL_good l _ _ _ _ h⟩
end
mutual
theorem good_chk : ∀ (x : Itm) (lv i s : Nat), Good x lv → i + cnt x ≤ 256 → s + (encB x).length ≤ 4096 → chk x lv i s = some (i + cnt x, s + (encB x).length)
  | .mk k n bs l, lv, i, s, h, hi, hs => by
    have hn := h.node
    have hit := h.items
    have has := h.asc
    have hsp := node_enc hn
    have hby := spend_bytes hn
    have hc := cnt_eq (.mk k n bs l)
    have hl := cntL_len l
    simp only [Itm.items, Itm.bytes, Itm.kind] at *
    rw [chk, if_neg (by omega)]
    rcases nodeOk_cases hn with ⟨h1, h2⟩ | ⟨h1, h2⟩
    · have h0 := (okPlain_items h1 h2).1
      simp only [Itm.items] at h0
      subst h0
      rw [encL] at hsp
      rw [cntL] at hc
      simp only [List.length_nil] at hsp
      rw [if_pos h1, if_pos ⟨h2, by omega⟩, hc, hsp]
      congr 2
    · rw [if_neg (by simp [h1]), if_neg (by simp [h2]), if_neg (by omega), goodL_chk l (lv + 1) (i + 1) _ hit (by omega) (by omega)]
      simp only
      rw [if_neg (by rintro ⟨h5, ha⟩; rw [has h5] at ha; cases ha)]
      congr 2 <;> omega
theorem goodL_chk : ∀ (l : List Itm) (lv i s : Nat), GoodL l lv → i + cntL l ≤ 256 → s + (encL l).length ≤ 4096 → chkL l lv i s = some (i + cntL l, s + (encL l).length)
  | [], lv, i, s, _, _, _ => by rw [chkL, cntL, encL]; rfl
  | x :: l, lv, i, s, h, hi, hs => by
    rw [GoodL] at h
    rw [cntL] at hi ⊢
    rw [encL] at hs ⊢
    simp only [List.length_append] at hs ⊢
    rw [chkL, good_chk x lv i s h.1 (by omega) (by omega)]
    simp only
    rw [goodL_chk l lv _ _ h.2 (by omega) (by omega)]
    congr 2 <;> omega
end
theorem validP_iff (x : Itm) : validP x = true ↔ Good x 0 ∧ cnt x ≤ 256 ∧ (encB x).length ≤ 4096 := by
  constructor
  · intro h
    obtain ⟨p, hp⟩ := Option.isSome_iff_exists.1 h
    have := validP_spec h
    exact ⟨chk_good _ _ _ _ _ hp, this.2.1, this.2.2⟩
  · rintro ⟨h1, h2, h3⟩
    rw [validP, good_chk x 0 0 0 h1 (by omega) (by omega)]
    rfl

mutual
/-- No byte string is too long. -/
def Small : Itm → Prop
  | .mk _ _ bs l => bs.length ≤ 4096 ∧ SmallL l
def SmallL : List Itm → Prop
  | [] => True
  | x :: l => Small x ∧ SmallL l
end
/-- The references' checks of a node; m: how many items may follow it. -/
def nodeR (x : Itm) (d m : Nat) : Bool := nodeOk x d && decide (x.bytes.length ≤ 4096) && decide (x.items.length ≤ m)
mutual
/-- The references' count: how many items are left. -/
def leftP : Itm → Nat → Nat → Option Nat
  | .mk k n bs l, c, d =>
    if c < 1 then none
    else if nodeR (.mk k n bs l) d (c - 1) = false then none
    else match leftL l (c - 1) (d + 1) with
      | none => none
      | some r => if k = 5 ∧ ascP l = false then none else some r
def leftL : List Itm → Nat → Nat → Option Nat
  | [], c, _ => some c
  | x :: l, c, d => match leftP x c d with
    | none => none
    | some r => leftL l r d
end
theorem leftP_eq (x : Itm) (c d : Nat) : leftP x c d =
    if c < 1 then none
    else if nodeR x d (c - 1) = false then none
    else match leftL x.items (c - 1) (d + 1) with
      | none => none
      | some r => if x.kind = 5 ∧ ascP x.items = false then none else some r := by
  cases x
  rw [leftP]
  rfl
theorem nodeR_spec {x : Itm} {d m : Nat} (h : nodeR x d m = true) : nodeOk x d = true ∧ x.bytes.length ≤ 4096 ∧ x.items.length ≤ m := by
  simpa [nodeR, and_assoc] using h
mutual
theorem left_spec : ∀ (x : Itm) (c d r : Nat), leftP x c d = some r → Good x d ∧ Small x ∧ r + cnt x = c
  | .mk k n bs l, c, d, r, h => by
    rw [leftP] at h
    split at h
    · cases h
    split at h
    · cases h
    rename_i hn
    obtain ⟨h1, h2, h3⟩ := nodeR_spec (by simpa using hn)
    split at h
    · cases h
    rename_i q hq
    split at h
    · cases h
    rename_i ha
    injection h with h
    subst h
    obtain ⟨g1, g2, g3⟩ := leftL_spec l _ _ _ hq
    rw [Good, Small, cnt]
    refine ⟨⟨h1, g1, fun h5 => ?_⟩, ⟨h2, g2⟩, by omega⟩
    cases hs : ascP l with
    | true => rfl
    | false => exact absurd ⟨h5, hs⟩ ha
theorem leftL_spec : ∀ (l : List Itm) (c d r : Nat), leftL l c d = some r → GoodL l d ∧ SmallL l ∧ r + cntL l = c
  | [], c, d, r, h => by
    rw [leftL] at h
    injection h with h
    subst h
    rw [GoodL, SmallL, cntL]
    exact ⟨trivial, trivial, rfl⟩
  | x :: l, c, d, r, h => by
    rw [leftL] at h
    split at h
    · cases h
    rename_i q hq
    obtain ⟨h1, h2, h3⟩ := left_spec x _ _ _ hq
    obtain ⟨g1, g2, g3⟩ := leftL_spec l _ _ _ h
    rw [GoodL, SmallL, cntL]
    exact ⟨⟨h1, g1⟩, ⟨h2, g2⟩, by omega⟩
end
mutual
theorem good_left : ∀ (x : Itm) (c d : Nat), Good x d → Small x → cnt x ≤ c → leftP x c d = some (c - cnt x)
  | .mk k n bs l, c, d, h, hs, hc => by
    have hn := h.node
    have hit := h.items
    have has := h.asc
    have hcn := cnt_eq (.mk k n bs l)
    have hl := cntL_len l
    rw [Small] at hs
    simp only [Itm.items, Itm.bytes, Itm.kind] at *
    have hr : nodeR (.mk k n bs l) d (c - 1) = true := by
      have e2 : l.length ≤ c - 1 := by omega
      simp [nodeR, hn, Itm.bytes, Itm.items, hs.1, e2]
    rw [leftP, if_neg (by omega), if_neg (by simp [hr]), goodL_left l (c - 1) (d + 1) hit hs.2 (by omega)]
    simp only
    rw [if_neg (by rintro ⟨h5, ha⟩; rw [has h5] at ha; cases ha)]
    congr 1; omega
theorem goodL_left : ∀ (l : List Itm) (c d : Nat), GoodL l d → SmallL l → cntL l ≤ c → leftL l c d = some (c - cntL l)
  | [], c, d, _, _, _ => by rw [leftL, cntL]; rfl
  | x :: l, c, d, h, hs, hc => by
    rw [GoodL] at h
    rw [SmallL] at hs
    rw [cntL] at hc ⊢
    rw [leftL, good_left x c d h.1 hs.1 (by omega)]
    simp only
    rw [goodL_left l _ d h.2 hs.2 (by omega)]
    congr 1; omega
end
mutual
theorem Good.small : ∀ {x : Itm} {lv : Nat}, Good x lv → (encB x).length ≤ 4096 → Small x
  | .mk k n bs l, lv, h, hl => by
    have h1 := node_enc h.node
    have h2 := spend_bytes h.node
    have h3 := h.items
    simp only [Itm.items, Itm.bytes] at *
    rw [Small]
    exact ⟨by omega, GoodL.small h3 (by omega)⟩
theorem GoodL.small : ∀ {l : List Itm} {lv : Nat}, GoodL l lv → (encL l).length ≤ 4096 → SmallL l
  | [], _, _, _ => by rw [SmallL]; trivial
  | x :: l, lv, h, hl => by
    rw [GoodL] at h
    rw [encL] at hl
    simp only [List.length_append] at hl
    rw [SmallL]
    exact ⟨Good.small h.1 (by omega), GoodL.small h.2 (by omega)⟩
end
theorem spend_le {x : Itm} {lv : Nat} (h : nodeOk x lv = true) : spendP x ≤ x.bytes.length + 9 := by
  unfold spendP
  split
  · have := floatB_length x.n; omega
  split
  · split <;> omega
  · have := (headB_le x.kind.toNat (numP x)).2; omega
mutual
/-- A bound on the bytes, by the count. -/
theorem Good.bytes : ∀ {x : Itm} {lv : Nat}, Good x lv → Small x → (encB x).length ≤ cnt x * 4105
  | .mk k n bs l, lv, h, hs => by
    have h1 := node_enc h.node
    have h2 := spend_le h.node
    have h3 := h.items
    have h4 := cnt_eq (.mk k n bs l)
    rw [Small] at hs
    simp only [Itm.items, Itm.bytes] at *
    have := GoodL.bytes h3 hs.2
    omega
theorem GoodL.bytes : ∀ {l : List Itm} {lv : Nat}, GoodL l lv → SmallL l → (encL l).length ≤ cntL l * 4105
  | [], _, _, _ => by rw [encL, cntL]; simp
  | x :: l, lv, h, hs => by
    rw [GoodL] at h
    rw [SmallL] at hs
    rw [encL, cntL]
    have h1 := Good.bytes h.1 hs.1
    have h2 := GoodL.bytes h.2 hs.2
    simp only [List.length_append]
    omega
end
/-- The references' validity. -/
def validR (x : Itm) : Bool := (leftP x 256 0).isSome && decide ((encB x).length ≤ 4096)
theorem validR_eq (x : Itm) : validR x = validP x := by
  rw [Bool.eq_iff_iff, validP_iff]
  constructor
  · intro h
    simp only [validR, Bool.and_eq_true, decide_eq_true_eq] at h
    obtain ⟨r, hr⟩ := Option.isSome_iff_exists.1 h.1
    obtain ⟨h1, h2, h3⟩ := left_spec _ _ _ _ hr
    exact ⟨h1, by omega, h.2⟩
  · rintro ⟨h1, h2, h3⟩
    simp only [validR, Bool.and_eq_true, decide_eq_true_eq]
    rw [good_left x 256 0 h1 (h1.small h3) h2]
    exact ⟨rfl, h3⟩
end Go.Proofs.YtebcnkelbicbnaaDoor
namespace Go.Proofs.YtebcnkelbicbnaaDoor
open Go.RowKit

theorem cmp_refl : ∀ a : List UInt8, Lib.compareBytes a a = 0
  | [] => by rw [Lib.compareBytes]
  | x :: a => by rw [Lib.compareBytes, if_neg (UInt8.lt_irrefl x), if_neg (UInt8.lt_irrefl x)]; exact cmp_refl a
theorem cmp_trans : ∀ a b c : List UInt8, Lib.compareBytes a b < 0 → Lib.compareBytes b c < 0 → Lib.compareBytes a c < 0
  | [], [], c, h, _ => by rw [Lib.compareBytes] at h; omega
  | [], y :: b, [], _, h => by rw [Lib.compareBytes] at h; omega
  | [], y :: b, z :: c, _, _ => by rw [Lib.compareBytes]; omega
  | x :: a, [], c, h, _ => by rw [Lib.compareBytes] at h; omega
  | x :: a, y :: b, [], _, h => by rw [Lib.compareBytes] at h; omega
  | x :: a, y :: b, z :: c, h, k => by
    rw [Lib.compareBytes] at h k ⊢
    by_cases h1 : x < y
    · by_cases h2 : y < z
      · have h3 : x < z := UInt8.lt_trans h1 h2
        rw [if_pos h3]; omega
      · rw [if_neg h2] at k
        by_cases h3 : z < y
        · rw [if_pos h3] at k; omega
        · have e : y = z := UInt8.toNat_inj.1 (by rw [UInt8.lt_iff_toNat_lt] at h2 h3; omega)
          subst e
          rw [if_pos h1]; omega
    · rw [if_neg h1] at h
      by_cases h2 : y < x
      · rw [if_pos h2] at h; omega
      · rw [if_neg h2] at h
        have e : x = y := UInt8.toNat_inj.1 (by rw [UInt8.lt_iff_toNat_lt] at h1 h2; omega)
        subst e
        by_cases h3 : x < z
        · rw [if_pos h3]; omega
        · rw [if_neg h3] at k ⊢
          by_cases h4 : z < x
          · rw [if_pos h4] at k; omega
          · rw [if_neg h4] at k ⊢
            exact cmp_trans a b c h k

/-- The pairs of a map. -/
def pairsOf : List Itm → List (Itm × Itm)
  | a :: b :: r => (a, b) :: pairsOf r
  | _ => []
mutual
/-- Are two items the same? -/
def sameB : Itm → Itm → Bool
  | .mk k n bs l, .mk k' n' bs' l' => k == k' && n == n' && bs == bs' && sameL l l'
def sameL : List Itm → List Itm → Bool
  | [], [] => true
  | x :: l, y :: m => sameB x y && sameL l m
  | _, _ => false
end
mutual
theorem sameB_iff : ∀ (x y : Itm), sameB x y = true ↔ x = y
  | .mk k n bs l, .mk k' n' bs' l' => by
    rw [sameB]
    simp only [Bool.and_eq_true, beq_iff_eq, sameL_iff l l', Itm.mk.injEq, and_assoc]
theorem sameL_iff : ∀ (l m : List Itm), sameL l m = true ↔ l = m
  | [], [] => by simp [sameL]
  | [], y :: m => by simp [sameL]
  | x :: l, [] => by simp [sameL]
  | x :: l, y :: m => by
    rw [sameL]
    simp only [Bool.and_eq_true, sameB_iff x y, sameL_iff l m, List.cons.injEq]
end
end Go.Proofs.YtebcnkelbicbnaaDoor
namespace Go.Proofs.YtebcnkelbicbnaaDoor
open Go.RowKit

section
variable {P : Program} {ops : Array Oper} {Q : Exit → Act → World → Prop} {md : Region.Mode} {S : World → Prop} {z : Nat}

/-- Whatever comes up next: behind each operation but z, S holds. -/
def Ways (P : Program) (md : Region.Mode) (ops : Array Oper) (Q : Exit → Act → World → Prop) (S : World → Prop) (z : Nat) : Nat → Array Bool → Act → World → Prop
  | 0, L, a, w => Region.ready md ops L = [] ∧ Q .normal a w
  | n + 1, L, a, w => (Region.ready md ops L = [] → Q .normal a w) ∧
      ∀ i ∈ Region.ready md ops L, wpOp P ops Q i (fun a' w' => (i ≠ z → S w') ∧ Ways P md ops Q S z n (L.setIfInBounds i true) a' w') a w
theorem Ways.any : ∀ (n : Nat) (L : Array Bool) (a : Act) (w : World), Ways P md ops Q S z n L a w → wpAny P md ops Q n L a w
  | 0, _, _, _, h => h
  | n + 1, _, _, _, h => ⟨h.1, fun i hi => wpOp_mono (fun a' w' k => Ways.any n _ a' w' k.2) (h.2 i hi)⟩

/-- What has come up is closed: what it waits for has come up. -/
def Closed (md : Region.Mode) (ops : Array Oper) (L : Array Bool) : Prop :=
  ∀ (j : Nat) (o : Oper), ops[j]? = some o → L.getD j false = true → ∀ e ∈ o.after, Region.binds md e = true → L.getD e.on false = true
theorem Closed.step {L : Array Bool} (h : Closed md ops L) {i : Nat} (hi : i ∈ Region.ready md ops L) : Closed md ops (L.setIfInBounds i true) := by
  intro j o ho hj e he hb
  obtain ⟨_, oi, hoi, hall⟩ := mem_ready.1 hi
  by_cases hij : i = j
  · subst hij
    rw [ho] at hoi
    cases hoi
    exact getD_set_true (hall e he hb)
  · rw [getD_set_ne false hij] at hj
    exact getD_set_true (h j o ho hj e he hb)
/-- z cannot come up before i. -/
def Later (md : Region.Mode) (ops : Array Oper) (z i : Nat) : Prop := ∀ L, Closed md ops L → L.getD i true = false → z ∉ Region.ready md ops L
/-- A chain of edges from k down to i. -/
def chain (md : Region.Mode) (ops : Array Oper) : Nat → Nat → Nat → Bool
  | 0, k, i => k == i
  | n + 1, k, i => k == i || match ops[k]? with
    | some o => o.after.any fun e => Region.binds md e && chain md ops n e.on i
    | none => false
theorem chain_listed : ∀ (n k i : Nat) (L : Array Bool), Closed md ops L → chain md ops n k i = true → L.getD k false = true → L.getD i false = true
  | 0, k, i, L, _, h, hk => by
    have : k = i := by simpa [chain] using h
    exact this ▸ hk
  | n + 1, k, i, L, hc, h, hk => by
    unfold chain at h
    rw [Bool.or_eq_true] at h
    rcases h with h | h
    · have : k = i := by simpa using h
      exact this ▸ hk
    · cases ho : ops[k]? with
      | none => rw [ho] at h; cases h
      | some o =>
        rw [ho] at h
        obtain ⟨e, he, hb⟩ := Array.any_eq_true'.1 h
        rw [Bool.and_eq_true] at hb
        exact chain_listed n e.on i L hc hb.2 (hc k o ho hk e he hb.1)
theorem later_of {i : Nat} (n : Nat) (h : (match ops[z]? with | some o => o.after.any fun e => Region.binds md e && chain md ops n e.on i | none => false) = true) : Later md ops z i := by
  intro L hc hi hz
  obtain ⟨_, o, ho, hall⟩ := mem_ready.1 hz
  rw [ho] at h
  obtain ⟨e, he, hb⟩ := Array.any_eq_true'.1 h
  rw [Bool.and_eq_true] at hb
  have h1 := chain_listed n e.on i L hc hb.2 (hall e he hb.1)
  rcases Nat.lt_or_ge i L.size with h' | h'
  · simp [h'] at hi h1
    rw [hi] at h1
    cases h1
  · simp [Array.getElem?_eq_none h'] at hi

theorem Ways.first {i : Nat} {oi : Oper} {v : Value} (hi : ops[i]? = some oi) (hsel : ∀ (j : Nat) (o : Oper) cs b, ops[j]? = some o → o.op ≠ .select cs b)
    (hQ : ∀ c a w, Q (.panic c) (a.put oi.dst v) w → Q (.panic c) a w) (hz : Later md ops z i) (hiz : i ≠ z) :
    ∀ (n : Nat) (L : Array Bool) (a : Act) (w : World), Closed md ops L →
      (∀ j oj, ops[j]? = some oj → j ≠ i → L.getD j true = false → (∀ e ∈ oj.after, Region.binds md e = true → e.on ≠ i) → oi.apart ops oj = true) →
      i ∈ Region.ready md ops L → YieldsIf P ops S oi v a → S w →
      Ways P md ops Q S z n (L.setIfInBounds i true) (a.put oi.dst v) w → Ways P md ops Q S z (n + 1) L a w := by
  intro n
  induction n with
  | zero =>
    intro L a w _ _ hr hy hS H
    refine ⟨fun h => (by rw [h] at hr; cases hr), fun j hj => ?_⟩
    by_cases hji : j = i
    · subst hji; exact hy.wpOp hi hS ⟨fun _ => hS, H⟩
    · have := ready_mono hj hji
      rw [H.1] at this
      cases this
  | succ n ih =>
    intro L a w hcl hfree hr hy hS H
    refine ⟨fun h => (by rw [h] at hr; cases hr), fun j hj => ?_⟩
    by_cases hji : j = i
    · subst hji; exact hy.wpOp hi hS ⟨fun _ => hS, H⟩
    have hjz : j ≠ z := fun h => hz L hcl (mem_ready.1 hr).1 (h ▸ hj)
    have h1 := H.2 j (ready_mono hj hji)
    obtain ⟨hjun, oj, hoj, hall⟩ := mem_ready.1 hj
    have hnot : ∀ e ∈ oj.after, Region.binds md e = true → e.on ≠ i := fun e he hb heq => by
      have h1 := hall e he hb
      have h0 := (mem_ready.1 hr).1
      rw [heq] at h1
      rcases Nat.lt_or_ge i L.size with h' | h'
      · simp [h'] at h0 h1; rw [h0] at h1; cases h1
      · simp [Array.getElem?_eq_none h'] at h1
    have h2 := wpOp_putIf hoj (hfree j oj hoj hji hjun hnot) (fun cs b => hsel i oi cs b hi) (fun cs b => hsel j oj cs b hoj) hQ hy h1
    refine wpOp_mono (fun a' w' h3 => ?_) h2
    obtain ⟨hy', hSw, hW⟩ := h3
    refine ⟨fun _ => hSw hjz, ih (L.setIfInBounds j true) a' w' (hcl.step hj) ?_ (ready_mono hr (Ne.symm hji)) hy' (hSw hjz) ?_⟩
    · intro k ok hk hki hun hno
      refine hfree k ok hk hki ?_ hno
      by_cases hjk : j = k
      · subst hjk; exact hjun
      · rw [getD_set_ne true hjk] at hun; exact hun
    · rw [Array.setIfInBounds_comm _ _ hji]
      exact hW

def closedB (md : Region.Mode) (ops : Array Oper) (L : Array Bool) : Bool :=
  (List.range ops.size).all fun j => !(L.getD j false) || match ops[j]? with
    | some o => o.after.all fun e => !(Region.binds md e) || L.getD e.on false
    | none => true
theorem closedB_spec {L : Array Bool} (h : closedB md ops L = true) : Closed md ops L := by
  intro j o ho hj e he hb
  have hjl : j < ops.size := (Array.getElem?_eq_some_iff.1 ho).1
  have h1 := List.all_eq_true.1 h j (List.mem_range.2 hjl)
  rw [hj, ho] at h1
  simp only [Bool.not_true, Bool.false_or] at h1
  have h2 := Array.all_eq_true'.1 h1 e he
  rw [hb] at h2
  simpa using h2

/-- Operation i, which yields v in every world that meets S, first. -/
theorem Ways.take {i : Nat} {oi : Oper} {v : Value} {n : Nat} {L : Array Bool} {a : Act} {w : World} (hi : ops[i]? = some oi)
    (hs : (Region.noSelect ops && (Region.free md ops L i && ((Region.ready md ops L).contains i && (closedB md ops L && (i != z && (match ops[z]? with | some o => o.after.any fun e => Region.binds md e && chain md ops 8 e.on i | none => false)))))) = true)
    (hQ : ∀ c a w, Q (.panic c) (a.put oi.dst v) w → Q (.panic c) a w) (hy : YieldsIf P ops S oi v a) (hS : S w)
    (h : Ways P md ops Q S z n (L.setIfInBounds i true) (a.put oi.dst v) w) : Ways P md ops Q S z (n + 1) L a w := by
  simp only [Bool.and_eq_true] at hs
  obtain ⟨h1, h2, h3, h4, h5, h6⟩ := hs
  exact Ways.first hi (Region.noSelect_spec h1) hQ (later_of 8 h6) (by simpa using h5) n L a w (closedB_spec h4) (Region.free_spec hi h2) (by simpa using h3) hy hS h
/-- The one operation that may come up now. -/
theorem Ways.one {i : Nat} {o : Oper} {n : Nat} {L : Array Bool} {a : Act} {w : World} (hi : ops[i]? = some o) (hr : Region.ready md ops L = [i])
    (h : ∀ K : Act → World → Prop, Shut (∀ a w, (i ≠ z → S w) → ((i ≠ z → S w) → Ways P md ops Q S z n (L.setIfInBounds i true) a w) → K a w) →
      if Region.wanted o (yielded ops a.tmps) = true then Oper.wp P o a w K Q else K (a.put o.dst undef) w) : Ways P md ops Q S z (n + 1) L a w := by
  refine ⟨fun h0 => (by rw [hr] at h0; cases h0), fun j hj => ?_⟩
  rw [hr] at hj
  have hji : j = i := by simpa using hj
  subst hji
  exact wpOp_step hi fun K hK => h K fun a w hS hW => hK a w ⟨hS, hW hS⟩
/-- One of two. -/
theorem Ways.two {i j : Nat} {o o' : Oper} {n : Nat} {L : Array Bool} {a : Act} {w : World} (hi : ops[i]? = some o) (hj : ops[j]? = some o') (hr : Region.ready md ops L = [i, j])
    (h : ∀ K : Act → World → Prop, Shut (∀ a w, (i ≠ z → S w) → ((i ≠ z → S w) → Ways P md ops Q S z n (L.setIfInBounds i true) a w) → K a w) →
      if Region.wanted o (yielded ops a.tmps) = true then Oper.wp P o a w K Q else K (a.put o.dst undef) w)
    (h' : ∀ K : Act → World → Prop, Shut (∀ a w, (j ≠ z → S w) → ((j ≠ z → S w) → Ways P md ops Q S z n (L.setIfInBounds j true) a w) → K a w) →
      if Region.wanted o' (yielded ops a.tmps) = true then Oper.wp P o' a w K Q else K (a.put o'.dst undef) w) : Ways P md ops Q S z (n + 1) L a w := by
  refine ⟨fun h0 => (by rw [hr] at h0; cases h0), fun k hk => ?_⟩
  rw [hr] at hk
  rcases (by simpa using hk : k = i ∨ k = j) with hk | hk
  · subst hk
    exact wpOp_step hi fun K hK => h K fun a w hS hW => hK a w ⟨hS, hW hS⟩
  · subst hk
    exact wpOp_step hj fun K hK => h' K fun a w hS hW => hK a w ⟨hS, hW hS⟩
theorem Ways.done {L : Array Bool} {a : Act} {w : World} {n : Nat} (hr : Region.ready md ops L = []) (h : Q .normal a w) : Ways P md ops Q S z n L a w := by
  cases n with
  | zero => exact ⟨hr, h⟩
  | succ n => exact ⟨fun _ => h, by rw [hr]; simp⟩
theorem wp_region_ways {id : Nat} {a : Act} {w : World} (z : Nat) (S : World → Prop) (hm : P.follows .mixedOrders = true) (hS : S w.drew)
    (h : S w.drew → Ways P .any ops Q S z ops.size (Array.replicate ops.size false) a w.drew) : (Code.region id ops true).wp P Q a w :=
  wp_region_any hm (Ways.any _ _ _ _ (h hS))
end
end Go.Proofs.YtebcnkelbicbnaaDoor
