/- Walks: cbor.Uint, Int, Bytes, Text. A region that draws its order, whose last operation may write what its loads read: all others keep S. Two ways of counting an item's parts agree: plain mathematics. Walks: the references' Raw. The two readings of header parameters agree: plain mathematics. The two readings of header parameters agree, second part: plain mathematics. Floats: the bits of a float64, and when it equals itself. -/
import Derived.Test.YtebcnkelbicbnaaGreatDoorM01
import Derived.Laws.IdiomStrings
import Derived.Test.YtebcnkelbicbnaaGreatDoorM00
import Derived.Deep.RegionHeld
import Derived.Laws.Externs
import Derived.Laws.FloatArith
set_option linter.unusedVariables false
set_option linter.unusedSimpArgs false
namespace Go.Proofs.YtebcnkelbicbnaaGreatDoor
open Go.RowKit

theorem IsItem.plain (H : Snap) (k : Int) (n : Nat) (hk : -9223372036854775808 ≤ k ∧ k ≤ 9223372036854775807) (hn : n < 18446744073709551616) : IsItem H none 0 none 0 (.mk k n [] []) := by
  rw [IsItem]
  exact ⟨⟨hk.1, hk.2, hn, Nat.le_refl _, by omega⟩, IsBytes.nil H, fun h => absurd h (by simp)⟩
theorem Gives.plain {w w' : World} {H : Snap} {k n : Int} {m : Nat} (hH : Holds w H) (hb : Below w.heap.size w w') (hk : -9223372036854775808 ≤ k ∧ k ≤ 9223372036854775807) (hm : m < 18446744073709551616) (hn : n = (m : Int)) :
    Gives w H (.mk k m [] []) (.agg #[.int .i64 k, .int .u64 n, .slice none 0 0, .slice none 0 0]) w' := by
  subst hn
  exact ⟨none, 0, none, 0, H, rfl, Grows.of_below hH hb, IsItem.plain H k m hk hm⟩
theorem Fresh.gives {w w1 : World} {H : Snap} {l : List UInt8} {r : Value} {k : Int} (hH : Holds w H) (h : Fresh w l r w1) (hk : -9223372036854775808 ≤ k ∧ k ≤ 9223372036854775807) :
    Gives w H (.mk k 0 l []) (.agg #[.int .i64 k, .int .u64 0, r, .slice none 0 0]) w1 := by
  obtain ⟨A, c, rfl, _⟩ := h.own.form
  obtain ⟨H', hl, hh, hf, _, hi⟩ := h.own.snap (hH.below h.2 (Nat.le_refl _)) (fun g hg => hH.none_of_ge (h.own.lt g (by cases A <;> simp_all [Value.ownBlock])).1)
  refine ⟨A, c, none, 0, H', rfl, ⟨h.2, hl, hh, fun b o hb => ?_⟩, ?_⟩
  · rcases hf b o hb with h1 | h1
    · exact .inl h1
    · exact .inr (h.own.lt b (by cases A <;> simp_all [Value.ownBlock])).1
  · rw [IsItem]
    exact ⟨⟨hk.1, hk.2, by omega, Nat.le_refl _, by omega⟩, hi, fun h => absurd h (by simp)⟩

theorem Grows.own {w wA w1 w' : World} {H H' : Snap} {g : Nat} (hA : Below w.heap.size w wA) (hH : Holds w H) (h : Grows wA H w1 H') (hg : w1.grownBy w' (some g)) (h1 : w.heap.size ≤ g) (h2 : g < wA.heap.size) : Grows w H w' H' :=
  ⟨(hA.trans (h.below.mono hA.size)).grown hg (Nat.le_trans hA.size h.below.size) (by rintro k ⟨⟩; exact h1), h.le, h.holds.grown hg (by rintro k ⟨⟩; exact h.none (hH.none_of_ge h1) h2), fun b o hb => by
    rcases h.fresh b o hb with h | h
    · exact .inl h
    · exact .inr (Nat.le_trans hA.size h)⟩
/-- A store into a block of the call's own keeps what is given: the block is not among the data. -/
theorem Gives.own {w wA w1 w' : World} {H : Snap} {x : Itm} {v : Value} {g : Nat} (hA : Below w.heap.size w wA) (hH : Holds w H) (h : Gives wA H x v w1) (hg : w1.grownBy w' (some g)) (h1 : w.heap.size ≤ g) (h2 : g < wA.heap.size) : Gives w H x v w' := by
  obtain ⟨ba, bc, ia, ic, H', e, hG, hi⟩ := h
  exact ⟨ba, bc, ia, ic, H', e, hG.own hA hH hg h1 h2, hi⟩
theorem one4 (a b c d : Value) (ha : a.oneCell' = true) (hb : b.oneCell' = true) (hc : c.oneCell' = true) (hd : d.oneCell' = true) : (#[a, b, c, d] : Array Value).all (·.oneCell') = true := by simp [ha, hb, hc, hd]

set_option maxRecDepth 100000 in
theorem cbor_Uint (n : Nat) (hn : n < 18446744073709551616) {H : Snap} (w : World) (hH : Holds w H) :
    Calls Tryz.prog 86 #[.int .u64 n] w fun e w' => ∃ v, e = .returned v ∧ Gives w H (.mk 0 n [] []) v w' := by
  have HN := Lib.hid hn
  clear hn
  go_enter Tryz.func86, Tryz.ntmps86
  go_wp2_with fail
  refine ret_row rfl rfl (Blk.new _ _ _) rfl rfl size_item rfl ?_
  exact ⟨_, rfl, Gives.plain hH (below_box _ _) (by omega) HN.out rfl⟩

set_option maxRecDepth 100000 in
theorem cbor_Int (n : Int) (h1 : -9223372036854775808 ≤ n) (h2 : n ≤ 9223372036854775807) {H : Snap} (w : World) (hH : Holds w H) :
    Calls Tryz.prog 67 #[.int .i64 n] w fun e w' => ∃ v, e = .returned v ∧ Gives w H (intP n) v w' := by
  by_cases h0 : n < 0
  · have E : Hid (intP n = .mk 1 (-1 - n).toNat [] [] ∧ (-1 - n).toNat < 18446744073709551616 ∧ -1 - n = ((-1 - n).toNat : Int)) := ⟨by rw [intP, if_pos h0], by omega, by omega⟩
    have K1 : IntKind.u64.wrap (-1 - n) = -1 - n := by rw [IntKind.wrap_u64]; omega
    have K0 : IntKind.i64.wrap (-1 - n) = -1 - n := IntWalk.i64_in _ (by omega)
    clear h1 h2
    go_enter Tryz.func67, Tryz.ntmps67
    go_wp2_with fail
    refine ret_row rfl rfl (Blk.new _ _ _) rfl rfl size_item rfl ?_
    rw [E.out.1]
    exact ⟨_, rfl, Gives.plain hH (below_box _ _) (by omega) E.out.2.1 E.out.2.2⟩
  · have E : Hid (intP n = .mk 0 n.toNat [] [] ∧ n.toNat < 18446744073709551616 ∧ n = (n.toNat : Int)) := ⟨by rw [intP, if_neg h0], by omega, by omega⟩
    have K1 : IntKind.u64.wrap n = n := by rw [IntKind.wrap_u64]; omega
    have U := Lib.hid (cbor_Uint n.toNat E.out.2.1 (w.alloc (.cells #[.int .i64 0, .int .u64 0, .slice none 0 0, .slice none 0 0] 26)) (hH.alloc _))
    rw [← E.out.2.2] at U
    have hn := Int.not_lt.1 h0
    clear h1 h2 h0
    go_enter Tryz.func67, Tryz.ntmps67
    go_wp2_with fail
    refine U.out.mono ?_
    rintro e w1 ⟨v, rfl, hg⟩
    have HG := Lib.hid hg
    obtain ⟨ba, bc, ia, ic, H', rfl, hg, hi⟩ := hg
    have hB := (Blk.new w 26 #[.int .i64 0, .int .u64 0, .slice none 0 0, .slice none 0 0]).below hg.below
    go_wp2_with (with_reducible refine stop_store ?_)
    unfold Stopped
    refine wpList_store_item rfl _ _ _ rfl rfl _ _ rfl rfl _ _ hB size_item rfl (one4 _ _ _ _ rfl rfl rfl rfl) fun w2 hB2 hG2 => ?_
    go_wp2_with fail
    refine ret_row rfl rfl hB2 rfl rfl size_item rfl ?_
    rw [E.out.1]
    exact ⟨_, rfl, HG.out.own (below_box _ _) hH hG2 (Nat.le_refl _) (by simp)⟩

set_option maxRecDepth 100000 in
theorem cbor_Bytes {A : Option Addr} {n c : Nat} {l : List UInt8} (hn : n = l.length) (hl : l.length ≤ 1099511627776) {H : Snap} (w : World) (hs : Src w A (l.map byteV)) (hH : Holds w H) :
    Calls Tryz.prog 69 #[.slice A n c] w fun e w' => ∃ v, e = .returned v ∧ Gives w H (.mk 2 0 l []) v w' := by
  have C := Lib.hid (slices_Clone (w.alloc (.cells #[.int .i64 0, .int .u64 0, .slice none 0 0, .slice none 0 0] 26)) A l n c hn hl (hs.alloc _))
  clear hn
  go_enter Tryz.func69, Tryz.ntmps69
  go_wp2_with fail
  refine C.out.mono ?_
  rintro e w1 ⟨r, rfl, hf⟩
  have hB := (Blk.new w 26 #[.int .i64 0, .int .u64 0, .slice none 0 0, .slice none 0 0]).below hf.2
  have HF := Lib.hid (hf.gives (k := 2) (hH.alloc (.cells #[.int .i64 0, .int .u64 0, .slice none 0 0, .slice none 0 0] 26)) (by omega))
  obtain ⟨A', c', rfl, _⟩ := hf.own.form
  go_wp2_with (with_reducible refine stop_store ?_)
  unfold Stopped
  refine wpList_store_item rfl _ _ _ rfl rfl _ _ rfl rfl _ _ hB size_item rfl (one4 _ _ _ _ rfl rfl rfl rfl) fun w2 hB2 hG2 => ?_
  go_wp2_with fail
  refine ret_row rfl rfl hB2 rfl rfl size_item rfl ?_
  exact ⟨_, rfl, HF.out.own (below_box _ _) hH hG2 (Nat.le_refl _) (by simp)⟩

end Go.Proofs.YtebcnkelbicbnaaGreatDoor
namespace Go.Proofs.YtebcnkelbicbnaaGreatDoor
open Go.RowKit

section
variable {P : Program} {ops : Array Oper} {Q : Exit → Act → World → Prop} {md : Region.Mode} {S : World → Prop} {z : Nat}

/-- Whatever comes up next: behind each operation but z, S holds. -/
def Ways (P : Program) (md : Region.Mode) (ops : Array Oper) (Q : Exit → Act → World → Prop) (S : World → Prop) (z : Nat) : Nat → Array Bool → Act → World → Prop
  | 0, L, a, w => Region.ready md ops L = [] ∧ Q .normal a w
  | n + 1, L, a, w => (Region.ready md ops L = [] → Q .normal a w) ∧
      ∀ i ∈ Region.ready md ops L, wpOp P ops Q i (fun a' w' => (i ≠ z → S w') ∧ Ways P md ops Q S z n (L.setIfInBounds i true) a' w') a w
theorem Ways.any : ∀ (n : Nat) (L : Array Bool) (a : Act) (w : World), Ways P md ops Q S z n L a w → wpAny P md ops Q n L a w
  | 0, _, _, _, h => h
  | n + 1, _, _, _, h => ⟨h.1, fun i hi => wpOp_mono (fun a' w' k => Ways.any n _ a' w' k.2) (h.2 i hi)⟩

/-- What has come up is closed: what it waits for has come up. -/
def Closed (md : Region.Mode) (ops : Array Oper) (L : Array Bool) : Prop :=
  ∀ (j : Nat) (o : Oper), ops[j]? = some o → L.getD j false = true → ∀ e ∈ o.after, Region.binds md e = true → L.getD e.on false = true
theorem Closed.step {L : Array Bool} (h : Closed md ops L) {i : Nat} (hi : i ∈ Region.ready md ops L) : Closed md ops (L.setIfInBounds i true) := by
  intro j o ho hj e he hb
  obtain ⟨_, oi, hoi, hall⟩ := mem_ready.1 hi
  by_cases hij : i = j
  · subst hij
    rw [ho] at hoi
    cases hoi
    exact getD_set_true (hall e he hb)
  · rw [getD_set_ne false hij] at hj
    exact getD_set_true (h j o ho hj e he hb)
/-- z cannot come up before i. -/
def Later (md : Region.Mode) (ops : Array Oper) (z i : Nat) : Prop := ∀ L, Closed md ops L → L.getD i true = false → z ∉ Region.ready md ops L
/-- A chain of edges from k down to i. -/
def chain (md : Region.Mode) (ops : Array Oper) : Nat → Nat → Nat → Bool
  | 0, k, i => k == i
  | n + 1, k, i => k == i || match ops[k]? with
    | some o => o.after.any fun e => Region.binds md e && chain md ops n e.on i
    | none => false
theorem chain_listed : ∀ (n k i : Nat) (L : Array Bool), Closed md ops L → chain md ops n k i = true → L.getD k false = true → L.getD i false = true
  | 0, k, i, L, _, h, hk => by
    have : k = i := by simpa [chain] using h
    exact this ▸ hk
  | n + 1, k, i, L, hc, h, hk => by
    unfold chain at h
    rw [Bool.or_eq_true] at h
    rcases h with h | h
    · have : k = i := by simpa using h
      exact this ▸ hk
    · cases ho : ops[k]? with
      | none => rw [ho] at h; cases h
      | some o =>
        rw [ho] at h
        obtain ⟨e, he, hb⟩ := Array.any_eq_true'.1 h
        rw [Bool.and_eq_true] at hb
        exact chain_listed n e.on i L hc hb.2 (hc k o ho hk e he hb.1)
theorem later_of {i : Nat} (n : Nat) (h : (match ops[z]? with | some o => o.after.any fun e => Region.binds md e && chain md ops n e.on i | none => false) = true) : Later md ops z i := by
  intro L hc hi hz
  obtain ⟨_, o, ho, hall⟩ := mem_ready.1 hz
  rw [ho] at h
  obtain ⟨e, he, hb⟩ := Array.any_eq_true'.1 h
  rw [Bool.and_eq_true] at hb
  have h1 := chain_listed n e.on i L hc hb.2 (hall e he hb.1)
  rcases Nat.lt_or_ge i L.size with h' | h'
  · simp [h'] at hi h1
    rw [hi] at h1
    cases h1
  · simp [Array.getElem?_eq_none h'] at hi

theorem Ways.first {i : Nat} {oi : Oper} {v : Value} (hi : ops[i]? = some oi) (hsel : ∀ (j : Nat) (o : Oper) cs b, ops[j]? = some o → o.op ≠ .select cs b)
    (hQ : ∀ c a w, Q (.panic c) (a.put oi.dst v) w → Q (.panic c) a w) (hz : Later md ops z i) (hiz : i ≠ z) :
    ∀ (n : Nat) (L : Array Bool) (a : Act) (w : World), Closed md ops L →
      (∀ j oj, ops[j]? = some oj → j ≠ i → L.getD j true = false → (∀ e ∈ oj.after, Region.binds md e = true → e.on ≠ i) → oi.apart ops oj = true) →
      i ∈ Region.ready md ops L → YieldsIf P ops S oi v a → S w →
      Ways P md ops Q S z n (L.setIfInBounds i true) (a.put oi.dst v) w → Ways P md ops Q S z (n + 1) L a w := by
  intro n
  induction n with
  | zero =>
    intro L a w _ _ hr hy hS H
    refine ⟨fun h => (by rw [h] at hr; cases hr), fun j hj => ?_⟩
    by_cases hji : j = i
    · subst hji; exact hy.wpOp hi hS ⟨fun _ => hS, H⟩
    · have := ready_mono hj hji
      rw [H.1] at this
      cases this
  | succ n ih =>
    intro L a w hcl hfree hr hy hS H
    refine ⟨fun h => (by rw [h] at hr; cases hr), fun j hj => ?_⟩
    by_cases hji : j = i
    · subst hji; exact hy.wpOp hi hS ⟨fun _ => hS, H⟩
    have hjz : j ≠ z := fun h => hz L hcl (mem_ready.1 hr).1 (h ▸ hj)
    have h1 := H.2 j (ready_mono hj hji)
    obtain ⟨hjun, oj, hoj, hall⟩ := mem_ready.1 hj
    have hnot : ∀ e ∈ oj.after, Region.binds md e = true → e.on ≠ i := fun e he hb heq => by
      have h1 := hall e he hb
      have h0 := (mem_ready.1 hr).1
      rw [heq] at h1
      rcases Nat.lt_or_ge i L.size with h' | h'
      · simp [h'] at h0 h1; rw [h0] at h1; cases h1
      · simp [Array.getElem?_eq_none h'] at h1
    have h2 := wpOp_putIf hoj (hfree j oj hoj hji hjun hnot) (fun cs b => hsel i oi cs b hi) (fun cs b => hsel j oj cs b hoj) hQ hy h1
    refine wpOp_mono (fun a' w' h3 => ?_) h2
    obtain ⟨hy', hSw, hW⟩ := h3
    refine ⟨fun _ => hSw hjz, ih (L.setIfInBounds j true) a' w' (hcl.step hj) ?_ (ready_mono hr (Ne.symm hji)) hy' (hSw hjz) ?_⟩
    · intro k ok hk hki hun hno
      refine hfree k ok hk hki ?_ hno
      by_cases hjk : j = k
      · subst hjk; exact hjun
      · rw [getD_set_ne true hjk] at hun; exact hun
    · rw [Array.setIfInBounds_comm _ _ hji]
      exact hW

def closedB (md : Region.Mode) (ops : Array Oper) (L : Array Bool) : Bool :=
  (List.range ops.size).all fun j => !(L.getD j false) || match ops[j]? with
    | some o => o.after.all fun e => !(Region.binds md e) || L.getD e.on false
    | none => true
theorem closedB_spec {L : Array Bool} (h : closedB md ops L = true) : Closed md ops L := by
  intro j o ho hj e he hb
  have hjl : j < ops.size := (Array.getElem?_eq_some_iff.1 ho).1
  have h1 := List.all_eq_true.1 h j (List.mem_range.2 hjl)
  rw [hj, ho] at h1
  simp only [Bool.not_true, Bool.false_or] at h1
  have h2 := Array.all_eq_true'.1 h1 e he
  rw [hb] at h2
  simpa using h2

/-- Operation i, which yields v in every world that meets S, first. -/
theorem Ways.take {i : Nat} {oi : Oper} {v : Value} {n : Nat} {L : Array Bool} {a : Act} {w : World} (hi : ops[i]? = some oi)
    (hs : (Region.noSelect ops && (Region.free md ops L i && ((Region.ready md ops L).contains i && (closedB md ops L && (i != z && (match ops[z]? with | some o => o.after.any fun e => Region.binds md e && chain md ops 8 e.on i | none => false)))))) = true)
    (hQ : ∀ c a w, Q (.panic c) (a.put oi.dst v) w → Q (.panic c) a w) (hy : YieldsIf P ops S oi v a) (hS : S w)
    (h : Ways P md ops Q S z n (L.setIfInBounds i true) (a.put oi.dst v) w) : Ways P md ops Q S z (n + 1) L a w := by
  simp only [Bool.and_eq_true] at hs
  obtain ⟨h1, h2, h3, h4, h5, h6⟩ := hs
  exact Ways.first hi (Region.noSelect_spec h1) hQ (later_of 8 h6) (by simpa using h5) n L a w (closedB_spec h4) (Region.free_spec hi h2) (by simpa using h3) hy hS h
/-- The one operation that may come up now. -/
theorem Ways.one {i : Nat} {o : Oper} {n : Nat} {L : Array Bool} {a : Act} {w : World} (hi : ops[i]? = some o) (hr : Region.ready md ops L = [i])
    (h : ∀ K : Act → World → Prop, Shut (∀ a w, (i ≠ z → S w) → ((i ≠ z → S w) → Ways P md ops Q S z n (L.setIfInBounds i true) a w) → K a w) →
      if Region.wanted o (yielded ops a.tmps) = true then Oper.wp P o a w K Q else K (a.put o.dst undef) w) : Ways P md ops Q S z (n + 1) L a w := by
  refine ⟨fun h0 => (by rw [hr] at h0; cases h0), fun j hj => ?_⟩
  rw [hr] at hj
  have hji : j = i := by simpa using hj
  subst hji
  exact wpOp_step hi fun K hK => h K fun a w hS hW => hK a w ⟨hS, hW hS⟩
/-- One of two. -/
theorem Ways.two {i j : Nat} {o o' : Oper} {n : Nat} {L : Array Bool} {a : Act} {w : World} (hi : ops[i]? = some o) (hj : ops[j]? = some o') (hr : Region.ready md ops L = [i, j])
    (h : ∀ K : Act → World → Prop, Shut (∀ a w, (i ≠ z → S w) → ((i ≠ z → S w) → Ways P md ops Q S z n (L.setIfInBounds i true) a w) → K a w) →
      if Region.wanted o (yielded ops a.tmps) = true then Oper.wp P o a w K Q else K (a.put o.dst undef) w)
    (h' : ∀ K : Act → World → Prop, Shut (∀ a w, (j ≠ z → S w) → ((j ≠ z → S w) → Ways P md ops Q S z n (L.setIfInBounds j true) a w) → K a w) →
      if Region.wanted o' (yielded ops a.tmps) = true then Oper.wp P o' a w K Q else K (a.put o'.dst undef) w) : Ways P md ops Q S z (n + 1) L a w := by
  refine ⟨fun h0 => (by rw [hr] at h0; cases h0), fun k hk => ?_⟩
  rw [hr] at hk
  rcases (by simpa using hk : k = i ∨ k = j) with hk | hk
  · subst hk
    exact wpOp_step hi fun K hK => h K fun a w hS hW => hK a w ⟨hS, hW hS⟩
  · subst hk
    exact wpOp_step hj fun K hK => h' K fun a w hS hW => hK a w ⟨hS, hW hS⟩
theorem Ways.done {L : Array Bool} {a : Act} {w : World} {n : Nat} (hr : Region.ready md ops L = []) (h : Q .normal a w) : Ways P md ops Q S z n L a w := by
  cases n with
  | zero => exact ⟨hr, h⟩
  | succ n => exact ⟨fun _ => h, by rw [hr]; simp⟩
theorem wp_region_ways {id : Nat} {a : Act} {w : World} (z : Nat) (S : World → Prop) (hm : P.follows .mixedOrders = true) (hS : S w.drew)
    (h : S w.drew → Ways P .any ops Q S z ops.size (Array.replicate ops.size false) a w.drew) : (Code.region id ops true).wp P Q a w :=
  wp_region_any hm (Ways.any _ _ _ _ (h hS))
end
end Go.Proofs.YtebcnkelbicbnaaGreatDoor
namespace Go.Proofs.YtebcnkelbicbnaaGreatDoor
open Go.RowKit

/-- What a node may be at a level, its elements left aside. -/
def nodeOk (x : Itm) (lv : Nat) : Bool := if isPlain x = true then okPlain x else frameOk x lv
mutual
/-- An item whose form is right: sizes left aside. -/
def Good : Itm → Nat → Prop
  | .mk k n bs l, lv => nodeOk (.mk k n bs l) lv = true ∧ GoodL l (lv + 1) ∧ (k = 5 → ascP l = true)
def GoodL : List Itm → Nat → Prop
  | [], _ => True
  | x :: l, lv => Good x lv ∧ GoodL l lv
end
theorem Good.node {x : Itm} {lv : Nat} (h : Good x lv) : nodeOk x lv = true := by cases x; rw [Good] at h; exact h.1
theorem Good.items {x : Itm} {lv : Nat} (h : Good x lv) : GoodL x.items (lv + 1) := by cases x; rw [Good] at h; exact h.2.1
theorem Good.asc {x : Itm} {lv : Nat} (h : Good x lv) (h5 : x.kind = 5) : ascP x.items = true := by cases x; rw [Good] at h; exact h.2.2 h5
theorem Good.of {x : Itm} {lv : Nat} (h1 : nodeOk x lv = true) (h2 : GoodL x.items (lv + 1)) (h3 : x.kind = 5 → ascP x.items = true) : Good x lv := by cases x; rw [Good]; exact ⟨h1, h2, h3⟩
theorem GoodL.get : ∀ {l : List Itm} {lv : Nat}, GoodL l lv → ∀ x ∈ l, Good x lv
  | [], _, _, x, hx => by cases hx
  | y :: l, lv, h, x, hx => by
    rw [GoodL] at h
    rcases List.mem_cons.1 hx with rfl | hx
    · exact h.1
    · exact h.2.get x hx
/-- An item of a plain kind, or a frame. -/
theorem nodeOk_cases {x : Itm} {lv : Nat} (h : nodeOk x lv = true) : (isPlain x = true ∧ okPlain x = true) ∨ (isPlain x = false ∧ frameOk x lv = true) := by
  unfold nodeOk at h
  cases hp : isPlain x with
  | true => rw [if_pos hp] at h; exact .inl ⟨rfl, h⟩
  | false => rw [if_neg (by simp [hp])] at h; exact .inr ⟨rfl, h⟩
theorem nodeOk_kind {x : Itm} {lv : Nat} (h : nodeOk x lv = true) : 0 ≤ x.kind ∧ x.kind ≤ 8 := by
  rcases nodeOk_cases h with ⟨h1, _⟩ | ⟨_, h1⟩
  · rw [isPlain_iff] at h1; omega
  · have := frameOk_spec h1; omega
theorem frameOk_le {x : Itm} {lv lv' : Nat} (h : frameOk x lv = true) (hl : lv' ≤ lv) : frameOk x lv' = true := by
  obtain ⟨h1, h2, h3, h4⟩ := frameOk_spec h
  exact decide_eq_true ⟨h1, h2, by omega, h4⟩
theorem nodeOk_le {x : Itm} {lv lv' : Nat} (h : nodeOk x lv = true) (hl : lv' ≤ lv) : nodeOk x lv' = true := by
  rcases nodeOk_cases h with ⟨h1, h2⟩ | ⟨h1, h2⟩
  · rw [nodeOk, if_pos h1]; exact h2
  · rw [nodeOk, if_neg (by simp [h1])]; exact frameOk_le h2 hl
mutual
theorem Good.le : ∀ {x : Itm} {lv lv' : Nat}, Good x lv → lv' ≤ lv → Good x lv'
  | .mk k n bs l, lv, lv', h, hl => by
    rw [Good] at h ⊢
    exact ⟨nodeOk_le h.1 hl, GoodL.le h.2.1 (by omega), h.2.2⟩
theorem GoodL.le : ∀ {l : List Itm} {lv lv' : Nat}, GoodL l lv → lv' ≤ lv → GoodL l lv'
  | [], _, _, _, _ => by rw [GoodL]; trivial
  | x :: l, lv, lv', h, hl => by
    rw [GoodL] at h ⊢
    exact ⟨Good.le h.1 hl, GoodL.le h.2 hl⟩
end
theorem node_plain {x : Itm} {lv : Nat} (h : nodeOk x lv = true) (hp : isPlain x = true) : x.items = [] ∧ (x.kind = 8 ∨ x.kind = 7 → x.bytes = []) := by
  rcases nodeOk_cases h with ⟨_, h2⟩ | ⟨h1, _⟩
  · exact okPlain_items hp h2
  · rw [hp] at h1; cases h1
/-- The bytes of a node, with its elements behind it. -/
theorem node_enc {x : Itm} {lv : Nat} (h : nodeOk x lv = true) : (encB x).length = spendP x + (encL x.items).length := by
  cases hp : isPlain x with
  | true =>
    obtain ⟨h1, h2⟩ := node_plain h hp
    rw [← spend_enc x h1 h2, h1, encL]; simp
  | false =>
    rcases nodeOk_cases h with ⟨h1, _⟩ | ⟨_, h2⟩
    · rw [hp] at h1; cases h1
    · have hf := frameOk_spec h2
      rw [encB_eq, if_neg (by omega), if_neg (by omega), spend_mid x (by omega) (by omega)]
      simp; omega
theorem spend_bytes {x : Itm} {lv : Nat} (h : nodeOk x lv = true) : x.bytes.length ≤ spendP x := by
  by_cases h8 : x.kind = 8
  · have := (node_plain h ((isPlain_iff x).2 (by omega))).2 (by omega)
    rw [this]; simp
  by_cases h7 : x.kind = 7
  · have := (node_plain h ((isPlain_iff x).2 (by omega))).2 (by omega)
    rw [this]; simp
  rw [spend_mid x h8 h7]; omega
theorem cntL_len : ∀ l : List Itm, l.length ≤ cntL l
  | [] => by simp [cntL]
  | x :: l => by
    have := cntL_len l
    have h : 0 < cnt x := by cases x; rw [cnt]; omega
    rw [cntL]; simp; omega
theorem cnt_eq (x : Itm) : cnt x = cntL x.items + 1 := by cases x; rw [cnt]; rfl
mutual
theorem chk_good : ∀ (x : Itm) (lv i s : Nat) (p : Nat × Nat), chk x lv i s = some p → Good x lv
  | .mk k n bs l, lv, i, s, p, h => by
    rw [chk] at h
    split at h
    · cases h
    split at h
    · rename_i hp
      split at h
      · rename_i ho
        have hi := (okPlain_items hp ho.1).1
        have hk := (isPlain_iff _).1 hp
        simp only [Itm.items, Itm.kind] at hi hk
        subst hi
        rw [Good, GoodL]
        exact ⟨by rw [nodeOk, if_pos hp]; exact ho.1, trivial, fun h => by omega⟩
      · cases h
    rename_i hp
    split at h
    · cases h
    rename_i hf
    split at h
    · cases h
    split at h
    · cases h
    rename_i q hq
    split at h
    · cases h
    rename_i ha
    rw [Good]
    refine ⟨by rw [nodeOk, if_neg hp]; simpa using hf, chkL_good l _ _ _ _ hq, fun h5 => ?_⟩
    cases hs : ascP l with
    | true => rfl
    | false => exact absurd ⟨h5, hs⟩ ha
theorem chkL_good : ∀ (l : List Itm) (lv i s : Nat) (p : Nat × Nat), chkL l lv i s = some p → GoodL l lv
  | [], _, _, _, _, _ => by rw [GoodL]; trivial
  | x :: l, lv, i, s, p, h => by
    rw [chkL] at h
    split at h
    · cases h
    rename_i q hq
    rw [GoodL]
    exact ⟨chk_good x _ _ _ _ hq, chkL_good l _ _ _ _ h⟩
end
mutual
theorem good_chk : ∀ (x : Itm) (lv i s : Nat), Good x lv → i + cnt x ≤ 256 → s + (encB x).length ≤ 4096 → chk x lv i s = some (i + cnt x, s + (encB x).length)
  | .mk k n bs l, lv, i, s, h, hi, hs => by
    have hn := h.node
    have hit := h.items
    have has := h.asc
    have hsp := node_enc hn
    have hby := spend_bytes hn
    have hc := cnt_eq (.mk k n bs l)
    have hl := cntL_len l
    simp only [Itm.items, Itm.bytes, Itm.kind] at *
    rw [chk, if_neg (by omega)]
    rcases nodeOk_cases hn with ⟨h1, h2⟩ | ⟨h1, h2⟩
    · have h0 := (okPlain_items h1 h2).1
      simp only [Itm.items] at h0
      subst h0
      rw [encL] at hsp
      rw [cntL] at hc
      simp only [List.length_nil] at hsp
      rw [if_pos h1, if_pos ⟨h2, by omega⟩, hc, hsp]
      congr 2
    · rw [if_neg (by simp [h1]), if_neg (by simp [h2]), if_neg (by omega), goodL_chk l (lv + 1) (i + 1) _ hit (by omega) (by omega)]
      simp only
      rw [if_neg (by rintro ⟨h5, ha⟩; rw [has h5] at ha; cases ha)]
      congr 2 <;> omega
theorem goodL_chk : ∀ (l : List Itm) (lv i s : Nat), GoodL l lv → i + cntL l ≤ 256 → s + (encL l).length ≤ 4096 → chkL l lv i s = some (i + cntL l, s + (encL l).length)
  | [], lv, i, s, _, _, _ => by rw [chkL, cntL, encL]; rfl
  | x :: l, lv, i, s, h, hi, hs => by
    rw [GoodL] at h
    rw [cntL] at hi ⊢
    rw [encL] at hs ⊢
    simp only [List.length_append] at hs ⊢
    rw [chkL, good_chk x lv i s h.1 (by omega) (by omega)]
    simp only
    rw [goodL_chk l lv _ _ h.2 (by omega) (by omega)]
    congr 2 <;> omega
end
theorem validP_iff (x : Itm) : validP x = true ↔ Good x 0 ∧ cnt x ≤ 256 ∧ (encB x).length ≤ 4096 := by
  constructor
  · intro h
    obtain ⟨p, hp⟩ := Option.isSome_iff_exists.1 h
    have := validP_spec h
    exact ⟨chk_good _ _ _ _ _ hp, this.2.1, this.2.2⟩
  · rintro ⟨h1, h2, h3⟩
    rw [validP, good_chk x 0 0 0 h1 (by omega) (by omega)]
    rfl

mutual
/-- No byte string is too long. -/
def Small : Itm → Prop
  | .mk _ _ bs l => bs.length ≤ 4096 ∧ SmallL l
def SmallL : List Itm → Prop
  | [] => True
  | x :: l => Small x ∧ SmallL l
end
mutual
theorem Good.small : ∀ {x : Itm} {lv : Nat}, Good x lv → (encB x).length ≤ 4096 → Small x
  | .mk k n bs l, lv, h, hl => by
    have h1 := node_enc h.node
    have h2 := spend_bytes h.node
    have h3 := h.items
    simp only [Itm.items, Itm.bytes] at *
    rw [Small]
    exact ⟨by omega, GoodL.small h3 (by omega)⟩
theorem GoodL.small : ∀ {l : List Itm} {lv : Nat}, GoodL l lv → (encL l).length ≤ 4096 → SmallL l
  | [], _, _, _ => by rw [SmallL]; trivial
  | x :: l, lv, h, hl => by
    rw [GoodL] at h
    rw [encL] at hl
    simp only [List.length_append] at hl
    rw [SmallL]
    exact ⟨Good.small h.1 (by omega), GoodL.small h.2 (by omega)⟩
end
end Go.Proofs.YtebcnkelbicbnaaGreatDoor
namespace Go.Proofs.YtebcnkelbicbnaaGreatDoor
open Go.RowKit

theorem enc_num {x : Itm} {lv : Nat} (h : Good x lv) (hk : x.kind = 0 ∨ x.kind = 1) : encB x = headB x.kind.toNat x.n := by
  have ho := h.node
  rcases nodeOk_cases ho with ⟨h1, h2⟩ | ⟨h1, _⟩
  · have hi := (okPlain_items h1 h2).1
    have hb : x.bytes = [] := by simp [okPlain, hk] at h2; exact h2.1
    have hn : numP x = x.n := by unfold numP; rcases hk with h | h <;> simp [h]
    rw [encB_eq, if_neg (by omega), if_neg (by omega), hi, hb, encL, hn]
    simp
  · rw [(isPlain_iff x).2 (by omega)] at h1; cases h1
section
variable (x : Itm) {H : Snap} {ba : Option Addr} {bc : Nat} {ia : Option Addr} {ic : Nat} (w : World) (lv : Nat)
end
end Go.Proofs.YtebcnkelbicbnaaGreatDoor
namespace Go.Proofs.YtebcnkelbicbnaaGreatDoor
open Go.RowKit

theorem cmp_refl : ∀ a : List UInt8, Lib.compareBytes a a = 0
  | [] => by rw [Lib.compareBytes]
  | x :: a => by rw [Lib.compareBytes, if_neg (UInt8.lt_irrefl x), if_neg (UInt8.lt_irrefl x)]; exact cmp_refl a
theorem cmp_trans : ∀ a b c : List UInt8, Lib.compareBytes a b < 0 → Lib.compareBytes b c < 0 → Lib.compareBytes a c < 0
  | [], [], c, h, _ => by rw [Lib.compareBytes] at h; omega
  | [], y :: b, [], _, h => by rw [Lib.compareBytes] at h; omega
  | [], y :: b, z :: c, _, _ => by rw [Lib.compareBytes]; omega
  | x :: a, [], c, h, _ => by rw [Lib.compareBytes] at h; omega
  | x :: a, y :: b, [], _, h => by rw [Lib.compareBytes] at h; omega
  | x :: a, y :: b, z :: c, h, k => by
    rw [Lib.compareBytes] at h k ⊢
    by_cases h1 : x < y
    · by_cases h2 : y < z
      · have h3 : x < z := UInt8.lt_trans h1 h2
        rw [if_pos h3]; omega
      · rw [if_neg h2] at k
        by_cases h3 : z < y
        · rw [if_pos h3] at k; omega
        · have e : y = z := UInt8.toNat_inj.1 (by rw [UInt8.lt_iff_toNat_lt] at h2 h3; omega)
          subst e
          rw [if_pos h1]; omega
    · rw [if_neg h1] at h
      by_cases h2 : y < x
      · rw [if_pos h2] at h; omega
      · rw [if_neg h2] at h
        have e : x = y := UInt8.toNat_inj.1 (by rw [UInt8.lt_iff_toNat_lt] at h1 h2; omega)
        subst e
        by_cases h3 : x < z
        · rw [if_pos h3]; omega
        · rw [if_neg h3] at k ⊢
          by_cases h4 : z < x
          · rw [if_pos h4] at k; omega
          · rw [if_neg h4] at k ⊢
            exact cmp_trans a b c h k

/-- The first byte of an encoding. -/
def topB (x : Itm) : Nat := if x.kind = 8 then 7 else x.kind.toNat
theorem headB_cons (m n : Nat) : ∃ a t, headB m n = u8 (m * 32 + a) :: t ∧ a < 28 := by
  unfold headB
  repeat' split
  all_goals exact ⟨_, _, rfl, by omega⟩
theorem floatB_cons (n : Nat) : ∃ a t, floatB n = u8 (7 * 32 + a) :: t ∧ 25 ≤ a ∧ a < 28 := by
  unfold floatB
  repeat' split
  · exact ⟨25, _, rfl, by omega⟩
  · exact ⟨25, _, rfl, by omega⟩
  · exact ⟨26, _, rfl, by omega⟩
  · exact ⟨27, _, rfl, by omega⟩
theorem encB_cons (x : Itm) (h : 0 ≤ x.kind ∧ x.kind ≤ 8) : ∃ a t, encB x = u8 (topB x * 32 + a) :: t ∧ a < 28 := by
  rw [encB_eq, topB]
  by_cases h8 : x.kind = 8
  · obtain ⟨a, t, e, h1, h2⟩ := floatB_cons x.n
    rw [if_pos h8, if_pos h8]
    exact ⟨a, t, e, h2⟩
  rw [if_neg h8, if_neg h8]
  by_cases h7 : x.kind = 7 ∧ 24 ≤ x.n
  · rw [if_pos h7, h7.1]
    exact ⟨24, [u8 x.n], rfl, by omega⟩
  · rw [if_neg h7]
    obtain ⟨a, t, e, h2⟩ := headB_cons x.kind.toNat (numP x)
    rw [e]
    exact ⟨a, _, by rw [List.cons_append, List.cons_append], h2⟩
theorem top_eq {x y : Itm} (hx : 0 ≤ x.kind ∧ x.kind ≤ 8) (hy : 0 ≤ y.kind ∧ y.kind ≤ 8) {r s : List UInt8} (h : encB x ++ r = encB y ++ s) : topB x = topB y := by
  obtain ⟨a, t, e, ha⟩ := encB_cons x hx
  obtain ⟨b, v, f, hb⟩ := encB_cons y hy
  rw [e, f, List.cons_append, List.cons_append] at h
  injection h with h _
  have h' := congrArg UInt8.toNat h
  rw [u8_toNat, u8_toNat] at h'
  have h1 : topB x ≤ 7 := by unfold topB; split <;> omega
  have h2 : topB y ≤ 7 := by unfold topB; split <;> omega
  omega

theorem two_cons {a b c d : UInt8} {r s : List UInt8} (h : a :: b :: r = c :: d :: s) : a = c ∧ b = d ∧ r = s := by
  injection h with h1 h
  injection h with h2 h
  exact ⟨h1, h2, h⟩
theorem u8_eq {a b : Nat} (h : u8 a = u8 b) : a % 256 = b % 256 := by
  have := congrArg UInt8.toNat h
  rwa [u8_toNat, u8_toNat] at this
def headX (n : Nat) : Nat := if n < 24 then n else if n < 256 then 24 else if n < 65536 then 25 else if n < 4294967296 then 26 else 27
def headY (n : Nat) : List UInt8 := if n < 24 then [] else if n < 256 then [u8 n] else if n < 65536 then [u8 (n / 256), u8 n] else if n < 4294967296 then [u8 (n / 16777216), u8 (n / 65536), u8 (n / 256), u8 n] else be8 n 8
theorem headB_XY (m n : Nat) : headB m n = u8 (m * 32 + headX n) :: headY n := by
  unfold headB headX headY
  repeat' split
  all_goals rfl
theorem headX_lt (n : Nat) : headX n < 28 := by
  unfold headX
  repeat' split
  all_goals omega
theorem headY_len (n : Nat) : (headY n).length = if headX n < 24 then 0 else if headX n = 24 then 1 else if headX n = 25 then 2 else if headX n = 26 then 4 else 8 := by
  unfold headX headY
  by_cases h1 : n < 24
  · simp [h1]
  by_cases h2 : n < 256
  · simp [h1, h2]
  by_cases h3 : n < 65536
  · simp [h1, h2, h3]
  by_cases h4 : n < 4294967296
  · simp [h1, h2, h3, h4]
  · simp [h1, h2, h3, h4, be8_length]
theorem be8_eq {n m : Nat} (hn : n < 18446744073709551616) (hm : m < 18446744073709551616) (h : be8 n 8 = be8 m 8) : n = m := by
  simp only [be8, List.nil_append, List.cons_append, List.cons.injEq] at h
  obtain ⟨h0, h1, h2, h3, h4, h5, h6, h7, _⟩ := h
  have h0 := u8_eq h0
  have h1 := u8_eq h1
  have h2 := u8_eq h2
  have h3 := u8_eq h3
  have h4 := u8_eq h4
  have h5 := u8_eq h5
  have h6 := u8_eq h6
  have h7 := u8_eq h7
  simp only [Nat.reduceMul, Nat.reduceSub, Nat.reducePow, Nat.sub_zero, Nat.mul_zero] at *
  have g0 : n / 72057594037927936 = m / 72057594037927936 := by omega
  have g1 : n / 281474976710656 = m / 281474976710656 := by omega
  have g2 : n / 1099511627776 = m / 1099511627776 := by omega
  have g3 : n / 4294967296 = m / 4294967296 := by omega
  have g4 : n / 16777216 = m / 16777216 := by omega
  have g5 : n / 65536 = m / 65536 := by omega
  have g6 : n / 256 = m / 256 := by omega
  omega
theorem headY_eq {n m : Nat} (hn : n < 18446744073709551616) (hm : m < 18446744073709551616) (hx : headX n = headX m) (h : headY n = headY m) : n = m := by
  unfold headX at hx
  unfold headY at h
  by_cases a1 : n < 24
  · simp only [a1, if_true] at hx
    repeat' split at hx
    all_goals omega
  by_cases a2 : n < 256
  · have b1 : ¬ m < 24 := by intro k; simp only [a1, a2, k, if_true, if_false] at hx; omega
    have b2 : m < 256 := by
      simp only [a1, a2, b1, if_true, if_false] at hx
      repeat' split at hx
      all_goals omega
    simp only [a1, a2, b1, b2, if_true, if_false, List.cons.injEq, and_true] at h
    have := u8_eq h
    omega
  by_cases a3 : n < 65536
  · have b1 : ¬ m < 24 := by intro k; simp only [a1, a2, a3, k, if_true, if_false] at hx; omega
    have b2 : ¬ m < 256 := by intro k; simp only [a1, a2, a3, b1, k, if_true, if_false] at hx; omega
    have b3 : m < 65536 := by
      simp only [a1, a2, a3, b1, b2, if_true, if_false] at hx
      repeat' split at hx
      all_goals omega
    simp only [a1, a2, a3, b1, b2, b3, if_true, if_false, List.cons.injEq, and_true] at h
    have h1 := u8_eq h.1
    have h2 := u8_eq h.2
    omega
  by_cases a4 : n < 4294967296
  · have b1 : ¬ m < 24 := by intro k; simp only [a1, a2, a3, a4, k, if_true, if_false] at hx; omega
    have b2 : ¬ m < 256 := by intro k; simp only [a1, a2, a3, a4, b1, k, if_true, if_false] at hx; omega
    have b3 : ¬ m < 65536 := by intro k; simp only [a1, a2, a3, a4, b1, b2, k, if_true, if_false] at hx; omega
    have b4 : m < 4294967296 := by
      simp only [a1, a2, a3, a4, b1, b2, b3, if_true, if_false] at hx
      repeat' split at hx
      all_goals omega
    simp only [a1, a2, a3, a4, b1, b2, b3, b4, if_true, if_false, List.cons.injEq, and_true] at h
    obtain ⟨h0, h1, h2, h3⟩ := h
    have h0 := u8_eq h0
    have h1 := u8_eq h1
    have h2 := u8_eq h2
    have h3 := u8_eq h3
    have g0 : n / 16777216 = m / 16777216 := by omega
    have g1 : n / 65536 = m / 65536 := by omega
    have g2 : n / 256 = m / 256 := by omega
    omega
  · have b1 : ¬ m < 24 := by intro k; simp only [a1, a2, a3, a4, k, if_true, if_false] at hx; omega
    have b2 : ¬ m < 256 := by intro k; simp only [a1, a2, a3, a4, b1, k, if_true, if_false] at hx; omega
    have b3 : ¬ m < 65536 := by intro k; simp only [a1, a2, a3, a4, b1, b2, k, if_true, if_false] at hx; omega
    have b4 : ¬ m < 4294967296 := by intro k; simp only [a1, a2, a3, a4, b1, b2, b3, k, if_true, if_false] at hx; omega
    simp only [a1, a2, a3, a4, b1, b2, b3, b4, if_false] at h
    exact be8_eq hn hm h
/-- Heads are prefix-free. -/
theorem headB_inj {a b n m : Nat} (ha : a < 8) (hb : b < 8) (hn : n < 18446744073709551616) (hm : m < 18446744073709551616) {r s : List UInt8} (h : headB a n ++ r = headB b m ++ s) : a = b ∧ n = m ∧ r = s := by
  rw [headB_XY, headB_XY, List.cons_append, List.cons_append] at h
  injection h with h1 h2
  have h1 := u8_eq h1
  have x1 := headX_lt n
  have x2 := headX_lt m
  have hx : headX n = headX m := by omega
  have hl : (headY n).length = (headY m).length := by rw [headY_len, headY_len, hx]
  obtain ⟨h3, h4⟩ := List.append_inj h2 hl
  exact ⟨by omega, headY_eq hn hm hx h3, h4⟩
end Go.Proofs.YtebcnkelbicbnaaGreatDoor
namespace Go.Proofs.YtebcnkelbicbnaaGreatDoor
open Go.RowKit

mutual
/-- The numbers are those of 64 bits. -/
def Nums : Itm → Prop
  | .mk _ n _ l => n < 18446744073709551616 ∧ NumsL l
def NumsL : List Itm → Prop
  | [] => True
  | x :: l => Nums x ∧ NumsL l
end
theorem Nums.n_ {x : Itm} (h : Nums x) : x.n < 18446744073709551616 := by cases x; rw [Nums] at h; exact h.1
theorem Nums.items {x : Itm} (h : Nums x) : NumsL x.items := by cases x; rw [Nums] at h; exact h.2
theorem NumsL.get : ∀ {l : List Itm}, NumsL l → ∀ x ∈ l, Nums x
  | [], _, x, hx => by cases hx
  | y :: l, h, x, hx => by
    rw [NumsL] at h
    rcases List.mem_cons.1 hx with rfl | hx
    · exact h.1
    · exact h.2.get x hx
mutual
theorem IsItem.nums {H : Snap} : ∀ {x : Itm} {ba : Option Addr} {bc : Nat} {ia : Option Addr} {ic : Nat}, IsItem H ba bc ia ic x → Nums x
  | .mk k n bs l, ba, bc, ia, ic, h => by
    rw [IsItem] at h
    rw [Nums]
    refine ⟨h.1.2.2.1, ?_⟩
    by_cases h0 : 0 < l.length
    · obtain ⟨b, off, _, he⟩ := h.2.2 h0
      exact IsElems.nums he
    · have : l = [] := List.eq_nil_of_length_eq_zero (by omega)
      subst this
      rw [NumsL]; trivial
theorem IsElems.nums {H : Snap} : ∀ {l : List Itm} {b off : Nat}, IsElems H b off l → NumsL l
  | [], _, _, _ => by rw [NumsL]; trivial
  | x :: l, b, off, h => by
    rw [IsElems] at h
    obtain ⟨⟨ba, bc, ia, ic, _, _, _, _, hx⟩, hr⟩ := h
    rw [NumsL]
    exact ⟨IsItem.nums hx, IsElems.nums hr⟩
end
theorem cntL_mem : ∀ {l : List Itm} {x : Itm}, x ∈ l → cnt x ≤ cntL l
  | [], x, h => by cases h
  | y :: l, x, h => by
    rw [cntL]
    rcases List.mem_cons.1 h with rfl | h
    · omega
    · have := cntL_mem h; omega
theorem encL_mem : ∀ {l : List Itm} {x : Itm}, x ∈ l → (encB x).length ≤ (encL l).length
  | [], x, h => by cases h
  | y :: l, x, h => by
    rw [encL, List.length_append]
    rcases List.mem_cons.1 h with rfl | h
    · omega
    · have := encL_mem h; omega
/-- An element of a valid item is valid. -/
theorem validP_elem {m x : Itm} (h : validP m = true) (hx : x ∈ m.items) : validP x = true := by
  rw [validP_iff] at h ⊢
  obtain ⟨h1, h2, h3⟩ := h
  refine ⟨(h1.items.get x hx).le (by omega), ?_, ?_⟩
  · have := cntL_mem hx; have := cnt_eq m; omega
  · have := encL_mem hx; have := node_enc h1.node; omega
theorem ascP_tail {a b : Itm} {l : List Itm} (h : ascP (a :: b :: l) = true) : ascP l = true := by
  match l with
  | [] => rfl
  | c :: r => rw [ascP, Bool.and_eq_true] at h; exact h.2
end Go.Proofs.YtebcnkelbicbnaaGreatDoor
namespace Go.Proofs.YtebcnkelbicbnaaGreatDoor
open Go.RowKit

theorem isNaN_iff (n : Nat) : isNaN n = true ↔ n / 2 ^ 52 % 2048 = 2047 ∧ n % 2 ^ 52 ≠ 0 := by
  simp [isNaN]
theorem read_nan (n : Nat) : (Ieee.double.read n).isNaN = isNaN n := by
  rw [Bool.eq_iff_iff, isNaN_iff]
  have hs : Ieee.double.signWeight = 9223372036854775808 := rfl
  have hb : Ieee.double.binade = 4503599627370496 := rfl
  have hi : Ieee.double.infRung = 9218868437227405312 := rfl
  simp only [Nat.reducePow]
  by_cases h1 : n % Ieee.double.signWeight < Ieee.double.binade
  · rw [show Ieee.double.read n = .number _ _ _ from if_pos h1]
    rw [hs, hb] at h1
    simp only [Ieee.Datum.isNaN, Bool.false_eq_true, false_iff]
    omega
  by_cases h2 : n % Ieee.double.signWeight < Ieee.double.infRung
  · rw [show Ieee.double.read n = .number _ _ _ from (if_neg h1).trans (if_pos h2)]
    rw [hs, hi] at h2
    simp only [Ieee.Datum.isNaN, Bool.false_eq_true, false_iff]
    omega
  by_cases h3 : n % Ieee.double.signWeight = Ieee.double.infRung
  · rw [show Ieee.double.read n = .infinity _ from (if_neg h1).trans ((if_neg h2).trans (if_pos h3))]
    rw [hs, hi] at h3
    simp only [Ieee.Datum.isNaN, Bool.false_eq_true, false_iff]
    omega
  rw [show Ieee.double.read n = .nan _ _ from (if_neg h1).trans ((if_neg h2).trans (if_neg h3))]
  rw [hs, hi] at h2 h3
  simp only [Ieee.Datum.isNaN, true_iff]
  omega
theorem order_self (d : Ieee.Datum) : (d.order d == some .eq) = !d.isNaN := by
  cases d with
  | nan a b => rfl
  | infinity s => cases s <;> rfl
  | number s m i =>
    simp [Ieee.Datum.order, Ieee.Datum.isNaN]

theorem order_feq (n : Nat) : (FloatKind.f64.format.order n n == some .eq) = !isNaN n := by
  show (Ieee.Datum.order (Ieee.double.read n) (Ieee.double.read n) == some .eq) = _
  rw [order_self, read_nan]
theorem order_fne (n : Nat) : (FloatKind.f64.format.order n n != some .eq) = isNaN n := by
  rw [bne, order_feq, Bool.not_not]
theorem run_f64frombits (n : Nat) (w : World) : (callFunc 89 #[.int .u64 (n : Int)]).run Tryz.prog w = .ok (.value (.float .f64 n)) w := by
  rw [run_callFunc_extern Tryz.func89 (by kernel_rfl) (by kernel_rfl) (by kernel_rfl) (e := Extern.MathFloatBits.float64frombits) (by kernel_rfl)]
  rfl
theorem run_f64bits (n : Nat) (w : World) : (callFunc 90 #[.float .f64 n]).run Tryz.prog w = .ok (.value (.int .u64 (n : Int))) w := by
  rw [run_callFunc_extern Tryz.func90 (by kernel_rfl) (by kernel_rfl) (by kernel_rfl) (e := Extern.MathFloatBits.float64bits) (by kernel_rfl)]
  rfl
theorem run_f32bits (n : Nat) (w : World) : (callFunc 92 #[.float .f32 n]).run Tryz.prog w = .ok (.value (.int .u32 (n : Int))) w := by
  rw [run_callFunc_extern Tryz.func92 (by kernel_rfl) (by kernel_rfl) (by kernel_rfl) (e := Extern.MathFloatBits.float32bits) (by kernel_rfl)]
  rfl
end Go.Proofs.YtebcnkelbicbnaaGreatDoor
