/- Walks of package bytes and slices: Equal, Compare, Clone. Walks: cbor.Uint, Int, Bytes, Text. Walks: cbor.head. Walks: cbor.major. Floats: the bits of a float64, and when it equals itself. Walks: the references' Compare. Walks: the references' Head. Walks: the references' IsNaN, Narrow, float. Walks: cbor.wide, cbor.half. Walks: cbor.float. Walks: cbor.add. -/
import Derived.Test.YtdbhgngikglmcaaDoorJmem
import Derived.Laws.BytesArg
import Derived.Lib.Bytealg
import Derived.Laws.Externs
import Derived.Test.YtdbhgngikglmcaaDoorJpure
import Derived.Laws.IdiomStrings
import Derived.RegionTactic
import Derived.ChangeAlike
import Derived.Laws.FloatArith
import Derived.Deep.DeepCutAuto
import Derived.Deep.CutBlock
import Derived.Laws.BitsAllLaws
set_option linter.unusedVariables false
set_option linter.unusedSimpArgs false
namespace Go.Proofs.YtdbhgngikglmcaaDoor
open Go.RowKit

theorem byteV_getD (l : List UInt8) (i : Nat) : (l.map fun u => (u.toNat : Int)).getD i 0 = ((l.getD i 0).toNat : Int) := by
  simp [List.getD]
  cases h : l[i]? <;> simp
theorem strOfNums_bytes (l : List UInt8) : strOfNums (l.map fun u => (u.toNat : Int)) = ⟨l.toArray⟩ := by
  have h : (fun n : Int => UInt8.ofNat n.toNat) ∘ (fun u : UInt8 => (u.toNat : Int)) = id := by funext u; simp
  unfold strOfNums
  simp [h]
/-- string(b) -/
theorem conv_bytes {w : World} {A : Option Addr} {l : List UInt8} (h : Src w A (l.map byteV)) (n c : Nat) (hn : n = l.length) :
    (convert 23 9 (.slice A n c)).run Tryd.prog w = .ok (.string ⟨l.toArray⟩) w := by
  subst hn
  by_cases hl : l = []
  · subst hl
    cases A with
    | none => exact run_convert_bytes_nil w _ 5 Tryd.underlying23 Tryd.underlying5 _ _ _ Tryd.underlying9
    | some a =>
      obtain ⟨b, off, spot⟩ := a
      rw [run_convert_bytes_string w _ _ 5 _ _ c Tryd.underlying23 Tryd.underlying5 Tryd.underlying9]
      rfl
  · obtain ⟨b, off, rfl, hc⟩ := h (by simpa using hl)
    have := run_convert_bytes_arg (P := Tryd.prog) w 23 5 Tryd.underlying23 Tryd.underlying5 b off l.length c (l.map fun u => (u.toNat : Int)) (by simp)
      (fun i hi => by rw [byteV_getD, hc i (byteV l[i]) (by simp [hi])]; simp [List.getD, hi]) _ Tryd.underlying9
    rw [this, strOfNums_bytes]

set_option maxRecDepth 100000 in
theorem bytes_Equal (w : World) (A B : Option Addr) (a b : List UInt8) (n m c d : Nat) (hn : n = a.length) (hm : m = b.length) (ha : Src w A (a.map byteV)) (hb : Src w B (b.map byteV)) :
    Calls Tryd.prog 70 #[.slice A n c, .slice B m d] w fun e w' => e = .returned (.bool (a == b)) ∧ w = w' := by
  have h1 := conv_bytes ha n c hn
  have h2 := conv_bytes hb m d hm
  clear hn hm ha hb
  go_enter Tryd.func70, Tryd.ntmps70
  go_wp2
  go_ret
  exact ⟨rfl, rfl⟩

theorem run_loadBytes {P : Program} {w : World} (b : Nat) : ∀ (l : List UInt8) (off : Nat) (acc : ByteArray), (∀ j v, (l.map byteV)[j]? = some v → w.cell? ⟨b, off + j, none⟩ = some v) →
    (Extern.Bytes.loadBytes ⟨b, off, none⟩ l.length acc).run P w = .ok ⟨acc.data ++ l.toArray⟩ w
  | [], off, acc, _ => by simp [Extern.Bytes.loadBytes]
  | u :: l, off, acc, h => by
    have h0 := h 0 (byteV u) rfl
    have ih := run_loadBytes (P := P) b l (off + 1) (acc.push u) (fun j v hj => by rw [show off + 1 + j = off + (j + 1) by omega]; exact h (j + 1) v (by simpa using hj))
    simp only [List.length_cons, Extern.Bytes.loadBytes]
    simp [load, Sem.run, Result.andThen, byteV] at h0 ⊢
    simp [h0, addr_add, ByteArray.push]
    rw [show (⟨acc.data.push u⟩ : ByteArray) = acc.push u from rfl, ih]
    congr 2
    simp [ByteArray.push]
theorem run_bytesOf {P : Program} {w : World} {A : Option Addr} {l : List UInt8} (h : Src w A (l.map byteV)) (n c : Nat) (hn : n = l.length) :
    (Extern.Bytes.bytesOf (.slice A n c)).run P w = .ok ⟨l.toArray⟩ w := by
  subst hn
  by_cases hl : l = []
  · subst hl
    cases A with
    | none => rfl
    | some a => rfl
  · obtain ⟨b, off, rfl, hc⟩ := h (by simpa using hl)
    have := run_loadBytes (P := P) b l off .empty hc
    simp only [Extern.Bytes.bytesOf]
    rw [this]
    simp [ByteArray.empty, ByteArray.emptyWithCapacity]
    rfl
theorem run_compare {P : Program} {w : World} {A B : Option Addr} {a b : List UInt8} (ha : Src w A (a.map byteV)) (hb : Src w B (b.map byteV)) (n m c d : Nat) (hn : n = a.length) (hm : m = b.length) :
    (Extern.BytealgCompare.compare #[.slice A n c, .slice B m d]).run P w = .ok (.int .i64 (Lib.compareBytes a b)) w := by
  change Sem.run P (do pure (goInt (Extern.BytealgCompare.cmp (← Extern.Bytes.bytesOf (.slice A n c)) (← Extern.Bytes.bytesOf (.slice B m d))))) w = _
  simp only [Sem.run_bind, Sem.run_pure, Result.andThen, run_bytesOf ha n c hn, run_bytesOf hb m d hm]
  rw [Lib.cmp_eq]
  rfl

set_option maxRecDepth 100000 in
theorem bytes_Compare (w : World) (A B : Option Addr) (a b : List UInt8) (n m c d : Nat) (hn : n = a.length) (hm : m = b.length) (ha : Src w A (a.map byteV)) (hb : Src w B (b.map byteV)) :
    Calls Tryd.prog 82 #[.slice A n c, .slice B m d] w fun e w' => e = .returned (.int .i64 (Lib.compareBytes a b)) ∧ w = w' := by
  have h1 := Lib.hid (run_compare (P := Tryd.prog) ha hb n m c d hn hm)
  clear hn hm ha hb
  go_enter Tryd.func82, Tryd.ntmps82
  go_wp2
  rw [run_callFunc_extern Tryd.func84 (by kernel_rfl) (by kernel_rfl) (by kernel_rfl) (e := Extern.BytealgCompare.compare) (by kernel_rfl), h1.out]
  simp only [Result.andThen]
  rw [Oper.upon_value]
  go_wp2
  go_ret
  exact ⟨rfl, rfl⟩
set_option maxRecDepth 100000 in
theorem bytes_Clone (w : World) (A : Option Addr) (l : List UInt8) (n c : Nat) (hn : n = l.length) (hl : l.length ≤ 1099511627776) (hs : Src w A (l.map byteV)) :
    Calls Tryd.prog 60 #[.slice A n c] w fun e w' => ∃ r, e = .returned r ∧ Fresh w l r w' := by
  cases A with
  | none =>
    have h0 : l = [] := by
      cases l with
      | nil => rfl
      | cons a l => obtain ⟨b, off, h, _⟩ := hs (by simp); cases h
    subst h0
    have he := fun w : World => Lib.run_eql_slice_nil (P := Tryd.prog) w _ _ none n c 0 0 Tryd.underlying23
    clear hn hl
    go_enter Tryd.func60, Tryd.ntmps60
    go_wp2
    go_ret
    exact ⟨_, rfl, OwnB.nil _ _, Below.refl _ _⟩
  | some a =>
    have he := fun w : World => Lib.run_eql_slice_nil (P := Tryd.prog) w _ _ (some a) n c 0 0 Tryd.underlying23
    simp only [Option.isNone] at he
    have HN := Lib.hid hn
    clear hn
    go_enter Tryd.func60, Tryd.ntmps60
    go_wp2_with (at_builtin; refine stop_in ?_)
    unfold Stopped
    have h0 : OwnB (w.alloc (.cells #[] 5)) w.heap.size (.slice (some ⟨w.heap.size, 0, none⟩) 0 0) [] := OwnB.lit w _ [] #[] 0 rfl rfl (Nat.le_refl _) (by simp)
    refine wpList_app_bytes rfl (.tmp 5) (.tmp 6) rfl w.heap.size _ [] rfl h0 (some a) n c l rfl HN.out ?_ (by simpa using hl) (by simp) ?_
    · exact hs.alloc _
    intro v' w' hown hg _
    have hf : Fresh w l v' w' := ⟨by rw [List.nil_append] at hown; exact hown, (below_box w _).grown hg (by simp) (fun k hk => (h0.lt k hk).1)⟩
    clear hown hg h0
    go_wp2
    go_ret
    exact ⟨_, rfl, hf⟩

set_option maxRecDepth 100000 in
theorem slices_Clone (w : World) (A : Option Addr) (l : List UInt8) (n c : Nat) (hn : n = l.length) (hl : l.length ≤ 1099511627776) (hs : Src w A (l.map byteV)) :
    Calls Tryd.prog 36 #[.slice A n c] w fun e w' => ∃ r, e = .returned r ∧ Fresh w l r w' := by
  cases A with
  | none =>
    have h0 : l = [] := by
      cases l with
      | nil => rfl
      | cons a l => obtain ⟨b, off, h, _⟩ := hs (by simp); cases h
    subst h0
    have he := fun w : World => Lib.run_eql_slice_nil (P := Tryd.prog) w _ _ none n c 0 0 Tryd.underlying23
    clear hn hl
    go_enter Tryd.func36, Tryd.ntmps36
    go_wp2
    go_ret
    exact ⟨_, rfl, OwnB.nil _ _, Below.refl _ _⟩
  | some a =>
    have he := fun w : World => Lib.run_eql_slice_nil (P := Tryd.prog) w _ _ (some a) n c 0 0 Tryd.underlying23
    simp only [Option.isNone] at he
    have HN := Lib.hid hn
    clear hn
    go_enter Tryd.func36, Tryd.ntmps36
    go_wp2_with (at_builtin; refine stop_in ?_)
    unfold Stopped
    have h0 : OwnB (w.alloc (.cells #[] 5)) w.heap.size (.slice (some ⟨w.heap.size, 0, none⟩) 0 0) [] := OwnB.lit w _ [] #[] 0 rfl rfl (Nat.le_refl _) (by simp)
    refine wpList_app_bytes rfl (.tmp 5) (.tmp 6) rfl w.heap.size _ [] rfl h0 (some a) n c l rfl HN.out ?_ (by simpa using hl) (by simp) ?_
    · exact hs.alloc _
    intro v' w' hown hg _
    have hf : Fresh w l v' w' := ⟨by rw [List.nil_append] at hown; exact hown, (below_box w _).grown hg (by simp) (fun k hk => (h0.lt k hk).1)⟩
    clear hown hg h0
    go_wp2
    go_ret
    exact ⟨_, rfl, hf⟩

end Go.Proofs.YtdbhgngikglmcaaDoor
namespace Go.Proofs.YtdbhgngikglmcaaDoor
open Go.RowKit

theorem IsItem.plain (H : Snap) (k : Int) (n : Nat) (hk : -9223372036854775808 ≤ k ∧ k ≤ 9223372036854775807) (hn : n < 18446744073709551616) : IsItem H none 0 none 0 (.mk k n [] []) := by
  rw [IsItem]
  exact ⟨⟨hk.1, hk.2, hn, Nat.le_refl _, by omega⟩, IsBytes.nil H, fun h => absurd h (by simp)⟩
theorem Gives.plain {w w' : World} {H : Snap} {k n : Int} {m : Nat} (hH : Holds w H) (hb : Below w.heap.size w w') (hk : -9223372036854775808 ≤ k ∧ k ≤ 9223372036854775807) (hm : m < 18446744073709551616) (hn : n = (m : Int)) :
    Gives w H (.mk k m [] []) (.agg #[.int .i64 k, .int .u64 n, .slice none 0 0, .slice none 0 0]) w' := by
  subst hn
  exact ⟨none, 0, none, 0, H, rfl, Grows.of_below hH hb, IsItem.plain H k m hk hm⟩
theorem Gives.step {w w1 w' : World} {H : Snap} {x : Itm} {v : Value} (hb : Below w.heap.size w w1) (hH : Holds w H) (h : Gives w1 H x v w') : Gives w H x v w' := by
  obtain ⟨ba, bc, ia, ic, H', e, hg, hi⟩ := h
  exact ⟨ba, bc, ia, ic, H', e, (Grows.of_below hH hb).trans hg, hi⟩
theorem Gives.after {w w1 w' : World} {H : Snap} {x : Itm} {v : Value} (h : Gives w H x v w1) (hb : Below w1.heap.size w1 w') : Gives w H x v w' := by
  obtain ⟨ba, bc, ia, ic, H', e, hg, hi⟩ := h
  exact ⟨ba, bc, ia, ic, H', e, hg.trans (Grows.of_below hg.holds hb), hi⟩
theorem Fresh.gives {w w1 : World} {H : Snap} {l : List UInt8} {r : Value} {k : Int} (hH : Holds w H) (h : Fresh w l r w1) (hk : -9223372036854775808 ≤ k ∧ k ≤ 9223372036854775807) :
    Gives w H (.mk k 0 l []) (.agg #[.int .i64 k, .int .u64 0, r, .slice none 0 0]) w1 := by
  obtain ⟨A, c, rfl, _⟩ := h.own.form
  obtain ⟨H', hl, hh, hf, _, hi⟩ := h.own.snap (hH.below h.2 (Nat.le_refl _)) (fun g hg => hH.none_of_ge (h.own.lt g (by cases A <;> simp_all [Value.ownBlock])).1)
  refine ⟨A, c, none, 0, H', rfl, ⟨h.2, hl, hh, fun b o hb => ?_⟩, ?_⟩
  · rcases hf b o hb with h1 | h1
    · exact .inl h1
    · exact .inr (h.own.lt b (by cases A <;> simp_all [Value.ownBlock])).1
  · rw [IsItem]
    exact ⟨⟨hk.1, hk.2, by omega, Nat.le_refl _, by omega⟩, hi, fun h => absurd h (by simp)⟩

theorem Grows.own {w wA w1 w' : World} {H H' : Snap} {g : Nat} (hA : Below w.heap.size w wA) (hH : Holds w H) (h : Grows wA H w1 H') (hg : w1.grownBy w' (some g)) (h1 : w.heap.size ≤ g) (h2 : g < wA.heap.size) : Grows w H w' H' :=
  ⟨(hA.trans (h.below.mono hA.size)).grown hg (Nat.le_trans hA.size h.below.size) (by rintro k ⟨⟩; exact h1), h.le, h.holds.grown hg (by rintro k ⟨⟩; exact h.none (hH.none_of_ge h1) h2), fun b o hb => by
    rcases h.fresh b o hb with h | h
    · exact .inl h
    · exact .inr (Nat.le_trans hA.size h)⟩
/-- A store into a block of the call's own keeps what is given: the block is not among the data. -/
theorem Gives.own {w wA w1 w' : World} {H : Snap} {x : Itm} {v : Value} {g : Nat} (hA : Below w.heap.size w wA) (hH : Holds w H) (h : Gives wA H x v w1) (hg : w1.grownBy w' (some g)) (h1 : w.heap.size ≤ g) (h2 : g < wA.heap.size) : Gives w H x v w' := by
  obtain ⟨ba, bc, ia, ic, H', e, hG, hi⟩ := h
  exact ⟨ba, bc, ia, ic, H', e, hG.own hA hH hg h1 h2, hi⟩
theorem one4 (a b c d : Value) (ha : a.oneCell' = true) (hb : b.oneCell' = true) (hc : c.oneCell' = true) (hd : d.oneCell' = true) : (#[a, b, c, d] : Array Value).all (·.oneCell') = true := by simp [ha, hb, hc, hd]

set_option maxRecDepth 100000 in
theorem cbor_Uint (n : Nat) (hn : n < 18446744073709551616) {H : Snap} (w : World) (hH : Holds w H) :
    Calls Tryd.prog 71 #[.int .u64 n] w fun e w' => ∃ v, e = .returned v ∧ Gives w H (.mk 0 n [] []) v w' := by
  have HN := Lib.hid hn
  clear hn
  go_enter Tryd.func71, Tryd.ntmps71
  go_wp2_with fail
  refine ret_row rfl rfl (Blk.new _ _ _) rfl rfl size_item rfl ?_
  exact ⟨_, rfl, Gives.plain hH (below_box _ _) (by omega) HN.out rfl⟩

set_option maxRecDepth 100000 in
theorem cbor_Int (n : Int) (h1 : -9223372036854775808 ≤ n) (h2 : n ≤ 9223372036854775807) {H : Snap} (w : World) (hH : Holds w H) :
    Calls Tryd.prog 55 #[.int .i64 n] w fun e w' => ∃ v, e = .returned v ∧ Gives w H (intP n) v w' := by
  by_cases h0 : n < 0
  · have E : Hid (intP n = .mk 1 (-1 - n).toNat [] [] ∧ (-1 - n).toNat < 18446744073709551616 ∧ -1 - n = ((-1 - n).toNat : Int)) := ⟨by rw [intP, if_pos h0], by omega, by omega⟩
    have K1 : IntKind.u64.wrap (-1 - n) = -1 - n := by rw [IntKind.wrap_u64]; omega
    have K0 : IntKind.i64.wrap (-1 - n) = -1 - n := IntWalk.i64_in _ (by omega)
    clear h1 h2
    go_enter Tryd.func55, Tryd.ntmps55
    go_wp2_with fail
    refine ret_row rfl rfl (Blk.new _ _ _) rfl rfl size_item rfl ?_
    rw [E.out.1]
    exact ⟨_, rfl, Gives.plain hH (below_box _ _) (by omega) E.out.2.1 E.out.2.2⟩
  · have E : Hid (intP n = .mk 0 n.toNat [] [] ∧ n.toNat < 18446744073709551616 ∧ n = (n.toNat : Int)) := ⟨by rw [intP, if_neg h0], by omega, by omega⟩
    have K1 : IntKind.u64.wrap n = n := by rw [IntKind.wrap_u64]; omega
    have U := Lib.hid (cbor_Uint n.toNat E.out.2.1 (w.alloc (.cells #[.int .i64 0, .int .u64 0, .slice none 0 0, .slice none 0 0] 26)) (hH.alloc _))
    rw [← E.out.2.2] at U
    have hn := Int.not_lt.1 h0
    clear h1 h2 h0
    go_enter Tryd.func55, Tryd.ntmps55
    go_wp2_with fail
    refine U.out.mono ?_
    rintro e w1 ⟨v, rfl, hg⟩
    have HG := Lib.hid hg
    obtain ⟨ba, bc, ia, ic, H', rfl, hg, hi⟩ := hg
    have hB := (Blk.new w 26 #[.int .i64 0, .int .u64 0, .slice none 0 0, .slice none 0 0]).below hg.below
    go_wp2_with (with_reducible refine stop_store ?_)
    unfold Stopped
    refine wpList_store_item rfl _ _ _ rfl rfl _ _ rfl rfl _ _ hB size_item rfl (one4 _ _ _ _ rfl rfl rfl rfl) fun w2 hB2 hG2 => ?_
    go_wp2_with fail
    refine ret_row rfl rfl hB2 rfl rfl size_item rfl ?_
    rw [E.out.1]
    exact ⟨_, rfl, HG.out.own (below_box _ _) hH hG2 (Nat.le_refl _) (by simp)⟩

set_option maxRecDepth 100000 in
theorem cbor_Bytes {A : Option Addr} {n c : Nat} {l : List UInt8} (hn : n = l.length) (hl : l.length ≤ 1099511627776) {H : Snap} (w : World) (hs : Src w A (l.map byteV)) (hH : Holds w H) :
    Calls Tryd.prog 21 #[.slice A n c] w fun e w' => ∃ v, e = .returned v ∧ Gives w H (.mk 2 0 l []) v w' := by
  have C := Lib.hid (slices_Clone (w.alloc (.cells #[.int .i64 0, .int .u64 0, .slice none 0 0, .slice none 0 0] 26)) A l n c hn hl (hs.alloc _))
  clear hn
  go_enter Tryd.func21, Tryd.ntmps21
  go_wp2_with fail
  refine C.out.mono ?_
  rintro e w1 ⟨r, rfl, hf⟩
  have hB := (Blk.new w 26 #[.int .i64 0, .int .u64 0, .slice none 0 0, .slice none 0 0]).below hf.2
  have HF := Lib.hid (hf.gives (k := 2) (hH.alloc (.cells #[.int .i64 0, .int .u64 0, .slice none 0 0, .slice none 0 0] 26)) (by omega))
  obtain ⟨A', c', rfl, _⟩ := hf.own.form
  go_wp2_with (with_reducible refine stop_store ?_)
  unfold Stopped
  refine wpList_store_item rfl _ _ _ rfl rfl _ _ rfl rfl _ _ hB size_item rfl (one4 _ _ _ _ rfl rfl rfl rfl) fun w2 hB2 hG2 => ?_
  go_wp2_with fail
  refine ret_row rfl rfl hB2 rfl rfl size_item rfl ?_
  exact ⟨_, rfl, HF.out.own (below_box _ _) hH hG2 (Nat.le_refl _) (by simp)⟩

/-- The bytes of a string, in new memory. -/
theorem conv_string {w : World} {H : Snap} (hH : Holds w H) (s : ByteArray) (hl : s.size ≤ 1099511627776) :
    ∃ g c w', (convert 9 23 (.string s)).run Tryd.prog w = .ok (.slice (some ⟨g, 0, none⟩) s.size c) w' ∧ Below w.heap.size w w' ∧ ∃ H', Grows w H w' H' ∧ IsBytes H' (some ⟨g, 0, none⟩) c s.data.toList := by
  refine ⟨_, _, _, run_bytes_of_string (P := Tryd.prog) w 9 23 5 s Tryd.underlying9 Tryd.underlying23 Tryd.underlying5, ?_, ?_⟩
  · exact (Below.refl _ _).drew.alloc (Nat.le_refl _) _
  · obtain ⟨o, ho⟩ : ∃ o, o = Obj.cells (bytesRow s (grownCap w s.size 0 5)) 5 ((bytesRow s (grownCap w s.size 0 5)).size, (bytesRow s (grownCap w s.size 0 5)).size + 1) := ⟨_, rfl⟩
    rw [← ho]
    have h0 : H w.heap.size = none := hH.none_of_ge (Nat.le_refl _)
    refine ⟨H.with w.heap.size o, ⟨(Below.refl _ _).drew.alloc (Nat.le_refl _) _, Snap.le_with h0, (hH.drew.alloc o).with (heap_alloc_new w.drew o), fun b x hb => ?_⟩, ?_, ?_, ?_⟩
    · unfold Snap.with at hb
      split at hb
      · subst b; exact .inr (Nat.le_refl _)
      · exact .inl hb
    · simpa using grownCap_ge w s.size 0 5
    · have := grownCap_le_maxLen w s.size 0 5 (by simp only [maxLen]; omega)
      simpa [maxLen] using this
    · refine fun _ => ⟨w.heap.size, 0, rfl, fun j v hj => ?_⟩
      have hjl : j < s.data.size := by
        have := (List.getElem?_eq_some_iff.1 hj).1
        simpa using this
      subst ho
      simp only [Snap.cell?, Snap.with, if_true, Nat.zero_add, Option.isSome, Bool.false_eq_true, if_false]
      rw [bytesRow_at s _ j hjl]
      simp at hj
      obtain ⟨a, h1, h2⟩ := hj
      rw [Array.getElem?_eq_getElem hjl] at h1
      injection h1 with h1
      rw [h1, ← h2]

set_option maxRecDepth 100000 in
theorem cbor_Text (s : ByteArray) (hl : s.size ≤ 1099511627776) {H : Snap} (w : World) (hH : Holds w H) :
    Calls Tryd.prog 20 #[.string s] w fun e w' => ∃ v, e = .returned v ∧ Gives w H (.mk 3 0 s.data.toList []) v w' := by
  obtain ⟨g, c, w1, hr, hb, H', hG, hi⟩ := conv_string (hH.alloc (.cells #[.int .i64 0, .int .u64 0, .slice none 0 0, .slice none 0 0] 26)) s hl
  have hB := (Blk.new w 26 #[.int .i64 0, .int .u64 0, .slice none 0 0, .slice none 0 0]).below hb
  have HI : Gives (w.alloc (.cells #[.int .i64 0, .int .u64 0, .slice none 0 0, .slice none 0 0] 26)) H (.mk 3 0 s.data.toList []) (.agg #[.int .i64 3, .int .u64 0, .slice (some ⟨g, 0, none⟩) s.size c, .slice none 0 0]) w1 := by
    refine ⟨some ⟨g, 0, none⟩, c, none, 0, H', by simp [itemV, Itm.kind, Itm.n, Itm.bytes, Itm.items], hG, ?_⟩
    rw [IsItem]
    exact ⟨⟨by omega, by omega, by omega, Nat.le_refl _, by omega⟩, hi, fun h => absurd h (by simp)⟩
  have HII := Lib.hid HI
  clear hb hi HI
  go_enter Tryd.func20, Tryd.ntmps20
  go_wp2_with (with_reducible refine stop_store ?_)
  unfold Stopped
  refine wpList_store_item rfl _ _ _ rfl rfl _ _ rfl rfl _ _ hB size_item rfl (one4 _ _ _ _ rfl rfl rfl rfl) fun w2 hB2 hG2 => ?_
  go_wp2_with fail
  refine ret_row rfl rfl hB2 rfl rfl size_item rfl ?_
  exact ⟨_, rfl, HII.out.own (below_box _ _) hH hG2 (Nat.le_refl _) (by simp)⟩
end Go.Proofs.YtdbhgngikglmcaaDoor
namespace Go.Proofs.YtdbhgngikglmcaaDoor
open Go.RowKit

set_option maxRecDepth 100000 in
set_option maxHeartbeats 800000 in
theorem cbor_head (m n : Int) (w : World) (hm0 : 0 ≤ m) (hm : m < 8) (h0 : 0 ≤ n) (h1 : n < 18446744073709551616) :
    Calls Tryd.prog 58 #[.int .u8 m, .int .u64 n] w fun e w' => ∃ r, e = .returned r ∧ Fresh w (headB m.toNat n.toNat) r w' := by
  obtain ⟨m', hm'⟩ := Int.eq_ofNat_of_zero_le hm0
  obtain ⟨n', hn'⟩ := Int.eq_ofNat_of_zero_le h0
  have HM := Lib.hid hm'
  have HN := Lib.hid hn'
  have H1 := Lib.hid h1
  clear h1 hm' hn'
  go_enter Tryd.func58, Tryd.ntmps58
  go_wp2
  · go_ret
    obtain rfl := HM.out
    obtain rfl := HN.out
    rw [Int.toNat_natCast, Int.toNat_natCast]
    have hlt : (n' : Int) < 24 := by with_reducible assumption
    refine ⟨_, rfl, Fresh.lit _ _ _ 1 ?_ ?_ ?_⟩
    · rw [headB_length, if_pos (by omega)]
    · have := (headB_le m' n').2; omega
    · rw [headB, if_pos (by omega)]
      simp only [List.map_cons, List.map_nil, byteV_u8]
      rw [u8_head m' n' (by omega) (by omega), Nat.mod_eq_of_lt (by omega)]
  · go_ret
    obtain rfl := HM.out
    obtain rfl := HN.out
    rw [Int.toNat_natCast, Int.toNat_natCast]
    have hge : (24 : Int) ≤ n' := by with_reducible assumption
    have hlt : (n' : Int) < 256 := by with_reducible assumption
    refine ⟨_, rfl, Fresh.lit _ _ _ 2 ?_ ?_ ?_⟩
    · rw [headB_length, if_neg (by omega), if_pos (by omega)]
    · have := (headB_le m' n').2; omega
    · rw [headB, if_neg (by omega), if_pos (by omega)]
      simp only [List.map_cons, List.map_nil, byteV_u8]
      have e24' := u8_head m' 24 (by omega) (by omega)
      rw [show ((24 : Nat) : Int) = 24 from rfl] at e24'
      rw [e24', Nat.mod_eq_of_lt (by omega), Nat.mod_eq_of_lt (by omega)]
  · go_ret
    obtain rfl := HM.out
    obtain rfl := HN.out
    rw [Int.toNat_natCast, Int.toNat_natCast]
    have hge : (256 : Int) ≤ n' := by with_reducible assumption
    have hlt : (n' : Int) < 65536 := by with_reducible assumption
    refine ⟨_, rfl, Fresh.lit _ _ _ 3 ?_ ?_ ?_⟩
    · rw [headB_length, if_neg (by omega), if_neg (by omega), if_pos (by omega)]
    · have := (headB_le m' n').2; omega
    · rw [headB, if_neg (by omega), if_neg (by omega), if_pos (by omega)]
      simp only [List.map_cons, List.map_nil, byteV_u8]
      have e24' := u8_head m' 25 (by omega) (by omega)
      rw [show ((25 : Nat) : Int) = 25 from rfl] at e24'
      rw [e24', Nat.mod_eq_of_lt (show m' * 32 + 25 < 256 by omega), Nat.mod_eq_of_lt (show n' / 256 < 256 by omega)]
      rfl
  · go_ret
    obtain rfl := HM.out
    obtain rfl := HN.out
    rw [Int.toNat_natCast, Int.toNat_natCast]
    have hge : (65536 : Int) ≤ n' := by with_reducible assumption
    have hlt : (n' : Int) < 4294967296 := by with_reducible assumption
    refine ⟨_, rfl, Fresh.lit _ _ _ 5 ?_ ?_ ?_⟩
    · rw [headB_length, if_neg (by omega), if_neg (by omega), if_neg (by omega), if_pos (by omega)]
    · have := (headB_le m' n').2; omega
    · rw [headB, if_neg (by omega), if_neg (by omega), if_neg (by omega), if_pos (by omega)]
      simp only [List.map_cons, List.map_nil, byteV_u8]
      have e24' := u8_head m' 26 (by omega) (by omega)
      rw [show ((26 : Nat) : Int) = 26 from rfl] at e24'
      rw [e24', Nat.mod_eq_of_lt (show m' * 32 + 26 < 256 by omega), Nat.mod_eq_of_lt (show n' / 16777216 < 256 by omega)]
      rfl
  · have HG : Hid (headB m.toNat n.toNat = u8 (m.toNat * 32 + 27) :: be8 n.toNat 8) := by
      have hge : (4294967296 : Int) ≤ n := by with_reducible assumption
      rw [headB, if_neg (by omega), if_neg (by omega), if_neg (by omega), if_neg (by omega)]
      rfl
    have hst : OwnB (w.alloc (.cells #[.int .u8 (bits .or .u8 (m * 32) 27)] 5)) w.heap.size (.slice (some ⟨w.heap.size, 0, none⟩) 1 1) [u8 (m.toNat * 32 + 27)] := by
      refine OwnB.lit w _ _ _ 1 rfl ?_ (Nat.le_refl _) (by simp)
      have e27' := u8_head m.toNat 27 (by omega) (by omega)
      rw [show ((27 : Nat) : Int) = 27 from rfl, Int.toNat_of_nonneg hm0] at e27'
      simp only [List.map_cons, List.map_nil, byteV_u8]
      rw [e27', Nat.mod_eq_of_lt (by omega)]
    go_loopw [6, 7] (fun v s wr => ∃ k : Nat, k ≤ 8 ∧ s = .int .i64 (56 - 8 * (k : Int)) ∧ OwnB wr w.heap.size v (u8 (m.toNat * 32 + 27) :: be8 n.toNat k) ∧ Below w.heap.size w wr) (fun _ s _ => (intOf s + 8).toNat)
    case atStart => exact ⟨0, by omega, rfl, hst, (Below.refl _ _).alloc (Nat.le_refl _) _⟩
    case round =>
      obtain ⟨k, hk, rfl, hown, hb⟩ := hrel
      by_cases hlt : k < 8
      · have hbs := hb.size
        go_wp2_with (at_builtin; refine wpList_app_bytes rfl (.tmp 61) (.tmp 66) rfl w.heap.size _ _ rfl (hown.alloc _) _ 1 1 [u8 (n.toNat / 2 ^ (56 - 8 * k))] rfl rfl ?hs ?hl ?hz ?_)
        case hs =>
          rw [byteV_of (n / 2 ^ (56 - 8 * k) % 256) (n.toNat / 2 ^ (56 - 8 * k)) (by obtain rfl := HN.out; simp)]
          exact Src.lit wr #[byteV (u8 (n.toNat / 2 ^ (56 - 8 * k)))] _
        case hl => simp [be8_length]; omega
        case hz => simp; omega
        intro v' w' hown' hg _
        have R : OwnB w' w.heap.size v' (u8 (m.toNat * 32 + 27) :: be8 n.toNat (k + 1)) ∧ Below w.heap.size w w' :=
          ⟨by simpa [be8] using hown', ((hb.alloc hbs _).grown hg (by simp; omega) (fun g hg => (hown.lt g hg).1))⟩
        clear hown' hg hown hb hst
        go_wp2
        go_roundw
        case rel => exact ⟨k + 1, by omega, by go_num, R.1, R.2⟩
        case measure => simp [intOf]; omega
      · have hk8 : k = 8 := by omega
        subst hk8
        go_wp2
        go_ret
        refine ⟨_, rfl, ?_⟩
        rw [HG.out]
        exact ⟨hown, hb⟩
end Go.Proofs.YtdbhgngikglmcaaDoor
namespace Go.Proofs.YtdbhgngikglmcaaDoor
open Go.RowKit

set_option maxRecDepth 100000 in
set_option maxHeartbeats 800000 in
theorem cbor_major {H : Snap} {k n : Int} {ba : Option Addr} {bl bc : Nat} {ia : Option Addr} {il ic : Nat} {x : Itm} (hx : ItemA H k n ba bl bc ia il ic x) (w : World) (h0 : 0 ≤ x.kind) (h8 : x.kind ≤ 8) :
    Calls Tryd.prog 59 #[.agg #[.int .i64 k, .int .u64 n, .slice ba bl bc, .slice ia il ic]] w fun e w' => e = .returned (.tuple #[.int .u8 x.kind, .int .u64 (numP x)]) ∧ Below w.heap.size w w' := by
  obtain ⟨rfl, rfl, rfl, rfl, hx⟩ := hx
  obtain ⟨_, _, hn, hb1, hb2, hi1, hi2⟩ := hx.bounds
  have hb : x.bytes.length ≤ 9223372036854775807 := by omega
  have hi : x.items.length ≤ 9223372036854775807 := by omega
  clear hb1 hb2 hi1 hi2 hx
  have HN := Lib.hid hn
  clear hn
  by_cases h2 : x.kind = 2
  · have e : Hid (Ending.returned (.tuple #[.int .u8 2, .int .u64 x.bytes.length]) = Ending.returned (.tuple #[.int .u8 x.kind, .int .u64 (numP x)])) := by simp [Hid, numP, h2]
    go_enter Tryd.func59, Tryd.ntmps59
    go_wp2
    go_region
    all_goals go_wp2
    all_goals go_ret2
    all_goals exact ⟨e.out, (below_box w _).drew⟩
  by_cases h3 : x.kind = 3
  · have e : Hid (Ending.returned (.tuple #[.int .u8 3, .int .u64 x.bytes.length]) = Ending.returned (.tuple #[.int .u8 x.kind, .int .u64 (numP x)])) := by simp [Hid, numP, h3]
    clear h2
    go_enter Tryd.func59, Tryd.ntmps59
    go_wp2
    go_region
    all_goals go_wp2
    all_goals go_ret2
    all_goals exact ⟨e.out, (below_box w _).drew⟩
  by_cases h4 : x.kind = 4
  · have e : Hid (Ending.returned (.tuple #[.int .u8 4, .int .u64 x.items.length]) = Ending.returned (.tuple #[.int .u8 x.kind, .int .u64 (numP x)])) := by simp [Hid, numP, h4]
    clear h2 h3
    go_enter Tryd.func59, Tryd.ntmps59
    go_wp2
    go_region
    all_goals go_wp2
    all_goals go_ret2
    all_goals exact ⟨e.out, (below_box w _).drew⟩
  by_cases h5 : x.kind = 5
  · have e : Hid (Ending.returned (.tuple #[.int .u8 5, .int .u64 ((x.items.length : Int) / 2)]) = Ending.returned (.tuple #[.int .u8 x.kind, .int .u64 (numP x)])) := by simp [Hid, numP, h5]
    clear h2 h3 h4
    go_enter Tryd.func59, Tryd.ntmps59
    go_wp2
    go_region
    all_goals go_wp2
    all_goals go_ret2
    all_goals exact ⟨e.out, (below_box w _).drew⟩
  have e : Hid (Ending.returned (.tuple #[.int .u8 x.kind, .int .u64 x.n]) = Ending.returned (.tuple #[.int .u8 x.kind, .int .u64 (numP x)])) := by simp [Hid, numP, h2, h3, h4, h5]
  have b2 : (x.kind == 2) = false := by simp [h2]
  have b3 : (x.kind == 3) = false := by simp [h3]
  have b4 : (x.kind == 4) = false := by simp [h4]
  have b5 : (x.kind == 5) = false := by simp [h5]
  clear h2 h3 h4 h5
  go_enter Tryd.func59, Tryd.ntmps59
  go_wp2
  go_region
  all_goals go_wp2
  all_goals go_ret2
  all_goals exact ⟨e.out, (below_box w _).drew⟩

end Go.Proofs.YtdbhgngikglmcaaDoor
namespace Go.Proofs.YtdbhgngikglmcaaDoor
open Go.RowKit

theorem isNaN_iff (n : Nat) : isNaN n = true ↔ n / 2 ^ 52 % 2048 = 2047 ∧ n % 2 ^ 52 ≠ 0 := by
  simp [isNaN]
theorem read_nan (n : Nat) : (Ieee.double.read n).isNaN = isNaN n := by
  rw [Bool.eq_iff_iff, isNaN_iff]
  have hs : Ieee.double.signWeight = 9223372036854775808 := rfl
  have hb : Ieee.double.binade = 4503599627370496 := rfl
  have hi : Ieee.double.infRung = 9218868437227405312 := rfl
  simp only [Nat.reducePow]
  by_cases h1 : n % Ieee.double.signWeight < Ieee.double.binade
  · rw [show Ieee.double.read n = .number _ _ _ from if_pos h1]
    rw [hs, hb] at h1
    simp only [Ieee.Datum.isNaN, Bool.false_eq_true, false_iff]
    omega
  by_cases h2 : n % Ieee.double.signWeight < Ieee.double.infRung
  · rw [show Ieee.double.read n = .number _ _ _ from (if_neg h1).trans (if_pos h2)]
    rw [hs, hi] at h2
    simp only [Ieee.Datum.isNaN, Bool.false_eq_true, false_iff]
    omega
  by_cases h3 : n % Ieee.double.signWeight = Ieee.double.infRung
  · rw [show Ieee.double.read n = .infinity _ from (if_neg h1).trans ((if_neg h2).trans (if_pos h3))]
    rw [hs, hi] at h3
    simp only [Ieee.Datum.isNaN, Bool.false_eq_true, false_iff]
    omega
  rw [show Ieee.double.read n = .nan _ _ from (if_neg h1).trans ((if_neg h2).trans (if_neg h3))]
  rw [hs, hi] at h2 h3
  simp only [Ieee.Datum.isNaN, true_iff]
  omega
theorem order_self (d : Ieee.Datum) : (d.order d == some .eq) = !d.isNaN := by
  cases d with
  | nan a b => rfl
  | infinity s => cases s <;> rfl
  | number s m i =>
    simp [Ieee.Datum.order, Ieee.Datum.isNaN]

theorem order_feq (n : Nat) : (FloatKind.f64.format.order n n == some .eq) = !isNaN n := by
  show (Ieee.Datum.order (Ieee.double.read n) (Ieee.double.read n) == some .eq) = _
  rw [order_self, read_nan]
theorem order_fne (n : Nat) : (FloatKind.f64.format.order n n != some .eq) = isNaN n := by
  rw [bne, order_feq, Bool.not_not]
theorem run_f64frombits (n : Nat) (w : World) : (callFunc 75 #[.int .u64 (n : Int)]).run Tryd.prog w = .ok (.value (.float .f64 n)) w := by
  rw [run_callFunc_extern Tryd.func75 (by kernel_rfl) (by kernel_rfl) (by kernel_rfl) (e := Extern.MathFloatBits.float64frombits) (by kernel_rfl)]
  rfl
theorem run_f64bits (n : Nat) (w : World) : (callFunc 76 #[.float .f64 n]).run Tryd.prog w = .ok (.value (.int .u64 (n : Int))) w := by
  rw [run_callFunc_extern Tryd.func76 (by kernel_rfl) (by kernel_rfl) (by kernel_rfl) (e := Extern.MathFloatBits.float64bits) (by kernel_rfl)]
  rfl
theorem run_f32bits (n : Nat) (w : World) : (callFunc 78 #[.float .f32 n]).run Tryd.prog w = .ok (.value (.int .u32 (n : Int))) w := by
  rw [run_callFunc_extern Tryd.func78 (by kernel_rfl) (by kernel_rfl) (by kernel_rfl) (e := Extern.MathFloatBits.float32bits) (by kernel_rfl)]
  rfl
end Go.Proofs.YtdbhgngikglmcaaDoor
namespace Go.Proofs.YtdbhgngikglmcaaDoor
open Go.RowKit

set_option maxRecDepth 100000 in
set_option maxHeartbeats 1600000 in
theorem ref_Compare (w : World) (A B : Option Addr) (a b : List UInt8) (n m c d : Nat) (hn : n = a.length) (hm : m = b.length) (hna : n ≤ 1099511627776) (hmb : m ≤ 1099511627776) (ha : Src w A (a.map byteV)) (hb : Src w B (b.map byteV)) :
    Calls Tryd.prog 33 #[.slice A n c, .slice B m d] w fun e w' => e = .returned (.int .i64 (Lib.compareBytes a b)) ∧ Below w.heap.size w w' := by
  have HN := Lib.hid hn
  have HM := Lib.hid hm
  clear hn hm
  go_enter Tryd.func33, Tryd.ntmps33
  go_wp2_with fail
  go_loopw [5] (fun vi wr => ∃ k : Nat, k ≤ n ∧ k ≤ m ∧ vi = .int .i64 k ∧ Lib.compareBytes (a.drop k) (b.drop k) = Lib.compareBytes a b ∧ Below w.heap.size w wr) (fun vi _ => n - (intOf vi).toNat)
  case atStart => exact ⟨0, by omega, by omega, rfl, by simp, Below.refl _ _⟩
  case round =>
    obtain ⟨k, hk1, hk2, rfl, hc, hbr⟩ := hrel
    have hn := HN.out
    have hm := HM.out
    by_cases h1 : k < n
    · by_cases h2 : k < m
      · obtain ⟨ab, ao, rfl, hsa⟩ := (ha.below hbr) (by intro h; simp at h; subst h; simp at hn; omega)
        obtain ⟨bb, bo, rfl, hsb⟩ := (hb.below hbr) (by intro h; simp at h; subst h; simp at hm; omega)
        have ka : k < a.length := by omega
        have kb : k < b.length := by omega
        have p0 := hsa k (byteV a[k]) (by simp [ka])
        have q0 := hsb k (byteV b[k]) (by simp [kb])
        have hd : Lib.compareBytes (a.drop k) (b.drop k) = if a[k] < b[k] then -1 else if b[k] < a[k] then 1 else Lib.compareBytes (a.drop (k + 1)) (b.drop (k + 1)) := by
          rw [List.drop_eq_getElem_cons ka, List.drop_eq_getElem_cons kb, Lib.compareBytes]
        rw [hc] at hd
        generalize a[k]'ka = x at *
        generalize b[k]'kb = y at *
        have HD := Lib.hid hd
        clear hd hc hn hm hsa hsb ka kb
        go_upto_region 4 with fail
        refine wp_region_ways 8 (fun w' => w'.cell? ⟨ab, ao + k, none⟩ = some (byteV x) ∧ w'.cell? ⟨bb, bo + k, none⟩ = some (byteV y)) (by kernel_rfl) (⟨p0, q0⟩) (fun hHeld => ?_)
        refine Ways.take (i := 0) (v := ?_) rfl (by kernel_rfl) (fun _ _ _ h => h) (Or.inl ⟨by rfl, ?_⟩) hHeld ?_
        rotate_left
        · (intro w hSw; (try dsimp only at hSw); go_simp; try with_reducible rfl)
        try simp only [Act.put, List.setIfInBounds_toArray, List.set_cons_zero, List.set_cons_succ]
        refine Ways.take (i := 1) (v := ?_) rfl (by kernel_rfl) (fun _ _ _ h => h) (Or.inl ⟨by rfl, ?_⟩) hHeld ?_
        rotate_left
        · (intro w hSw; (try dsimp only at hSw); go_simp; try with_reducible rfl)
        try simp only [Act.put, List.setIfInBounds_toArray, List.set_cons_zero, List.set_cons_succ]
        refine Ways.take (i := 2) (v := ?_) rfl (by kernel_rfl) (fun _ _ _ h => h) (Or.inl ⟨by rfl, ?_⟩) hHeld ?_
        rotate_left
        · (intro w hSw; (try dsimp only at hSw); go_simp; try with_reducible rfl)
        try simp only [Act.put, List.setIfInBounds_toArray, List.set_cons_zero, List.set_cons_succ]
        refine Ways.take (i := 3) (v := ?_) rfl (by kernel_rfl) (fun _ _ _ h => h) (Or.inl ⟨by rfl, ?_⟩) hHeld ?_
        rotate_left
        · (intro w hSw; (try dsimp only at hSw); go_simp; try with_reducible rfl)
        try simp only [Act.put, List.setIfInBounds_toArray, List.set_cons_zero, List.set_cons_succ]
        refine Ways.take (i := 4) (v := ?_) rfl (by kernel_rfl) (fun _ _ _ h => h) (Or.inl ⟨by rfl, ?_⟩) hHeld ?_
        rotate_left
        · (intro w hSw; (try dsimp only at hSw); go_simp; try with_reducible rfl)
        try simp only [Act.put, List.setIfInBounds_toArray, List.set_cons_zero, List.set_cons_succ]
        refine Ways.take (i := 5) (v := ?_) rfl (by kernel_rfl) (fun _ _ _ h => h) (Or.inl ⟨by rfl, ?_⟩) hHeld ?_
        rotate_left
        · (intro w hSw; (try dsimp only at hSw); go_simp; try with_reducible rfl)
        try simp only [Act.put, List.setIfInBounds_toArray, List.set_cons_zero, List.set_cons_succ]
        refine Ways.take (i := 6) (v := ?_) rfl (by kernel_rfl) (fun _ _ _ h => h) (Or.inl ⟨by rfl, ?_⟩) hHeld ?_
        rotate_left
        · (intro w hSw; (try dsimp only at hSw); go_simp; try with_reducible rfl)
        try simp only [Act.put, List.setIfInBounds_toArray, List.set_cons_zero, List.set_cons_succ]
        refine Ways.take (i := 7) (v := ?_) rfl (by kernel_rfl) (fun _ _ _ h => h) (Or.inl ⟨by rfl, ?_⟩) hHeld ?_
        rotate_left
        · (intro w hSw; (try dsimp only at hSw); go_simp; try with_reducible rfl)
        try simp only [Act.put, List.setIfInBounds_toArray, List.set_cons_zero, List.set_cons_succ]
        refine Ways.one (i := 8) rfl (by kernel_rfl) (fun K hK => ?_)
        go_simp
        refine hK.out _ _ (fun h => absurd rfl h) (fun _ => ?_)
        clear hK K
        try simp only [Act.put, List.setIfInBounds_toArray, List.set_cons_zero, List.set_cons_succ]
        refine Ways.done (by kernel_rfl) ?_
        clear hHeld
        by_cases hxy : x = y
        · subst hxy
          have E : Hid (Lib.compareBytes (a.drop (k + 1)) (b.drop (k + 1)) = Lib.compareBytes a b) := by rw [Hid, HD.out, if_neg (UInt8.lt_irrefl x), if_neg (UInt8.lt_irrefl x)]
          have hb2 := hbr.drew
          go_wp2_with fail
          go_roundw
          case rel => exact ⟨k + 1, by omega, by omega, by go_num, E.out, hb2⟩
          case measure => simp [intOf]; omega
        · have hne : ((x.toNat : Int) != (y.toNat : Int)) = true := by
            rw [bne_iff_ne]
            intro h
            exact hxy (UInt8.toNat_inj.1 (by omega))
          have hb2 := hbr.drew.drew
          have HXY := Lib.hid hxy
          clear hxy
          go_upto_region 5 with fail
          refine wp_region_ways 8 (fun w' => w'.cell? ⟨ab, ao + k, none⟩ = some (byteV x) ∧ w'.cell? ⟨bb, bo + k, none⟩ = some (byteV y)) (by kernel_rfl) (⟨p0, q0⟩) (fun hHeld => ?_)
          refine Ways.take (i := 0) (v := ?_) rfl (by kernel_rfl) (fun _ _ _ h => h) (Or.inl ⟨by rfl, ?_⟩) hHeld ?_
          rotate_left
          · (intro w hSw; (try dsimp only at hSw); go_simp; try with_reducible rfl)
          try simp only [Act.put, List.setIfInBounds_toArray, List.set_cons_zero, List.set_cons_succ]
          refine Ways.take (i := 1) (v := ?_) rfl (by kernel_rfl) (fun _ _ _ h => h) (Or.inl ⟨by rfl, ?_⟩) hHeld ?_
          rotate_left
          · (intro w hSw; (try dsimp only at hSw); go_simp; try with_reducible rfl)
          try simp only [Act.put, List.setIfInBounds_toArray, List.set_cons_zero, List.set_cons_succ]
          refine Ways.take (i := 2) (v := ?_) rfl (by kernel_rfl) (fun _ _ _ h => h) (Or.inl ⟨by rfl, ?_⟩) hHeld ?_
          rotate_left
          · (intro w hSw; (try dsimp only at hSw); go_simp; try with_reducible rfl)
          try simp only [Act.put, List.setIfInBounds_toArray, List.set_cons_zero, List.set_cons_succ]
          refine Ways.take (i := 3) (v := ?_) rfl (by kernel_rfl) (fun _ _ _ h => h) (Or.inl ⟨by rfl, ?_⟩) hHeld ?_
          rotate_left
          · (intro w hSw; (try dsimp only at hSw); go_simp; try with_reducible rfl)
          try simp only [Act.put, List.setIfInBounds_toArray, List.set_cons_zero, List.set_cons_succ]
          refine Ways.take (i := 4) (v := ?_) rfl (by kernel_rfl) (fun _ _ _ h => h) (Or.inl ⟨by rfl, ?_⟩) hHeld ?_
          rotate_left
          · (intro w hSw; (try dsimp only at hSw); go_simp; try with_reducible rfl)
          try simp only [Act.put, List.setIfInBounds_toArray, List.set_cons_zero, List.set_cons_succ]
          refine Ways.take (i := 5) (v := ?_) rfl (by kernel_rfl) (fun _ _ _ h => h) (Or.inl ⟨by rfl, ?_⟩) hHeld ?_
          rotate_left
          · (intro w hSw; (try dsimp only at hSw); go_simp; try with_reducible rfl)
          try simp only [Act.put, List.setIfInBounds_toArray, List.set_cons_zero, List.set_cons_succ]
          refine Ways.take (i := 6) (v := ?_) rfl (by kernel_rfl) (fun _ _ _ h => h) (Or.inl ⟨by rfl, ?_⟩) hHeld ?_
          rotate_left
          · (intro w hSw; (try dsimp only at hSw); go_simp; try with_reducible rfl)
          try simp only [Act.put, List.setIfInBounds_toArray, List.set_cons_zero, List.set_cons_succ]
          refine Ways.take (i := 7) (v := ?_) rfl (by kernel_rfl) (fun _ _ _ h => h) (Or.inl ⟨by rfl, ?_⟩) hHeld ?_
          rotate_left
          · (intro w hSw; (try dsimp only at hSw); go_simp; try with_reducible rfl)
          try simp only [Act.put, List.setIfInBounds_toArray, List.set_cons_zero, List.set_cons_succ]
          refine Ways.one (i := 8) rfl (by kernel_rfl) (fun K hK => ?_)
          go_simp
          refine hK.out _ _ (fun h => absurd rfl h) (fun _ => ?_)
          clear hK K
          try simp only [Act.put, List.setIfInBounds_toArray, List.set_cons_zero, List.set_cons_succ]
          refine Ways.done (by kernel_rfl) ?_
          clear hHeld
          by_cases hl : x < y
          · have E : Hid (Lib.compareBytes a b = -1) := by rw [Hid, HD.out, if_pos hl]
            have hl2 : (x.toNat : Int) < (y.toNat : Int) := by have := UInt8.lt_iff_toNat_lt.1 hl; omega
            clear hl
            go_wp2_with fail
            go_ret
            exact ⟨by rw [E.out]; rfl, hb2⟩
          · have hg : y < x := by
              have := HXY.out
              rcases Nat.lt_trichotomy x.toNat y.toNat with h | h | h
              · exact absurd (UInt8.lt_iff_toNat_lt.2 h) hl
              · exact absurd (UInt8.toNat_inj.1 h) this
              · exact UInt8.lt_iff_toNat_lt.2 h
            have E : Hid (Lib.compareBytes a b = 1) := by rw [Hid, HD.out, if_neg hl, if_pos hg]
            have hl2 : (y.toNat : Int) ≤ (x.toNat : Int) := by have := UInt8.lt_iff_toNat_lt.1 hg; omega
            clear hl hg
            go_wp2_with fail
            go_ret
            exact ⟨by rw [E.out]; rfl, hbr.drew.drew⟩
      · have hkm : k = m := by omega
        have E : Hid (Lib.compareBytes a b = 1) := by
          rw [Hid, ← hc, List.drop_eq_getElem_cons (show k < a.length by omega), List.drop_eq_nil_of_le (show b.length ≤ k by omega), Lib.compareBytes]
        clear hc hn hm
        go_wp2_with fail
        go_ret
        exact ⟨by rw [E.out]; rfl, hbr⟩
    · have hkn : k = n := by omega
      by_cases h2 : k < m
      · have E : Hid (Lib.compareBytes a b = -1) := by
          rw [Hid, ← hc, List.drop_eq_nil_of_le (show a.length ≤ k by omega), List.drop_eq_getElem_cons (show k < b.length by omega), Lib.compareBytes]
        clear hc hn hm
        go_wp2_with fail
        go_ret
        exact ⟨by rw [E.out]; rfl, hbr⟩
      · have E : Hid (Lib.compareBytes a b = 0) := by
          rw [Hid, ← hc, List.drop_eq_nil_of_le (show a.length ≤ k by omega), List.drop_eq_nil_of_le (show b.length ≤ k by omega), Lib.compareBytes]
        clear hc hn hm
        go_wp2_with fail
        go_ret
        exact ⟨by rw [E.out]; rfl, hbr⟩
end Go.Proofs.YtdbhgngikglmcaaDoor
namespace Go.Proofs.YtdbhgngikglmcaaDoor
open Go.RowKit

theorem OwnB.blk {w : World} {g base : Nat} {cs : Array Value} {l : List UInt8} (h : Blk w g 5 cs) (hc : cs.toList = l.map byteV) (hb : base ≤ g) (hm : l.length ≤ 4096) (k : Nat) (hk : k = l.length) :
    OwnB w base (.slice (some ⟨g, 0, none⟩) k k) l := by
  subst hk
  refine ⟨by simp, .inr ⟨g, l.length, cs, rfl, hb, h, Nat.le_refl _, by simp only [maxLen]; omega, ?_, ?_⟩⟩
  · rw [← Array.length_toList, hc]; simp
  · rw [hc, Nat.mul_one]; exact List.take_of_length_le (by simp)
theorem size_u8 : (Tryd.prog.info? 5).map (·.size) = some 1 := by kernel_rfl
/-- The first j of the last s bytes of n. -/
def tailB (n s j : Nat) : List UInt8 := (List.range j).map fun t => u8 (n / 2 ^ (8 * (s - 1 - t)))
theorem tailB_succ (n s j : Nat) : tailB n s (j + 1) = tailB n s j ++ [u8 (n / 2 ^ (8 * (s - 1 - j)))] := by
  simp [tailB, List.range_succ]
theorem tailB_len (n s j : Nat) : (tailB n s j).length = j := by simp [tailB]
def tailF (n s j : Nat) : UInt8 := u8 (n / 2 ^ (8 * (s - 1 - j)))
/-- The size that Head writes, and its first byte. -/
def headS (n : Nat) : Nat := if n < 256 then 1 else if n < 65536 then 2 else if n < 4294967296 then 4 else 8
def headA (n : Nat) : Nat := if n < 256 then 24 else if n < 65536 then 25 else if n < 4294967296 then 26 else 27
def headF (m n : Nat) : UInt8 := u8 (m * 32 + headA n)
theorem headB_tail (m n : Nat) (h : 24 ≤ n) : headB m n = headF m n :: tailB n (headS n) (headS n) := by
  rw [headB, if_neg (by omega), headF, headA, headS]
  by_cases h1 : n < 256
  · simp [h1, tailB, List.range_succ]
  by_cases h2 : n < 65536
  · simp [h1, h2, tailB, List.range_succ]
  by_cases h3 : n < 4294967296
  · simp [h1, h2, h3, tailB, List.range_succ]
  · simp [h1, h2, h3, tailB, be8, List.range_succ]
theorem head_1 {n : Int} (h : n < 256) : headS n.toNat = 1 ∧ headA n.toNat = 24 := by
  constructor <;> (simp only [headS, headA]; repeat (first | rw [if_pos (by omega)] | rw [if_neg (by omega)]))
theorem head_2 {n : Int} (h : 256 ≤ n) (h' : n < 65536) : headS n.toNat = 2 ∧ headA n.toNat = 25 := by
  constructor <;> (simp only [headS, headA]; repeat (first | rw [if_pos (by omega)] | rw [if_neg (by omega)]))
theorem head_3 {n : Int} (h : 65536 ≤ n) (h' : n < 4294967296) : headS n.toNat = 4 ∧ headA n.toNat = 26 := by
  constructor <;> (simp only [headS, headA]; repeat (first | rw [if_pos (by omega)] | rw [if_neg (by omega)]))
theorem head_4 {n : Int} (h : 4294967296 ≤ n) : headS n.toNat = 8 ∧ headA n.toNat = 27 := by
  constructor <;> (simp only [headS, headA]; repeat (first | rw [if_pos (by omega)] | rw [if_neg (by omega)]))
theorem headS_le (n : Nat) : 1 ≤ headS n ∧ headS n ≤ 8 := by
  unfold headS
  repeat' split
  all_goals omega
theorem head_cell {m n : Int} (hm0 : 0 ≤ m) (hm : m < 8) (h0 : 0 ≤ n) (h : n < 24) : (#[.int .u8 (32 * m + n)] : Array Value).toList = (headB m.toNat n.toNat).map byteV := by
  rw [headB, if_pos (by omega)]
  simp only [List.map_cons, List.map_nil, byteV_u8]
  congr 2
  omega

set_option maxRecDepth 100000 in
set_option maxHeartbeats 1600000 in
theorem ref_Head (m n : Int) (w : World) (hm0 : 0 ≤ m) (hm : m < 8) (h0 : 0 ≤ n) (h1 : n < 18446744073709551616) :
    Calls Tryd.prog 65 #[.int .i64 m, .int .u64 n] w fun e w' => ∃ r, e = .returned r ∧ Fresh w (headB m.toNat n.toNat) r w' := by
  have H1 := Lib.hid h1
  have H0 := Lib.hid h0
  have K0 : IntKind.u8.wrap (32 * m + 24) = 32 * m + 24 := IntWalk.u8_in _ (by omega)
  have K1 : IntKind.i64.wrap (32 * m) = 32 * m := IntWalk.i64_in _ (by omega)
  have K2 : IntKind.i64.wrap (32 * m + 24) = 32 * m + 24 := IntWalk.i64_in _ (by omega)
  have K3 : IntKind.u8.wrap (32 * m) = 32 * m := IntWalk.u8_in _ (by omega)
  have hB := Blk.new w 5 #[.int .u8 (32 * m + 24)]
  have hb0 := below_box w (.cells #[.int .u8 (32 * m + 24)] 5)
  clear h1
  go_enter Tryd.func65, Tryd.ntmps65
  go_upto_block 0 with fail
  go_cut [5, 6] (fun s5 s6 wx => 24 ≤ n ∧ s5 = .slice (some ⟨w.heap.size, 0, none⟩) 1 1 ∧ s6 = .int .i64 (headS n.toNat : Int) ∧ Blk wx w.heap.size 5 #[.int .u8 (32 * m + (headA n.toNat : Int))] ∧ Below w.heap.size w wx)
  case first =>
    go_wp2_with fail
    · go_ret
      have hlt : n < 24 := by with_reducible assumption
      have hc := head_cell hm0 hm H0.out hlt
      have hB2 := Blk.new (w.alloc (.cells #[.int .u8 (32 * m + 24)] 5)) 5 #[.int .u8 (32 * m + n)]
      simp only [size_alloc] at hB2
      have hl1 : 1 = (headB m.toNat n.toNat).length := by rw [headB_length, if_pos (by omega)]
      exact ⟨_, rfl, OwnB.blk hB2 hc (by omega) (by omega) 1 hl1, hb0.alloc hb0.size _⟩
    · have h24 : 24 ≤ n := by with_reducible assumption
      have hlt : n < 256 := by with_reducible assumption
      obtain ⟨e1, e2⟩ := head_1 hlt
      go_meet
      rw [e1, e2]
      exact ⟨h24, rfl, rfl, hB, hb0⟩
    · have h24 : 24 ≤ n := by with_reducible assumption
      have hge : 256 ≤ n := by with_reducible assumption
      have hlt : n < 65536 := by with_reducible assumption
      obtain ⟨e1, e2⟩ := head_2 hge hlt
      go_meet
      rw [e1, e2]
      have := Blk.new w 5 #[.int .u8 (32 * m + 24 + 1)]
      rw [show 32 * m + 24 + 1 = 32 * m + ((25 : Nat) : Int) by omega] at this ⊢
      exact ⟨h24, rfl, rfl, this, below_box _ _⟩
    · have h24 : 24 ≤ n := by with_reducible assumption
      have hge : 65536 ≤ n := by with_reducible assumption
      have hlt : n < 4294967296 := by with_reducible assumption
      obtain ⟨e1, e2⟩ := head_3 hge hlt
      go_meet
      rw [e1, e2]
      have := Blk.new w 5 #[.int .u8 (32 * m + 24 + 2)]
      rw [show 32 * m + 24 + 2 = 32 * m + ((26 : Nat) : Int) by omega] at this ⊢
      exact ⟨h24, rfl, rfl, this, below_box _ _⟩
    · have h24 : 24 ≤ n := by with_reducible assumption
      have hge : 4294967296 ≤ n := by with_reducible assumption
      obtain ⟨e1, e2⟩ := head_4 hge
      go_meet
      rw [e1, e2]
      have := Blk.new w 5 #[.int .u8 (32 * m + 24 + 3)]
      rw [show 32 * m + 24 + 3 = 32 * m + ((27 : Nat) : Int) by omega] at this ⊢
      exact ⟨h24, rfl, rfl, this, below_box _ _⟩
  case rest =>
    obtain ⟨h24, rfl, rfl, hB2, hb2⟩ := hcut
    obtain ⟨hs1, hs2⟩ := headS_le n.toNat
    have HT := Lib.hid (headB_tail m.toNat n.toNat (by omega))
    generalize headS n.toNat = s at *
    have K5 : IntKind.i64.wrap ((s : Int) - 1) = (s : Int) - 1 := IntWalk.i64_in _ (by omega)
    have hO : OwnB wc w.heap.size (.slice (some ⟨w.heap.size, 0, none⟩) 1 1) [headF m.toNat n.toNat] := by
      refine OwnB.blk hB2 ?_ (Nat.le_refl _) (by simp) 1 rfl
      simp only [List.map_cons, List.map_nil, headF, byteV_u8]
      have : headA n.toNat ≤ 27 := by unfold headA; repeat' split
                                      all_goals omega
      congr 2
      omega
    go_upto_region 13 with fail
    go_loopw [5, 7] (fun v5 v7 wr => ∃ (j : Nat) (VA : Option Addr) (vc : Nat), j ≤ s ∧ v7 = .int .i64 ((s : Int) - 1 - j) ∧ v5 = .slice VA (1 + j) vc ∧ OwnB wr w.heap.size (.slice VA (1 + j) vc) (headF m.toNat n.toNat :: tailB n.toNat s j) ∧ Below w.heap.size w wr) (fun _ v7 _ => (intOf v7 + 1).toNat)
    case atStart => exact ⟨0, _, _, by omega, by go_num, rfl, hO, hb2⟩
    case round =>
      obtain ⟨j, VA, vc, hj, rfl, rfl, hOr, hbr⟩ := hrel
      by_cases hlt : j < s
      · have hge : (0 : Int) ≤ (s : Int) - 1 - j := by omega
        have hcell : (#[.int .u8 (n / 2 ^ (8 * (s - 1 - j)) % 256)] : Array Value).toList = [tailF n.toNat s j].map byteV := by
          simp only [List.map_cons, List.map_nil, tailF, byteV_u8]
          obtain ⟨n', rfl⟩ := Int.eq_ofNat_of_zero_le H0.out
          simp
        have hb3 := hbr.alloc hbr.size (.cells #[.int .u8 (n / 2 ^ (8 * (s - 1 - j)) % 256)] 5)
        have hO3 := hOr.alloc (.cells #[.int .u8 (n / 2 ^ (8 * (s - 1 - j)) % 256)] 5)
        have HC := Lib.hid hcell
        clear hcell
        go_wp2_with (at_builtin; refine stop_in ?_)
        unfold Stopped
        refine wpList_app_bytes rfl (.tmp 56) (.tmp 63) rfl w.heap.size _ _ rfl hO3 _ 1 _ [tailF n.toNat s j] rfl rfl (Src.new _ _ _ _ rfl _ HC.out) (by simp [tailB_len]; omega) hb3.size fun v' w7 hO7 hg7 hat7 => ?_
        have hl7 : (headF m.toNat n.toNat :: tailB n.toNat s j) ++ [tailF n.toNat s j] = headF m.toNat n.toNat :: tailB n.toNat s (j + 1) := by rw [tailB_succ]; rfl
        obtain ⟨VA', vc', rfl, _⟩ := hO7.form
        have hll : ((headF m.toNat n.toNat :: tailB n.toNat s j) ++ [tailF n.toNat s j]).length = 1 + (j + 1) := by simp [tailB_len]; omega
        rw [hll] at hO7
        rw [hll]
        rw [hl7] at hO7
        have hb7 := hb3.grown hg7 hb3.size (fun q hq => (hO3.lt q hq).1)
        clear hl7 hll hg7 hat7 hO3 hOr hb3 hbr
        go_wp2_with fail
        go_roundw
        case rel => exact ⟨j + 1, VA', vc', by omega, by rw [show ((j + 1 : Nat) : Int) = (j : Int) + 1 by omega, show (s : Int) - 1 - ((j : Int) + 1) = (s : Int) - 1 - j - 1 by omega], rfl, hO7, hb7⟩
        case measure => simp [intOf]; omega
      · have hjs : j = s := by omega
        subst hjs
        have E : Hid (headB m.toNat n.toNat = headF m.toNat n.toNat :: tailB n.toNat j j) := HT.out
        have hneg : (j : Int) - 1 - j < 0 := by omega
        go_wp2_with fail
        go_ret
        rw [E.out]
        exact ⟨_, rfl, hOr, hbr⟩
end Go.Proofs.YtdbhgngikglmcaaDoor
namespace Go.Proofs.YtdbhgngikglmcaaDoor
open Go.RowKit

theorem and_mod (a k : Nat) (ha : a < 2 ^ 64) (hk : k < 64) : bits .and .u64 (a : Int) ((2 ^ k - 1 : Nat) : Int) = ((a % 2 ^ k : Nat) : Int) := by
  rw [u64_and_nat a (2 ^ k - 1) (by simpa using ha) ?_, Nat.and_two_pow_sub_one_eq_mod]
  have : 2 ^ k < 2 ^ 64 := Nat.pow_lt_pow_right (by omega) hk
  omega

theorem or_add (a k b : Nat) (hb : b < 2 ^ k) (h : a * 2 ^ k + b < 2 ^ 64) : bits .or .u64 ((a * 2 ^ k : Nat) : Int) (b : Int) = ((a * 2 ^ k + b : Nat) : Int) := by
  rw [u64_or_nat _ _ (by omega) (by omega), Nat.mul_comm, Nat.two_pow_add_eq_or_of_lt hb]
theorem or_low (b k : Nat) (hb : b < 2 ^ k) (hk : k < 64) : bits .or .u64 (b : Int) ((2 ^ k : Nat) : Int) = ((b + 2 ^ k : Nat) : Int) := by
  have h1 : 2 ^ k < 2 ^ 64 := Nat.pow_lt_pow_right (by omega) hk
  rw [u64_or_nat _ _ (by omega) (by omega), Nat.or_comm]
  have := Nat.two_pow_add_eq_or_of_lt hb 1
  rw [Nat.mul_one] at this
  rw [← this, Nat.add_comm]
theorem pow_mask (k : Nat) (hk : k < 64) : IntKind.u64.wrap (IntKind.u64.wrap ((2 : Int) ^ k) - 1) = ((2 ^ k - 1 : Nat) : Int) := by
  have h1 : 2 ^ k < 2 ^ 64 := Nat.pow_lt_pow_right (by omega) hk
  have h2 : 0 < 2 ^ k := Nat.two_pow_pos k
  have e : (2 : Int) ^ k = ((2 ^ k : Nat) : Int) := by rw [Int.natCast_pow]; rfl
  simp only [Nat.reducePow] at h1
  have e1 : IntKind.u64.wrap ((2 ^ k : Nat) : Int) = ((2 ^ k : Nat) : Int) := IntWalk.u64_in _ (by omega)
  rw [e, e1, IntWalk.u64_in _ (by omega)]
  omega
set_option maxRecDepth 100000 in
theorem ref_IsNaN (n : Nat) (hn : n < 18446744073709551616) (w : World) :
    Calls Tryd.prog 68 #[.int .u64 (n : Int)] w fun e w' => e = .returned (.bool (isNaN n)) ∧ w = w' := by
  have A1 := and_mod (n / 2 ^ 52) 11 (by omega) (by omega)
  have A2 := and_mod n 52 (by omega) (by omega)
  have E : Hid (isNaN n = (((n / 2 ^ 52 % 2 ^ 11 : Nat) : Int) == 2047 && ((n % 2 ^ 52 : Nat) : Int) != 0)) := by
    rw [Hid, isNaN, Bool.eq_iff_iff]
    simp only [Bool.and_eq_true, beq_iff_eq, bne_iff_ne]
    omega
  simp only [Nat.reducePow, Nat.reduceSub] at A1 A2 E
  rw [Int.natCast_ediv] at A1
  have HN := Lib.hid hn
  have HA1 := Lib.hid A1
  have HA2 := Lib.hid A2
  clear hn A1 A2
  go_enter Tryd.func68, Tryd.ntmps68
  go_wp2_with fail
  all_goals
    go_ret
    refine ⟨?_, rfl⟩
    have A1 := HA1.out
    have A2 := HA2.out
    have E' := E.out
    show Ending.returned (Value.bool _) = _
    clear E HA1 HA2 HN
    simp_all

set_option maxRecDepth 100000 in
set_option maxHeartbeats 3200000 in
theorem ref_Narrow16 (n : Nat) (hn : n < 18446744073709551616) (w : World) :
    Calls Tryd.prog 81 #[.int .u64 (n : Int), .int .i64 5, .int .i64 10] w
      fun e w' => (∃ v : Nat, e = .returned (.tuple #[.int .u64 (v : Int), .bool (narrow n 5 10).isSome]) ∧ ∀ x, narrow n 5 10 = some x → v = x) ∧ w = w' := by
  have A1 := and_mod (n / 2 ^ 52) 11 (by omega) (by omega)
  have A2 := and_mod n 52 (by omega) (by omega)
  simp only [Nat.reducePow, Nat.reduceSub] at A1 A2
  rw [Int.natCast_ediv] at A1
  obtain ⟨ex, hex⟩ : ∃ ex, n / 4503599627370496 % 2048 = ex := ⟨_, rfl⟩
  obtain ⟨mx, hmx⟩ : ∃ mx, n % 4503599627370496 = mx := ⟨_, rfl⟩
  obtain ⟨sg, hsg⟩ : ∃ sg, n / 9223372036854775808 = sg := ⟨_, rfl⟩
  have hs1 : sg ≤ 1 := by omega
  have E : Hid (narrow n 5 10 = if ex = 2047 then (if mx = 0 then some (sg * 32768 + 31744) else none) else if ex = 0 then (if mx = 0 then some (sg * 32768) else none)
      else if 1023 + 31 ≤ ex + 15 then none else if 1023 < ex + 15 then (if mx % 4398046511104 = 0 then some (sg * 32768 + (ex + 15 - 1023) * 1024 + mx / 4398046511104) else none)
      else if 52 < 43 + (1023 - ex - 15) then none else if (mx + 4503599627370496) % 2 ^ (43 + (1023 - ex - 15)) = 0 then some (sg * 32768 + (mx + 4503599627370496) / 2 ^ (43 + (1023 - ex - 15))) else none) := by
    rw [Hid, narrow]
    simp only [Nat.reducePow, Nat.reduceSub, Nat.reduceAdd, Nat.reduceMul, hex, hmx, hsg]
  rw [hex] at A1
  rw [hmx] at A2
  have he1 : ex < 2048 := by omega
  have hm1 : mx < 4503599627370496 := by omega
  have A1' : bits .and .u64 ((n : Int) / 4503599627370496) 2047 = (ex : Int) := A1
  have A2' : bits .and .u64 (n : Int) 4503599627370495 = (mx : Int) := A2
  have K1 : IntKind.i64.wrap (ex : Int) = (ex : Int) := IntWalk.i64_in _ (by omega)
  have KS : Hid (IntKind.u64.wrap ((n : Int) / 9223372036854775808 * 32768) = ((sg * 2 ^ 15 : Nat) : Int)) := by
    rw [Hid, IntWalk.u64_in _ (by omega)]
    omega
  clear hn hex hmx hsg A1 A2
  go_enter Tryd.func81, Tryd.ntmps81
  go_wp2_with fail
  · have h1 : ex = 2047 := by
      have h : ((ex : Int) == 2047) = true := by assumption
      rw [beq_iff_eq] at h
      omega
    go_ret2
    have hor := or_add sg 15 31744 (by omega) (by omega)
    refine ⟨⟨sg * 32768 + 31744, ?_, ?_⟩, rfl⟩
    · show Ending.returned (Value.tuple #[Value.int .u64 _, Value.bool _]) = _
      rw [KS.out, E.out, if_pos h1]
      rw [show (31744 : Int) = ((31744 : Nat) : Int) from rfl, hor]
      by_cases h : mx = 0 <;> simp [h]
    · intro x hx
      rw [E.out, if_pos h1] at hx
      split at hx
      · injection hx
      · cases hx
  · have h1 : ¬ ex = 2047 := by
      have h : ((ex : Int) == 2047) = false := by assumption
      rw [beq_eq_false_iff_ne] at h
      omega
    have h2 : ex = 0 := by
      have h : ((ex : Int) == 0) = true := by assumption
      rw [beq_iff_eq] at h
      omega
    go_ret2
    refine ⟨⟨sg * 32768, ?_, ?_⟩, rfl⟩
    · show Ending.returned (Value.tuple #[Value.int .u64 _, Value.bool _]) = _
      rw [KS.out, E.out, if_neg h1, if_pos h2]
      by_cases h : mx = 0 <;> simp [h]
    · intro x hx
      rw [E.out, if_neg h1, if_pos h2] at hx
      split at hx
      · injection hx
      · cases hx
  all_goals
    have h1 : ¬ ex = 2047 := by
      have h : ((ex : Int) == 2047) = false := by assumption
      rw [beq_eq_false_iff_ne] at h
      omega
    have h2 : ¬ ex = 0 := by
      have h : ((ex : Int) == 0) = false := by assumption
      rw [beq_eq_false_iff_ne] at h
      omega
    rw [if_neg h1, if_neg h2] at E
  · have h3 : 1023 + 31 ≤ ex + 15 := by omega
    go_ret2
    refine ⟨⟨0, ?_, ?_⟩, rfl⟩
    · rw [E.out, if_pos h3]
      rfl
    · intro x hx
      rw [E.out, if_pos h3] at hx
      cases hx
  · have h3 : ¬ 1023 + 31 ≤ ex + 15 := by omega
    have h4 : 1023 < ex + 15 := by omega
    obtain ⟨q, hq⟩ : ∃ q, ex + 15 - 1023 = q := ⟨_, rfl⟩
    have hqi : ((ex : Int) - 1023 + 15) * 1024 = ((q * 1024 : Nat) : Int) := by omega
    have hmi : (mx : Int) / 4398046511104 = ((mx / 4398046511104 : Nat) : Int) := by omega
    have ha := and_mod mx 42 (by omega) (by omega)
    simp only [Nat.reducePow, Nat.reduceSub] at ha
    have ho1 := or_add sg 15 (q * 1024) (by omega) (by omega)
    have ho2 := or_add (sg * 2 ^ 5 + q) 10 (mx / 4398046511104) (by omega) (by omega)
    rw [show (sg * 2 ^ 5 + q) * 2 ^ 10 = sg * 2 ^ 15 + q * 1024 by omega] at ho2
    go_ret2
    refine ⟨⟨sg * 32768 + q * 1024 + mx / 4398046511104, ?_, ?_⟩, rfl⟩
    · show Ending.returned (Value.tuple #[Value.int .u64 _, Value.bool _]) = _
      rw [KS.out, E.out, if_neg h3, if_pos h4, hqi, hmi, ho1, ho2]
      have ha' : bits .and .u64 (mx : Int) 4398046511103 = ((mx % 4398046511104 : Nat) : Int) := ha
      rw [ha']
      by_cases h : mx % 4398046511104 = 0
      · rw [if_pos h, h]; rfl
      · rw [if_neg h]
        have : (((mx % 4398046511104 : Nat) : Int) == 0) = false := by rw [beq_eq_false_iff_ne]; omega
        rw [this]; rfl
    · intro x hx
      rw [E.out, if_neg h3, if_pos h4, hq] at hx
      split at hx
      · injection hx
      · cases hx
  · have h5 : 52 < 43 + (1023 - ex - 15) := by omega
    have h3 : ¬ 1023 + 31 ≤ ex + 15 := by omega
    have h4 : ¬ 1023 < ex + 15 := by omega
    go_ret2
    refine ⟨⟨0, ?_, ?_⟩, rfl⟩
    · rw [E.out, if_neg h3, if_neg h4, if_pos h5]
      rfl
    · intro x hx
      rw [E.out, if_neg h3, if_neg h4, if_pos h5] at hx
      cases hx
  · have h3 : ¬ 1023 + 31 ≤ ex + 15 := by omega
    have h4 : ¬ 1023 < ex + 15 := by omega
    have h5 : ¬ 52 < 43 + (1023 - ex - 15) := by omega
    obtain ⟨sh, hsh⟩ : ∃ sh, 43 + (1023 - ex - 15) = sh := ⟨_, rfl⟩
    have hsi : (43 - ((ex : Int) - 1023 + 15)).toNat = sh := by omega
    obtain ⟨full, hfull⟩ : ∃ full, mx + 4503599627370496 = full := ⟨_, rfl⟩
    have hof : bits .or .u64 (mx : Int) 4503599627370496 = (full : Int) := by
      have := or_low mx 52 (by omega) (by omega)
      simp only [Nat.reducePow] at this
      rw [← hfull]
      exact this
    have hw : IntKind.u64.wrap (IntKind.u64.wrap ((2 : Int) ^ sh) - 1) = ((2 ^ sh - 1 : Nat) : Int) := pow_mask sh (by omega)
    have hdv : (full : Int) / 2 ^ sh = ((full / 2 ^ sh : Nat) : Int) := by
      rw [Int.natCast_ediv, Int.natCast_pow]; rfl
    have hlt : full / 2 ^ sh < 2 ^ 15 := by
      apply Nat.div_lt_of_lt_mul
      have : 2 ^ 43 ≤ 2 ^ sh := Nat.pow_le_pow_right (by omega) (by omega)
      have h2 : 2 ^ 43 * 2 ^ 15 ≤ 2 ^ sh * 2 ^ 15 := Nat.mul_le_mul_right _ this
      simp only [Nat.reducePow, Nat.reduceMul] at h2 ⊢
      omega
    have ho := or_add sg 15 (full / 2 ^ sh) hlt (by simp only [Nat.reducePow] at hlt ⊢; omega)
    have ha := and_mod full sh (by omega) (by omega)
    go_ret2
    refine ⟨⟨sg * 32768 + full / 2 ^ sh, ?_, ?_⟩, rfl⟩
    · show Ending.returned (Value.tuple #[Value.int .u64 _, Value.bool _]) = _
      rw [KS.out, E.out, if_neg h3, if_neg h4, if_neg h5, hsi, hof, hw, ha, hdv, ho, hsh, hfull]
      by_cases h : full % 2 ^ sh = 0
      · rw [if_pos h, h]; rfl
      · rw [if_neg h]
        have : (((full % 2 ^ sh : Nat) : Int) == 0) = false := by rw [beq_eq_false_iff_ne]; omega
        rw [this]; rfl
    · intro x hx
      rw [E.out, if_neg h3, if_neg h4, if_neg h5, hsh, hfull] at hx
      split at hx
      · injection hx
      · cases hx
set_option maxRecDepth 100000 in
set_option maxHeartbeats 3200000 in
theorem ref_Narrow32 (n : Nat) (hn : n < 18446744073709551616) (w : World) :
    Calls Tryd.prog 81 #[.int .u64 (n : Int), .int .i64 8, .int .i64 23] w
      fun e w' => (∃ v : Nat, e = .returned (.tuple #[.int .u64 (v : Int), .bool (narrow n 8 23).isSome]) ∧ ∀ x, narrow n 8 23 = some x → v = x) ∧ w = w' := by
  have A1 := and_mod (n / 2 ^ 52) 11 (by omega) (by omega)
  have A2 := and_mod n 52 (by omega) (by omega)
  simp only [Nat.reducePow, Nat.reduceSub] at A1 A2
  rw [Int.natCast_ediv] at A1
  obtain ⟨ex, hex⟩ : ∃ ex, n / 4503599627370496 % 2048 = ex := ⟨_, rfl⟩
  obtain ⟨mx, hmx⟩ : ∃ mx, n % 4503599627370496 = mx := ⟨_, rfl⟩
  obtain ⟨sg, hsg⟩ : ∃ sg, n / 9223372036854775808 = sg := ⟨_, rfl⟩
  have hs1 : sg ≤ 1 := by omega
  have E : Hid (narrow n 8 23 = if ex = 2047 then (if mx = 0 then some (sg * 2147483648 + 2139095040) else none) else if ex = 0 then (if mx = 0 then some (sg * 2147483648) else none)
      else if 1023 + 255 ≤ ex + 127 then none else if 1023 < ex + 127 then (if mx % 536870912 = 0 then some (sg * 2147483648 + (ex + 127 - 1023) * 8388608 + mx / 536870912) else none)
      else if 52 < 30 + (1023 - ex - 127) then none else if (mx + 4503599627370496) % 2 ^ (30 + (1023 - ex - 127)) = 0 then some (sg * 2147483648 + (mx + 4503599627370496) / 2 ^ (30 + (1023 - ex - 127))) else none) := by
    rw [Hid, narrow]
    simp only [Nat.reducePow, Nat.reduceSub, Nat.reduceAdd, Nat.reduceMul, hex, hmx, hsg]
  rw [hex] at A1
  rw [hmx] at A2
  have he1 : ex < 2048 := by omega
  have hm1 : mx < 4503599627370496 := by omega
  have A1' : bits .and .u64 ((n : Int) / 4503599627370496) 2047 = (ex : Int) := A1
  have A2' : bits .and .u64 (n : Int) 4503599627370495 = (mx : Int) := A2
  have K1 : IntKind.i64.wrap (ex : Int) = (ex : Int) := IntWalk.i64_in _ (by omega)
  have KS : Hid (IntKind.u64.wrap ((n : Int) / 9223372036854775808 * 2147483648) = ((sg * 2 ^ 31 : Nat) : Int)) := by
    rw [Hid, IntWalk.u64_in _ (by omega)]
    omega
  clear hn hex hmx hsg A1 A2
  go_enter Tryd.func81, Tryd.ntmps81
  go_wp2_with fail
  · have h1 : ex = 2047 := by
      have h : ((ex : Int) == 2047) = true := by assumption
      rw [beq_iff_eq] at h
      omega
    go_ret2
    have hor := or_add sg 31 2139095040 (by omega) (by omega)
    refine ⟨⟨sg * 2147483648 + 2139095040, ?_, ?_⟩, rfl⟩
    · show Ending.returned (Value.tuple #[Value.int .u64 _, Value.bool _]) = _
      rw [KS.out, E.out, if_pos h1]
      rw [show (2139095040 : Int) = ((2139095040 : Nat) : Int) from rfl, hor]
      by_cases h : mx = 0 <;> simp [h]
    · intro x hx
      rw [E.out, if_pos h1] at hx
      split at hx
      · injection hx
      · cases hx
  · have h1 : ¬ ex = 2047 := by
      have h : ((ex : Int) == 2047) = false := by assumption
      rw [beq_eq_false_iff_ne] at h
      omega
    have h2 : ex = 0 := by
      have h : ((ex : Int) == 0) = true := by assumption
      rw [beq_iff_eq] at h
      omega
    go_ret2
    refine ⟨⟨sg * 2147483648, ?_, ?_⟩, rfl⟩
    · show Ending.returned (Value.tuple #[Value.int .u64 _, Value.bool _]) = _
      rw [KS.out, E.out, if_neg h1, if_pos h2]
      by_cases h : mx = 0 <;> simp [h]
    · intro x hx
      rw [E.out, if_neg h1, if_pos h2] at hx
      split at hx
      · injection hx
      · cases hx
  all_goals
    have h1 : ¬ ex = 2047 := by
      have h : ((ex : Int) == 2047) = false := by assumption
      rw [beq_eq_false_iff_ne] at h
      omega
    have h2 : ¬ ex = 0 := by
      have h : ((ex : Int) == 0) = false := by assumption
      rw [beq_eq_false_iff_ne] at h
      omega
    rw [if_neg h1, if_neg h2] at E
  · have h3 : 1023 + 255 ≤ ex + 127 := by omega
    go_ret2
    refine ⟨⟨0, ?_, ?_⟩, rfl⟩
    · rw [E.out, if_pos h3]
      rfl
    · intro x hx
      rw [E.out, if_pos h3] at hx
      cases hx
  · have h3 : ¬ 1023 + 255 ≤ ex + 127 := by omega
    have h4 : 1023 < ex + 127 := by omega
    obtain ⟨q, hq⟩ : ∃ q, ex + 127 - 1023 = q := ⟨_, rfl⟩
    have hqi : ((ex : Int) - 1023 + 127) * 8388608 = ((q * 8388608 : Nat) : Int) := by omega
    have hmi : (mx : Int) / 536870912 = ((mx / 536870912 : Nat) : Int) := by omega
    have ha := and_mod mx 29 (by omega) (by omega)
    simp only [Nat.reducePow, Nat.reduceSub] at ha
    have ho1 := or_add sg 31 (q * 8388608) (by omega) (by omega)
    have ho2 := or_add (sg * 2 ^ 8 + q) 23 (mx / 536870912) (by omega) (by omega)
    rw [show (sg * 2 ^ 8 + q) * 2 ^ 23 = sg * 2 ^ 31 + q * 8388608 by omega] at ho2
    go_ret2
    refine ⟨⟨sg * 2147483648 + q * 8388608 + mx / 536870912, ?_, ?_⟩, rfl⟩
    · show Ending.returned (Value.tuple #[Value.int .u64 _, Value.bool _]) = _
      rw [KS.out, E.out, if_neg h3, if_pos h4, hqi, hmi, ho1, ho2]
      have ha' : bits .and .u64 (mx : Int) 536870911 = ((mx % 536870912 : Nat) : Int) := ha
      rw [ha']
      by_cases h : mx % 536870912 = 0
      · rw [if_pos h, h]; rfl
      · rw [if_neg h]
        have : (((mx % 536870912 : Nat) : Int) == 0) = false := by rw [beq_eq_false_iff_ne]; omega
        rw [this]; rfl
    · intro x hx
      rw [E.out, if_neg h3, if_pos h4, hq] at hx
      split at hx
      · injection hx
      · cases hx
  · have h5 : 52 < 30 + (1023 - ex - 127) := by omega
    have h3 : ¬ 1023 + 255 ≤ ex + 127 := by omega
    have h4 : ¬ 1023 < ex + 127 := by omega
    go_ret2
    refine ⟨⟨0, ?_, ?_⟩, rfl⟩
    · rw [E.out, if_neg h3, if_neg h4, if_pos h5]
      rfl
    · intro x hx
      rw [E.out, if_neg h3, if_neg h4, if_pos h5] at hx
      cases hx
  · have h3 : ¬ 1023 + 255 ≤ ex + 127 := by omega
    have h4 : ¬ 1023 < ex + 127 := by omega
    have h5 : ¬ 52 < 30 + (1023 - ex - 127) := by omega
    obtain ⟨sh, hsh⟩ : ∃ sh, 30 + (1023 - ex - 127) = sh := ⟨_, rfl⟩
    have hsi : (30 - ((ex : Int) - 1023 + 127)).toNat = sh := by omega
    obtain ⟨full, hfull⟩ : ∃ full, mx + 4503599627370496 = full := ⟨_, rfl⟩
    have hof : bits .or .u64 (mx : Int) 4503599627370496 = (full : Int) := by
      have := or_low mx 52 (by omega) (by omega)
      simp only [Nat.reducePow] at this
      rw [← hfull]
      exact this
    have hw : IntKind.u64.wrap (IntKind.u64.wrap ((2 : Int) ^ sh) - 1) = ((2 ^ sh - 1 : Nat) : Int) := pow_mask sh (by omega)
    have hdv : (full : Int) / 2 ^ sh = ((full / 2 ^ sh : Nat) : Int) := by
      rw [Int.natCast_ediv, Int.natCast_pow]; rfl
    have hlt : full / 2 ^ sh < 2 ^ 31 := by
      apply Nat.div_lt_of_lt_mul
      have : 2 ^ 30 ≤ 2 ^ sh := Nat.pow_le_pow_right (by omega) (by omega)
      have h2 : 2 ^ 30 * 2 ^ 31 ≤ 2 ^ sh * 2 ^ 31 := Nat.mul_le_mul_right _ this
      simp only [Nat.reducePow, Nat.reduceMul] at h2 ⊢
      omega
    have ho := or_add sg 31 (full / 2 ^ sh) hlt (by simp only [Nat.reducePow] at hlt ⊢; omega)
    have ha := and_mod full sh (by omega) (by omega)
    go_ret2
    refine ⟨⟨sg * 2147483648 + full / 2 ^ sh, ?_, ?_⟩, rfl⟩
    · show Ending.returned (Value.tuple #[Value.int .u64 _, Value.bool _]) = _
      rw [KS.out, E.out, if_neg h3, if_neg h4, if_neg h5, hsi, hof, hw, ha, hdv, ho, hsh, hfull]
      by_cases h : full % 2 ^ sh = 0
      · rw [if_pos h, h]; rfl
      · rw [if_neg h]
        have : (((full % 2 ^ sh : Nat) : Int) == 0) = false := by rw [beq_eq_false_iff_ne]; omega
        rw [this]; rfl
    · intro x hx
      rw [E.out, if_neg h3, if_neg h4, if_neg h5, hsh, hfull] at hx
      split at hx
      · injection hx
      · cases hx
end Go.Proofs.YtdbhgngikglmcaaDoor
namespace Go.Proofs.YtdbhgngikglmcaaDoor
open Go.RowKit

def byteN (n k : Nat) : UInt8 := u8 (n / 2 ^ (56 - 8 * k))
theorem byteN_cell (n k : Nat) : (#[.int .u8 ((n : Int) / 2 ^ (56 - 8 * k) % 256)] : Array Value).toList = [byteN n k].map byteV := by
  simp only [List.map_cons, List.map_nil, byteN, byteV_u8]
  simp
theorem be8_byteN (n k : Nat) : be8 n k ++ [byteN n k] = be8 n (k + 1) := rfl

set_option maxRecDepth 100000 in
set_option maxHeartbeats 1600000 in
theorem cbor_wide (n : Nat) (hn : n < 18446744073709551616) (w : World) :
    Calls Tryd.prog 77 #[.int .u64 (n : Int)] w fun e w' => ∃ r, e = .returned r ∧ Fresh w (be8 n 8) r w' := by
  have HN := Lib.hid hn
  clear hn
  have hO := OwnB.nil w w.heap.size
  have hb := Below.refl w.heap.size w
  go_enter Tryd.func77, Tryd.ntmps77
  go_wp2_with fail
  go_loopw [3, 4] (fun v3 v4 wr => ∃ (k : Nat) (VA : Option Addr) (vc : Nat), k ≤ 8 ∧ v4 = .int .i64 (56 - 8 * (k : Int)) ∧ v3 = .slice VA k vc ∧ OwnB wr w.heap.size (.slice VA k vc) (be8 n k) ∧ Below w.heap.size w wr) (fun _ v4 _ => (intOf v4 + 8).toNat)
  case atStart => exact ⟨0, none, 0, by omega, rfl, rfl, hO, hb⟩
  case round =>
    obtain ⟨k, VA, vc, hk, rfl, rfl, hOr, hbr⟩ := hrel
    by_cases hlt : k < 8
    · have hcell := byteN_cell n k
      have hb3 := hbr.alloc hbr.size (.cells #[.int .u8 ((n : Int) / 2 ^ (56 - 8 * k) % 256)] 5)
      have hO3 := hOr.alloc (.cells #[.int .u8 ((n : Int) / 2 ^ (56 - 8 * k) % 256)] 5)
      have HC := Lib.hid hcell
      clear hcell
      go_wp2_with (at_builtin; refine stop_in ?_)
      unfold Stopped
      refine wpList_app_bytes rfl (.tmp 9) (.tmp 14) rfl w.heap.size _ _ rfl hO3 _ 1 _ [byteN n k] rfl rfl (Src.new _ _ _ _ rfl _ HC.out) (by simp [be8_length]; omega) hb3.size fun v' w7 hO7 hg7 hat7 => ?_
      obtain ⟨VA', vc', rfl, _⟩ := hO7.form
      have hll : (be8 n k ++ [byteN n k]).length = k + 1 := by simp [be8_length]
      have hO7' : OwnB w7 w.heap.size (.slice VA' (k + 1) vc') (be8 n (k + 1)) := by
        rw [hll] at hO7
        exact hO7
      rw [hll]
      have hb7 := hb3.grown hg7 hb3.size (fun q hq => (hO3.lt q hq).1)
      clear hll hg7 hat7 hO3 hOr hb3 hbr hO7
      go_wp2_with fail
      go_roundw
      case rel => exact ⟨k + 1, VA', vc', by omega, by go_num, rfl, hO7', hb7⟩
      case measure => simp [intOf]; omega
    · have hk8 : k = 8 := by omega
      subst hk8
      go_wp2_with fail
      go_ret
      exact ⟨_, rfl, hOr, hbr⟩

theorem and_mod32 (a k : Nat) (ha : a < 4294967296) (hk : k < 32) : bits .and .u32 (a : Int) ((2 ^ k - 1 : Nat) : Int) = ((a % 2 ^ k : Nat) : Int) := by
  have : 2 ^ k < 2 ^ 32 := Nat.pow_lt_pow_right (by omega) hk
  simp only [Nat.reducePow] at this
  rw [u32_and_nat a (2 ^ k - 1) ha (by omega), Nat.and_two_pow_sub_one_eq_mod]
theorem or_low32 (b k : Nat) (hb : b < 2 ^ k) (hk : k < 31) : bits .or .u32 (b : Int) ((2 ^ k : Nat) : Int) = ((b + 2 ^ k : Nat) : Int) := by
  have h1 : 2 ^ k < 2 ^ 31 := Nat.pow_lt_pow_right (by omega) hk
  simp only [Nat.reducePow] at h1
  rw [u32_or_nat _ _ (by omega) (by omega), Nat.or_comm]
  have := Nat.two_pow_add_eq_or_of_lt hb 1
  rw [Nat.mul_one] at this
  rw [← this, Nat.add_comm]
theorem or_add16 (a k b : Nat) (hb : b < 2 ^ k) (h : a * 2 ^ k + b < 65536) : bits .or .u16 ((a * 2 ^ k : Nat) : Int) (b : Int) = ((a * 2 ^ k + b : Nat) : Int) := by
  rw [u16_or_nat _ _ (by omega) (by omega), Nat.mul_comm, Nat.two_pow_add_eq_or_of_lt hb]
theorem pow_mask32 (k : Nat) (hk : k < 32) : IntKind.u32.wrap (IntKind.u32.wrap ((2 : Int) ^ k) - 1) = ((2 ^ k - 1 : Nat) : Int) := by
  have h1 : 2 ^ k < 2 ^ 32 := Nat.pow_lt_pow_right (by omega) hk
  have h2 : 0 < 2 ^ k := Nat.two_pow_pos k
  have e : (2 : Int) ^ k = ((2 ^ k : Nat) : Int) := by rw [Int.natCast_pow]; rfl
  simp only [Nat.reducePow] at h1
  have e1 : IntKind.u32.wrap ((2 ^ k : Nat) : Int) = ((2 ^ k : Nat) : Int) := IntWalk.u32_in _ (by omega)
  rw [e, e1, IntWalk.u32_in _ (by omega)]
  omega

theorem u16_nat (q : Nat) (h : q < 65536) : IntKind.u16.wrap (q : Int) = (q : Int) := IntWalk.u16_in _ (by omega)
set_option maxRecDepth 100000 in
set_option maxHeartbeats 3200000 in
theorem cbor_half (v : Nat) (hv : v < 4294967296) (w : World) :
    Calls Tryd.prog 79 #[.int .u32 (v : Int)] w
      fun e w' => (∃ h : Nat, e = .returned (.tuple #[.int .u16 (h : Int), .bool (halfP v).isSome]) ∧ ∀ x, halfP v = some x → h = x) ∧ w = w' := by
  have A1 := and_mod32 (v / 2 ^ 23) 8 (by omega) (by omega)
  have A2 := and_mod32 v 23 hv (by omega)
  simp only [Nat.reducePow, Nat.reduceSub] at A1 A2
  rw [Int.natCast_ediv] at A1
  obtain ⟨ex, hex⟩ : ∃ ex, v / 8388608 % 256 = ex := ⟨_, rfl⟩
  obtain ⟨mx, hmx⟩ : ∃ mx, v % 8388608 = mx := ⟨_, rfl⟩
  obtain ⟨sg, hsg⟩ : ∃ sg, v / 2147483648 = sg := ⟨_, rfl⟩
  have hs1 : sg ≤ 1 := by omega
  have E : Hid (halfP v = if ex = 255 then some (sg * 32768 + 31744) else if ex = 0 then (if mx = 0 then some (sg * 32768) else none)
      else if 113 ≤ ex ∧ ex ≤ 142 then (if mx % 8192 = 0 then some (sg * 32768 + (ex - 112) * 1024 + mx / 8192) else none)
      else if 103 ≤ ex ∧ ex < 113 then (if (mx + 8388608) % 2 ^ (126 - ex) = 0 then some (sg * 32768 + (mx + 8388608) / 2 ^ (126 - ex)) else none) else none) := by
    rw [Hid, halfP]
    simp only [hex, hmx, hsg]
  rw [hex] at A1
  rw [hmx] at A2
  have he1 : ex < 256 := by omega
  have hm1 : mx < 8388608 := by omega
  have A1' : bits .and .u32 ((v : Int) / 8388608) 255 = (ex : Int) := A1
  have A2' : bits .and .u32 (v : Int) 8388607 = (mx : Int) := A2
  have K1 : IntKind.i64.wrap (ex : Int) = (ex : Int) := IntWalk.i64_in _ (by omega)
  have KS : Hid (IntKind.u16.wrap ((v : Int) / 2147483648 * 32768 % 4294967296) = ((sg * 2 ^ 15 : Nat) : Int)) := by
    have h : (v : Int) / 2147483648 * 32768 % 4294967296 = (sg : Int) * 32768 := by omega
    simp only [Nat.reducePow]
    rw [Hid, h, IntWalk.u16_in _ (by omega)]
    omega
  clear hv hex hmx hsg A1 A2
  go_enter Tryd.func79, Tryd.ntmps79
  go_wp2_with fail
  · have h1 : ex = 255 := by
      have h : ((ex : Int) == 255) = true := by assumption
      rw [beq_iff_eq] at h
      omega
    go_ret2
    have hor := or_add16 sg 15 31744 (by omega) (by omega)
    refine ⟨⟨sg * 32768 + 31744, ?_, ?_⟩, rfl⟩
    · show Ending.returned (Value.tuple #[Value.int .u16 _, Value.bool _]) = _
      rw [KS.out, E.out, if_pos h1]
      rw [show (31744 : Int) = ((31744 : Nat) : Int) from rfl, hor]
      rfl
    · intro x hx
      rw [E.out, if_pos h1] at hx
      injection hx
  all_goals
    have h1 : ¬ ex = 255 := by
      have h : ((ex : Int) == 255) = false := by assumption
      rw [beq_eq_false_iff_ne] at h
      omega
    rw [if_neg h1] at E
  · have h2 : ex = 0 := by
      have h : ((ex : Int) == 0) = true := by assumption
      rw [beq_iff_eq] at h
      omega
    rw [if_pos h2] at E
    go_ret2
    refine ⟨⟨sg * 32768, ?_, ?_⟩, rfl⟩
    · show Ending.returned (Value.tuple #[Value.int .u16 _, Value.bool _]) = _
      rw [KS.out, E.out]
      by_cases h : mx = 0 <;> simp [h]
    · intro x hx
      rw [E.out] at hx
      split at hx
      · injection hx
      · cases hx
  all_goals
    have h2 : ¬ ex = 0 := by
      have h : ((ex : Int) == 0) = false := by assumption
      rw [beq_eq_false_iff_ne] at h
      omega
    rw [if_neg h2] at E
  · have h3 : 113 ≤ ex ∧ ex ≤ 142 := by omega
    rw [if_pos h3] at E
    obtain ⟨q, hq⟩ : ∃ q, ex - 112 = q := ⟨_, rfl⟩
    have hqi : ((ex : Int) - 112) * 1024 = ((q * 1024 : Nat) : Int) := by omega
    have hmi : (mx : Int) / 8192 = ((mx / 8192 : Nat) : Int) := by omega
    have ha := and_mod32 mx 13 (by omega) (by omega)
    simp only [Nat.reducePow, Nat.reduceSub] at ha
    have ho1 := or_add16 sg 15 (q * 1024) (by omega) (by omega)
    have ho2 := or_add16 (sg * 2 ^ 5 + q) 10 (mx / 8192) (by omega) (by omega)
    rw [show (sg * 2 ^ 5 + q) * 2 ^ 10 = sg * 2 ^ 15 + q * 1024 by omega] at ho2
    go_ret2
    refine ⟨⟨sg * 32768 + q * 1024 + mx / 8192, ?_, ?_⟩, rfl⟩
    · show Ending.returned (Value.tuple #[Value.int .u16 _, Value.bool _]) = _
      rw [KS.out, E.out, hqi, hmi, ho1, ho2]
      have ha' : bits .and .u32 (mx : Int) 8191 = ((mx % 8192 : Nat) : Int) := ha
      rw [ha']
      by_cases h : mx % 8192 = 0
      · rw [if_pos h, h]; rfl
      · rw [if_neg h]
        have : (((mx % 8192 : Nat) : Int) == 0) = false := by rw [beq_eq_false_iff_ne]; omega
        rw [this]; rfl
    · intro x hx
      rw [E.out, hq] at hx
      split at hx
      · injection hx
      · cases hx
  · have h3 : ¬ (113 ≤ ex ∧ ex ≤ 142) := by omega
    have h4 : ¬ (103 ≤ ex ∧ ex < 113) := by omega
    rw [if_neg h3, if_neg h4] at E
    go_ret2
    refine ⟨⟨0, ?_, ?_⟩, rfl⟩
    · rw [E.out]; rfl
    · intro x hx
      rw [E.out] at hx
      cases hx
  · have h3 : ¬ (113 ≤ ex ∧ ex ≤ 142) := by omega
    have h4 : 103 ≤ ex ∧ ex < 113 := by omega
    rw [if_neg h3, if_pos h4] at E
    obtain ⟨sh, hsh⟩ : ∃ sh, 126 - ex = sh := ⟨_, rfl⟩
    obtain ⟨full, hfull⟩ : ∃ full, mx + 8388608 = full := ⟨_, rfl⟩
    have hof : bits .or .u32 (mx : Int) 8388608 = (full : Int) := by
      have := or_low32 mx 23 (by omega) (by omega)
      simp only [Nat.reducePow] at this
      rw [← hfull]
      exact this
    have hp : 2 ^ sh < 2 ^ 32 := Nat.pow_lt_pow_right (by omega) (by omega)
    have hp0 : 0 < 2 ^ sh := Nat.two_pow_pos sh
    simp only [Nat.reducePow] at hp
    have hwi : (2 : Int) ^ sh = ((2 ^ sh : Nat) : Int) := by rw [Int.natCast_pow]; rfl
    have hw : ((2 : Int) ^ sh - 1) % 4294967296 = ((2 ^ sh - 1 : Nat) : Int) := by rw [hwi]; omega
    have hdv : (full : Int) / 2 ^ sh = ((full / 2 ^ sh : Nat) : Int) := by
      rw [Int.natCast_ediv, Int.natCast_pow]; rfl
    have hlt : full / 2 ^ sh < 2 ^ 15 := by
      apply Nat.div_lt_of_lt_mul
      have h1 : 2 ^ 14 ≤ 2 ^ sh := Nat.pow_le_pow_right (by omega) (by omega)
      have h2 : 2 ^ 14 * 2 ^ 15 ≤ 2 ^ sh * 2 ^ 15 := Nat.mul_le_mul_right _ h1
      simp only [Nat.reducePow, Nat.reduceMul] at h2 ⊢
      omega
    have hlt' : full / 2 ^ sh < 32768 := hlt
    have hwr : IntKind.u16.wrap ((full / 2 ^ sh : Nat) : Int) = ((full / 2 ^ sh : Nat) : Int) := u16_nat _ (by omega)
    have ho := or_add16 sg 15 (full / 2 ^ sh) hlt (by simp only [Nat.reducePow]; omega)
    have ha := and_mod32 full sh (by omega) (by omega)
    go_ret2
    refine ⟨⟨sg * 32768 + full / 2 ^ sh, ?_, ?_⟩, rfl⟩
    · show Ending.returned (Value.tuple #[Value.int .u16 _, Value.bool _]) = _
      rw [KS.out, E.out, hsh, hof, hw, ha, hdv, hwr, ho, hfull]
      by_cases h : full % 2 ^ sh = 0
      · rw [if_pos h, h]; rfl
      · rw [if_neg h]
        have : (((full % 2 ^ sh : Nat) : Int) == 0) = false := by rw [beq_eq_false_iff_ne]; omega
        rw [this]; rfl
    · intro x hx
      rw [E.out, hsh, hfull] at hx
      split at hx
      · injection hx
      · cases hx
  · have h3 : ¬ (113 ≤ ex ∧ ex ≤ 142) := by omega
    have h4 : ¬ (103 ≤ ex ∧ ex < 113) := by omega
    rw [if_neg h3, if_neg h4] at E
    go_ret2
    refine ⟨⟨0, ?_, ?_⟩, rfl⟩
    · rw [E.out]; rfl
    · intro x hx
      rw [E.out] at hx
      cases hx
end Go.Proofs.YtdbhgngikglmcaaDoor
namespace Go.Proofs.YtdbhgngikglmcaaDoor
open Go.RowKit

theorem conv_f32 (n : Nat) (hN : isNaN n = false) (w : World) : ∃ r w', (convert 112 114 (.float .f64 n)).run Tryd.prog w = .ok (.float .f32 r) w' ∧ (w' = w ∨ w' = w.drew) ∧ r < 4294967296 ∧ (∀ s x f v, Nar31 n v s x f → r = v) := by
  have hs : Tryd.prog.underlying 112 = some (.float .f64) := Tryd.underlying112
  have hd : Tryd.prog.underlying 114 = some (.float .f32) := Tryd.underlying114
  cases hb : floatToFloatBits .f64 n .f32 with
  | some r =>
    have hs' : (Tryd.prog.underlying 112).isSome = true := by rw [hs]; rfl
    refine ⟨r, w, run_convert_float_float (P := Tryd.prog) (w := w) 112 114 .f64 .f32 n r hs' hd hb, .inl rfl, ?_, ?_⟩
    · unfold floatToFloatBits at hb
      rw [if_neg (by decide)] at hb
      have hlt : ∀ d : Ieee.Datum, FloatKind.encode .f32 d < 4294967296 := fun d => Ieee.single.write_lt d
      split at hb
      · cases hb
      · injection hb with hb; rw [← hb]; exact hlt _
      · split at hb
        · cases hb
        · injection hb with hb; rw [← hb]; exact hlt _
    · intro s x f v h
      have := slim_of h
      rw [hb] at this
      injection this
  | none =>
    have hbb := hb
    unfold floatToFloatBits at hb
    rw [if_neg (by decide)] at hb
    have hnn : ¬ (∃ a b, FloatKind.decode .f64 n = .nan a b) := by
      rintro ⟨a, b, h⟩
      have := read_nan n
      rw [hN] at this
      have h' : Ieee.double.read n = .nan a b := h
      rw [h'] at this
      cases this
    cases hq : FloatKind.decode .f64 n with
    | nan a b => exact absurd ⟨a, b, hq⟩ hnn
    | infinity a => rw [hq] at hb; cases hb
    | number a b c =>
      rw [hq] at hb
      simp only at hb
      split at hb
      · rename_i ho
        refine ⟨(Question.floatToFloat n).cut (w.tape w.drawn (Question.floatToFloat n)), w.drew, ?_, .inr rfl, ?_, ?_⟩
        · simp [convert, run_underlying hs, run_underlying hd, Conv.floatToFloat, hq, ho, Question.forced]
        · show _ % 2 ^ 32 < 4294967296
          omega
        · intro s x f v h
          have := slim_of h
          rw [hbb] at this
          cases this
      · cases hb
theorem conv_f64 (r n : Nat) (hN : isNaN n = false) (hr : r < 4294967296) (w : World) : ∃ m w', (convert 114 112 (.float .f32 r)).run Tryd.prog w = .ok (.float .f64 m) w' ∧ (w' = w ∨ w' = w.drew) ∧ (m = n → narrow n 8 23 = some r) ∧ (∀ s x f, Nar31 n r s x f → m = n) := by
  have hs : Tryd.prog.underlying 114 = some (.float .f32) := Tryd.underlying114
  have hd : Tryd.prog.underlying 112 = some (.float .f64) := Tryd.underlying112
  cases hn : (Ieee.single.read r).isNaN with
  | false =>
    obtain ⟨m, s, x, f, _, hx⟩ := single_fields hr hn
    have hw := wide_of hx
    have hs' : (Tryd.prog.underlying 114).isSome = true := by rw [hs]; rfl
    refine ⟨m, w, run_convert_float_float (P := Tryd.prog) (w := w) 114 112 .f32 .f64 r m hs' hd hw, .inl rfl, ?_, ?_⟩
    · rintro rfl
      exact narrow31_of hx
    · intro s' x' f' h
      have := wide_of h
      rw [hw] at this
      injection this
  | true =>
    cases hq : FloatKind.decode .f32 r with
    | number a b c =>
      have h' : Ieee.single.read r = .number a b c := hq
      rw [h'] at hn; cases hn
    | infinity a =>
      have h' : Ieee.single.read r = .infinity a := hq
      rw [h'] at hn; cases hn
    | nan a b =>
      refine ⟨(Question.nanConv .f64 r).cut (w.tape w.drawn (Question.nanConv .f64 r)), w.drew, ?_, .inr rfl, ?_, ?_⟩
      · simp [convert, run_underlying hs, run_underlying hd, Conv.floatToFloat, hq, Question.forced]
      · intro h
        exfalso
        have hnan : isNaN ((Question.nanConv .f64 r).cut (w.tape w.drawn (Question.nanConv .f64 r))) = true := by
          rw [isNaN_iff]
          show (_ % 2 * 2 ^ 63 + 0x7ff0000000000000 + 1 + _ / 2 % (2 ^ 52 - 1)) / 2 ^ 52 % 2048 = 2047 ∧ _
          generalize w.tape w.drawn (Question.nanConv .f64 r) = t
          show (t % 2 * 2 ^ 63 + 0x7ff0000000000000 + 1 + t / 2 % (2 ^ 52 - 1)) / 2 ^ 52 % 2048 = 2047 ∧ (t % 2 * 2 ^ 63 + 0x7ff0000000000000 + 1 + t / 2 % (2 ^ 52 - 1)) % 2 ^ 52 ≠ 0
          generalize t / 2 = u
          have : t % 2 = 0 ∨ t % 2 = 1 := by omega
          rcases this with h | h <;> rw [h] <;> simp only [Nat.reducePow, Nat.reduceSub, Nat.reduceMul, Nat.reduceAdd, Nat.zero_add] <;> omega
        rw [h, hN] at hnan
        cases hnan
      · intro s x f h
        have := read_s h
        have h' : Ieee.single.read r = .nan a b := hq
        rw [h'] at this
        split at this
        · cases this
        · split at this <;> cases this

theorem Fresh.step_ {w w1 w2 : World} {l : List UInt8} {r : Value} (hb : Below w.heap.size w w1) (h : Fresh w1 l r w2) : Fresh w l r w2 := ⟨h.own.more hb.size, hb.trans (h.2.mono hb.size)⟩
/-- Who has no 32 bits has no 16. -/
theorem narrow15_none {n : Nat} (hn : n < 18446744073709551616) (h : narrow n 8 23 = none) : narrow n 5 10 = none := by
  cases h5 : narrow n 5 10 with
  | none => rfl
  | some v =>
    obtain ⟨s, x, f, a1, a2, a3, a4, a5⟩ := narrow15_spec hn h5
    have done : ∀ {x' f' : Nat}, Nar31 n (s * 2147483648 + x' * 8388608 + f') s x' f' → False := fun hx => by
      rw [narrow31_of hx] at h
      cases h
    rcases a5 with ⟨c1, c2, c3⟩ | ⟨c1, c2, c3⟩ | ⟨c1, c2, c3⟩ | ⟨c1, t, full, c2, c3, c4, c5, c6, c7⟩
    · exact (done (x' := 255) (f' := 0) ⟨a1, rfl, by omega, by omega, .inl ⟨rfl, rfl, c3⟩⟩).elim
    · exact (done (x' := 0) (f' := 0) ⟨a1, rfl, by omega, by omega, .inr (.inl ⟨rfl, rfl, c3⟩)⟩).elim
    · have C3 : n = s * 9223372036854775808 + (x + 112 + 896) * 4503599627370496 + f * 8192 * 536870912 := by
        rw [c3, Nat.mul_assoc f 8192, Nat.add_assoc x 112]
      have C := Lib.hid C3
      clear c3 C3
      have g1 : f * 8192 < 8388608 := by omega
      have g2 : x + 112 ≤ 255 := by omega
      have g3 : 1 ≤ x + 112 := by omega
      have g4 : x + 112 ≤ 254 := by omega
      exact (done (x' := x + 112) (f' := f * 8192) ⟨a1, rfl, g1, g2, .inr (.inr (.inl ⟨g3, g4, C.out⟩))⟩).elim
    · have C := Lib.hid c7
      clear c7
      have e1 : full = f * 2 ^ (23 - t) * 536870912 := by
        rw [c5, Nat.mul_assoc, show (536870912 : Nat) = 2 ^ 29 from rfl, ← Nat.pow_add, show 23 - t + 29 = 52 - t by omega]
      have e2 : 2 ^ (t + 1) * 2 ^ (52 - t) = 9007199254740992 := by
        rw [← Nat.pow_add, show t + 1 + (52 - t) = 53 by omega]
      have b2 := Nat.mul_lt_mul_of_pos_right c4 (Nat.two_pow_pos (52 - t))
      rw [e2, ← c5] at b2
      obtain ⟨q, hq⟩ : ∃ q, f * 2 ^ (23 - t) = q := ⟨_, rfl⟩
      rw [hq] at e1
      have g0 : 8388608 ≤ q ∧ q < 16777216 := by clear a2; omega
      have g5 : full - 4503599627370496 = (q - 8388608) * 536870912 := by clear a2; omega
      have g1 : q - 8388608 < 8388608 := by omega
      have g2 : 103 + t ≤ 255 := by omega
      have g3 : 1 ≤ 103 + t := by omega
      have g4 : 103 + t ≤ 254 := by omega
      have C3 : n = s * 9223372036854775808 + (103 + t + 896) * 4503599627370496 + (q - 8388608) * 536870912 := by
        rw [C.out, g5, show 103 + t + 896 = 999 + t by omega]
      exact (done (x' := 103 + t) (f' := q - 8388608) ⟨a1, rfl, g1, g2, .inr (.inr (.inl ⟨g3, g4, C3⟩))⟩).elim
set_option maxRecDepth 100000 in
set_option maxHeartbeats 3200000 in
theorem cbor_float_nat (n : Nat) (hn : n < 18446744073709551616) (w : World) :
    Calls Tryd.prog 57 #[.int .u64 (n : Int)] w fun e w' => ∃ r, e = .returned r ∧ Fresh w (floatB n) r w' := by
  have r1 := run_f64frombits n
  have r2 := order_fne n
  cases hN : isNaN n with
  | true =>
    rw [hN] at r2
    have E : Hid (floatB n = [u8 249, u8 126, u8 0]) := by rw [Hid, floatB, if_pos hN]
    clear hN hn
    go_enter Tryd.func57, Tryd.ntmps57
    go_wp2_with fail
    go_ret
    refine ⟨_, rfl, ?_⟩
    rw [E.out]
    exact Fresh.lit w _ _ 3 rfl (by simp) rfl
  | false =>
    rw [hN] at r2
    obtain ⟨r, w1, hc1, hw1, hr, hv⟩ := conv_f32 n hN w
    obtain ⟨m, w2, hc2, hw2, hm1, hm2⟩ := conv_f64 r n hN hr w1
    have hb : Below w.heap.size w w2 := by
      rcases hw1 with rfl | rfl <;> rcases hw2 with rfl | rfl
      · exact Below.refl _ _
      · exact (Below.refl _ _).drew
      · exact (Below.refl _ _).drew
      · exact (Below.refl _ _).drew.drew
    have r3 := run_f64bits m
    have r4 := run_f32bits r
    have HNN := Lib.hid hN
    cases h2 : narrow n 8 23 with
    | none =>
      have hne : m ≠ n := fun h => by rw [hm1 h] at h2; cases h2
      have b1 : ((m : Int) != (n : Int)) = true := by rw [bne_iff_ne]; omega
      have p1 : (m = n) = False := eq_false hne
      have E : Hid (floatB n = u8 251 :: be8 n 8) := by rw [Hid, floatB, if_neg (by simp [hN]), narrow15_none hn h2, h2]
      have WD := Lib.hid (fun w3 : World => cbor_wide n hn w3)
      have hO := OwnB.lit w2 w.heap.size [u8 251] #[.int .u8 251] 1 rfl rfl hb.size (by simp)
      have hbz := hb.alloc hb.size (.cells #[.int .u8 251] 5)
      clear hm1 hm2 hv hN hn h2 hne hw1 hw2 hr
      go_enter Tryd.func57, Tryd.ntmps57
      go_wp2_with fail
      refine (WD.out _).mono ?_
      rintro e w3 ⟨rr, rfl, hf⟩
      obtain ⟨RA, rc, rfl, _⟩ := hf.own.form
      have hO3 := hO.below hf.2
      have hb3 := hbz.trans (hf.2.mono hbz.size)
      go_wp2_with (at_builtin; refine stop_in ?_)
      unfold Stopped
      refine wpList_app_bytes rfl (.tmp 21) (.tmp 23) rfl w.heap.size _ _ rfl hO3 RA _ rc (be8 n 8) rfl rfl hf.own.src (by simp [be8_length]) hb3.size fun v' w7 hO7 hg7 hat7 => ?_
      have hb7 := hb3.grown hg7 hb3.size (fun q hq => (hO3.lt q hq).1)
      clear hg7 hat7 hO3 hf
      go_wp2_with fail
      go_ret
      exact ⟨_, rfl, by rw [E.out]; exact ⟨hO7, hb7⟩⟩
    | some v =>
      obtain ⟨s, x, f, hx⟩ := narrow31_spec hn h2
      obtain rfl := hv s x f v hx
      obtain rfl := hm2 s x f hx
      have b1 : ((m : Int) != (m : Int)) = false := by simp
      have HF := half_of hx
      have HH := Lib.hid (fun w3 : World => cbor_half r hr w3)
      cases h5 : narrow m 5 10 with
      | some q =>
        rw [h5] at HF
        rw [HF] at HH
        have E : Hid (floatB m = [u8 249, u8 (q / 256), u8 q]) := by rw [Hid, floatB, if_neg (by simp [hN]), h5]
        clear hm1 hm2 hv hN hn h2 hw1 hw2 hr hx HF h5
        go_enter Tryd.func57, Tryd.ntmps57
        go_wp2_with fail
        refine (HH.out _).mono ?_
        rintro e w' ⟨⟨hq, rfl, he⟩, rfl⟩
        obtain rfl := he q rfl
        clear he
        go_wp2_with fail
        go_ret
        refine ⟨_, rfl, ?_⟩
        rw [E.out]
        refine (Fresh.lit w2 _ _ 3 rfl (by simp) ?_).step_ hb
        simp only [List.map_cons, List.map_nil, byteV_u8]
        simp
      | none =>
        rw [h5] at HF
        rw [HF] at HH
        have E : Hid (floatB m = [u8 250, u8 (r / 16777216), u8 (r / 65536), u8 (r / 256), u8 r]) := by rw [Hid, floatB, if_neg (by simp [hN]), h5, h2]
        clear hm1 hm2 hv hN hn h2 hw1 hw2 hr hx HF h5
        go_enter Tryd.func57, Tryd.ntmps57
        go_wp2_with fail
        refine (HH.out _).mono ?_
        rintro e w' ⟨⟨hq, rfl, _⟩, rfl⟩
        go_wp2_with fail
        go_ret
        refine ⟨_, rfl, ?_⟩
        rw [E.out]
        refine (Fresh.lit w2 _ _ 5 rfl (by simp) ?_).step_ hb
        simp only [List.map_cons, List.map_nil, byteV_u8]
        simp
end Go.Proofs.YtdbhgngikglmcaaDoor
namespace Go.Proofs.YtdbhgngikglmcaaDoor
open Go.RowKit

theorem cbor_float (n : Int) (w : World) (h0 : 0 ≤ n) (h1 : n < 18446744073709551616) :
    Calls Tryd.prog 57 #[.int .u64 n] w fun e w' => ∃ r, e = .returned r ∧ Fresh w (floatB n.toNat) r w' := by
  obtain ⟨m, rfl⟩ := Int.eq_ofNat_of_zero_le h0
  rw [Int.toNat_natCast]
  exact cbor_float_nat m (by omega) w

/-- In the range of a uint64. -/
def U64 (n : Int) : Prop := 0 ≤ n ∧ n < 18446744073709551616

/-- What a function that appends to its argument does. -/
def Adds (w : World) (base : Nat) (v : Value) (l : List UInt8) (e : Ending) (w' : World) : Prop :=
  ∃ r, e = .returned r ∧ OwnB w' base r l ∧ w.grownBy w' v.ownBlock ∧ At0 w v.ownBlock r.ownBlock

def AddSaid (x : Itm) : Prop := ∀ (H : Snap) (k n : Int) (ba : Option Addr) (bl bc : Nat) (ia : Option Addr) (il ic : Nat) (w : World) (base : Nat) (v : Value) (l : List UInt8),
  Kinds x → ItemA H k n ba bl bc ia il ic x → Holds w H → OwnB w base v l → base ≤ w.heap.size → (∀ g, v.ownBlock = some g → H g = none) → l.length + (encB x).length ≤ 1099511627776 →
  Calls Tryd.prog 38 #[v, .agg #[.int .i64 k, .int .u64 n, .slice ba bl bc, .slice ia il ic]] w (Adds w base v (l ++ encB x))

set_option maxRecDepth 100000 in
set_option maxHeartbeats 800000 in
theorem add_float (x : Itm) (h8 : x.kind = 8) : AddSaid x := by
  intro H k n ba bl bc ia il ic w base v l hk hx hH hown hbase hv hlen
  obtain ⟨rfl, rfl, rfl, rfl, hx⟩ := hx
  have hbd := hx.bounds
  have E : Hid (encB x = floatB x.n) := by rw [Hid, encB_eq, if_pos h8]
  rw [E.out] at hlen
  have HL := Lib.hid hlen
  have HB := Lib.hid hbd
  have HV := Lib.hid hv
  clear hlen hbd hv
  go_enter Tryd.func38, Tryd.ntmps38
  go_wp2_with (first
    | (go_at_call 57; refine (cbor_float _ _ (by omega) (by have := HB.out; omega)).mono ?_; rintro e w1 ⟨r, rfl, hf⟩; obtain ⟨A, c, rfl, _, _, hsrc⟩ := hf.own.form)
    | (at_builtin; refine wpList_app_bytes rfl (.tmp 11) (.tmp 14) rfl base v l rfl ((hown.alloc _).below hf.2) A _ c (floatB x.n) rfl (by simp) (by simpa using hsrc) HL.out (by have := hf.2.size; simp at this; omega) ?_; intro v' w2 hown' hg hat))
  go_ret
  refine ⟨v', rfl, by rw [E.out]; exact hown', ?_, ?_⟩
  · exact grown_step (grown_of_below ((below_box w _).trans (hf.2.mono (by simp))) _) hg (.inl rfl)
  · exact At0.step (.inl rfl) (by have := hf.2.size; simp at this; omega) hat

set_option maxRecDepth 100000 in
set_option maxHeartbeats 800000 in
theorem add_simple (x : Itm) (h7 : x.kind = 7) (h24 : 24 ≤ x.n) : AddSaid x := by
  intro H k n ba bl bc ia il ic w base v l hk hx hH hown hbase hv hlen
  obtain ⟨rfl, rfl, rfl, rfl, hx⟩ := hx
  have hbd := hx.bounds
  have E : Hid (encB x = [u8 248, u8 x.n]) := by rw [Hid, encB_eq, if_neg (by omega), if_pos ⟨h7, h24⟩]
  rw [E.out] at hlen
  have HL := Lib.hid hlen
  have HB := Lib.hid hbd
  have HV := Lib.hid hv
  have h24' : (24 : Int) ≤ (x.n : Int) := by omega
  clear hlen hbd hv h24
  go_enter Tryd.func38, Tryd.ntmps38
  go_wp2_with (at_builtin; refine wpList_app_bytes rfl (.tmp 25) (.tmp 29) rfl base v l rfl ((hown.alloc _).alloc _) _ 2 2 [u8 248, u8 x.n] rfl rfl ?hs HL.out (by simp; omega) ?_)
  case hs => exact Src.new _ _ _ _ (by simp) _ (by simp [u8_toNat])
  intro v' w2 hown' hg hat
  go_wp2
  go_ret
  refine ⟨v', rfl, by rw [E.out]; exact hown', ?_, ?_⟩
  · exact grown_step (grown_of_below ((below_box w _).alloc (by simp) _) _) hg (.inl rfl)
  · exact At0.step (.inl rfl) (by simp; omega) hat


theorem cell_box {w : World} {g : Nat} {cs : Array Value} {e : TypeId} (h : w.heap[g]? = some (.cells cs e (0, 0))) (i : Nat) : w.cell? ⟨g, i, none⟩ = cs[i]? := cell_of_row w g i cs e (0, 0) h
theorem frozen_box {w : World} {g : Nat} {cs : Array Value} {e : TypeId} (h : w.heap[g]? = some (.cells cs e (0, 0))) (i : Nat) : w.frozen? ⟨g, i, none⟩ = false := by simp [World.frozen?, h]

theorem more_box {w w1 w2 w3 : World} {base : Nat} {v : Value} {l : List UInt8} {cs : Array Value} {e : TypeId} (hown : OwnB w base v l)
    (h1 : Below (w.alloc (.cells cs e)).heap.size (w.alloc (.cells cs e)) w1) (h2 : Below w1.heap.size w1 w2) (h3 : w2.grownBy w3 v.ownBlock) :
    w3.heap[w.heap.size]? = some (.cells cs e (0, 0)) ∧ w.heap.size + 1 ≤ w3.heap.size := by
  have s1 := h1.size
  have s2 := h2.size
  have s3 := h3.size
  simp at s1
  refine ⟨?_, by omega⟩
  rw [h3.block _ (by omega) (fun h => by have := (hown.lt _ h.symm).2; omega), h2.block _ (by omega), h1.block _ (by simp)]
  exact heap_alloc_new w _

set_option maxRecDepth 100000 in
set_option maxHeartbeats 1600000 in
theorem add_more (x : Itm) (h8 : ¬ x.kind = 8) (h7 : ¬ (x.kind = 7 ∧ 24 ≤ x.n)) (ih : ∀ y : Itm, cnt y < cnt x → AddSaid y) : AddSaid x := by
  intro H k n ba bl bc ia il ic w base v l hk hx hH hown hbase hv hlen
  obtain ⟨rfl, rfl, rfl, rfl, hx⟩ := hx
  have hbd := hx.bounds
  have E : Hid (encB x = headB x.kind.toNat (numP x) ++ x.bytes ++ encL x.items) := by rw [Hid, encB_eq, if_neg h8, if_neg h7]
  rw [E.out] at hlen
  have hkk := hk.kind
  have hx8 : x.kind < 8 := by omega
  have b8 : (x.kind == 8) = false := by simp [h8]
  have hN0 : (numP x : Int) < 18446744073709551616 := by
    unfold numP
    repeat' split
    all_goals omega
  have HN : U64 (numP x) := ⟨by omega, hN0⟩
  clear hN0
  have hn24 : x.kind = 7 → (x.n : Int) < 24 := fun h => by have : ¬ 24 ≤ x.n := fun h' => h7 ⟨h, h'⟩; omega
  have HL := Lib.hid hlen
  have HB := Lib.hid hbd
  have HV := Lib.hid hv
  clear hlen hbd hv h8 h7
  have hkb : ((x.kind == 7) = true ∧ (x.n : Int) < 24) ∨ (x.kind == 7) = false := by
    by_cases hk7 : x.kind = 7
    · exact .inl ⟨by simp [hk7], hn24 hk7⟩
    · exact .inr (by simp [hk7])
  clear hn24
  have G : Hid (w.grownBy w none) := grown_refl w none
  rcases hkb with ⟨b7, hn⟩ | b7
  all_goals
    go_enter Tryd.func38, Tryd.ntmps38
    go_wp2_with fail
    refine (cbor_major hx.arg _ (by omega) (by omega)).mono ?_
    rintro e w1 ⟨rfl, hm⟩
    go_wp2_with fail
    refine (cbor_head _ _ _ (by omega) (by omega) (by omega) HN.2).mono ?_
    rintro e w2 ⟨r, rfl, hf⟩
    obtain ⟨A, c, rfl, _, _, hsrc⟩ := hf.own.form
    have hs1 : w.heap.size + 1 ≤ w1.heap.size := by have h1 := hm.size; simp at h1; omega
    have hs2 : w.heap.size + 1 ≤ w2.heap.size := by have h1 := hm.size; have h2 := hf.2.size; simp at h1; omega
    go_wp2_with (at_builtin; refine stop_in ?_)
    unfold Stopped
    refine wpList_app_bytes rfl (.tmp 31) (.tmp 36) rfl base v l rfl (((hown.alloc _).below hm).below hf.2) A _ c (headB x.kind.toNat (numP x)) rfl (by simp) (by simpa using hsrc) (by have := HL.out; simp at this ⊢; omega) (by omega) ?_
    intro v3 w3 hown3 hg3 hat3
    obtain ⟨hbx3, hs3⟩ := more_box hown hm hf.2 hg3
    have hc2 := cell_box hbx3 2
    have hc3 := cell_box hbx3 3
    simp at hc2 hc3
    have hH3 : Holds w3 H := (((hH.alloc _).below hm (Nat.le_refl _)).below hf.2 (Nat.le_refl _)).grown hg3 HV.out
    have hsrc5 := Src.of_row hx.bytes.row hH3
    have hG3 : w.grownBy w3 v.ownBlock := grown_step (grown_of_below (((below_box w _).trans (hm.mono (by simp))).trans (hf.2.mono (by omega))) _) hg3 (.inl rfl)
    go_wp2_with (at_builtin; refine stop_in ?_)
    unfold Stopped
    refine wpList_app_bytes rfl (.tmp 38) (.tmp 40) rfl base v3 _ rfl hown3 ba _ bc x.bytes rfl rfl hsrc5 (by have := HL.out; simp at this ⊢; omega) (by omega) ?_
    intro v4 w4 hown4 hg4 hat4
    have hH4 : Holds w4 H := hH3.grown hg4 (fun g hg => by
      rcases hat3 with h | ⟨g', h, hg'⟩
      · exact HV.out g (h ▸ hg)
      · rw [h] at hg; injection hg with hg; subst hg; exact hH.none_of_ge (by omega))
    have hat34 : At0 w v.ownBlock v3.ownBlock := At0.step (.inl rfl) (by omega) hat3
    have hG4 : w.grownBy w4 v.ownBlock := grown_step hG3 hg4 hat34
    have hbx4 : w4.heap[w.heap.size]? = some (.cells #[.int .i64 x.kind, .int .u64 x.n, .slice ba x.bytes.length bc, .slice ia x.items.length ic] 26 (0, 0)) :=
      (hg4.block _ (by omega) (fun h => by
        rcases hat34 with h' | ⟨g', h', hg'⟩
        · rw [h'] at h; have := (hown.lt _ h.symm).2; omega
        · rw [h'] at h; injection h with h; subst h
          rcases hat3 with h3 | ⟨g3, h3, hg3'⟩
          · rw [h3] at h'; have := (hown.lt _ h').2; omega
          · rw [h'] at h3; injection h3 with h3; omega)).trans hbx3
    have hc43 := cell_box hbx4 3
    simp at hc43
    have hat44 : At0 w v.ownBlock v4.ownBlock := At0.step hat34 (by omega) hat4
    clear hc2 hc3 hbx3 hbx4
    go_wp2_with (at_builtin; refine stop_in ?_)
    have hil : x.items.length ≤ 9223372036854775807 := by have := HB.out; omega
    go_loopw [0, 45] (fun v' i wr => ∃ k : Nat, k ≤ x.items.length ∧ i = .int .i64 k ∧ OwnB wr base v' (l ++ headB x.kind.toNat (numP x) ++ x.bytes ++ encL (x.items.take k)) ∧
        w.grownBy wr v.ownBlock ∧ At0 w v.ownBlock v'.ownBlock) (fun _ i _ => x.items.length - (intOf i).toNat)
    case atStart => exact ⟨0, Nat.zero_le _, rfl, by simpa [encL] using hown4, hG4, hat44⟩
    case round =>
      obtain ⟨k, hkl, rfl, hown5, hG5, hat5⟩ := hrel
      by_cases hlt : k < x.items.length
      · have hH5 : Holds wr H := hH.grown hG5 HV.out
        obtain ⟨ib, io, hia, hel⟩ := hx.items (by omega)
        obtain ⟨eba, ebc, eia, eic, q0, q1, q2, q3, hex⟩ := hel.get k hlt
        subst hia
        have p0 := hH5.cell q0
        have p1 := hH5.cell q1
        have p2 := hH5.cell q2
        have p3 := hH5.cell q3
        have hfin := encL_take_succ x.items k hlt
        have hle := encL_take_le x.items (k + 1)
        have hrow : ∀ g, u0.ownBlock = some g → H g = none := fun g hg => by
          rcases hat5 with h | ⟨g', h, hg'⟩
          · exact HV.out g (h ▸ hg)
          · rw [h] at hg; injection hg with hg; subst hg; exact hH.none_of_ge hg'
        have hs5 := hG5.size
        have hlen5 : (l ++ headB x.kind.toNat (numP x) ++ x.bytes ++ encL (x.items.take k)).length + (encB x.items[k]).length ≤ 1099511627776 := by
          have h1 := HL.out
          rw [hfin] at hle
          simp only [List.length_append] at h1 hle ⊢
          omega
        have IHC := ih x.items[k] (cnt_items x k hlt) H _ _ eba _ ebc eia _ eic (wr.alloc (.cells #[.int .i64 x.items[k].kind, .int .u64 x.items[k].n, .slice eba x.items[k].bytes.length ebc, .slice eia x.items[k].items.length eic] 26)) base u0 _
          (hk.items.get k hlt) hex.arg (hH5.alloc _) (hown5.alloc _) (by simp; omega) hrow hlen5
        have IHH := Lib.hid IHC
        have HF := Lib.hid hfin
        clear hfin hle hlen5 hrow q0 q1 q2 q3 IHC
        go_wp2_with fail
        refine IHH.out.mono ?_
        rintro e w6 ⟨r6, rfl, hown6, hg6, hat6⟩
        have R : OwnB w6 base r6 (l ++ headB x.kind.toNat (numP x) ++ x.bytes ++ encL (x.items.take (k + 1))) ∧ w.grownBy w6 v.ownBlock ∧ At0 w v.ownBlock r6.ownBlock := by
          refine ⟨by rw [HF.out]; simpa using hown6, grown_step (grown_alloc hG5 _) hg6 hat5, At0.step hat5 (by simp; omega) hat6⟩
        clear hown6 hg6 hat6 hown5 hG5 hat5 IHH HF p0 p1 p2 p3
        go_wp2_with fail
        go_roundw
        case rel => exact ⟨k + 1, by omega, by go_num, R.1, R.2.1, R.2.2⟩
        case measure => simp [intOf]; omega
      · have hkk : k = x.items.length := by omega
        subst hkk
        rw [List.take_length] at hown5
        go_wp2_with fail
        go_ret
        exact ⟨_, rfl, by rw [E.out]; simpa using hown5, hG5, hat5⟩

theorem cbor_add (x : Itm) : AddSaid x := by
  have main : ∀ N, ∀ x : Itm, cnt x ≤ N → AddSaid x := by
    intro N
    induction N with
    | zero =>
      intro x hx
      have : 0 < cnt x := by cases x; rw [cnt]; omega
      omega
    | succ N ih =>
      intro x hx
      by_cases h8 : x.kind = 8
      · exact add_float x h8
      · by_cases h7 : x.kind = 7 ∧ 24 ≤ x.n
        · exact add_simple x h7.1 h7.2
        · exact add_more x h8 h7 fun y hy => ih y (by omega)
  exact main _ x (Nat.le_refl _)
end Go.Proofs.YtdbhgngikglmcaaDoor
