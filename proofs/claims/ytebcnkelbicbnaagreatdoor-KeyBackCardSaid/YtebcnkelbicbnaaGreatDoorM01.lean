/- Walks of package bytes and slices: Equal, Compare, Clone. Stores of several cells into a block that lay there before. Heads of data items as lists of bytes: plain mathematics. Encodings of items: plain mathematics. Which items are valid: plain mathematics. The count of items and bytes: plain mathematics. Validity of items and of header parameters: plain mathematics. -/
import Derived.Test.YtebcnkelbicbnaaGreatDoorM00
import Derived.Laws.BytesArg
import Derived.Lib.Bytealg
import Derived.Laws.Externs
import Derived.Deep.MidRow
import Derived.Lib.ValidU
import Derived.Shelf.Unicode.DecodeSlow
set_option linter.unusedVariables false
set_option linter.unusedSimpArgs false
namespace Go.Proofs.YtebcnkelbicbnaaGreatDoor
open Go.RowKit

theorem byteV_getD (l : List UInt8) (i : Nat) : (l.map fun u => (u.toNat : Int)).getD i 0 = ((l.getD i 0).toNat : Int) := by
  simp [List.getD]
  cases h : l[i]? <;> simp
theorem strOfNums_bytes (l : List UInt8) : strOfNums (l.map fun u => (u.toNat : Int)) = ⟨l.toArray⟩ := by
  have h : (fun n : Int => UInt8.ofNat n.toNat) ∘ (fun u : UInt8 => (u.toNat : Int)) = id := by funext u; simp
  unfold strOfNums
  simp [h]
/-- string(b) -/
theorem conv_bytes {w : World} {A : Option Addr} {l : List UInt8} (h : Src w A (l.map byteV)) (n c : Nat) (hn : n = l.length) :
    (convert 23 9 (.slice A n c)).run Tryz.prog w = .ok (.string ⟨l.toArray⟩) w := by
  subst hn
  by_cases hl : l = []
  · subst hl
    cases A with
    | none => exact run_convert_bytes_nil w _ 5 Tryz.underlying23 Tryz.underlying5 _ _ _ Tryz.underlying9
    | some a =>
      obtain ⟨b, off, spot⟩ := a
      rw [run_convert_bytes_string w _ _ 5 _ _ c Tryz.underlying23 Tryz.underlying5 Tryz.underlying9]
      rfl
  · obtain ⟨b, off, rfl, hc⟩ := h (by simpa using hl)
    have := run_convert_bytes_arg (P := Tryz.prog) w 23 5 Tryz.underlying23 Tryz.underlying5 b off l.length c (l.map fun u => (u.toNat : Int)) (by simp)
      (fun i hi => by rw [byteV_getD, hc i (byteV l[i]) (by simp [hi])]; simp [List.getD, hi]) _ Tryz.underlying9
    rw [this, strOfNums_bytes]

set_option maxRecDepth 100000 in
theorem bytes_Equal (w : World) (A B : Option Addr) (a b : List UInt8) (n m c d : Nat) (hn : n = a.length) (hm : m = b.length) (ha : Src w A (a.map byteV)) (hb : Src w B (b.map byteV)) :
    Calls Tryz.prog 65 #[.slice A n c, .slice B m d] w fun e w' => e = .returned (.bool (a == b)) ∧ w = w' := by
  have h1 := conv_bytes ha n c hn
  have h2 := conv_bytes hb m d hm
  clear hn hm ha hb
  go_enter Tryz.func65, Tryz.ntmps65
  go_wp2
  go_ret
  exact ⟨rfl, rfl⟩

theorem run_loadBytes {P : Program} {w : World} (b : Nat) : ∀ (l : List UInt8) (off : Nat) (acc : ByteArray), (∀ j v, (l.map byteV)[j]? = some v → w.cell? ⟨b, off + j, none⟩ = some v) →
    (Extern.Bytes.loadBytes ⟨b, off, none⟩ l.length acc).run P w = .ok ⟨acc.data ++ l.toArray⟩ w
  | [], off, acc, _ => by simp [Extern.Bytes.loadBytes]
  | u :: l, off, acc, h => by
    have h0 := h 0 (byteV u) rfl
    have ih := run_loadBytes (P := P) b l (off + 1) (acc.push u) (fun j v hj => by rw [show off + 1 + j = off + (j + 1) by omega]; exact h (j + 1) v (by simpa using hj))
    simp only [List.length_cons, Extern.Bytes.loadBytes]
    simp [load, Sem.run, Result.andThen, byteV] at h0 ⊢
    simp [h0, addr_add, ByteArray.push]
    rw [show (⟨acc.data.push u⟩ : ByteArray) = acc.push u from rfl, ih]
    congr 2
    simp [ByteArray.push]
theorem run_bytesOf {P : Program} {w : World} {A : Option Addr} {l : List UInt8} (h : Src w A (l.map byteV)) (n c : Nat) (hn : n = l.length) :
    (Extern.Bytes.bytesOf (.slice A n c)).run P w = .ok ⟨l.toArray⟩ w := by
  subst hn
  by_cases hl : l = []
  · subst hl
    cases A with
    | none => rfl
    | some a => rfl
  · obtain ⟨b, off, rfl, hc⟩ := h (by simpa using hl)
    have := run_loadBytes (P := P) b l off .empty hc
    simp only [Extern.Bytes.bytesOf]
    rw [this]
    simp [ByteArray.empty, ByteArray.emptyWithCapacity]
    rfl
theorem run_compare {P : Program} {w : World} {A B : Option Addr} {a b : List UInt8} (ha : Src w A (a.map byteV)) (hb : Src w B (b.map byteV)) (n m c d : Nat) (hn : n = a.length) (hm : m = b.length) :
    (Extern.BytealgCompare.compare #[.slice A n c, .slice B m d]).run P w = .ok (.int .i64 (Lib.compareBytes a b)) w := by
  change Sem.run P (do pure (goInt (Extern.BytealgCompare.cmp (← Extern.Bytes.bytesOf (.slice A n c)) (← Extern.Bytes.bytesOf (.slice B m d))))) w = _
  simp only [Sem.run_bind, Sem.run_pure, Result.andThen, run_bytesOf ha n c hn, run_bytesOf hb m d hm]
  rw [Lib.cmp_eq]
  rfl

set_option maxRecDepth 100000 in
theorem bytes_Compare (w : World) (A B : Option Addr) (a b : List UInt8) (n m c d : Nat) (hn : n = a.length) (hm : m = b.length) (ha : Src w A (a.map byteV)) (hb : Src w B (b.map byteV)) :
    Calls Tryz.prog 58 #[.slice A n c, .slice B m d] w fun e w' => e = .returned (.int .i64 (Lib.compareBytes a b)) ∧ w = w' := by
  have h1 := Lib.hid (run_compare (P := Tryz.prog) ha hb n m c d hn hm)
  clear hn hm ha hb
  go_enter Tryz.func58, Tryz.ntmps58
  go_wp2
  rw [run_callFunc_extern Tryz.func75 (by kernel_rfl) (by kernel_rfl) (by kernel_rfl) (e := Extern.BytealgCompare.compare) (by kernel_rfl), h1.out]
  simp only [Result.andThen]
  rw [Oper.upon_value]
  go_wp2
  go_ret
  exact ⟨rfl, rfl⟩
set_option maxRecDepth 100000 in
theorem bytes_Clone (w : World) (A : Option Addr) (l : List UInt8) (n c : Nat) (hn : n = l.length) (hl : l.length ≤ 1099511627776) (hs : Src w A (l.map byteV)) :
    Calls Tryz.prog 42 #[.slice A n c] w fun e w' => ∃ r, e = .returned r ∧ Fresh w l r w' := by
  cases A with
  | none =>
    have h0 : l = [] := by
      cases l with
      | nil => rfl
      | cons a l => obtain ⟨b, off, h, _⟩ := hs (by simp); cases h
    subst h0
    have he := fun w : World => Lib.run_eql_slice_nil (P := Tryz.prog) w _ _ none n c 0 0 Tryz.underlying23
    clear hn hl
    go_enter Tryz.func42, Tryz.ntmps42
    go_wp2
    go_ret
    exact ⟨_, rfl, OwnB.nil _ _, Below.refl _ _⟩
  | some a =>
    have he := fun w : World => Lib.run_eql_slice_nil (P := Tryz.prog) w _ _ (some a) n c 0 0 Tryz.underlying23
    simp only [Option.isNone] at he
    have HN := Lib.hid hn
    clear hn
    go_enter Tryz.func42, Tryz.ntmps42
    go_wp2_with (at_builtin; refine stop_in ?_)
    unfold Stopped
    have h0 : OwnB (w.alloc (.cells #[] 5)) w.heap.size (.slice (some ⟨w.heap.size, 0, none⟩) 0 0) [] := OwnB.lit w _ [] #[] 0 rfl rfl (Nat.le_refl _) (by simp)
    refine wpList_app_bytes rfl (.tmp 5) (.tmp 6) rfl w.heap.size _ [] rfl h0 (some a) n c l rfl HN.out ?_ (by simpa using hl) (by simp) ?_
    · exact hs.alloc _
    intro v' w' hown hg _
    have hf : Fresh w l v' w' := ⟨by rw [List.nil_append] at hown; exact hown, (below_box w _).grown hg (by simp) (fun k hk => (h0.lt k hk).1)⟩
    clear hown hg h0
    go_wp2
    go_ret
    exact ⟨_, rfl, hf⟩

set_option maxRecDepth 100000 in
theorem slices_Clone (w : World) (A : Option Addr) (l : List UInt8) (n c : Nat) (hn : n = l.length) (hl : l.length ≤ 1099511627776) (hs : Src w A (l.map byteV)) :
    Calls Tryz.prog 87 #[.slice A n c] w fun e w' => ∃ r, e = .returned r ∧ Fresh w l r w' := by
  cases A with
  | none =>
    have h0 : l = [] := by
      cases l with
      | nil => rfl
      | cons a l => obtain ⟨b, off, h, _⟩ := hs (by simp); cases h
    subst h0
    have he := fun w : World => Lib.run_eql_slice_nil (P := Tryz.prog) w _ _ none n c 0 0 Tryz.underlying23
    clear hn hl
    go_enter Tryz.func87, Tryz.ntmps87
    go_wp2
    go_ret
    exact ⟨_, rfl, OwnB.nil _ _, Below.refl _ _⟩
  | some a =>
    have he := fun w : World => Lib.run_eql_slice_nil (P := Tryz.prog) w _ _ (some a) n c 0 0 Tryz.underlying23
    simp only [Option.isNone] at he
    have HN := Lib.hid hn
    clear hn
    go_enter Tryz.func87, Tryz.ntmps87
    go_wp2_with (at_builtin; refine stop_in ?_)
    unfold Stopped
    have h0 : OwnB (w.alloc (.cells #[] 5)) w.heap.size (.slice (some ⟨w.heap.size, 0, none⟩) 0 0) [] := OwnB.lit w _ [] #[] 0 rfl rfl (Nat.le_refl _) (by simp)
    refine wpList_app_bytes rfl (.tmp 5) (.tmp 6) rfl w.heap.size _ [] rfl h0 (some a) n c l rfl HN.out ?_ (by simpa using hl) (by simp) ?_
    · exact hs.alloc _
    intro v' w' hown hg _
    have hf : Fresh w l v' w' := ⟨by rw [List.nil_append] at hown; exact hown, (below_box w _).grown hg (by simp) (fun k hk => (h0.lt k hk).1)⟩
    clear hown hg h0
    go_wp2
    go_ret
    exact ⟨_, rfl, hf⟩

end Go.Proofs.YtebcnkelbicbnaaGreatDoor
namespace Go.Proofs.YtebcnkelbicbnaaGreatDoor
open Go.RowKit

/-- The walk stops at a store; at a load; at a call of a built-in. -/
theorem stop_store {P : Program} {ops : Array Oper} {Q : Exit → Act → World → Prop} {rest : List Oper} {a : Act} {w : World} {dst : Option Tmp} {ty : TypeId} {x y : Operand} {T : TypeId} {pos : String} {af : Array Edge} {g : Option (Nat × Bool)}
    (h : Stopped (wpList P ops Q (⟨dst, .store ty x y, T, pos, af, g⟩ :: rest) a w)) : wpList P ops Q (⟨dst, .store ty x y, T, pos, af, g⟩ :: rest) a w := h
/-- The cells with others put over them from o on. -/
def putC (cs : Array Value) : Nat → List Value → Array Value
  | _, [] => cs
  | o, v :: r => putC (cs.setIfInBounds o v) (o + 1) r
theorem putC_size : ∀ (vs : List Value) (cs : Array Value) (o : Nat), (putC cs o vs).size = cs.size
  | [], _, _ => rfl
  | v :: r, cs, o => by rw [putC, putC_size]; simp
theorem putC_get : ∀ (vs : List Value) (cs : Array Value) (o j : Nat), (putC cs o vs)[j]? = if o ≤ j ∧ j < o + vs.length ∧ j < cs.size then vs[j - o]? else cs[j]?
  | [], cs, o, j => by simp [putC]; omega
  | v :: r, cs, o, j => by
    rw [putC, putC_get r]
    simp only [Array.size_setIfInBounds, List.length_cons]
    by_cases h : o + 1 ≤ j ∧ j < o + 1 + r.length ∧ j < cs.size
    · rw [if_pos h, if_pos (by omega), show j - o = (j - (o + 1)) + 1 by omega, List.getElem?_cons_succ]
    · rw [if_neg h]
      by_cases h2 : o = j
      · subst h2
        by_cases h3 : o < cs.size
        · rw [if_pos (by omega)]; simp [h3]
        · rw [if_neg (by omega)]; simp [h3]
      · rw [if_neg (by omega), Array.getElem?_setIfInBounds, if_neg h2]
theorem putC_all (cs : Array Value) (vs : List Value) (h : vs.length = cs.size) : putC cs 0 vs = vs.toArray := by
  apply Array.ext_getElem?
  intro j
  rw [putC_get]
  by_cases h1 : j < cs.size
  · rw [if_pos (by omega)]; simp
  · rw [if_neg (by omega), Array.getElem?_eq_none (by omega), Array.getElem?_eq_none (by simp; omega)]
theorem putC_take (cs : Array Value) (o : Nat) (vs : List Value) (h : o + vs.length ≤ cs.size) : (putC cs o vs).toList.take (o + vs.length) = cs.toList.take o ++ vs := by
  apply List.ext_getElem?
  intro j
  simp only [List.getElem?_take, List.getElem?_append, Array.getElem?_toList, putC_get, List.length_take, Array.length_toList]
  have e0 : (List.toArray vs).size = vs.length := by simp
  by_cases h1 : j < o
  · rw [if_pos (by omega), if_neg (by omega), if_pos (by omega), if_pos h1]
  · by_cases h2 : j < o + vs.length
    · rw [if_pos h2, if_pos (by omega), if_neg (by omega), show j - min o cs.size = j - o by omega]
    · rw [if_neg h2, if_neg (by omega)]
      symm
      rw [List.getElem?_eq_none_iff]; omega
theorem Blk.setCells : ∀ (vs : List Value) {w : World} {g : Nat} {t : TypeId} {cs : Array Value} (o : Nat), Blk w g t cs → Blk (w.setCells g o vs) g t (putC cs o vs)
  | [], _, _, _, _, _, h => h
  | v :: r, w, g, t, cs, o, h => by
    rw [World.setCells, putC]
    exact (h.set_ o v).setCells r (o + 1)
theorem grown_setCells (g : Nat) : ∀ (vs : List Value) {w0 w : World} (o : Nat), w0.grownBy w (some g) → w0.grownBy (w.setCells g o vs) (some g)
  | [], _, _, _, h => h
  | v :: r, w0, w, o, h => by
    rw [World.setCells]
    exact grown_setCells g r (o + 1) (grown_set h (.inl rfl) v)

theorem wpList_store_blk {w : World} {ops : Array Oper} {rest : List Oper} {o : Oper} {a : Act} {Q : Exit → Act → World → Prop} (hgd : o.guard = none) (ty : TypeId) (x y : Operand) (ho : o.op = .store ty x y)
    (hd : o.dst = none) (g off : Nat) (cells : Array Value) (hx : a.eval x = .pointer (some ⟨g, off, none⟩)) (hy : a.eval y = .agg cells)
    (t : TypeId) (old : Array Value) (hB : Blk w g t old) (hi : (Tryz.prog.info? ty).map (·.size) = some cells.size) (hold : off + cells.size ≤ old.size) (h1 : cells.all (·.oneCell') = true)
    (h : ∀ w', Blk w' g t (putC old off cells.toList) → w.grownBy w' (some g) → wpList Tryz.prog ops Q rest a w') :
    wpList Tryz.prog ops Q (o :: rest) a w := by
  refine wpList_store_mid hgd ty x y ho g off cells hx hy (fun j hj => ⟨?_, hB.frozen _⟩) hi h1 ?_
  · obtain ⟨v, hv⟩ : ∃ v, old[off + j]? = some v := ⟨_, Array.getElem?_eq_getElem (by omega)⟩
    rw [hB.cell _ hv]; rfl
  · rw [hd]
    exact h _ (hB.setCells _ _) (grown_setCells g _ _ (grown_refl w _))
theorem wpList_store_item {w : World} {ops : Array Oper} {rest : List Oper} {o : Oper} {a : Act} {Q : Exit → Act → World → Prop} (hgd : o.guard = none) (ty : TypeId) (x y : Operand) (ho : o.op = .store ty x y)
    (hd : o.dst = none) (g : Nat) (cells : Array Value) (hx : a.eval x = .pointer (some ⟨g, 0, none⟩)) (hy : a.eval y = .agg cells)
    (t : TypeId) (old : Array Value) (hB : Blk w g t old) (hi : (Tryz.prog.info? ty).map (·.size) = some cells.size) (hold : cells.size = old.size) (h1 : cells.all (·.oneCell') = true)
    (h : ∀ w', Blk w' g t cells → w.grownBy w' (some g) → wpList Tryz.prog ops Q rest a w') :
    wpList Tryz.prog ops Q (o :: rest) a w := by
  refine wpList_store_blk hgd ty x y ho hd g 0 cells hx hy t old hB hi (by omega) h1 fun w' h2 h3 => h w' ?_ h3
  rwa [putC_all _ _ (by simpa using hold)] at h2
theorem wp_store_item {w : World} {o : Oper} {a : Act} {K : Act → World → Prop} {Q : Exit → Act → World → Prop} (ty : TypeId) (x y : Operand) (ho : o.op = .store ty x y)
    (g : Nat) (cells : Array Value) (hx : a.eval x = .pointer (some ⟨g, 0, none⟩)) (hy : a.eval y = .agg cells)
    (t : TypeId) (old : Array Value) (hB : Blk w g t old) (hi : (Tryz.prog.info? ty).map (·.size) = some cells.size) (hold : cells.size = old.size) (h1 : cells.all (·.oneCell') = true)
    (h : ∀ w', Blk w' g t cells → w.grownBy w' (some g) → K (a.put o.dst undef) w') :
    o.wp Tryz.prog a w K Q := by
  refine wp_store_mid ty x y ho g 0 cells hx hy (fun j hj => ⟨?_, hB.frozen _⟩) hi h1 ?_
  · obtain ⟨v, hv⟩ : ∃ v, old[0 + j]? = some v := ⟨_, Array.getElem?_eq_getElem (by omega)⟩
    rw [hB.cell _ hv]; rfl
  · refine h _ ?_ (grown_setCells g _ _ (grown_refl w _))
    have := hB.setCells cells.toList 0
    rwa [putC_all _ _ (by simpa using hold)] at this
theorem run_storeVar_cell (w : World) (b o : Nat) (ty : TypeId) (v : Value) (ht : w.there b o 1) (hi : (Tryz.prog.info? ty).map (·.size) = some 1) (h1 : v.oneCell' = true) :
    (storeVar ty ⟨b, o, none⟩ v).run Tryz.prog w = .ok () (w.setCells b o [v]) := by
  have := run_storeCells_cells (P := Tryz.prog) b o [v] 0 w (fun j hj => by simpa using (ht j (by simpa using hj)).1) (fun j hj => by simpa using (ht j (by simpa using hj)).2) (fun x hx => by simp at hx; subst hx; exact h1)
  have hc : v.cells = #[v] := by cases v <;> first | rfl | cases h1
  cases hq : Tryz.prog.info? ty with
  | none => simp [hq] at hi
  | some i =>
    have hs : i.size = 1 := by simpa [hq] using hi
    simp only [Nat.add_zero] at this
    simp [storeVar, sizeOf, typeInfo, hq, hc, hs, this]
theorem wp_store_cell {w : World} {o : Oper} {a : Act} {K : Act → World → Prop} {Q : Exit → Act → World → Prop} (ty : TypeId) (x y : Operand) (ho : o.op = .store ty x y)
    (g off : Nat) (v : Value) (hx : a.eval x = .pointer (some ⟨g, off, none⟩)) (hy : a.eval y = v)
    (t : TypeId) (old : Array Value) (hB : Blk w g t old) (hi : (Tryz.prog.info? ty).map (·.size) = some 1) (hold : off < old.size) (h1 : v.oneCell' = true)
    (h : ∀ w', Blk w' g t (old.setIfInBounds off v) → w.grownBy w' (some g) → K (a.put o.dst undef) w') :
    o.wp Tryz.prog a w K Q := by
  have hr := run_storeVar_cell w g off ty v (fun j hj => ⟨by rw [hB.cell _ (Array.getElem?_eq_getElem (by omega : off + j < old.size))]; rfl, hB.frozen _⟩) hi h1
  unfold Oper.wp execOp
  simp only [ho, hx, hy, Instr.storeAt, Instr.sureAddr, Sem.run_bind, Sem.run_pure, Result.andThen_ok, hr]
  exact h _ (hB.setCells [v] off) (grown_setCells g _ _ (grown_refl w _))
theorem wpList_store_cell {w : World} {ops : Array Oper} {rest : List Oper} {o : Oper} {a : Act} {Q : Exit → Act → World → Prop} (hgd : o.guard = none) (ty : TypeId) (x y : Operand) (ho : o.op = .store ty x y)
    (hd : o.dst = none) (g off : Nat) (v : Value) (hx : a.eval x = .pointer (some ⟨g, off, none⟩)) (hy : a.eval y = v)
    (t : TypeId) (old : Array Value) (hB : Blk w g t old) (hi : (Tryz.prog.info? ty).map (·.size) = some 1) (hold : off < old.size) (h1 : v.oneCell' = true)
    (h : ∀ w', Blk w' g t (old.setIfInBounds off v) → w.grownBy w' (some g) → wpList Tryz.prog ops Q rest a w') :
    wpList Tryz.prog ops Q (o :: rest) a w := by
  have hr := run_storeVar_cell w g off ty v (fun j hj => ⟨by rw [hB.cell _ (Array.getElem?_eq_getElem (by omega : off + j < old.size))]; rfl, hB.frozen _⟩) hi h1
  refine wpList_plain hgd fun _ hK => ?_
  unfold Oper.wp execOp
  simp only [ho, hx, hy, Instr.storeAt, Instr.sureAddr, Sem.run_bind, Sem.run_pure, Result.andThen_ok, hr]
  exact hK (a.put o.dst undef) _ (by rw [hd]; exact h _ (hB.setCells [v] off) (grown_setCells g _ _ (grown_refl w _)))
theorem size_items : (Tryz.prog.info? 24).map (·.size) = some 1 := by kernel_rfl

/-- The same at one operation, for a region that draws its order. -/
theorem wp_app_items {w : World} {o : Oper} {a : Act} {K : Act → World → Prop} {Q : Exit → Act → World → Prop} (s x : Operand)
    (ho : o.op = .call { callee := .builtin .append, args := #[s, x], argTypes := #[24, 24] })
    (base : Nat) (v : Value) (H : Snap) (l : List Itm) (hs : a.eval s = v) (hown : OwnI w base v H l) (A : Option Addr) (m c : Nat) (cs : List Value) (news : List Itm) (hx : a.eval x = .slice A m c) (hm : m = news.length)
    (hn : ItemsC H cs news) (hr : Src w A cs) (hlen : l.length + news.length ≤ 1099511627776) (hbase : base ≤ w.heap.size)
    (h : ∀ v' w', OwnI w' base v' H (l ++ news) → w.grownBy w' v.ownBlock → At0 w v.ownBlock v'.ownBlock → K (a.put o.dst v') w') :
    o.wp Tryz.prog a w K Q := by
  subst hm
  obtain ⟨xs, hxs, hown⟩ := hown
  obtain ⟨i0, hi0, hz0, hz1, hz2⟩ := info_parts info_item
  refine wp_append_src s x _ ho base 26 i0 _ 4 64 Tryz.underlying24 hi0 hz0 hz1 hz2 rfl (by omega) v l.length xs hs hown A news.length c cs hx hn.len hr hn.oneCell
    (by simp only [maxLen]; omega) (by omega) hbase fun v' w' h2 h3 h4 => h v' w' ?_ h3 ?_
  · exact ⟨xs ++ cs, hxs.app hn, by simpa using h2⟩
  · rcases h4 with h4 | h4
    · exact .inl h4
    · exact .inr ⟨_, h4, Nat.le_refl _⟩
/-- An item's box; an empty one. -/
abbrev itemO (x : Itm) (ba : Option Addr) (bc : Nat) (ia : Option Addr) (ic : Nat) : Obj := .cells #[.int .i64 x.kind, .int .u64 x.n, .slice ba x.bytes.length bc, .slice ia x.items.length ic] 26
abbrev zeroO : Obj := .cells #[.int .i64 0, .int .u64 0, .slice none 0 0, .slice none 0 0] 26
theorem drew_heap (w : World) : w.drew.heap = w.heap := rfl
theorem size_alloc (w : World) (o : Obj) : (w.alloc o).heap.size = w.heap.size + 1 := by simp
section
variable {w wr wr' : World} {H Hr Hs : Snap} {g : Nat}
theorem Grows.alloc (h : Grows w H wr Hr) (o : Obj) : Grows w H (wr.alloc o) Hr := ⟨h.below.alloc h.below.size o, h.le, h.holds.alloc o, h.fresh⟩
theorem Grows.below_ (h : Grows w H wr Hr) (hb : Below wr.heap.size wr wr') : Grows w H wr' Hr := h.trans (Grows.of_below h.holds hb)
theorem Grows.setOwn (h : Grows w H wr Hr) (h0 : Hr g = .none) (hw : w.heap.size ≤ g) (i : Nat) (u : Value) : Grows w H (wr.setCell ⟨g, i, .none⟩ u) Hr :=
  ⟨h.below.setCell (p := ⟨g, i, .none⟩) hw u, h.le, h.holds.setCell (p := ⟨g, i, .none⟩) h0 u, h.fresh⟩
theorem Grows.grownOwn (h : Grows w H wr Hr) (h0 : Hr g = .none) (hw : w.heap.size ≤ g) (hg : wr.grownBy wr' (some g)) : Grows w H wr' Hr :=
  ⟨h.below.grown hg h.below.size (by rintro k ⟨⟩; exact hw), h.le, h.holds.grown hg (by rintro k ⟨⟩; exact h0), h.fresh⟩
theorem Grows.drew (h : Grows w H wr Hr) : Grows w H wr.drew Hr := ⟨h.below.drew, h.le, h.holds.drew, h.fresh⟩
theorem Grows.grownRow {row : Option Nat} (h : Grows w H wr Hr) (h0 : ∀ g, row = some g → Hr g = .none) (hw : ∀ g, row = some g → w.heap.size ≤ g) (hg : wr.grownBy wr' row) : Grows w H wr' Hr :=
  ⟨h.below.grown hg h.below.size hw, h.le, h.holds.grown hg h0, h.fresh⟩
theorem Grows.withOwn (h : Grows w H wr Hr) (h0 : Hr g = .none) (hw : w.heap.size ≤ g) {o : Obj} (hg : wr.heap[g]? = some o) : Grows w H wr (Hr.with g o) :=
  ⟨h.below, h.le.trans (Snap.le_with h0), h.holds.with hg, fun b x hb => by
    unfold Snap.with at hb
    split at hb
    · subst b; exact .inr hw
    · exact h.fresh b x hb⟩
/-- A block of the call's own that is not among the data. -/
theorem Grows.hidden (h : Grows w H wr Hr) (hg : wr.heap.size ≤ g) : Hr g = .none := h.holds.none_of_ge hg
theorem Grows.size (h : Grows w H wr Hr) : w.heap.size ≤ wr.heap.size := h.below.size
theorem Blk.cellsAt {t : TypeId} {cs : Array Value} (Hs : Snap) (h0 : Hs = Hr.with g (.cells cs t (0, 0))) (pre : List Value) (hp : cs.toList.take pre.length = pre) : Cells Hs g 0 pre := fun j v hj => by
  subst h0
  have hjl := (List.getElem?_eq_some_iff.1 hj).1
  rw [← hp, List.getElem?_take, if_pos hjl] at hj
  simp [Snap.cell?, Snap.with]
  simpa using hj
theorem Fresh.snapB {A : Option Addr} {n c : Nat} {l : List UInt8} (hH : Holds w H) (h : Fresh w l (.slice A n c) wr) : ∃ H', Grows w H wr H' ∧ IsBytes H' A c l ∧ n = l.length := by
  obtain ⟨H', hl, hh, hf, hn, hi⟩ := h.own.snap (hH.below h.2 (Nat.le_refl _)) (fun g hg => hH.none_of_ge (h.own.lt g (by cases A <;> simp_all [Value.ownBlock])).1)
  refine ⟨H', ⟨h.2, hl, hh, fun b o hb => ?_⟩, hi, hn⟩
  rcases hf b o hb with h1 | h1
  · exact .inl h1
  · exact .inr (h.own.lt b (by cases A <;> simp_all [Value.ownBlock])).1
end
end Go.Proofs.YtebcnkelbicbnaaGreatDoor
namespace Go.Proofs.YtebcnkelbicbnaaGreatDoor
open Go.RowKit

def u8 (n : Nat) : UInt8 := UInt8.ofNat n
theorem u8_toNat (n : Nat) : (u8 n).toNat = n % 256 := by simp [u8]
theorem byteV_u8 (n : Nat) : byteV (u8 n) = .int .u8 ((n % 256 : Nat) : Int) := by simp [byteV, u8_toNat]
theorem byteV_of (x : Int) (n : Nat) (h : x = ((n % 256 : Nat) : Int)) : Value.int .u8 x = byteV (u8 n) := by rw [byteV_u8, h]
/-- The first k bytes of n as eight bytes, big-endian. -/
def be8 (n : Nat) : Nat → List UInt8
  | 0 => []
  | k + 1 => be8 n k ++ [u8 (n / 2 ^ (56 - 8 * k))]
theorem be8_length (n k : Nat) : (be8 n k).length = k := by induction k <;> simp [be8, *]

/-- The head of a major type m and a number n. -/
def headB (m n : Nat) : List UInt8 :=
  if n < 24 then [u8 (m * 32 + n)]
  else if n < 256 then [u8 (m * 32 + 24), u8 n]
  else if n < 65536 then [u8 (m * 32 + 25), u8 (n / 256), u8 n]
  else if n < 4294967296 then [u8 (m * 32 + 26), u8 (n / 16777216), u8 (n / 65536), u8 (n / 256), u8 n]
  else u8 (m * 32 + 27) :: be8 n 8
theorem headB_length (m n : Nat) : (headB m n).length = if n < 24 then 1 else if n < 256 then 2 else if n < 65536 then 3 else if n < 4294967296 then 5 else 9 := by
  unfold headB
  repeat' split
  all_goals simp [be8_length]
theorem headB_le (m n : Nat) : 1 ≤ (headB m n).length ∧ (headB m n).length ≤ 9 := by
  rw [headB_length]
  repeat' split
  all_goals omega

theorem ofInt_u8 (a : Nat) (ha : a < 256) : (BitVec.ofInt 8 (a : Int)).toNat = a := by
  rw [BitVec.ofInt_natCast, BitVec.toNat_ofNat]; exact Nat.mod_eq_of_lt (by omega)
theorem u8_or_nat (a b : Nat) (ha : a < 256) (hb : b < 256) : bits .or .u8 (a : Int) (b : Int) = ((a ||| b : Nat) : Int) := by
  have hx : a ||| b < 2 ^ 8 := Nat.or_lt_two_pow (by omega) (by omega)
  show IntKind.u8.wrap ((BitVec.ofInt 8 (a : Int) ||| BitVec.ofInt 8 (b : Int)).toNat : Int) = _
  rw [BitVec.toNat_or, ofInt_u8 a ha, ofInt_u8 b hb, IntKind.wrap_u8]
  omega
theorem or_head (m n : Nat) (hn : n < 32) : m * 32 ||| n = m * 32 + n := by
  have h := Nat.two_pow_add_eq_or_of_lt (i := 5) (b := n) (by omega) m
  rw [show 2 ^ 5 * m = m * 32 by omega] at h
  exact h.symm
theorem u8_head (m n : Nat) (hm : m < 8) (hn : n < 32) : bits .or .u8 ((m : Int) * 32) (n : Int) = ((m * 32 + n : Nat) : Int) := by
  have h := u8_or_nat (m * 32) n (by omega) (by omega)
  rw [or_head m n hn] at h
  simpa using h
end Go.Proofs.YtebcnkelbicbnaaGreatDoor
namespace Go.Proofs.YtebcnkelbicbnaaGreatDoor
open Go.RowKit

def isNaN (n : Nat) : Bool := n / 2 ^ 52 % 2048 == 2047 && n % 2 ^ 52 != 0
/-- The bits of a number in a format with eb bits of exponent and mb of fraction, if it has one there. -/
def narrow (n eb mb : Nat) : Option Nat :=
  let sign := n / 2 ^ 63 * 2 ^ (eb + mb)
  let e := n / 2 ^ 52 % 2048
  let m := n % 2 ^ 52
  let top := 2 ^ eb - 1
  let bias := 2 ^ (eb - 1) - 1
  if e = 2047 then (if m = 0 then some (sign + top * 2 ^ mb) else none)
  else if e = 0 then (if m = 0 then some sign else none)
  else if 1023 + top ≤ e + bias then none
  else if 1023 < e + bias then (if m % 2 ^ (52 - mb) = 0 then some (sign + (e + bias - 1023) * 2 ^ mb + m / 2 ^ (52 - mb)) else none)
  else
    let shift := 53 - mb + (1023 - e - bias)
    if 52 < shift then none else if (m + 2 ^ 52) % 2 ^ shift = 0 then some (sign + (m + 2 ^ 52) / 2 ^ shift) else none
def floatB (n : Nat) : List UInt8 :=
  if isNaN n then [u8 249, u8 126, u8 0] else
  match narrow n 5 10 with
  | some v => [u8 249, u8 (v / 256), u8 v]
  | none => match narrow n 8 23 with
    | some v => [u8 250, u8 (v / 16777216), u8 (v / 65536), u8 (v / 256), u8 v]
    | none => u8 251 :: be8 n 8
theorem floatB_length (n : Nat) : (floatB n).length = 3 ∨ (floatB n).length = 5 ∨ (floatB n).length = 9 := by
  unfold floatB
  repeat' split
  all_goals simp [be8_length]

def numP (x : Itm) : Nat :=
  if x.kind = 2 ∨ x.kind = 3 then x.bytes.length else if x.kind = 4 then x.items.length else if x.kind = 5 then x.items.length / 2 else x.n

mutual
/-- The encoding of an item. -/
def encB : Itm → List UInt8
  | .mk k n bs l =>
    if k = 8 then floatB n
    else if k = 7 ∧ 24 ≤ n then [u8 248, u8 n]
    else headB k.toNat (numP (.mk k n bs l)) ++ bs ++ encL l
def encL : List Itm → List UInt8
  | [] => []
  | x :: l => encB x ++ encL l
end
theorem encL_append (l m : List Itm) : encL (l ++ m) = encL l ++ encL m := by
  induction l with
  | nil => rw [List.nil_append, encL, List.nil_append]
  | cons x l ih => rw [List.cons_append, encL, encL, ih, List.append_assoc]
theorem encL_take_succ (l : List Itm) (k : Nat) (h : k < l.length) : encL (l.take (k + 1)) = encL (l.take k) ++ encB l[k] := by
  rw [List.take_succ_eq_append_getElem h, encL_append, encL, encL, List.append_nil]
theorem encB_eq (x : Itm) : encB x = if x.kind = 8 then floatB x.n else if x.kind = 7 ∧ 24 ≤ x.n then [u8 248, u8 x.n] else headB x.kind.toNat (numP x) ++ x.bytes ++ encL x.items := by
  cases x
  rw [encB]
  rfl
theorem encL_take_le (l : List Itm) (k : Nat) : (encL (l.take k)).length ≤ (encL l).length := by
  have h := encL_append (l.take k) (l.drop k)
  rw [List.take_append_drop] at h
  rw [h]
  simp

mutual
/-- The kinds are those of items. -/
def Kinds : Itm → Prop
  | .mk k _ _ l => (0 ≤ k ∧ k ≤ 8) ∧ KindsL l
def KindsL : List Itm → Prop
  | [] => True
  | x :: l => Kinds x ∧ KindsL l
end
theorem Kinds.kind {x : Itm} (h : Kinds x) : 0 ≤ x.kind ∧ x.kind ≤ 8 := by cases x; rw [Kinds] at h; exact h.1
theorem Kinds.items {x : Itm} (h : Kinds x) : KindsL x.items := by cases x; rw [Kinds] at h; exact h.2
theorem KindsL.get : ∀ {l : List Itm}, KindsL l → ∀ (k : Nat) (hk : k < l.length), Kinds l[k]
  | [], _, k, hk => by simp at hk
  | x :: l, h, 0, _ => by rw [KindsL] at h; exact h.1
  | x :: l, h, k + 1, hk => by rw [KindsL] at h; exact h.2.get k (by simpa using hk)

mutual
/-- The number of nodes. -/
def cnt : Itm → Nat
  | .mk _ _ _ l => cntL l + 1
def cntL : List Itm → Nat
  | [] => 0
  | x :: l => cnt x + cntL l
end
theorem cntL_get : ∀ (l : List Itm) (k : Nat) (hk : k < l.length), cnt l[k] ≤ cntL l
  | [], k, hk => by simp at hk
  | x :: l, 0, _ => by rw [cntL]; simp
  | x :: l, k + 1, hk => by
    have := cntL_get l k (by simpa using hk)
    rw [cntL]
    simp only [List.getElem_cons_succ]
    omega
theorem cnt_items (x : Itm) (k : Nat) (hk : k < x.items.length) : cnt x.items[k] < cnt x := by
  cases x with
  | mk a b c l =>
    have := cntL_get l k hk
    rw [cnt]
    simp only [Itm.items]
    omega
end Go.Proofs.YtebcnkelbicbnaaGreatDoor
namespace Go.Proofs.YtebcnkelbicbnaaGreatDoor
open Go.RowKit

def notNumber : Nat := 9221120237041090560
def isPlain (x : Itm) : Bool := x.kind == 0 || x.kind == 1 || x.kind == 2 || x.kind == 3 || x.kind == 7 || x.kind == 8
def okPlain (x : Itm) : Bool :=
  if x.kind = 0 ∨ x.kind = 1 then x.bytes.isEmpty && x.items.isEmpty
  else if x.kind = 2 then x.n == 0 && x.items.isEmpty
  else if x.kind = 3 then x.n == 0 && x.items.isEmpty && Lib.validD x.bytes
  else if x.kind = 7 then x.bytes.isEmpty && x.items.isEmpty && (decide (x.n < 24) || decide (32 ≤ x.n) && decide (x.n < 256))
  else if x.kind = 8 then x.bytes.isEmpty && x.items.isEmpty && (!isNaN x.n || x.n == notNumber)
  else false
/-- The bytes of an item without its elements. -/
def spendP (x : Itm) : Nat :=
  if x.kind = 8 then (floatB x.n).length else if x.kind = 7 then (if 24 ≤ x.n then 2 else 1) else (headB x.kind.toNat (numP x)).length + x.bytes.length
/-- The keys of pairs ascend. -/
def ascP : List Itm → Bool
  | a :: b :: c :: l => decide (Lib.compareBytes (encB a) (encB c) < 0) && ascP (c :: l)
  | _ => true
theorem ascP_drop (l : List Itm) (j : Nat) (h2 : 2 ≤ j) (h : j < l.length) :
    ascP (l.drop (j - 2)) = (decide (Lib.compareBytes (encB (l[j - 2]'(by omega))) (encB l[j]) < 0) && ascP (l.drop j)) := by
  have e1 : l.drop (j - 2) = l[j - 2]'(by omega) :: l.drop (j - 1) := by
    rw [List.drop_eq_getElem_cons (by omega)]
    rw [show j - 2 + 1 = j - 1 by omega]
  have e2 : l.drop (j - 1) = l[j - 1]'(by omega) :: l.drop j := by
    rw [List.drop_eq_getElem_cons (by omega)]
    rw [show j - 1 + 1 = j by omega]
  have e3 : l.drop j = l[j] :: l.drop (j + 1) := List.drop_eq_getElem_cons h
  rw [e1, e2, e3, ascP]
theorem ascP_end (l : List Itm) (j : Nat) (h2 : 2 ≤ j) (h : l.length ≤ j) : ascP (l.drop (j - 2)) = true := by
  have hl : (l.drop (j - 2)).length ≤ 2 := by rw [List.length_drop]; omega
  match l.drop (j - 2), hl with
  | [], _ => rfl
  | [_], _ => rfl
  | [_, _], _ => rfl
  | _ :: _ :: _ :: _, h => simp at h
end Go.Proofs.YtebcnkelbicbnaaGreatDoor
namespace Go.Proofs.YtebcnkelbicbnaaGreatDoor
open Go.RowKit

/-- What an item may be before its elements are looked at. -/
def frameOk (x : Itm) (lv : Nat) : Bool :=
  decide (4 ≤ x.kind ∧ x.kind ≤ 6 ∧ lv < 8 ∧ x.bytes.length = 0 ∧ (x.kind = 6 → x.items.length = 1) ∧ (x.kind ≠ 6 → x.n = 0) ∧ (x.kind = 5 → x.items.length % 2 = 0))
mutual
/-- The checker: the counts behind an item, if it is valid as far as that goes. -/
def chk : Itm → Nat → Nat → Nat → Option (Nat × Nat)
  | .mk k n bs l, lv, i, s =>
    if 256 < i + 1 ∨ 4096 < bs.length ∨ 256 < l.length then none
    else if isPlain (.mk k n bs l) = true then (if okPlain (.mk k n bs l) = true ∧ s + spendP (.mk k n bs l) ≤ 4096 then some (i + 1, s + spendP (.mk k n bs l)) else none)
    else if frameOk (.mk k n bs l) lv = false then none
    else if 4096 < s + spendP (.mk k n bs l) then none
    else match chkL l (lv + 1) (i + 1) (s + spendP (.mk k n bs l)) with
      | none => none
      | some p => if k = 5 ∧ ascP l = false then none else some p
def chkL : List Itm → Nat → Nat → Nat → Option (Nat × Nat)
  | [], _, i, s => some (i, s)
  | x :: l, lv, i, s => match chk x lv i s with
    | none => none
    | some p => chkL l lv p.1 p.2
end
theorem chk_eq (x : Itm) (lv i s : Nat) : chk x lv i s =
    if 256 < i + 1 ∨ 4096 < x.bytes.length ∨ 256 < x.items.length then none
    else if isPlain x = true then (if okPlain x = true ∧ s + spendP x ≤ 4096 then some (i + 1, s + spendP x) else none)
    else if frameOk x lv = false then none
    else if 4096 < s + spendP x then none
    else match chkL x.items (lv + 1) (i + 1) (s + spendP x) with
      | none => none
      | some p => if x.kind = 5 ∧ ascP x.items = false then none else some p := by
  cases x
  rw [chk]
  rfl
theorem isPlain_iff (x : Itm) : isPlain x = true ↔ x.kind = 0 ∨ x.kind = 1 ∨ x.kind = 2 ∨ x.kind = 3 ∨ x.kind = 7 ∨ x.kind = 8 := by
  simp [isPlain]
  omega
theorem spend_enc (x : Itm) (h : x.items = []) (h8 : x.kind = 8 ∨ x.kind = 7 → x.bytes = []) : spendP x = (encB x).length := by
  rw [encB_eq, spendP]
  by_cases h1 : x.kind = 8
  · rw [if_pos h1, if_pos h1]
  rw [if_neg h1, if_neg h1]
  by_cases h2 : x.kind = 7
  · rw [if_pos h2]
    by_cases h3 : 24 ≤ x.n
    · rw [if_pos h3, if_pos ⟨h2, h3⟩]; rfl
    · have hn : numP x = x.n := by simp [numP, h2]
      rw [if_neg h3, if_neg (by omega), h8 (.inr h2), h, encL, hn, headB, if_pos (by omega)]
      rfl
  · rw [if_neg h2, if_neg (by omega), h, encL]
    simp
theorem spend_mid (x : Itm) (h8 : x.kind ≠ 8) (h7 : x.kind ≠ 7) : spendP x = (headB x.kind.toNat (numP x)).length + x.bytes.length := by
  rw [spendP, if_neg h8, if_neg h7]
theorem frameOk_spec {x : Itm} {lv : Nat} (h : frameOk x lv = true) : 4 ≤ x.kind ∧ x.kind ≤ 6 ∧ lv < 8 ∧ x.bytes.length = 0 ∧ (x.kind = 6 → x.items.length = 1) ∧ (x.kind ≠ 6 → x.n = 0) ∧ (x.kind = 5 → x.items.length % 2 = 0) :=
  of_decide_eq_true h
theorem okPlain_items {x : Itm} (hp : isPlain x = true) (ho : okPlain x = true) : x.items = [] ∧ (x.kind = 8 ∨ x.kind = 7 → x.bytes = []) := by
  rw [isPlain_iff] at hp
  unfold okPlain at ho
  rcases hp with h | h | h | h | h | h <;> simp [h] at ho ⊢ <;> simp [ho]
mutual
theorem chk_spec : ∀ (x : Itm) (lv i s : Nat) (p : Nat × Nat), chk x lv i s = some p → Kinds x ∧ p = (i + cnt x, s + (encB x).length) ∧ p.1 ≤ 256 ∧ p.2 ≤ 4096
  | .mk k n bs l, lv, i, s, p, h => by
    rw [chk] at h
    split at h
    · cases h
    rename_i h0
    split at h
    · rename_i hp
      split at h
      · rename_i ho
        obtain ⟨hi, hb⟩ := okPlain_items hp ho.1
        have hk := (isPlain_iff _).1 hp
        have hs := spend_enc (.mk k n bs l) hi hb
        simp only [Itm.items, Itm.kind] at hi hk
        subst hi
        injection h with h
        subst h
        rw [← hs]
        refine ⟨?_, ?_, ?_, ?_⟩
        · rw [Kinds, KindsL]; exact ⟨by omega, trivial⟩
        · rw [cnt, cntL]
        · simp only; omega
        · exact ho.2
      · cases h
    rename_i hp
    split at h
    · cases h
    rename_i hf
    split at h
    · cases h
    rename_i h4
    have hf' := frameOk_spec (by simpa using hf)
    simp only [Itm.kind, Itm.bytes, Itm.items, List.length_eq_zero_iff] at hf'
    split at h
    · cases h
    rename_i q hq
    split at h
    · cases h
    injection h with h
    subst h
    obtain ⟨hk, hq', h1, h2⟩ := chkL_spec l _ _ _ _ hq (by omega) (by omega)
    have hsp := spend_mid (.mk k n bs l) (by simp only [Itm.kind]; omega) (by simp only [Itm.kind]; omega)
    simp only [Itm.kind, Itm.bytes] at hsp
    rw [hf'.2.2.2.1] at hsp
    refine ⟨by rw [Kinds]; exact ⟨by omega, hk⟩, ?_, h1, h2⟩
    rw [hq', cnt, encB, if_neg (by omega), if_neg (by omega), hf'.2.2.2.1, hsp]
    simp only [List.length_append, List.length_nil, Prod.mk.injEq]
    omega
theorem chkL_spec : ∀ (l : List Itm) (lv i s : Nat) (p : Nat × Nat), chkL l lv i s = some p → i ≤ 256 → s ≤ 4096 → KindsL l ∧ p = (i + cntL l, s + (encL l).length) ∧ p.1 ≤ 256 ∧ p.2 ≤ 4096
  | [], lv, i, s, p, h, hi, hs => by
    rw [chkL] at h
    injection h with h
    subst h
    rw [KindsL, cntL, encL]
    exact ⟨trivial, rfl, hi, hs⟩
  | x :: l, lv, i, s, p, h, hi, hs => by
    rw [chkL] at h
    split at h
    · cases h
    rename_i q hq
    obtain ⟨hk, hq', h1, h2⟩ := chk_spec x _ _ _ _ hq
    obtain ⟨hkl, hp, h3, h4⟩ := chkL_spec l _ _ _ _ h h1 h2
    refine ⟨by rw [KindsL]; exact ⟨hk, hkl⟩, ?_, h3, h4⟩
    rw [hp, hq', cntL, encL]
    simp
    omega
end
end Go.Proofs.YtebcnkelbicbnaaGreatDoor
namespace Go.Proofs.YtebcnkelbicbnaaGreatDoor
open Go.RowKit

/-- Is the item valid? -/
def validP (x : Itm) : Bool := (chk x 0 0 0).isSome
theorem validP_spec {x : Itm} (h : validP x = true) : Kinds x ∧ cnt x ≤ 256 ∧ (encB x).length ≤ 4096 := by
  obtain ⟨p, hp⟩ := Option.isSome_iff_exists.1 h
  obtain ⟨hk, he, h1, h2⟩ := chk_spec _ _ _ _ _ hp
  subst he
  simp only at h1 h2
  exact ⟨hk, by omega, by omega⟩
mutual
/-- No length in the item goes beyond what memory bears. -/
def Modest : Itm → Prop
  | .mk _ _ bs l => bs.length ≤ 1099511627776 ∧ l.length ≤ 1099511627776 ∧ ModestL l
def ModestL : List Itm → Prop
  | [] => True
  | x :: l => Modest x ∧ ModestL l
end
theorem Modest.parts {x : Itm} (h : Modest x) : x.bytes.length ≤ 1099511627776 ∧ x.items.length ≤ 1099511627776 ∧ ModestL x.items := by cases x; rw [Modest] at h; exact h
theorem ModestL.get : ∀ {l : List Itm}, ModestL l → ∀ (k : Nat) (hk : k < l.length), Modest l[k]
  | [], _, k, hk => by simp at hk
  | x :: l, h, 0, hk => by rw [ModestL] at h; exact h.1
  | x :: l, h, k + 1, hk => by rw [ModestL] at h; exact h.2.get k (by simpa using hk)
abbrev zeroItm : Itm := .mk 0 0 [] []

theorem validP_even {x : Itm} (h : validP x = true) (h5 : x.kind = 5) : x.items.length % 2 = 0 := by
  obtain ⟨p, hp⟩ := Option.isSome_iff_exists.1 h
  rw [chk_eq] at hp
  split at hp
  · cases hp
  split at hp
  · rename_i h1
    rw [isPlain_iff] at h1
    omega
  split at hp
  · cases hp
  · rename_i h1
    exact (frameOk_spec (by simpa using h1)).2.2.2.2.2.2 h5
theorem validP_items {x : Itm} (h : validP x = true) : x.bytes.length ≤ 4096 ∧ x.items.length ≤ 256 ∧ KindsL x.items ∧ (encL x.items).length ≤ 4096 := by
  obtain ⟨hk, hc, he⟩ := validP_spec h
  obtain ⟨p, hp⟩ := Option.isSome_iff_exists.1 h
  rw [chk_eq] at hp
  split at hp
  · cases hp
  rename_i h0
  refine ⟨by omega, by omega, hk.items, ?_⟩
  split at hp
  · rename_i h1
    split at hp
    · rename_i h2
      rw [(okPlain_items h1 h2.1).1]
      simp [encL]
    · cases hp
  split at hp
  · cases hp
  rename_i h1
  have := frameOk_spec (by simpa using h1)
  rw [encB_eq, if_neg (by omega), if_neg (by omega)] at he
  simp only [List.length_append] at he
  omega
mutual
theorem chk_modest : ∀ (x : Itm) (lv i s : Nat) (p : Nat × Nat), chk x lv i s = some p → Modest x
  | .mk k n bs l, lv, i, s, p, h => by
    rw [chk] at h
    split at h
    · cases h
    rename_i h0
    rw [Modest]
    refine ⟨by omega, by omega, ?_⟩
    split at h
    · rename_i h1
      split at h
      · rename_i h2
        rw [show l = [] from (okPlain_items h1 h2.1).1, ModestL]
        trivial
      · cases h
    split at h
    · cases h
    split at h
    · cases h
    split at h
    · cases h
    · rename_i q hq
      exact chkL_modest l _ _ _ _ hq
theorem chkL_modest : ∀ (l : List Itm) (lv i s : Nat) (p : Nat × Nat), chkL l lv i s = some p → ModestL l
  | [], _, _, _, _, _ => by rw [ModestL]; trivial
  | x :: l, lv, i, s, p, h => by
    rw [chkL] at h
    split at h
    · cases h
    · rename_i q hq
      rw [ModestL]
      exact ⟨chk_modest x _ _ _ _ hq, chkL_modest l _ _ _ _ h⟩
end
theorem validP_modest {x : Itm} (h : validP x = true) : Modest x := by
  obtain ⟨p, hp⟩ := Option.isSome_iff_exists.1 h
  exact chk_modest _ _ _ _ _ hp
/-- The item of an int. -/
def intP (n : Int) : Itm := if n < 0 then .mk 1 (-1 - n).toNat [] [] else .mk 0 n.toNat [] []
/-- Where the parts of an item lie. -/
structure Ad where
  ba : Option Addr
  bc : Nat
  ia : Option Addr
  ic : Nat
/-- The tables of package utf8 lie in the snapshot. -/
def Tabs (H : Snap) : Prop := ∀ w, Holds w H → Lib.Utf8Tabs 0 1 w
theorem Tabs.mono {H K : Snap} (h : Tabs H) (hl : H.le K) : Tabs K := fun w hw => h w (hw.mono hl)
end Go.Proofs.YtebcnkelbicbnaaGreatDoor
