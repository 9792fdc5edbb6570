/- Walks: the law's example: a symmetric key. Small maps of the call's own, keyed by numbers: filled at keys that are not there, and looked up. The small number of an item. Walks: the small number of an item, by the program and by the reference. Keys: what both sides read from an item: plain mathematics. Walks: the deck's external data. Walks: the reference's copy of a key, and a key with one field changed. -/
import Derived.Test.YtebcnkelbicbnaaGreatDoorM30
import Derived.Test.YtebcnkelbicbnaaGreatDoorM31
import Derived.Test.YtebcnkelbicbnaaGreatDoorM22
import Derived.Test.YtebcnkelbicbnaaGreatDoorM01
import Derived.Test.YtebcnkelbicbnaaGreatDoorM02
import Derived.Maps.Own
import Derived.MapKept
import Derived.Test.YtebcnkelbicbnaaGreatDoorM00
import Derived.Test.YtebcnkelbicbnaaGreatDoorM12
import Derived.Test.YtebcnkelbicbnaaGreatDoorM10
import Derived.Test.YtebcnkelbicbnaaGreatDoorM15
import Derived.Test.YtebcnkelbicbnaaGreatDoorM20
import Derived.Test.YtebcnkelbicbnaaGreatDoorM11
import Derived.Test.YtebcnkelbicbnaaGreatDoorM06
import Derived.Test.YtebcnkelbicbnaaGreatDoorM08
import Derived.Test.YtebcnkelbicbnaaGreatDoorM19
set_option linter.unusedVariables false
set_option linter.unusedSimpArgs false
namespace Go.Proofs.YtebcnkelbicbnaaGreatDoor
open Go.RowKit

set_option maxRecDepth 100000 in
set_option maxHeartbeats 6400000 in
theorem key_PublicSym {H : Snap} {q : Ky} {a : KAd} (hq : KeyA H q a) (hv : validK q = true) (h4 : q.kty = 4) (w : World) :
    Calls Tryz.prog 25 #[.agg (keyQ q a)] w fun e w' => e = .returned (.tuple #[.agg zeroK, .int .i64 12]) ∧ Below w.heap.size w w' := by
  have hB1 := (Blk.new w 33 (keyQ q a)).alloc (.cells zeroK 33)
  have hT := Blk.new (w.alloc (.cells (keyQ q a) 33)) 33 zeroK
  rw [size_alloc] at hT
  have hb1 := ((below_box w (.cells (keyQ q a) 33)).alloc (below_box w (.cells (keyQ q a) 33)).size (.cells zeroK 33))
  have V := Lib.hid (fun W => key_ValidN q.kty q.crv q.alg a.ia q.kid.length a.ic a.xa q.x.length a.xc a.da q.d.length a.dc a.ka q.k.length a.kc W hq.len.1 hq.len.2)
  have HV := Lib.hid hv
  have c0 := hB1.cell 0 rfl
  have c1 := hB1.cell 1 rfl
  have c2 := hB1.cell 2 rfl
  have c3 := hB1.cell 3 rfl
  have c4 := hB1.cell 4 rfl
  have c5 := hB1.cell 5 rfl
  have c6 := hB1.cell 6 rfl
  have H4 := Lib.hid h4
  clear hq hv h4
  go_enter Tryz.func25, Tryz.ntmps25
  go_wp2_with fail
  refine (V.out _).mono ?_
  rintro e w3 ⟨rfl, hb3⟩
  rw [validN_eq, HV.out]
  replace hT := hT.below hb3
  replace hB1 := hB1.below hb3
  have hbz := hb1.trans (hb3.mono hb1.size)
  clear hb1 hb3 V c0 c1 c2 c3 c4 c5 c6
  have c0 : w3.cell? ⟨w.heap.size, 0, none⟩ = some (.int .i64 4) := by rw [← H4.out]; exact hB1.cell 0 rfl
  clear hB1
  go_wp2_with (with_reducible refine stop_store ?_)
  unfold Stopped
  refine wpList_store_item rfl _ _ _ rfl rfl _ _ rfl rfl _ _ hT size_key rfl (one7 _ _ _ _ _ _ _ rfl rfl rfl rfl rfl rfl rfl) fun w9 hT9 hg9 => ?_
  have hb9 := hbz.grown hg9 hbz.size (by rintro k ⟨⟩; omega)
  go_wp2_with fail
  refine ret_row_tmp rfl rfl hT9 rfl rfl size_key rfl ?_
  exact ⟨rfl, hb9⟩
theorem Src.grown_ {w' : World} {A : Option Addr} {xs : List Value} {t : TypeId} {cs : Array Value} {w0 : World} (h : Src (w0.alloc (.cells cs t)) A xs) (hg : (w0.alloc (.cells cs t)).grownBy w' (some w0.heap.size)) (h0 : Src w0 A xs) : Src w' A xs := fun hx => by
  obtain ⟨b, off, e, hc⟩ := h hx
  obtain ⟨b', off', e', hc'⟩ := h0 hx
  rw [e] at e'
  cases e'
  refine ⟨b, off, e, fun j v hj => ?_⟩
  have hl := World.block_lt_of_cell? w0 _ (hc' j v hj)
  have hb := hg.block b (by simp; exact Nat.lt_succ_of_lt hl) (by intro e; injection e with e; subst e; exact Nat.lt_irrefl _ hl)
  rw [← hc j v hj]
  simp only [World.cell?, hb]
def qA : Ky := ⟨4, 0, 0, [0xaa], [], [], [1, 2]⟩
def qB : Ky := ⟨4, 0, 0, [], [], [], [1]⟩
theorem qA_enc : encB (itemK qA) = [0xa3, 0x01, 0x04, 0x02, 0x41, 0xaa, 0x20, 0x42, 0x01, 0x02] := by decide +kernel
theorem qA_valid : validK qA = true := by decide +kernel
theorem qB_valid : validK qB = true := by decide +kernel
set_option maxRecDepth 100000 in
set_option maxHeartbeats 6400000 in
theorem law11_awake {H : Snap} (hTab : Tabs H) (w : World) (hH : Holds w H) :
    Calls Tryz.prog 6 #[] w fun e w' => e = .returned (.bool true) ∧ Below w.heap.size w w' := by
  obtain ⟨H1, hG1, hl1, hb1⟩ := lit_bytes (Grows.refl hH) [1, 2] #[.int .u8 1, .int .u8 2] 2 rfl (by simp) rfl
  obtain ⟨H2, hG2, hl2, hb2⟩ := lit_bytes hG1 [0xaa] #[.int .u8 170] 1 rfl (by simp) rfl
  have hkA : KeyA H2 qA ⟨some ⟨(w.alloc (.cells #[.int .u8 1, .int .u8 2] 5)).heap.size, 0, none⟩, 1, none, 0, none, 0, some ⟨w.heap.size, 0, none⟩, 2⟩ :=
    ⟨by simp [qA], by simp [qA], by simp [qA], hb2, IsBytes.nil _, IsBytes.nil _, hb1.mono hl2⟩
  rw [size_alloc] at hkA
  have EN := Lib.hid (key_Encode (hTab.mono hG2.le) hkA _ hG2.holds)
  clear hkA hb1 hb2 hl1 hl2 hG1
  have HT := Lib.hid hTab
  have HG2 := Lib.hid hG2
  clear hTab hH hG2
  go_enter Tryz.func6, Tryz.ntmps6
  go_wp2_with fail
  refine EN.out.mono ?_
  rintro e w3 ⟨r3, l3, rfl, hf3, hl3⟩
  rw [if_pos qA_valid, qA_enc] at hl3
  subst hl3
  obtain ⟨A3, c3, rfl, hjk⟩ := hf3.own.form
  clear hjk
  have hG3 := HG2.out.below_ hf3.2
  have hs3 := hf3.own.src
  have hcA : codeK qA = 0 := by rw [codeK, if_pos qA_valid]
  rw [hcA]
  clear hcA EN HG2 hf3
  obtain ⟨H4, hG4, hl4, hb4⟩ := lit_bytes hG3 [1] #[.int .u8 1] 1 rfl (by simp) rfl
  have hkB : KeyA H4 qB ⟨none, 0, none, 0, none, 0, some ⟨w3.heap.size, 0, none⟩, 1⟩ :=
    ⟨by simp [qB], by simp [qB], by simp [qB], IsBytes.nil _, IsBytes.nil _, IsBytes.nil _, hb4⟩
  have PB := Lib.hid (key_PublicSym hkB qB_valid rfl (w3.alloc (.cells #[.int .u8 1] 5)))
  replace hs3 := hs3.alloc (.cells #[.int .u8 1] 5)
  have hb4w := hG4.below
  clear hG3 hG4 hl4 hb4 hkB
  go_wp2_with fail
  refine PB.out.mono ?_
  rintro e w5 ⟨rfl, hb5⟩
  replace hs3 := hs3.below hb5
  have hb6 := hb4w.trans (hb5.mono hb4w.size)
  clear PB hb5 hb4w
  go_wp2_with (with_reducible refine stop_store ?_)
  unfold Stopped
  have hKB := Blk.new w5 33 zeroK
  have hb7 := hb6.alloc hb6.size (.cells zeroK 33)
  have hs4 := hs3.alloc (.cells zeroK 33)
  refine wpList_store_item rfl _ _ _ rfl rfl _ _ rfl rfl _ _ hKB size_key rfl (one7 _ _ _ _ _ _ _ rfl rfl rfl rfl rfl rfl rfl) fun w9 hT9 hg9 => ?_
  have hb9 := hb7.grown hg9 hb7.size (by rintro k ⟨⟩; exact hb6.size)
  have k1 := conv_bytes (Src.grown_ (w0 := w5) (t := 33) (cs := zeroK) hs4 hg9 hs3) 10 c3 rfl
  clear hKB hb7 hs3 hs4 hT9 hg9 hb6
  go_wp2_with fail
  go_ret
  exact ⟨rfl, hb9⟩
end Go.Proofs.YtebcnkelbicbnaaGreatDoor
namespace Go.Proofs.YtebcnkelbicbnaaGreatDoor
open Go.RowKit

theorem stop_insert {P : Program} {ops : Array Oper} {Q : Exit → Act → World → Prop} {rest : List Oper} {a : Act} {w : World} {dst : Option Tmp} {ty : TypeId} {x y z : Operand} {T : TypeId} {pos : String} {af : Array Edge} {g : Option (Nat × Bool)}
    (h : Stopped (wpList P ops Q (⟨dst, .insert ty x y z, T, pos, af, g⟩ :: rest) a w)) : wpList P ops Q (⟨dst, .insert ty x y z, T, pos, af, g⟩ :: rest) a w := h
/-- What the list of entries gives at a number. -/
def lookE (es : List (Int × Value)) (k : Int) : Option Value := (es.find? fun e => k == e.1).map (·.2)
def entE : List (Int × Value) → Nat → List MapEntry
  | [], _ => []
  | e :: r, n => ⟨.int .i64 e.1, e.2, n⟩ :: entE r (n + 1)
/-- Block b holds the map of these entries. -/
def MapIs (w : World) (b : Nat) (es : List (Int × Value)) : Prop := w.heap[b]? = some (.map (entE es 0).toArray es.length)
theorem entE_snoc : ∀ (l : List (Int × Value)) (e : Int × Value) (n : Nat), entE (l ++ [e]) n = entE l n ++ [⟨.int .i64 e.1, e.2, n + l.length⟩]
  | [], e, n => by simp [entE]
  | x :: l, e, n => by simp only [List.cons_append, entE, entE_snoc l e (n + 1), List.length_cons]; rw [show n + 1 + l.length = n + (l.length + 1) by omega]
theorem findNow_ent (k : Int) : ∀ (l : List (Int × Value)) (n i : Nat), Instr.findNow (.int .i64) (.int .i64 k) (entE l n) i = some ((l.findIdx? fun e => k == e.1).bind fun j => (l[j]?).map fun e => (i + j, e.2))
  | [], n, i => by simp [entE, Instr.findNow]
  | e :: l, n, i => by
    rw [entE, Instr.findNow]
    simp only [Instr.sameNow, if_true]
    rw [List.findIdx?_cons]
    cases h : (k == e.1) with
    | true => simp
    | false =>
      simp only [findNow_ent k l (n + 1) (i + 1), Bool.false_eq_true, if_false]
      cases List.findIdx? (fun e => k == e.1) l with
      | none => simp
      | some j =>
        simp only [Option.bind_some, Option.map_some, List.getElem?_cons_succ]
        congr 2
        funext e
        congr 1
        omega
theorem MapIs.lt {w : World} {b : Nat} {es : List (Int × Value)} (h : MapIs w b es) : b < w.heap.size := (Array.getElem?_eq_some_iff.1 h).1
theorem MapIs.below {w w' : World} {b : Nat} {es : List (Int × Value)} (h : MapIs w b es) (hb : Below w.heap.size w w') : MapIs w' b es := (hb.block b h.lt).trans h
theorem MapIs.alloc {w : World} {b : Nat} {es : List (Int × Value)} (h : MapIs w b es) (o : Obj) : MapIs (w.alloc o) b es := h.below (below_box w o)
theorem MapIs.grown {w w' : World} {b : Nat} {es : List (Int × Value)} {row : Option Nat} (h : MapIs w b es) (hb : w.grownBy w' row) (hg : row ≠ some b) : MapIs w' b es := (hb.block b h.lt (Ne.symm hg)).trans h
theorem MapIs.new (w : World) : MapIs (w.alloc (.map #[] 0)) w.heap.size [] := heap_alloc_new w _
theorem lookE_idx (es : List (Int × Value)) (k : Int) : ((es.findIdx? fun e => k == e.1).bind fun j => es[j]?) = es.find? fun e => k == e.1 := by
  induction es with
  | nil => rfl
  | cons e l ih =>
    rw [List.findIdx?_cons, List.find?_cons]
    cases h : (k == e.1) with
    | true => simp
    | false =>
      simp only [Bool.false_eq_true, if_false]
      rw [← ih]
      cases List.findIdx? (fun e => k == e.1) l with
      | none => rfl
      | some j => simp
section
variable {P : Program} {w : World} {t kt et : TypeId} {b : Nat} {es : List (Int × Value)}
/-- A new key. -/
theorem run_mapIns (hu : P.underlying t = some (.map kt et)) (hk : P.underlying kt = some (.int .i64)) (hb : MapIs w b es) (k : Int) (v : Value) (hne : lookE es k = none) :
    ∃ w', (Instr.mapUpdate t (.map (some b)) (.int .i64 k) v).run P w = .ok () w' ∧ MapIs w' b (es ++ [(k, v)]) ∧ w.grownBy w' (some b) := by
  have h0 : (es.findIdx? fun e => k == e.1) = none := by
    unfold lookE at hne
    rw [Option.map_eq_none_iff] at hne
    rw [List.findIdx?_eq_none_iff]
    intro x hx
    have := List.find?_eq_none.1 hne x hx
    simpa using this
  have hf : Instr.findNow (.int .i64) (.int .i64 k) (entE es 0) 0 = some none := by rw [findNow_ent, h0]; rfl
  refine ⟨{ w with heap := w.heap.setIfInBounds b (.map (entE es 0 ++ [(⟨.int .i64 k, v, es.length⟩ : MapEntry)]).toArray (es.length + 1)) }, ?_, ?_, ⟨rfl, rfl, rfl, by simp, fun i _ hi => ?_⟩⟩
  · unfold Instr.mapUpdate
    have h1 := MapKept.run_checkKey (P := P) (w := w) hk (k := .int .i64 k) (by simp [MapKept.IsKey]) false 9999
    have h2 := MapKept.run_findKey (P := P) (w := w) hk hf
    have h3 := MapKept.run_setObj_map (P := P) (w := w) (.map (entE es 0 ++ [(⟨.int .i64 k, v, es.length⟩ : MapEntry)]).toArray (es.length + 1)) hb
    simp [Sem.run_bind, Result.andThen, run_underlying hu, MapKept.run_getObj_map hb, h1, h2, h3]
  · have hlt := hb.lt
    unfold MapIs
    simp [hlt, entE_snoc]
  · simp [Array.getElem?_setIfInBounds]
    intro e
    exact absurd e.symm (by intro e; exact hi (by rw [e]))
/-- What is found, or the zero. -/
theorem run_mapLook (hu : P.underlying t = some (.map kt et)) (hk : P.underlying kt = some (.int .i64)) (hb : MapIs w b es) {z : Value} (hz : (zeroValue et).run P w = .ok z w) (k : Int) :
    (Instr.lookup t (.map (some b)) (.int .i64 k) false).run P w = .ok ((lookE es k).getD z) w := by
  have hf := findNow_ent k es 0 0
  unfold Instr.lookup
  have h1 := fun e => MapKept.run_checkKey (P := P) (w := w) hk (k := .int .i64 k) (by simp [MapKept.IsKey]) e 9999
  have hi := lookE_idx es k
  have hL : lookE es k = (((es.findIdx? fun e => k == e.1).bind fun j => es[j]?)).map (·.2) := by rw [hi]; rfl
  cases hx : (es.findIdx? fun e => k == e.1) with
  | none =>
    rw [hx] at hf hL
    have h2 := MapKept.run_findKey (P := P) (w := w) hk hf
    simp [Sem.run_bind, Result.andThen, run_underlying hu, MapKept.run_getObj_map hb, h1, h2, hz, hL]
  | some j =>
    rw [hx] at hf hL
    obtain ⟨e, he⟩ : ∃ e, es[j]? = some e := by
      have := (List.findIdx?_eq_some_iff_getElem.1 hx).1
      exact ⟨_, List.getElem?_eq_getElem this⟩
    simp only [Option.bind_some, he, Option.map_some] at hf hL
    have h2 := MapKept.run_findKey (P := P) (w := w) hk hf
    simp [Sem.run_bind, Result.andThen, run_underlying hu, MapKept.run_getObj_map hb, h1, h2, hL]
theorem wpList_mapIns {ops : Array Oper} {rest : List Oper} {o : Oper} {a : Act} {Q : Exit → Act → World → Prop} (hgd : o.guard = none) (m x v : Operand) (ho : o.op = .insert t m x v)
    (hu : P.underlying t = some (.map kt et)) (hk : P.underlying kt = some (.int .i64)) (hb : MapIs w b es) (k : Int) (u : Value) (hm : a.eval m = .map (some b)) (hx : a.eval x = .int .i64 k) (hv : a.eval v = u) (hne : lookE es k = none)
    (h : ∀ w', MapIs w' b (es ++ [(k, u)]) → w.grownBy w' (some b) → wpList P ops Q rest (a.put o.dst undef) w') :
    wpList P ops Q (o :: rest) a w := by
  refine wpList_plain hgd fun K' hK' => ?_
  obtain ⟨w', hrun, r1, r2⟩ := run_mapIns hu hk hb k u hne
  unfold Oper.wp
  simp [execOp, ho, hm, hx, hv, hrun, Result.andThen]
  exact hK' _ _ (h w' r1 r2)
end
end Go.Proofs.YtebcnkelbicbnaaGreatDoor
namespace Go.Proofs.YtebcnkelbicbnaaGreatDoor
open Go.RowKit

/-- The program's small number. -/
def nmP : Itm → Option Int
  | .mk k n _ _ => if 1048576 < n then none else if k = 0 then some (n : Int) else if k = 1 then some (-1 - (n : Int)) else none
end Go.Proofs.YtebcnkelbicbnaaGreatDoor
namespace Go.Proofs.YtebcnkelbicbnaaGreatDoor
open Go.RowKit

def NumOut (w : World) (r : Option Int) (e : Ending) (w' : World) : Prop :=
  (match r with | some v => e = .returned (.tuple #[.int .i64 v, .bool true]) | none => e = .returned (.tuple #[.int .i64 0, .bool false])) ∧ Below w.heap.size w w'
set_option maxRecDepth 100000 in
set_option maxHeartbeats 3200000 in
theorem key_number {H : Snap} {k n : Int} {ba : Option Addr} {bl bc : Nat} {ia : Option Addr} {il ic : Nat} {x : Itm} (hx : ItemA H k n ba bl bc ia il ic x) (w : World) :
    Calls Tryz.prog 41 #[.agg #[.int .i64 k, .int .u64 n, .slice ba bl bc, .slice ia il ic]] w (NumOut w (nmP x)) := by
  obtain ⟨rfl, rfl, rfl, rfl, _⟩ := hx
  obtain ⟨xk, xn, xb, xl⟩ := x
  simp only [Itm.kind, Itm.n, Itm.bytes, Itm.items]
  have hB := Blk.new w 26 #[.int .i64 xk, .int .u64 (xn : Int), .slice ba xb.length bc, .slice ia xl.length ic]
  have hb := below_box w (.cells #[.int .i64 xk, .int .u64 (xn : Int), .slice ba xb.length bc, .slice ia xl.length ic] 26)
  have c0 := hB.cell 0 rfl
  have c1 := hB.cell 1 rfl
  clear hB
  by_cases h1 : 1048576 < xn
  · have E : Hid (nmP (.mk xk xn xb xl) = none) := by rw [Hid, nmP, if_pos h1]
    have i1 : (1048576 : Int) < (xn : Int) := by omega
    have d1 : decide ((1048576 : Int) < (xn : Int)) = true := decide_eq_true i1
    clear h1
    go_enter Tryz.func41, Tryz.ntmps41
    go_wp2_with fail
    go_ret2
    rw [E.out]
    exact ⟨rfl, hb⟩
  · have i1 : ¬ (1048576 : Int) < (xn : Int) := by omega
    have d1 : decide ((1048576 : Int) < (xn : Int)) = false := decide_eq_false i1
    have W1 : IntKind.i64.wrap (xn : Int) = (xn : Int) := IntWalk.i64_in _ (by omega)
    have W2 : IntKind.i64.wrap (-1 - (xn : Int)) = -1 - (xn : Int) := IntWalk.i64_in _ (by omega)
    by_cases h0 : xk = 0
    · subst h0
      have E : Hid (nmP (.mk 0 xn xb xl) = some (xn : Int)) := by rw [Hid, nmP, if_neg h1, if_pos rfl]
      clear h1
      go_enter Tryz.func41, Tryz.ntmps41
      go_wp2_with fail
      go_ret2
      rw [E.out]
      exact ⟨rfl, hb⟩
    · have b0 : (xk == 0) = false := by rw [beq_eq_false_iff_ne]; exact h0
      have p0 : (xk = 0) = False := eq_false h0
      by_cases h2 : xk = 1
      · subst h2
        have E : Hid (nmP (.mk 1 xn xb xl) = some (-1 - (xn : Int))) := by rw [Hid, nmP, if_neg h1, if_neg h0, if_pos rfl]
        clear h1 h0 b0 p0
        go_enter Tryz.func41, Tryz.ntmps41
        go_wp2_with fail
        go_ret2
        rw [E.out]
        exact ⟨rfl, hb⟩
      · have b1 : (xk == 1) = false := by rw [beq_eq_false_iff_ne]; exact h2
        have p1 : (xk = 1) = False := eq_false h2
        have E : Hid (nmP (.mk xk xn xb xl) = none) := by rw [Hid, nmP, if_neg h1, if_neg h0, if_neg h2]
        clear h1 h0 h2
        go_enter Tryz.func41, Tryz.ntmps41
        go_wp2_with fail
        go_ret2
        rw [E.out]
        exact ⟨rfl, hb⟩
end Go.Proofs.YtebcnkelbicbnaaGreatDoor
namespace Go.Proofs.YtebcnkelbicbnaaGreatDoor
open Go.RowKit

def setNum (q : Ky) (k n : Int) : Option Ky :=
  if k = 1 then some { q with kty := n } else if k = 3 then some { q with alg := n } else if k = -1 then some { q with crv := n } else none
def setStr (q : Ky) (k : Int) (b : List UInt8) : Option Ky :=
  if k = 2 then some { q with kid := b } else if k = -1 then some { q with k := b } else if k = -2 then some { q with x := b } else if k = -4 then some { q with d := b } else none
def kstepP (q : Ky) (a v : Itm) : Option Ky :=
  match nmP a with
  | none => none
  | some k => match nmP v with
    | some n => setNum q k n
    | none => if v.kind = 2 then setStr q k v.bytes else none
def kfoldP : Ky → List Itm → Option Ky
  | q, a :: v :: l => match kstepP q a v with
    | none => none
    | some q' => kfoldP q' l
  | q, _ => some q
theorem kfoldP_nil (q : Ky) : kfoldP q [] = some q := by simp [kfoldP]
def nilKy : Ky := ⟨0, 0, 0, [], [], [], []⟩
theorem nmP_intP {n : Int} (h1 : -1048577 ≤ n) (h2 : n ≤ 1048576) : nmP (intP n) = some n := by
  unfold intP
  split
  · rw [nmP, if_neg (by omega), if_neg (by omega), if_pos rfl]
    congr 1
    omega
  · rw [nmP, if_neg (by omega), if_pos rfl]
    congr 1
    omega
theorem nmP_strI (b : List UInt8) : nmP (strI b) = none := by
  rw [strI, nmP, if_neg (by omega), if_neg (by omega), if_neg (by omega)]
theorem kfoldP_num (q q' : Ky) (k n : Int) (l : List Itm) (hk1 : -1048577 ≤ k) (hk2 : k ≤ 1048576) (hn1 : -1048577 ≤ n) (hn2 : n ≤ 1048576) (h : setNum q k n = some q') : kfoldP q (intP k :: intP n :: l) = kfoldP q' l := by
  rw [kfoldP, kstepP, nmP_intP hk1 hk2]
  simp only [nmP_intP hn1 hn2, h]
theorem kfoldP_str (q q' : Ky) (k : Int) (b : List UInt8) (l : List Itm) (hk1 : -1048577 ≤ k) (hk2 : k ≤ 1048576) (h : setStr q k b = some q') : kfoldP q (intP k :: strI b :: l) = kfoldP q' l := by
  rw [kfoldP, kstepP, nmP_intP hk1 hk2]
  have e : (strI b).kind = 2 := rfl
  have e2 : (strI b).bytes = b := rfl
  simp only [nmP_strI, e, if_true, e2, h]
theorem kfoldP_opt (q q' : Ky) (k : Int) (b : List UInt8) (l : List Itm) (hk1 : -1048577 ≤ k) (hk2 : k ≤ 1048576) (h : setStr q k b = some q') (h0 : b = [] → q' = q) : kfoldP q (optS k b ++ l) = kfoldP q' l := by
  unfold optS
  split
  · exact kfoldP_str q q' k b l hk1 hk2 h
  · rename_i hb
    have : b = [] := by cases b with
      | nil => rfl
      | cons _ _ => simp at hb
    rw [h0 this]
    rfl
theorem klen0 {b : List UInt8} (h : b.length = 0) : b = [] := List.eq_nil_of_length_eq_zero h
theorem kfoldP_pairs {q : Ky} (h : validK q = true) : kfoldP nilKy (pairsK q) = some q := by
  have hv := (validK_iff q).1 h
  obtain ⟨kty, crv, alg, kid, x, d, k⟩ := q
  simp only at hv
  have ha : kfoldP nilKy (pairsK ⟨kty, crv, alg, kid, x, d, k⟩) = kfoldP ⟨kty, 0, alg, kid, [], [], []⟩ (if kty = 4 then optS (-1) k else [intP (-1), intP crv] ++ optS (-2) x ++ optS (-4) d) := by
    unfold pairsK
    simp only [List.append_assoc, List.cons_append, List.nil_append]
    rw [kfoldP_num nilKy ⟨kty, 0, 0, [], [], [], []⟩ 1 kty _ (by omega) (by omega) (by omega) (by omega) rfl]
    rw [kfoldP_opt ⟨kty, 0, 0, [], [], [], []⟩ ⟨kty, 0, 0, kid, [], [], []⟩ 2 kid _ (by omega) (by omega) rfl (fun e => by rw [e])]
    split
    · rename_i h0
      rw [h0]
      rfl
    · rw [List.cons_append, List.cons_append, List.nil_append]
      rw [kfoldP_num ⟨kty, 0, 0, kid, [], [], []⟩ ⟨kty, 0, alg, kid, [], [], []⟩ 3 alg _ (by omega) (by omega) (by omega) (by omega) rfl]
  rw [ha]
  rcases hv.2.2.2 with ⟨h1, hc, hx, hd, h0, hk⟩ | ⟨h4, hc, hxd, hk1, hk2⟩
  · rw [if_neg (by omega)]
    obtain rfl := klen0 hk
    simp only [List.append_assoc, List.cons_append, List.nil_append]
    rw [kfoldP_num _ ⟨kty, crv, alg, kid, [], [], []⟩ (-1) crv _ (by omega) (by omega) (by omega) (by omega) rfl]
    rw [kfoldP_opt _ ⟨kty, crv, alg, kid, x, [], []⟩ (-2) x _ (by omega) (by omega) rfl (fun e => by rw [e])]
    have := kfoldP_opt ⟨kty, crv, alg, kid, x, [], []⟩ ⟨kty, crv, alg, kid, x, d, []⟩ (-4) d [] (by omega) (by omega) rfl (fun e => by rw [e])
    rw [List.append_nil] at this
    rw [this, kfoldP_nil]
  · rw [if_pos h4]
    obtain rfl := klen0 (show x.length = 0 by omega)
    obtain rfl := klen0 (show d.length = 0 by omega)
    have := kfoldP_opt ⟨kty, 0, alg, kid, [], [], []⟩ ⟨kty, 0, alg, kid, [], [], k⟩ (-1) k [] (by omega) (by omega) rfl (fun e => by rw [e])
    rw [List.append_nil] at this
    rw [this, kfoldP_nil, hc]
theorem itemK_inj {p q : Ky} (hp : validK p = true) (hq : validK q = true) (h : itemK p = itemK q) : p = q := by
  have h2 : pairsK p = pairsK q := congrArg Itm.items h
  have h3 := kfoldP_pairs hp
  rw [h2, kfoldP_pairs hq] at h3
  exact (Option.some.inj h3).symm
/-- An item is that of a key. -/
def IsKeyI (x : Itm) (q : Ky) : Prop := validK q = true ∧ itemK q = x
theorem kfoldP_key {x : Itm} {q : Ky} (h : IsKeyI x q) : kfoldP nilKy x.items = some q := by rw [← h.2]; exact kfoldP_pairs h.1
end Go.Proofs.YtebcnkelbicbnaaGreatDoor
namespace Go.Proofs.YtebcnkelbicbnaaGreatDoor
open Go.RowKit

theorem Ways.three {P : Program} {ops : Array Oper} {Q : Exit → Act → World → Prop} {md : Region.Mode} {S : World → Prop} {z : Nat} {i j l : Nat} {o o' o2 : Oper} {n : Nat} {L : Array Bool} {a : Act} {w : World} (hi : ops[i]? = some o) (hj : ops[j]? = some o') (hl : ops[l]? = some o2) (hr : Region.ready md ops L = [i, j, l])
    (h : ∀ K : Act → World → Prop, Shut (∀ a w, (i ≠ z → S w) → ((i ≠ z → S w) → Ways P md ops Q S z n (L.setIfInBounds i true) a w) → K a w) →
      if Region.wanted o (yielded ops a.tmps) = true then Oper.wp P o a w K Q else K (a.put o.dst undef) w)
    (h' : ∀ K : Act → World → Prop, Shut (∀ a w, (j ≠ z → S w) → ((j ≠ z → S w) → Ways P md ops Q S z n (L.setIfInBounds j true) a w) → K a w) →
      if Region.wanted o' (yielded ops a.tmps) = true then Oper.wp P o' a w K Q else K (a.put o'.dst undef) w)
    (h2 : ∀ K : Act → World → Prop, Shut (∀ a w, (l ≠ z → S w) → ((l ≠ z → S w) → Ways P md ops Q S z n (L.setIfInBounds l true) a w) → K a w) →
      if Region.wanted o2 (yielded ops a.tmps) = true then Oper.wp P o2 a w K Q else K (a.put o2.dst undef) w) : Ways P md ops Q S z (n + 1) L a w := by
  refine ⟨fun h0 => (by rw [hr] at h0; cases h0), fun k hk => ?_⟩
  rw [hr] at hk
  rcases (by simpa using hk : k = i ∨ k = j ∨ k = l) with hk | hk | hk
  · subst hk
    exact wpOp_step hi fun K hK => h K fun a w hS hW => hK a w ⟨hS, hW hS⟩
  · subst hk
    exact wpOp_step hj fun K hK => h' K fun a w hS hW => hK a w ⟨hS, hW hS⟩
  · subst hk
    exact wpOp_step hl fun K hK => h2 K fun a w hS hW => hK a w ⟨hS, hW hS⟩
end Go.Proofs.YtebcnkelbicbnaaGreatDoor
namespace Go.Proofs.YtebcnkelbicbnaaGreatDoor
open Go.RowKit

/-- A key's block, and the block of the result, in a call that makes memory. -/
structure KN (W0 : World) (H : Snap) (R K : Nat) (kc : Array Value) (w : World) (Hr : Snap) : Prop where
  grows : Grows W0 H w Hr
  res : Blk w R 33 zeroK
  key : Blk w K 33 kc
  hR : Hr R = none
  hK : Hr K = none
  neRK : R ≠ K
  wR : W0.heap.size ≤ R
  wK : W0.heap.size ≤ K
section
variable {W0 w w' : World} {H Hr Hs : Snap} {R K : Nat} {kc kc' : Array Value}
theorem KN.grow (h : KN W0 H R K kc w Hr) (k : Grows w Hr w' Hs) : KN W0 H R K kc w' Hs :=
  ⟨h.grows.trans k, h.res.below k.below, h.key.below k.below, k.none h.hR h.res.lt, k.none h.hK h.key.lt, h.neRK, h.wR, h.wK⟩
theorem KN.below (h : KN W0 H R K kc w Hr) (k : Below w.heap.size w w') : KN W0 H R K kc w' Hr := h.grow (Grows.of_below h.grows.holds k)
theorem KN.alloc (h : KN W0 H R K kc w Hr) (o : Obj) : KN W0 H R K kc (w.alloc o) Hr := h.below (below_box w o)
theorem KN.set (h : KN W0 H R K kc w Hr) (hB : Blk w' K 33 kc') (hg : w.grownBy w' (some K)) : KN W0 H R K kc' w' Hr :=
  ⟨h.grows.grownOwn h.hK h.wK hg, h.res.grown hg (fun e => by injection e with e; exact h.neRK e.symm), hB, h.hR, h.hK, h.neRK, h.wR, h.wK⟩
end
end Go.Proofs.YtebcnkelbicbnaaGreatDoor
