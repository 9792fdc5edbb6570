/- squeezed. Encodings of items: plain mathemat -/
import Derived.Test.YtlebpackbfcfeaaDoorK00
import Derived.Lib.ValidU
import Derived.Lib.Bytealg
import Derived.Laws.Externs
import Derived.Laws.FloatArith
import Derived.Shelf.Unicode.DecodeSlow
import Derived.Deep.MidRow
import Derived.Laws.IdiomStrings
import Derived.Deep.RegionHeld
set_option linter.unusedVariables false
set_option linter.unusedSimpArgs false
set_option maxRecDepth 100000
set_option maxHeartbeats 800000
namespace Go.Proofs.YtlebpackbfcfeaaDoor
open Go.RowKit
def isNaN (n : Nat) : Bool := n / 2 ^ 52 % 2048 == 2047 && n % 2 ^ 52 != 0
def narrow (n eb mb : Nat) : Option Nat :=
 let sign := n / 2 ^ 63 * 2 ^ (eb + mb)
 let e := n / 2 ^ 52 % 2048
 let m := n % 2 ^ 52
 let top := 2 ^ eb - 1
 let bias := 2 ^ (eb - 1) - 1
 if e = 2047 then (if m = 0 then some (sign + top * 2 ^ mb) else none)
 else if e = 0 then (if m = 0 then some sign else none)
 else if 1023 + top ≤ e + bias then none
 else if 1023 < e + bias then (if m % 2 ^ (52 - mb) = 0 then some (sign + (e + bias - 1023) * 2 ^ mb + m / 2 ^ (52 - mb)) else none)
 else
  let shift := 53 - mb + (1023 - e - bias)
  if 52 < shift then none else if (m + 2 ^ 52) % 2 ^ shift = 0 then some (sign + (m + 2 ^ 52) / 2 ^ shift) else none
def floatB (n : Nat) : List UInt8 :=
 if isNaN n then [u8 249, u8 126, u8 0] else
 match narrow n 5 10 with
 | some v => [u8 249, u8 (v / 256), u8 v]
 | none => match narrow n 8 23 with
  | some v => [u8 250, u8 (v / 16777216), u8 (v / 65536), u8 (v / 256), u8 v]
  | none => u8 251 :: be8 n 8
def numP (x : Itm) : Nat :=
 if x.kind = 2 ∨ x.kind = 3 then x.bytes.length else if x.kind = 4 then x.items.length else if x.kind = 5 then x.items.length / 2 else x.n
mutual
def encB : Itm → List UInt8
 | .mk k n bs l =>
  if k = 8 then floatB n
  else if k = 7 ∧ 24 ≤ n then [u8 248, u8 n]
  else headB k.toNat (numP (.mk k n bs l)) ++ bs ++ encL l
def encL : List Itm → List UInt8
 | [] => []
 | x :: l => encB x ++ encL l
end
theorem encB_eq (x : Itm) : encB x = if x.kind = 8 then floatB x.n else if x.kind = 7 ∧ 24 ≤ x.n then [u8 248, u8 x.n] else headB x.kind.toNat (numP x) ++ x.bytes ++ encL x.items := by
 cases x
 rw [encB]
 rfl
mutual
def cnt : Itm → Nat
 | .mk _ _ _ l => cntL l + 1
def cntL : List Itm → Nat
 | [] => 0
 | x :: l => cnt x + cntL l
end
theorem cntL_get : ∀ (l : List Itm) (k : Nat) (hk : k < l.length), cnt l[k] ≤ cntL l
 | [], k, hk => by simp at hk
 | x :: l, 0, _ => by rw [cntL]; simp
 | x :: l, k + 1, hk => by
  have := cntL_get l k (by simpa using hk)
  rw [cntL]
  simp only [List.getElem_cons_succ]
  omega
theorem cnt_items (x : Itm) (k : Nat) (hk : k < x.items.length) : cnt x.items[k] < cnt x := by
 cases x with
 | mk a b c l =>
  have := cntL_get l k hk
  rw [cnt]
  simp only [Itm.items]
  omega
theorem cbor_head (m n : Int) (w : World) (hm0 : 0 ≤ m) (hm : m < 8) (h0 : 0 ≤ n) (h1 : n < 18446744073709551616) :
  Calls Tryd.prog 91 #[.int .u8 m, .int .u64 n] w fun e w' => ∃ r, e = .returned r ∧ Fresh w (headB m.toNat n.toNat) r w' := by
 obtain ⟨m', hm'⟩ := Int.eq_ofNat_of_zero_le hm0
 obtain ⟨n', hn'⟩ := Int.eq_ofNat_of_zero_le h0
 have HM := Hh hm'
 have HN := Hh hn'
 have H1 := Hh h1
 clear h1 hm' hn'
 go_enter Tryd.func91, Tryd.ntmps91
 go_wp2
 ·go_ret
  obtain rfl := HM.out
  obtain rfl := HN.out
  rw [Int.toNat_natCast, Int.toNat_natCast]
  have hlt : (n' : Int) < 24 := by with_reducible assumption
  refine ⟨_, rfl, Fresh.lit _ _ _ 1 ?_ ?_ ?_⟩
  ·rw [headB_length, if_pos (by omega)]
  ·have := (headB_le m' n').2; omega
  ·rw [headB, if_pos (by omega)]
   simp only [List.map_cons, List.map_nil, byteV_u8]
   rw [u8_head m' n' (by omega) (by omega), Nat.mod_eq_of_lt (by omega)]
 ·go_ret
  obtain rfl := HM.out
  obtain rfl := HN.out
  rw [Int.toNat_natCast, Int.toNat_natCast]
  have hge : (24 : Int) ≤ n' := by with_reducible assumption
  have hlt : (n' : Int) < 256 := by with_reducible assumption
  refine ⟨_, rfl, Fresh.lit _ _ _ 2 ?_ ?_ ?_⟩
  ·rw [headB_length, if_neg (by omega), if_pos (by omega)]
  ·have := (headB_le m' n').2; omega
  ·rw [headB, if_neg (by omega), if_pos (by omega)]
   simp only [List.map_cons, List.map_nil, byteV_u8]
   have e24' := u8_head m' 24 (by omega) (by omega)
   rw [show ((24 : Nat) : Int) = 24 from rfl] at e24'
   rw [e24', Nat.mod_eq_of_lt (by omega), Nat.mod_eq_of_lt (by omega)]
 ·go_ret
  obtain rfl := HM.out
  obtain rfl := HN.out
  rw [Int.toNat_natCast, Int.toNat_natCast]
  have hge : (256 : Int) ≤ n' := by with_reducible assumption
  have hlt : (n' : Int) < 65536 := by with_reducible assumption
  refine ⟨_, rfl, Fresh.lit _ _ _ 3 ?_ ?_ ?_⟩
  ·rw [headB_length, if_neg (by omega), if_neg (by omega), if_pos (by omega)]
  ·have := (headB_le m' n').2; omega
  ·rw [headB, if_neg (by omega), if_neg (by omega), if_pos (by omega)]
   simp only [List.map_cons, List.map_nil, byteV_u8]
   have e24' := u8_head m' 25 (by omega) (by omega)
   rw [show ((25 : Nat) : Int) = 25 from rfl] at e24'
   rw [e24', Nat.mod_eq_of_lt (show m' * 32 + 25 < 256 by omega), Nat.mod_eq_of_lt (show n' / 256 < 256 by omega)]
   rfl
 ·go_ret
  obtain rfl := HM.out
  obtain rfl := HN.out
  rw [Int.toNat_natCast, Int.toNat_natCast]
  have hge : (65536 : Int) ≤ n' := by with_reducible assumption
  have hlt : (n' : Int) < 4294967296 := by with_reducible assumption
  refine ⟨_, rfl, Fresh.lit _ _ _ 5 ?_ ?_ ?_⟩
  ·rw [headB_length, if_neg (by omega), if_neg (by omega), if_neg (by omega), if_pos (by omega)]
  ·have := (headB_le m' n').2; omega
  ·rw [headB, if_neg (by omega), if_neg (by omega), if_neg (by omega), if_pos (by omega)]
   simp only [List.map_cons, List.map_nil, byteV_u8]
   have e24' := u8_head m' 26 (by omega) (by omega)
   rw [show ((26 : Nat) : Int) = 26 from rfl] at e24'
   rw [e24', Nat.mod_eq_of_lt (show m' * 32 + 26 < 256 by omega), Nat.mod_eq_of_lt (show n' / 16777216 < 256 by omega)]
   rfl
 ·have HG : Hid (headB m.toNat n.toNat = u8 (m.toNat * 32 + 27) :: be8 n.toNat 8) := by
   have hge : (4294967296 : Int) ≤ n := by with_reducible assumption
   rw [headB, if_neg (by omega), if_neg (by omega), if_neg (by omega), if_neg (by omega)]
   rfl
  have hst : OwnB (w.alloc (.cells #[.int .u8 (bits .or .u8 (m * 32) 27)] 5)) w.heap.size (.slice (some ⟨w.heap.size, 0, none⟩) 1 1) [u8 (m.toNat * 32 + 27)] := by
   refine OwnB.lit w _ _ _ 1 rfl ?_ (Nat.le_refl _) (by simp)
   have e27' := u8_head m.toNat 27 (by omega) (by omega)
   rw [show ((27 : Nat) : Int) = 27 from rfl, Int.toNat_of_nonneg hm0] at e27'
   simp only [List.map_cons, List.map_nil, byteV_u8]
   rw [e27', Nat.mod_eq_of_lt (by omega)]
  go_loopw [6, 7] (fun v s wr => ∃ k : Nat, k ≤ 8 ∧ s = .int .i64 (56 - 8 * (k : Int)) ∧ OwnB wr w.heap.size v (u8 (m.toNat * 32 + 27) :: be8 n.toNat k) ∧ Below w.heap.size w wr) (fun _ s _ => (intOf s + 8).toNat)
  case atStart => exact ⟨0, by omega, rfl, hst, (Below.refl _ _).alloc (Nat.le_refl _) _⟩
  case round =>
   obtain ⟨k, hk, rfl, hown, hb⟩ := hrel
   by_cases hlt : k < 8
   ·have hbs := hb.size
    go_wp2_with (at_builtin; refine wpList_app_bytes rfl (.tmp 61) (.tmp 66) rfl w.heap.size _ _ rfl (hown.alloc _) _ 1 1 [u8 (n.toNat / 2 ^ (56 - 8 * k))] rfl rfl ?hs ?hl ?hz ?_)
    case hs =>
     rw [byteV_of (n / 2 ^ (56 - 8 * k) % 256) (n.toNat / 2 ^ (56 - 8 * k)) (by obtain rfl := HN.out; simp)]
     exact Src.lit wr #[byteV (u8 (n.toNat / 2 ^ (56 - 8 * k)))] _
    case hl => simp [be8_length]; omega
    case hz => simp; omega
    intro v' w' hown' hg _
    have R : OwnB w' w.heap.size v' (u8 (m.toNat * 32 + 27) :: be8 n.toNat (k + 1)) ∧ Below w.heap.size w w' :=
     ⟨by simpa [be8] using hown', ((hb.alloc hbs _).grown hg (by simp; omega) (fun g hg => (hown.lt g hg).1))⟩
    clear hown' hg hown hb hst
    go_wp2
    go_roundw
    case rel => exact ⟨k + 1, by omega, by go_num, R.1, R.2⟩
    case measure => simp [intOf]; omega
   ·have hk8 : k = 8 := by omega
    subst hk8
    go_wp2
    go_ret
    refine ⟨_, rfl, ?_⟩
    rw [HG.out]
    exact ⟨hown, hb⟩
def notNumber : Nat := 9221120237041090560
def isPlain (x : Itm) : Bool := x.kind == 0 || x.kind == 1 || x.kind == 2 || x.kind == 3 || x.kind == 7 || x.kind == 8
def okPlain (x : Itm) : Bool :=
 if x.kind = 0 ∨ x.kind = 1 then x.bytes.isEmpty && x.items.isEmpty
 else if x.kind = 2 then x.n == 0 && x.items.isEmpty
 else if x.kind = 3 then x.n == 0 && x.items.isEmpty && Lib.validD x.bytes
 else if x.kind = 7 then x.bytes.isEmpty && x.items.isEmpty && (decide (x.n < 24) || decide (32 ≤ x.n) && decide (x.n < 256))
 else if x.kind = 8 then x.bytes.isEmpty && x.items.isEmpty && (!isNaN x.n || x.n == notNumber)
 else false
def ascP : List Itm → Bool
 | a :: b :: c :: l => decide (Lib.compareBytes (encB a) (encB c) < 0) && ascP (c :: l)
 | _ => true
theorem isNaN_iff (n : Nat) : isNaN n = true ↔ n / 2 ^ 52 % 2048 = 2047 ∧ n % 2 ^ 52 ≠ 0 := by
 simp [isNaN]
theorem read_nan (n : Nat) : (Ieee.double.read n).isNaN = isNaN n := by
 rw [Bool.eq_iff_iff, isNaN_iff]
 have hs : Ieee.double.signWeight = 9223372036854775808 := rfl
 have hb : Ieee.double.binade = 4503599627370496 := rfl
 have hi : Ieee.double.infRung = 9218868437227405312 := rfl
 simp only [Nat.reducePow]
 by_cases h1 : n % Ieee.double.signWeight < Ieee.double.binade
 ·rw [show Ieee.double.read n = .number _ _ _ from if_pos h1]
  rw [hs, hb] at h1
  simp only [Ieee.Datum.isNaN, Bool.false_eq_true, false_iff]
  omega
 by_cases h2 : n % Ieee.double.signWeight < Ieee.double.infRung
 ·rw [show Ieee.double.read n = .number _ _ _ from (if_neg h1).trans (if_pos h2)]
  rw [hs, hi] at h2
  simp only [Ieee.Datum.isNaN, Bool.false_eq_true, false_iff]
  omega
 by_cases h3 : n % Ieee.double.signWeight = Ieee.double.infRung
 ·rw [show Ieee.double.read n = .infinity _ from (if_neg h1).trans ((if_neg h2).trans (if_pos h3))]
  rw [hs, hi] at h3
  simp only [Ieee.Datum.isNaN, Bool.false_eq_true, false_iff]
  omega
 rw [show Ieee.double.read n = .nan _ _ from (if_neg h1).trans ((if_neg h2).trans (if_neg h3))]
 rw [hs, hi] at h2 h3
 simp only [Ieee.Datum.isNaN, true_iff]
 omega
theorem order_self (d : Ieee.Datum) : (d.order d == some .eq) = !d.isNaN := by
 cases d with
 | nan a b => rfl
 | infinity s => cases s <;> rfl
 | number s m i =>
  simp [Ieee.Datum.order, Ieee.Datum.isNaN]
theorem order_feq (n : Nat) : (FloatKind.f64.format.order n n == some .eq) = !isNaN n := by
 show (Ieee.Datum.order (Ieee.double.read n) (Ieee.double.read n) == some .eq) = _
 rw [order_self, read_nan]
theorem order_fne (n : Nat) : (FloatKind.f64.format.order n n != some .eq) = isNaN n := by
 rw [bne, order_feq, Bool.not_not]
theorem run_f64frombits (n : Nat) (w : World) : (callFunc 100 #[.int .u64 (n : Int)]).run Tryd.prog w = .ok (.value (.float .f64 n)) w := by
 rw [run_callFunc_extern Tryd.func100 (by kernel_rfl) (by kernel_rfl) (by kernel_rfl) (e := Extern.MathFloatBits.float64frombits) (by kernel_rfl)]
 rfl
theorem run_f64bits (n : Nat) (w : World) : (callFunc 93 #[.float .f64 n]).run Tryd.prog w = .ok (.value (.int .u64 (n : Int))) w := by
 rw [run_callFunc_extern Tryd.func93 (by kernel_rfl) (by kernel_rfl) (by kernel_rfl) (e := Extern.MathFloatBits.float64bits) (by kernel_rfl)]
 rfl
theorem run_f32bits (n : Nat) (w : World) : (callFunc 102 #[.float .f32 n]).run Tryd.prog w = .ok (.value (.int .u32 (n : Int))) w := by
 rw [run_callFunc_extern Tryd.func102 (by kernel_rfl) (by kernel_rfl) (by kernel_rfl) (e := Extern.MathFloatBits.float32bits) (by kernel_rfl)]
 rfl
def frameOk (x : Itm) (lv : Nat) : Bool :=
 decide (4 ≤ x.kind ∧ x.kind ≤ 6 ∧ lv < 8 ∧ x.bytes.length = 0 ∧ (x.kind = 6 → x.items.length = 1) ∧ (x.kind ≠ 6 → x.n = 0) ∧ (x.kind = 5 → x.items.length % 2 = 0))
theorem isPlain_iff (x : Itm) : isPlain x = true ↔ x.kind = 0 ∨ x.kind = 1 ∨ x.kind = 2 ∨ x.kind = 3 ∨ x.kind = 7 ∨ x.kind = 8 := by
 simp [isPlain]
 omega
theorem frameOk_spec {x : Itm} {lv : Nat} (h : frameOk x lv = true) : 4 ≤ x.kind ∧ x.kind ≤ 6 ∧ lv < 8 ∧ x.bytes.length = 0 ∧ (x.kind = 6 → x.items.length = 1) ∧ (x.kind ≠ 6 → x.n = 0) ∧ (x.kind = 5 → x.items.length % 2 = 0) :=
 of_decide_eq_true h
theorem okPlain_items {x : Itm} (hp : isPlain x = true) (ho : okPlain x = true) : x.items = [] ∧ (x.kind = 8 ∨ x.kind = 7 → x.bytes = []) := by
 rw [isPlain_iff] at hp
 unfold okPlain at ho
 rcases hp with h | h | h | h | h | h <;> simp [h] at ho ⊢ <;> simp [ho]
mutual
def Modest : Itm → Prop
 | .mk _ _ bs l => bs.length ≤ 1099511627776 ∧ l.length ≤ 1099511627776 ∧ ModestL l
def ModestL : List Itm → Prop
 | [] => True
 | x :: l => Modest x ∧ ModestL l
end
theorem Modest.parts {x : Itm} (h : Modest x) : x.bytes.length ≤ 1099511627776 ∧ x.items.length ≤ 1099511627776 ∧ ModestL x.items := by cases x; rw [Modest] at h; exact h
theorem ModestL.get : ∀ {l : List Itm}, ModestL l → ∀ (k : Nat) (hk : k < l.length), Modest l[k]
 | [], _, k, hk => by simp at hk
 | x :: l, h, 0, hk => by rw [ModestL] at h; exact h.1
 | x :: l, h, k + 1, hk => by rw [ModestL] at h; exact h.2.get k (by simpa using hk)
def intP (n : Int) : Itm := if n < 0 then .mk 1 (-1 - n).toNat [] [] else .mk 0 n.toNat [] []
def Tabs (H : Snap) : Prop := ∀ w, Holds w H → Lib.Utf8Tabs 0 1 w
theorem Tabs.mono {H K : Snap} (h : Tabs H) (hl : H.le K) : Tabs K := fun w hw => h w (hw.mono hl)
theorem stop_store {P : Program} {ops : Array Oper} {Q : Exit → Act → World → Prop} {rest : List Oper} {a : Act} {w : World} {dst : Option Tmp} {ty : TypeId} {x y : Operand} {T : TypeId} {pos : String} {af : Array Edge} {g : Option (Nat × Bool)}
  (h : Stopped (wpList P ops Q (⟨dst, .store ty x y, T, pos, af, g⟩ :: rest) a w)) : wpList P ops Q (⟨dst, .store ty x y, T, pos, af, g⟩ :: rest) a w := h
def putC (cs : Array Value) : Nat → List Value → Array Value
 | _, [] => cs
 | o, v :: r => putC (cs.setIfInBounds o v) (o + 1) r
theorem putC_get : ∀ (vs : List Value) (cs : Array Value) (o j : Nat), (putC cs o vs)[j]? = if o ≤ j ∧ j < o + vs.length ∧ j < cs.size then vs[j - o]? else cs[j]?
 | [], cs, o, j => by simp [putC]; omega
 | v :: r, cs, o, j => by
  rw [putC, putC_get r]
  simp only [Array.size_setIfInBounds, List.length_cons]
  by_cases h : o + 1 ≤ j ∧ j < o + 1 + r.length ∧ j < cs.size
  ·rw [if_pos h, if_pos (by omega), show j - o = (j - (o + 1)) + 1 by omega, List.getElem?_cons_succ]
  ·rw [if_neg h]
   by_cases h2 : o = j
   ·subst h2
    by_cases h3 : o < cs.size
    ·rw [if_pos (by omega)]; simp [h3]
    ·rw [if_neg (by omega)]; simp [h3]
   ·rw [if_neg (by omega), Array.getElem?_setIfInBounds, if_neg h2]
theorem putC_all (cs : Array Value) (vs : List Value) (h : vs.length = cs.size) : putC cs 0 vs = vs.toArray := by
 apply Array.ext_getElem?
 intro j
 rw [putC_get]
 by_cases h1 : j < cs.size
 ·rw [if_pos (by omega)]; simp
 ·rw [if_neg (by omega), Array.getElem?_eq_none (by omega), Array.getElem?_eq_none (by simp; omega)]
theorem Blk.setCells : ∀ (vs : List Value) {w : World} {g : Nat} {t : TypeId} {cs : Array Value} (o : Nat), Blk w g t cs → Blk (w.setCells g o vs) g t (putC cs o vs)
 | [], _, _, _, _, _, h => h
 | v :: r, w, g, t, cs, o, h => by
  rw [World.setCells, putC]
  exact (h.set_ o v).setCells r (o + 1)
theorem grown_setCells (g : Nat) : ∀ (vs : List Value) {w0 w : World} (o : Nat), w0.grownBy w (some g) → w0.grownBy (w.setCells g o vs) (some g)
 | [], _, _, _, h => h
 | v :: r, w0, w, o, h => by
  rw [World.setCells]
  exact grown_setCells g r (o + 1) (grown_set h (.inl rfl) v)
theorem wpList_store_blk {w : World} {ops : Array Oper} {rest : List Oper} {o : Oper} {a : Act} {Q : Exit → Act → World → Prop} (hgd : o.guard = none) (ty : TypeId) (x y : Operand) (ho : o.op = .store ty x y)
  (hd : o.dst = none) (g off : Nat) (cells : Array Value) (hx : a.eval x = .pointer (some ⟨g, off, none⟩)) (hy : a.eval y = .agg cells)
  (t : TypeId) (old : Array Value) (hB : Blk w g t old) (hi : (Tryd.prog.info? ty).map (·.size) = some cells.size) (hold : off + cells.size ≤ old.size) (h1 : cells.all (·.oneCell') = true)
  (h : ∀ w', Blk w' g t (putC old off cells.toList) → w.grownBy w' (some g) → wpList Tryd.prog ops Q rest a w') :
  wpList Tryd.prog ops Q (o :: rest) a w := by
 refine wpList_store_mid hgd ty x y ho g off cells hx hy (fun j hj => ⟨?_, hB.frozen _⟩) hi h1 ?_
 ·obtain ⟨v, hv⟩ : ∃ v, old[off + j]? = some v := ⟨_, Array.getElem?_eq_getElem (by omega)⟩
  rw [hB.cell _ hv]; rfl
 ·rw [hd]
  exact h _ (hB.setCells _ _) (grown_setCells g _ _ (grown_refl w _))
theorem wpList_store_item {w : World} {ops : Array Oper} {rest : List Oper} {o : Oper} {a : Act} {Q : Exit → Act → World → Prop} (hgd : o.guard = none) (ty : TypeId) (x y : Operand) (ho : o.op = .store ty x y)
  (hd : o.dst = none) (g : Nat) (cells : Array Value) (hx : a.eval x = .pointer (some ⟨g, 0, none⟩)) (hy : a.eval y = .agg cells)
  (t : TypeId) (old : Array Value) (hB : Blk w g t old) (hi : (Tryd.prog.info? ty).map (·.size) = some cells.size) (hold : cells.size = old.size) (h1 : cells.all (·.oneCell') = true)
  (h : ∀ w', Blk w' g t cells → w.grownBy w' (some g) → wpList Tryd.prog ops Q rest a w') :
  wpList Tryd.prog ops Q (o :: rest) a w := by
 refine wpList_store_blk hgd ty x y ho hd g 0 cells hx hy t old hB hi (by omega) h1 fun w' h2 h3 => h w' ?_ h3
 rwa [putC_all _ _ (by simpa using hold)] at h2
theorem wp_store_item {w : World} {o : Oper} {a : Act} {K : Act → World → Prop} {Q : Exit → Act → World → Prop} (ty : TypeId) (x y : Operand) (ho : o.op = .store ty x y)
  (g : Nat) (cells : Array Value) (hx : a.eval x = .pointer (some ⟨g, 0, none⟩)) (hy : a.eval y = .agg cells)
  (t : TypeId) (old : Array Value) (hB : Blk w g t old) (hi : (Tryd.prog.info? ty).map (·.size) = some cells.size) (hold : cells.size = old.size) (h1 : cells.all (·.oneCell') = true)
  (h : ∀ w', Blk w' g t cells → w.grownBy w' (some g) → K (a.put o.dst undef) w') :
  o.wp Tryd.prog a w K Q := by
 refine wp_store_mid ty x y ho g 0 cells hx hy (fun j hj => ⟨?_, hB.frozen _⟩) hi h1 ?_
 ·obtain ⟨v, hv⟩ : ∃ v, old[0 + j]? = some v := ⟨_, Array.getElem?_eq_getElem (by omega)⟩
  rw [hB.cell _ hv]; rfl
 ·refine h _ ?_ (grown_setCells g _ _ (grown_refl w _))
  have := hB.setCells cells.toList 0
  rwa [putC_all _ _ (by simpa using hold)] at this
theorem run_storeVar_cell (w : World) (b o : Nat) (ty : TypeId) (v : Value) (ht : w.there b o 1) (hi : (Tryd.prog.info? ty).map (·.size) = some 1) (h1 : v.oneCell' = true) :
  (storeVar ty ⟨b, o, none⟩ v).run Tryd.prog w = .ok () (w.setCells b o [v]) := by
 have := run_storeCells_cells (P := Tryd.prog) b o [v] 0 w (fun j hj => by simpa using (ht j (by simpa using hj)).1) (fun j hj => by simpa using (ht j (by simpa using hj)).2) (fun x hx => by simp at hx; subst hx; exact h1)
 have hc : v.cells = #[v] := by cases v <;> first | rfl | cases h1
 cases hq : Tryd.prog.info? ty with
 | none => simp [hq] at hi
 | some i =>
  have hs : i.size = 1 := by simpa [hq] using hi
  simp only [Nat.add_zero] at this
  simp [storeVar, sizeOf, typeInfo, hq, hc, hs, this]
theorem wp_store_cell {w : World} {o : Oper} {a : Act} {K : Act → World → Prop} {Q : Exit → Act → World → Prop} (ty : TypeId) (x y : Operand) (ho : o.op = .store ty x y)
  (g off : Nat) (v : Value) (hx : a.eval x = .pointer (some ⟨g, off, none⟩)) (hy : a.eval y = v)
  (t : TypeId) (old : Array Value) (hB : Blk w g t old) (hi : (Tryd.prog.info? ty).map (·.size) = some 1) (hold : off < old.size) (h1 : v.oneCell' = true)
  (h : ∀ w', Blk w' g t (old.setIfInBounds off v) → w.grownBy w' (some g) → K (a.put o.dst undef) w') :
  o.wp Tryd.prog a w K Q := by
 have hr := run_storeVar_cell w g off ty v (fun j hj => ⟨by rw [hB.cell _ (Array.getElem?_eq_getElem (by omega : off + j < old.size))]; rfl, hB.frozen _⟩) hi h1
 unfold Oper.wp execOp
 simp only [ho, hx, hy, Instr.storeAt, Instr.sureAddr, Sem.run_bind, Sem.run_pure, Result.andThen_ok, hr]
 exact h _ (hB.setCells [v] off) (grown_setCells g _ _ (grown_refl w _))
theorem wpList_store_cell {w : World} {ops : Array Oper} {rest : List Oper} {o : Oper} {a : Act} {Q : Exit → Act → World → Prop} (hgd : o.guard = none) (ty : TypeId) (x y : Operand) (ho : o.op = .store ty x y)
  (hd : o.dst = none) (g off : Nat) (v : Value) (hx : a.eval x = .pointer (some ⟨g, off, none⟩)) (hy : a.eval y = v)
  (t : TypeId) (old : Array Value) (hB : Blk w g t old) (hi : (Tryd.prog.info? ty).map (·.size) = some 1) (hold : off < old.size) (h1 : v.oneCell' = true)
  (h : ∀ w', Blk w' g t (old.setIfInBounds off v) → w.grownBy w' (some g) → wpList Tryd.prog ops Q rest a w') :
  wpList Tryd.prog ops Q (o :: rest) a w := by
 have hr := run_storeVar_cell w g off ty v (fun j hj => ⟨by rw [hB.cell _ (Array.getElem?_eq_getElem (by omega : off + j < old.size))]; rfl, hB.frozen _⟩) hi h1
 refine wpList_plain hgd fun _ hK => ?_
 unfold Oper.wp execOp
 simp only [ho, hx, hy, Instr.storeAt, Instr.sureAddr, Sem.run_bind, Sem.run_pure, Result.andThen_ok, hr]
 exact hK (a.put o.dst undef) _ (by rw [hd]; exact h _ (hB.setCells [v] off) (grown_setCells g _ _ (grown_refl w _)))
theorem size_bytes : (Tryd.prog.info? 24).map (·.size) = some 1 := by kernel_rfl
theorem size_items : (Tryd.prog.info? 67).map (·.size) = some 1 := by kernel_rfl
theorem wp_app_bytes {w : World} {o : Oper} {a : Act} {K : Act → World → Prop} {Q : Exit → Act → World → Prop} (s x : Operand)
  (ho : o.op = .call { callee := .builtin .append, args := #[s, x], argTypes := #[24, 24] })
  (base : Nat) (v : Value) (l : List UInt8) (hs : a.eval s = v) (hown : OwnB w base v l) (A : Option Addr) (m c : Nat) (news : List UInt8) (hx : a.eval x = .slice A m c) (hm : m = news.length)
  (hr : Src w A (news.map byteV)) (hlen : l.length + news.length ≤ 1099511627776) (hbase : base ≤ w.heap.size)
  (h : ∀ v' w', OwnB w' base v' (l ++ news) → w.grownBy w' v.ownBlock → At0 w v.ownBlock v'.ownBlock → K (a.put o.dst v') w') :
  o.wp Tryd.prog a w K Q := by
 subst hm
 obtain ⟨i0, hi0, hz0, hz1, hz2⟩ := info_parts info_u8
 refine wp_append_src s x _ ho base 5 i0 _ 1 1 Tryd.underlying24 hi0 hz0 hz1 hz2 rfl (by omega) v l.length (l.map byteV) hs hown A news.length c (news.map byteV) hx (by simp) hr (byteV_one _)
  (by simp only [maxLen]; omega) (by omega) hbase fun v' w' h2 h3 h4 => h v' w' ?_ h3 ?_
 ·unfold OwnB; simpa using h2
 ·rcases h4 with h4 | h4
  ·exact .inl h4
  ·exact .inr ⟨_, h4, Nat.le_refl _⟩
theorem below_newBlk {w wr : World} {B : Nat} (_h : Below B w wr) (t : TypeId) (cs : Array Value) : Blk (wr.alloc (.cells cs t)) wr.heap.size t cs := Blk.new _ _ _
abbrev itemO (x : Itm) (ba : Option Addr) (bc : Nat) (ia : Option Addr) (ic : Nat) : Obj := .cells #[.int .i64 x.kind, .int .u64 x.n, .slice ba x.bytes.length bc, .slice ia x.items.length ic] 69
abbrev zeroO : Obj := .cells #[.int .i64 0, .int .u64 0, .slice none 0 0, .slice none 0 0] 69
theorem drew_heap (w : World) : w.drew.heap = w.heap := rfl
theorem size_alloc (w : World) (o : Obj) : (w.alloc o).heap.size = w.heap.size + 1 := by simp
section
variable {w wr wr' : World} {H Hr Hs : Snap} {g : Nat}
theorem Grows.alloc (h : Grows w H wr Hr) (o : Obj) : Grows w H (wr.alloc o) Hr := ⟨h.below.alloc h.below.size o, h.le, h.holds.alloc o, h.fresh⟩
theorem Grows.below_ (h : Grows w H wr Hr) (hb : Below wr.heap.size wr wr') : Grows w H wr' Hr := h.trans (Grows.of_below h.holds hb)
theorem Grows.grownOwn (h : Grows w H wr Hr) (h0 : Hr g = .none) (hw : w.heap.size ≤ g) (hg : wr.grownBy wr' (some g)) : Grows w H wr' Hr :=
 ⟨h.below.grown hg h.below.size (by rintro k ⟨⟩; exact hw), h.le, h.holds.grown hg (by rintro k ⟨⟩; exact h0), h.fresh⟩
theorem Grows.drew (h : Grows w H wr Hr) : Grows w H wr.drew Hr := ⟨h.below.drew, h.le, h.holds.drew, h.fresh⟩
theorem Grows.grownRow {row : Option Nat} (h : Grows w H wr Hr) (h0 : ∀ g, row = some g → Hr g = .none) (hw : ∀ g, row = some g → w.heap.size ≤ g) (hg : wr.grownBy wr' row) : Grows w H wr' Hr :=
 ⟨h.below.grown hg h.below.size hw, h.le, h.holds.grown hg h0, h.fresh⟩
theorem Grows.hidden (h : Grows w H wr Hr) (hg : wr.heap.size ≤ g) : Hr g = .none := h.holds.none_of_ge hg
theorem Grows.size (h : Grows w H wr Hr) : w.heap.size ≤ wr.heap.size := h.below.size
theorem Fresh.snapB {A : Option Addr} {n c : Nat} {l : List UInt8} (hH : Holds w H) (h : Fresh w l (.slice A n c) wr) : ∃ H', Grows w H wr H' ∧ IsBytes H' A c l ∧ n = l.length := by
 obtain ⟨H', hl, hh, hf, hn, hi⟩ := h.own.snap (hH.below h.2 (Nat.le_refl _)) (fun g hg => hH.none_of_ge (h.own.lt g (by cases A <;> simp_all [Value.ownBlock])).1)
 refine ⟨H', ⟨h.2, hl, hh, fun b o hb => ?_⟩, hi, hn⟩
 rcases hf b o hb with h1 | h1
 ·exact .inl h1
 ·exact .inr (h.own.lt b (by cases A <;> simp_all [Value.ownBlock])).1
end
theorem IsItem.plain (H : Snap) (k : Int) (n : Nat) (hk : -9223372036854775808 ≤ k ∧ k ≤ 9223372036854775807) (hn : n < 18446744073709551616) : IsItem H none 0 none 0 (.mk k n [] []) := by
 rw [IsItem]
 exact ⟨⟨hk.1, hk.2, hn, Nat.le_refl _, by omega⟩, IsBytes.nil H, fun h => absurd h (by simp)⟩
theorem Gives.plain {w w' : World} {H : Snap} {k n : Int} {m : Nat} (hH : Holds w H) (hb : Below w.heap.size w w') (hk : -9223372036854775808 ≤ k ∧ k ≤ 9223372036854775807) (hm : m < 18446744073709551616) (hn : n = (m : Int)) :
  Gives w H (.mk k m [] []) (.agg #[.int .i64 k, .int .u64 n, .slice none 0 0, .slice none 0 0]) w' := by
 subst hn
 exact ⟨none, 0, none, 0, H, rfl, Grows.of_below hH hb, IsItem.plain H k m hk hm⟩
theorem one4 (a b c d : Value) (ha : a.oneCell' = true) (hb : b.oneCell' = true) (hc : c.oneCell' = true) (hd : d.oneCell' = true) : (#[a, b, c, d] : Array Value).all (·.oneCell') = true := by simp [ha, hb, hc, hd]
section
variable {P : Program} {ops : Array Oper} {Q : Exit → Act → World → Prop} {md : Region.Mode} {S : World → Prop} {z : Nat}
def Ways (P : Program) (md : Region.Mode) (ops : Array Oper) (Q : Exit → Act → World → Prop) (S : World → Prop) (z : Nat) : Nat → Array Bool → Act → World → Prop
 | 0, L, a, w => Region.ready md ops L = [] ∧ Q .normal a w
 | n + 1, L, a, w => (Region.ready md ops L = [] → Q .normal a w) ∧
   ∀ i ∈ Region.ready md ops L, wpOp P ops Q i (fun a' w' => (i ≠ z → S w') ∧ Ways P md ops Q S z n (L.setIfInBounds i true) a' w') a w
theorem Ways.any : ∀ (n : Nat) (L : Array Bool) (a : Act) (w : World), Ways P md ops Q S z n L a w → wpAny P md ops Q n L a w
 | 0, _, _, _, h => h
 | n + 1, _, _, _, h => ⟨h.1, fun i hi => wpOp_mono (fun a' w' k => Ways.any n _ a' w' k.2) (h.2 i hi)⟩
def Closed (md : Region.Mode) (ops : Array Oper) (L : Array Bool) : Prop :=
 ∀ (j : Nat) (o : Oper), ops[j]? = some o → L.getD j false = true → ∀ e ∈ o.after, Region.binds md e = true → L.getD e.on false = true
theorem Closed.step {L : Array Bool} (h : Closed md ops L) {i : Nat} (hi : i ∈ Region.ready md ops L) : Closed md ops (L.setIfInBounds i true) := by
 intro j o ho hj e he hb
 obtain ⟨_, oi, hoi, hall⟩ := mem_ready.1 hi
 by_cases hij : i = j
 ·subst hij
  rw [ho] at hoi
  cases hoi
  exact getD_set_true (hall e he hb)
 ·rw [getD_set_ne false hij] at hj
  exact getD_set_true (h j o ho hj e he hb)
def Later (md : Region.Mode) (ops : Array Oper) (z i : Nat) : Prop := ∀ L, Closed md ops L → L.getD i true = false → z ∉ Region.ready md ops L
def chain (md : Region.Mode) (ops : Array Oper) : Nat → Nat → Nat → Bool
 | 0, k, i => k == i
 | n + 1, k, i => k == i || match ops[k]? with
  | some o => o.after.any fun e => Region.binds md e && chain md ops n e.on i
  | none => false
theorem chain_listed : ∀ (n k i : Nat) (L : Array Bool), Closed md ops L → chain md ops n k i = true → L.getD k false = true → L.getD i false = true
 | 0, k, i, L, _, h, hk => by
  have : k = i := by simpa [chain] using h
  exact this ▸ hk
 | n + 1, k, i, L, hc, h, hk => by
  unfold chain at h
  rw [Bool.or_eq_true] at h
  rcases h with h | h
  ·have : k = i := by simpa using h
   exact this ▸ hk
  ·cases ho : ops[k]? with
   | none => rw [ho] at h; cases h
   | some o =>
    rw [ho] at h
    obtain ⟨e, he, hb⟩ := Array.any_eq_true'.1 h
    rw [Bool.and_eq_true] at hb
    exact chain_listed n e.on i L hc hb.2 (hc k o ho hk e he hb.1)
theorem later_of {i : Nat} (n : Nat) (h : (match ops[z]? with | some o => o.after.any fun e => Region.binds md e && chain md ops n e.on i | none => false) = true) : Later md ops z i := by
 intro L hc hi hz
 obtain ⟨_, o, ho, hall⟩ := mem_ready.1 hz
 rw [ho] at h
 obtain ⟨e, he, hb⟩ := Array.any_eq_true'.1 h
 rw [Bool.and_eq_true] at hb
 have h1 := chain_listed n e.on i L hc hb.2 (hall e he hb.1)
 rcases Nat.lt_or_ge i L.size with h' | h'
 ·simp [h'] at hi h1
  rw [hi] at h1
  cases h1
 ·simp [Array.getElem?_eq_none h'] at hi
theorem Ways.first {i : Nat} {oi : Oper} {v : Value} (hi : ops[i]? = some oi) (hsel : ∀ (j : Nat) (o : Oper) cs b, ops[j]? = some o → o.op ≠ .select cs b)
  (hQ : ∀ c a w, Q (.panic c) (a.put oi.dst v) w → Q (.panic c) a w) (hz : Later md ops z i) (hiz : i ≠ z) :
  ∀ (n : Nat) (L : Array Bool) (a : Act) (w : World), Closed md ops L →
   (∀ j oj, ops[j]? = some oj → j ≠ i → L.getD j true = false → (∀ e ∈ oj.after, Region.binds md e = true → e.on ≠ i) → oi.apart ops oj = true) →
   i ∈ Region.ready md ops L → YieldsIf P ops S oi v a → S w →
   Ways P md ops Q S z n (L.setIfInBounds i true) (a.put oi.dst v) w → Ways P md ops Q S z (n + 1) L a w := by
 intro n
 induction n with
 | zero =>
  intro L a w _ _ hr hy hS H
  refine ⟨fun h => (by rw [h] at hr; cases hr), fun j hj => ?_⟩
  by_cases hji : j = i
  ·subst hji; exact hy.wpOp hi hS ⟨fun _ => hS, H⟩
  ·have := ready_mono hj hji
   rw [H.1] at this
   cases this
 | succ n ih =>
  intro L a w hcl hfree hr hy hS H
  refine ⟨fun h => (by rw [h] at hr; cases hr), fun j hj => ?_⟩
  by_cases hji : j = i
  ·subst hji; exact hy.wpOp hi hS ⟨fun _ => hS, H⟩
  have hjz : j ≠ z := fun h => hz L hcl (mem_ready.1 hr).1 (h ▸ hj)
  have h1 := H.2 j (ready_mono hj hji)
  obtain ⟨hjun, oj, hoj, hall⟩ := mem_ready.1 hj
  have hnot : ∀ e ∈ oj.after, Region.binds md e = true → e.on ≠ i := fun e he hb heq => by
   have h1 := hall e he hb
   have h0 := (mem_ready.1 hr).1
   rw [heq] at h1
   rcases Nat.lt_or_ge i L.size with h' | h'
   ·simp [h'] at h0 h1; rw [h0] at h1; cases h1
   ·simp [Array.getElem?_eq_none h'] at h1
  have h2 := wpOp_putIf hoj (hfree j oj hoj hji hjun hnot) (fun cs b => hsel i oi cs b hi) (fun cs b => hsel j oj cs b hoj) hQ hy h1
  refine wpOp_mono (fun a' w' h3 => ?_) h2
  obtain ⟨hy', hSw, hW⟩ := h3
  refine ⟨fun _ => hSw hjz, ih (L.setIfInBounds j true) a' w' (hcl.step hj) ?_ (ready_mono hr (Ne.symm hji)) hy' (hSw hjz) ?_⟩
  ·intro k ok hk hki hun hno
   refine hfree k ok hk hki ?_ hno
   by_cases hjk : j = k
   ·subst hjk; exact hjun
   ·rw [getD_set_ne true hjk] at hun; exact hun
  ·rw [Array.setIfInBounds_comm _ _ hji]
   exact hW
def closedB (md : Region.Mode) (ops : Array Oper) (L : Array Bool) : Bool :=
 (List.range ops.size).all fun j => !(L.getD j false) || match ops[j]? with
  | some o => o.after.all fun e => !(Region.binds md e) || L.getD e.on false
  | none => true
theorem closedB_spec {L : Array Bool} (h : closedB md ops L = true) : Closed md ops L := by
 intro j o ho hj e he hb
 have hjl : j < ops.size := (Array.getElem?_eq_some_iff.1 ho).1
 have h1 := List.all_eq_true.1 h j (List.mem_range.2 hjl)
 rw [hj, ho] at h1
 simp only [Bool.not_true, Bool.false_or] at h1
 have h2 := Array.all_eq_true'.1 h1 e he
 rw [hb] at h2
 simpa using h2
theorem Ways.take {i : Nat} {oi : Oper} {v : Value} {n : Nat} {L : Array Bool} {a : Act} {w : World} (hi : ops[i]? = some oi)
  (hs : (Region.noSelect ops && (Region.free md ops L i && ((Region.ready md ops L).contains i && (closedB md ops L && (i != z && (match ops[z]? with | some o => o.after.any fun e => Region.binds md e && chain md ops 8 e.on i | none => false)))))) = true)
  (hQ : ∀ c a w, Q (.panic c) (a.put oi.dst v) w → Q (.panic c) a w) (hy : YieldsIf P ops S oi v a) (hS : S w)
  (h : Ways P md ops Q S z n (L.setIfInBounds i true) (a.put oi.dst v) w) : Ways P md ops Q S z (n + 1) L a w := by
 simp only [Bool.and_eq_true] at hs
 obtain ⟨h1, h2, h3, h4, h5, h6⟩ := hs
 exact Ways.first hi (Region.noSelect_spec h1) hQ (later_of 8 h6) (by simpa using h5) n L a w (closedB_spec h4) (Region.free_spec hi h2) (by simpa using h3) hy hS h
theorem Ways.one {i : Nat} {o : Oper} {n : Nat} {L : Array Bool} {a : Act} {w : World} (hi : ops[i]? = some o) (hr : Region.ready md ops L = [i])
  (h : ∀ K : Act → World → Prop, Shut (∀ a w, (i ≠ z → S w) → ((i ≠ z → S w) → Ways P md ops Q S z n (L.setIfInBounds i true) a w) → K a w) →
   if Region.wanted o (yielded ops a.tmps) = true then Oper.wp P o a w K Q else K (a.put o.dst undef) w) : Ways P md ops Q S z (n + 1) L a w := by
 refine ⟨fun h0 => (by rw [hr] at h0; cases h0), fun j hj => ?_⟩
 rw [hr] at hj
 have hji : j = i := by simpa using hj
 subst hji
 exact wpOp_step hi fun K hK => h K fun a w hS hW => hK a w ⟨hS, hW hS⟩
theorem Ways.two {i j : Nat} {o o' : Oper} {n : Nat} {L : Array Bool} {a : Act} {w : World} (hi : ops[i]? = some o) (hj : ops[j]? = some o') (hr : Region.ready md ops L = [i, j])
  (h : ∀ K : Act → World → Prop, Shut (∀ a w, (i ≠ z → S w) → ((i ≠ z → S w) → Ways P md ops Q S z n (L.setIfInBounds i true) a w) → K a w) →
   if Region.wanted o (yielded ops a.tmps) = true then Oper.wp P o a w K Q else K (a.put o.dst undef) w)
  (h' : ∀ K : Act → World → Prop, Shut (∀ a w, (j ≠ z → S w) → ((j ≠ z → S w) → Ways P md ops Q S z n (L.setIfInBounds j true) a w) → K a w) →
   if Region.wanted o' (yielded ops a.tmps) = true then Oper.wp P o' a w K Q else K (a.put o'.dst undef) w) : Ways P md ops Q S z (n + 1) L a w := by
 refine ⟨fun h0 => (by rw [hr] at h0; cases h0), fun k hk => ?_⟩
 rw [hr] at hk
 rcases (by simpa using hk : k = i ∨ k = j) with hk | hk
 ·subst hk
  exact wpOp_step hi fun K hK => h K fun a w hS hW => hK a w ⟨hS, hW hS⟩
 ·subst hk
  exact wpOp_step hj fun K hK => h' K fun a w hS hW => hK a w ⟨hS, hW hS⟩
theorem Ways.done {L : Array Bool} {a : Act} {w : World} {n : Nat} (hr : Region.ready md ops L = []) (h : Q .normal a w) : Ways P md ops Q S z n L a w := by
 cases n with
 | zero => exact ⟨hr, h⟩
 | succ n => exact ⟨fun _ => h, by rw [hr]; simp⟩
theorem wp_region_ways {id : Nat} {a : Act} {w : World} (z : Nat) (S : World → Prop) (hm : P.follows .mixedOrders = true) (hS : S w.drew)
  (h : S w.drew → Ways P .any ops Q S z ops.size (Array.replicate ops.size false) a w.drew) : (Code.region id ops true).wp P Q a w :=
 wp_region_any hm (Ways.any _ _ _ _ (h hS))
end
theorem stI {w : World} {ops : Array Oper} {rest : List Oper} {o : Oper} {a : Act} {Q : Exit → Act → World → Prop} {x y : Operand} {g : Nat} {c0 c1 c2 c3 : Value} {t : TypeId} {old : Array Value} (hgd : o.guard = none) (ho : o.op = .store 69 x y) (hd : o.dst = none) (hx : a.eval x = .pointer (some ⟨g, 0, none⟩)) (hy : a.eval y = .agg #[c0, c1, c2, c3]) (hB : Blk w g t old) (hold : (#[c0, c1, c2, c3] : Array Value).size = old.size) (h1 : c0.oneCell' = true) (h2 : c1.oneCell' = true) (h3 : c2.oneCell' = true) (h4 : c3.oneCell' = true)
  (h : ∀ w', Blk w' g t #[c0, c1, c2, c3] → w.grownBy w' (some g) → wpList Tryd.prog ops Q rest a w') : wpList Tryd.prog ops Q (o :: rest) a w :=
 wpList_store_item hgd _ _ _ ho hd _ _ hx hy _ _ hB size_item hold (one4 _ _ _ _ h1 h2 h3 h4) h
abbrev zz1 := @List.getElem_toArray
abbrev zz2 := @List.getElem_cons_zero
abbrev zz3 := @List.getElem_cons_succ
abbrev zz4 := @List.setIfInBounds_toArray
abbrev zz5 := @List.set_cons_zero
abbrev zz6 := @List.set_cons_succ
theorem Tk {P : Program} {md : Region.Mode} {ops : Array Oper} {Q : Exit → Act → World → Prop} {z : Nat} {S : World → Prop} (i : Nat) {oi : Oper} {v : Value} {n : Nat} {L : Array Bool} {a : Act} {w : World} (hi : ops[i]? = some oi) (hy : ∀ w, S w → Sem.run P (execOp a.eval oi) w = Result.ok (Next.value v) w) (hS : S w) (h : Ways P md ops Q S z n (L.setIfInBounds i true) (a.put oi.dst v) w)
  (hs : (Region.noSelect ops && (Region.free md ops L i && ((Region.ready md ops L).contains i && (closedB md ops L && (i != z && (match ops[z]? with | some o => o.after.any fun e => Region.binds md e && chain md ops 8 e.on i | none => false)))))) = true := by kernel_rfl) (hw : Region.wanted oi (yielded ops a.tmps) = true := by rfl) (hQ : ∀ c a w, Q (.panic c) (a.put oi.dst v) w → Q (.panic c) a w := by exact fun _ _ _ h => h) : Ways P md ops Q S z (n + 1) L a w := Ways.take hi hs hQ (Or.inl ⟨hw, hy⟩) hS h
theorem To {P : Program} {md : Region.Mode} {ops : Array Oper} {Q : Exit → Act → World → Prop} {z : Nat} {S : World → Prop} (i : Nat) {o : Oper} {n : Nat} {L : Array Bool} {a : Act} {w : World} (hi : ops[i]? = some o)
  (h : ∀ K : Act → World → Prop, Shut (∀ a w, (i ≠ z → S w) → ((i ≠ z → S w) → Ways P md ops Q S z n (L.setIfInBounds i true) a w) → K a w) → if Region.wanted o (yielded ops a.tmps) = true then Oper.wp P o a w K Q else K (a.put o.dst undef) w)
  (hr : Region.ready md ops L = [i] := by kernel_rfl) : Ways P md ops Q S z (n + 1) L a w := Ways.one hi hr h
end Go.Proofs.YtlebpackbfcfeaaDoor
