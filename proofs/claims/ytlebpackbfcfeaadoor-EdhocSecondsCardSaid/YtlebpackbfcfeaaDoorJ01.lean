/- squeezed. Walks: cbor.head. Which items are valid: plain mathematics. Floats: the bits of a float64, and when it equals itself. The count of items and bytes: plain mathematics. Validity of items and of header parameters: plain mathematics. Rows of items that a call owns; results that are items. Stores of seve -/
import Derived.Test.YtlebpackbfcfeaaDoorJ00
import Derived.Lib.ValidU
import Derived.Lib.Bytealg
import Derived.Laws.Externs
import Derived.Laws.FloatArith
import Derived.Shelf.Unicode.DecodeSlow
import Derived.Deep.MidRow
import Derived.Laws.IdiomStrings
set_option linter.unusedVariables false
set_option linter.unusedSimpArgs false
namespace Go.Proofs.YtlebpackbfcfeaaDoor
open Go.RowKit

set_option maxRecDepth 100000 in
set_option maxHeartbeats 800000 in
theorem cbor_head (m n : Int) (w : World) (hm0 : 0 ≤ m) (hm : m < 8) (h0 : 0 ≤ n) (h1 : n < 18446744073709551616) :
   Calls Tryd.prog 91 #[.int .u8 m, .int .u64 n] w fun e w' => ∃ r, e = .returned r ∧ Fresh w (headB m.toNat n.toNat) r w' := by
 obtain ⟨m', hm'⟩ := Int.eq_ofNat_of_zero_le hm0
 obtain ⟨n', hn'⟩ := Int.eq_ofNat_of_zero_le h0
 have HM := Lib.hid hm'
 have HN := Lib.hid hn'
 have H1 := Lib.hid h1
 clear h1 hm' hn'
 go_enter Tryd.func91, Tryd.ntmps91
 go_wp2
 · go_ret
   obtain rfl := HM.out
   obtain rfl := HN.out
   rw [Int.toNat_natCast, Int.toNat_natCast]
   have hlt : (n' : Int) < 24 := by with_reducible assumption
   refine ⟨_, rfl, Fresh.lit _ _ _ 1 ?_ ?_ ?_⟩
   · rw [headB_length, if_pos (by omega)]
   · have := (headB_le m' n').2; omega
   · rw [headB, if_pos (by omega)]
     simp only [List.map_cons, List.map_nil, byteV_u8]
     rw [u8_head m' n' (by omega) (by omega), Nat.mod_eq_of_lt (by omega)]
 · go_ret
   obtain rfl := HM.out
   obtain rfl := HN.out
   rw [Int.toNat_natCast, Int.toNat_natCast]
   have hge : (24 : Int) ≤ n' := by with_reducible assumption
   have hlt : (n' : Int) < 256 := by with_reducible assumption
   refine ⟨_, rfl, Fresh.lit _ _ _ 2 ?_ ?_ ?_⟩
   · rw [headB_length, if_neg (by omega), if_pos (by omega)]
   · have := (headB_le m' n').2; omega
   · rw [headB, if_neg (by omega), if_pos (by omega)]
     simp only [List.map_cons, List.map_nil, byteV_u8]
     have e24' := u8_head m' 24 (by omega) (by omega)
     rw [show ((24 : Nat) : Int) = 24 from rfl] at e24'
     rw [e24', Nat.mod_eq_of_lt (by omega), Nat.mod_eq_of_lt (by omega)]
 · go_ret
   obtain rfl := HM.out
   obtain rfl := HN.out
   rw [Int.toNat_natCast, Int.toNat_natCast]
   have hge : (256 : Int) ≤ n' := by with_reducible assumption
   have hlt : (n' : Int) < 65536 := by with_reducible assumption
   refine ⟨_, rfl, Fresh.lit _ _ _ 3 ?_ ?_ ?_⟩
   · rw [headB_length, if_neg (by omega), if_neg (by omega), if_pos (by omega)]
   · have := (headB_le m' n').2; omega
   · rw [headB, if_neg (by omega), if_neg (by omega), if_pos (by omega)]
     simp only [List.map_cons, List.map_nil, byteV_u8]
     have e24' := u8_head m' 25 (by omega) (by omega)
     rw [show ((25 : Nat) : Int) = 25 from rfl] at e24'
     rw [e24', Nat.mod_eq_of_lt (show m' * 32 + 25 < 256 by omega), Nat.mod_eq_of_lt (show n' / 256 < 256 by omega)]
     rfl
 · go_ret
   obtain rfl := HM.out
   obtain rfl := HN.out
   rw [Int.toNat_natCast, Int.toNat_natCast]
   have hge : (65536 : Int) ≤ n' := by with_reducible assumption
   have hlt : (n' : Int) < 4294967296 := by with_reducible assumption
   refine ⟨_, rfl, Fresh.lit _ _ _ 5 ?_ ?_ ?_⟩
   · rw [headB_length, if_neg (by omega), if_neg (by omega), if_neg (by omega), if_pos (by omega)]
   · have := (headB_le m' n').2; omega
   · rw [headB, if_neg (by omega), if_neg (by omega), if_neg (by omega), if_pos (by omega)]
     simp only [List.map_cons, List.map_nil, byteV_u8]
     have e24' := u8_head m' 26 (by omega) (by omega)
     rw [show ((26 : Nat) : Int) = 26 from rfl] at e24'
     rw [e24', Nat.mod_eq_of_lt (show m' * 32 + 26 < 256 by omega), Nat.mod_eq_of_lt (show n' / 16777216 < 256 by omega)]
     rfl
 · have HG : Hid (headB m.toNat n.toNat = u8 (m.toNat * 32 + 27) :: be8 n.toNat 8) := by
     have hge : (4294967296 : Int) ≤ n := by with_reducible assumption
     rw [headB, if_neg (by omega), if_neg (by omega), if_neg (by omega), if_neg (by omega)]
     rfl
   have hst : OwnB (w.alloc (.cells #[.int .u8 (bits .or .u8 (m * 32) 27)] 5)) w.heap.size (.slice (some ⟨w.heap.size, 0, none⟩) 1 1) [u8 (m.toNat * 32 + 27)] := by
     refine OwnB.lit w _ _ _ 1 rfl ?_ (Nat.le_refl _) (by simp)
     have e27' := u8_head m.toNat 27 (by omega) (by omega)
     rw [show ((27 : Nat) : Int) = 27 from rfl, Int.toNat_of_nonneg hm0] at e27'
     simp only [List.map_cons, List.map_nil, byteV_u8]
     rw [e27', Nat.mod_eq_of_lt (by omega)]
   go_loopw [6, 7] (fun v s wr => ∃ k : Nat, k ≤ 8 ∧ s = .int .i64 (56 - 8 * (k : Int)) ∧ OwnB wr w.heap.size v (u8 (m.toNat * 32 + 27) :: be8 n.toNat k) ∧ Below w.heap.size w wr) (fun _ s _ => (intOf s + 8).toNat)
   case atStart => exact ⟨0, by omega, rfl, hst, (Below.refl _ _).alloc (Nat.le_refl _) _⟩
   case round =>
     obtain ⟨k, hk, rfl, hown, hb⟩ := hrel
     by_cases hlt : k < 8
     · have hbs := hb.size
       go_wp2_with (at_builtin; refine wpList_app_bytes rfl (.tmp 61) (.tmp 66) rfl w.heap.size _ _ rfl (hown.alloc _) _ 1 1 [u8 (n.toNat / 2 ^ (56 - 8 * k))] rfl rfl ?hs ?hl ?hz ?_)
       case hs =>
         rw [byteV_of (n / 2 ^ (56 - 8 * k) % 256) (n.toNat / 2 ^ (56 - 8 * k)) (by obtain rfl := HN.out; simp)]
         exact Src.lit wr #[byteV (u8 (n.toNat / 2 ^ (56 - 8 * k)))] _
       case hl => simp [be8_length]; omega
       case hz => simp; omega
       intro v' w' hown' hg _
       have R : OwnB w' w.heap.size v' (u8 (m.toNat * 32 + 27) :: be8 n.toNat (k + 1)) ∧ Below w.heap.size w w' :=
         ⟨by simpa [be8] using hown', ((hb.alloc hbs _).grown hg (by simp; omega) (fun g hg => (hown.lt g hg).1))⟩
       clear hown' hg hown hb hst
       go_wp2
       go_roundw
       case rel => exact ⟨k + 1, by omega, by go_num, R.1, R.2⟩
       case measure => simp [intOf]; omega
     · have hk8 : k = 8 := by omega
       subst hk8
       go_wp2
       go_ret
       refine ⟨_, rfl, ?_⟩
       rw [HG.out]
       exact ⟨hown, hb⟩
end Go.Proofs.YtlebpackbfcfeaaDoor
namespace Go.Proofs.YtlebpackbfcfeaaDoor
open Go.RowKit

def notNumber : Nat := 9221120237041090560
def isPlain (x : Itm) : Bool := x.kind == 0 || x.kind == 1 || x.kind == 2 || x.kind == 3 || x.kind == 7 || x.kind == 8
def okPlain (x : Itm) : Bool :=
 if x.kind = 0 ∨ x.kind = 1 then x.bytes.isEmpty && x.items.isEmpty
 else if x.kind = 2 then x.n == 0 && x.items.isEmpty
 else if x.kind = 3 then x.n == 0 && x.items.isEmpty && Lib.validD x.bytes
 else if x.kind = 7 then x.bytes.isEmpty && x.items.isEmpty && (decide (x.n < 24) || decide (32 ≤ x.n) && decide (x.n < 256))
 else if x.kind = 8 then x.bytes.isEmpty && x.items.isEmpty && (!isNaN x.n || x.n == notNumber)
 else false
def ascP : List Itm → Bool
 | a :: b :: c :: l => decide (Lib.compareBytes (encB a) (encB c) < 0) && ascP (c :: l)
 | _ => true
end Go.Proofs.YtlebpackbfcfeaaDoor
namespace Go.Proofs.YtlebpackbfcfeaaDoor
open Go.RowKit

theorem isNaN_iff (n : Nat) : isNaN n = true ↔ n / 2 ^ 52 % 2048 = 2047 ∧ n % 2 ^ 52 ≠ 0 := by
 simp [isNaN]
theorem read_nan (n : Nat) : (Ieee.double.read n).isNaN = isNaN n := by
 rw [Bool.eq_iff_iff, isNaN_iff]
 have hs : Ieee.double.signWeight = 9223372036854775808 := rfl
 have hb : Ieee.double.binade = 4503599627370496 := rfl
 have hi : Ieee.double.infRung = 9218868437227405312 := rfl
 simp only [Nat.reducePow]
 by_cases h1 : n % Ieee.double.signWeight < Ieee.double.binade
 · rw [show Ieee.double.read n = .number _ _ _ from if_pos h1]
   rw [hs, hb] at h1
   simp only [Ieee.Datum.isNaN, Bool.false_eq_true, false_iff]
   omega
 by_cases h2 : n % Ieee.double.signWeight < Ieee.double.infRung
 · rw [show Ieee.double.read n = .number _ _ _ from (if_neg h1).trans (if_pos h2)]
   rw [hs, hi] at h2
   simp only [Ieee.Datum.isNaN, Bool.false_eq_true, false_iff]
   omega
 by_cases h3 : n % Ieee.double.signWeight = Ieee.double.infRung
 · rw [show Ieee.double.read n = .infinity _ from (if_neg h1).trans ((if_neg h2).trans (if_pos h3))]
   rw [hs, hi] at h3
   simp only [Ieee.Datum.isNaN, Bool.false_eq_true, false_iff]
   omega
 rw [show Ieee.double.read n = .nan _ _ from (if_neg h1).trans ((if_neg h2).trans (if_neg h3))]
 rw [hs, hi] at h2 h3
 simp only [Ieee.Datum.isNaN, true_iff]
 omega
theorem order_self (d : Ieee.Datum) : (d.order d == some .eq) = !d.isNaN := by
 cases d with
 | nan a b => rfl
 | infinity s => cases s <;> rfl
 | number s m i =>
   simp [Ieee.Datum.order, Ieee.Datum.isNaN]

theorem order_feq (n : Nat) : (FloatKind.f64.format.order n n == some .eq) = !isNaN n := by
 show (Ieee.Datum.order (Ieee.double.read n) (Ieee.double.read n) == some .eq) = _
 rw [order_self, read_nan]
theorem order_fne (n : Nat) : (FloatKind.f64.format.order n n != some .eq) = isNaN n := by
 rw [bne, order_feq, Bool.not_not]
theorem run_f64frombits (n : Nat) (w : World) : (callFunc 100 #[.int .u64 (n : Int)]).run Tryd.prog w = .ok (.value (.float .f64 n)) w := by
 rw [run_callFunc_extern Tryd.func100 (by kernel_rfl) (by kernel_rfl) (by kernel_rfl) (e := Extern.MathFloatBits.float64frombits) (by kernel_rfl)]
 rfl
theorem run_f64bits (n : Nat) (w : World) : (callFunc 93 #[.float .f64 n]).run Tryd.prog w = .ok (.value (.int .u64 (n : Int))) w := by
 rw [run_callFunc_extern Tryd.func93 (by kernel_rfl) (by kernel_rfl) (by kernel_rfl) (e := Extern.MathFloatBits.float64bits) (by kernel_rfl)]
 rfl
theorem run_f32bits (n : Nat) (w : World) : (callFunc 102 #[.float .f32 n]).run Tryd.prog w = .ok (.value (.int .u32 (n : Int))) w := by
 rw [run_callFunc_extern Tryd.func102 (by kernel_rfl) (by kernel_rfl) (by kernel_rfl) (e := Extern.MathFloatBits.float32bits) (by kernel_rfl)]
 rfl
end Go.Proofs.YtlebpackbfcfeaaDoor
namespace Go.Proofs.YtlebpackbfcfeaaDoor
open Go.RowKit

def frameOk (x : Itm) (lv : Nat) : Bool :=
 decide (4 ≤ x.kind ∧ x.kind ≤ 6 ∧ lv < 8 ∧ x.bytes.length = 0 ∧ (x.kind = 6 → x.items.length = 1) ∧ (x.kind ≠ 6 → x.n = 0) ∧ (x.kind = 5 → x.items.length % 2 = 0))
theorem isPlain_iff (x : Itm) : isPlain x = true ↔ x.kind = 0 ∨ x.kind = 1 ∨ x.kind = 2 ∨ x.kind = 3 ∨ x.kind = 7 ∨ x.kind = 8 := by
 simp [isPlain]
 omega
theorem frameOk_spec {x : Itm} {lv : Nat} (h : frameOk x lv = true) : 4 ≤ x.kind ∧ x.kind ≤ 6 ∧ lv < 8 ∧ x.bytes.length = 0 ∧ (x.kind = 6 → x.items.length = 1) ∧ (x.kind ≠ 6 → x.n = 0) ∧ (x.kind = 5 → x.items.length % 2 = 0) :=
 of_decide_eq_true h
theorem okPlain_items {x : Itm} (hp : isPlain x = true) (ho : okPlain x = true) : x.items = [] ∧ (x.kind = 8 ∨ x.kind = 7 → x.bytes = []) := by
 rw [isPlain_iff] at hp
 unfold okPlain at ho
 rcases hp with h | h | h | h | h | h <;> simp [h] at ho ⊢ <;> simp [ho]
end Go.Proofs.YtlebpackbfcfeaaDoor
namespace Go.Proofs.YtlebpackbfcfeaaDoor
open Go.RowKit

def Tabs (H : Snap) : Prop := ∀ w, Holds w H → Lib.Utf8Tabs 0 1 w
theorem Tabs.mono {H K : Snap} (h : Tabs H) (hl : H.le K) : Tabs K := fun w hw => h w (hw.mono hl)
end Go.Proofs.YtlebpackbfcfeaaDoor
namespace Go.Proofs.YtlebpackbfcfeaaDoor
open Go.RowKit

def itemC (x : Itm) (ba : Option Addr) (bc : Nat) (ia : Option Addr) (ic : Nat) : List Value := [.int .i64 x.kind, .int .u64 x.n, .slice ba x.bytes.length bc, .slice ia x.items.length ic]

def ItemsC (H : Snap) : List Value → List Itm → Prop
 | cs, [] => cs = []
 | cs, x :: l => ∃ ba bc ia ic rest, cs = itemC x ba bc ia ic ++ rest ∧ IsItem H ba bc ia ic x ∧ ItemsC H rest l

theorem ItemsC.nil (H : Snap) : ItemsC H [] [] := by rw [ItemsC]
theorem ItemsC.one {H : Snap} {x : Itm} {ba : Option Addr} {bc : Nat} {ia : Option Addr} {ic : Nat} (h : IsItem H ba bc ia ic x) : ItemsC H (itemC x ba bc ia ic) [x] :=
 ⟨ba, bc, ia, ic, [], by simp, h, ItemsC.nil H⟩
theorem ItemsC.len {H : Snap} : ∀ {l : List Itm} {cs : List Value}, ItemsC H cs l → cs.length = l.length * 4
 | [], cs, h => by rw [ItemsC] at h; subst h; rfl
 | x :: l, cs, h => by
   obtain ⟨_, _, _, _, rest, rfl, _, hr⟩ := h
   have := hr.len
   simp [itemC]
   omega
theorem ItemsC.mono {H K : Snap} (hl : H.le K) : ∀ {l : List Itm} {cs : List Value}, ItemsC H cs l → ItemsC K cs l
 | [], cs, h => h
 | x :: l, cs, h => by
   obtain ⟨ba, bc, ia, ic, rest, e, hx, hr⟩ := h
   exact ⟨ba, bc, ia, ic, rest, e, hx.mono hl, hr.mono hl⟩
theorem ItemsC.app {H : Snap} : ∀ {l m : List Itm} {cs ds : List Value}, ItemsC H cs l → ItemsC H ds m → ItemsC H (cs ++ ds) (l ++ m)
 | [], m, cs, ds, h, hd => by rw [ItemsC] at h; subst h; exact hd
 | x :: l, m, cs, ds, h, hd => by
   obtain ⟨ba, bc, ia, ic, rest, rfl, hx, hr⟩ := h
   exact ⟨ba, bc, ia, ic, rest ++ ds, by simp, hx, hr.app hd⟩
theorem ItemsC.elems {H : Snap} {b : Nat} : ∀ {l : List Itm} {cs : List Value} {off : Nat}, ItemsC H cs l → Cells H b off cs → IsElems H b off l
 | [], cs, off, h, hc => by rw [IsElems]; trivial
 | x :: l, cs, off, h, hc => by
   obtain ⟨ba, bc, ia, ic, rest, rfl, hx, hr⟩ := h
   rw [IsElems]
   refine ⟨⟨ba, bc, ia, ic, hc 0 _ rfl, hc 1 _ rfl, hc 2 _ rfl, hc 3 _ rfl, hx⟩, hr.elems fun j v hj => ?_⟩
   have := hc (j + 4) v (by simpa [itemC] using hj)
   rwa [show off + (j + 4) = off + 4 + j by omega] at this
theorem ItemsC.oneCell {H : Snap} : ∀ {l : List Itm} {cs : List Value}, ItemsC H cs l → ∀ u ∈ cs, u.oneCell' = true
 | [], cs, h => by rw [ItemsC] at h; subst h; simp
 | x :: l, cs, h => by
   obtain ⟨ba, bc, ia, ic, rest, rfl, hx, hr⟩ := h
   intro u hu
   rw [List.mem_append] at hu
   rcases hu with hu | hu
   · simp [itemC] at hu
     rcases hu with rfl | rfl | rfl | rfl <;> rfl
   · exact hr.oneCell u hu
def OwnI (w : World) (base : Nat) (v : Value) (H : Snap) (l : List Itm) : Prop := ∃ cs, ItemsC H cs l ∧ w.ownsRow base 69 4 v l.length cs

section
variable {w w' : World} {base : Nat} {v : Value} {H : Snap} {l : List Itm}
theorem OwnI.nil (w : World) (base : Nat) (H : Snap) : OwnI w base (.slice none 0 0) H [] := ⟨[], ItemsC.nil H, World.ownsRow_nil _ _ _ _⟩
theorem OwnI.lt (h : OwnI w base v H l) : ∀ k, v.ownBlock = some k → base ≤ k ∧ k < w.heap.size := by obtain ⟨_, _, h⟩ := h; exact World.ownsRow.lt h
theorem OwnI.kept {row : Option Nat} (h : OwnI w base v H l) (hg : w.grownBy w' row) (hne : v.ownBlock = none ∨ v.ownBlock ≠ row) : OwnI w' base v H l := by
 obtain ⟨cs, hc, h⟩ := h; exact ⟨cs, hc, World.ownsRow.kept h hg hne⟩
theorem OwnI.below (h : OwnI w base v H l) (hb : Below w.heap.size w w') : OwnI w' base v H l := by
 refine h.kept (grown_of_below hb none) ?_
 cases hv : v.ownBlock with
 | none => exact .inl rfl
 | some g => exact .inr (by simp)
theorem OwnI.alloc (h : OwnI w base v H l) (o : Obj) : OwnI (w.alloc o) base v H l := h.below (below_box w o)
theorem OwnI.mono {K : Snap} (h : OwnI w base v H l) (hl : H.le K) : OwnI w base v K l := by obtain ⟨cs, hc, h⟩ := h; exact ⟨cs, hc.mono hl, h⟩
theorem OwnI.form (h : OwnI w base v H l) : ∃ A c, v = .slice A l.length c ∧ l.length ≤ c ∧ c ≤ 9223372036854775807 := by
 obtain ⟨cs, hc, h⟩ := h
 rcases h.2 with ⟨rfl, hz⟩ | ⟨g, cap, cur, rfl, _, _, hn, hm, _⟩
 · exact ⟨none, 0, by rw [hz], by omega, by omega⟩
 · exact ⟨_, cap, rfl, hn, by simpa [maxLen] using hm⟩
theorem OwnI.snap {A : Option Addr} {m c : Nat} (h : OwnI w base (.slice A m c) H l) (hw : Holds w H) (hn : ∀ g, A.map (·.block) = some g → H g = none) :
   ∃ H', H.le H' ∧ Holds w H' ∧ (∀ b o, H' b = some o → H b = some o ∨ A.map (·.block) = some b) ∧ m = l.length ∧ l.length ≤ c ∧ c ≤ 9223372036854775807 ∧ (0 < l.length → ∃ b off, A = some ⟨b, off, none⟩ ∧ IsElems H' b off l) := by
 obtain ⟨cs, hcs, h⟩ := h
 rcases h.2 with ⟨hv, hz⟩ | ⟨g, cap, cur, hv, _, hg, hc, hm, hcz, ht⟩
 · cases hv
   exact ⟨H, Snap.le.refl _, hw, fun _ _ h => .inl h, hz.symm, by omega, by omega, by omega⟩
 · cases hv
   have hg0 : H g = none := hn g rfl
   refine ⟨H.with g (.cells cur 69), Snap.le_with hg0, hw.with hg, fun b o hb => ?_, rfl, hc, by simpa [maxLen] using hm, fun _ => ⟨g, 0, rfl, (hcs.mono (Snap.le_with hg0)).elems fun j v hj => ?_⟩⟩
   · unfold Snap.with at hb
     split at hb
     · subst b; exact .inr rfl
     · exact .inl hb
   · rw [← ht, List.getElem?_take] at hj
     split at hj
     · simp [Snap.cell?, Snap.with]
       simpa using hj
     · cases hj
end

theorem info_item : (Tryd.prog.info? 69).map (fun i => (i.zero, i.size, i.bytes)) = some (some (.agg #[.int .i64 0, .int .u64 0, .slice none 0 0, .slice none 0 0]), 4, 64) := by kernel_rfl

theorem wpList_app_items {w : World} {ops : Array Oper} {rest : List Oper} {o : Oper} {a : Act} {Q : Exit → Act → World → Prop} (hgd : o.guard = none) (s x : Operand)
   (ho : o.op = .call { callee := .builtin .append, args := #[s, x], argTypes := #[67, 67] })
   (base : Nat) (v : Value) (H : Snap) (l : List Itm) (hs : a.eval s = v) (hown : OwnI w base v H l) (A : Option Addr) (m c : Nat) (cs : List Value) (news : List Itm) (hx : a.eval x = .slice A m c) (hm : m = news.length)
   (hn : ItemsC H cs news) (hr : Src w A cs) (hlen : l.length + news.length ≤ 1099511627776) (hbase : base ≤ w.heap.size)
   (h : ∀ v' w', OwnI w' base v' H (l ++ news) → w.grownBy w' v.ownBlock → At0 w v.ownBlock v'.ownBlock → wpList Tryd.prog ops Q rest (a.put o.dst v') w') :
   wpList Tryd.prog ops Q (o :: rest) a w := by
 subst hm
 obtain ⟨xs, hxs, hown⟩ := hown
 obtain ⟨i0, hi0, hz0, hz1, hz2⟩ := info_parts info_item
 refine wpList_plain hgd fun K hK => wp_append_src s x _ ho base 69 i0 _ 4 64 Tryd.underlying67 hi0 hz0 hz1 hz2 rfl (by omega) v l.length xs hs hown A news.length c cs hx hn.len hr hn.oneCell
   (by simp only [maxLen]; omega) (by omega) hbase fun v' w' h2 h3 h4 => hK _ _ (h v' w' ?_ h3 ?_)
 · exact ⟨xs ++ cs, hxs.app hn, by simpa using h2⟩
 · rcases h4 with h4 | h4
   · exact .inl h4
   · exact .inr ⟨_, h4, Nat.le_refl _⟩

structure GrowsBut (w : World) (H : Snap) (w' : World) (H' : Snap) (g : Nat) : Prop where
 grown : w.grownBy w' (some g)
 le : H.le H'
 holds : Holds w' H'
 fresh : ∀ b o, H' b = some o → H b = some o ∨ w.heap.size ≤ b

section
variable {fn : Func} {R : Ending → World → Prop} {w : World} {p u : Tmp} {ty : TypeId} {a : Act} {g : Nat} {t : TypeId} {cs : Array Value} {d : TypeDesc}
theorem ret_row (h : fn.results = #[.cell p ty]) (hp : a.tmps.getD p undef = .pointer (some ⟨g, 0, none⟩)) (hg : Blk w g t cs)
   (hd : (match d with | .struct _ | .array _ _ => true | _ => false) = true) (hu : Tryd.prog.underlying ty = some d) (hi : (Tryd.prog.info? ty).map (·.size) = some cs.size)
   (hdf : a.defers = []) (hR : R (.returned (.agg cs)) w) : bodyPost Tryd.prog fn R .ret a w :=
 bodyPost_ret (results_cell_row h a.tmps w g t cs (0, 0) d hp hg hu (by cases d <;> first | exact hd | rfl | cases hd) hi) hdf hR
theorem ret_row_tmp (h : fn.results = #[.cell p ty, .tmp u]) (hp : a.tmps.getD p undef = .pointer (some ⟨g, 0, none⟩)) (hg : Blk w g t cs)
   (hd : (match d with | .struct _ | .array _ _ => true | _ => false) = true) (hu : Tryd.prog.underlying ty = some d) (hi : (Tryd.prog.info? ty).map (·.size) = some cs.size)
   (hdf : a.defers = []) (hR : R (.returned (.tuple #[.agg cs, a.tmps.getD u undef])) w) : bodyPost Tryd.prog fn R .ret a w := by
 refine bodyPost_ret (v := .tuple #[.agg cs, a.tmps.getD u undef]) ?_ hdf hR
 rw [results_cell_tmp h, hp]
 have hd' := run_loadVar_row (P := Tryd.prog) w g t ty cs (0, 0) d hg hu (by cases d <;> first | exact hd | rfl | cases hd) hi
 simp [asAddr, hd', Result.andThen]
end
theorem size_item : (Tryd.prog.info? 69).map (·.size) = some 4 := by kernel_rfl
end Go.Proofs.YtlebpackbfcfeaaDoor
namespace Go.Proofs.YtlebpackbfcfeaaDoor
open Go.RowKit

theorem stop_store {P : Program} {ops : Array Oper} {Q : Exit → Act → World → Prop} {rest : List Oper} {a : Act} {w : World} {dst : Option Tmp} {ty : TypeId} {x y : Operand} {T : TypeId} {pos : String} {af : Array Edge} {g : Option (Nat × Bool)}
   (h : Stopped (wpList P ops Q (⟨dst, .store ty x y, T, pos, af, g⟩ :: rest) a w)) : wpList P ops Q (⟨dst, .store ty x y, T, pos, af, g⟩ :: rest) a w := h
def putC (cs : Array Value) : Nat → List Value → Array Value
 | _, [] => cs
 | o, v :: r => putC (cs.setIfInBounds o v) (o + 1) r
theorem putC_get : ∀ (vs : List Value) (cs : Array Value) (o j : Nat), (putC cs o vs)[j]? = if o ≤ j ∧ j < o + vs.length ∧ j < cs.size then vs[j - o]? else cs[j]?
 | [], cs, o, j => by simp [putC]; omega
 | v :: r, cs, o, j => by
   rw [putC, putC_get r]
   simp only [Array.size_setIfInBounds, List.length_cons]
   by_cases h : o + 1 ≤ j ∧ j < o + 1 + r.length ∧ j < cs.size
   · rw [if_pos h, if_pos (by omega), show j - o = (j - (o + 1)) + 1 by omega, List.getElem?_cons_succ]
   · rw [if_neg h]
     by_cases h2 : o = j
     · subst h2
       by_cases h3 : o < cs.size
       · rw [if_pos (by omega)]; simp [h3]
       · rw [if_neg (by omega)]; simp [h3]
     · rw [if_neg (by omega), Array.getElem?_setIfInBounds, if_neg h2]
theorem putC_all (cs : Array Value) (vs : List Value) (h : vs.length = cs.size) : putC cs 0 vs = vs.toArray := by
 apply Array.ext_getElem?
 intro j
 rw [putC_get]
 by_cases h1 : j < cs.size
 · rw [if_pos (by omega)]; simp
 · rw [if_neg (by omega), Array.getElem?_eq_none (by omega), Array.getElem?_eq_none (by simp; omega)]
theorem Blk.setCells : ∀ (vs : List Value) {w : World} {g : Nat} {t : TypeId} {cs : Array Value} (o : Nat), Blk w g t cs → Blk (w.setCells g o vs) g t (putC cs o vs)
 | [], _, _, _, _, _, h => h
 | v :: r, w, g, t, cs, o, h => by
   rw [World.setCells, putC]
   exact (h.set_ o v).setCells r (o + 1)
theorem grown_setCells (g : Nat) : ∀ (vs : List Value) {w0 w : World} (o : Nat), w0.grownBy w (some g) → w0.grownBy (w.setCells g o vs) (some g)
 | [], _, _, _, h => h
 | v :: r, w0, w, o, h => by
   rw [World.setCells]
   exact grown_setCells g r (o + 1) (grown_set h (.inl rfl) v)

theorem wpList_store_blk {w : World} {ops : Array Oper} {rest : List Oper} {o : Oper} {a : Act} {Q : Exit → Act → World → Prop} (hgd : o.guard = none) (ty : TypeId) (x y : Operand) (ho : o.op = .store ty x y)
   (hd : o.dst = none) (g off : Nat) (cells : Array Value) (hx : a.eval x = .pointer (some ⟨g, off, none⟩)) (hy : a.eval y = .agg cells)
   (t : TypeId) (old : Array Value) (hB : Blk w g t old) (hi : (Tryd.prog.info? ty).map (·.size) = some cells.size) (hold : off + cells.size ≤ old.size) (h1 : cells.all (·.oneCell') = true)
   (h : ∀ w', Blk w' g t (putC old off cells.toList) → w.grownBy w' (some g) → wpList Tryd.prog ops Q rest a w') :
   wpList Tryd.prog ops Q (o :: rest) a w := by
 refine wpList_store_mid hgd ty x y ho g off cells hx hy (fun j hj => ⟨?_, hB.frozen _⟩) hi h1 ?_
 · obtain ⟨v, hv⟩ : ∃ v, old[off + j]? = some v := ⟨_, Array.getElem?_eq_getElem (by omega)⟩
   rw [hB.cell _ hv]; rfl
 · rw [hd]
   exact h _ (hB.setCells _ _) (grown_setCells g _ _ (grown_refl w _))
theorem wpList_store_item {w : World} {ops : Array Oper} {rest : List Oper} {o : Oper} {a : Act} {Q : Exit → Act → World → Prop} (hgd : o.guard = none) (ty : TypeId) (x y : Operand) (ho : o.op = .store ty x y)
   (hd : o.dst = none) (g : Nat) (cells : Array Value) (hx : a.eval x = .pointer (some ⟨g, 0, none⟩)) (hy : a.eval y = .agg cells)
   (t : TypeId) (old : Array Value) (hB : Blk w g t old) (hi : (Tryd.prog.info? ty).map (·.size) = some cells.size) (hold : cells.size = old.size) (h1 : cells.all (·.oneCell') = true)
   (h : ∀ w', Blk w' g t cells → w.grownBy w' (some g) → wpList Tryd.prog ops Q rest a w') :
   wpList Tryd.prog ops Q (o :: rest) a w := by
 refine wpList_store_blk hgd ty x y ho hd g 0 cells hx hy t old hB hi (by omega) h1 fun w' h2 h3 => h w' ?_ h3
 rwa [putC_all _ _ (by simpa using hold)] at h2
theorem wp_store_item {w : World} {o : Oper} {a : Act} {K : Act → World → Prop} {Q : Exit → Act → World → Prop} (ty : TypeId) (x y : Operand) (ho : o.op = .store ty x y)
   (g : Nat) (cells : Array Value) (hx : a.eval x = .pointer (some ⟨g, 0, none⟩)) (hy : a.eval y = .agg cells)
   (t : TypeId) (old : Array Value) (hB : Blk w g t old) (hi : (Tryd.prog.info? ty).map (·.size) = some cells.size) (hold : cells.size = old.size) (h1 : cells.all (·.oneCell') = true)
   (h : ∀ w', Blk w' g t cells → w.grownBy w' (some g) → K (a.put o.dst undef) w') :
   o.wp Tryd.prog a w K Q := by
 refine wp_store_mid ty x y ho g 0 cells hx hy (fun j hj => ⟨?_, hB.frozen _⟩) hi h1 ?_
 · obtain ⟨v, hv⟩ : ∃ v, old[0 + j]? = some v := ⟨_, Array.getElem?_eq_getElem (by omega)⟩
   rw [hB.cell _ hv]; rfl
 · refine h _ ?_ (grown_setCells g _ _ (grown_refl w _))
   have := hB.setCells cells.toList 0
   rwa [putC_all _ _ (by simpa using hold)] at this
theorem run_storeVar_cell (w : World) (b o : Nat) (ty : TypeId) (v : Value) (ht : w.there b o 1) (hi : (Tryd.prog.info? ty).map (·.size) = some 1) (h1 : v.oneCell' = true) :
   (storeVar ty ⟨b, o, none⟩ v).run Tryd.prog w = .ok () (w.setCells b o [v]) := by
 have := run_storeCells_cells (P := Tryd.prog) b o [v] 0 w (fun j hj => by simpa using (ht j (by simpa using hj)).1) (fun j hj => by simpa using (ht j (by simpa using hj)).2) (fun x hx => by simp at hx; subst hx; exact h1)
 have hc : v.cells = #[v] := by cases v <;> first | rfl | cases h1
 cases hq : Tryd.prog.info? ty with
 | none => simp [hq] at hi
 | some i =>
   have hs : i.size = 1 := by simpa [hq] using hi
   simp only [Nat.add_zero] at this
   simp [storeVar, sizeOf, typeInfo, hq, hc, hs, this]
theorem wp_store_cell {w : World} {o : Oper} {a : Act} {K : Act → World → Prop} {Q : Exit → Act → World → Prop} (ty : TypeId) (x y : Operand) (ho : o.op = .store ty x y)
   (g off : Nat) (v : Value) (hx : a.eval x = .pointer (some ⟨g, off, none⟩)) (hy : a.eval y = v)
   (t : TypeId) (old : Array Value) (hB : Blk w g t old) (hi : (Tryd.prog.info? ty).map (·.size) = some 1) (hold : off < old.size) (h1 : v.oneCell' = true)
   (h : ∀ w', Blk w' g t (old.setIfInBounds off v) → w.grownBy w' (some g) → K (a.put o.dst undef) w') :
   o.wp Tryd.prog a w K Q := by
 have hr := run_storeVar_cell w g off ty v (fun j hj => ⟨by rw [hB.cell _ (Array.getElem?_eq_getElem (by omega : off + j < old.size))]; rfl, hB.frozen _⟩) hi h1
 unfold Oper.wp execOp
 simp only [ho, hx, hy, Instr.storeAt, Instr.sureAddr, Sem.run_bind, Sem.run_pure, Result.andThen_ok, hr]
 exact h _ (hB.setCells [v] off) (grown_setCells g _ _ (grown_refl w _))
theorem wpList_store_cell {w : World} {ops : Array Oper} {rest : List Oper} {o : Oper} {a : Act} {Q : Exit → Act → World → Prop} (hgd : o.guard = none) (ty : TypeId) (x y : Operand) (ho : o.op = .store ty x y)
   (hd : o.dst = none) (g off : Nat) (v : Value) (hx : a.eval x = .pointer (some ⟨g, off, none⟩)) (hy : a.eval y = v)
   (t : TypeId) (old : Array Value) (hB : Blk w g t old) (hi : (Tryd.prog.info? ty).map (·.size) = some 1) (hold : off < old.size) (h1 : v.oneCell' = true)
   (h : ∀ w', Blk w' g t (old.setIfInBounds off v) → w.grownBy w' (some g) → wpList Tryd.prog ops Q rest a w') :
   wpList Tryd.prog ops Q (o :: rest) a w := by
 have hr := run_storeVar_cell w g off ty v (fun j hj => ⟨by rw [hB.cell _ (Array.getElem?_eq_getElem (by omega : off + j < old.size))]; rfl, hB.frozen _⟩) hi h1
 refine wpList_plain hgd fun _ hK => ?_
 unfold Oper.wp execOp
 simp only [ho, hx, hy, Instr.storeAt, Instr.sureAddr, Sem.run_bind, Sem.run_pure, Result.andThen_ok, hr]
 exact hK (a.put o.dst undef) _ (by rw [hd]; exact h _ (hB.setCells [v] off) (grown_setCells g _ _ (grown_refl w _)))
theorem size_bytes : (Tryd.prog.info? 24).map (·.size) = some 1 := by kernel_rfl
theorem size_items : (Tryd.prog.info? 67).map (·.size) = some 1 := by kernel_rfl

theorem wp_app_bytes {w : World} {o : Oper} {a : Act} {K : Act → World → Prop} {Q : Exit → Act → World → Prop} (s x : Operand)
   (ho : o.op = .call { callee := .builtin .append, args := #[s, x], argTypes := #[24, 24] })
   (base : Nat) (v : Value) (l : List UInt8) (hs : a.eval s = v) (hown : OwnB w base v l) (A : Option Addr) (m c : Nat) (news : List UInt8) (hx : a.eval x = .slice A m c) (hm : m = news.length)
   (hr : Src w A (news.map byteV)) (hlen : l.length + news.length ≤ 1099511627776) (hbase : base ≤ w.heap.size)
   (h : ∀ v' w', OwnB w' base v' (l ++ news) → w.grownBy w' v.ownBlock → At0 w v.ownBlock v'.ownBlock → K (a.put o.dst v') w') :
   o.wp Tryd.prog a w K Q := by
 subst hm
 obtain ⟨i0, hi0, hz0, hz1, hz2⟩ := info_parts info_u8
 refine wp_append_src s x _ ho base 5 i0 _ 1 1 Tryd.underlying24 hi0 hz0 hz1 hz2 rfl (by omega) v l.length (l.map byteV) hs hown A news.length c (news.map byteV) hx (by simp) hr (byteV_one _)
   (by simp only [maxLen]; omega) (by omega) hbase fun v' w' h2 h3 h4 => h v' w' ?_ h3 ?_
 · unfold OwnB; simpa using h2
 · rcases h4 with h4 | h4
   · exact .inl h4
   · exact .inr ⟨_, h4, Nat.le_refl _⟩
abbrev itemO (x : Itm) (ba : Option Addr) (bc : Nat) (ia : Option Addr) (ic : Nat) : Obj := .cells #[.int .i64 x.kind, .int .u64 x.n, .slice ba x.bytes.length bc, .slice ia x.items.length ic] 69
abbrev zeroO : Obj := .cells #[.int .i64 0, .int .u64 0, .slice none 0 0, .slice none 0 0] 69
theorem drew_heap (w : World) : w.drew.heap = w.heap := rfl
theorem size_alloc (w : World) (o : Obj) : (w.alloc o).heap.size = w.heap.size + 1 := by simp
section
variable {w wr wr' : World} {H Hr Hs : Snap} {g : Nat}
theorem Grows.alloc (h : Grows w H wr Hr) (o : Obj) : Grows w H (wr.alloc o) Hr := ⟨h.below.alloc h.below.size o, h.le, h.holds.alloc o, h.fresh⟩
theorem Grows.below_ (h : Grows w H wr Hr) (hb : Below wr.heap.size wr wr') : Grows w H wr' Hr := h.trans (Grows.of_below h.holds hb)
theorem Grows.grownOwn (h : Grows w H wr Hr) (h0 : Hr g = .none) (hw : w.heap.size ≤ g) (hg : wr.grownBy wr' (some g)) : Grows w H wr' Hr :=
 ⟨h.below.grown hg h.below.size (by rintro k ⟨⟩; exact hw), h.le, h.holds.grown hg (by rintro k ⟨⟩; exact h0), h.fresh⟩
theorem Grows.drew (h : Grows w H wr Hr) : Grows w H wr.drew Hr := ⟨h.below.drew, h.le, h.holds.drew, h.fresh⟩
theorem Grows.grownRow {row : Option Nat} (h : Grows w H wr Hr) (h0 : ∀ g, row = some g → Hr g = .none) (hw : ∀ g, row = some g → w.heap.size ≤ g) (hg : wr.grownBy wr' row) : Grows w H wr' Hr :=
 ⟨h.below.grown hg h.below.size hw, h.le, h.holds.grown hg h0, h.fresh⟩
theorem Grows.newBlk (_h : Grows w H wr Hr) (t : TypeId) (cs : Array Value) : Blk (wr.alloc (.cells cs t)) wr.heap.size t cs := Blk.new _ _ _
theorem Grows.size (h : Grows w H wr Hr) : w.heap.size ≤ wr.heap.size := h.below.size
theorem Fresh.snapB {A : Option Addr} {n c : Nat} {l : List UInt8} (hH : Holds w H) (h : Fresh w l (.slice A n c) wr) : ∃ H', Grows w H wr H' ∧ IsBytes H' A c l ∧ n = l.length := by
 obtain ⟨H', hl, hh, hf, hn, hi⟩ := h.own.snap (hH.below h.2 (Nat.le_refl _)) (fun g hg => hH.none_of_ge (h.own.lt g (by cases A <;> simp_all [Value.ownBlock])).1)
 refine ⟨H', ⟨h.2, hl, hh, fun b o hb => ?_⟩, hi, hn⟩
 rcases hf b o hb with h1 | h1
 · exact .inl h1
 · exact .inr (h.own.lt b (by cases A <;> simp_all [Value.ownBlock])).1
end
end Go.Proofs.YtlebpackbfcfeaaDoor
namespace Go.Proofs.YtlebpackbfcfeaaDoor
open Go.RowKit

theorem IsItem.plain (H : Snap) (k : Int) (n : Nat) (hk : -9223372036854775808 ≤ k ∧ k ≤ 9223372036854775807) (hn : n < 18446744073709551616) : IsItem H none 0 none 0 (.mk k n [] []) := by
 rw [IsItem]
 exact ⟨⟨hk.1, hk.2, hn, Nat.le_refl _, by omega⟩, IsBytes.nil H, fun h => absurd h (by simp)⟩
theorem one4 (a b c d : Value) (ha : a.oneCell' = true) (hb : b.oneCell' = true) (hc : c.oneCell' = true) (hd : d.oneCell' = true) : (#[a, b, c, d] : Array Value).all (·.oneCell') = true := by simp [ha, hb, hc, hd]

end Go.Proofs.YtlebpackbfcfeaaDoor
