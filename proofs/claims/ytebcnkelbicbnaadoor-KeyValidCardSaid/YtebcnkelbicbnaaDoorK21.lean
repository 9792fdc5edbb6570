/- Walks: the references' List, Copy of headers. The first message, read a step at a time: plain mathematics. Rows of elements of k cells each (external data, numbers, byte strings): owned by a call, and as data that stays. What is authenticated: when it is valid, and that it is one to one: plain mathematics. Walks: the references' Build. Walks: the deck's floats and items. Walks: the program's Prefix. Walks: reading external data: the program. Walks: the laws' sanity check, and what all of them use. The world's memory as data: rows of external data. -/
import Derived.Test.YtebcnkelbicbnaaDoorK20
import Derived.Test.YtebcnkelbicbnaaDoorK15
import Derived.Test.YtebcnkelbicbnaaDoorK19
import Derived.Test.YtebcnkelbicbnaaDoorK02
import Derived.Test.YtebcnkelbicbnaaDoorK01
import Derived.Test.YtebcnkelbicbnaaDoorK00
import Derived.Test.YtebcnkelbicbnaaDoorK16
import Derived.Test.YtebcnkelbicbnaaDoorK09
import Derived.Test.YtebcnkelbicbnaaDoorK05
import Derived.Test.YtebcnkelbicbnaaDoorK10
import Derived.Test.YtebcnkelbicbnaaDoorK08
import Derived.Test.YtebcnkelbicbnaaDoorK06
import Derived.Test.YtebcnkelbicbnaaDoorK03
import Derived.Test.YtebcnkelbicbnaaDoorK17
import Derived.Test.YtebcnkelbicbnaaDoorK04
import Derived.Test.YtebcnkelbicbnaaDoorK14
import Derived.Deep.Matrix
set_option linter.unusedVariables false
set_option linter.unusedSimpArgs false
namespace Go.Proofs.YtebcnkelbicbnaaDoor
open Go.RowKit

/-- A slice of items. -/
structure IsRowI (H : Snap) (A : Option Addr) (c : Nat) (l : List Itm) : Prop where
  le : l.length ≤ c
  max : c ≤ 9223372036854775807
  elems : 0 < l.length → ∃ b off, A = some ⟨b, off, none⟩ ∧ IsElems H b off l
end Go.Proofs.YtebcnkelbicbnaaDoor
namespace Go.Proofs.YtebcnkelbicbnaaDoor
open Go.RowKit

/-- A byte string of 1 to 64 bytes, and what it takes. -/
def bytesE (b : List UInt8) : Except Nat (List UInt8 × Nat) :=
  match prefixP b with
  | .err e => .error e
  | .ok x k _ => if x.kind ≠ 2 ∨ x.bytes.length < 1 ∨ 64 < x.bytes.length then .error 4 else .ok (x.bytes, k)
def d4 (m : Int) (su : List Int) (gx cn : List UInt8) (b : List UInt8) : Except Nat First :=
  match decExt b with
  | .error e => .error e
  | .ok ext => .ok ⟨m, su, gx, cn, ext⟩
def d3 (m : Int) (su : List Int) (gx : List UInt8) (b : List UInt8) : Except Nat First :=
  match parseConn b with
  | .error e => .error e
  | .ok (c, k4) => d4 m su gx c (b.drop k4)
def d2 (m : Int) (su : List Int) (b : List UInt8) : Except Nat First :=
  match bytesE b with
  | .error e => .error e
  | .ok (gx, k3) => d3 m su gx (b.drop k3)
def d1 (m : Int) (b : List UInt8) : Except Nat First :=
  match prefixP b with
  | .err e => .error e
  | .ok y k2 _ => match suitesE y with
    | .error e => .error e
    | .ok l => d2 m l (b.drop k2)
end Go.Proofs.YtebcnkelbicbnaaDoor
namespace Go.Proofs.YtebcnkelbicbnaaDoor
open Go.RowKit

/-- How an element lies in k cells. -/
structure Lie (α : Type) where
  k : Nat
  pos : 0 < k
  E : Snap → α → List Value → Prop
  len : ∀ {H x c}, E H x c → c.length = k
  one : ∀ {H x c}, E H x c → ∀ u ∈ c, u.oneCell' = true
  mono : ∀ {H K x c}, H.le K → E H x c → E K x c
section
variable {α : Type} {L : Lie α}
/-- The cells cs are those of the elements l. -/
def RowC (L : Lie α) (H : Snap) : List Value → List α → Prop
  | cs, [] => cs = []
  | cs, x :: l => ∃ c rest, cs = c ++ rest ∧ L.E H x c ∧ RowC L H rest l
theorem RowC.nil (L : Lie α) (H : Snap) : RowC L H [] [] := by rw [RowC]
theorem RowC.len {H : Snap} : ∀ {l : List α} {cs : List Value}, RowC L H cs l → cs.length = l.length * L.k
  | [], cs, h => by rw [RowC] at h; subst h; simp
  | x :: l, cs, h => by
    obtain ⟨c, rest, rfl, hx, hr⟩ := h
    rw [List.length_append, L.len hx, hr.len, List.length_cons, Nat.succ_mul, Nat.add_comm]
theorem RowC.mono {H K : Snap} (hl : H.le K) : ∀ {l : List α} {cs : List Value}, RowC L H cs l → RowC L K cs l
  | [], cs, h => h
  | x :: l, cs, h => by
    obtain ⟨c, rest, e, hx, hr⟩ := h
    exact ⟨c, rest, e, L.mono hl hx, hr.mono hl⟩
theorem RowC.one {H : Snap} {x : α} {c : List Value} (h : L.E H x c) : RowC L H c [x] := ⟨c, [], by simp, h, RowC.nil L H⟩
theorem RowC.app {H : Snap} : ∀ {l m : List α} {cs ds : List Value}, RowC L H cs l → RowC L H ds m → RowC L H (cs ++ ds) (l ++ m)
  | [], m, cs, ds, h, hd => by rw [RowC] at h; subst h; exact hd
  | x :: l, m, cs, ds, h, hd => by
    obtain ⟨c, rest, rfl, hx, hr⟩ := h
    exact ⟨c, rest ++ ds, by simp, hx, hr.app hd⟩
theorem RowC.oneCell {H : Snap} : ∀ {l : List α} {cs : List Value}, RowC L H cs l → ∀ u ∈ cs, u.oneCell' = true
  | [], cs, h => by rw [RowC] at h; subst h; simp
  | x :: l, cs, h => by
    obtain ⟨c, rest, rfl, hx, hr⟩ := h
    intro u hu
    rw [List.mem_append] at hu
    rcases hu with hu | hu
    · exact L.one hx u hu
    · exact hr.oneCell u hu
/-- The cells of element j. -/
theorem RowC.get {H : Snap} : ∀ {l : List α} {cs : List Value}, RowC L H cs l → ∀ (j : Nat) (hj : j < l.length), ∃ c, L.E H l[j] c ∧ ∀ i v, c[i]? = some v → cs[j * L.k + i]? = some v
  | [], _, _, j, hj => by simp at hj
  | x :: l, cs, h, 0, _ => by
    obtain ⟨c, rest, rfl, hx, hr⟩ := h
    refine ⟨c, hx, fun i v hi => ?_⟩
    rw [Nat.zero_mul, Nat.zero_add, List.getElem?_append_left (List.getElem?_eq_some_iff.1 hi).1]
    exact hi
  | x :: l, cs, h, j + 1, hj => by
    obtain ⟨c, rest, rfl, hx, hr⟩ := h
    obtain ⟨c', hc', hi'⟩ := hr.get j (by simpa using hj)
    refine ⟨c', by simpa using hc', fun i v hi => ?_⟩
    have := hi' i v hi
    rw [List.getElem?_append_right (by rw [L.len hx, Nat.succ_mul]; omega), L.len hx, show (j + 1) * L.k + i - L.k = j * L.k + i by rw [Nat.succ_mul]; omega]
    exact this
/-- The slice at A (capacity c) has these elements, and they stay. -/
structure IsRow (L : Lie α) (H : Snap) (A : Option Addr) (c : Nat) (l : List α) : Prop where
  le : l.length ≤ c
  max : c ≤ 9223372036854775807
  row : 0 < l.length → ∃ b off cs, A = some ⟨b, off, none⟩ ∧ RowC L H cs l ∧ Cells H b off cs
theorem IsRow.at_ {H : Snap} {A : Option Addr} {c : Nat} {l : List α} (h : IsRow L H A c l) (h0 : 0 < l.length) : ∃ b off, A = some ⟨b, off, none⟩ ∧ ∀ j (hj : j < l.length), ∃ d, L.E H l[j] d ∧ ∀ i v, d[i]? = some v → H.cell? ⟨b, off + (j * L.k + i), none⟩ = some v := by
  obtain ⟨b, off, cs, e, h1, h2⟩ := h.row h0
  refine ⟨b, off, e, fun j hj => ?_⟩
  obtain ⟨d, hd, hi⟩ := h1.get j hj
  exact ⟨d, hd, fun i v hv => h2 _ _ (hi i v hv)⟩

/-- The value v owns a row of the elements l (elements of type t). -/
def OwnX (L : Lie α) (t : TypeId) (w : World) (base : Nat) (v : Value) (H : Snap) (l : List α) : Prop := ∃ cs, RowC L H cs l ∧ w.ownsRow base t L.k v l.length cs
variable {t : TypeId} {w w' : World} {base : Nat} {v : Value} {H : Snap} {l : List α}
theorem OwnX.lt (h : OwnX L t w base v H l) : ∀ k, v.ownBlock = some k → base ≤ k ∧ k < w.heap.size := by obtain ⟨_, _, h⟩ := h; exact World.ownsRow.lt h
theorem OwnX.kept {row : Option Nat} (h : OwnX L t w base v H l) (hg : w.grownBy w' row) (hne : v.ownBlock = none ∨ v.ownBlock ≠ row) : OwnX L t w' base v H l := by
  obtain ⟨cs, hc, h⟩ := h; exact ⟨cs, hc, World.ownsRow.kept h hg hne⟩
theorem OwnX.below (h : OwnX L t w base v H l) (hb : Below w.heap.size w w') : OwnX L t w' base v H l := by
  refine h.kept (grown_of_below hb none) ?_
  cases hv : v.ownBlock with
  | none => exact .inl rfl
  | some g => exact .inr (by simp)
theorem OwnX.alloc (h : OwnX L t w base v H l) (o : Obj) : OwnX L t (w.alloc o) base v H l := h.below (below_box w o)
theorem OwnX.mono {K : Snap} (h : OwnX L t w base v H l) (hl : H.le K) : OwnX L t w base v K l := by obtain ⟨cs, hc, h⟩ := h; exact ⟨cs, hc.mono hl, h⟩
theorem OwnX.form (h : OwnX L t w base v H l) : ∃ A c, v = .slice A l.length c ∧ l.length ≤ c ∧ c ≤ 9223372036854775807 := by
  obtain ⟨cs, hc, h⟩ := h
  rcases h.2 with ⟨rfl, hz⟩ | ⟨g, cap, cur, rfl, _, _, hn, hm, _⟩
  · exact ⟨none, 0, by rw [hz], by omega, by omega⟩
  · exact ⟨_, cap, rfl, hn, by simpa [maxLen] using hm⟩
/-- The row as data that does not change any more. -/
theorem OwnX.snap {A : Option Addr} {m c : Nat} (h : OwnX L t w base (.slice A m c) H l) (hw : Holds w H) (hn : ∀ g, A.map (·.block) = some g → H g = none) :
    ∃ H', H.le H' ∧ Holds w H' ∧ (∀ b o, H' b = some o → H b = some o ∨ A.map (·.block) = some b) ∧ m = l.length ∧ IsRow L H' A c l := by
  obtain ⟨cs, hcs, h⟩ := h
  rcases h.2 with ⟨hv, hz⟩ | ⟨g, cap, cur, hv, _, hg, hc, hm, hcz, ht⟩
  · cases hv
    exact ⟨H, Snap.le.refl _, hw, fun _ _ h => .inl h, hz.symm, ⟨by omega, by omega, by omega⟩⟩
  · cases hv
    have hg0 : H g = none := hn g rfl
    refine ⟨H.with g (.cells cur t), Snap.le_with hg0, hw.with hg, fun b o hb => ?_, rfl, hc, by simpa [maxLen] using hm, fun _ => ⟨g, 0, cs, rfl, hcs.mono (Snap.le_with hg0), fun j v hj => ?_⟩⟩
    · unfold Snap.with at hb
      split at hb
      · subst b; exact .inr rfl
      · exact .inl hb
    · rw [← ht, List.getElem?_take] at hj
      split at hj
      · simp [Snap.cell?, Snap.with]
        simpa using hj
      · cases hj
end
end Go.Proofs.YtebcnkelbicbnaaDoor
namespace Go.Proofs.YtebcnkelbicbnaaDoor
open Go.RowKit

theorem encB_len (k : Int) (n : Nat) (bs : List UInt8) (l : List Itm) (h8 : k ≠ 8) (h7 : k ≠ 7) : (encB (.mk k n bs l)).length ≤ 9 + bs.length + (encL l).length := by
  rw [encB_eq, if_neg (by simpa [Itm.kind] using h8), if_neg (by simp [Itm.kind, h7])]
  have := (headB_le k.toNat (numP (.mk k n bs l))).2
  simp only [Itm.kind, Itm.bytes, Itm.items, List.length_append]
  omega
theorem good_str (k : Int) (hk : k = 2 ∨ k = 3) (bs : List UInt8) (lv : Nat) (hv : k = 3 → Lib.validD bs = true) : Good (.mk k 0 bs []) lv := by
  refine Good.of ?_ (by simp only [Itm.items]; rw [GoodL]; trivial) (fun h => by simp only [Itm.kind] at h; omega)
  rw [nodeOk, if_pos (by rw [isPlain_iff]; simp only [Itm.kind]; omega)]
  rcases hk with rfl | rfl
  · simp [okPlain, Itm.kind, Itm.n, Itm.items]
  · simp [okPlain, Itm.kind, Itm.n, Itm.items, Itm.bytes, hv rfl]
end Go.Proofs.YtebcnkelbicbnaaDoor
namespace Go.Proofs.YtebcnkelbicbnaaDoor
open Go.RowKit

section
variable {w w' : World} {base : Nat} {H : Snap} {l : List Itm}
theorem OwnI.parts {A : Option Addr} {m c : Nat} (h : OwnI w base (.slice A m c) H l) (k : Nat) : ∃ cs1 cs2, ItemsC H cs1 (l.take k) ∧ ItemsC H cs2 (l.drop k) ∧ Src w A cs1 ∧ (k < l.length → ∃ b off, A = some ⟨b, off, none⟩ ∧ Src w (some ⟨b, off + k * 4, none⟩) cs2) := by
  obtain ⟨cs, hc, ho⟩ := h
  have hs := Src.of_own ho
  obtain ⟨h1, h2⟩ := hc.split k
  refine ⟨_, _, h1, h2, fun hne => ?_, fun hk => ?_⟩
  · obtain ⟨b, off, e, hx⟩ := hs (by rintro rfl; simp at hne)
    exact ⟨b, off, e, fun j v hj => hx j v (by rw [List.getElem?_take] at hj; split at hj; exact hj; cases hj)⟩
  · obtain ⟨b, off, e, hx⟩ := hs (by rintro rfl; have := hc.len; simp at this; omega)
    refine ⟨b, off, e, fun _ => ⟨b, off + k * 4, rfl, fun j v hj => ?_⟩⟩
    rw [List.getElem?_drop] at hj
    rw [Nat.add_assoc]
    exact hx _ v hj
theorem OwnI.cells {A : Option Addr} {m c : Nat} (h : OwnI w base (.slice A m c) H l) (k : Nat) (hk : k < l.length) : ∃ b off, A = some ⟨b, off, none⟩ ∧ ∃ ba bc ia ic, w.cell? ⟨b, off + k * 4, none⟩ = some (.int .i64 l[k].kind) ∧ w.cell? ⟨b, off + k * 4 + 1, none⟩ = some (.int .u64 l[k].n) ∧
    w.cell? ⟨b, off + k * 4 + 2, none⟩ = some (.slice ba l[k].bytes.length bc) ∧ w.cell? ⟨b, off + k * 4 + 3, none⟩ = some (.slice ia l[k].items.length ic) ∧ IsItem H ba bc ia ic l[k] := by
  obtain ⟨cs, hc, ho⟩ := h
  obtain ⟨b, off, e, hx⟩ := Src.of_own ho (by rintro rfl; have := hc.len; simp at this; omega)
  obtain ⟨ba, bc, ia, ic, h0, h1, h2, h3, hi⟩ := hc.get k hk
  exact ⟨b, off, e, ba, bc, ia, ic, hx _ _ h0, hx _ _ h1, hx _ _ h2, hx _ _ h3, hi⟩
end
theorem cell_below {w w' : World} {a : Addr} {v : Value} (h : w.cell? a = some v) (hb : Below w.heap.size w w') : w'.cell? a = some v := (hb.cell (World.block_lt_of_cell? w _ h)).trans h
theorem cell_drew {w : World} {a : Addr} {v : Value} (h : w.cell? a = some v) : w.drew.cell? a = some v := h
theorem OwnI.drew {w : World} {base : Nat} {v : Value} {H : Snap} {l : List Itm} (h : OwnI w base v H l) : OwnI w.drew base v H l := h
theorem own_of {A : Option Addr} {m c q : Nat} (h : A.map (·.block) = some q) : (Value.slice A m c).ownBlock = some q := by cases A <;> simp_all [Value.ownBlock]
theorem Src.slicek {w : World} {H : Snap} {A : Option Addr} {cs : List Value} {L : List Itm} {k j vc : Nat} (h : k < L.length → ∃ b off, A = some ⟨b, off, none⟩ ∧ Src w (some ⟨b, off + k * 4, none⟩) cs) (hc : ItemsC H cs (L.drop k)) (hL : L.length = j) (hvc : (j : Int) ≤ vc) :
    Src w (if vc = k then A else Option.map (fun x => x.add (k * 4)) A) cs := by
  by_cases hk : k < L.length
  · obtain ⟨b, off, rfl, hs⟩ := h hk
    rw [if_neg (by omega), Option.map_some, addr_add]
    exact hs
  · rw [List.drop_eq_nil_of_le (by omega), ItemsC] at hc
    subst hc
    exact Src.nil _ _
theorem below_src {B : Nat} {w wr : World} (_h : Below B w wr) (t : TypeId) (cs : Array Value) : Src (wr.alloc (.cells cs t)) (some ⟨wr.heap.size, 0, none⟩) cs.toList := Src.lit _ _ _
theorem encL_put (L : List Itm) (k : Nat) (y z : Itm) : (encL (L.take k ++ [y, z] ++ L.drop k)).length = (encL L).length + (encB y).length + (encB z).length := by
  have h := congrArg List.length (encL_append (L.take k) (L.drop k))
  rw [List.take_append_drop] at h
  rw [encL_append, encL_append]
  simp only [encL, List.length_append, List.append_nil] at h ⊢
  omega

end Go.Proofs.YtebcnkelbicbnaaDoor
namespace Go.Proofs.YtebcnkelbicbnaaDoor
open Go.RowKit

theorem modest_plain (k : Int) (n : Nat) (l : List UInt8) (h : l.length ≤ 1099511627776) : Modest (.mk k n l []) := by rw [Modest, ModestL]; exact ⟨h, by simp, trivial⟩
end Go.Proofs.YtebcnkelbicbnaaDoor
namespace Go.Proofs.YtebcnkelbicbnaaDoor
open Go.RowKit

theorem Grows.trans_but {w w' w'' : World} {H H' H'' : Snap} {g : Nat} (h : Grows w H w' H') (k : GrowsBut w' H' w'' H'' g) (hg : w.heap.size ≤ g) : Grows w H w'' H'' := by
  refine ⟨below_of_grown h.below k.grown (by rintro q ⟨⟩; exact hg), h.le.trans k.le, k.holds, fun x o hx => ?_⟩
  rcases k.fresh x o hx with hx | hx
  · exact h.fresh x o hx
  · exact .inr (Nat.le_trans h.below.size hx)
end Go.Proofs.YtebcnkelbicbnaaDoor
namespace Go.Proofs.YtebcnkelbicbnaaDoor
open Go.RowKit

theorem Grows.snap {w w' : World} {H H' H'' : Snap} {A : Option Addr} (h : Grows w H w' H') (hl : H'.le H'') (hh : Holds w' H'') (hf : ∀ b o, H'' b = some o → H' b = some o ∨ A.map (·.block) = some b)
    (hA : ∀ q, A.map (·.block) = some q → w.heap.size ≤ q) : Grows w H w' H'' :=
  ⟨h.below, h.le.trans hl, hh, fun b o hb => by
    rcases hf b o hb with h1 | h1
    · exact h.fresh b o h1
    · exact .inr (hA _ h1)⟩
end Go.Proofs.YtebcnkelbicbnaaDoor
namespace Go.Proofs.YtebcnkelbicbnaaDoor
open Go.RowKit

theorem OwnX.lit {α : Type} {L : Lie α} {H : Snap} {cs : List Value} {l : List α} (hc : RowC L H cs l) (t : TypeId) (w : World) (base : Nat) (hb : base ≤ w.heap.size) (hm : l.length ≤ 4096) :
    OwnX L t (w.alloc (.cells cs.toArray t)) base (.slice (some ⟨w.heap.size, 0, none⟩) l.length l.length) H l :=
  ⟨cs, hc, hc.len, .inr ⟨w.heap.size, l.length, cs.toArray, rfl, hb, heap_alloc_new w _, Nat.le_refl _, by simp only [maxLen]; omega, by simp [hc.len], by rw [← hc.len]; simp⟩⟩
theorem lit_row {α : Type} {L : Lie α} {w wr : World} {H Hr : Snap} {cs : List Value} {l : List α} (hG : Grows w H wr Hr) (hc : RowC L Hr cs l) (t : TypeId) (hm : l.length ≤ 4096) :
    ∃ H', Grows w H (wr.alloc (.cells cs.toArray t)) H' ∧ Hr.le H' ∧ IsRow L H' (some ⟨wr.heap.size, 0, none⟩) l.length l := by
  have hO := OwnX.lit hc t wr wr.heap.size (Nat.le_refl _) hm
  have hG' := hG.alloc (.cells cs.toArray t)
  obtain ⟨H', hl, hh, hf, _, hr⟩ := hO.snap hG'.holds (fun q hq => by cases hq; exact hG.holds.none_of_ge (Nat.le_refl _))
  exact ⟨H', hG'.snap hl hh hf (fun q hq => by cases hq; exact hG.size), hl, hr⟩
theorem lit_bytes {w wr : World} {H Hr : Snap} (hG : Grows w H wr Hr) (l : List UInt8) (cs : Array Value) (k : Nat) (hk : k = l.length) (hm : l.length ≤ 4096) (hc : cs.toList = l.map byteV) :
    ∃ H', Grows w H (wr.alloc (.cells cs 5)) H' ∧ Hr.le H' ∧ IsBytes H' (some ⟨wr.heap.size, 0, none⟩) k l := by
  obtain ⟨H', hG', hb, _⟩ := Fresh.snapB hG.holds (Fresh.lit wr l cs k hk hm hc)
  exact ⟨H', hG.trans hG', hG'.le, hb⟩
theorem made_zeros2 (n : Nat) : (madeCells (Value.int .u8 0).cells (n * 1)).toList = (List.replicate n (0 : UInt8)).map byteV := by
  apply List.ext_getElem?
  intro j
  simp [madeCells, Value.cells, List.getElem?_replicate]
  by_cases h : j < n
  · simp [h, byteV, Nat.mod_one]
  · simp [h]
end Go.Proofs.YtebcnkelbicbnaaDoor
namespace Go.Proofs.YtebcnkelbicbnaaDoor
open Go.RowKit Go.ChangeShapes Go.WideShapes

instance : Inhabited Ext := ⟨⟨0, false, []⟩⟩
section
variable {H : Type} {enc : TypeId × Value → H} {W : World}
theorem bytes_cell' {fuel : Nat} {c : Value} {x : DataW H × List MemPlace} (h : DataW.trod enc Tryd.prog W 0 (fun _ => true) true fuel 22 [c] = some x) :
    ∃ (A : Option Addr) (k : Nat) (l : List UInt8), c = .slice A l.length k ∧ IsBytes (heapS W) A k l := by
  rcases open_ints Tryd.underlying22 Tryd.underlying5 (by kernel_rfl) h with ⟨hcs, hx⟩ | ⟨a, len, cap, zs, hcs, _, hl, hm, hz, hx, hcell, hwz⟩
  · simp at hcs
    exact ⟨none, 0, [], hcs, IsBytes.nil _⟩
  · simp at hcs
    have h1 := bytes_heap hl hm (by simp at hz; omega) hcell hwz
    exact ⟨some a, cap, _, by rw [h1.2]; exact hcs, h1.1⟩
end
end Go.Proofs.YtebcnkelbicbnaaDoor
