/- squeezed. Rows of items that a call owns bes -/
import Derived.Test.YtmacemcajlgddaaGreatDoorK02
import Derived.Test.YtmacemcajlgddaaGreatDoorK13
import Derived.Test.YtmacemcajlgddaaGreatDoorK04
set_option linter.unusedVariables false
set_option linter.unusedSimpArgs false
set_option maxRecDepth 100000
namespace Go.Proofs.YtmacemcajlgddaaGreatDoor
open Go.RowKit
theorem OwnI.lit2 {w : World} {H : Snap} {l : List Itm} {cs : List Value} (h : ItemsC H cs l) (base : Nat) (hb : base ≤ w.heap.size) (hm : l.length ≤ 4096) :
  OwnI (w.alloc (.cells cs.toArray 54)) base (.slice (some ⟨w.heap.size, 0, none⟩) l.length l.length) H l := by
 refine ⟨cs, h, h.len, .inr ⟨w.heap.size, l.length, cs.toArray, rfl, hb, heap_alloc_new w _, Nat.le_refl _, by simp only [maxLen]; omega, ?_, ?_⟩⟩
 ·simpa using h.len
 ·rw [← h.len]; simp
theorem putC_mid (cs : Array Value) (a b c d : List Value) (h : cs.toList.take (a.length + b.length + c.length) = a ++ b ++ c) (hd : d.length = b.length) :
  (putC cs a.length d).toList.take (a.length + d.length + c.length) = a ++ d ++ c := by
 have hz : a.length + b.length + c.length ≤ cs.size := by
  have h1 := congrArg List.length h
  simp only [List.length_take, List.length_append, Array.length_toList] at h1
  omega
 apply List.ext_getElem?
 intro j
 have hj : (cs.toList.take (a.length + b.length + c.length))[j]? = (a ++ b ++ c)[j]? := by rw [h]
 simp only [List.getElem?_take, List.getElem?_append, Array.getElem?_toList, putC_get, List.length_append] at hj ⊢
 by_cases h1 : j < a.length
 ·rw [if_pos (by omega), if_neg (by omega), if_pos (by omega), if_pos h1];rw [if_pos (by omega), if_pos (by omega), if_pos h1] at hj
  exact hj
 ·by_cases h2 : j < a.length + d.length
  ·rw [if_pos (by omega), if_pos (by omega), if_pos h2, if_neg h1]
  ·by_cases h3 : j < a.length + d.length + c.length
   ·rw [if_pos h3, if_neg (by omega), if_neg h2];rw [if_pos (by omega), if_neg (by omega)] at hj;rw [hj, hd]
   ·rw [if_neg h3, if_neg h2];symm
    rw [List.getElem?_eq_none_iff]
    omega
theorem OwnI.put {w : World} {base : Nat} {A : Option Addr} {m c : Nat} {H : Snap} {l1 l2 : List Itm} {z : Itm} (h : OwnI w base (.slice A m c) H (l1 ++ z :: l2)) :
  ∃ g cur, A = some ⟨g, 0, none⟩ ∧ base ≤ g ∧ Blk w g 54 cur ∧ l1.length * 4 + 4 ≤ cur.size ∧
   ∀ (w' : World) (cells : List Value) (y : Itm), ItemsC H cells [y] → Blk w' g 54 (putC cur (l1.length * 4) cells) → OwnI w' base (.slice A m c) H (l1 ++ y :: l2) := by
 obtain ⟨cs, hcs, h⟩ := h
 rcases h.2 with ⟨hv, hz⟩ | ⟨g, cap, cur, hv, hb, hg, hc, hm, hcz, ht⟩
 ·simp at hz
 ·cases hv
  have hs := hcs.split l1.length;rw [List.take_left, List.drop_left] at hs
  obtain ⟨ba, bc, ia, ic, rest, he, hi, hr⟩ : ∃ ba bc ia ic rest, cs.drop (l1.length * 4) = itemC z ba bc ia ic ++ rest ∧ IsItem H ba bc ia ic z ∧ ItemsC H rest l2 := by
   have h2 := hs.2;rw [ItemsC] at h2;obtain ⟨ba, bc, ia, ic, rest, h2⟩ := h2
   exact ⟨ba, bc, ia, ic, rest, h2.1, h2.2⟩
  have hlen := hs.1.len;have hrl := hr.len;have hcl := hcs.len;have e : cs = cs.take (l1.length * 4) ++ itemC z ba bc ia ic ++ rest := by rw [List.append_assoc, ← he, List.take_append_drop]
  have hsz : l1.length * 4 + 4 ≤ cur.size := by
   have hx : (l1 ++ z :: l2).length * 4 ≤ c * 4 := Nat.mul_le_mul_right _ hc
   simp only [List.length_append, List.length_cons] at hx
   omega
  refine ⟨g, cur, rfl, hb, hg, hsz, fun w' cells y hy hB => ⟨cs.take (l1.length * 4) ++ cells ++ rest, by
    have h3 := (hs.1.app hy).app hr
    simpa using h3, ?_, .inr ⟨g, c, _, by simp, hb, hB, by simpa using hc, hm, by rw [putC_size, hcz], ?_⟩⟩⟩
  ·have := hy.len
   simp only [List.length_append, List.length_cons, List.length_nil] at this hlen hrl hcl ⊢
   omega
  ·have hcell := hy.len
   have hk := putC_mid cur (cs.take (l1.length * 4)) (itemC z ba bc ia ic) rest cells (by
    rw [← e]
    have e4 : (cs.take (l1.length * 4)).length + (itemC z ba bc ia ic).length + rest.length = (l1 ++ z :: l2).length * 4 := by
     rw [hlen, hrl]
     simp [itemC]
     omega
    rw [e4]
    exact ht) (by rw [hcell]; simp [itemC])
   rw [hlen] at hk
   have e5 : (l1 ++ y :: l2).length * 4 = l1.length * 4 + cells.length + rest.length := by
    rw [hcell, hrl]
    simp
    omega
   rw [e5]
   exact hk
structure RS (W0 : World) (H : Snap) (kc : Array Value) (v : Value) (L : List Itm) (w : World) (Hr : Snap) : Prop where
 grows : Grows W0 H w Hr
 hK : Hr W0.heap.size = none
 key : Blk w W0.heap.size 24 kc
 own : OwnI w (W0.heap.size + 1) v Hr L
 apart : ∀ g, v.ownBlock = some g → Hr g = none
section
variable {W0 w w' : World} {H Hr Hs : Snap} {kc : Array Value} {v v' : Value} {L news : List Itm}
theorem RS.grow (h : RS W0 H kc v L w Hr) (k : Grows w Hr w' Hs) : RS W0 H kc v L w' Hs :=
 ⟨h.grows.trans k, k.none h.hK h.key.lt, h.key.below k.below, (h.own.below k.below).mono k.le, fun g hg => k.none (h.apart g hg) (h.own.lt g hg).2⟩
theorem RS.below (h : RS W0 H kc v L w Hr) (k : Below w.heap.size w w') : RS W0 H kc v L w' Hr := h.grow (Grows.of_below h.grows.holds k)
theorem RS.alloc (h : RS W0 H kc v L w Hr) (o : Obj) : RS W0 H kc v L (w.alloc o) Hr := h.below (below_box w o)
theorem RS.drew (h : RS W0 H kc v L w Hr) : RS W0 H kc v L w.drew Hr := h.below (Below.refl _ _).drew
theorem RS.base (h : RS W0 H kc v L w Hr) : W0.heap.size + 1 ≤ w.heap.size := by have := h.key.lt; omega
theorem RS.litZ (h : RS W0 H kc v L w Hr) (cs : Array Value) (e : TypeId) : Src (w.alloc (.cells cs e)) (some ⟨w.heap.size, 0, none⟩) cs.toList := Src.lit w cs e
theorem RS.app (h : RS W0 H kc v L w Hr) (hO : OwnI w' (W0.heap.size + 1) v' Hr (L ++ news)) (hg : w.grownBy w' v.ownBlock) (ha : At0 w v.ownBlock v'.ownBlock) : RS W0 H kc v' (L ++ news) w' Hr :=
 ⟨h.grows.grownRow h.apart (fun g hg => by have := (h.own.lt g hg).1; omega) hg, h.hK, h.key.grown hg (fun e => by have := (h.own.lt _ e).1; omega), hO, fun g hv => by
  rcases ha with e | ⟨g', e, hs⟩
  ·exact h.apart g (by rw [← e, hv])
  ·rw [hv] at e;injection e with e
   subst e
   exact h.grows.hidden hs⟩
theorem RS.lit {cs : List Value} {l : List Itm} (hG : Grows W0 H w Hr) (hK : Hr W0.heap.size = none) (hk : Blk w W0.heap.size 24 kc) (hc : ItemsC Hr cs l) (hm : l.length ≤ 4096) :
  RS W0 H kc (.slice (some ⟨w.heap.size, 0, none⟩) l.length l.length) l (w.alloc (.cells cs.toArray 54)) Hr :=
 ⟨hG.alloc _, hK, hk.alloc _, OwnI.lit2 hc _ (by have := hk.lt; omega) hm, fun g hg => by
  simp [Value.ownBlock] at hg
  subst hg
  exact hG.hidden (Nat.le_refl _)⟩
end
structure PM (W0 : World) (H : Snap) (B : Nat) (kc : Array Value) (bv v : Value) (L : List Itm) (w : World) (Hr : Snap) : Prop where
 row : RS W0 H kc v L w Hr
 lt : W0.heap.size < B
 hB : Hr B = none
 box : Blk w B 52 #[bv]
 far : v.ownBlock ≠ some B
section
variable {W0 w w' : World} {H Hr Hs : Snap} {B : Nat} {kc : Array Value} {bv v v' : Value} {L L1 L2 news : List Itm} {z : Itm}
theorem PM.grow (h : PM W0 H B kc bv v L w Hr) (k : Grows w Hr w' Hs) : PM W0 H B kc bv v L w' Hs :=
 ⟨h.row.grow k, h.lt, k.none h.hB h.box.lt, h.box.below k.below, h.far⟩
theorem PM.below (h : PM W0 H B kc bv v L w Hr) (k : Below w.heap.size w w') : PM W0 H B kc bv v L w' Hr := h.grow (Grows.of_below h.row.grows.holds k)
theorem PM.alloc (h : PM W0 H B kc bv v L w Hr) (o : Obj) : PM W0 H B kc bv v L (w.alloc o) Hr := h.below (below_box w o)
theorem PM.drew (h : PM W0 H B kc bv v L w Hr) : PM W0 H B kc bv v L w.drew Hr := h.below (Below.refl _ _).drew
theorem PM.app (h : PM W0 H B kc bv v L w Hr) (hO : OwnI w' (W0.heap.size + 1) v' Hr (L ++ news)) (hg : w.grownBy w' v.ownBlock) (ha : At0 w v.ownBlock v'.ownBlock) : PM W0 H B kc bv v' (L ++ news) w' Hr :=
 ⟨h.row.app hO hg ha, h.lt, h.hB, h.box.grown hg h.far, by
  rcases ha with e | ⟨g', e, hs⟩
  ·rw [e]; exact h.far
  ·rw [e]
   intro e2
   injection e2 with e2
   have := h.box.lt
   omega⟩
theorem PM.put {A : Option Addr} {m c i : Nat} {Lf : List Itm} (h : PM W0 H B kc bv (.slice A m c) Lf w Hr) (e : Lf = L1 ++ z :: L2) (hi : i = L1.length) :
  ∃ g cur, A = some ⟨g, 0, none⟩ ∧ Blk w g 54 cur ∧ i * 4 + 4 ≤ cur.size ∧
   ∀ (w' : World) (cells : List Value) (y : Itm) (Lg : List Itm), ItemsC Hr cells [y] → Lg = L1 ++ y :: L2 → Blk w' g 54 (putC cur (i * 4) cells) → w.grownBy w' (some g) → PM W0 H B kc bv (.slice A m c) Lg w' Hr := by
 subst e;subst hi;obtain ⟨g, cur, rfl, hb, hB, hs, hput⟩ := h.row.own.put;have hg0 := h.row.apart g (by simp [Value.ownBlock]);have hgB : g ≠ B := fun e => h.far (by simp [Value.ownBlock, e])
 exact ⟨g, cur, rfl, hB, hs, fun w' cells y Lg hy e hB' hgr => by
  subst e
  exact ⟨⟨h.row.grows.grownOwn hg0 (by omega) hgr, h.row.hK, h.row.key.grown hgr (fun e => by injection e with e; omega), hput w' cells y hy hB', h.row.apart⟩, h.lt, h.hB, h.box.grown hgr (fun e => by injection e with e; exact hgB e), h.far⟩⟩
theorem PM.setBox (h : PM W0 H B kc bv v L w Hr) (hB : Blk w' B 52 #[v']) (hg : w.grownBy w' (some B)) : PM W0 H B kc v' v L w' Hr :=
 ⟨⟨h.row.grows.grownOwn h.hB (by have := h.lt; omega) hg, h.row.hK, h.row.key.grown hg (fun e => by injection e with e; have := h.lt; omega), h.row.own.kept hg (.inr h.far), h.row.apart⟩, h.lt, h.hB, hB, h.far⟩
theorem PM.litZ (h : PM W0 H B kc bv v L w Hr) (cs : Array Value) (e : TypeId) : Src (w.alloc (.cells cs e)) (some ⟨w.heap.size, 0, none⟩) cs.toList := Src.lit w cs e
theorem PM.start (h : RS W0 H kc v L w Hr) : PM W0 H w.heap.size kc bv v L (w.alloc (.cells #[bv] 52)) Hr :=
 ⟨h.alloc _, h.key.lt, h.grows.hidden (Nat.le_refl _), Blk.new _ _ _, fun e => by have := (h.own.lt _ e).2; omega⟩
theorem RS.litR (h : RS W0 H kc v L w Hr) {cs : List Value} {l : List Itm} (hc : ItemsC Hr cs l) (hm : l.length ≤ 4096) :
  RS W0 H kc (.slice (some ⟨w.heap.size, 0, none⟩) l.length l.length) l (w.alloc (.cells cs.toArray 54)) Hr := RS.lit h.grows h.hK h.key hc hm
theorem PM.lit (h : PM W0 H B kc bv v L w Hr) {cs : List Value} {l : List Itm} (hc : ItemsC Hr cs l) (hm : l.length ≤ 4096) :
  PM W0 H B kc bv (.slice (some ⟨w.heap.size, 0, none⟩) l.length l.length) l (w.alloc (.cells cs.toArray 54)) Hr :=
 ⟨h.row.litR hc hm, h.lt, h.hB, h.box.alloc _, fun e => by
  simp [Value.ownBlock] at e
  have := h.box.lt
  omega⟩
theorem RS.nil (hG : Grows W0 H w Hr) (hK : Hr W0.heap.size = none) (hk : Blk w W0.heap.size 24 kc) : RS W0 H kc (.slice none 0 0) [] w Hr :=
 ⟨hG, hK, hk, OwnI.nil _ _ _, fun g hg => by simp [Value.ownBlock] at hg⟩
def PSt (W0 : World) (H : Snap) (B : Nat) (kc : Array Value) (L : List Itm) (w : World) : Prop := ∃ Hr A m c, m = L.length ∧ PM W0 H B kc (.slice A m c) (.slice A m c) L w Hr
def RowOut (W0 : World) (H : Snap) (L : List Itm) (v : Value) (w : World) : Prop := ∃ A c H', v = .slice A L.length c ∧ Grows W0 H w H' ∧ L.length ≤ c ∧ c ≤ 9223372036854775807 ∧ (0 < L.length → ∃ b off, A = some ⟨b, off, none⟩ ∧ IsElems H' b off L)
theorem RS.out {A : Option Addr} {m c : Nat} (h : RS W0 H kc (.slice A m c) L w Hr) : RowOut W0 H L (.slice A m c) w := by
 obtain ⟨H', hl, hh, hf, rfl, hle1, hle2, hel⟩ := h.own.snap h.grows.holds (fun g hg => h.apart g (by cases A <;> simp_all [Value.ownBlock]))
 refine ⟨A, c, H', rfl, ⟨h.grows.below, h.grows.le.trans hl, hh, fun b o hb => ?_⟩, hle1, hle2, hel⟩
 rcases hf b o hb with h1 | h1
 ·exact h.grows.fresh b o h1
 ·exact .inr (by have := (h.own.lt b (by cases A <;> simp_all [Value.ownBlock])).1; omega)
theorem PSt.out (h : PSt W0 H B kc L w) : ∃ A m c, w.cell? ⟨B, 0, none⟩ = some (.slice A m c) ∧ RowOut W0 H L (.slice A m c) w := by
 obtain ⟨Hr, A, m, c, _, hP⟩ := h
 exact ⟨A, m, c, hP.box.cell 0 rfl, hP.row.out⟩
theorem PSt.key (h : PSt W0 H B kc L w) : Blk w W0.heap.size 24 kc := by
 obtain ⟨Hr, A, m, c, _, hP⟩ := h
 exact hP.row.key
end
theorem wp_store_at {w : World} {o : Oper} {a : Act} {K : Act → World → Prop} {Q : Exit → Act → World → Prop} (ty : TypeId) (x y : Operand) (ho : o.op = .store ty x y)
  (g off : Nat) (cells : Array Value) (hx : a.eval x = .pointer (some ⟨g, off, none⟩)) (hy : a.eval y = .agg cells)
  (t : TypeId) (old : Array Value) (hB : Blk w g t old) (hi : (Tryz.prog.info? ty).map (·.size) = some cells.size) (hold : off + cells.size ≤ old.size) (h1 : cells.all (·.oneCell') = true)
  (h : ∀ w', Blk w' g t (putC old off cells.toList) → w.grownBy w' (some g) → K (a.put o.dst undef) w') :
  o.wp Tryz.prog a w K Q := by
 refine wp_store_mid ty x y ho g off cells hx hy (fun j hj => ⟨?_, hB.frozen _⟩) hi h1 ?_
 ·obtain ⟨v, hv⟩ : ∃ v, old[off + j]? = some v := ⟨_, Array.getElem?_eq_getElem (by omega)⟩
  rw [hB.cell _ hv]; rfl
 ·exact h _ (hB.setCells _ _) (grown_setCells g _ _ (grown_refl w _))
abbrev zero2 : Array Value := #[.int .i64 0, .int .u64 0, .slice none 0 0, .slice none 0 0, .int .i64 0, .int .u64 0, .slice none 0 0, .slice none 0 0]
theorem zero2_items (H : Snap) : ItemsC H zero2.toList [zeroItm, zeroItm] := by
 have h := IsItem.plain H 0 0 (by omega) (by omega)
 exact (ItemsC.one h).app (ItemsC.one h)
end Go.Proofs.YtmacemcajlgddaaGreatDoor
