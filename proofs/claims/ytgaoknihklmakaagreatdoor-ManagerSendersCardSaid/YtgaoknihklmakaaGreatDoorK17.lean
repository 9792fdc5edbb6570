/- squeezed. Rows of a call's own in a box; pai -/
import Derived.Test.YtgaoknihklmakaaGreatDoorK16
import Derived.Test.YtgaoknihklmakaaGreatDoorK01
import Derived.Test.YtgaoknihklmakaaGreatDoorK08
import Derived.Test.YtgaoknihklmakaaGreatDoorK09
import Derived.Test.YtgaoknihklmakaaGreatDoorK07
import Derived.Test.YtgaoknihklmakaaGreatDoorK02
import Derived.Test.YtgaoknihklmakaaGreatDoorK05
import Derived.Test.YtgaoknihklmakaaGreatDoorK03
import Derived.Sort.LotA
import Derived.Shelf.GgSortFunc.RowK
import Derived.Shelf.SlSortFuncK.WholeK
import Derived.Shelf.GgSortFunc.Tiny
import Derived.Test.YtgaoknihklmakaaGreatDoorK14
import Derived.Test.YtgaoknihklmakaaGreatDoorK00
import Derived.Maps.Own
import Derived.MapKept
import Derived.Test.YtgaoknihklmakaaGreatDoorK06
import Derived.Test.YtgaoknihklmakaaGreatDoorK10
set_option linter.unusedVariables false
set_option linter.unusedSimpArgs false
set_option maxRecDepth 100000
set_option maxHeartbeats 25600000
namespace Go.Proofs.YtgaoknihklmakaaGreatDoor
open Go.RowKit
abbrev Pr := List UInt8 × Itm × Itm
def lieP : Lie Pr where
 k := 9
 pos := by omega
 E := fun H x c => ∃ A cc ba bc ia ic ba' bc' ia' ic', c = .slice A x.1.length cc :: (itemC x.2.1 ba bc ia ic ++ itemC x.2.2 ba' bc' ia' ic') ∧ IsBytes H A cc x.1 ∧ IsItem H ba bc ia ic x.2.1 ∧ IsItem H ba' bc' ia' ic' x.2.2
 len := by rintro _ _ _ ⟨_, _, _, _, _, _, _, _, _, _, rfl, _⟩; rfl
 one := by rintro _ _ _ ⟨_, _, _, _, _, _, _, _, _, _, rfl, _⟩; simp [itemC, Value.oneCell']
 mono := by rintro H K x c hl ⟨A, cc, ba, bc, ia, ic, ba', bc', ia', ic', e, h1, h2, h3⟩; exact ⟨A, cc, ba, bc, ia, ic, ba', bc', ia', ic', e, h1.mono hl, h2.mono hl, h3.mono hl⟩
def pk : List Itm → List Pr
 | a :: b :: l => (encB a, a, b) :: pk l
 | _ => []
theorem pk_len : ∀ l : List Itm, (pk l).length = l.length / 2
 | [] => rfl
 | [_] => by simp [pk]
 | a :: b :: l => by simp only [pk, List.length_cons, pk_len l]; omega
theorem pk_get : ∀ (l : List Itm) (i : Nat) (h : 2 * i + 1 < l.length), (pk l)[i]? = some (encB (l[2 * i]'(by omega)), l[2 * i]'(by omega), l[2 * i + 1])
 | [], i, h => by simp at h
 | [_], i, h => by simp at h
 | a :: b :: l, 0, h => by simp [pk]
 | a :: b :: l, i + 1, h => by
  have h' : 2 * i + 1 < l.length := by simp only [List.length_cons] at h; omega
  have e1 : ∀ h2, (a :: b :: l)[2 * (i + 1)]'h2 = l[2 * i] := fun h2 => by
   have : 2 * (i + 1) = 2 * i + 1 + 1 := by omega
   simp only [this, List.getElem_cons_succ]
  have e2 : ∀ h2, (a :: b :: l)[2 * (i + 1) + 1]'h2 = l[2 * i + 1] := fun h2 => by
   have : 2 * (i + 1) + 1 = (2 * i + 1) + 1 + 1 := by omega
   simp only [this, List.getElem_cons_succ]
  rw [e1, e2, pk, List.getElem?_cons_succ]
  exact pk_get l i h'
theorem pk_take (l : List Itm) (i : Nat) (h : 2 * i + 1 < l.length) : pk (l.take (2 * i + 2)) = pk (l.take (2 * i)) ++ [(encB (l[2 * i]'(by omega)), l[2 * i]'(by omega), l[2 * i + 1])] := by
 apply List.ext_getElem?
 intro j
 have h1 : (pk (l.take (2 * i))).length = i := by rw [pk_len, List.length_take]; omega
 have h2 : (pk (l.take (2 * i + 2))).length = i + 1 := by rw [pk_len, List.length_take]; omega
 rcases Nat.lt_trichotomy j i with hj | hj | hj
 ·rw [List.getElem?_append_left (by omega), pk_get _ j (by rw [List.length_take]; omega), pk_get _ j (by rw [List.length_take]; omega)]
  simp only [List.getElem_take]
 ·subst hj;rw [List.getElem?_append_right (by omega), h1, Nat.sub_self, pk_get _ j (by rw [List.length_take]; omega)]
  simp only [List.getElem_take]
  rfl
 ·rw [List.getElem?_eq_none (by omega), List.getElem?_eq_none (by simp; omega)]
structure XM {α : Type} (L : Lie α) (t bt : TypeId) (kt : TypeId) (W0 : World) (H : Snap) (B : Nat) (kc : Array Value) (bv v : Value) (l : List α) (w : World) (Hr : Snap) : Prop where
 grows : Grows W0 H w Hr
 hK : Hr W0.heap.size = none
 key : Blk w W0.heap.size kt kc
 own : OwnX L t w (W0.heap.size + 1) v Hr l
 apart : ∀ g, v.ownBlock = some g → Hr g = none
 lt : W0.heap.size < B
 hB : Hr B = none
 box : Blk w B bt #[bv]
 far : v.ownBlock ≠ some B
section
variable {α : Type} {L : Lie α} {t bt kt : TypeId} {W0 w w' : World} {H Hr Hs : Snap} {B : Nat} {kc : Array Value} {bv v v' : Value} {l news : List α}
theorem XM.start (hG : Grows W0 H w Hr) (hK : Hr W0.heap.size = none) (hk : Blk w W0.heap.size kt kc) (hO : OwnX L t w (W0.heap.size + 1) v Hr l) (ha : ∀ g, v.ownBlock = some g → Hr g = none) :
  XM L t bt kt W0 H w.heap.size kc bv v l (w.alloc (.cells #[bv] bt)) Hr :=
 ⟨hG.alloc _, hK, hk.alloc _, hO.alloc _, ha, hk.lt, hG.hidden (Nat.le_refl _), Blk.new _ _ _, fun e => by have := (hO.lt _ e).2; omega⟩
theorem XM.grow (h : XM L t bt kt W0 H B kc bv v l w Hr) (k : Grows w Hr w' Hs) : XM L t bt kt W0 H B kc bv v l w' Hs :=
 ⟨h.grows.trans k, k.none h.hK h.key.lt, h.key.below k.below, (h.own.below k.below).mono k.le, fun g hg => k.none (h.apart g hg) (h.own.lt g hg).2, h.lt, k.none h.hB h.box.lt, h.box.below k.below, h.far⟩
theorem XM.below (h : XM L t bt kt W0 H B kc bv v l w Hr) (k : Below w.heap.size w w') : XM L t bt kt W0 H B kc bv v l w' Hr := h.grow (Grows.of_below h.grows.holds k)
theorem XM.alloc (h : XM L t bt kt W0 H B kc bv v l w Hr) (o : Obj) : XM L t bt kt W0 H B kc bv v l (w.alloc o) Hr := h.below (below_box w o)
theorem XM.drew (h : XM L t bt kt W0 H B kc bv v l w Hr) : XM L t bt kt W0 H B kc bv v l w.drew Hr := h.below (Below.refl _ _).drew
theorem XM.base (h : XM L t bt kt W0 H B kc bv v l w Hr) : W0.heap.size + 1 ≤ w.heap.size := by have := h.key.lt; omega
theorem XM.litZ (h : XM L t bt kt W0 H B kc bv v l w Hr) (cs : Array Value) (e : TypeId) : Src (w.alloc (.cells cs e)) (some ⟨w.heap.size, 0, none⟩) cs.toList := Src.lit w cs e
theorem XM.app (h : XM L t bt kt W0 H B kc bv v l w Hr) (hO : OwnX L t w' (W0.heap.size + 1) v' Hr (l ++ news)) (hg : w.grownBy w' v.ownBlock) (ha : At0 w v.ownBlock v'.ownBlock) : XM L t bt kt W0 H B kc bv v' (l ++ news) w' Hr :=
 ⟨h.grows.grownRow h.apart (fun g hg => by have := (h.own.lt g hg).1; omega) hg, h.hK, h.key.grown hg (fun e => by have := (h.own.lt _ e).1; omega), hO, fun g hv => by
  rcases ha with e | ⟨g', e, hs⟩
  ·exact h.apart g (by rw [← e, hv])
  ·rw [hv] at e;injection e with e
   subst e
   exact h.grows.hidden hs, h.lt, h.hB, h.box.grown hg h.far, by
  rcases ha with e | ⟨g', e, hs⟩
  ·rw [e]; exact h.far
  ·rw [e]
   intro e2
   injection e2 with e2
   have := h.box.lt
   omega⟩
theorem XM.setBox (h : XM L t bt kt W0 H B kc bv v l w Hr) (hB : Blk w' B bt #[v']) (hg : w.grownBy w' (some B)) : XM L t bt kt W0 H B kc v' v l w' Hr :=
 ⟨h.grows.grownOwn h.hB (by have := h.lt; omega) hg, h.hK, h.key.grown hg (fun e => by injection e with e; have := h.lt; omega), h.own.kept hg (.inr h.far), h.apart, h.lt, h.hB, hB, h.far⟩
theorem XM.snap {A : Option Addr} {m c : Nat} (h : XM L t bt kt W0 H B kc bv (.slice A m c) l w Hr) :
  ∃ H', Grows W0 H w H' ∧ Hr.le H' ∧ m = l.length ∧ IsRow L H' A c l ∧ H' W0.heap.size = none ∧ H' B = none := by
 obtain ⟨H', hl, hh, hf, rfl, hr⟩ := h.own.snap h.grows.holds (fun g hg => h.apart g (by cases A <;> simp_all [Value.ownBlock]))
 have hno : ∀ b, Hr b = none → (∀ g, (Value.slice A l.length c).ownBlock = some g → g ≠ b) → H' b = none := fun b hb hne => by
  cases hx : H' b with
  | none => rfl
  | some o =>
   rcases hf b o hx with h1 | h1
   ·rw [hb] at h1; cases h1
   ·exact absurd rfl (hne b (by cases A <;> simp_all [Value.ownBlock]))
 refine ⟨H', ⟨h.grows.below, h.grows.le.trans hl, hh, fun b o hb => ?_⟩, hl, rfl, hr, hno _ h.hK (fun g hg e => by have := (h.own.lt g hg).1; omega), hno _ h.hB (fun g hg e => h.far (by rw [hg, e]))⟩
 rcases hf b o hb with h1 | h1
 ·exact h.grows.fresh b o h1
 ·exact .inr (by have := (h.own.lt b (by cases A <;> simp_all [Value.ownBlock])).1; omega)
end
theorem OwnX.append_wp2 {α : Type} {L : Lie α} {t : TypeId} {w : World} {base : Nat} {v : Value} {H : Snap} {l : List α} {o : Oper} {a : Act} {K : Act → World → Prop} {Q : Exit → Act → World → Prop} (s x : Operand) (T : TypeId)
  (ho : o.op = .call { callee := .builtin .append, args := #[s, x], argTypes := #[T, T] }) (hT : Tryz.prog.underlying T = some (.slice t)) {z : Value} {bytes : Nat} (hzs : z.cells.size = L.k) (hby : bytes ≤ 256)
  (hinfo : (Tryz.prog.info? t).map (fun i => (i.zero, i.size, i.bytes)) = some (some z, L.k, bytes))
  (hs : a.eval s = v) (hown : OwnX L t w base v H l) (A : Option Addr) (m c : Nat) (cs : List Value) (news : List α) (hx : a.eval x = .slice A m c) (hm : m = news.length)
  (hn : RowC L H cs news) (hr : Src w A cs) (hlen : l.length + news.length ≤ 1048576) (hbase : base ≤ w.heap.size)
  (h : ∀ v' w', OwnX L t w' base v' H (l ++ news) → w.grownBy w' v.ownBlock → At0 w v.ownBlock v'.ownBlock → K (a.put o.dst v') w') :
  Oper.wp Tryz.prog o a w K Q := by
 subst hm;obtain ⟨xs, hxs, hown⟩ := hown;obtain ⟨i0, hi0, hz0, hz1, hz2⟩ := info_parts hinfo
 refine wp_append_src s x _ ho base t i0 _ L.k bytes hT hi0 hz0 hz1 hz2 hzs L.pos v l.length xs hs hown A news.length c cs hx hn.len hr hn.oneCell
  (by simp only [maxLen]; omega) (by have := Nat.mul_le_mul hlen hby; omega) hbase fun v' w' h2 h3 h4 => h v' w' ?_ h3 ?_
 ·exact ⟨xs ++ cs, hxs.app hn, by simpa using h2⟩
 ·rcases h4 with h4 | h4
  ·exact .inl h4
  ·exact .inr ⟨_, h4, Nat.le_refl _⟩
abbrev zeroC : Array Value := #[.int .i64 0, .int .u64 0, .slice none 0 0, .slice none 0 0]
structure BM (W0 : World) (H : Snap) (B M : Nat) (bc : Array Value) (iv v : Value) (l : List Itm) (w : World) (Hr : Snap) : Prop where
 grows : Grows W0 H w Hr
 hK : Hr W0.heap.size = none
 hB : Hr B = none
 hM : Hr M = none
 ltB : W0.heap.size < B
 ltM : W0.heap.size < M
 ne : B ≠ M
 key : Blk w W0.heap.size 75 zeroC
 boxB : Blk w B 133 bc
 boxM : Blk w M 75 #[.int .i64 5, .int .u64 0, .slice none 0 0, iv]
 own : OwnI w (W0.heap.size + 1) v Hr l
 apart : ∀ g, v.ownBlock = some g → Hr g = none ∧ g ≠ B ∧ g ≠ M
section
variable {W0 w w' : World} {H Hr Hs : Snap} {B M : Nat} {bc : Array Value} {iv v v' : Value} {l news : List Itm}
theorem BM.grow (h : BM W0 H B M bc iv v l w Hr) (k : Grows w Hr w' Hs) : BM W0 H B M bc iv v l w' Hs :=
 ⟨h.grows.trans k, k.none h.hK h.key.lt, k.none h.hB h.boxB.lt, k.none h.hM h.boxM.lt, h.ltB, h.ltM, h.ne, h.key.below k.below, h.boxB.below k.below, h.boxM.below k.below, (h.own.below k.below).mono k.le,
  fun g hg => ⟨k.none (h.apart g hg).1 (h.own.lt g hg).2, (h.apart g hg).2⟩⟩
theorem BM.below (h : BM W0 H B M bc iv v l w Hr) (k : Below w.heap.size w w') : BM W0 H B M bc iv v l w' Hr := h.grow (Grows.of_below h.grows.holds k)
theorem BM.alloc (h : BM W0 H B M bc iv v l w Hr) (o : Obj) : BM W0 H B M bc iv v l (w.alloc o) Hr := h.below (below_box w o)
theorem BM.drew (h : BM W0 H B M bc iv v l w Hr) : BM W0 H B M bc iv v l w.drew Hr := h.below (Below.refl _ _).drew
theorem BM.litZ (h : BM W0 H B M bc iv v l w Hr) (cs : Array Value) (e : TypeId) : Src (w.alloc (.cells cs e)) (some ⟨w.heap.size, 0, none⟩) cs.toList := Src.lit w cs e
theorem BM.base (h : BM W0 H B M bc iv v l w Hr) : W0.heap.size + 1 ≤ w.heap.size := by have := h.key.lt; omega
theorem BM.app (h : BM W0 H B M bc iv v l w Hr) (hO : OwnI w' (W0.heap.size + 1) v' Hr (l ++ news)) (hg : w.grownBy w' v.ownBlock) (ha : At0 w v.ownBlock v'.ownBlock) : BM W0 H B M bc iv v' (l ++ news) w' Hr :=
 ⟨h.grows.grownRow (fun g hg => (h.apart g hg).1) (fun g hg => by have := (h.own.lt g hg).1; omega) hg, h.hK, h.hB, h.hM, h.ltB, h.ltM, h.ne, h.key.grown hg (fun e => by have := (h.own.lt _ e).1; omega),
  h.boxB.grown hg (fun e => (h.apart _ e).2.1 rfl), h.boxM.grown hg (fun e => (h.apart _ e).2.2 rfl), hO, fun g hv => by
  rcases ha with e | ⟨g', e, hs⟩
  ·exact h.apart g (by rw [← e, hv])
  ·rw [hv] at e;injection e with e
   subst e;have h1 := h.boxB.lt;have h2 := h.boxM.lt
   exact ⟨h.grows.hidden hs, by omega, by omega⟩⟩
theorem BM.setM (h : BM W0 H B M bc iv v l w Hr) {iv' : Value} (hB : Blk w' M 75 #[.int .i64 5, .int .u64 0, .slice none 0 0, iv']) (hg : w.grownBy w' (some M)) : BM W0 H B M bc iv' v l w' Hr :=
 ⟨h.grows.grownOwn h.hM (by have := h.ltM; omega) hg, h.hK, h.hB, h.hM, h.ltB, h.ltM, h.ne, h.key.grown hg (fun e => by injection e with e; have := h.ltM; omega), h.boxB.grown hg (fun e => by injection e with e; exact h.ne e.symm), hB,
  h.own.kept hg (by
   cases hv : v.ownBlock with
   | none => exact .inl rfl
   | some g => exact .inr (fun e => by injection e with e; exact (h.apart g hv).2.2 e)), h.apart⟩
theorem BM.item {A : Option Addr} {m c : Nat} (h : BM W0 H B M bc (.slice A m c) (.slice A m c) l w Hr) :
  ∃ H', Grows W0 H w H' ∧ m = l.length ∧ IsItem H' none 0 A c (.mk 5 0 [] l) ∧ H' W0.heap.size = none := by
 obtain ⟨H', hl, hh, hf, rfl, hle1, hle2, hel⟩ := h.own.snap h.grows.holds (fun g hg => (h.apart g (by cases A <;> simp_all [Value.ownBlock])).1)
 refine ⟨H', ⟨h.grows.below, h.grows.le.trans hl, hh, fun b o hb => ?_⟩, rfl, ?_, ?_⟩
 ·rcases hf b o hb with h1 | h1
  ·exact h.grows.fresh b o h1
  ·exact .inr (by have := (h.own.lt b (by cases A <;> simp_all [Value.ownBlock])).1; omega)
 ·rw [IsItem]
  exact ⟨⟨by omega, by omega, by omega, hle1, hle2⟩, IsBytes.nil _, hel⟩
 ·cases hx : H' W0.heap.size with
  | none => rfl
  | some o =>
   rcases hf _ o hx with h1 | h1
   ·rw [h.hK] at h1; cases h1
   ·have := (h.own.lt W0.heap.size (by cases A <;> simp_all [Value.ownBlock])).1; omega
end
abbrev zeroPair : Value := .agg #[.slice none 0 0, .int .i64 0, .int .u64 0, .slice none 0 0, .slice none 0 0, .int .i64 0, .int .u64 0, .slice none 0 0, .slice none 0 0]
theorem info_bpair : (Tryz.prog.info? 135).map (fun i => (i.zero, i.size, i.bytes)) = some (some zeroPair, 9, 152) := by kernel_rfl
theorem size_bpairs : (Tryz.prog.info? 133).map (·.size) = some 1 := by kernel_rfl
theorem m0b {w w' : World} {p : Addr} {v : Value} (hb : Below w.heap.size w w') (h : w.cell? p = some v) : w'.cell? p = some v := cell_below h hb
def BuiltOut (w : World) (H : Snap) (ps : List Itm) (e : Ending) (w' : World) : Prop := ∃ v, e = .returned (.tuple #[v, .int .i64 0]) ∧ Gives w H (.mk 5 0 [] ps) v w'
inductive Pairs {α β : Type} (R : α → β → Prop) : List α → List β → Prop
 | nil : Pairs R [] []
 | cons {a b l m} : R a b → Pairs R l m → Pairs R (a :: l) (b :: m)
theorem Pairs.perm {α β : Type} {R : α → β → Prop} {l l' : List α} (hp : l'.Perm l) : ∀ {m : List β}, Pairs R l m → ∃ m', Pairs R l' m' ∧ m'.Perm m := by
 induction hp with
 | nil => intro m h; cases h; exact ⟨[], .nil, .refl _⟩
 | cons x _ ih =>
  intro m h
  cases h with
  | cons hx hr =>
   obtain ⟨m', h1, h2⟩ := ih hr
   exact ⟨_ :: m', .cons hx h1, h2.cons _⟩
 | swap x y l =>
  intro m h
  cases h with
  | cons hx hr =>
   cases hr with
   | cons hy hr2 => exact ⟨_, .cons hy (.cons hx hr2), .swap _ _ _⟩
 | trans _ _ ih1 ih2 =>
  intro m h
  obtain ⟨m2, h1, h2⟩ := ih2 h;obtain ⟨m3, h3, h4⟩ := ih1 h1
  exact ⟨m3, h3, h4.trans h2⟩
theorem cmp_swo {α : Type} (k : α → List UInt8) : Go.Sort.SWO (fun a b => decide (Lib.compareBytes (k a) (k b) < 0)) where
 irrefl := fun x => by rw [cmp_refl]; rfl
 trans := fun x y z h1 h2 => by rw [decide_eq_true_eq] at *; exact cmp_trans _ _ _ h1 h2
 ntrans := fun x y z h1 h2 => by
  rw [decide_eq_false_iff_not] at *
  intro h3
  by_cases e : Lib.compareBytes (k x) (k y) = 0
  ·have := (cmp_zero _ _).1 e;rw [this] at h3
   exact h2 h3
  ·have h4 := cmp_not _ _ e h1
   exact h2 (cmp_trans _ _ _ h4 h3)
def Asc {α : Type} (k : α → List UInt8) (l : List α) : Prop := l.Pairwise fun a b => Lib.compareBytes (k a) (k b) < 0
theorem asc_unique {α : Type} (k : α → List UInt8) : ∀ {l m : List α}, Asc k l → Asc k m → l.Perm m → l = m
 | [], m, _, _, h => by rw [List.nil_perm.1 h]
 | x :: l, [], _, _, h => by have := h.length_eq; simp at this
 | x :: l, y :: m, hl, hm, h => by
  have hl' := List.pairwise_cons.1 hl;have hm' := List.pairwise_cons.1 hm
  have hxy : x = y := by
   have hx : x ∈ y :: m := h.subset (by simp);have hy : y ∈ x :: l := h.symm.subset (by simp)
   simp only [List.mem_cons] at hx hy
   rcases hx with hx | hx
   ·exact hx
   ·rcases hy with hy | hy
    ·exact hy.symm
    ·have h1 := hm'.1 x hx;have h2 := hl'.1 y hy;have h3 := cmp_trans _ _ _ h1 h2;rw [cmp_refl] at h3
     omega
  subst hxy;rw [asc_unique k hl'.2 hm'.2 (h.cons_inv)]
theorem asc_pk : ∀ {l : List Itm}, ascP l = true → Asc (·.1) (pk l) := by
 have main : ∀ (n : Nat) (l : List Itm), l.length ≤ n → ascP l = true → Asc (·.1) (pk l) ∧ ∀ a b r, l = a :: b :: r → ∀ p ∈ pk r, Lib.compareBytes (encB a) p.1 < 0 := by
  intro n
  induction n with
  | zero =>
   intro l hl _
   obtain rfl := List.eq_nil_of_length_eq_zero (by omega : l.length = 0)
   exact ⟨by simp only [pk]; exact List.Pairwise.nil, fun _ _ _ h => by cases h⟩
  | succ n ih =>
   intro l hl ha
   match l, hl, ha with
   | [], _, _ => exact ⟨by simp only [pk]; exact List.Pairwise.nil, fun _ _ _ h => by cases h⟩
   | [_], _, _ => exact ⟨by simp only [pk]; exact List.Pairwise.nil, fun _ _ _ h => by cases h⟩
   | [a, b], _, _ => exact ⟨by simp only [pk]; exact List.pairwise_singleton _ _, fun a' b' r h p hp => by cases h; simp [pk] at hp⟩
   | a :: b :: c :: r, hl, ha =>
    rw [ascP, Bool.and_eq_true, decide_eq_true_eq] at ha;have h1 := ih (c :: r) (by simp only [List.length_cons] at hl ⊢; omega) ha.2
    have hall : ∀ p ∈ pk (c :: r), Lib.compareBytes (encB a) p.1 < 0 := by
     intro p hp
     match r, h1, hp with
     | [], _, hp => simp [pk] at hp
     | d :: r, h1, hp =>
      rw [pk, List.mem_cons] at hp
      rcases hp with rfl | hp
      ·exact ha.1
      ·exact cmp_trans _ _ _ ha.1 (h1.2 c d r rfl p hp)
    refine ⟨?_, fun a' b' r' h p hp => by cases h; exact hall p hp⟩
    rw [pk]
    exact List.pairwise_cons.2 ⟨hall, h1.1⟩
 exact fun {l} h => (main _ l (Nat.le_refl _) h).1
def RP (H : Snap) (x : PE H) (p : Pr) : Prop := x.key = p.1 ∧ lieP.E H p (encPE x)
theorem encPE_len' {H : Snap} (x : PE H) : (encPE x).length = 9 := by simp [encPE, x.len]
theorem pe_pairs {H : Snap} : ∀ {l : List Pr} {cs : List Value}, RowC lieP H cs l → ∃ ds : List (PE H), Pairs (RP H) ds l ∧ cs = ds.flatMap encPE
 | [], cs, h => ⟨[], .nil, by rw [RowC] at h; exact h⟩
 | x :: l, cs, h => by
  obtain ⟨c, rest, rfl, ⟨A, cc, ba, bc, ia, ic, ba', bc', ia', ic', rfl, hk, hy, hz⟩, hr⟩ := h;obtain ⟨ds, h1, h2⟩ := pe_pairs hr
  refine ⟨⟨A, cc, x.1, itemC x.2.1 ba bc ia ic ++ itemC x.2.2 ba' bc' ia' ic', rfl, by simp [itemC, Value.oneCell'], hk⟩ :: ds, .cons ⟨rfl, ⟨A, cc, ba, bc, ia, ic, ba', bc', ia', ic', rfl, hk, hy, hz⟩⟩ h1, ?_⟩
  rw [List.flatMap_cons, ← h2];rfl
theorem pairs_row {H : Snap} : ∀ {ds : List (PE H)} {l : List Pr}, Pairs (RP H) ds l → RowC lieP H (ds.flatMap encPE) l
 | [], _, h => by cases h; rw [RowC]; rfl
 | x :: ds, _, h => by
  cases h with
  | cons hx hr => exact ⟨encPE x, ds.flatMap encPE, by rw [List.flatMap_cons], hx.2, pairs_row hr⟩
theorem pairs_len {α β : Type} {R : α → β → Prop} : ∀ {l : List α} {m : List β}, Pairs R l m → l.length = m.length
 | _, _, .nil => rfl
 | _, _, .cons _ h => by simp [pairs_len h]
theorem pairs_asc {H : Snap} : ∀ {ds : List (PE H)} {l : List Pr}, Pairs (RP H) ds l → Asc (·.key) ds → Asc (·.1) l := by
 have mem : ∀ {ds : List (PE H)} {l : List Pr}, Pairs (RP H) ds l → ∀ p ∈ l, ∃ x ∈ ds, x.key = p.1 := by
  intro ds l h
  induction h with
  | nil => intro p hp; cases hp
  | cons hx _ ih =>
   intro p hp
   rw [List.mem_cons] at hp
   rcases hp with rfl | hp
   ·exact ⟨_, by simp, hx.1⟩
   ·obtain ⟨x, h1, h2⟩ := ih p hp
    exact ⟨x, by simp [h1], h2⟩
 intro ds l h
 induction h with
 | nil => intro _; exact List.Pairwise.nil
 | cons hx hr ih =>
  intro ha
  have ha' := List.pairwise_cons.1 ha
  refine List.pairwise_cons.2 ⟨fun p hp => ?_, ih ha'.2⟩
  obtain ⟨y, h1, h2⟩ := mem hr p hp;have h3 := ha'.1 y h1
  simp only at h3 ⊢
  rw [← hx.1, ← h2]
  exact h3
theorem pairs_keys {H : Snap} {ds : List (PE H)} {l : List Pr} (h : Pairs (RP H) ds l) : l.Pairwise (fun a b => a.1 ≠ b.1) → ds.Pairwise (fun a b => a.key ≠ b.key) := by
 have mem : ∀ {ds : List (PE H)} {l : List Pr}, Pairs (RP H) ds l → ∀ x ∈ ds, ∃ p ∈ l, x.key = p.1 := by
  intro ds l h
  induction h with
  | nil => intro p hp; cases hp
  | cons hx _ ih =>
   intro p hp
   rw [List.mem_cons] at hp
   rcases hp with rfl | hp
   ·exact ⟨_, by simp, hx.1⟩
   ·obtain ⟨x, h1, h2⟩ := ih p hp
    exact ⟨x, by simp [h1], h2⟩
 induction h with
 | nil => intro _; exact List.Pairwise.nil
 | cons hx hr ih =>
  intro ha
  have ha' := List.pairwise_cons.1 ha
  refine List.pairwise_cons.2 ⟨fun y hy => ?_, ih ha'.2⟩
  obtain ⟨p, h1, h2⟩ := mem hr y hy;rw [hx.1, h2]
  exact ha'.1 p h1
theorem flat_get' {H : Snap} : ∀ (ds : List (PE H)) (t : Nat), t < ds.length * 9 → (ds.flatMap encPE)[t]? = some ((encPE ds[t / 9]!)[t % 9]!)
 | [], t, h => by simp at h
 | x :: ds, t, h => by
  rw [List.flatMap_cons];have hx := encPE_len' x
  by_cases h9 : t < 9
  ·rw [List.getElem?_append_left (by omega), Nat.div_eq_of_lt h9, Nat.mod_eq_of_lt h9]
   simp only [List.getElem!_cons_zero]
   rw [List.getElem!_eq_getElem?_getD, List.getElem?_eq_getElem (by omega)];rfl
  ·rw [List.getElem?_append_right (by omega), hx, flat_get' ds (t - 9) (by simp only [List.length_cons] at h; omega)];have e1 : t / 9 = (t - 9) / 9 + 1 := by omega
   have e2 : t % 9 = (t - 9) % 9 := by omega
   rw [e1, e2];rfl
theorem flat_len {H : Snap} : ∀ ds : List (PE H), (ds.flatMap encPE).length = ds.length * 9
 | [] => rfl
 | x :: ds => by rw [List.flatMap_cons, List.length_append, encPE_len', flat_len ds, List.length_cons]; omega
theorem flatK_list {H : Snap} (d : Array (PE H)) : (Go.Sort.flatK encPE 9 d).toList = d.toList.flatMap encPE := by
 apply List.ext_getElem?
 intro t
 by_cases ht : t < d.size * 9
 ·rw [flat_get' d.toList t (by simpa using ht)];have hs : t < (Go.Sort.flatK encPE 9 d).size := by rw [Go.Sort.size_flatK]; exact ht
  have h1 := Go.Sort.get_flatK encPE 9 d t ht;rw [getElem!_pos _ t hs] at h1;rw [Array.getElem?_toList, Array.getElem?_eq_getElem hs, h1];congr 2
  rw [getElem!_def]
  simp
  try rfl
 ·rw [List.getElem?_eq_none (by rw [Array.length_toList, Go.Sort.size_flatK]; omega), List.getElem?_eq_none (by rw [flat_len]; simp; omega)]
theorem own_pe {H : Snap} {t : TypeId} {w : World} {base m c : Nat} {A : Option Addr} {l : List Pr} (h : OwnX lieP t w base (.slice A m c) H l) (h0 : 0 < l.length) :
  ∃ (g : Nat) (d : Array (PE H)), A = some ⟨g, 0, none⟩ ∧ base ≤ g ∧ g < w.heap.size ∧ d.size = l.length ∧ Pairs (RP H) d.toList l ∧ Go.Sort.HoldsK encPE 9 w g 0 d := by
 obtain ⟨cs, hcs, h⟩ := h
 rcases h.2 with ⟨hv, hz⟩ | ⟨g, cap, cur, hv, hb, hg, hc, hm, hcz, ht⟩
 ·omega
 ·cases hv
  obtain ⟨ds, h1, h3⟩ := pe_pairs hcs;have hl := pairs_len h1
  refine ⟨g, ds.toArray, rfl, hb, (Array.getElem?_eq_some_iff.1 hg).1, by simpa using hl, by simpa using h1, fun j hj => ?_⟩
  have hj' : j < (Go.Sort.flatK encPE 9 ds.toArray).toList.length := by simpa using hj
  have e : (Go.Sort.flatK encPE 9 ds.toArray).toList[j]? = cs[j]? := by rw [flatK_list, h3]
  rw [List.getElem?_eq_getElem hj', ← ht, List.getElem?_take] at e
  split at e
  ·refine ⟨?_, by simp [World.frozen?, hg]⟩
   rw [Nat.zero_add, cell_of_row w g j cur t (0, 0) hg];rw [getElem!_pos _ j hj]
   simpa using e.symm
  ·cases e
theorem own_back {H : Snap} {t : TypeId} {w : World} {base m c g : Nat} {l q : List Pr} (h : OwnX lieP t w base (.slice (some ⟨g, 0, none⟩) m c) H l) {d' : Array (PE H)} (hd : d'.size = l.length) (hq : Pairs (RP H) d'.toList q) (k : Nat) (os : Array Obj) :
  OwnX lieP t (Go.Sort.grow (Go.Sort.putRowK encPE 9 (Sort.ahead w k) g 0 d') os) base (.slice (some ⟨g, 0, none⟩) m c) H q ∧ w.grownBy (Go.Sort.grow (Go.Sort.putRowK encPE 9 (Sort.ahead w k) g 0 d') os) (some g) := by
 obtain ⟨cs, hcs, h⟩ := h;have hql : q.length = l.length := by have := pairs_len hq; simp at this; omega
 rcases h.2 with ⟨hv, hz⟩ | ⟨g', cap, cur, hv, hb, hg, hc, hm, hcz, ht⟩
 ·cases hv
 ·cases hv
  have hgl : g < w.heap.size := (Array.getElem?_eq_some_iff.1 hg).1;have hF : (Go.Sort.flatK encPE 9 d').size = l.length * 9 := by rw [Go.Sort.size_flatK, hd]
  have hge : (Go.Sort.grow (Go.Sort.putRowK encPE 9 (Sort.ahead w k) g 0 d') os).heap[g]? = some (.cells (Go.Sort.putCells id 0 (Go.Sort.flatK encPE 9 d') cur) t (0, 0)) := by
   show (w.heap.modify g (Go.Sort.onCells (Go.Sort.putCells id 0 (Go.Sort.flatK encPE 9 d'))) ++ os)[g]? = _
   rw [Array.getElem?_append_left (by simpa using hgl), Array.getElem?_modify, if_pos rfl, hg];rfl
  refine ⟨⟨d'.toList.flatMap encPE, pairs_row hq, by rw [flat_len, hql]; simp [hd]; rfl, .inr ⟨g, c, _, by rw [hql], hb, hge, by rw [hql]; exact hc, hm, by simp [Go.Sort.putCells, hcz], ?_⟩⟩, ⟨rfl, rfl, rfl, by show w.heap.size ≤ (w.heap.modify g _ ++ os).size; simp, fun i hi hne => ?_⟩⟩
  ·apply List.ext_getElem?
   intro j
   have hcap : l.length * 9 ≤ cur.size := by rw [hcz]; exact Nat.mul_le_mul_right _ hc
   rw [← flatK_list, List.getElem?_take];show (if j < q.length * 9 then _ else _) = _
   rw [hql]
   split
   ·rename_i hj
    have hjc : j < cur.size := by omega
    rw [Array.getElem?_toList, Array.getElem?_toList]
    unfold Go.Sort.putCells
    rw [Array.getElem?_mapIdx, Array.getElem?_eq_getElem hjc, Array.getElem?_eq_getElem (by omega : j < (Go.Sort.flatK encPE 9 d').size)]
    simp only [Option.map_some]
    rw [if_pos (by omega), Nat.sub_zero, getElem!_pos _ j (by omega)];rfl
   ·rename_i hj
    rw [List.getElem?_eq_none (by rw [Array.length_toList]; omega)]
  ·show (w.heap.modify g _ ++ os)[i]? = _
   rw [Array.getElem?_append_left (by simpa using hi), Array.getElem?_modify, if_neg (fun e => hne (by rw [e]))]
theorem sort_ascN {α : Type} [Inhabited α] (k : α → List UInt8) (d d' : Array α) (hn : d.toList.Pairwise fun a b => k a ≠ k b) (hpi : Go.Sort.PermIn 0 d.size d d') (hs : Go.Sort.SortedIn (fun a b => decide (Lib.compareBytes (k a) (k b) < 0)) 0 d.size d') :
  d'.toList.Perm d.toList ∧ Asc k d'.toList := by
 obtain ⟨hsz, _, hp⟩ := hpi
 have hp' : d'.toList.Perm d.toList := by
  have e1 : (d'.extract 0 d.size) = d' := by rw [← hsz]; simp
  have e2 : (d.extract 0 d.size) = d := by simp
  rw [e1, e2] at hp
  exact hp
 refine ⟨hp', ?_⟩
 have hn' : d'.toList.Pairwise fun a b => k a ≠ k b := (hp'.pairwise_iff (fun h => Ne.symm h)).2 hn
 unfold Asc
 rw [List.pairwise_iff_getElem] at hn' ⊢
 intro i j hi hj hij
 have h1 := hn' i j hi hj hij;have h2 := hs i j (Nat.zero_le _) hij (by simp at hj; omega)
 simp only [decide_eq_false_iff_not] at h2
 rw [getElem!_pos d' j (by simpa using hj), getElem!_pos d' i (by simpa using hi)] at h2;have h3 : ¬ Lib.compareBytes (k d'[j]) (k d'[i]) = 0 := fun e => h1 (by simpa using ((cmp_zero _ _).1 e).symm)
 have h4 := cmp_not _ _ h3 h2
 simpa using h4
theorem sorted_isN {H : Snap} {d d' : Array (PE H)} {l q : List Pr} (hp : Pairs (RP H) d.toList l) (hq : q.Perm l) (ha : Asc (·.1) q) (hpi : Go.Sort.PermIn 0 d.size d d') (hs : Go.Sort.SortedIn ltPE 0 d.size d') :
  d'.size = d.size ∧ Pairs (RP H) d'.toList q := by
 have hn : l.Pairwise fun a b => a.1 ≠ b.1 := by
  refine (hq.pairwise_iff (fun h => Ne.symm h)).1 (ha.imp fun h e => ?_)
  simp only at h
  rw [e, cmp_refl] at h
  omega
 have e : (fun a b : PE H => decide (Lib.compareBytes a.key b.key < 0)) = ltPE := rfl;obtain ⟨h1, h2⟩ := sort_ascN (fun x : PE H => x.key) d d' (pairs_keys hp hn) hpi (by rw [e]; exact hs);obtain ⟨q', h3, h4⟩ := Pairs.perm h1 hp;have h5 := asc_unique (·.1) (pairs_asc h3 h2) ha (h4.trans hq.symm);subst h5
 exact ⟨by have := h1.length_eq; simpa using this, h3⟩
theorem swo_PE {H : Snap} : Go.Sort.SWO (ltPE (H := H)) := cmp_swo (fun x : PE H => x.key)
end Go.Proofs.YtgaoknihklmakaaGreatDoor
namespace Go.Proofs.YtgaoknihklmakaaGreatDoor
open Go.RowKit Go.Shelf Go.Lib
theorem sort_callN {H : Snap} (d : Array (PE H)) (h2 : 2 ≤ d.size) (h12 : d.size < 4611686018427387904) (blk off c Bs : Nat) (w : World)
  (hW : Holds w H) (hHb : H blk = none) (hH : Go.Sort.HoldsK encPE 9 w blk off d) (hblk : blk < w.heap.size) (hs : w.cell? ⟨Bs, 0, none⟩ = some (.slice (some ⟨blk, off, none⟩) d.size c)) (hBs : Bs ≠ blk) (hBl : Bs < w.heap.size) :
  Calls Tryz.prog 86 #[.iface 133 (.slice (some ⟨blk, off, none⟩) d.size c), .func (.func 87) #[] #[.pointer (some ⟨Bs, 0, none⟩)]] w fun e w' => e = .returned (.tuple #[]) ∧ ∃ (d' : Array (PE H)) (n : Nat) (os : Array Obj), Go.Sort.PermIn 0 d.size d d' ∧ Go.Sort.SortedIn ltPE 0 d.size d' ∧ w' = Go.Sort.grow (Go.Sort.putRowK encPE 9 (Sort.ahead w n) blk off d') os := by
 have hless : LessReadsK (α := PE H) Tryz.prog 87 #[.pointer (some ⟨Bs, 0, none⟩)] encPE 9 ltPE blk off d.size w := by
  intro m os dk hsz i j hi hj
  have hHm : Go.Sort.HoldsK encPE 9 (Sort.ahead w m) blk off d := Go.Sort.holdsK_ahead encPE 9 w m blk off d hH;have hHp := Go.Sort.holdsK_putRowK encPE 9 (Sort.ahead w m) blk off d dk hHm hsz;have hsz' : (Go.Sort.putRowK encPE 9 (Sort.ahead w m) blk off dk).heap.size = w.heap.size := Go.Sort.size_putRow id (Sort.ahead w m) blk off _;have hblk' : blk < (Go.Sort.putRowK encPE 9 (Sort.ahead w m) blk off dk).heap.size := by rw [hsz']; exact hblk
  have hHg := Go.Sort.holdsK_grow encPE 9 (Go.Sort.putRowK encPE 9 (Sort.ahead w m) blk off dk) os blk off dk hblk' hHp
  have hWm : Holds (Go.Sort.grow (Go.Sort.putRowK encPE 9 (Sort.ahead w m) blk off dk) os) H := fun b o hb => by
   have hbl := hW.lt hb;have hne : b ≠ blk := fun e => by rw [e, hHb] at hb; cases hb
   rw [Go.Sort.heap_grow_old _ _ (by rw [hsz']; exact hbl)]
   have hq : (w.heap.modify blk (Go.Sort.onCells (Go.Sort.putCells id off (Go.Sort.flatK encPE 9 dk))))[b]? = some o := by
    rw [Array.getElem?_modify, if_neg (Ne.symm hne)]
    exact hW b o hb
   exact hq
  refine (less_pairs blk off c Bs d.size _ hWm (fun t => dk[t]!) ?_ (fun t ht => ?_) i j hi hj)
  ·rw [Go.Sort.cell?_grow _ _ _ (by rw [hsz']; exact hBl), Go.Sort.cell?_putRowK_other encPE 9 _ _ _ _ _ hBs]
   exact hs
  ·exact (hHg.cell (i := t) (c := 0) (by omega) (by omega)).1
 have hS := Any.sort_Slice_cells_sorted (α := PE H) sortLays 133 135 pairTI pairEI (by kernel_rfl) (by kernel_rfl) (by kernel_rfl) (by kernel_rfl) 25 (fun _ => by kernel_rfl) encPE 9 encPE_len (by kernel_rfl) (fun _ => by kernel_rfl)
  (fun x v hv => by
   rw [encPE, List.mem_cons] at hv
   rcases hv with rfl | hv
   ·rfl
   ·exact x.one v hv) ltPE swo_PE 87 _
  (enters_of Tryz.func87 (by kernel_rfl) rfl) blk off c d h2 h12 119 (by rw [pairSw _ h2]; kernel_rfl) false
  (fun args W => run_callFunc_extern Tryz.func119 (by kernel_rfl) (by kernel_rfl) (by kernel_rfl) (e := Extern.ReflectliteSwapper.swap false) (by kernel_rfl) args W) w hless hH hblk
 change Calls Tryz.prog 86 _ _ _ at hS
 exact hS.mono fun e w' ⟨he, d', n, os, h1, h2, hw⟩ => ⟨he, d', n, os, h1, h2, hw⟩
theorem sort_pairsN {H : Snap} {w : World} {base m c : Nat} {A : Option Addr} {l q : List Pr} (hO : OwnX lieP 135 w base (.slice A m c) H l) (hm : m = l.length) (h2 : 2 ≤ l.length) (h12 : l.length < 4611686018427387904)
  (hq : q.Perm l) (ha : Asc (·.1) q) (hW : Holds w H) (hap : ∀ g, (Value.slice A m c).ownBlock = some g → H g = none) (Bs : Nat) (hs : w.cell? ⟨Bs, 0, none⟩ = some (.slice A m c)) (hBs : (Value.slice A m c).ownBlock ≠ some Bs) (hBl : Bs < w.heap.size) :
  Calls Tryz.prog 86 #[.iface 133 (.slice A m c), .func (.func 87) #[] #[.pointer (some ⟨Bs, 0, none⟩)]] w fun e w' => e = .returned (.tuple #[]) ∧ OwnX lieP 135 w' base (.slice A m c) H q ∧ w.grownBy w' (Value.slice A m c).ownBlock := by
 obtain ⟨g, d, rfl, hgb, hgl, hds, hp, hHK⟩ := own_pe hO (by omega);have hmd : m = d.size := by rw [hm, hds]
 have SC := sort_callN d (by omega) (by omega) g 0 c Bs w hW (hap g rfl) hHK hgl (by rw [← hmd]; exact hs) (fun e => hBs (by rw [e]; rfl)) hBl;rw [← hmd] at SC
 refine SC.mono fun e w' ⟨he, d', n, os, h1, h2, hw⟩ => ⟨he, ?_⟩
 rw [hmd] at h1 h2;obtain ⟨hsz, hps⟩ := sorted_isN hp hq ha h1 h2;rw [hw]
 exact own_back (w := w) hO (d' := d') (by rw [hsz, hds]) hps n os
theorem XM.perm {α : Type} {L : Lie α} {t bt kt : TypeId} {W0 w w' : World} {H Hr : Snap} {B : Nat} {kc : Array Value} {bv v : Value} {l l' : List α} (h : XM L t bt kt W0 H B kc bv v l w Hr) (hO : OwnX L t w' (W0.heap.size + 1) v Hr l') (hg : w.grownBy w' v.ownBlock) : XM L t bt kt W0 H B kc bv v l' w' Hr :=
 ⟨h.grows.grownRow h.apart (fun g hg => by have := (h.own.lt g hg).1; omega) hg, h.hK, h.key.grown hg (fun e => by have := (h.own.lt _ e).1; omega), hO, h.apart, h.lt, h.hB, h.box.grown hg h.far, h.far⟩
theorem pairSwT (n : Nat) (h : n ≤ 1) : Lib.swapperK n pairEI 25 = n + 1 := by
 rcases Nat.eq_zero_or_pos n with h0 | h0
 ·subst h0; simp [Lib.swapperK]
 ·obtain rfl : n = 1 := by omega
  simp [Lib.swapperK]
theorem sort_tinyN {H : Snap} (n : Nat) (hn : n ≤ 1) (p : Option Addr) (c Bs : Nat) {w : World} (hW : Holds w H) :
  Calls Tryz.prog 86 #[.iface 133 (.slice p n c), .func (.func 87) #[] #[.pointer (some ⟨Bs, 0, none⟩)]] w fun e w' => e = .returned (.tuple #[]) ∧ Below w.heap.size w w' := by
 have fin : ∀ (w' : World) os, w' = Go.Sort.grow w os → Below w.heap.size w w' := fun w' os hw => by
  rw [hw]
  exact ⟨rfl, rfl, rfl, by show w.heap.size ≤ (w.heap ++ os).size; rw [Array.size_append]; omega, fun _ hj => Go.Sort.heap_grow_old w os hj⟩
 rcases Nat.eq_zero_or_pos n with h0 | h0
 ·subst h0;have hS := Any.sort_Slice_tiny sortLays 133 135 pairTI pairEI (by kernel_rfl) (by kernel_rfl) (by kernel_rfl) (by kernel_rfl) 25 (fun _ => by kernel_rfl) p 0 c (by omega) 111 (by rw [pairSwT 0 (by omega)]; kernel_rfl) (.func 87) #[] #[.pointer (some ⟨Bs, 0, none⟩)] w;change Calls Tryz.prog 86 _ _ _ at hS
  exact hS.mono fun e w' ⟨he, os, hw⟩ => ⟨he, fin w' os hw⟩
 ·obtain rfl : n = 1 := by omega
  have hS := Any.sort_Slice_tiny sortLays 133 135 pairTI pairEI (by kernel_rfl) (by kernel_rfl) (by kernel_rfl) (by kernel_rfl) 25 (fun _ => by kernel_rfl) p 1 c (by omega) 112 (by rw [pairSwT 1 (by omega)]; kernel_rfl) (.func 87) #[] #[.pointer (some ⟨Bs, 0, none⟩)] w;change Calls Tryz.prog 86 _ _ _ at hS
  exact hS.mono fun e w' ⟨he, os, hw⟩ => ⟨he, fin w' os hw⟩
theorem perm_small {α : Type} {q l : List α} (h : q.Perm l) (hl : l.length ≤ 1) : q = l := by
 match l, hl, h with
 | [], _, h => exact h.eq_nil
 | [x], _, h => exact List.perm_singleton.1 h
theorem sort_pairsA {H : Snap} {w : World} {base m c : Nat} {A : Option Addr} {l q : List Pr} (hO : OwnX lieP 135 w base (.slice A m c) H l) (hm : m = l.length) (h12 : l.length < 4611686018427387904)
  (hq : q.Perm l) (ha : Asc (·.1) q) (hW : Holds w H) (hap : ∀ g, (Value.slice A m c).ownBlock = some g → H g = none) (Bs : Nat) (hs : w.cell? ⟨Bs, 0, none⟩ = some (.slice A m c)) (hBs : (Value.slice A m c).ownBlock ≠ some Bs) (hBl : Bs < w.heap.size) :
  Calls Tryz.prog 86 #[.iface 133 (.slice A m c), .func (.func 87) #[] #[.pointer (some ⟨Bs, 0, none⟩)]] w fun e w' => e = .returned (.tuple #[]) ∧ OwnX lieP 135 w' base (.slice A m c) H q ∧ w.grownBy w' (Value.slice A m c).ownBlock := by
 by_cases h2 : 2 ≤ l.length
 ·exact sort_pairsN hO hm h2 h12 hq ha hW hap Bs hs hBs hBl
 ·obtain rfl := perm_small hq (by omega)
  exact (sort_tinyN m (by omega) A c Bs hW).mono fun e w' ⟨he, hb⟩ => ⟨he, hO.below hb, grown_of_below hb _⟩
end Go.Proofs.YtgaoknihklmakaaGreatDoor
namespace Go.Proofs.YtgaoknihklmakaaGreatDoor
open Go.RowKit
theorem cbor_BuildN {H : Snap} (hTab : Tabs H) {A : Option Addr} {c : Nat} {ps : List Itm} (hr : IsRowI H A c ps) (heven : ps.length % 2 = 0) (h4 : 0 ≤ ps.length) (h24 : ps.length ≤ 1000) {qs : List Itm} (hql : qs.length = ps.length) (hperm : (pk qs).Perm (pk ps)) (hasc : ascP qs = true)
  (hval : ∀ x ∈ ps, validP x = true) (hwh : validP (.mk 5 0 [] qs) = true) (w : World) (hH : Holds w H) :
  Calls Tryz.prog 70 #[.slice A ps.length c] w (BuiltOut w H qs) := by
 have hT := Blk.new w 75 zeroC;have hb := below_box w zeroO;have hn0 : H w.heap.size = none := hH.none_of_ge (Nat.le_refl _);have b1 : ((ps.length : Int) % 2 == 1) = false := by rw [beq_eq_false_iff_ne]; omega
 have p1 : ((ps.length : Int) % 2 = 1) = False := eq_false (by omega);have HR := Hh hr;have HC := Hh (And.intro heven (And.intro h4 h24));have HA := Hh (And.intro hasc (And.intro hval hwh));have HQ := Hh (And.intro hql hperm);clear heven h4 h24 hasc hval hwh hr hql hperm;go_enter Tryz.func70, Tryz.ntmps70
 go_wp2_with fail
 go_loopw [18] (fun v18 wr => ∃ j : Nat, j ≤ ps.length ∧ v18 = .int .i64 j ∧ Below w.heap.size w wr ∧ Blk wr w.heap.size 75 zeroC) (fun v18 _ => ps.length - (intOf v18).toNat)
 case atStart => exact ⟨0, Nat.zero_le _, rfl, hb, hT⟩
 case round =>
  clear hb hT b1 p1;obtain ⟨j, hj, rfl, hbr, hTr⟩ := hrel
  by_cases hlt : j < ps.length
  ·have hHr := hH.below hbr (Nat.le_refl _);obtain ⟨ib, io, hia, hel⟩ := HR.out.elems (by omega);obtain ⟨y1, y2, y3, y4, q0, q1, q2, q3, hex⟩ := hel.get j hlt;subst hia;have p0 := hHr.cell q0;have p1' := hHr.cell q1;have p2 := hHr.cell q2;have p3 := hHr.cell q3;have hHa := hHr.alloc (itemO ps[j] y1 y2 y3 y4);have V := Hh (cbor_Valid hTab hex.arg _ hHa);rw [HA.out.2.1 _ (List.getElem_mem hlt)] at V;have hb2 := hbr.alloc hbr.size (itemO ps[j] y1 y2 y3 y4);have hT2 := hTr.alloc (itemO ps[j] y1 y2 y3 y4)
   generalize ps[j]'hlt = x at *
   clear q0 q1 q2 q3 hel hex hbr hTr hHr hHa;go_wp2_with fail
   refine V.out.mono ?_
   rintro e w3 ⟨rfl, hb3⟩
   have hT3 := hT2.below hb3;have hbz := hb2.trans (hb3.mono hb2.size);have hj63 : (j : Int) + 1 ≤ 9223372036854775807 := by have := HC.out.2.2; omega
   clear hT2 hb2 hb3;go_wp2_with fail
   go_roundw
   case rel => exact ⟨j + 1, by omega, by go_num, hbz, hT3⟩
   case measure => simp [intOf]; omega
  ·have hkl : j = ps.length := by omega
   subst hkl;clear hlt hj;obtain ⟨n, hn⟩ : ∃ n, ps.length = 2 * n := ⟨ps.length / 2, by have := HC.out.1; omega⟩
   have hq : ((ps.length : Int) / 2) = (n : Int) := by omega
   have hqt : (ps.length : Int).tdiv 2 = (n : Int) := by rw [Int.tdiv_eq_ediv_of_nonneg (by omega)]; omega
   have HN := Hh hn;have hn12 : n ≤ 500 := by have := HC.out.2.2; omega
   have hG := Grows.of_below hH hbr;obtain ⟨i0, hi0, hz0, hz1, hz2⟩ := info_parts info_bpair;clear hn hbr;go_wp2_with (at_make; refine stop_in ?_)
   refine wpList_make_own wr rfl _ _ 133 rfl (w.heap.size + 1) 135 i0 _ 9 Tryz.underlying133 hi0 hz0 hz1 .i64 .i64 (n : Int) n rfl rfl rfl (by rw [hz2]; omega) (by simp only [maxLen]; omega) (by have := hTr.lt; omega) fun w4 hown4 hg4 => ?_
   have hG4 := hG.below_ (grown_none hg4);have hX := XM.start (bt := 133) (bv := .slice none 0 0) hG4 hn0 (hTr.grown hg4 (by simp)) (show OwnX lieP 135 w4 (w.heap.size + 1) (.slice (some ⟨wr.heap.size, 0, none⟩) 0 n) H [] from ⟨[], RowC.nil _ _, hown4⟩) (fun g hg => by simp [Value.ownBlock] at hg; subst hg; exact hG.hidden (Nat.le_refl _));obtain ⟨B, hB⟩ : ∃ B, w4.heap.size = B := ⟨_, rfl⟩
   obtain ⟨g0, hg0⟩ : ∃ g0, wr.heap.size = g0 := ⟨_, rfl⟩
   rw [hB] at hX;rw [hg0] at hX ⊢;clear hown4 hg4 hG4 hG hTr hi0 hz0 hz1 hz2 hg0;go_wp2_with (with_reducible refine stop_store ?_)
   unfold Stopped
   try rw [hB]
   refine wpList_store_cell rfl _ _ _ rfl rfl B 0 (.slice (some ⟨g0, 0, none⟩) 0 n) rfl rfl _ _ hX.box size_bpairs (by simp) rfl fun w5 hB5 hg5 => ?_
   replace hX := hX.setBox (by simpa using hB5) hg5;clear hB5 hg5 hB hq hqt;go_wp2_with fail
   go_loopw [7] (fun v7 wx => ∃ (j : Nat) (Hx : Snap) (VA : Option Addr) (m vc : Nat), j ≤ ps.length ∧ j % 2 = 0 ∧ v7 = .int .i64 (j : Int) ∧ m = j / 2 ∧ (∃ g' : Nat, VA = some ⟨g', 0, none⟩) ∧ XM lieP 135 133 75 w H B zeroC (.slice VA m vc) (.slice VA m vc) (pk (ps.take j)) wx Hx) (fun v7 _ => ps.length - (intOf v7).toNat)
   case atStart => exact ⟨0, H, some ⟨g0, 0, none⟩, 0, n, Nat.zero_le _, rfl, rfl, rfl, ⟨g0, rfl⟩, by simpa [pk] using hX⟩
   case round =>
    clear hX;obtain ⟨j, Hx, VA, m, vc, hj, hje, rfl, hm, hVA, hX⟩ := hrel;have HVA := Hh hVA;clear hVA;have HJ := Hh (And.intro hje hm);clear hje hm
    by_cases hlt : j < ps.length
    ·have hlt1 : j + 1 < ps.length := by have := HJ.out.1; have := HC.out.1; omega
     have hltI : (j : Int) < ps.length := by omega
     have hltI1 : (j : Int) + 1 < ps.length := by omega
     have hj63 : (j : Int) + 2 ≤ 9223372036854775807 := by have := HC.out.2.2; omega
     have HW1 : IntKind.i64.wrap ((j : Int) + 1) = (j : Int) + 1 := IntWalk.i64_in _ (by omega);have hj10 : (0 : Int) ≤ (j : Int) + 1 := by omega
     obtain ⟨ib, io, hia, hel⟩ := HR.out.elems (by omega);obtain ⟨y1, y2, y3, y4, q0, q1, q2, q3, hey⟩ := hel.get j hlt;obtain ⟨z1, z2, z3, z4, s0, s1, s2, s3, hez⟩ := hel.get (j + 1) hlt1;subst hia;have HV := Hh (validP_spec (HA.out.2.1 _ (List.getElem_mem hlt)))
     have HPK : Hid (pk (ps.take (j + 2)) = pk (ps.take j) ++ [(encB ps[j], ps[j], ps[j + 1])]) := by
      obtain ⟨i, rfl⟩ : ∃ i, j = 2 * i := ⟨j / 2, by have := HJ.out.1; omega⟩
      exact pk_take ps i hlt1
     have HPL : Hid ((pk (ps.take j)).length = m) := by rw [Hid, pk_len, List.length_take]; have := HJ.out; omega
     have hle := hX.grows.le;have q0 := hle.cell q0;have q1 := hle.cell q1;have q2 := hle.cell q2;have q3 := hle.cell q3;have s0 := hle.cell s0;have s1 := hle.cell s1;have s2 := hle.cell s2;have s3 := hle.cell s3;have hey := hey.mono hle;have hez := hez.mono hle
     generalize ps[j]'hlt = y at *
     generalize ps[j + 1]'hlt1 = z at *
     generalize pk (ps.take j) = L at hX HPK HPL
     clear hel hle hj;go_upto_region 13 with fail
     replace hX := hX.drew;have hyz := Hh (And.intro hey hez);clear hey hez
     refine wp_region_waysZ 17 (fun wx => wx.cell? ⟨B, 0, none⟩ = some (.slice VA m vc) ∧ wx.cell? ⟨ib, io + j * 4, none⟩ = some (.int .i64 y.kind) ∧ wx.cell? ⟨ib, io + j * 4 + 1, none⟩ = some (.int .u64 y.n) ∧ wx.cell? ⟨ib, io + j * 4 + 2, none⟩ = some (.slice y1 y.bytes.length y2) ∧ wx.cell? ⟨ib, io + j * 4 + 3, none⟩ = some (.slice y3 y.items.length y4) ∧ wx.cell? ⟨ib, io + (j + 1) * 4, none⟩ = some (.int .i64 z.kind) ∧ wx.cell? ⟨ib, io + (j + 1) * 4 + 1, none⟩ = some (.int .u64 z.n) ∧ wx.cell? ⟨ib, io + (j + 1) * 4 + 2, none⟩ = some (.slice z1 z.bytes.length z2) ∧ wx.cell? ⟨ib, io + (j + 1) * 4 + 3, none⟩ = some (.slice z3 z.items.length z4)) (by kernel_rfl) (⟨hX.box.cell 0 rfl, hX.grows.holds.cell q0, hX.grows.holds.cell q1, hX.grows.holds.cell q2, hX.grows.holds.cell q3, hX.grows.holds.cell s0, hX.grows.holds.cell s1, hX.grows.holds.cell s2, hX.grows.holds.cell s3⟩) (fun hHeld => ?_)
     refine Zk 0 rfl hHeld ?_
     refine Zk 1 rfl hHeld ?_
     refine Zk 2 rfl hHeld ?_
     refine Zk 3 rfl hHeld ?_
     refine Zk 4 rfl hHeld ?_
     refine Zk 6 rfl hHeld ?_
     refine Zk 7 rfl hHeld ?_
     refine Zk 8 rfl hHeld ?_
     refine Zk 9 rfl hHeld ?_
     refine Zk 10 rfl hHeld ?_
     refine Zk 11 rfl hHeld ?_
     refine Zk 12 rfl hHeld ?_
     refine Zk 13 rfl hHeld ?_
     refine Zk 14 rfl hHeld ?_
     refine Zo 5 rfl fun K hK => ?_
     go_simp
     refine (cbor_add y Hx _ _ _ _ _ _ _ _ _ _ (.slice none 0 0) [] HV.out.1 hyz.out.1.arg hX.grows.holds (OwnB.nil _ _) (Nat.le_refl _) (by simp [Value.ownBlock]) (by have := HV.out.2.2; simp; omega)).mono ?_
     rintro e w5 ⟨r5, rfl, hO5, hg5, _⟩
     obtain ⟨A5, c5, rfl, _⟩ := OwnB.form hO5;obtain ⟨H5, hG5, hk5, _⟩ := Fresh.snapB hX.grows.holds ⟨hO5, grown_none hg5⟩;have hX := hX.grow hG5;have q0 := hG5.le.cell q0;have q1 := hG5.le.cell q1;have q2 := hG5.le.cell q2;have q3 := hG5.le.cell q3;have s0 := hG5.le.cell s0;have s1 := hG5.le.cell s1;have s2 := hG5.le.cell s2;have s3 := hG5.le.cell s3
     refine Ko hK ?_ fun hHeld => ?_
     ·exact ⟨hX.box.cell 0 rfl, hX.grows.holds.cell q0, hX.grows.holds.cell q1, hX.grows.holds.cell q2, hX.grows.holds.cell q3, hX.grows.holds.cell s0, hX.grows.holds.cell s1, hX.grows.holds.cell s2, hX.grows.holds.cell s3⟩
     clear hK K
     refine Zk 15 rfl hHeld ?_
     refine Zo 16 rfl fun K hK => ?_
     go_simp
     have hRow : RowC lieP H5 (.slice A5 (encB y).length c5 :: (itemC y y1 y2 y3 y4 ++ itemC z z1 z2 z3 z4)) [(encB y, y, z)] := RowC.one ⟨A5, c5, y1, y2, y3, y4, z1, z2, z3, z4, rfl, hk5, hyz.out.1.mono hG5.le, hyz.out.2.mono hG5.le⟩;have hZ := hX.litZ (.slice A5 (encB y).length c5 :: (itemC y y1 y2 y3 y4 ++ itemC z z1 z2 z3 z4)).toArray 135;have hX := hX.alloc (.cells (.slice A5 (encB y).length c5 :: (itemC y y1 y2 y3 y4 ++ itemC z z1 z2 z3 z4)).toArray 135)
     refine Ko hK ?_ fun hHeld => ?_
     ·exact ⟨hX.box.cell 0 rfl, hX.grows.holds.cell q0, hX.grows.holds.cell q1, hX.grows.holds.cell q2, hX.grows.holds.cell q3, hX.grows.holds.cell s0, hX.grows.holds.cell s1, hX.grows.holds.cell s2, hX.grows.holds.cell s3⟩
     clear hK K
     refine Zo 17 rfl fun K hK => ?_
     rw [if_pos (by rfl)]
     refine OwnX.append_wp2 (L := lieP) _ _ 133 rfl Tryz.underlying133 rfl (by omega) info_bpair rfl hX.own _ _ _ _ [(encB y, y, z)] rfl rfl hRow hZ (by have := HPL.out; have := HJ.out.2; have := HC.out.2.2; simp; omega) hX.base fun v7 w7 hO7 hg7 ha7 => ?_
     have hX := hX.app hO7 hg7 ha7;obtain ⟨A7, c7, rfl, _⟩ := hO7.form;have HA7 : Hid (∃ g' : Nat, A7 = some ⟨g', 0, none⟩) := by obtain ⟨g', d', h1, _⟩ := own_pe hO7 (by simp); exact ⟨g', h1⟩
     rw [show (L ++ [(encB y, y, z)]).length = m + 1 by have := HPL.out; simp; omega] at hX ⊢;clear hO7 hg7 ha7 hZ hRow
     refine Kz hK ?_
     clear hK K
     refine Zo 18 rfl fun K hK => ?_
     rw [if_pos (by rfl)]
     refine wp_store_cell _ _ _ rfl B 0 (.slice A7 (m + 1) c7) rfl rfl _ _ hX.box size_bpairs (by simp) rfl fun w8 hB8 hg8 => ?_
     have hX := hX.setBox (by simpa using hB8) hg8;clear hB8 hg8
     refine Kz hK ?_
     clear hK K
     refine WaysZ.done (by kernel_rfl) ?_
     clear hHeld q0 q1 q2 q3 s0 s1 s2 s3 hG5 hk5;go_wp2_with fail
     go_roundw
     case rel => exact ⟨j + 2, H5, A7, m + 1, c7, by omega, by have := HJ.out.1; omega, by go_num, by have := HJ.out; omega, HA7.out, by rw [HPK.out]; exact hX⟩
     case measure => simp [intOf]; omega
    ·have hkl : j = ps.length := by omega
     subst hkl;clear hlt hj;rw [List.take_length] at hX;have hpl : (pk ps).length = n := by rw [pk_len, HN.out]; omega
     obtain rfl : m = n := by have := HJ.out.2; have := HN.out; omega
     have hqp : (pk qs).length = m := by rw [HQ.out.2.length_eq, hpl]
     have hascq : Asc (·.1) (pk qs) := asc_pk HA.out.1;have SRT := sort_pairsA (q := pk qs) hX.own hpl.symm (by omega) HQ.out.2 hascq hX.grows.holds hX.apart B (hX.box.cell 0 rfl) hX.far hX.box.lt;have SRTH := Hh SRT;obtain ⟨g, hgA⟩ := HVA.out;subst hgA;have c0 := hX.box.cell 0 rfl;have HPL := Hh hqp;clear SRT hascq hqp hpl;go_wp2_with fail
     refine SRTH.out.mono ?_
     rintro e w9 ⟨rfl, hO9, hg9⟩
     replace hX := hX.perm hO9 hg9;obtain ⟨H9, hG9, hle9, hmm9, hrow9, hK9, hB9⟩ := hX.snap;clear hmm9;have hbox := hX.box;have hkey := hX.key;have hlt9 := hX.lt;clear hX hO9 hg9 SRTH c0 hle9;have hBlt := hbox.lt;have hM := (Blk.new w9 75 zeroC)
     have hMn : H9 w9.heap.size = none := hG9.holds.none_of_ge (Nat.le_refl _);obtain ⟨M, hMe⟩ : ∃ M, w9.heap.size = M := ⟨_, rfl⟩
     have HM := Hh (And.intro hG9.size (And.intro hBlt hMe));rw [hMe] at hM hMn;go_wp2_with (with_reducible refine stop_store ?_)
     unfold Stopped
     try rw [hMe]
     refine wpList_store_item rfl _ _ _ rfl rfl M _ rfl rfl _ _ hM size_item rfl (one4 _ _ _ _ rfl rfl rfl rfl) fun w11 hM11 hg11 => ?_
     have hS : BM w H B M #[.slice (some ⟨g, 0, none⟩) m vc] (.slice none 0 0) (.slice none 0 0) [] w11 H9 :=
      ⟨(hG9.alloc zeroO).grownOwn hMn (by have := HM.out; omega) hg11, hK9, hB9, hMn, hlt9, by have := hkey.lt; have := HM.out; omega, by have := HM.out; omega, (hkey.alloc zeroO).grown hg11 (fun e => by injection e with e; have := hkey.lt; have := HM.out; omega),
       (hbox.alloc zeroO).grown hg11 (fun e => by injection e with e; have := HM.out; omega), hM11, OwnI.nil _ _ _, fun g hg => by simp [Value.ownBlock] at hg⟩
     have c0 := hS.boxB.cell 0 rfl;clear hM hMn hMe hg11 hM11 hbox hkey hlt9 hBlt hG9 hK9 hB9;go_wp2_with fail
     go_loopw [62] (fun v62 wx => ∃ (i : Nat) (Hx : Snap) (VA : Option Addr) (vm v9 : Nat), i ≤ m ∧ v62 = .int .i64 (i : Int) ∧ vm = 2 * i ∧ H9.le Hx ∧ BM w H B M #[.slice (some ⟨g, 0, none⟩) m vc] (.slice VA vm v9) (.slice VA vm v9) (qs.take (2 * i)) wx Hx) (fun v62 _ => m - (intOf v62).toNat)
     case atStart => exact ⟨0, H9, none, 0, 0, Nat.zero_le _, rfl, rfl, Snap.le.refl _, by simpa using hS⟩
     case round =>
      clear hS c0;obtain ⟨i, Hx, VA, vm, v9, him, rfl, hvm, hle, hS⟩ := hrel;have HI := Hh (And.intro him hvm);clear him hvm
      by_cases hlt : i < m
      ·have hi1 : 2 * i + 1 < qs.length := by have := HN.out; have := HQ.out.1; omega
       have hltI : (i : Int) < m := by omega
       have hi63 : (i : Int) + 1 ≤ 9223372036854775807 := by have := HC.out.2.2; have := HN.out; omega
       have hgi := pk_get qs i hi1;have hil : i < (pk qs).length := by have := HPL.out; omega
       rw [List.getElem?_eq_getElem hil] at hgi;have hgi' := Option.some.inj hgi
       have HTK : Hid (qs.take (2 * (i + 1)) = qs.take (2 * i) ++ [qs[2 * i]'(by omega), qs[2 * i + 1]]) := by
        rw [Hid, show 2 * (i + 1) = 2 * i + 1 + 1 by omega, List.take_succ_eq_append_getElem hi1, List.take_succ_eq_append_getElem (by omega), List.append_assoc];rfl
       have HASC : Hid (∀ k, k + 1 = i → ∀ hk : k < (pk qs).length, Lib.compareBytes ((pk qs)[k].1) (encB (qs[2 * i]'(Nat.lt_of_succ_lt hi1))) < 0) := fun k hk hkl => by
        subst hk;have e1 := pk_get qs k (by omega);rw [List.getElem?_eq_getElem hkl] at e1;rw [Option.some.inj e1]
        exact asc_at (m := 2 * k) HA.out.1 (by omega) (by omega)
       obtain ⟨gb, go, hga, hrows⟩ := hrow9.at_ (by omega)
       cases hga
       obtain ⟨dc, ⟨KA, kc, y1, y2, y3, y4, z1, z2, z3, z4, hdc, hky, hey, hez⟩, hcell⟩ := hrows i hil;subst hdc;rw [hgi'] at hky hey hez hcell;have HROW := Hh hrows;have r0 := hle.cell (hcell 0 _ rfl);have r1 := hle.cell (hcell 1 _ rfl);have r2 := hle.cell (hcell 2 _ rfl);have r3 := hle.cell (hcell 3 _ rfl);have r4 := hle.cell (hcell 4 _ rfl);have r5 := hle.cell (hcell 5 _ rfl);have r6 := hle.cell (hcell 6 _ rfl);have r7 := hle.cell (hcell 7 _ rfl);have r8 := hle.cell (hcell 8 _ rfl);have hky := hky.mono hle;have hey := hey.mono hle;have hez := hez.mono hle
       generalize qs[2 * i]'(by omega) = y at *
       generalize qs[2 * i + 1]'hi1 = z at *
       generalize hLL : qs.take (2 * i) = LL at hS HTK
       have HLL : Hid (LL.length = vm) := by rw [Hid, ← hLL, List.length_take]; have := HI.out; omega
       have HIT := Hh (And.intro hky (And.intro hey hez));clear hgi hgi' hcell hrows hky hey hez hLL;have r0 := hS.grows.holds.cell r0;have r1 := hS.grows.holds.cell r1;have r2 := hS.grows.holds.cell r2;have r3 := hS.grows.holds.cell r3;have r4 := hS.grows.holds.cell r4;have r5 := hS.grows.holds.cell r5;have r6 := hS.grows.holds.cell r6;have r7 := hS.grows.holds.cell r7;have r8 := hS.grows.holds.cell r8
       simp only [lieP, Nat.add_zero, Nat.zero_add, ← Nat.add_assoc] at r0 r1 r2 r3 r4 r5 r6 r7 r8
       go_upto_region 19 with fail
       have hD := Blk.new wr 135 #[.slice KA (encB y).length kc, .int .i64 y.kind, .int .u64 y.n, .slice y1 y.bytes.length y2, .slice y3 y.items.length y4, .int .i64 z.kind, .int .u64 z.n, .slice z1 z.bytes.length z2, .slice z3 z.items.length z4];replace hS := hS.alloc (.cells #[.slice KA (encB y).length kc, .int .i64 y.kind, .int .u64 y.n, .slice y1 y.bytes.length y2, .slice y3 y.items.length y4, .int .i64 z.kind, .int .u64 z.n, .slice z1 z.bytes.length z2, .slice z3 z.items.length z4] 135);obtain ⟨P, hPe⟩ : ∃ P, wr.heap.size = P := ⟨_, rfl⟩
       obtain ⟨w2, hw2⟩ : ∃ w2, wr.alloc (.cells #[.slice KA (encB y).length kc, .int .i64 y.kind, .int .u64 y.n, .slice y1 y.bytes.length y2, .slice y3 y.items.length y4, .int .i64 z.kind, .int .u64 z.n, .slice z1 z.bytes.length z2, .slice z3 z.items.length z4] 135) = w2 := ⟨_, rfl⟩
       rw [hw2] at hS hD ⊢;rw [hPe] at hD ⊢;clear hw2 hPe r0 r1 r2 r3 r4 r5 r6 r7 r8;go_cut [79] (fun s79 wx => s79 = .bool false ∧ BM w H B M #[.slice (some ⟨g, 0, none⟩) m vc] (.slice VA vm v9) (.slice VA vm v9) LL wx Hx ∧ Blk wx P 135 #[.slice KA (encB y).length kc, .int .i64 y.kind, .int .u64 y.n, .slice y1 y.bytes.length y2, .slice y3 y.items.length y4, .int .i64 z.kind, .int .u64 z.n, .slice z1 z.bytes.length z2, .slice z3 z.items.length z4])
       case first =>
        by_cases h0 : i = 0
        ·subst h0
         refine wp_region_ways 12 (fun _ => True) (by kernel_rfl) (trivial) (fun hHeld => ?_)
         refine Tk 0 rfl hHeld ?_
         refine Tk 1 rfl hHeld ?_
         refine Tk 2 rfl hHeld ?_
         refine TkU 3 rfl hHeld ?_
         refine TkU 4 rfl hHeld ?_
         refine TkU 5 rfl hHeld ?_
         refine TkU 6 rfl hHeld ?_
         refine TkU 7 rfl hHeld ?_
         refine TkU 8 rfl hHeld ?_
         refine TkU 9 rfl hHeld ?_
         refine TkU 10 rfl hHeld ?_
         refine TkU 11 rfl hHeld ?_
         refine To 12 rfl fun K hK => ?_
         go_simp
         refine Kz hK ?_
         clear hK K
         refine Wd ?_
         go_wp2_with fail
         go_meet
         exact ⟨rfl, hS.drew, hD.drew⟩
        ·obtain ⟨k, rfl⟩ : ∃ k, i = k + 1 := ⟨i - 1, by omega⟩
         obtain ⟨dk, ⟨KB, kd, u1, u2, u3, u4, u5, u6, u7, u8, hdk, hkb, _, _⟩, hcell⟩ := HROW.out k (by have := HPL.out; omega);subst hdk
         have hne : Hid (((pk qs)[k]'(by have := HPL.out; omega)).1 ≠ encB y) := fun e => by
          have h1 := HASC.out k rfl (by have := HPL.out; omega);rw [e, cmp_refl] at h1
          omega
         have rk := hcell 0 _ rfl
         generalize ((pk qs)[k]'(by have := HPL.out; omega)).1 = kb at *
         have rk := hS.grows.holds.cell (hle.cell rk)
         simp only [lieP, Nat.add_zero, Nat.zero_add] at rk
         have hEQ : Hid ((kb == encB y) = false) := by rw [Hid, beq_eq_false_iff_ne]; exact hne.out
         have e2 : ((k + 1 : Nat) : Int) = (k : Int) + 1 := by omega
         try rw [e2]
         have hw1 : IntKind.i64.wrap ((k : Int) + 1 - 1) = (k : Int) := by rw [show (k : Int) + 1 - 1 = (k : Int) by omega]; exact IntWalk.i64_in _ (by omega)
         have hw3 : IntKind.i64.wrap (k : Int) = (k : Int) := IntWalk.i64_in _ (by omega);have hkI : (k : Int) < m := by omega
         have hk0 : (0 : Int) ≤ (k : Int) := by omega
         have hkp : (0 : Int) < (k : Int) + 1 := by omega
         have hkm : k < m := by omega
         have hKB := Hh (hkb.mono hle);have c0 := hS.boxB.cell 0 rfl;have d0 := hD.cell 0 rfl;replace hS := hS.drew;replace hD := hD.drew;clear hcell hkb hne e2 hltI hi63 h0
         refine wp_region_ways 12 (fun wx => wx.cell? ⟨B, 0, none⟩ = some (.slice (some ⟨g, 0, none⟩) m vc) ∧ wx.cell? ⟨g, k * 9, none⟩ = some (.slice KB kb.length kd) ∧ wx.cell? ⟨P, 0, none⟩ = some (.slice KA (encB y).length kc)) (by kernel_rfl) (⟨c0, rk, d0⟩) (fun hHeld => ?_)
         refine Tk 0 rfl hHeld ?_
         refine Tk 1 rfl hHeld ?_
         refine Tk 2 rfl hHeld ?_
         refine TkG 3 rfl hHeld ?_
         refine TkG 4 rfl hHeld ?_
         refine TkG 5 rfl hHeld ?_
         refine TkG 6 rfl hHeld ?_
         refine TkG 7 rfl hHeld ?_
         refine TkG 8 rfl hHeld ?_
         refine TkG 9 rfl hHeld ?_
         refine TkG 10 rfl hHeld ?_
         refine To 11 rfl fun K hK => ?_
         go_simp
         refine (bytes_Equal _ KB KA kb (encB y) _ _ kd kc rfl rfl (Src.of_row hKB.out.row hS.grows.holds) (Src.of_row HIT.out.1.row hS.grows.holds)).mono ?_
         rintro e w5 ⟨rfl, rfl⟩
         rw [hEQ.out]
         refine Ko hK ?_ fun hHeld => ?_
         ·exact ⟨c0, rk, d0⟩
         clear hK K
         refine To 12 rfl fun K hK => ?_
         go_simp
         refine Kz hK ?_
         clear hK K
         refine Wd ?_
         clear hHeld c0 rk d0;go_wp2_with fail
         go_meet
         exact ⟨rfl, hS, hD⟩
       case rest =>
        clear hS hD;obtain ⟨rfl, hS, hD⟩ := hcut;have m3 := hS.boxM.cell 3 rfl;have d1 := hD.cell 1 rfl;have d2 := hD.cell 2 rfl;have d3 := hD.cell 3 rfl;have d4 := hD.cell 4 rfl;have d5 := hD.cell 5 rfl;have d6 := hD.cell 6 rfl;have d7 := hD.cell 7 rfl;have d8 := hD.cell 8 rfl;have HS := Hh hS;clear hS hD;go_wp2_with (at_builtin; refine stop_in ?_)
        unfold Stopped
        have hZ := HS.out.litZ (itemC y y1 y2 y3 y4 ++ itemC z z1 z2 z3 z4).toArray 75;have hS := HS.out.alloc (.cells (itemC y y1 y2 y3 y4 ++ itemC z z1 z2 z3 z4).toArray 75)
        refine wpList_app_items rfl _ _ rfl _ _ _ _ rfl hS.own _ _ _ _ [y, z] rfl rfl ((ItemsC.one HIT.out.2.1).app (ItemsC.one HIT.out.2.2)) hZ (by have := HLL.out; have := HI.out; have := HC.out.2.2; have := HN.out; simp; omega) hS.base fun v7 w7 hO7 hg7 ha7 => ?_
        replace hS := hS.app hO7 hg7 ha7;obtain ⟨A7, c7, rfl, _⟩ := hO7.form;rw [show (LL ++ [y, z]).length = vm + 2 by have := HLL.out; simp; omega] at hS ⊢;clear hO7 hg7 ha7 hZ HS m3 d1 d2 d3 d4 d5 d6 d7 d8;go_wp2_with (with_reducible refine stop_store ?_)
        refine wpList_store_cell rfl _ _ _ rfl rfl M 3 (.slice A7 (vm + 2) c7) rfl rfl _ _ hS.boxM size_items (by simp) rfl fun w8 hB8 hg8 => ?_
        replace hS := hS.setM (by simpa using hB8) hg8;clear hB8 hg8;go_wp2_with fail
        go_roundw
        case rel => exact ⟨i + 1, Hx, A7, vm + 2, c7, by omega, by go_num, by have := HI.out; omega, hle, by rw [HTK.out]; exact hS⟩
        case measure => simp [intOf]; omega
      ·have hkl : i = m := by have := HI.out.1; omega
       subst hkl;clear hlt;rw [show 2 * i = qs.length from by have := HN.out; have := HQ.out.1; omega, List.take_length] at hS;obtain ⟨H12, hG12, hm12, hit, hn12⟩ := hS.item;have m0 := hS.boxM.cell 0 rfl;have m1 := hS.boxM.cell 1 rfl;have m2 := hS.boxM.cell 2 rfl;have m3 := hS.boxM.cell 3 rfl;have hkey := hS.key;subst hm12;have HIT := Hh hit;have HV := Hh (cbor_Valid (hTab.mono hG12.le) (x := .mk 5 0 [] qs) hit.arg _ hG12.holds);rw [HA.out.2.2] at HV;have HMo := Hh (validP_modest HA.out.2.2);clear hS hit;go_wp2_with fail
       refine HV.out.mono ?_
       rintro e w13 ⟨rfl, hb13⟩
       have hG13 := hG12.below_ hb13;have m0 := (m0b hb13 m0)
       have m1 := (m0b hb13 m1)
       have m2 := (m0b hb13 m2)
       have m3 := (m0b hb13 m3)
       replace hkey := hkey.below hb13;have CP := Hh (cbor_copied (.mk 5 0 [] qs) H12 _ _ _ _ _ _ _ _ w13 HMo.out HIT.out.arg hG13.holds);clear HV hb13 hG12;go_wp2_with fail
       refine CP.out.mono ?_
       rintro e w14 ⟨v14, rfl, xa, xb, xc, xd, H14, rfl, hG14, hI14⟩
       have hG15 := hG13.trans hG14;have hn15 := hG14.none hn12 hkey.lt;replace hkey := hkey.below hG14.below;clear CP hG13 hG14;go_wp2_with (with_reducible refine stop_store ?_)
       refine stI hkey fun w16 hT16 hg16 => ?_
       have hG16 := hG15.grownOwn hn15 (Nat.le_refl _) hg16;clear hG15 hg16 hkey;go_wp2_with fail
       refine ret_row_tmp rfl rfl hT16 rfl rfl size_item rfl ?_
       exact ⟨_, rfl, xa, xb, xc, xd, H14, rfl, hG16, hI14⟩
structure KAd where
 ia : Option Addr
 ic : Nat
 xa : Option Addr
 xc : Nat
 da : Option Addr
 dc : Nat
 ka : Option Addr
 kc : Nat
abbrev keyQ (q : Ky) (a : KAd) : Array Value := keyC q.kty q.crv q.alg a.ia q.kid.length a.ic a.xa q.x.length a.xc a.da q.d.length a.dc a.ka q.k.length a.kc
structure KeyA (H : Snap) (q : Ky) (a : KAd) : Prop where
 kty : -9223372036854775808 ≤ q.kty ∧ q.kty ≤ 9223372036854775807
 crv : -9223372036854775808 ≤ q.crv ∧ q.crv ≤ 9223372036854775807
 alg : -9223372036854775808 ≤ q.alg ∧ q.alg ≤ 9223372036854775807
 kid : IsBytes H a.ia a.ic q.kid
 x : IsBytes H a.xa a.xc q.x
 d : IsBytes H a.da a.dc q.d
 k : IsBytes H a.ka a.kc q.k
theorem KeyA.mono {H K : Snap} {q : Ky} {a : KAd} (h : KeyA H q a) (hl : H.le K) : KeyA K q a := ⟨h.kty, h.crv, h.alg, h.kid.mono hl, h.x.mono hl, h.d.mono hl, h.k.mono hl⟩
theorem KeyA.len {H : Snap} {q : Ky} {a : KAd} (h : KeyA H q a) : q.x.length ≤ 9223372036854775807 ∧ q.d.length ≤ 9223372036854775807 := ⟨Nat.le_trans h.x.le h.x.max, Nat.le_trans h.d.le h.d.max⟩
theorem validN_eq (q : Ky) : validN q.kty q.crv q.alg q.kid.length q.x.length q.d.length q.k.length = validK q := rfl
theorem pairsL_eq (q : Ky) : pairsL q.kty q.crv q.alg q.kid q.x q.d q.k = pairsK q := rfl
def codeK (q : Ky) : Int := if validK q = true then 0 else 1
def itmK (q : Ky) : Itm := if validK q = true then itemK q else zeroItm
def ToOut (w : World) (H : Snap) (q : Ky) (e : Ending) (w' : World) : Prop := ∃ v, e = .returned (.tuple #[v, .int .i64 (codeK q)]) ∧ Gives w H (itmK q) v w'
theorem validK_len {q : Ky} (h : validK q = true) : q.kid.length ≤ 64 ∧ q.x.length ≤ 64 ∧ q.d.length ≤ 64 ∧ q.k.length ≤ 64 := by
 have := (validK_iff q).1 h
 omega
theorem validK_k {q : Ky} (h : validK q = true) (h4 : q.kty = 4) : 0 < q.k.length := by
 have := (validK_iff q).1 h
 omega
theorem IsRowI.of {H : Snap} {A : Option Addr} {c : Nat} {l : List Itm} (h : l.length ≤ c ∧ c ≤ 9223372036854775807 ∧ (0 < l.length → ∃ b off, A = some ⟨b, off, none⟩ ∧ IsElems H b off l)) : IsRowI H A c l := ⟨h.1, h.2.1, h.2.2⟩
theorem key_ToItem {H : Snap} (hTab : Tabs H) {q : Ky} {a : KAd} (hq : KeyA H q a) (w : World) (hH : Holds w H) :
  Calls Tryz.prog 66 #[.agg (keyQ q a)] w (ToOut w H q) := by
 have hB1 := (Blk.new w 60 (keyQ q a)).alloc (.cells zeroC 75);have hT := Blk.new (w.alloc (.cells (keyQ q a) 60)) 75 zeroC;rw [size_alloc] at hT;have hTn : H (w.heap.size + 1) = none := hH.none_of_ge (by omega);have hG1 := ((Grows.refl hH).alloc (.cells (keyQ q a) 60)).alloc (.cells zeroC 75);have V := Hh (fun W => key_ValidN q.kty q.crv q.alg a.ia q.kid.length a.ic a.xa q.x.length a.xc a.da q.d.length a.dc a.ka q.k.length a.kc W hq.len.1 hq.len.2);have HQ := Hh hq;have c0 := hB1.cell 0 rfl;have c1 := hB1.cell 1 rfl;have c2 := hB1.cell 2 rfl;have c3 := hB1.cell 3 rfl;have c4 := hB1.cell 4 rfl;have c5 := hB1.cell 5 rfl;have c6 := hB1.cell 6 rfl;clear hq hH;go_enter Tryz.func66, Tryz.ntmps66
 go_wp2_with fail
 refine (V.out _).mono ?_
 rintro e w3 ⟨rfl, hb3⟩
 rw [validN_eq];replace hT := hT.below hb3;replace hB1 := hB1.below hb3;have hG3 := hG1.below_ hb3;clear hG1 hb3 V c0 c1 c2 c3 c4 c5 c6;have c0 := hB1.cell 0 rfl;have c1 := hB1.cell 1 rfl;have c2 := hB1.cell 2 rfl;have c3 := hB1.cell 3 rfl;have c4 := hB1.cell 4 rfl;have c5 := hB1.cell 5 rfl;have c6 := hB1.cell 6 rfl;clear hB1
 cases hv : validK q with
 | false =>
  have E : Hid (codeK q = 1 ∧ itmK q = zeroItm) := ⟨by rw [codeK, if_neg (by rw [hv]; simp)], by rw [itmK, if_neg (by rw [hv]; simp)]⟩
  clear hv;go_wp2_with (with_reducible refine stop_store ?_)
  refine stI hT fun w9 hT9 hg9 => ?_
  have hG9 := hG3.grownOwn hTn (by omega) hg9;go_wp2_with fail
  refine ret_row_tmp rfl rfl hT9 rfl rfl size_item rfl ?_
  exact ⟨_, by rw [E.out.1]; rfl, by rw [E.out.2]; exact ⟨none, 0, none, 0, H, rfl, hG9, IsItem.plain H 0 0 (by omega) (by omega)⟩⟩
 | true =>
  have E : Hid (codeK q = 0 ∧ itmK q = .mk 5 0 [] (pairsK q)) := ⟨by rw [codeK, if_pos hv], by rw [itmK, if_pos hv]; rfl⟩
  have HV := Hh hv;clear hv;go_wp2_with fail
  refine (key_pairs q.kty q.crv q.alg HQ.out.kty HQ.out.crv HQ.out.alg HQ.out.kid HQ.out.x HQ.out.d HQ.out.k (validK_len HV.out) _ hG3.holds).mono ?_
  rintro e w4 ⟨v4, rfl, A4, c9, H4, rfl, hG4, hr4⟩
  rw [pairsL_eq] at hr4 ⊢;have hG5 := hG3.trans hG4;have hTn4 := hG4.none hTn hT.lt;replace hT := hT.below hG4.below;have HR4 := Hh (IsRowI.of hr4);have HB := Hh (cbor_BuildN (hTab.mono hG5.le) HR4.out (pairsK_even q) (Nat.zero_le _) (by have := (pairsK_len q).2; omega) (qs := pairsK q) rfl (List.Perm.refl _) (asc_pairsK q) (validP_pairsK HV.out) (validP_itemK HV.out) w4 hG5.holds);clear hG4 hr4 hG3 c0 c1 c2 c3 c4 c5 c6;go_wp2_with fail
  refine HB.out.mono ?_
  rintro e w6 ⟨v6, rfl, xa, xb, xc, xd, H6, rfl, hG6, hI6⟩
  have hG7 := hG5.trans hG6;have hTn6 := hG6.none hTn4 hT.lt;replace hT := hT.below hG6.below;clear hG6 hG5 HB;go_wp2_with (with_reducible refine stop_store ?_)
  refine stI hT fun w9 hT9 hg9 => ?_
  have hG9 := hG7.grownOwn hTn6 (by omega) hg9;go_wp2_with fail
  refine ret_row_tmp rfl rfl hT9 rfl rfl size_item rfl ?_
  exact ⟨_, by rw [E.out.1]; rfl, by rw [E.out.2]; exact ⟨xa, xb, xc, xd, H6, rfl, hG9, hI6⟩⟩
theorem ref11_ToItem {H : Snap} (hTab : Tabs H) {q : Ky} {a : KAd} (hq : KeyA H q a) (w : World) (hH : Holds w H) :
  Calls Tryz.prog 42 #[.agg (keyQ q a)] w (ToOut w H q) := by
 have hB1 := (Blk.new w 60 (keyQ q a)).alloc (.cells zeroC 75);have hT := Blk.new (w.alloc (.cells (keyQ q a) 60)) 75 zeroC;rw [size_alloc] at hT;have hTn : H (w.heap.size + 1) = none := hH.none_of_ge (by omega);have hG1 := ((Grows.refl hH).alloc (.cells (keyQ q a) 60)).alloc (.cells zeroC 75);have V := Hh (fun W => ref_ValidN q.kty q.crv q.alg a.ia q.kid.length a.ic a.xa q.x.length a.xc a.da q.d.length a.dc a.ka q.k.length a.kc W hq.len.1 hq.len.2);have HQ := Hh hq;have c0 := hB1.cell 0 rfl;have c1 := hB1.cell 1 rfl;have c2 := hB1.cell 2 rfl;have c3 := hB1.cell 3 rfl;have c4 := hB1.cell 4 rfl;have c5 := hB1.cell 5 rfl;have c6 := hB1.cell 6 rfl;clear hq hH;go_enter Tryz.func42, Tryz.ntmps42
 go_wp2_with fail
 refine (V.out _).mono ?_
 rintro e w3 ⟨rfl, hb3⟩
 rw [validN_eq];replace hT := hT.below hb3;replace hB1 := hB1.below hb3;have hG3 := hG1.below_ hb3;clear hG1 hb3 V c0 c1 c2 c3 c4 c5 c6;have c0 := hB1.cell 0 rfl;have c1 := hB1.cell 1 rfl;have c2 := hB1.cell 2 rfl;have c3 := hB1.cell 3 rfl;have c4 := hB1.cell 4 rfl;have c5 := hB1.cell 5 rfl;have c6 := hB1.cell 6 rfl;clear hB1
 cases hv : validK q with
 | false =>
  have E : Hid (codeK q = 1 ∧ itmK q = zeroItm) := ⟨by rw [codeK, if_neg (by rw [hv]; simp)], by rw [itmK, if_neg (by rw [hv]; simp)]⟩
  clear hv;go_wp2_with (with_reducible refine stop_store ?_)
  refine stI hT fun w9 hT9 hg9 => ?_
  have hG9 := hG3.grownOwn hTn (by omega) hg9;go_wp2_with fail
  refine ret_row_tmp rfl rfl hT9 rfl rfl size_item rfl ?_
  exact ⟨_, by rw [E.out.1]; rfl, by rw [E.out.2]; exact ⟨none, 0, none, 0, H, rfl, hG9, IsItem.plain H 0 0 (by omega) (by omega)⟩⟩
 | true =>
  have E : Hid (codeK q = 0 ∧ itmK q = .mk 5 0 [] (pairsK q)) := ⟨by rw [codeK, if_pos hv], by rw [itmK, if_pos hv]; rfl⟩
  have HV := Hh hv;clear hv;go_wp2_with fail
  refine (ref11_pairs q.kty q.crv q.alg HQ.out.kty HQ.out.crv HQ.out.alg HQ.out.kid HQ.out.x HQ.out.d HQ.out.k (validK_len HV.out) (validK_k HV.out) _ hG3.holds).mono ?_
  rintro e w4 ⟨v4, rfl, A4, c9, H4, rfl, hG4, hr4⟩
  rw [pairsL_eq] at hr4 ⊢;have hG5 := hG3.trans hG4;have hTn4 := hG4.none hTn hT.lt;replace hT := hT.below hG4.below;have HR4 := Hh (IsRowI.of hr4);have HB := Hh (ref_Build2 (hTab.mono hG5.le) HR4.out (by have := (pairsK_len q).2; omega) w4 hG5.holds);clear hG4 hr4 hG3 c0 c1 c2 c3 c4 c5 c6;go_wp2_with fail
  refine HB.out.mono ?_
  rintro e w6 ⟨v6, h6⟩
  have h6' : ∃ xa xb xc xd H6, e = .returned (.tuple #[itemV (.mk 5 0 [] (pairsK q)) xa xb xc xd, .int .i64 0]) ∧ Grows w4 H4 w6 H6 ∧ IsItem H6 xa xb xc xd (.mk 5 0 [] (pairsK q)) := by
   rcases h6 with ⟨l, rfl, ⟨xa, xb, xc, xd, H6, rfl, hG6, hI6⟩, _, _, hl⟩ | ⟨_, _, _, _, hno⟩
   ·obtain rfl := hl (buildK HV.out).2.1
    exact ⟨xa, xb, xc, xd, H6, rfl, hG6, hI6⟩
   ·exact absurd (buildK HV.out) hno
  clear h6;obtain ⟨xa, xb, xc, xd, H6, rfl, hG6, hI6⟩ := h6';have hG7 := hG5.trans hG6;have hTn6 := hG6.none hTn4 hT.lt;replace hT := hT.below hG6.below;clear hG6 hG5 HB;go_wp2_with (with_reducible refine stop_store ?_)
  refine stI hT fun w9 hT9 hg9 => ?_
  have hG9 := hG7.grownOwn hTn6 (by omega) hg9;go_wp2_with fail
  refine ret_row_tmp rfl rfl hT9 rfl rfl size_item rfl ?_
  exact ⟨_, by rw [E.out.1]; rfl, by rw [E.out.2]; exact ⟨xa, xb, xc, xd, H6, rfl, hG9, hI6⟩⟩
theorem stop_insert {P : Program} {ops : Array Oper} {Q : Exit → Act → World → Prop} {rest : List Oper} {a : Act} {w : World} {dst : Option Tmp} {ty : TypeId} {x y z : Operand} {T : TypeId} {pos : String} {af : Array Edge} {g : Option (Nat × Bool)}
  (h : Stopped (wpList P ops Q (⟨dst, .insert ty x y z, T, pos, af, g⟩ :: rest) a w)) : wpList P ops Q (⟨dst, .insert ty x y z, T, pos, af, g⟩ :: rest) a w := h
def lookE (es : List (Int × Value)) (k : Int) : Option Value := (es.find? fun e => k == e.1).map (·.2)
def entE : List (Int × Value) → Nat → List MapEntry
 | [], _ => []
 | e :: r, n => ⟨.int .i64 e.1, e.2, n⟩ :: entE r (n + 1)
def MapIs (w : World) (b : Nat) (es : List (Int × Value)) : Prop := w.heap[b]? = some (.map (entE es 0).toArray es.length)
theorem entE_snoc : ∀ (l : List (Int × Value)) (e : Int × Value) (n : Nat), entE (l ++ [e]) n = entE l n ++ [⟨.int .i64 e.1, e.2, n + l.length⟩]
 | [], e, n => by simp [entE]
 | x :: l, e, n => by simp only [List.cons_append, entE, entE_snoc l e (n + 1), List.length_cons]; rw [show n + 1 + l.length = n + (l.length + 1) by omega]
theorem findNow_ent (k : Int) : ∀ (l : List (Int × Value)) (n i : Nat), Instr.findNow (.int .i64) (.int .i64 k) (entE l n) i = some ((l.findIdx? fun e => k == e.1).bind fun j => (l[j]?).map fun e => (i + j, e.2))
 | [], n, i => by simp [entE, Instr.findNow]
 | e :: l, n, i => by
  rw [entE, Instr.findNow]
  simp only [Instr.sameNow, if_true]
  rw [List.findIdx?_cons]
  cases h : (k == e.1) with
  | true => simp
  | false =>
   simp only [findNow_ent k l (n + 1) (i + 1), Bool.false_eq_true, if_false]
   cases List.findIdx? (fun e => k == e.1) l with
   | none => simp
   | some j =>
    simp only [Option.bind_some, Option.map_some, List.getElem?_cons_succ]
    congr 2
    funext e
    congr 1
    omega
theorem MapIs.lt {w : World} {b : Nat} {es : List (Int × Value)} (h : MapIs w b es) : b < w.heap.size := (Array.getElem?_eq_some_iff.1 h).1
theorem MapIs.below {w w' : World} {b : Nat} {es : List (Int × Value)} (h : MapIs w b es) (hb : Below w.heap.size w w') : MapIs w' b es := (hb.block b h.lt).trans h
theorem MapIs.alloc {w : World} {b : Nat} {es : List (Int × Value)} (h : MapIs w b es) (o : Obj) : MapIs (w.alloc o) b es := h.below (below_box w o)
theorem MapIs.grown {w w' : World} {b : Nat} {es : List (Int × Value)} {row : Option Nat} (h : MapIs w b es) (hb : w.grownBy w' row) (hg : row ≠ some b) : MapIs w' b es := (hb.block b h.lt (Ne.symm hg)).trans h
theorem MapIs.new (w : World) : MapIs (w.alloc (.map #[] 0)) w.heap.size [] := heap_alloc_new w _
theorem lookE_idx (es : List (Int × Value)) (k : Int) : ((es.findIdx? fun e => k == e.1).bind fun j => es[j]?) = es.find? fun e => k == e.1 := by
 induction es with
 | nil => rfl
 | cons e l ih =>
  rw [List.findIdx?_cons, List.find?_cons]
  cases h : (k == e.1) with
  | true => simp
  | false =>
   simp only [Bool.false_eq_true, if_false]
   rw [← ih]
   cases List.findIdx? (fun e => k == e.1) l with
   | none => rfl
   | some j => simp
section
variable {P : Program} {w : World} {t kt et : TypeId} {b : Nat} {es : List (Int × Value)}
theorem run_mapIns (hu : P.underlying t = some (.map kt et)) (hk : P.underlying kt = some (.int .i64)) (hb : MapIs w b es) (k : Int) (v : Value) (hne : lookE es k = none) :
  ∃ w', (Instr.mapUpdate t (.map (some b)) (.int .i64 k) v).run P w = .ok () w' ∧ MapIs w' b (es ++ [(k, v)]) ∧ w.grownBy w' (some b) := by
 have h0 : (es.findIdx? fun e => k == e.1) = none := by
  unfold lookE at hne
  rw [Option.map_eq_none_iff] at hne;rw [List.findIdx?_eq_none_iff]
  intro x hx
  have := List.find?_eq_none.1 hne x hx
  simpa using this
 have hf : Instr.findNow (.int .i64) (.int .i64 k) (entE es 0) 0 = some none := by rw [findNow_ent, h0]; rfl
 refine ⟨{ w with heap := w.heap.setIfInBounds b (.map (entE es 0 ++ [(⟨.int .i64 k, v, es.length⟩ : MapEntry)]).toArray (es.length + 1)) }, ?_, ?_, ⟨rfl, rfl, rfl, by simp, fun i _ hi => ?_⟩⟩
 ·unfold Instr.mapUpdate
  have h1 := MapKept.run_checkKey (P := P) (w := w) hk (k := .int .i64 k) (by simp [MapKept.IsKey]) false 9999;have h2 := MapKept.run_findKey (P := P) (w := w) hk hf;have h3 := MapKept.run_setObj_map (P := P) (w := w) (.map (entE es 0 ++ [(⟨.int .i64 k, v, es.length⟩ : MapEntry)]).toArray (es.length + 1)) hb
  simp [Sem.run_bind, Result.andThen, run_underlying hu, MapKept.run_getObj_map hb, h1, h2, h3]
 ·have hlt := hb.lt
  unfold MapIs
  simp [hlt, entE_snoc]
 ·simp [Array.getElem?_setIfInBounds]
  intro e
  exact absurd e.symm (by intro e; exact hi (by rw [e]))
theorem run_mapLook (hu : P.underlying t = some (.map kt et)) (hk : P.underlying kt = some (.int .i64)) (hb : MapIs w b es) {z : Value} (hz : (zeroValue et).run P w = .ok z w) (k : Int) :
  (Instr.lookup t (.map (some b)) (.int .i64 k) false).run P w = .ok ((lookE es k).getD z) w := by
 have hf := findNow_ent k es 0 0
 unfold Instr.lookup
 have h1 := fun e => MapKept.run_checkKey (P := P) (w := w) hk (k := .int .i64 k) (by simp [MapKept.IsKey]) e 9999
 have hi := lookE_idx es k;have hL : lookE es k = (((es.findIdx? fun e => k == e.1).bind fun j => es[j]?)).map (·.2) := by rw [hi]; rfl
 cases hx : (es.findIdx? fun e => k == e.1) with
 | none =>
  rw [hx] at hf hL;have h2 := MapKept.run_findKey (P := P) (w := w) hk hf
  simp [Sem.run_bind, Result.andThen, run_underlying hu, MapKept.run_getObj_map hb, h1, h2, hz, hL]
 | some j =>
  rw [hx] at hf hL
  obtain ⟨e, he⟩ : ∃ e, es[j]? = some e := by
   have := (List.findIdx?_eq_some_iff_getElem.1 hx).1
   exact ⟨_, List.getElem?_eq_getElem this⟩
  simp only [Option.bind_some, he, Option.map_some] at hf hL
  have h2 := MapKept.run_findKey (P := P) (w := w) hk hf
  simp [Sem.run_bind, Result.andThen, run_underlying hu, MapKept.run_getObj_map hb, h1, h2, hL]
theorem wpList_mapIns {ops : Array Oper} {rest : List Oper} {o : Oper} {a : Act} {Q : Exit → Act → World → Prop} (hgd : o.guard = none) (m x v : Operand) (ho : o.op = .insert t m x v)
  (hu : P.underlying t = some (.map kt et)) (hk : P.underlying kt = some (.int .i64)) (hb : MapIs w b es) (k : Int) (u : Value) (hm : a.eval m = .map (some b)) (hx : a.eval x = .int .i64 k) (hv : a.eval v = u) (hne : lookE es k = none)
  (h : ∀ w', MapIs w' b (es ++ [(k, u)]) → w.grownBy w' (some b) → wpList P ops Q rest (a.put o.dst undef) w') :
  wpList P ops Q (o :: rest) a w := by
 refine wpList_plain hgd fun K' hK' => ?_
 obtain ⟨w', hrun, r1, r2⟩ := run_mapIns hu hk hb k u hne
 unfold Oper.wp
 simp [execOp, ho, hm, hx, hv, hrun, Result.andThen]
 exact hK' _ _ (h w' r1 r2)
end
def nmP : Itm → Option Int
 | .mk k n _ _ => if 1048576 < n then none else if k = 0 then some (n : Int) else if k = 1 then some (-1 - (n : Int)) else none
def nmR : Itm → Int
 | .mk k n _ _ => if k = 1 then -1 - ((min n 1048576 : Nat) : Int) else ((min n 1048576 : Nat) : Int)
def NumOut (w : World) (r : Option Int) (e : Ending) (w' : World) : Prop :=
 (match r with | some v => e = .returned (.tuple #[.int .i64 v, .bool true]) | none => e = .returned (.tuple #[.int .i64 0, .bool false])) ∧ Below w.heap.size w w'
theorem key_number {H : Snap} {k n : Int} {ba : Option Addr} {bl bc : Nat} {ia : Option Addr} {il ic : Nat} {x : Itm} (hx : ItemA H k n ba bl bc ia il ic x) (w : World) :
  Calls Tryz.prog 64 #[.agg #[.int .i64 k, .int .u64 n, .slice ba bl bc, .slice ia il ic]] w (NumOut w (nmP x)) := by
 obtain ⟨rfl, rfl, rfl, rfl, _⟩ := hx;obtain ⟨xk, xn, xb, xl⟩ := x
 simp only [Itm.kind, Itm.n, Itm.bytes, Itm.items]
 have hB := Blk.new w 75 #[.int .i64 xk, .int .u64 (xn : Int), .slice ba xb.length bc, .slice ia xl.length ic];have hb := below_box w (.cells #[.int .i64 xk, .int .u64 (xn : Int), .slice ba xb.length bc, .slice ia xl.length ic] 75);have c0 := hB.cell 0 rfl;have c1 := hB.cell 1 rfl;clear hB
 by_cases h1 : 1048576 < xn
 ·have E : Hid (nmP (.mk xk xn xb xl) = none) := by rw [Hid, nmP, if_pos h1]
  have i1 : (1048576 : Int) < (xn : Int) := by omega
  have MNX : min (xn : Int) 1048576 = 1048576 := by omega
  have d1 : decide ((1048576 : Int) < (xn : Int)) = true := decide_eq_true i1;clear h1;go_enter Tryz.func64, Tryz.ntmps64
  go_wp2_with fail
  go_ret2
  rw [E.out]
  exact ⟨rfl, hb⟩
 ·have i1 : ¬ (1048576 : Int) < (xn : Int) := by omega
  have MNX : min (xn : Int) 1048576 = (xn : Int) := by omega
  have d1 : decide ((1048576 : Int) < (xn : Int)) = false := decide_eq_false i1;have W1 : IntKind.i64.wrap (xn : Int) = (xn : Int) := IntWalk.i64_in _ (by omega);have W2 : IntKind.i64.wrap (-1 - (xn : Int)) = -1 - (xn : Int) := IntWalk.i64_in _ (by omega)
  by_cases h0 : xk = 0
  ·subst h0;have E : Hid (nmP (.mk 0 xn xb xl) = some (xn : Int)) := by rw [Hid, nmP, if_neg h1, if_pos rfl]
   clear h1;go_enter Tryz.func64, Tryz.ntmps64
   go_wp2_with fail
   go_ret2
   rw [E.out]
   exact ⟨rfl, hb⟩
  ·have b0 : (xk == 0) = false := by rw [beq_eq_false_iff_ne]; exact h0
   have p0 : (xk = 0) = False := eq_false h0
   by_cases h2 : xk = 1
   ·subst h2;have E : Hid (nmP (.mk 1 xn xb xl) = some (-1 - (xn : Int))) := by rw [Hid, nmP, if_neg h1, if_neg h0, if_pos rfl]
    clear h1 h0 b0 p0;go_enter Tryz.func64, Tryz.ntmps64
    go_wp2_with fail
    go_ret2
    rw [E.out]
    exact ⟨rfl, hb⟩
   ·have b1 : (xk == 1) = false := by rw [beq_eq_false_iff_ne]; exact h2
    have p1 : (xk = 1) = False := eq_false h2;have E : Hid (nmP (.mk xk xn xb xl) = none) := by rw [Hid, nmP, if_neg h1, if_neg h0, if_neg h2]
    clear h1 h0 h2;go_enter Tryz.func64, Tryz.ntmps64
    go_wp2_with fail
    go_ret2
    rw [E.out]
    exact ⟨rfl, hb⟩
def setNum (q : Ky) (k n : Int) : Option Ky :=
 if k = 1 then some { q with kty := n } else if k = 3 then some { q with alg := n } else if k = -1 then some { q with crv := n } else none
def setStr (q : Ky) (k : Int) (b : List UInt8) : Option Ky :=
 if k = 2 then some { q with kid := b } else if k = -1 then some { q with k := b } else if k = -2 then some { q with x := b } else if k = -4 then some { q with d := b } else none
def kstepP (q : Ky) (a v : Itm) : Option Ky :=
 match nmP a with
 | none => none
 | some k => match nmP v with
  | some n => setNum q k n
  | none => if v.kind = 2 then setStr q k v.bytes else none
def kfoldP : Ky → List Itm → Option Ky
 | q, a :: v :: l => match kstepP q a v with
  | none => none
  | some q' => kfoldP q' l
 | q, _ => some q
def kstepR (q : Ky) (a v : Itm) : Ky :=
 if nmR a = 1 then { q with kty := nmR v } else if nmR a = 2 then { q with kid := v.bytes } else if nmR a = 3 then { q with alg := nmR v }
 else if nmR a = -1 then { q with crv := nmR v, k := v.bytes } else if nmR a = -2 then { q with x := v.bytes } else if nmR a = -4 then { q with d := v.bytes } else q
def kfoldR : Ky → List Itm → Ky
 | q, a :: v :: l => kfoldR (kstepR q a v) l
 | q, _ => q
theorem kfoldP_nil (q : Ky) : kfoldP q [] = some q := by simp [kfoldP]
theorem kfoldR_nil (q : Ky) : kfoldR q [] = q := by simp [kfoldR]
def nilKy : Ky := ⟨0, 0, 0, [], [], [], []⟩
theorem nmP_intP {n : Int} (h1 : -1048577 ≤ n) (h2 : n ≤ 1048576) : nmP (intP n) = some n := by
 unfold intP
 split
 ·rw [nmP, if_neg (by omega), if_neg (by omega), if_pos rfl];congr 1
  omega
 ·rw [nmP, if_neg (by omega), if_pos rfl];congr 1
  omega
theorem nmR_intP {n : Int} (h1 : -1048577 ≤ n) (h2 : n ≤ 1048576) : nmR (intP n) = n := by
 unfold intP
 split
 ·rw [nmR, if_pos rfl]
  omega
 ·rw [nmR, if_neg (by omega)]
  omega
theorem intP_bytes (n : Int) : (intP n).bytes = [] := by unfold intP; split <;> rfl
theorem nmP_strI (b : List UInt8) : nmP (strI b) = none := by
 rw [strI, nmP, if_neg (by omega), if_neg (by omega), if_neg (by omega)]
theorem kfoldP_num (q q' : Ky) (k n : Int) (l : List Itm) (hk1 : -1048577 ≤ k) (hk2 : k ≤ 1048576) (hn1 : -1048577 ≤ n) (hn2 : n ≤ 1048576) (h : setNum q k n = some q') : kfoldP q (intP k :: intP n :: l) = kfoldP q' l := by
 rw [kfoldP, kstepP, nmP_intP hk1 hk2]
 simp only [nmP_intP hn1 hn2, h]
theorem kfoldP_str (q q' : Ky) (k : Int) (b : List UInt8) (l : List Itm) (hk1 : -1048577 ≤ k) (hk2 : k ≤ 1048576) (h : setStr q k b = some q') : kfoldP q (intP k :: strI b :: l) = kfoldP q' l := by
 rw [kfoldP, kstepP, nmP_intP hk1 hk2];have e : (strI b).kind = 2 := rfl;have e2 : (strI b).bytes = b := rfl
 simp only [nmP_strI, e, if_true, e2, h]
theorem kfoldP_opt (q q' : Ky) (k : Int) (b : List UInt8) (l : List Itm) (hk1 : -1048577 ≤ k) (hk2 : k ≤ 1048576) (h : setStr q k b = some q') (h0 : b = [] → q' = q) : kfoldP q (optS k b ++ l) = kfoldP q' l := by
 unfold optS
 split
 ·exact kfoldP_str q q' k b l hk1 hk2 h
 ·rename_i hb
  have : b = [] := by cases b with
   | nil => rfl
   | cons _ _ => simp at hb
  rw [h0 this];rfl
theorem kfoldR_num (q : Ky) (k n : Int) (l : List Itm) : kfoldR q (intP k :: intP n :: l) = kfoldR (kstepR q (intP k) (intP n)) l := rfl
theorem kfoldR_opt (q q' : Ky) (k : Int) (b : List UInt8) (l : List Itm) (h : kstepR q (intP k) (strI b) = q') (h0 : b = [] → q' = q) : kfoldR q (optS k b ++ l) = kfoldR q' l := by
 unfold optS
 split
 ·show kfoldR (kstepR q (intP k) (strI b)) l = _
  rw [h]
 ·rename_i hb
  have : b = [] := by cases b with
   | nil => rfl
   | cons _ _ => simp at hb
  rw [h0 this];rfl
theorem klen0 {b : List UInt8} (h : b.length = 0) : b = [] := List.eq_nil_of_length_eq_zero h
theorem kfoldP_pairs {q : Ky} (h : validK q = true) : kfoldP nilKy (pairsK q) = some q := by
 have hv := (validK_iff q).1 h;obtain ⟨kty, crv, alg, kid, x, d, k⟩ := q
 simp only at hv
 have ha : kfoldP nilKy (pairsK ⟨kty, crv, alg, kid, x, d, k⟩) = kfoldP ⟨kty, 0, alg, kid, [], [], []⟩ (if kty = 4 then optS (-1) k else [intP (-1), intP crv] ++ optS (-2) x ++ optS (-4) d) := by
  unfold pairsK
  simp only [List.append_assoc, List.cons_append, List.nil_append]
  rw [kfoldP_num nilKy ⟨kty, 0, 0, [], [], [], []⟩ 1 kty _ (by omega) (by omega) (by omega) (by omega) rfl];rw [kfoldP_opt ⟨kty, 0, 0, [], [], [], []⟩ ⟨kty, 0, 0, kid, [], [], []⟩ 2 kid _ (by omega) (by omega) rfl (fun e => by rw [e])]
  split
  ·rename_i h0
   rw [h0];rfl
  ·rw [List.cons_append, List.cons_append, List.nil_append];rw [kfoldP_num ⟨kty, 0, 0, kid, [], [], []⟩ ⟨kty, 0, alg, kid, [], [], []⟩ 3 alg _ (by omega) (by omega) (by omega) (by omega) rfl]
 rw [ha]
 rcases hv.2.2.2 with ⟨h1, hc, hx, hd, h0, hk⟩ | ⟨h4, hc, hxd, hk1, hk2⟩
 ·rw [if_neg (by omega)];obtain rfl := klen0 hk
  simp only [List.append_assoc, List.cons_append, List.nil_append]
  rw [kfoldP_num _ ⟨kty, crv, alg, kid, [], [], []⟩ (-1) crv _ (by omega) (by omega) (by omega) (by omega) rfl];rw [kfoldP_opt _ ⟨kty, crv, alg, kid, x, [], []⟩ (-2) x _ (by omega) (by omega) rfl (fun e => by rw [e])];have := kfoldP_opt ⟨kty, crv, alg, kid, x, [], []⟩ ⟨kty, crv, alg, kid, x, d, []⟩ (-4) d [] (by omega) (by omega) rfl (fun e => by rw [e]);rw [List.append_nil] at this;rw [this, kfoldP_nil]
 ·rw [if_pos h4];obtain rfl := klen0 (show x.length = 0 by omega);obtain rfl := klen0 (show d.length = 0 by omega);have := kfoldP_opt ⟨kty, 0, alg, kid, [], [], []⟩ ⟨kty, 0, alg, kid, [], [], k⟩ (-1) k [] (by omega) (by omega) rfl (fun e => by rw [e]);rw [List.append_nil] at this;rw [this, kfoldP_nil, hc]
theorem kstepR_num (q : Ky) (k n : Int) (hk1 : -1048577 ≤ k) (hk2 : k ≤ 1048576) (hn1 : -1048577 ≤ n) (hn2 : n ≤ 1048576) : kstepR q (intP k) (intP n) =
  if k = 1 then { q with kty := n } else if k = 2 then { q with kid := [] } else if k = 3 then { q with alg := n }
  else if k = -1 then { q with crv := n, k := [] } else if k = -2 then { q with x := [] } else if k = -4 then { q with d := [] } else q := by
 unfold kstepR
 rw [nmR_intP hk1 hk2, nmR_intP hn1 hn2, intP_bytes]
theorem kstepR_str (q : Ky) (k : Int) (b : List UInt8) (hk1 : -1048577 ≤ k) (hk2 : k ≤ 1048576) : kstepR q (intP k) (strI b) =
  if k = 1 then { q with kty := 0 } else if k = 2 then { q with kid := b } else if k = 3 then { q with alg := 0 }
  else if k = -1 then { q with crv := 0, k := b } else if k = -2 then { q with x := b } else if k = -4 then { q with d := b } else q := by
 unfold kstepR
 rw [nmR_intP hk1 hk2, show nmR (strI b) = 0 by rw [strI, nmR, if_neg (by omega)]; simp];rfl
theorem kfoldR_pairs {q : Ky} (h : validK q = true) : kfoldR nilKy (pairsK q) = q := by
 have hv := (validK_iff q).1 h;obtain ⟨kty, crv, alg, kid, x, d, k⟩ := q
 simp only at hv
 have ha : kfoldR nilKy (pairsK ⟨kty, crv, alg, kid, x, d, k⟩) = kfoldR ⟨kty, 0, alg, kid, [], [], []⟩ (if kty = 4 then optS (-1) k else [intP (-1), intP crv] ++ optS (-2) x ++ optS (-4) d) := by
  unfold pairsK
  simp only [List.append_assoc, List.cons_append, List.nil_append]
  rw [kfoldR_num, kstepR_num _ _ _ (by omega) (by omega) (by omega) (by omega), if_pos rfl];rw [kfoldR_opt _ ⟨kty, 0, 0, kid, [], [], []⟩ 2 kid _ (by rw [kstepR_str _ _ _ (by omega) (by omega), if_neg (by omega), if_pos rfl]; rfl) (fun e => by rw [e]; rfl)]
  split
  ·rename_i h0
   rw [h0];rfl
  ·rw [List.cons_append, List.cons_append, List.nil_append];rw [kfoldR_num, kstepR_num _ _ _ (by omega) (by omega) (by omega) (by omega), if_neg (by omega), if_neg (by omega), if_pos rfl]
 rw [ha]
 rcases hv.2.2.2 with ⟨h1, hc, hx, hd, h0, hk⟩ | ⟨h4, hc, hxd, hk1, hk2⟩
 ·rw [if_neg (by omega)];obtain rfl := klen0 hk
  simp only [List.append_assoc, List.cons_append, List.nil_append]
  rw [kfoldR_num, kstepR_num _ _ _ (by omega) (by omega) (by omega) (by omega), if_neg (by omega), if_neg (by omega), if_neg (by omega), if_pos rfl];rw [kfoldR_opt _ ⟨kty, crv, alg, kid, x, [], []⟩ (-2) x _ (by rw [kstepR_str _ _ _ (by omega) (by omega), if_neg (by omega), if_neg (by omega), if_neg (by omega), if_neg (by omega), if_pos rfl]) (fun e => by rw [e])];have := kfoldR_opt ⟨kty, crv, alg, kid, x, [], []⟩ ⟨kty, crv, alg, kid, x, d, []⟩ (-4) d [] (by rw [kstepR_str _ _ _ (by omega) (by omega), if_neg (by omega), if_neg (by omega), if_neg (by omega), if_neg (by omega), if_neg (by omega), if_pos rfl]) (fun e => by rw [e]);rw [List.append_nil] at this;rw [this, kfoldR_nil]
 ·rw [if_pos h4];obtain rfl := klen0 (show x.length = 0 by omega);obtain rfl := klen0 (show d.length = 0 by omega);have := kfoldR_opt ⟨kty, 0, alg, kid, [], [], []⟩ ⟨kty, 0, alg, kid, [], [], k⟩ (-1) k [] (by rw [kstepR_str _ _ _ (by omega) (by omega), if_neg (by omega), if_neg (by omega), if_neg (by omega), if_pos rfl]) (fun e => by rw [e]);rw [List.append_nil] at this;rw [this, kfoldR_nil, hc]
def IsKeyI (x : Itm) (q : Ky) : Prop := validK q = true ∧ itemK q = x
theorem kfoldP_key {x : Itm} {q : Ky} (h : IsKeyI x q) : kfoldP nilKy x.items = some q := by rw [← h.2]; exact kfoldP_pairs h.1
theorem kfoldR_key {x : Itm} {q : Ky} (h : IsKeyI x q) : kfoldR nilKy x.items = q := by rw [← h.2]; exact kfoldR_pairs h.1
theorem byte_wrap (v : Int) : ∃ x : UInt8, Value.int .u8 (IntKind.u8.wrap v) = byteV x := by
 refine ⟨UInt8.ofNat (v % 256).toNat, ?_⟩
 have h : (v % 256).toNat < 256 := by omega
 rw [IntKind.wrap_u8, byteV, UInt8.toNat_ofNat_of_lt' (by simpa using h)];congr 1
 omega
theorem Ways.three {P : Program} {ops : Array Oper} {Q : Exit → Act → World → Prop} {md : Region.Mode} {S : World → Prop} {z : Nat} {i j l : Nat} {o o' o2 : Oper} {n : Nat} {L : Array Bool} {a : Act} {w : World} (hi : ops[i]? = some o) (hj : ops[j]? = some o') (hl : ops[l]? = some o2) (hr : Region.ready md ops L = [i, j, l])
  (h : ∀ K : Act → World → Prop, Shut (∀ a w, (i ≠ z → S w) → ((i ≠ z → S w) → Ways P md ops Q S z n (L.setIfInBounds i true) a w) → K a w) →
   if Region.wanted o (yielded ops a.tmps) = true then Oper.wp P o a w K Q else K (a.put o.dst undef) w)
  (h' : ∀ K : Act → World → Prop, Shut (∀ a w, (j ≠ z → S w) → ((j ≠ z → S w) → Ways P md ops Q S z n (L.setIfInBounds j true) a w) → K a w) →
   if Region.wanted o' (yielded ops a.tmps) = true then Oper.wp P o' a w K Q else K (a.put o'.dst undef) w)
  (h2 : ∀ K : Act → World → Prop, Shut (∀ a w, (l ≠ z → S w) → ((l ≠ z → S w) → Ways P md ops Q S z n (L.setIfInBounds l true) a w) → K a w) →
   if Region.wanted o2 (yielded ops a.tmps) = true then Oper.wp P o2 a w K Q else K (a.put o2.dst undef) w) : Ways P md ops Q S z (n + 1) L a w := by
 refine ⟨fun h0 => (by rw [hr] at h0; cases h0), fun k hk => ?_⟩
 rw [hr] at hk
 rcases (by simpa using hk : k = i ∨ k = j ∨ k = l) with hk | hk | hk
 ·subst hk
  exact wpOp_step hi fun K hK => h K fun a w hS hW => hK a w ⟨hS, hW hS⟩
 ·subst hk
  exact wpOp_step hj fun K hK => h' K fun a w hS hW => hK a w ⟨hS, hW hS⟩
 ·subst hk
  exact wpOp_step hl fun K hK => h2 K fun a w hS hW => hK a w ⟨hS, hW hS⟩
theorem byte_mod (v : Int) : ∃ x : UInt8, Value.int .u8 (v % 256) = byteV x := by
 obtain ⟨x, hx⟩ := byte_wrap v
 exact ⟨x, by rw [← hx, IntKind.wrap_u8]⟩
theorem mk_Some (q : Int) {n : Nat} (hn : n ≤ 128) (w : World) :
  Calls Tryz.prog 24 #[.int .i64 q, .int .i64 (n : Int)] w fun e w' => ∃ A c l, e = .returned (.slice A n c) ∧ l.length = n ∧ Fresh w l (.slice A n c) w' := by
 have hb1 := Below.refl w.heap.size w;go_enter Tryz.func24, Tryz.ntmps24
 go_wp2_with fail
 go_loopw [5, 8] (fun v3 v5 wr => ∃ (k : Nat) (VA : Option Addr) (vc vn : Nat) (l : List UInt8), k ≤ n ∧ v5 = .int .i64 (k : Int) ∧ v3 = .slice VA vn vc ∧ vn = k ∧ l.length = k ∧ OwnB wr w.heap.size (.slice VA vn vc) l ∧ Below w.heap.size w wr) (fun _ v5 _ => n - (intOf v5).toNat)
 case atStart => exact ⟨0, none, 0, 0, [], by omega, rfl, rfl, rfl, rfl, OwnB.nil _ _, hb1⟩
 case round =>
  clear hb1;obtain ⟨k, VA, vc, vn, l, hk, rfl, rfl, hvn, hlk, hOr, hbr⟩ := hrel;have HK := Hh hk;have HV := Hh (And.intro hvn hlk);clear hk hvn hlk
  by_cases hlt : k < n
  ·have hki : (k : Int) < (n : Int) := by omega
   have hkd : decide ((k : Int) < (n : Int)) = true := decide_eq_true hki;have hkn : decide (k < n) = true := decide_eq_true hlt;have HLT := Hh hlt;go_wp2_with (at_builtin; refine stop_in ?_)
   unfold Stopped
   generalize IntKind.u64.wrap q / 2 ^ (8 * (k % 8)) + (k : Int) / 8 = v0
   obtain ⟨x, hx⟩ : ∃ x : UInt8, Value.int .u8 (v0 % 256) = byteV x := byte_mod _;have HC : Hid ((#[.int .u8 (v0 % 256)] : Array Value).toList = [x].map byteV) := by simp [Hid, ← hx]
   have hO1 := hOr.alloc (.cells #[.int .u8 (v0 % 256)] 5);have hb2 := hbr.alloc hbr.size (.cells #[.int .u8 (v0 % 256)] 5)
   refine wpList_app_bytes rfl (.tmp 11) (.tmp 24) rfl w.heap.size (.slice VA vn vc) l rfl hO1 _ 1 _ [x] rfl rfl (Src.new _ _ _ _ rfl _ HC.out) (by have := HV.out; have := HK.out; simp; omega) hb2.size fun v' w7 hO7 hg7 hat7 => ?_
   have hb7 := hb2.grown hg7 hb2.size (fun q hq => (hO1.lt q hq).1);obtain ⟨VA', vc', rfl, hjunk⟩ := hO7.form;clear hjunk hg7 hat7 hx hO1 hb2 hOr hbr;obtain ⟨m, hm⟩ : ∃ m, l ++ [x] = m := ⟨_, rfl⟩
   have HM : Hid (m.length = k + 1) := by have := HV.out; rw [Hid, ← hm, List.length_append]; simp; omega
   rw [hm] at hO7 ⊢;clear hm;go_wp2_with fail
   go_roundw
   case rel => exact ⟨k + 1, VA', vc', _, m, by have := HLT.out; omega, by go_num, rfl, HM.out, HM.out, hO7, hb7⟩
   case measure => have := HLT.out; simp [intOf]; omega
  ·have hki : ¬ ((k : Int) < (n : Int)) := by omega
   have hkd : decide ((k : Int) < (n : Int)) = false := decide_eq_false hki;have hkn : decide (k < n) = false := decide_eq_false hlt;obtain rfl : vn = n := by have := HV.out; have := HK.out; omega
   have HL : Hid (l.length = vn) := by have := HV.out; rw [Hid]; omega
   clear hlt;go_wp2_with fail
   go_ret
   exact ⟨VA, vc, rfl, l, HL.out, hOr, hbr⟩
theorem mk_Seed (n : Int) (w : World) :
  Calls Tryz.prog 8 #[.int .i64 n] w fun e w' => ∃ A c l, e = .returned (.slice A 32 c) ∧ l.length = 32 ∧ Fresh w l (.slice A 32 c) w' := by
 have hb1 := Below.refl w.heap.size w;go_enter Tryz.func8, Tryz.ntmps8
 go_wp2_with fail
 go_loopw [3, 5] (fun v3 v5 wr => ∃ (k : Nat) (VA : Option Addr) (vc vn : Nat) (l : List UInt8), k ≤ 32 ∧ v5 = .int .i64 (k : Int) ∧ v3 = .slice VA vn vc ∧ vn = k ∧ l.length = k ∧ OwnB wr w.heap.size (.slice VA vn vc) l ∧ Below w.heap.size w wr) (fun _ v5 _ => 32 - (intOf v5).toNat)
 case atStart => exact ⟨0, none, 0, 0, [], by omega, rfl, rfl, rfl, rfl, OwnB.nil _ _, hb1⟩
 case round =>
  clear hb1;obtain ⟨k, VA, vc, vn, l, hk, rfl, rfl, hvn, hlk, hOr, hbr⟩ := hrel;have HK := Hh hk;have HV := Hh (And.intro hvn hlk);clear hk hvn hlk
  by_cases hlt : k < 32
  ·have hki : (k : Int) < 32 := by omega
   have hkd : decide ((k : Int) < 32) = true := decide_eq_true hki;have hkn : decide (k < 32) = true := decide_eq_true hlt;have HLT := Hh hlt;go_wp2_with (at_builtin; refine stop_in ?_)
   unfold Stopped
   obtain ⟨x, hx⟩ : ∃ x : UInt8, Value.int .u8 (bits BinOp.xor IntKind.u8 (IntKind.u64.wrap n / 2 ^ (8 * (k % 8)) % 256) (37 * ((k : Int) / 8))) = byteV x := byte_wrap _
   generalize bits BinOp.xor IntKind.u8 (IntKind.u64.wrap n / 2 ^ (8 * (k % 8)) % 256) (37 * ((k : Int) / 8)) = v at hx ⊢
   have HC : Hid ((#[.int .u8 v] : Array Value).toList = [x].map byteV) := by simp [Hid, ← hx]
   have hO1 := hOr.alloc (.cells #[.int .u8 v] 5);have hb2 := hbr.alloc hbr.size (.cells #[.int .u8 v] 5)
   refine wpList_app_bytes rfl (.tmp 8) (.tmp 22) rfl w.heap.size (.slice VA vn vc) l rfl hO1 _ 1 _ [x] rfl rfl (Src.new _ _ _ _ rfl _ HC.out) (by have := HV.out; have := HK.out; simp; omega) hb2.size fun v' w7 hO7 hg7 hat7 => ?_
   have hb7 := hb2.grown hg7 hb2.size (fun q hq => (hO1.lt q hq).1);obtain ⟨VA', vc', rfl, hjunk⟩ := hO7.form;clear hjunk hg7 hat7 hx hO1 hb2 hOr hbr;obtain ⟨m, hm⟩ : ∃ m, l ++ [x] = m := ⟨_, rfl⟩
   have HM : Hid (m.length = k + 1) := by have := HV.out; rw [Hid, ← hm, List.length_append]; simp; omega
   rw [hm] at hO7 ⊢;clear hm;go_wp2_with fail
   go_roundw
   case rel => exact ⟨k + 1, VA', vc', _, m, by have := HLT.out; omega, by go_num, rfl, HM.out, HM.out, hO7, hb7⟩
   case measure => have := HLT.out; simp [intOf]; omega
  ·have hki : ¬ ((k : Int) < 32) := by omega
   have hkd : decide ((k : Int) < 32) = false := decide_eq_false hki;have hkn : decide (k < 32) = false := decide_eq_false hlt;have hk32 : k = 32 := by have := HK.out; omega
   have HL : Hid (l.length = 32) := by have := HV.out; rw [Hid]; omega
   obtain rfl : vn = 32 := by have := HV.out; omega
   clear hlt hk32;go_wp2_with fail
   go_ret
   exact ⟨VA, vc, rfl, l, HL.out, hOr, hbr⟩
abbrev zeroK : Array Value := #[.int .i64 0, .int .i64 0, .int .i64 0, .slice none 0 0, .slice none 0 0, .slice none 0 0, .slice none 0 0]
theorem size_key : (Tryz.prog.info? 60).map (·.size) = some 7 := by kernel_rfl
theorem one7 (a b c d e f g : Value) (ha : a.oneCell' = true) (hb : b.oneCell' = true) (hc : c.oneCell' = true) (hd : d.oneCell' = true) (he : e.oneCell' = true) (hf : f.oneCell' = true) (hg : g.oneCell' = true) :
  (#[a, b, c, d, e, f, g] : Array Value).all (·.oneCell') = true := by simp [ha, hb, hc, hd, he, hf, hg]
structure KM (W0 : World) (H : Snap) (g R K : Nat) (kc : Array Value) (w : World) (Hr : Snap) : Prop where
 dealt : Dealt W0 H w Hr g
 res : Blk w R 60 zeroK
 key : Blk w K 60 kc
 hR : Hr R = none
 hK : Hr K = none
 neRK : R ≠ K
 gW : g < W0.heap.size
 wR : W0.heap.size ≤ R
 wK : W0.heap.size ≤ K
section
variable {W0 w w' : World} {H Hr Hs : Snap} {g R K : Nat} {kc kc' : Array Value}
end
structure KN (W0 : World) (H : Snap) (R K : Nat) (kc : Array Value) (w : World) (Hr : Snap) : Prop where
 grows : Grows W0 H w Hr
 res : Blk w R 60 zeroK
 key : Blk w K 60 kc
 hR : Hr R = none
 hK : Hr K = none
 neRK : R ≠ K
 wR : W0.heap.size ≤ R
 wK : W0.heap.size ≤ K
section
variable {W0 w w' : World} {H Hr Hs : Snap} {R K : Nat} {kc kc' : Array Value}
theorem KN.grow (h : KN W0 H R K kc w Hr) (k : Grows w Hr w' Hs) : KN W0 H R K kc w' Hs :=
 ⟨h.grows.trans k, h.res.below k.below, h.key.below k.below, k.none h.hR h.res.lt, k.none h.hK h.key.lt, h.neRK, h.wR, h.wK⟩
theorem KN.below (h : KN W0 H R K kc w Hr) (k : Below w.heap.size w w') : KN W0 H R K kc w' Hr := h.grow (Grows.of_below h.grows.holds k)
theorem KN.alloc (h : KN W0 H R K kc w Hr) (o : Obj) : KN W0 H R K kc (w.alloc o) Hr := h.below (below_box w o)
theorem KN.set (h : KN W0 H R K kc w Hr) (hB : Blk w' K 60 kc') (hg : w.grownBy w' (some K)) : KN W0 H R K kc' w' Hr :=
 ⟨h.grows.grownOwn h.hK h.wK hg, h.res.grown hg (fun e => by injection e with e; exact h.neRK e.symm), hB, h.hR, h.hK, h.neRK, h.wR, h.wK⟩
end
end Go.Proofs.YtgaoknihklmakaaGreatDoor
