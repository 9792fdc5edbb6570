/- squeezed. sort.Slice of pairs whose keys asc -/
import Derived.Test.YtmacemcajlgddaaGreatDoorK26
import Derived.Test.YtmacemcajlgddaaGreatDoorK06
import Derived.Test.YtmacemcajlgddaaGreatDoorK25
import Derived.Test.YtmacemcajlgddaaGreatDoorK23
import Derived.Test.YtmacemcajlgddaaGreatDoorK24
import Derived.Test.YtmacemcajlgddaaGreatDoorK20
set_option linter.unusedVariables false
set_option linter.unusedSimpArgs false
set_option maxRecDepth 100000
set_option maxHeartbeats 3200000
namespace Go.Proofs.YtmacemcajlgddaaGreatDoor
open Go.RowKit Go.Shelf Go.Lib
noncomputable def pairTI : TypeInfo := (Tryz.prog.info? 82).get (by kernel_rfl)
noncomputable def pairEI : TypeInfo := (Tryz.prog.info? 84).get (by kernel_rfl)
theorem pairSw (n : Nat) (h2 : 2 ≤ n) : Lib.swapperK n pairEI 25 = 9 := by
 have a : pairEI.hasPointers = true := by kernel_rfl
 have b : (pairEI.bytes == 8) = false := by kernel_rfl
 have c : (n == 0) = false := by simp; omega
 have d : (n == 1) = false := by simp; omega
 simp [Lib.swapperK, a, b, c, d]
theorem cmp_asym {a b : List UInt8} (h : Lib.compareBytes a b < 0) : ¬ Lib.compareBytes b a < 0 := fun h' => by
 have h3 := cmp_trans a b a h h';rw [cmp_refl] at h3
 omega
theorem encPE_len {H : Snap} (x : PE H) : (encPE x).length = 9 := by simp [encPE, x.len]
theorem sort_pairs {H : Snap} (d : Array (PE H)) (hasc : ∀ j, j + 1 < d.size → Lib.compareBytes d[j]!.key d[j + 1]!.key < 0) (h2 : 2 ≤ d.size) (h12 : d.size ≤ 12) (blk off c Bs : Nat) (w : World)
  (hW : Holds w H) (hHb : H blk = none) (hH : Go.Sort.HoldsK encPE 9 w blk off d) (hblk : blk < w.heap.size) (hs : w.cell? ⟨Bs, 0, none⟩ = some (.slice (some ⟨blk, off, none⟩) d.size c)) (hBs : Bs ≠ blk) (hBl : Bs < w.heap.size) :
  Calls Tryz.prog 51 #[.iface 82 (.slice (some ⟨blk, off, none⟩) d.size c), .func (.func 52) #[] #[.pointer (some ⟨Bs, 0, none⟩)]] w fun e w' => e = .returned (.tuple #[]) ∧ Below w.heap.size w w' := by
 have hless : LessReadsK (α := PE H) Tryz.prog 52 #[.pointer (some ⟨Bs, 0, none⟩)] encPE 9 ltPE blk off d.size w := by
  intro m os dk hsz i j hi hj
  have hHm : Go.Sort.HoldsK encPE 9 (Sort.ahead w m) blk off d := Go.Sort.holdsK_ahead encPE 9 w m blk off d hH;have hHp := Go.Sort.holdsK_putRowK encPE 9 (Sort.ahead w m) blk off d dk hHm hsz;have hsz' : (Go.Sort.putRowK encPE 9 (Sort.ahead w m) blk off dk).heap.size = w.heap.size := Go.Sort.size_putRow id (Sort.ahead w m) blk off _;have hblk' : blk < (Go.Sort.putRowK encPE 9 (Sort.ahead w m) blk off dk).heap.size := by rw [hsz']; exact hblk
  have hHg := Go.Sort.holdsK_grow encPE 9 (Go.Sort.putRowK encPE 9 (Sort.ahead w m) blk off dk) os blk off dk hblk' hHp
  have hWm : Holds (Go.Sort.grow (Go.Sort.putRowK encPE 9 (Sort.ahead w m) blk off dk) os) H := fun b o hb => by
   have hbl := hW.lt hb;have hne : b ≠ blk := fun e => by rw [e, hHb] at hb; cases hb
   rw [Go.Sort.heap_grow_old _ _ (by rw [hsz']; exact hbl)]
   have hq : (w.heap.modify blk (Go.Sort.onCells (Go.Sort.putCells id off (Go.Sort.flatK encPE 9 dk))))[b]? = some o := by
    rw [Array.getElem?_modify, if_neg (Ne.symm hne)]
    exact hW b o hb
   exact hq
  refine (less_pairs blk off c Bs d.size _ hWm (fun t => dk[t]!) ?_ (fun t ht => ?_) i j hi hj)
  ·rw [Go.Sort.cell?_grow _ _ _ (by rw [hsz']; exact hBl), Go.Sort.cell?_putRowK_other encPE 9 _ _ _ _ _ hBs]
   exact hs
  ·exact (hHg.cell (i := t) (c := 0) (by omega) (by omega)).1
 have hS := Any.sort_Slice_small_cells (α := PE H) sortLays 82 84 pairTI pairEI (by kernel_rfl) (by kernel_rfl) (by kernel_rfl) (by kernel_rfl) 25 (fun _ => by kernel_rfl) encPE 9 encPE_len (by kernel_rfl) (fun _ => by kernel_rfl)
  (fun x v hv => by
   rw [encPE, List.mem_cons] at hv
   rcases hv with rfl | hv
   ·rfl
   ·exact x.one v hv) ltPE 52 _
  (enters_of Tryz.func52 (by kernel_rfl) rfl) blk off c d h2 h12 115 (by rw [pairSw _ h2]; kernel_rfl) false
  (fun args W => run_callFunc_extern Tryz.func115 (by kernel_rfl) (by kernel_rfl) (by kernel_rfl) (e := Extern.ReflectliteSwapper.swap false) (by kernel_rfl) args W) w hless hH hblk
 rw [insertion_id ltPE d (fun j hj => decide_eq_false (cmp_asym (hasc j hj)))] at hS;change Calls Tryz.prog 51 _ _ _ at hS
 refine hS.mono fun e w' ⟨he, n, os, hw⟩ => ⟨he, ?_⟩
 rw [hw, Go.Sort.putRowK_self encPE 9 _ _ _ _ (Go.Sort.holdsK_ahead encPE 9 w n blk off d hH)]
 exact ⟨rfl, rfl, rfl, by show w.heap.size ≤ (w.heap ++ os).size; rw [Array.size_append]; omega, fun _ hj => Go.Sort.heap_grow_old (Sort.ahead w n) os hj⟩
end Go.Proofs.YtmacemcajlgddaaGreatDoor
namespace Go.Proofs.YtmacemcajlgddaaGreatDoor
open Go.RowKit
abbrev Pr := List UInt8 × Itm × Itm
def lieP : Lie Pr where
 k := 9
 pos := by omega
 E := fun H x c => ∃ A cc ba bc ia ic ba' bc' ia' ic', c = .slice A x.1.length cc :: (itemC x.2.1 ba bc ia ic ++ itemC x.2.2 ba' bc' ia' ic') ∧ IsBytes H A cc x.1 ∧ IsItem H ba bc ia ic x.2.1 ∧ IsItem H ba' bc' ia' ic' x.2.2
 len := by rintro _ _ _ ⟨_, _, _, _, _, _, _, _, _, _, rfl, _⟩; rfl
 one := by rintro _ _ _ ⟨_, _, _, _, _, _, _, _, _, _, rfl, _⟩; simp [itemC, Value.oneCell']
 mono := by rintro H K x c hl ⟨A, cc, ba, bc, ia, ic, ba', bc', ia', ic', e, h1, h2, h3⟩; exact ⟨A, cc, ba, bc, ia, ic, ba', bc', ia', ic', e, h1.mono hl, h2.mono hl, h3.mono hl⟩
def pk : List Itm → List Pr
 | a :: b :: l => (encB a, a, b) :: pk l
 | _ => []
theorem pk_len : ∀ l : List Itm, (pk l).length = l.length / 2
 | [] => rfl
 | [_] => by simp [pk]
 | a :: b :: l => by simp only [pk, List.length_cons, pk_len l]; omega
theorem pk_get : ∀ (l : List Itm) (i : Nat) (h : 2 * i + 1 < l.length), (pk l)[i]? = some (encB (l[2 * i]'(by omega)), l[2 * i]'(by omega), l[2 * i + 1])
 | [], i, h => by simp at h
 | [_], i, h => by simp at h
 | a :: b :: l, 0, h => by simp [pk]
 | a :: b :: l, i + 1, h => by
  have h' : 2 * i + 1 < l.length := by simp only [List.length_cons] at h; omega
  have e1 : ∀ h2, (a :: b :: l)[2 * (i + 1)]'h2 = l[2 * i] := fun h2 => by
   have : 2 * (i + 1) = 2 * i + 1 + 1 := by omega
   simp only [this, List.getElem_cons_succ]
  have e2 : ∀ h2, (a :: b :: l)[2 * (i + 1) + 1]'h2 = l[2 * i + 1] := fun h2 => by
   have : 2 * (i + 1) + 1 = (2 * i + 1) + 1 + 1 := by omega
   simp only [this, List.getElem_cons_succ]
  rw [e1, e2, pk, List.getElem?_cons_succ]
  exact pk_get l i h'
theorem pk_take (l : List Itm) (i : Nat) (h : 2 * i + 1 < l.length) : pk (l.take (2 * i + 2)) = pk (l.take (2 * i)) ++ [(encB (l[2 * i]'(by omega)), l[2 * i]'(by omega), l[2 * i + 1])] := by
 apply List.ext_getElem?
 intro j
 have h1 : (pk (l.take (2 * i))).length = i := by rw [pk_len, List.length_take]; omega
 have h2 : (pk (l.take (2 * i + 2))).length = i + 1 := by rw [pk_len, List.length_take]; omega
 rcases Nat.lt_trichotomy j i with hj | hj | hj
 ·rw [List.getElem?_append_left (by omega), pk_get _ j (by rw [List.length_take]; omega), pk_get _ j (by rw [List.length_take]; omega)]
  simp only [List.getElem_take]
 ·subst hj;rw [List.getElem?_append_right (by omega), h1, Nat.sub_self, pk_get _ j (by rw [List.length_take]; omega)]
  simp only [List.getElem_take]
  rfl
 ·rw [List.getElem?_eq_none (by omega), List.getElem?_eq_none (by simp; omega)]
structure XM {α : Type} (L : Lie α) (t bt : TypeId) (kt : TypeId) (W0 : World) (H : Snap) (B : Nat) (kc : Array Value) (bv v : Value) (l : List α) (w : World) (Hr : Snap) : Prop where
 grows : Grows W0 H w Hr
 hK : Hr W0.heap.size = none
 key : Blk w W0.heap.size kt kc
 own : OwnX L t w (W0.heap.size + 1) v Hr l
 apart : ∀ g, v.ownBlock = some g → Hr g = none
 lt : W0.heap.size < B
 hB : Hr B = none
 box : Blk w B bt #[bv]
 far : v.ownBlock ≠ some B
section
variable {α : Type} {L : Lie α} {t bt kt : TypeId} {W0 w w' : World} {H Hr Hs : Snap} {B : Nat} {kc : Array Value} {bv v v' : Value} {l news : List α}
theorem XM.start (hG : Grows W0 H w Hr) (hK : Hr W0.heap.size = none) (hk : Blk w W0.heap.size kt kc) (hO : OwnX L t w (W0.heap.size + 1) v Hr l) (ha : ∀ g, v.ownBlock = some g → Hr g = none) :
  XM L t bt kt W0 H w.heap.size kc bv v l (w.alloc (.cells #[bv] bt)) Hr :=
 ⟨hG.alloc _, hK, hk.alloc _, hO.alloc _, ha, hk.lt, hG.hidden (Nat.le_refl _), Blk.new _ _ _, fun e => by have := (hO.lt _ e).2; omega⟩
theorem XM.grow (h : XM L t bt kt W0 H B kc bv v l w Hr) (k : Grows w Hr w' Hs) : XM L t bt kt W0 H B kc bv v l w' Hs :=
 ⟨h.grows.trans k, k.none h.hK h.key.lt, h.key.below k.below, (h.own.below k.below).mono k.le, fun g hg => k.none (h.apart g hg) (h.own.lt g hg).2, h.lt, k.none h.hB h.box.lt, h.box.below k.below, h.far⟩
theorem XM.below (h : XM L t bt kt W0 H B kc bv v l w Hr) (k : Below w.heap.size w w') : XM L t bt kt W0 H B kc bv v l w' Hr := h.grow (Grows.of_below h.grows.holds k)
theorem XM.alloc (h : XM L t bt kt W0 H B kc bv v l w Hr) (o : Obj) : XM L t bt kt W0 H B kc bv v l (w.alloc o) Hr := h.below (below_box w o)
theorem XM.drew (h : XM L t bt kt W0 H B kc bv v l w Hr) : XM L t bt kt W0 H B kc bv v l w.drew Hr := h.below (Below.refl _ _).drew
theorem XM.base (h : XM L t bt kt W0 H B kc bv v l w Hr) : W0.heap.size + 1 ≤ w.heap.size := by have := h.key.lt; omega
theorem XM.litZ (h : XM L t bt kt W0 H B kc bv v l w Hr) (cs : Array Value) (e : TypeId) : Src (w.alloc (.cells cs e)) (some ⟨w.heap.size, 0, none⟩) cs.toList := Src.lit w cs e
theorem XM.app (h : XM L t bt kt W0 H B kc bv v l w Hr) (hO : OwnX L t w' (W0.heap.size + 1) v' Hr (l ++ news)) (hg : w.grownBy w' v.ownBlock) (ha : At0 w v.ownBlock v'.ownBlock) : XM L t bt kt W0 H B kc bv v' (l ++ news) w' Hr :=
 ⟨h.grows.grownRow h.apart (fun g hg => by have := (h.own.lt g hg).1; omega) hg, h.hK, h.key.grown hg (fun e => by have := (h.own.lt _ e).1; omega), hO, fun g hv => by
  rcases ha with e | ⟨g', e, hs⟩
  ·exact h.apart g (by rw [← e, hv])
  ·rw [hv] at e;injection e with e
   subst e
   exact h.grows.hidden hs, h.lt, h.hB, h.box.grown hg h.far, by
  rcases ha with e | ⟨g', e, hs⟩
  ·rw [e]; exact h.far
  ·rw [e]
   intro e2
   injection e2 with e2
   have := h.box.lt
   omega⟩
theorem XM.setBox (h : XM L t bt kt W0 H B kc bv v l w Hr) (hB : Blk w' B bt #[v']) (hg : w.grownBy w' (some B)) : XM L t bt kt W0 H B kc v' v l w' Hr :=
 ⟨h.grows.grownOwn h.hB (by have := h.lt; omega) hg, h.hK, h.key.grown hg (fun e => by injection e with e; have := h.lt; omega), h.own.kept hg (.inr h.far), h.apart, h.lt, h.hB, hB, h.far⟩
theorem XM.snap {A : Option Addr} {m c : Nat} (h : XM L t bt kt W0 H B kc bv (.slice A m c) l w Hr) :
  ∃ H', Grows W0 H w H' ∧ Hr.le H' ∧ m = l.length ∧ IsRow L H' A c l ∧ H' W0.heap.size = none ∧ H' B = none := by
 obtain ⟨H', hl, hh, hf, rfl, hr⟩ := h.own.snap h.grows.holds (fun g hg => h.apart g (by cases A <;> simp_all [Value.ownBlock]))
 have hno : ∀ b, Hr b = none → (∀ g, (Value.slice A l.length c).ownBlock = some g → g ≠ b) → H' b = none := fun b hb hne => by
  cases hx : H' b with
  | none => rfl
  | some o =>
   rcases hf b o hx with h1 | h1
   ·rw [hb] at h1; cases h1
   ·exact absurd rfl (hne b (by cases A <;> simp_all [Value.ownBlock]))
 refine ⟨H', ⟨h.grows.below, h.grows.le.trans hl, hh, fun b o hb => ?_⟩, hl, rfl, hr, hno _ h.hK (fun g hg e => by have := (h.own.lt g hg).1; omega), hno _ h.hB (fun g hg e => h.far (by rw [hg, e]))⟩
 rcases hf b o hb with h1 | h1
 ·exact h.grows.fresh b o h1
 ·exact .inr (by have := (h.own.lt b (by cases A <;> simp_all [Value.ownBlock])).1; omega)
end
theorem OwnX.append_wp2 {α : Type} {L : Lie α} {t : TypeId} {w : World} {base : Nat} {v : Value} {H : Snap} {l : List α} {o : Oper} {a : Act} {K : Act → World → Prop} {Q : Exit → Act → World → Prop} (s x : Operand) (T : TypeId)
  (ho : o.op = .call { callee := .builtin .append, args := #[s, x], argTypes := #[T, T] }) (hT : Tryz.prog.underlying T = some (.slice t)) {z : Value} {bytes : Nat} (hzs : z.cells.size = L.k) (hby : bytes ≤ 256)
  (hinfo : (Tryz.prog.info? t).map (fun i => (i.zero, i.size, i.bytes)) = some (some z, L.k, bytes))
  (hs : a.eval s = v) (hown : OwnX L t w base v H l) (A : Option Addr) (m c : Nat) (cs : List Value) (news : List α) (hx : a.eval x = .slice A m c) (hm : m = news.length)
  (hn : RowC L H cs news) (hr : Src w A cs) (hlen : l.length + news.length ≤ 1048576) (hbase : base ≤ w.heap.size)
  (h : ∀ v' w', OwnX L t w' base v' H (l ++ news) → w.grownBy w' v.ownBlock → At0 w v.ownBlock v'.ownBlock → K (a.put o.dst v') w') :
  Oper.wp Tryz.prog o a w K Q := by
 subst hm;obtain ⟨xs, hxs, hown⟩ := hown;obtain ⟨i0, hi0, hz0, hz1, hz2⟩ := info_parts hinfo
 refine wp_append_src s x _ ho base t i0 _ L.k bytes hT hi0 hz0 hz1 hz2 hzs L.pos v l.length xs hs hown A news.length c cs hx hn.len hr hn.oneCell
  (by simp only [maxLen]; omega) (by have := Nat.mul_le_mul hlen hby; omega) hbase fun v' w' h2 h3 h4 => h v' w' ?_ h3 ?_
 ·exact ⟨xs ++ cs, hxs.app hn, by simpa using h2⟩
 ·rcases h4 with h4 | h4
  ·exact .inl h4
  ·exact .inr ⟨_, h4, Nat.le_refl _⟩
abbrev zeroC : Array Value := #[.int .i64 0, .int .u64 0, .slice none 0 0, .slice none 0 0]
structure BM (W0 : World) (H : Snap) (B M : Nat) (bc : Array Value) (iv v : Value) (l : List Itm) (w : World) (Hr : Snap) : Prop where
 grows : Grows W0 H w Hr
 hK : Hr W0.heap.size = none
 hB : Hr B = none
 hM : Hr M = none
 ltB : W0.heap.size < B
 ltM : W0.heap.size < M
 ne : B ≠ M
 key : Blk w W0.heap.size 54 zeroC
 boxB : Blk w B 82 bc
 boxM : Blk w M 54 #[.int .i64 5, .int .u64 0, .slice none 0 0, iv]
 own : OwnI w (W0.heap.size + 1) v Hr l
 apart : ∀ g, v.ownBlock = some g → Hr g = none ∧ g ≠ B ∧ g ≠ M
section
variable {W0 w w' : World} {H Hr Hs : Snap} {B M : Nat} {bc : Array Value} {iv v v' : Value} {l news : List Itm}
theorem BM.grow (h : BM W0 H B M bc iv v l w Hr) (k : Grows w Hr w' Hs) : BM W0 H B M bc iv v l w' Hs :=
 ⟨h.grows.trans k, k.none h.hK h.key.lt, k.none h.hB h.boxB.lt, k.none h.hM h.boxM.lt, h.ltB, h.ltM, h.ne, h.key.below k.below, h.boxB.below k.below, h.boxM.below k.below, (h.own.below k.below).mono k.le,
  fun g hg => ⟨k.none (h.apart g hg).1 (h.own.lt g hg).2, (h.apart g hg).2⟩⟩
theorem BM.below (h : BM W0 H B M bc iv v l w Hr) (k : Below w.heap.size w w') : BM W0 H B M bc iv v l w' Hr := h.grow (Grows.of_below h.grows.holds k)
theorem BM.alloc (h : BM W0 H B M bc iv v l w Hr) (o : Obj) : BM W0 H B M bc iv v l (w.alloc o) Hr := h.below (below_box w o)
theorem BM.drew (h : BM W0 H B M bc iv v l w Hr) : BM W0 H B M bc iv v l w.drew Hr := h.below (Below.refl _ _).drew
theorem BM.litZ (h : BM W0 H B M bc iv v l w Hr) (cs : Array Value) (e : TypeId) : Src (w.alloc (.cells cs e)) (some ⟨w.heap.size, 0, none⟩) cs.toList := Src.lit w cs e
theorem BM.base (h : BM W0 H B M bc iv v l w Hr) : W0.heap.size + 1 ≤ w.heap.size := by have := h.key.lt; omega
theorem BM.app (h : BM W0 H B M bc iv v l w Hr) (hO : OwnI w' (W0.heap.size + 1) v' Hr (l ++ news)) (hg : w.grownBy w' v.ownBlock) (ha : At0 w v.ownBlock v'.ownBlock) : BM W0 H B M bc iv v' (l ++ news) w' Hr :=
 ⟨h.grows.grownRow (fun g hg => (h.apart g hg).1) (fun g hg => by have := (h.own.lt g hg).1; omega) hg, h.hK, h.hB, h.hM, h.ltB, h.ltM, h.ne, h.key.grown hg (fun e => by have := (h.own.lt _ e).1; omega),
  h.boxB.grown hg (fun e => (h.apart _ e).2.1 rfl), h.boxM.grown hg (fun e => (h.apart _ e).2.2 rfl), hO, fun g hv => by
  rcases ha with e | ⟨g', e, hs⟩
  ·exact h.apart g (by rw [← e, hv])
  ·rw [hv] at e;injection e with e
   subst e;have h1 := h.boxB.lt;have h2 := h.boxM.lt
   exact ⟨h.grows.hidden hs, by omega, by omega⟩⟩
theorem BM.setM (h : BM W0 H B M bc iv v l w Hr) {iv' : Value} (hB : Blk w' M 54 #[.int .i64 5, .int .u64 0, .slice none 0 0, iv']) (hg : w.grownBy w' (some M)) : BM W0 H B M bc iv' v l w' Hr :=
 ⟨h.grows.grownOwn h.hM (by have := h.ltM; omega) hg, h.hK, h.hB, h.hM, h.ltB, h.ltM, h.ne, h.key.grown hg (fun e => by injection e with e; have := h.ltM; omega), h.boxB.grown hg (fun e => by injection e with e; exact h.ne e.symm), hB,
  h.own.kept hg (by
   cases hv : v.ownBlock with
   | none => exact .inl rfl
   | some g => exact .inr (fun e => by injection e with e; exact (h.apart g hv).2.2 e)), h.apart⟩
theorem BM.item {A : Option Addr} {m c : Nat} (h : BM W0 H B M bc (.slice A m c) (.slice A m c) l w Hr) :
  ∃ H', Grows W0 H w H' ∧ m = l.length ∧ IsItem H' none 0 A c (.mk 5 0 [] l) ∧ H' W0.heap.size = none := by
 obtain ⟨H', hl, hh, hf, rfl, hle1, hle2, hel⟩ := h.own.snap h.grows.holds (fun g hg => (h.apart g (by cases A <;> simp_all [Value.ownBlock])).1)
 refine ⟨H', ⟨h.grows.below, h.grows.le.trans hl, hh, fun b o hb => ?_⟩, rfl, ?_, ?_⟩
 ·rcases hf b o hb with h1 | h1
  ·exact h.grows.fresh b o h1
  ·exact .inr (by have := (h.own.lt b (by cases A <;> simp_all [Value.ownBlock])).1; omega)
 ·rw [IsItem]
  exact ⟨⟨by omega, by omega, by omega, hle1, hle2⟩, IsBytes.nil _, hel⟩
 ·cases hx : H' W0.heap.size with
  | none => rfl
  | some o =>
   rcases hf _ o hx with h1 | h1
   ·rw [h.hK] at h1; cases h1
   ·have := (h.own.lt W0.heap.size (by cases A <;> simp_all [Value.ownBlock])).1; omega
end
abbrev zeroPair : Value := .agg #[.slice none 0 0, .int .i64 0, .int .u64 0, .slice none 0 0, .slice none 0 0, .int .i64 0, .int .u64 0, .slice none 0 0, .slice none 0 0]
theorem info_bpair : (Tryz.prog.info? 84).map (fun i => (i.zero, i.size, i.bytes)) = some (some zeroPair, 9, 152) := by kernel_rfl
theorem size_bpairs : (Tryz.prog.info? 82).map (·.size) = some 1 := by kernel_rfl
end Go.Proofs.YtmacemcajlgddaaGreatDoor
