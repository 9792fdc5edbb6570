/- squeezed. A region that draws its order, who -/
import Derived.Test.YtmacemcajlgddaaGreatDoorK00
import Derived.Deep.RegionHeld
import Derived.Laws.BytesArg
import Derived.Lib.Bytealg
import Derived.Laws.Externs
set_option linter.unusedVariables false
set_option linter.unusedSimpArgs false
set_option maxRecDepth 100000
namespace Go.Proofs.YtmacemcajlgddaaGreatDoor
open Go.RowKit
section
variable {P : Program} {ops : Array Oper} {Q : Exit → Act → World → Prop} {md : Region.Mode} {S : World → Prop} {z : Nat}
def Ways (P : Program) (md : Region.Mode) (ops : Array Oper) (Q : Exit → Act → World → Prop) (S : World → Prop) (z : Nat) : Nat → Array Bool → Act → World → Prop
 | 0, L, a, w => Region.ready md ops L = [] ∧ Q .normal a w
 | n + 1, L, a, w => (Region.ready md ops L = [] → Q .normal a w) ∧
   ∀ i ∈ Region.ready md ops L, wpOp P ops Q i (fun a' w' => (i ≠ z → S w') ∧ Ways P md ops Q S z n (L.setIfInBounds i true) a' w') a w
theorem Ways.any : ∀ (n : Nat) (L : Array Bool) (a : Act) (w : World), Ways P md ops Q S z n L a w → wpAny P md ops Q n L a w
 | 0, _, _, _, h => h
 | n + 1, _, _, _, h => ⟨h.1, fun i hi => wpOp_mono (fun a' w' k => Ways.any n _ a' w' k.2) (h.2 i hi)⟩
def Closed (md : Region.Mode) (ops : Array Oper) (L : Array Bool) : Prop :=
 ∀ (j : Nat) (o : Oper), ops[j]? = some o → L.getD j false = true → ∀ e ∈ o.after, Region.binds md e = true → L.getD e.on false = true
theorem Closed.step {L : Array Bool} (h : Closed md ops L) {i : Nat} (hi : i ∈ Region.ready md ops L) : Closed md ops (L.setIfInBounds i true) := by
 intro j o ho hj e he hb
 obtain ⟨_, oi, hoi, hall⟩ := mem_ready.1 hi
 by_cases hij : i = j
 ·subst hij;rw [ho] at hoi
  cases hoi
  exact getD_set_true (hall e he hb)
 ·rw [getD_set_ne false hij] at hj
  exact getD_set_true (h j o ho hj e he hb)
def Later (md : Region.Mode) (ops : Array Oper) (z i : Nat) : Prop := ∀ L, Closed md ops L → L.getD i true = false → z ∉ Region.ready md ops L
def chain (md : Region.Mode) (ops : Array Oper) : Nat → Nat → Nat → Bool
 | 0, k, i => k == i
 | n + 1, k, i => k == i || match ops[k]? with
  | some o => o.after.any fun e => Region.binds md e && chain md ops n e.on i
  | none => false
theorem chain_listed : ∀ (n k i : Nat) (L : Array Bool), Closed md ops L → chain md ops n k i = true → L.getD k false = true → L.getD i false = true
 | 0, k, i, L, _, h, hk => by
  have : k = i := by simpa [chain] using h
  exact this ▸ hk
 | n + 1, k, i, L, hc, h, hk => by
  unfold chain at h
  rw [Bool.or_eq_true] at h
  rcases h with h | h
  ·have : k = i := by simpa using h
   exact this ▸ hk
  ·cases ho : ops[k]? with
   | none => rw [ho] at h; cases h
   | some o =>
    rw [ho] at h;obtain ⟨e, he, hb⟩ := Array.any_eq_true'.1 h;rw [Bool.and_eq_true] at hb
    exact chain_listed n e.on i L hc hb.2 (hc k o ho hk e he hb.1)
theorem later_of {i : Nat} (n : Nat) (h : (match ops[z]? with | some o => o.after.any fun e => Region.binds md e && chain md ops n e.on i | none => false) = true) : Later md ops z i := by
 intro L hc hi hz
 obtain ⟨_, o, ho, hall⟩ := mem_ready.1 hz;rw [ho] at h;obtain ⟨e, he, hb⟩ := Array.any_eq_true'.1 h;rw [Bool.and_eq_true] at hb;have h1 := chain_listed n e.on i L hc hb.2 (hall e he hb.1)
 rcases Nat.lt_or_ge i L.size with h' | h'
 ·simp [h'] at hi h1
  rw [hi] at h1
  cases h1
 ·simp [Array.getElem?_eq_none h'] at hi
theorem Ways.first {i : Nat} {oi : Oper} {v : Value} (hi : ops[i]? = some oi) (hsel : ∀ (j : Nat) (o : Oper) cs b, ops[j]? = some o → o.op ≠ .select cs b)
  (hQ : ∀ c a w, Q (.panic c) (a.put oi.dst v) w → Q (.panic c) a w) (hz : Later md ops z i) (hiz : i ≠ z) :
  ∀ (n : Nat) (L : Array Bool) (a : Act) (w : World), Closed md ops L →
   (∀ j oj, ops[j]? = some oj → j ≠ i → L.getD j true = false → (∀ e ∈ oj.after, Region.binds md e = true → e.on ≠ i) → oi.apart ops oj = true) →
   i ∈ Region.ready md ops L → YieldsIf P ops S oi v a → S w →
   Ways P md ops Q S z n (L.setIfInBounds i true) (a.put oi.dst v) w → Ways P md ops Q S z (n + 1) L a w := by
 intro n
 induction n with
 | zero =>
  intro L a w _ _ hr hy hS H
  refine ⟨fun h => (by rw [h] at hr; cases hr), fun j hj => ?_⟩
  by_cases hji : j = i
  ·subst hji; exact hy.wpOp hi hS ⟨fun _ => hS, H⟩
  ·have := ready_mono hj hji;rw [H.1] at this
   cases this
 | succ n ih =>
  intro L a w hcl hfree hr hy hS H
  refine ⟨fun h => (by rw [h] at hr; cases hr), fun j hj => ?_⟩
  by_cases hji : j = i
  ·subst hji; exact hy.wpOp hi hS ⟨fun _ => hS, H⟩
  have hjz : j ≠ z := fun h => hz L hcl (mem_ready.1 hr).1 (h ▸ hj)
  have h1 := H.2 j (ready_mono hj hji);obtain ⟨hjun, oj, hoj, hall⟩ := mem_ready.1 hj
  have hnot : ∀ e ∈ oj.after, Region.binds md e = true → e.on ≠ i := fun e he hb heq => by
   have h1 := hall e he hb;have h0 := (mem_ready.1 hr).1;rw [heq] at h1
   rcases Nat.lt_or_ge i L.size with h' | h'
   ·simp [h'] at h0 h1; rw [h0] at h1; cases h1
   ·simp [Array.getElem?_eq_none h'] at h1
  have h2 := wpOp_putIf hoj (hfree j oj hoj hji hjun hnot) (fun cs b => hsel i oi cs b hi) (fun cs b => hsel j oj cs b hoj) hQ hy h1
  refine wpOp_mono (fun a' w' h3 => ?_) h2
  obtain ⟨hy', hSw, hW⟩ := h3
  refine ⟨fun _ => hSw hjz, ih (L.setIfInBounds j true) a' w' (hcl.step hj) ?_ (ready_mono hr (Ne.symm hji)) hy' (hSw hjz) ?_⟩
  ·intro k ok hk hki hun hno
   refine hfree k ok hk hki ?_ hno
   by_cases hjk : j = k
   ·subst hjk; exact hjun
   ·rw [getD_set_ne true hjk] at hun; exact hun
  ·rw [Array.setIfInBounds_comm _ _ hji]
   exact hW
def closedB (md : Region.Mode) (ops : Array Oper) (L : Array Bool) : Bool :=
 (List.range ops.size).all fun j => !(L.getD j false) || match ops[j]? with
  | some o => o.after.all fun e => !(Region.binds md e) || L.getD e.on false
  | none => true
theorem closedB_spec {L : Array Bool} (h : closedB md ops L = true) : Closed md ops L := by
 intro j o ho hj e he hb
 have hjl : j < ops.size := (Array.getElem?_eq_some_iff.1 ho).1;have h1 := List.all_eq_true.1 h j (List.mem_range.2 hjl);rw [hj, ho] at h1
 simp only [Bool.not_true, Bool.false_or] at h1
 have h2 := Array.all_eq_true'.1 h1 e he;rw [hb] at h2
 simpa using h2
theorem Ways.take {i : Nat} {oi : Oper} {v : Value} {n : Nat} {L : Array Bool} {a : Act} {w : World} (hi : ops[i]? = some oi)
  (hs : (Region.noSelect ops && (Region.free md ops L i && ((Region.ready md ops L).contains i && (closedB md ops L && (i != z && (match ops[z]? with | some o => o.after.any fun e => Region.binds md e && chain md ops 8 e.on i | none => false)))))) = true)
  (hQ : ∀ c a w, Q (.panic c) (a.put oi.dst v) w → Q (.panic c) a w) (hy : YieldsIf P ops S oi v a) (hS : S w)
  (h : Ways P md ops Q S z n (L.setIfInBounds i true) (a.put oi.dst v) w) : Ways P md ops Q S z (n + 1) L a w := by
 simp only [Bool.and_eq_true] at hs
 obtain ⟨h1, h2, h3, h4, h5, h6⟩ := hs
 exact Ways.first hi (Region.noSelect_spec h1) hQ (later_of 8 h6) (by simpa using h5) n L a w (closedB_spec h4) (Region.free_spec hi h2) (by simpa using h3) hy hS h
theorem Ways.one {i : Nat} {o : Oper} {n : Nat} {L : Array Bool} {a : Act} {w : World} (hi : ops[i]? = some o) (hr : Region.ready md ops L = [i])
  (h : ∀ K : Act → World → Prop, Shut (∀ a w, (i ≠ z → S w) → ((i ≠ z → S w) → Ways P md ops Q S z n (L.setIfInBounds i true) a w) → K a w) →
   if Region.wanted o (yielded ops a.tmps) = true then Oper.wp P o a w K Q else K (a.put o.dst undef) w) : Ways P md ops Q S z (n + 1) L a w := by
 refine ⟨fun h0 => (by rw [hr] at h0; cases h0), fun j hj => ?_⟩
 rw [hr] at hj;have hji : j = i := by simpa using hj
 subst hji
 exact wpOp_step hi fun K hK => h K fun a w hS hW => hK a w ⟨hS, hW hS⟩
theorem Ways.two {i j : Nat} {o o' : Oper} {n : Nat} {L : Array Bool} {a : Act} {w : World} (hi : ops[i]? = some o) (hj : ops[j]? = some o') (hr : Region.ready md ops L = [i, j])
  (h : ∀ K : Act → World → Prop, Shut (∀ a w, (i ≠ z → S w) → ((i ≠ z → S w) → Ways P md ops Q S z n (L.setIfInBounds i true) a w) → K a w) →
   if Region.wanted o (yielded ops a.tmps) = true then Oper.wp P o a w K Q else K (a.put o.dst undef) w)
  (h' : ∀ K : Act → World → Prop, Shut (∀ a w, (j ≠ z → S w) → ((j ≠ z → S w) → Ways P md ops Q S z n (L.setIfInBounds j true) a w) → K a w) →
   if Region.wanted o' (yielded ops a.tmps) = true then Oper.wp P o' a w K Q else K (a.put o'.dst undef) w) : Ways P md ops Q S z (n + 1) L a w := by
 refine ⟨fun h0 => (by rw [hr] at h0; cases h0), fun k hk => ?_⟩
 rw [hr] at hk
 rcases (by simpa using hk : k = i ∨ k = j) with hk | hk
 ·subst hk
  exact wpOp_step hi fun K hK => h K fun a w hS hW => hK a w ⟨hS, hW hS⟩
 ·subst hk
  exact wpOp_step hj fun K hK => h' K fun a w hS hW => hK a w ⟨hS, hW hS⟩
theorem Ways.done {L : Array Bool} {a : Act} {w : World} {n : Nat} (hr : Region.ready md ops L = []) (h : Q .normal a w) : Ways P md ops Q S z n L a w := by
 cases n with
 | zero => exact ⟨hr, h⟩
 | succ n => exact ⟨fun _ => h, by rw [hr]; simp⟩
theorem wp_region_ways {id : Nat} {a : Act} {w : World} (z : Nat) (S : World → Prop) (hm : P.follows .mixedOrders = true) (hS : S w.drew)
  (h : S w.drew → Ways P .any ops Q S z ops.size (Array.replicate ops.size false) a w.drew) : (Code.region id ops true).wp P Q a w :=
 wp_region_any hm (Ways.any _ _ _ _ (h hS))
end
section
variable {P : Program} {ops : Array Oper} {Q : Exit → Act → World → Prop} {md : Region.Mode} {z : Nat}
theorem Ways.firstT {i : Nat} {oi : Oper} {v : Value} (hi : ops[i]? = some oi) (hsel : ∀ (j : Nat) (o : Oper) cs b, ops[j]? = some o → o.op ≠ .select cs b)
  (hQ : ∀ c a w, Q (.panic c) (a.put oi.dst v) w → Q (.panic c) a w) :
  ∀ (n : Nat) (L : Array Bool) (a : Act) (w : World),
   (∀ j oj, ops[j]? = some oj → j ≠ i → L.getD j true = false → (∀ e ∈ oj.after, Region.binds md e = true → e.on ≠ i) → oi.apart ops oj = true) →
   i ∈ Region.ready md ops L → YieldsIf P ops (fun _ => True) oi v a →
   Ways P md ops Q (fun _ => True) z n (L.setIfInBounds i true) (a.put oi.dst v) w → Ways P md ops Q (fun _ => True) z (n + 1) L a w := by
 intro n
 induction n with
 | zero =>
  intro L a w _ hr hy H
  refine ⟨fun h => (by rw [h] at hr; cases hr), fun j hj => ?_⟩
  by_cases hji : j = i
  ·subst hji; exact hy.wpOp hi trivial ⟨fun _ => trivial, H⟩
  ·have := ready_mono hj hji;rw [H.1] at this
   cases this
 | succ n ih =>
  intro L a w hfree hr hy H
  refine ⟨fun h => (by rw [h] at hr; cases hr), fun j hj => ?_⟩
  by_cases hji : j = i
  ·subst hji; exact hy.wpOp hi trivial ⟨fun _ => trivial, H⟩
  have h1 := H.2 j (ready_mono hj hji);obtain ⟨hjun, oj, hoj, hall⟩ := mem_ready.1 hj
  have hnot : ∀ e ∈ oj.after, Region.binds md e = true → e.on ≠ i := fun e he hb heq => by
   have h1 := hall e he hb;have h0 := (mem_ready.1 hr).1;rw [heq] at h1
   rcases Nat.lt_or_ge i L.size with h' | h'
   ·simp [h'] at h0 h1; rw [h0] at h1; cases h1
   ·simp [Array.getElem?_eq_none h'] at h1
  have h2 := wpOp_putIf hoj (hfree j oj hoj hji hjun hnot) (fun cs b => hsel i oi cs b hi) (fun cs b => hsel j oj cs b hoj) hQ hy h1
  refine wpOp_mono (fun a' w' h3 => ?_) h2
  obtain ⟨hy', _, hW⟩ := h3
  refine ⟨fun _ => trivial, ih (L.setIfInBounds j true) a' w' ?_ (ready_mono hr (Ne.symm hji)) hy' ?_⟩
  ·intro k ok hk hki hun hno
   refine hfree k ok hk hki ?_ hno
   by_cases hjk : j = k
   ·subst hjk; exact hjun
   ·rw [getD_set_ne true hjk] at hun; exact hun
  ·rw [Array.setIfInBounds_comm _ _ hji]
   exact hW
theorem Ways.takeT {i : Nat} {oi : Oper} {v : Value} {n : Nat} {L : Array Bool} {a : Act} {w : World} (hi : ops[i]? = some oi)
  (hs : (Region.noSelect ops && (Region.free md ops L i && (Region.ready md ops L).contains i)) = true)
  (hQ : ∀ c a w, Q (.panic c) (a.put oi.dst v) w → Q (.panic c) a w) (hy : YieldsIf P ops (fun _ => True) oi v a)
  (h : Ways P md ops Q (fun _ => True) z n (L.setIfInBounds i true) (a.put oi.dst v) w) : Ways P md ops Q (fun _ => True) z (n + 1) L a w := by
 simp only [Bool.and_eq_true] at hs
 obtain ⟨h1, h2, h3⟩ := hs
 exact Ways.firstT hi (Region.noSelect_spec h1) hQ n L a w (Region.free_spec hi h2) (by simpa using h3) hy h
theorem Ways.firstS {i : Nat} {oi : Oper} {v : Value} {S : World → Prop} (hz : ops.size ≤ z) (hi : ops[i]? = some oi) (hsel : ∀ (j : Nat) (o : Oper) cs b, ops[j]? = some o → o.op ≠ .select cs b)
  (hQ : ∀ c a w, Q (.panic c) (a.put oi.dst v) w → Q (.panic c) a w) :
  ∀ (n : Nat) (L : Array Bool) (a : Act) (w : World),
   (∀ j oj, ops[j]? = some oj → j ≠ i → L.getD j true = false → (∀ e ∈ oj.after, Region.binds md e = true → e.on ≠ i) → oi.apart ops oj = true) →
   i ∈ Region.ready md ops L → YieldsIf P ops S oi v a → S w →
   Ways P md ops Q S z n (L.setIfInBounds i true) (a.put oi.dst v) w → Ways P md ops Q S z (n + 1) L a w := by
 intro n
 induction n with
 | zero =>
  intro L a w _ hr hy hS H
  refine ⟨fun h => (by rw [h] at hr; cases hr), fun j hj => ?_⟩
  by_cases hji : j = i
  ·subst hji; exact hy.wpOp hi hS ⟨fun _ => hS, H⟩
  ·have := ready_mono hj hji;rw [H.1] at this
   cases this
 | succ n ih =>
  intro L a w hfree hr hy hS H
  refine ⟨fun h => (by rw [h] at hr; cases hr), fun j hj => ?_⟩
  by_cases hji : j = i
  ·subst hji; exact hy.wpOp hi hS ⟨fun _ => hS, H⟩
  have h1 := H.2 j (ready_mono hj hji);obtain ⟨hjun, oj, hoj, hall⟩ := mem_ready.1 hj
  have hnot : ∀ e ∈ oj.after, Region.binds md e = true → e.on ≠ i := fun e he hb heq => by
   have h1 := hall e he hb;have h0 := (mem_ready.1 hr).1;rw [heq] at h1
   rcases Nat.lt_or_ge i L.size with h' | h'
   ·simp [h'] at h0 h1; rw [h0] at h1; cases h1
   ·simp [Array.getElem?_eq_none h'] at h1
  have h2 := wpOp_putIf hoj (hfree j oj hoj hji hjun hnot) (fun cs b => hsel i oi cs b hi) (fun cs b => hsel j oj cs b hoj) hQ hy h1
  refine wpOp_mono (fun a' w' h3 => ?_) h2
  obtain ⟨hy', hSw, hW⟩ := h3;have hjz : j ≠ z := fun h => by have := (Array.getElem?_eq_some_iff.1 hoj).1; omega
  refine ⟨fun _ => hSw hjz, ih (L.setIfInBounds j true) a' w' ?_ (ready_mono hr (Ne.symm hji)) hy' (hSw hjz) ?_⟩
  ·intro k ok hk hki hun hno
   refine hfree k ok hk hki ?_ hno
   by_cases hjk : j = k
   ·subst hjk; exact hjun
   ·rw [getD_set_ne true hjk] at hun; exact hun
  ·rw [Array.setIfInBounds_comm _ _ hji]
   exact hW
theorem Ways.takeS {S : World → Prop} {i : Nat} {oi : Oper} {v : Value} {n : Nat} {L : Array Bool} {a : Act} {w : World} (hi : ops[i]? = some oi)
  (hs : (decide (ops.size ≤ z) && (Region.noSelect ops && (Region.free md ops L i && (Region.ready md ops L).contains i))) = true)
  (hQ : ∀ c a w, Q (.panic c) (a.put oi.dst v) w → Q (.panic c) a w) (hy : YieldsIf P ops S oi v a) (hS : S w)
  (h : Ways P md ops Q S z n (L.setIfInBounds i true) (a.put oi.dst v) w) : Ways P md ops Q S z (n + 1) L a w := by
 simp only [Bool.and_eq_true, decide_eq_true_eq] at hs
 obtain ⟨h0, h1, h2, h3⟩ := hs
 exact Ways.firstS h0 hi (Region.noSelect_spec h1) hQ n L a w (Region.free_spec hi h2) (by simpa using h3) hy hS h
end
section
variable {P : Program} {ops : Array Oper} {Q : Exit → Act → World → Prop} {md : Region.Mode} {S : World → Prop} {z : Nat}
def WaysZ (P : Program) (md : Region.Mode) (ops : Array Oper) (Q : Exit → Act → World → Prop) (S : World → Prop) (z : Nat) : Nat → Array Bool → Act → World → Prop
 | 0, L, a, w => Region.ready md ops L = [] ∧ Q .normal a w
 | n + 1, L, a, w => (Region.ready md ops L = [] → Q .normal a w) ∧
   ∀ i ∈ Region.ready md ops L, wpOp P ops Q i (fun a' w' => ((L.setIfInBounds i true).getD z true = false → S w') ∧ WaysZ P md ops Q S z n (L.setIfInBounds i true) a' w') a w
theorem WaysZ.any : ∀ (n : Nat) (L : Array Bool) (a : Act) (w : World), WaysZ P md ops Q S z n L a w → wpAny P md ops Q n L a w
 | 0, _, _, _, h => h
 | n + 1, _, _, _, h => ⟨h.1, fun i hi => wpOp_mono (fun a' w' k => WaysZ.any n _ a' w' k.2) (h.2 i hi)⟩
theorem WaysZ.first {T : Bool} {i : Nat} {oi : Oper} {v : Value} (hi : ops[i]? = some oi) (hsel : ∀ (j : Nat) (o : Oper) cs b, ops[j]? = some o → o.op ≠ .select cs b)
  (hQ : ∀ c a w, Q (.panic c) (a.put oi.dst v) w → Q (.panic c) a w) (hT : T = false → Later md ops z i ∧ z < ops.size) (hiz : i ≠ z) :
  ∀ (n : Nat) (L : Array Bool) (a : Act) (w : World), (T = false → Closed md ops L ∧ L.size = ops.size ∧ L.getD z true = false) →
   (∀ j oj, ops[j]? = some oj → j ≠ i → L.getD j true = false → (∀ e ∈ oj.after, Region.binds md e = true → e.on ≠ i) → oi.apart ops oj = true) →
   i ∈ Region.ready md ops L → YieldsIf P ops (fun w => T = false → S w) oi v a → (L.getD z true = false → S w) →
   WaysZ P md ops Q S z n (L.setIfInBounds i true) (a.put oi.dst v) w → WaysZ P md ops Q S z (n + 1) L a w := by
 intro n
 induction n with
 | zero =>
  intro L a w hC _ hr hy hS H
  refine ⟨fun h => (by rw [h] at hr; cases hr), fun j hj => ?_⟩
  by_cases hji : j = i
  ·subst hji
   exact hy.wpOp hi (fun ht => hS (hC ht).2.2) ⟨fun h => hS (by rwa [getD_set_ne true hiz] at h), H⟩
  ·have := ready_mono hj hji;rw [H.1] at this
   cases this
 | succ n ih =>
  intro L a w hC hfree hr hy hS H
  refine ⟨fun h => (by rw [h] at hr; cases hr), fun j hj => ?_⟩
  by_cases hji : j = i
  ·subst hji
   exact hy.wpOp hi (fun ht => hS (hC ht).2.2) ⟨fun h => hS (by rwa [getD_set_ne true hiz] at h), H⟩
  have h1 := H.2 j (ready_mono hj hji);obtain ⟨hjun, oj, hoj, hall⟩ := mem_ready.1 hj
  have hnot : ∀ e ∈ oj.after, Region.binds md e = true → e.on ≠ i := fun e he hb heq => by
   have h1 := hall e he hb;have h0 := (mem_ready.1 hr).1;rw [heq] at h1
   rcases Nat.lt_or_ge i L.size with h' | h'
   ·simp [h'] at h0 h1; rw [h0] at h1; cases h1
   ·simp [Array.getElem?_eq_none h'] at h1
  have h2 := wpOp_putIf hoj (hfree j oj hoj hji hjun hnot) (fun cs b => hsel i oi cs b hi) (fun cs b => hsel j oj cs b hoj) hQ hy h1
  refine wpOp_mono (fun a' w' h3 => ?_) h2
  obtain ⟨hy', hSw, hW⟩ := h3
  have e2 : ((L.setIfInBounds i true).setIfInBounds j true).getD z true = (L.setIfInBounds j true).getD z true := by
   rw [Array.setIfInBounds_comm _ _ (Ne.symm hji)]
   exact getD_set_ne true hiz
  rw [e2] at hSw
  refine ⟨hSw, ih (L.setIfInBounds j true) a' w' (fun ht => ?_) ?_ (ready_mono hr (Ne.symm hji)) hy' hSw ?_⟩
  ·obtain ⟨c1, c2, c3⟩ := hC ht;have hjz : j ≠ z := fun h => (hT ht).1 L c1 (mem_ready.1 hr).1 (h ▸ hj)
   exact ⟨c1.step hj, by simp [c2], by rw [getD_set_ne true hjz]; exact c3⟩
  ·intro k ok hk hki hun hno
   refine hfree k ok hk hki ?_ hno
   by_cases hjk : j = k
   ·subst hjk; exact hjun
   ·rw [getD_set_ne true hjk] at hun; exact hun
  ·rw [Array.setIfInBounds_comm _ _ hji]
   exact hW
theorem WaysZ.take {i : Nat} {oi : Oper} {v : Value} {n : Nat} {L : Array Bool} {a : Act} {w : World} (hi : ops[i]? = some oi)
  (hs : (Region.noSelect ops && (Region.free md ops L i && ((Region.ready md ops L).contains i && (closedB md ops L && (i != z && ((decide (L.size = ops.size) && (decide (z < ops.size) && !(L.getD z true))) && (match ops[z]? with | some o => o.after.any fun e => Region.binds md e && chain md ops 8 e.on i | none => false))))))) = true)
  (hQ : ∀ c a w, Q (.panic c) (a.put oi.dst v) w → Q (.panic c) a w) (hy : YieldsIf P ops S oi v a) (hS : S w)
  (h : WaysZ P md ops Q S z n (L.setIfInBounds i true) (a.put oi.dst v) w) : WaysZ P md ops Q S z (n + 1) L a w := by
 simp only [Bool.and_eq_true, decide_eq_true_eq] at hs
 obtain ⟨h1, h2, h3, h4, h5, ⟨h7, h8, h9⟩, h6⟩ := hs
 refine WaysZ.first (T := false) hi (Region.noSelect_spec h1) hQ (fun _ => ⟨later_of 8 h6, h8⟩) (by simpa using h5) n L a w (fun _ => ⟨closedB_spec h4, h7, by simpa using h9⟩) (Region.free_spec hi h2) (by simpa using h3) ?_ (fun _ => hS) h
 simpa using hy
theorem WaysZ.takeT {i : Nat} {oi : Oper} {v : Value} {n : Nat} {L : Array Bool} {a : Act} {w : World} (hi : ops[i]? = some oi)
  (hs : (Region.noSelect ops && (Region.free md ops L i && ((Region.ready md ops L).contains i && i != z))) = true)
  (hQ : ∀ c a w, Q (.panic c) (a.put oi.dst v) w → Q (.panic c) a w) (hy : YieldsIf P ops (fun _ => True) oi v a) (hS : L.getD z true = false → S w)
  (h : WaysZ P md ops Q S z n (L.setIfInBounds i true) (a.put oi.dst v) w) : WaysZ P md ops Q S z (n + 1) L a w := by
 simp only [Bool.and_eq_true] at hs
 obtain ⟨h1, h2, h3, h5⟩ := hs
 refine WaysZ.first (T := true) hi (Region.noSelect_spec h1) hQ (fun h => by cases h) (by simpa using h5) n L a w (fun h => by cases h) (Region.free_spec hi h2) (by simpa using h3) ?_ hS h
 simpa using hy
theorem WaysZ.one {i : Nat} {o : Oper} {n : Nat} {L : Array Bool} {a : Act} {w : World} (hi : ops[i]? = some o) (hr : Region.ready md ops L = [i])
  (h : ∀ K : Act → World → Prop, Shut (∀ a w, ((L.setIfInBounds i true).getD z true = false → S w) → (((L.setIfInBounds i true).getD z true = false → S w) → WaysZ P md ops Q S z n (L.setIfInBounds i true) a w) → K a w) →
   if Region.wanted o (yielded ops a.tmps) = true then Oper.wp P o a w K Q else K (a.put o.dst undef) w) : WaysZ P md ops Q S z (n + 1) L a w := by
 refine ⟨fun h0 => (by rw [hr] at h0; cases h0), fun j hj => ?_⟩
 rw [hr] at hj;have hji : j = i := by simpa using hj
 subst hji
 exact wpOp_step hi fun K hK => h K fun a w hS hW => hK a w ⟨hS, hW hS⟩
theorem WaysZ.two {i j : Nat} {o o' : Oper} {n : Nat} {L : Array Bool} {a : Act} {w : World} (hi : ops[i]? = some o) (hj : ops[j]? = some o') (hr : Region.ready md ops L = [i, j])
  (h : ∀ K : Act → World → Prop, Shut (∀ a w, ((L.setIfInBounds i true).getD z true = false → S w) → (((L.setIfInBounds i true).getD z true = false → S w) → WaysZ P md ops Q S z n (L.setIfInBounds i true) a w) → K a w) →
   if Region.wanted o (yielded ops a.tmps) = true then Oper.wp P o a w K Q else K (a.put o.dst undef) w)
  (h' : ∀ K : Act → World → Prop, Shut (∀ a w, ((L.setIfInBounds j true).getD z true = false → S w) → (((L.setIfInBounds j true).getD z true = false → S w) → WaysZ P md ops Q S z n (L.setIfInBounds j true) a w) → K a w) →
   if Region.wanted o' (yielded ops a.tmps) = true then Oper.wp P o' a w K Q else K (a.put o'.dst undef) w) : WaysZ P md ops Q S z (n + 1) L a w := by
 refine ⟨fun h0 => (by rw [hr] at h0; cases h0), fun k hk => ?_⟩
 rw [hr] at hk
 rcases (by simpa using hk : k = i ∨ k = j) with hk | hk
 ·subst hk
  exact wpOp_step hi fun K hK => h K fun a w hS hW => hK a w ⟨hS, hW hS⟩
 ·subst hk
  exact wpOp_step hj fun K hK => h' K fun a w hS hW => hK a w ⟨hS, hW hS⟩
theorem WaysZ.done {L : Array Bool} {a : Act} {w : World} {n : Nat} (hr : Region.ready md ops L = []) (h : Q .normal a w) : WaysZ P md ops Q S z n L a w := by
 cases n with
 | zero => exact ⟨hr, h⟩
 | succ n => exact ⟨fun _ => h, by rw [hr]; simp⟩
theorem wp_region_waysZ {id : Nat} {a : Act} {w : World} (z : Nat) (S : World → Prop) (hm : P.follows .mixedOrders = true) (hS : S w.drew)
  (h : S w.drew → WaysZ P .any ops Q S z ops.size (Array.replicate ops.size false) a w.drew) : (Code.region id ops true).wp P Q a w :=
 wp_region_any hm (WaysZ.any _ _ _ _ (h hS))
end
theorem byteV_getD (l : List UInt8) (i : Nat) : (l.map fun u => (u.toNat : Int)).getD i 0 = ((l.getD i 0).toNat : Int) := by
 simp [List.getD]
 cases h : l[i]? <;> simp
theorem strOfNums_bytes (l : List UInt8) : strOfNums (l.map fun u => (u.toNat : Int)) = ⟨l.toArray⟩ := by
 have h : (fun n : Int => UInt8.ofNat n.toNat) ∘ (fun u : UInt8 => (u.toNat : Int)) = id := by funext u; simp
 unfold strOfNums
 simp [h]
theorem conv_bytes {w : World} {A : Option Addr} {l : List UInt8} (h : Src w A (l.map byteV)) (n c : Nat) (hn : n = l.length) :
  (convert 22 9 (.slice A n c)).run Tryz.prog w = .ok (.string ⟨l.toArray⟩) w := by
 subst hn
 by_cases hl : l = []
 ·subst hl
  cases A with
  | none => exact run_convert_bytes_nil w _ 5 Tryz.underlying22 Tryz.underlying5 _ _ _ Tryz.underlying9
  | some a =>
   obtain ⟨b, off, spot⟩ := a;rw [run_convert_bytes_string w _ _ 5 _ _ c Tryz.underlying22 Tryz.underlying5 Tryz.underlying9];rfl
 ·obtain ⟨b, off, rfl, hc⟩ := h (by simpa using hl)
  have := run_convert_bytes_arg (P := Tryz.prog) w 22 5 Tryz.underlying22 Tryz.underlying5 b off l.length c (l.map fun u => (u.toNat : Int)) (by simp)
   (fun i hi => by rw [byteV_getD, hc i (byteV l[i]) (by simp [hi])]; simp [List.getD, hi]) _ Tryz.underlying9
  rw [this, strOfNums_bytes]
theorem bytes_Equal (w : World) (A B : Option Addr) (a b : List UInt8) (n m c d : Nat) (hn : n = a.length) (hm : m = b.length) (ha : Src w A (a.map byteV)) (hb : Src w B (b.map byteV)) :
  Calls Tryz.prog 54 #[.slice A n c, .slice B m d] w fun e w' => e = .returned (.bool (a == b)) ∧ w = w' := by
 have h1 := conv_bytes ha n c hn;have h2 := conv_bytes hb m d hm;clear hn hm ha hb;go_enter Tryz.func54, Tryz.ntmps54
 go_wp2
 go_ret
 exact ⟨rfl, rfl⟩
theorem run_loadBytes {P : Program} {w : World} (b : Nat) : ∀ (l : List UInt8) (off : Nat) (acc : ByteArray), (∀ j v, (l.map byteV)[j]? = some v → w.cell? ⟨b, off + j, none⟩ = some v) →
  (Extern.Bytes.loadBytes ⟨b, off, none⟩ l.length acc).run P w = .ok ⟨acc.data ++ l.toArray⟩ w
 | [], off, acc, _ => by simp [Extern.Bytes.loadBytes]
 | u :: l, off, acc, h => by
  have h0 := h 0 (byteV u) rfl;have ih := run_loadBytes (P := P) b l (off + 1) (acc.push u) (fun j v hj => by rw [show off + 1 + j = off + (j + 1) by omega]; exact h (j + 1) v (by simpa using hj))
  simp only [List.length_cons, Extern.Bytes.loadBytes]
  simp [load, Sem.run, Result.andThen, byteV] at h0 ⊢
  simp [h0, addr_add, ByteArray.push]
  rw [show (⟨acc.data.push u⟩ : ByteArray) = acc.push u from rfl, ih];congr 2
  simp [ByteArray.push]
theorem run_bytesOf {P : Program} {w : World} {A : Option Addr} {l : List UInt8} (h : Src w A (l.map byteV)) (n c : Nat) (hn : n = l.length) :
  (Extern.Bytes.bytesOf (.slice A n c)).run P w = .ok ⟨l.toArray⟩ w := by
 subst hn
 by_cases hl : l = []
 ·subst hl
  cases A with
  | none => rfl
  | some a => rfl
 ·obtain ⟨b, off, rfl, hc⟩ := h (by simpa using hl);have := run_loadBytes (P := P) b l off .empty hc
  simp only [Extern.Bytes.bytesOf]
  rw [this]
  simp [ByteArray.empty, ByteArray.emptyWithCapacity]
  rfl
theorem run_compare {P : Program} {w : World} {A B : Option Addr} {a b : List UInt8} (ha : Src w A (a.map byteV)) (hb : Src w B (b.map byteV)) (n m c d : Nat) (hn : n = a.length) (hm : m = b.length) :
  (Extern.BytealgCompare.compare #[.slice A n c, .slice B m d]).run P w = .ok (.int .i64 (Lib.compareBytes a b)) w := by
 change Sem.run P (do pure (goInt (Extern.BytealgCompare.cmp (← Extern.Bytes.bytesOf (.slice A n c)) (← Extern.Bytes.bytesOf (.slice B m d))))) w = _
 simp only [Sem.run_bind, Sem.run_pure, Result.andThen, run_bytesOf ha n c hn, run_bytesOf hb m d hm]
 rw [Lib.cmp_eq];rfl
theorem bytes_Compare (w : World) (A B : Option Addr) (a b : List UInt8) (n m c d : Nat) (hn : n = a.length) (hm : m = b.length) (ha : Src w A (a.map byteV)) (hb : Src w B (b.map byteV)) :
  Calls Tryz.prog 53 #[.slice A n c, .slice B m d] w fun e w' => e = .returned (.int .i64 (Lib.compareBytes a b)) ∧ w = w' := by
 have h1 := Hh (run_compare (P := Tryz.prog) ha hb n m c d hn hm);clear hn hm ha hb;go_enter Tryz.func53, Tryz.ntmps53
 go_wp2
 rw [run_callFunc_extern Tryz.func85 (by kernel_rfl) (by kernel_rfl) (by kernel_rfl) (e := Extern.BytealgCompare.compare) (by kernel_rfl), h1.out]
 simp only [Result.andThen]
 rw [Oper.upon_value];go_wp2
 go_ret
 exact ⟨rfl, rfl⟩
theorem bytes_Clone (w : World) (A : Option Addr) (l : List UInt8) (n c : Nat) (hn : n = l.length) (hl : l.length ≤ 1099511627776) (hs : Src w A (l.map byteV)) :
  Calls Tryz.prog 21 #[.slice A n c] w fun e w' => ∃ r, e = .returned r ∧ Fresh w l r w' := by
 cases A with
 | none =>
  have h0 : l = [] := by
   cases l with
   | nil => rfl
   | cons a l => obtain ⟨b, off, h, _⟩ := hs (by simp); cases h
  subst h0;have he := fun w : World => Lib.run_eql_slice_nil (P := Tryz.prog) w _ _ none n c 0 0 Tryz.underlying22
  clear hn hl;go_enter Tryz.func21, Tryz.ntmps21
  go_wp2
  go_ret
  exact ⟨_, rfl, OwnB.nil _ _, Below.refl _ _⟩
 | some a =>
  have he := fun w : World => Lib.run_eql_slice_nil (P := Tryz.prog) w _ _ (some a) n c 0 0 Tryz.underlying22
  simp only [Option.isNone] at he
  have HN := Hh hn;clear hn;go_enter Tryz.func21, Tryz.ntmps21
  go_wp2_with (at_builtin; refine stop_in ?_)
  unfold Stopped
  have h0 : OwnB (w.alloc (.cells #[] 5)) w.heap.size (.slice (some ⟨w.heap.size, 0, none⟩) 0 0) [] := OwnB.lit w _ [] #[] 0 rfl rfl (Nat.le_refl _) (by simp)
  refine wpList_app_bytes rfl (.tmp 5) (.tmp 6) rfl w.heap.size _ [] rfl h0 (some a) n c l rfl HN.out ?_ (by simpa using hl) (by simp) ?_
  ·exact hs.alloc _
  intro v' w' hown hg _
  have hf : Fresh w l v' w' := ⟨by rw [List.nil_append] at hown; exact hown, (below_box w _).grown hg (by simp) (fun k hk => (h0.lt k hk).1)⟩
  clear hown hg h0;go_wp2
  go_ret
  exact ⟨_, rfl, hf⟩
theorem slices_Clone (w : World) (A : Option Addr) (l : List UInt8) (n c : Nat) (hn : n = l.length) (hl : l.length ≤ 1099511627776) (hs : Src w A (l.map byteV)) :
  Calls Tryz.prog 87 #[.slice A n c] w fun e w' => ∃ r, e = .returned r ∧ Fresh w l r w' := by
 cases A with
 | none =>
  have h0 : l = [] := by
   cases l with
   | nil => rfl
   | cons a l => obtain ⟨b, off, h, _⟩ := hs (by simp); cases h
  subst h0;have he := fun w : World => Lib.run_eql_slice_nil (P := Tryz.prog) w _ _ none n c 0 0 Tryz.underlying22
  clear hn hl;go_enter Tryz.func87, Tryz.ntmps87
  go_wp2
  go_ret
  exact ⟨_, rfl, OwnB.nil _ _, Below.refl _ _⟩
 | some a =>
  have he := fun w : World => Lib.run_eql_slice_nil (P := Tryz.prog) w _ _ (some a) n c 0 0 Tryz.underlying22
  simp only [Option.isNone] at he
  have HN := Hh hn;clear hn;go_enter Tryz.func87, Tryz.ntmps87
  go_wp2_with (at_builtin; refine stop_in ?_)
  unfold Stopped
  have h0 : OwnB (w.alloc (.cells #[] 5)) w.heap.size (.slice (some ⟨w.heap.size, 0, none⟩) 0 0) [] := OwnB.lit w _ [] #[] 0 rfl rfl (Nat.le_refl _) (by simp)
  refine wpList_app_bytes rfl (.tmp 5) (.tmp 6) rfl w.heap.size _ [] rfl h0 (some a) n c l rfl HN.out ?_ (by simpa using hl) (by simp) ?_
  ·exact hs.alloc _
  intro v' w' hown hg _
  have hf : Fresh w l v' w' := ⟨by rw [List.nil_append] at hown; exact hown, (below_box w _).grown hg (by simp) (fun k hk => (h0.lt k hk).1)⟩
  clear hown hg h0;go_wp2
  go_ret
  exact ⟨_, rfl, hf⟩
abbrev zz1 := @List.getElem_toArray
abbrev zz2 := @List.getElem_cons_zero
abbrev zz3 := @List.getElem_cons_succ
abbrev zz4 := @List.setIfInBounds_toArray
abbrev zz5 := @List.set_cons_zero
abbrev zz6 := @List.set_cons_succ
theorem Tk {P : Program} {md : Region.Mode} {ops : Array Oper} {Q : Exit → Act → World → Prop} {z : Nat} {S : World → Prop} (i : Nat) {oi : Oper} {v : Value} {n : Nat} {L : Array Bool} {a : Act} {w : World} {a' : Act} (hi : ops[i]? = some oi) (hS : S w) (h : Ways P md ops Q S z n (L.setIfInBounds i true) a' w)
  (hs : (Region.noSelect ops && (Region.free md ops L i && ((Region.ready md ops L).contains i && (closedB md ops L && (i != z && (match ops[z]? with | some o => o.after.any fun e => Region.binds md e && chain md ops 8 e.on i | none => false)))))) = true := by kernel_rfl) (hw : Region.wanted oi (yielded ops a.tmps) = true := by rfl) (hy : ∀ w, S w → Sem.run P (execOp a.eval oi) w = Result.ok (Next.value v) w := by intro w s; (try dsimp only at s); go_simp; try with_reducible rfl) (ha : a.put oi.dst v = a' := by (try simp only [Act.put, zz1, zz2, zz3, zz4, zz5, zz6]); with_reducible rfl) (hQ : ∀ c a w, Q (.panic c) (a.put oi.dst v) w → Q (.panic c) a w := by exact fun _ _ _ h => h) : Ways P md ops Q S z (n + 1) L a w := by subst ha; exact Ways.take hi hs hQ (Or.inl ⟨hw, hy⟩) hS h
theorem TkG {P : Program} {md : Region.Mode} {ops : Array Oper} {Q : Exit → Act → World → Prop} {z : Nat} {S : World → Prop} (i : Nat) {oi : Oper} {v : Value} {n : Nat} {L : Array Bool} {a : Act} {w : World} {a' : Act} (hi : ops[i]? = some oi) (hS : S w) (h : Ways P md ops Q S z n (L.setIfInBounds i true) a' w)
  (hs : (Region.noSelect ops && (Region.free md ops L i && ((Region.ready md ops L).contains i && (closedB md ops L && (i != z && (match ops[z]? with | some o => o.after.any fun e => Region.binds md e && chain md ops 8 e.on i | none => false)))))) = true := by kernel_rfl) (hw : Region.wanted oi (yielded ops a.tmps) = true := by kernel_rfl) (hy : ∀ w, S w → Sem.run P (execOp a.eval oi) w = Result.ok (Next.value v) w := by intro w s; (try dsimp only at s); go_simp; try with_reducible rfl) (ha : a.put oi.dst v = a' := by (try simp only [Act.put, zz1, zz2, zz3, zz4, zz5, zz6]); with_reducible rfl) (hQ : ∀ c a w, Q (.panic c) (a.put oi.dst v) w → Q (.panic c) a w := by exact fun _ _ _ h => h) : Ways P md ops Q S z (n + 1) L a w := by subst ha; exact Ways.take hi hs hQ (Or.inl ⟨hw, hy⟩) hS h
theorem TkU {P : Program} {md : Region.Mode} {ops : Array Oper} {Q : Exit → Act → World → Prop} {z : Nat} {S : World → Prop} (i : Nat) {oi : Oper} {n : Nat} {L : Array Bool} {a : Act} {w : World} {a' : Act} (hi : ops[i]? = some oi) (hS : S w) (h : Ways P md ops Q S z n (L.setIfInBounds i true) a' w)
  (hs : (Region.noSelect ops && (Region.free md ops L i && ((Region.ready md ops L).contains i && (closedB md ops L && (i != z && (match ops[z]? with | some o => o.after.any fun e => Region.binds md e && chain md ops 8 e.on i | none => false)))))) = true := by kernel_rfl) (hw : Region.wanted oi (yielded ops a.tmps) = false := by kernel_rfl) (ha : a.put oi.dst undef = a' := by (try simp only [Act.put, zz1, zz2, zz3, zz4, zz5, zz6]); with_reducible rfl) (hQ : ∀ c a w, Q (.panic c) (a.put oi.dst undef) w → Q (.panic c) a w := by exact fun _ _ _ h => h) : Ways P md ops Q S z (n + 1) L a w := by subst ha; exact Ways.take hi hs hQ (Or.inr ⟨hw, rfl⟩) hS h
theorem To {P : Program} {md : Region.Mode} {ops : Array Oper} {Q : Exit → Act → World → Prop} {z : Nat} {S : World → Prop} (i : Nat) {o : Oper} {n : Nat} {L : Array Bool} {a : Act} {w : World} (hi : ops[i]? = some o)
  (h : ∀ K : Act → World → Prop, Shut (∀ a w, (i ≠ z → S w) → ((i ≠ z → S w) → Ways P md ops Q S z n (L.setIfInBounds i true) a w) → K a w) → if Region.wanted o (yielded ops a.tmps) = true then Oper.wp P o a w K Q else K (a.put o.dst undef) w)
  (hr : Region.ready md ops L = [i] := by kernel_rfl) : Ways P md ops Q S z (n + 1) L a w := Ways.one hi hr h
theorem TkT {P : Program} {md : Region.Mode} {ops : Array Oper} {Q : Exit → Act → World → Prop} {z : Nat} (i : Nat) {oi : Oper} {v : Value} {n : Nat} {L : Array Bool} {a : Act} {w : World} {a' : Act} (hi : ops[i]? = some oi) (h : Ways P md ops Q (fun _ => True) z n (L.setIfInBounds i true) a' w)
  (hs : (Region.noSelect ops && (Region.free md ops L i && (Region.ready md ops L).contains i)) = true := by kernel_rfl) (hw : Region.wanted oi (yielded ops a.tmps) = true := by rfl) (hy : ∀ w, (fun _ => True) w → Sem.run P (execOp a.eval oi) w = Result.ok (Next.value v) w := by intro w s; go_simp; try with_reducible rfl) (ha : a.put oi.dst v = a' := by (try simp only [Act.put, zz1, zz2, zz3, zz4, zz5, zz6]); with_reducible rfl) (hQ : ∀ c a w, Q (.panic c) (a.put oi.dst v) w → Q (.panic c) a w := by exact fun _ _ _ h => h) : Ways P md ops Q (fun _ => True) z (n + 1) L a w := by subst ha; exact Ways.takeT hi hs hQ (Or.inl ⟨hw, hy⟩) h
theorem TkTG {P : Program} {md : Region.Mode} {ops : Array Oper} {Q : Exit → Act → World → Prop} {z : Nat} (i : Nat) {oi : Oper} {v : Value} {n : Nat} {L : Array Bool} {a : Act} {w : World} {a' : Act} (hi : ops[i]? = some oi) (h : Ways P md ops Q (fun _ => True) z n (L.setIfInBounds i true) a' w)
  (hs : (Region.noSelect ops && (Region.free md ops L i && (Region.ready md ops L).contains i)) = true := by kernel_rfl) (hw : Region.wanted oi (yielded ops a.tmps) = true := by kernel_rfl) (hy : ∀ w, (fun _ => True) w → Sem.run P (execOp a.eval oi) w = Result.ok (Next.value v) w := by intro w s; go_simp; try with_reducible rfl) (ha : a.put oi.dst v = a' := by (try simp only [Act.put, zz1, zz2, zz3, zz4, zz5, zz6]); with_reducible rfl) (hQ : ∀ c a w, Q (.panic c) (a.put oi.dst v) w → Q (.panic c) a w := by exact fun _ _ _ h => h) : Ways P md ops Q (fun _ => True) z (n + 1) L a w := by subst ha; exact Ways.takeT hi hs hQ (Or.inl ⟨hw, hy⟩) h
theorem TkS {P : Program} {md : Region.Mode} {ops : Array Oper} {Q : Exit → Act → World → Prop} {z : Nat} {S : World → Prop} (i : Nat) {oi : Oper} {v : Value} {n : Nat} {L : Array Bool} {a : Act} {w : World} {a' : Act} (hi : ops[i]? = some oi) (hS : S w) (h : Ways P md ops Q S z n (L.setIfInBounds i true) a' w)
  (hs : (decide (ops.size ≤ z) && (Region.noSelect ops && (Region.free md ops L i && (Region.ready md ops L).contains i))) = true := by kernel_rfl) (hw : Region.wanted oi (yielded ops a.tmps) = true := by rfl) (hy : ∀ w, S w → Sem.run P (execOp a.eval oi) w = Result.ok (Next.value v) w := by intro w s; (try dsimp only at s); go_simp; try with_reducible rfl) (ha : a.put oi.dst v = a' := by (try simp only [Act.put, zz1, zz2, zz3, zz4, zz5, zz6]); with_reducible rfl) (hQ : ∀ c a w, Q (.panic c) (a.put oi.dst v) w → Q (.panic c) a w := by exact fun _ _ _ h => h) : Ways P md ops Q S z (n + 1) L a w := by subst ha; exact Ways.takeS hi hs hQ (Or.inl ⟨hw, hy⟩) hS h
theorem TkSG {P : Program} {md : Region.Mode} {ops : Array Oper} {Q : Exit → Act → World → Prop} {z : Nat} {S : World → Prop} (i : Nat) {oi : Oper} {v : Value} {n : Nat} {L : Array Bool} {a : Act} {w : World} {a' : Act} (hi : ops[i]? = some oi) (hS : S w) (h : Ways P md ops Q S z n (L.setIfInBounds i true) a' w)
  (hs : (decide (ops.size ≤ z) && (Region.noSelect ops && (Region.free md ops L i && (Region.ready md ops L).contains i))) = true := by kernel_rfl) (hw : Region.wanted oi (yielded ops a.tmps) = true := by kernel_rfl) (hy : ∀ w, S w → Sem.run P (execOp a.eval oi) w = Result.ok (Next.value v) w := by intro w s; (try dsimp only at s); go_simp; try with_reducible rfl) (ha : a.put oi.dst v = a' := by (try simp only [Act.put, zz1, zz2, zz3, zz4, zz5, zz6]); with_reducible rfl) (hQ : ∀ c a w, Q (.panic c) (a.put oi.dst v) w → Q (.panic c) a w := by exact fun _ _ _ h => h) : Ways P md ops Q S z (n + 1) L a w := by subst ha; exact Ways.takeS hi hs hQ (Or.inl ⟨hw, hy⟩) hS h
theorem TkSU {P : Program} {md : Region.Mode} {ops : Array Oper} {Q : Exit → Act → World → Prop} {z : Nat} {S : World → Prop} (i : Nat) {oi : Oper} {n : Nat} {L : Array Bool} {a : Act} {w : World} {a' : Act} (hi : ops[i]? = some oi) (hS : S w) (h : Ways P md ops Q S z n (L.setIfInBounds i true) a' w)
  (hs : (decide (ops.size ≤ z) && (Region.noSelect ops && (Region.free md ops L i && (Region.ready md ops L).contains i))) = true := by kernel_rfl) (hw : Region.wanted oi (yielded ops a.tmps) = false := by kernel_rfl) (ha : a.put oi.dst undef = a' := by (try simp only [Act.put, zz1, zz2, zz3, zz4, zz5, zz6]); with_reducible rfl) (hQ : ∀ c a w, Q (.panic c) (a.put oi.dst undef) w → Q (.panic c) a w := by exact fun _ _ _ h => h) : Ways P md ops Q S z (n + 1) L a w := by subst ha; exact Ways.takeS hi hs hQ (Or.inr ⟨hw, rfl⟩) hS h
theorem Zk {P : Program} {md : Region.Mode} {ops : Array Oper} {Q : Exit → Act → World → Prop} {z : Nat} {S : World → Prop} (i : Nat) {oi : Oper} {v : Value} {n : Nat} {L : Array Bool} {a : Act} {w : World} {a' : Act} (hi : ops[i]? = some oi) (hS : S w) (h : WaysZ P md ops Q S z n (L.setIfInBounds i true) a' w)
  (hs : (Region.noSelect ops && (Region.free md ops L i && ((Region.ready md ops L).contains i && (closedB md ops L && (i != z && ((decide (L.size = ops.size) && (decide (z < ops.size) && !(L.getD z true))) && (match ops[z]? with | some o => o.after.any fun e => Region.binds md e && chain md ops 8 e.on i | none => false))))))) = true := by kernel_rfl) (hw : Region.wanted oi (yielded ops a.tmps) = true := by rfl) (hy : ∀ w, S w → Sem.run P (execOp a.eval oi) w = Result.ok (Next.value v) w := by intro w s; (try dsimp only at s); go_simp; try with_reducible rfl) (ha : a.put oi.dst v = a' := by (try simp only [Act.put, zz1, zz2, zz3, zz4, zz5, zz6]); with_reducible rfl) (hQ : ∀ c a w, Q (.panic c) (a.put oi.dst v) w → Q (.panic c) a w := by exact fun _ _ _ h => h) : WaysZ P md ops Q S z (n + 1) L a w := by subst ha; exact WaysZ.take hi hs hQ (Or.inl ⟨hw, hy⟩) hS h
theorem ZkT {P : Program} {md : Region.Mode} {ops : Array Oper} {Q : Exit → Act → World → Prop} {z : Nat} {S : World → Prop} (i : Nat) {oi : Oper} {v : Value} {n : Nat} {L : Array Bool} {a : Act} {w : World} {a' : Act} (hi : ops[i]? = some oi) (hS : L.getD z true = false → S w) (h : WaysZ P md ops Q S z n (L.setIfInBounds i true) a' w)
  (hs : (Region.noSelect ops && (Region.free md ops L i && ((Region.ready md ops L).contains i && i != z))) = true := by kernel_rfl) (hw : Region.wanted oi (yielded ops a.tmps) = true := by rfl) (hy : ∀ w, (fun _ => True) w → Sem.run P (execOp a.eval oi) w = Result.ok (Next.value v) w := by intro w s; go_simp; try with_reducible rfl) (ha : a.put oi.dst v = a' := by (try simp only [Act.put, zz1, zz2, zz3, zz4, zz5, zz6]); with_reducible rfl) (hQ : ∀ c a w, Q (.panic c) (a.put oi.dst v) w → Q (.panic c) a w := by exact fun _ _ _ h => h) : WaysZ P md ops Q S z (n + 1) L a w := by subst ha; exact WaysZ.takeT hi hs hQ (Or.inl ⟨hw, hy⟩) hS h
theorem Zo {P : Program} {md : Region.Mode} {ops : Array Oper} {Q : Exit → Act → World → Prop} {z : Nat} {S : World → Prop} (i : Nat) {o : Oper} {n : Nat} {L : Array Bool} {a : Act} {w : World} (hi : ops[i]? = some o)
  (h : ∀ K : Act → World → Prop, Shut (∀ a w, ((L.setIfInBounds i true).getD z true = false → S w) → (((L.setIfInBounds i true).getD z true = false → S w) → WaysZ P md ops Q S z n (L.setIfInBounds i true) a w) → K a w) →
      if Region.wanted o (yielded ops a.tmps) = true then Oper.wp P o a w K Q else K (a.put o.dst undef) w)
  (hr : Region.ready md ops L = [i] := by kernel_rfl) : WaysZ P md ops Q S z (n + 1) L a w := WaysZ.one hi hr h
end Go.Proofs.YtmacemcajlgddaaGreatDoor
