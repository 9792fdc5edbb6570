/- squeezed. A region that draws its order, whose last operation may write what its loads read: all others keep S. A region that draws its order, nothing being asked of the worlds between its operations. -/
import Derived.Test.YtlebpackbfcfeaaDoorJ00
import Derived.Deep.RegionHeld
set_option linter.unusedVariables false
set_option linter.unusedSimpArgs false
namespace Go.Proofs.YtlebpackbfcfeaaDoor
open Go.RowKit

section
variable {P : Program} {ops : Array Oper} {Q : Exit → Act → World → Prop} {md : Region.Mode} {S : World → Prop} {z : Nat}

def Ways (P : Program) (md : Region.Mode) (ops : Array Oper) (Q : Exit → Act → World → Prop) (S : World → Prop) (z : Nat) : Nat → Array Bool → Act → World → Prop
 | 0, L, a, w => Region.ready md ops L = [] ∧ Q .normal a w
 | n + 1, L, a, w => (Region.ready md ops L = [] → Q .normal a w) ∧
     ∀ i ∈ Region.ready md ops L, wpOp P ops Q i (fun a' w' => (i ≠ z → S w') ∧ Ways P md ops Q S z n (L.setIfInBounds i true) a' w') a w
theorem Ways.any : ∀ (n : Nat) (L : Array Bool) (a : Act) (w : World), Ways P md ops Q S z n L a w → wpAny P md ops Q n L a w
 | 0, _, _, _, h => h
 | n + 1, _, _, _, h => ⟨h.1, fun i hi => wpOp_mono (fun a' w' k => Ways.any n _ a' w' k.2) (h.2 i hi)⟩

def Closed (md : Region.Mode) (ops : Array Oper) (L : Array Bool) : Prop :=
 ∀ (j : Nat) (o : Oper), ops[j]? = some o → L.getD j false = true → ∀ e ∈ o.after, Region.binds md e = true → L.getD e.on false = true
theorem Closed.step {L : Array Bool} (h : Closed md ops L) {i : Nat} (hi : i ∈ Region.ready md ops L) : Closed md ops (L.setIfInBounds i true) := by
 intro j o ho hj e he hb
 obtain ⟨_, oi, hoi, hall⟩ := mem_ready.1 hi
 by_cases hij : i = j
 · subst hij
   rw [ho] at hoi
   cases hoi
   exact getD_set_true (hall e he hb)
 · rw [getD_set_ne false hij] at hj
   exact getD_set_true (h j o ho hj e he hb)
def Later (md : Region.Mode) (ops : Array Oper) (z i : Nat) : Prop := ∀ L, Closed md ops L → L.getD i true = false → z ∉ Region.ready md ops L
def chain (md : Region.Mode) (ops : Array Oper) : Nat → Nat → Nat → Bool
 | 0, k, i => k == i
 | n + 1, k, i => k == i || match ops[k]? with
   | some o => o.after.any fun e => Region.binds md e && chain md ops n e.on i
   | none => false
theorem chain_listed : ∀ (n k i : Nat) (L : Array Bool), Closed md ops L → chain md ops n k i = true → L.getD k false = true → L.getD i false = true
 | 0, k, i, L, _, h, hk => by
   have : k = i := by simpa [chain] using h
   exact this ▸ hk
 | n + 1, k, i, L, hc, h, hk => by
   unfold chain at h
   rw [Bool.or_eq_true] at h
   rcases h with h | h
   · have : k = i := by simpa using h
     exact this ▸ hk
   · cases ho : ops[k]? with
     | none => rw [ho] at h; cases h
     | some o =>
       rw [ho] at h
       obtain ⟨e, he, hb⟩ := Array.any_eq_true'.1 h
       rw [Bool.and_eq_true] at hb
       exact chain_listed n e.on i L hc hb.2 (hc k o ho hk e he hb.1)
theorem later_of {i : Nat} (n : Nat) (h : (match ops[z]? with | some o => o.after.any fun e => Region.binds md e && chain md ops n e.on i | none => false) = true) : Later md ops z i := by
 intro L hc hi hz
 obtain ⟨_, o, ho, hall⟩ := mem_ready.1 hz
 rw [ho] at h
 obtain ⟨e, he, hb⟩ := Array.any_eq_true'.1 h
 rw [Bool.and_eq_true] at hb
 have h1 := chain_listed n e.on i L hc hb.2 (hall e he hb.1)
 rcases Nat.lt_or_ge i L.size with h' | h'
 · simp [h'] at hi h1
   rw [hi] at h1
   cases h1
 · simp [Array.getElem?_eq_none h'] at hi

theorem Ways.first {i : Nat} {oi : Oper} {v : Value} (hi : ops[i]? = some oi) (hsel : ∀ (j : Nat) (o : Oper) cs b, ops[j]? = some o → o.op ≠ .select cs b)
   (hQ : ∀ c a w, Q (.panic c) (a.put oi.dst v) w → Q (.panic c) a w) (hz : Later md ops z i) (hiz : i ≠ z) :
   ∀ (n : Nat) (L : Array Bool) (a : Act) (w : World), Closed md ops L →
     (∀ j oj, ops[j]? = some oj → j ≠ i → L.getD j true = false → (∀ e ∈ oj.after, Region.binds md e = true → e.on ≠ i) → oi.apart ops oj = true) →
     i ∈ Region.ready md ops L → YieldsIf P ops S oi v a → S w →
     Ways P md ops Q S z n (L.setIfInBounds i true) (a.put oi.dst v) w → Ways P md ops Q S z (n + 1) L a w := by
 intro n
 induction n with
 | zero =>
   intro L a w _ _ hr hy hS H
   refine ⟨fun h => (by rw [h] at hr; cases hr), fun j hj => ?_⟩
   by_cases hji : j = i
   · subst hji; exact hy.wpOp hi hS ⟨fun _ => hS, H⟩
   · have := ready_mono hj hji
     rw [H.1] at this
     cases this
 | succ n ih =>
   intro L a w hcl hfree hr hy hS H
   refine ⟨fun h => (by rw [h] at hr; cases hr), fun j hj => ?_⟩
   by_cases hji : j = i
   · subst hji; exact hy.wpOp hi hS ⟨fun _ => hS, H⟩
   have hjz : j ≠ z := fun h => hz L hcl (mem_ready.1 hr).1 (h ▸ hj)
   have h1 := H.2 j (ready_mono hj hji)
   obtain ⟨hjun, oj, hoj, hall⟩ := mem_ready.1 hj
   have hnot : ∀ e ∈ oj.after, Region.binds md e = true → e.on ≠ i := fun e he hb heq => by
     have h1 := hall e he hb
     have h0 := (mem_ready.1 hr).1
     rw [heq] at h1
     rcases Nat.lt_or_ge i L.size with h' | h'
     · simp [h'] at h0 h1; rw [h0] at h1; cases h1
     · simp [Array.getElem?_eq_none h'] at h1
   have h2 := wpOp_putIf hoj (hfree j oj hoj hji hjun hnot) (fun cs b => hsel i oi cs b hi) (fun cs b => hsel j oj cs b hoj) hQ hy h1
   refine wpOp_mono (fun a' w' h3 => ?_) h2
   obtain ⟨hy', hSw, hW⟩ := h3
   refine ⟨fun _ => hSw hjz, ih (L.setIfInBounds j true) a' w' (hcl.step hj) ?_ (ready_mono hr (Ne.symm hji)) hy' (hSw hjz) ?_⟩
   · intro k ok hk hki hun hno
     refine hfree k ok hk hki ?_ hno
     by_cases hjk : j = k
     · subst hjk; exact hjun
     · rw [getD_set_ne true hjk] at hun; exact hun
   · rw [Array.setIfInBounds_comm _ _ hji]
     exact hW

def closedB (md : Region.Mode) (ops : Array Oper) (L : Array Bool) : Bool :=
 (List.range ops.size).all fun j => !(L.getD j false) || match ops[j]? with
   | some o => o.after.all fun e => !(Region.binds md e) || L.getD e.on false
   | none => true
theorem closedB_spec {L : Array Bool} (h : closedB md ops L = true) : Closed md ops L := by
 intro j o ho hj e he hb
 have hjl : j < ops.size := (Array.getElem?_eq_some_iff.1 ho).1
 have h1 := List.all_eq_true.1 h j (List.mem_range.2 hjl)
 rw [hj, ho] at h1
 simp only [Bool.not_true, Bool.false_or] at h1
 have h2 := Array.all_eq_true'.1 h1 e he
 rw [hb] at h2
 simpa using h2

theorem Ways.take {i : Nat} {oi : Oper} {v : Value} {n : Nat} {L : Array Bool} {a : Act} {w : World} (hi : ops[i]? = some oi)
   (hs : (Region.noSelect ops && (Region.free md ops L i && ((Region.ready md ops L).contains i && (closedB md ops L && (i != z && (match ops[z]? with | some o => o.after.any fun e => Region.binds md e && chain md ops 8 e.on i | none => false)))))) = true)
   (hQ : ∀ c a w, Q (.panic c) (a.put oi.dst v) w → Q (.panic c) a w) (hy : YieldsIf P ops S oi v a) (hS : S w)
   (h : Ways P md ops Q S z n (L.setIfInBounds i true) (a.put oi.dst v) w) : Ways P md ops Q S z (n + 1) L a w := by
 simp only [Bool.and_eq_true] at hs
 obtain ⟨h1, h2, h3, h4, h5, h6⟩ := hs
 exact Ways.first hi (Region.noSelect_spec h1) hQ (later_of 8 h6) (by simpa using h5) n L a w (closedB_spec h4) (Region.free_spec hi h2) (by simpa using h3) hy hS h
theorem Ways.one {i : Nat} {o : Oper} {n : Nat} {L : Array Bool} {a : Act} {w : World} (hi : ops[i]? = some o) (hr : Region.ready md ops L = [i])
   (h : ∀ K : Act → World → Prop, Shut (∀ a w, (i ≠ z → S w) → ((i ≠ z → S w) → Ways P md ops Q S z n (L.setIfInBounds i true) a w) → K a w) →
     if Region.wanted o (yielded ops a.tmps) = true then Oper.wp P o a w K Q else K (a.put o.dst undef) w) : Ways P md ops Q S z (n + 1) L a w := by
 refine ⟨fun h0 => (by rw [hr] at h0; cases h0), fun j hj => ?_⟩
 rw [hr] at hj
 have hji : j = i := by simpa using hj
 subst hji
 exact wpOp_step hi fun K hK => h K fun a w hS hW => hK a w ⟨hS, hW hS⟩
theorem Ways.two {i j : Nat} {o o' : Oper} {n : Nat} {L : Array Bool} {a : Act} {w : World} (hi : ops[i]? = some o) (hj : ops[j]? = some o') (hr : Region.ready md ops L = [i, j])
   (h : ∀ K : Act → World → Prop, Shut (∀ a w, (i ≠ z → S w) → ((i ≠ z → S w) → Ways P md ops Q S z n (L.setIfInBounds i true) a w) → K a w) →
     if Region.wanted o (yielded ops a.tmps) = true then Oper.wp P o a w K Q else K (a.put o.dst undef) w)
   (h' : ∀ K : Act → World → Prop, Shut (∀ a w, (j ≠ z → S w) → ((j ≠ z → S w) → Ways P md ops Q S z n (L.setIfInBounds j true) a w) → K a w) →
     if Region.wanted o' (yielded ops a.tmps) = true then Oper.wp P o' a w K Q else K (a.put o'.dst undef) w) : Ways P md ops Q S z (n + 1) L a w := by
 refine ⟨fun h0 => (by rw [hr] at h0; cases h0), fun k hk => ?_⟩
 rw [hr] at hk
 rcases (by simpa using hk : k = i ∨ k = j) with hk | hk
 · subst hk
   exact wpOp_step hi fun K hK => h K fun a w hS hW => hK a w ⟨hS, hW hS⟩
 · subst hk
   exact wpOp_step hj fun K hK => h' K fun a w hS hW => hK a w ⟨hS, hW hS⟩
theorem Ways.done {L : Array Bool} {a : Act} {w : World} {n : Nat} (hr : Region.ready md ops L = []) (h : Q .normal a w) : Ways P md ops Q S z n L a w := by
 cases n with
 | zero => exact ⟨hr, h⟩
 | succ n => exact ⟨fun _ => h, by rw [hr]; simp⟩
theorem wp_region_ways {id : Nat} {a : Act} {w : World} (z : Nat) (S : World → Prop) (hm : P.follows .mixedOrders = true) (hS : S w.drew)
   (h : S w.drew → Ways P .any ops Q S z ops.size (Array.replicate ops.size false) a w.drew) : (Code.region id ops true).wp P Q a w :=
 wp_region_any hm (Ways.any _ _ _ _ (h hS))
end
end Go.Proofs.YtlebpackbfcfeaaDoor
namespace Go.Proofs.YtlebpackbfcfeaaDoor
open Go.RowKit

section
variable {P : Program} {ops : Array Oper} {Q : Exit → Act → World → Prop} {md : Region.Mode} {z : Nat}
theorem Ways.firstT {i : Nat} {oi : Oper} {v : Value} (hi : ops[i]? = some oi) (hsel : ∀ (j : Nat) (o : Oper) cs b, ops[j]? = some o → o.op ≠ .select cs b)
   (hQ : ∀ c a w, Q (.panic c) (a.put oi.dst v) w → Q (.panic c) a w) :
   ∀ (n : Nat) (L : Array Bool) (a : Act) (w : World),
     (∀ j oj, ops[j]? = some oj → j ≠ i → L.getD j true = false → (∀ e ∈ oj.after, Region.binds md e = true → e.on ≠ i) → oi.apart ops oj = true) →
     i ∈ Region.ready md ops L → YieldsIf P ops (fun _ => True) oi v a →
     Ways P md ops Q (fun _ => True) z n (L.setIfInBounds i true) (a.put oi.dst v) w → Ways P md ops Q (fun _ => True) z (n + 1) L a w := by
 intro n
 induction n with
 | zero =>
   intro L a w _ hr hy H
   refine ⟨fun h => (by rw [h] at hr; cases hr), fun j hj => ?_⟩
   by_cases hji : j = i
   · subst hji; exact hy.wpOp hi trivial ⟨fun _ => trivial, H⟩
   · have := ready_mono hj hji
     rw [H.1] at this
     cases this
 | succ n ih =>
   intro L a w hfree hr hy H
   refine ⟨fun h => (by rw [h] at hr; cases hr), fun j hj => ?_⟩
   by_cases hji : j = i
   · subst hji; exact hy.wpOp hi trivial ⟨fun _ => trivial, H⟩
   have h1 := H.2 j (ready_mono hj hji)
   obtain ⟨hjun, oj, hoj, hall⟩ := mem_ready.1 hj
   have hnot : ∀ e ∈ oj.after, Region.binds md e = true → e.on ≠ i := fun e he hb heq => by
     have h1 := hall e he hb
     have h0 := (mem_ready.1 hr).1
     rw [heq] at h1
     rcases Nat.lt_or_ge i L.size with h' | h'
     · simp [h'] at h0 h1; rw [h0] at h1; cases h1
     · simp [Array.getElem?_eq_none h'] at h1
   have h2 := wpOp_putIf hoj (hfree j oj hoj hji hjun hnot) (fun cs b => hsel i oi cs b hi) (fun cs b => hsel j oj cs b hoj) hQ hy h1
   refine wpOp_mono (fun a' w' h3 => ?_) h2
   obtain ⟨hy', _, hW⟩ := h3
   refine ⟨fun _ => trivial, ih (L.setIfInBounds j true) a' w' ?_ (ready_mono hr (Ne.symm hji)) hy' ?_⟩
   · intro k ok hk hki hun hno
     refine hfree k ok hk hki ?_ hno
     by_cases hjk : j = k
     · subst hjk; exact hjun
     · rw [getD_set_ne true hjk] at hun; exact hun
   · rw [Array.setIfInBounds_comm _ _ hji]
     exact hW
theorem Ways.takeT {i : Nat} {oi : Oper} {v : Value} {n : Nat} {L : Array Bool} {a : Act} {w : World} (hi : ops[i]? = some oi)
   (hs : (Region.noSelect ops && (Region.free md ops L i && (Region.ready md ops L).contains i)) = true)
   (hQ : ∀ c a w, Q (.panic c) (a.put oi.dst v) w → Q (.panic c) a w) (hy : YieldsIf P ops (fun _ => True) oi v a)
   (h : Ways P md ops Q (fun _ => True) z n (L.setIfInBounds i true) (a.put oi.dst v) w) : Ways P md ops Q (fun _ => True) z (n + 1) L a w := by
 simp only [Bool.and_eq_true] at hs
 obtain ⟨h1, h2, h3⟩ := hs
 exact Ways.firstT hi (Region.noSelect_spec h1) hQ n L a w (Region.free_spec hi h2) (by simpa using h3) hy h
theorem Ways.firstS {i : Nat} {oi : Oper} {v : Value} {S : World → Prop} (hz : ops.size ≤ z) (hi : ops[i]? = some oi) (hsel : ∀ (j : Nat) (o : Oper) cs b, ops[j]? = some o → o.op ≠ .select cs b)
   (hQ : ∀ c a w, Q (.panic c) (a.put oi.dst v) w → Q (.panic c) a w) :
   ∀ (n : Nat) (L : Array Bool) (a : Act) (w : World),
     (∀ j oj, ops[j]? = some oj → j ≠ i → L.getD j true = false → (∀ e ∈ oj.after, Region.binds md e = true → e.on ≠ i) → oi.apart ops oj = true) →
     i ∈ Region.ready md ops L → YieldsIf P ops S oi v a → S w →
     Ways P md ops Q S z n (L.setIfInBounds i true) (a.put oi.dst v) w → Ways P md ops Q S z (n + 1) L a w := by
 intro n
 induction n with
 | zero =>
   intro L a w _ hr hy hS H
   refine ⟨fun h => (by rw [h] at hr; cases hr), fun j hj => ?_⟩
   by_cases hji : j = i
   · subst hji; exact hy.wpOp hi hS ⟨fun _ => hS, H⟩
   · have := ready_mono hj hji
     rw [H.1] at this
     cases this
 | succ n ih =>
   intro L a w hfree hr hy hS H
   refine ⟨fun h => (by rw [h] at hr; cases hr), fun j hj => ?_⟩
   by_cases hji : j = i
   · subst hji; exact hy.wpOp hi hS ⟨fun _ => hS, H⟩
   have h1 := H.2 j (ready_mono hj hji)
   obtain ⟨hjun, oj, hoj, hall⟩ := mem_ready.1 hj
   have hnot : ∀ e ∈ oj.after, Region.binds md e = true → e.on ≠ i := fun e he hb heq => by
     have h1 := hall e he hb
     have h0 := (mem_ready.1 hr).1
     rw [heq] at h1
     rcases Nat.lt_or_ge i L.size with h' | h'
     · simp [h'] at h0 h1; rw [h0] at h1; cases h1
     · simp [Array.getElem?_eq_none h'] at h1
   have h2 := wpOp_putIf hoj (hfree j oj hoj hji hjun hnot) (fun cs b => hsel i oi cs b hi) (fun cs b => hsel j oj cs b hoj) hQ hy h1
   refine wpOp_mono (fun a' w' h3 => ?_) h2
   obtain ⟨hy', hSw, hW⟩ := h3
   have hjz : j ≠ z := fun h => by have := (Array.getElem?_eq_some_iff.1 hoj).1; omega
   refine ⟨fun _ => hSw hjz, ih (L.setIfInBounds j true) a' w' ?_ (ready_mono hr (Ne.symm hji)) hy' (hSw hjz) ?_⟩
   · intro k ok hk hki hun hno
     refine hfree k ok hk hki ?_ hno
     by_cases hjk : j = k
     · subst hjk; exact hjun
     · rw [getD_set_ne true hjk] at hun; exact hun
   · rw [Array.setIfInBounds_comm _ _ hji]
     exact hW
theorem Ways.takeS {S : World → Prop} {i : Nat} {oi : Oper} {v : Value} {n : Nat} {L : Array Bool} {a : Act} {w : World} (hi : ops[i]? = some oi)
   (hs : (decide (ops.size ≤ z) && (Region.noSelect ops && (Region.free md ops L i && (Region.ready md ops L).contains i))) = true)
   (hQ : ∀ c a w, Q (.panic c) (a.put oi.dst v) w → Q (.panic c) a w) (hy : YieldsIf P ops S oi v a) (hS : S w)
   (h : Ways P md ops Q S z n (L.setIfInBounds i true) (a.put oi.dst v) w) : Ways P md ops Q S z (n + 1) L a w := by
 simp only [Bool.and_eq_true, decide_eq_true_eq] at hs
 obtain ⟨h0, h1, h2, h3⟩ := hs
 exact Ways.firstS h0 hi (Region.noSelect_spec h1) hQ n L a w (Region.free_spec hi h2) (by simpa using h3) hy hS h
end
end Go.Proofs.YtlebpackbfcfeaaDoor
