/- Keys: which are valid, their pairs, which ascend: plain mathematics. Keys: the item of a valid key is valid, and so are its parts: plain mathematics. -/
import Derived.Test.YtebcnkelbicbnaaDoorK16
import Derived.Test.YtebcnkelbicbnaaDoorK21
import Derived.Test.YtebcnkelbicbnaaDoorK06
set_option linter.unusedVariables false
set_option linter.unusedSimpArgs false
namespace Go.Proofs.YtebcnkelbicbnaaDoor
open Go.RowKit

structure Ky where
  kty : Int
  crv : Int
  alg : Int
  kid : List UInt8
  x : List UInt8
  d : List UInt8
  k : List UInt8
def sizedK (b : List UInt8) : Bool := decide (b.length = 0) || decide (b.length = 32)
def validK (q : Ky) : Bool :=
  decide (q.kid.length ≤ 16) && decide (-65536 ≤ q.alg) && decide (q.alg ≤ 65535) &&
  (if q.kty = 1 then (decide (q.crv = 4) || decide (q.crv = 6)) && sizedK q.x && sizedK q.d && decide (0 < q.x.length + q.d.length) && decide (q.k.length = 0)
   else if q.kty = 4 then decide (q.crv = 0) && decide (q.x.length + q.d.length = 0) && decide (1 ≤ q.k.length) && decide (q.k.length ≤ 64) else false)
def strI (b : List UInt8) : Itm := .mk 2 0 b []
def optS (n : Int) (b : List UInt8) : List Itm := if 0 < b.length then [intP n, strI b] else []
/-- The labels and values of a key, in the order in which both sides write them. -/
def pairsK (q : Ky) : List Itm :=
  [intP 1, intP q.kty] ++ optS 2 q.kid ++ (if q.alg = 0 then [] else [intP 3, intP q.alg]) ++
    (if q.kty = 4 then optS (-1) q.k else [intP (-1), intP q.crv] ++ optS (-2) q.x ++ optS (-4) q.d)
def itemK (q : Ky) : Itm := .mk 5 0 [] (pairsK q)
theorem lt_labels : Lib.compareBytes (encB (intP 1)) (encB (intP 2)) < 0 ∧ Lib.compareBytes (encB (intP 1)) (encB (intP 3)) < 0 ∧ Lib.compareBytes (encB (intP 1)) (encB (intP (-1))) < 0 ∧
    Lib.compareBytes (encB (intP 2)) (encB (intP 3)) < 0 ∧ Lib.compareBytes (encB (intP 2)) (encB (intP (-1))) < 0 ∧ Lib.compareBytes (encB (intP 3)) (encB (intP (-1))) < 0 ∧
    Lib.compareBytes (encB (intP (-1))) (encB (intP (-2))) < 0 ∧ Lib.compareBytes (encB (intP (-1))) (encB (intP (-4))) < 0 ∧ Lib.compareBytes (encB (intP (-2))) (encB (intP (-4))) < 0 := by
  rw [encB_intP, encB_intP, encB_intP, encB_intP, encB_intP, encB_intP]
  decide +kernel
theorem asc_pairsK (q : Ky) : ascP (pairsK q) = true := by
  obtain ⟨h12, h13, h1m, h23, h2m, h3m, hm2, hm4, h24⟩ := lt_labels
  unfold pairsK optS
  repeat' split
  all_goals simp [ascP, h12, h13, h1m, h23, h2m, h3m, hm2, hm4, h24]
theorem validK_iff (q : Ky) : validK q = true ↔ (q.kid.length ≤ 16 ∧ -65536 ≤ q.alg ∧ q.alg ≤ 65535 ∧
    ((q.kty = 1 ∧ (q.crv = 4 ∨ q.crv = 6) ∧ (q.x.length = 0 ∨ q.x.length = 32) ∧ (q.d.length = 0 ∨ q.d.length = 32) ∧ 0 < q.x.length + q.d.length ∧ q.k.length = 0) ∨
     (q.kty = 4 ∧ q.crv = 0 ∧ q.x.length + q.d.length = 0 ∧ 1 ≤ q.k.length ∧ q.k.length ≤ 64))) := by
  unfold validK sizedK
  split
  · rename_i h1
    simp [h1, and_assoc]
  · split
    · rename_i h1 h4
      simp [h1, h4, and_assoc]
    · rename_i h1 h4
      simp [h1, h4]
theorem good_strI (b : List UInt8) (lv : Nat) : Good (strI b) lv := good_str 2 (.inl rfl) b lv (fun h => by omega)
theorem goodL_pairsK (q : Ky) (lv : Nat) : GoodL (pairsK q) lv := by
  unfold pairsK optS
  repeat' split
  all_goals simp [GoodL, good_intP, good_strI]
theorem pairsK_even (q : Ky) : (pairsK q).length % 2 = 0 := by
  unfold pairsK optS
  repeat' split
  all_goals simp
theorem pairsK_len (q : Ky) : 2 ≤ (pairsK q).length ∧ (pairsK q).length ≤ 12 := by
  unfold pairsK optS
  repeat' split
  all_goals simp
theorem good_itemK (q : Ky) : Good (itemK q) 0 := by
  refine Good.of ?_ (goodL_pairsK q 1) (fun _ => asc_pairsK q)
  have h := pairsK_even q
  rw [nodeOk, if_neg (by rw [isPlain_iff]; simp [itemK, Itm.kind]), frameOk]
  simp [itemK, Itm.kind, Itm.bytes, Itm.items, Itm.n, h]
end Go.Proofs.YtebcnkelbicbnaaDoor
namespace Go.Proofs.YtebcnkelbicbnaaDoor
open Go.RowKit

def leafK (x : Itm) : Prop := cnt x = 1 ∧ (encB x).length ≤ 73
theorem leaf_intP (n : Int) : leafK (intP n) := by
  unfold intP
  split
  · refine ⟨by simp [cnt, cntL], ?_⟩
    have h := encB_len 1 (-1 - n).toNat [] [] (by decide) (by decide)
    simp [encL] at h
    omega
  · refine ⟨by simp [cnt, cntL], ?_⟩
    have h := encB_len 0 n.toNat [] [] (by decide) (by decide)
    simp [encL] at h
    omega
theorem leaf_strI {b : List UInt8} (hb : b.length ≤ 64) : leafK (strI b) := by
  refine ⟨by simp [strI, cnt, cntL], ?_⟩
  have h := encB_len 2 0 b [] (by decide) (by decide)
  simp [encL] at h
  simp only [strI]
  omega
theorem sum_leaf : ∀ l : List Itm, (∀ x ∈ l, leafK x) → cntL l = l.length ∧ (encL l).length ≤ 73 * l.length
  | [], _ => by simp [cntL, encL]
  | x :: l, h => by
    have h1 := h x (by simp)
    have h2 := sum_leaf l fun y hy => h y (by simp [hy])
    simp only [cntL, encL, List.length_cons, List.length_append]
    have := h1.1
    have := h1.2
    omega
theorem mem_optS {x : Itm} {n : Int} {b : List UInt8} (h : x ∈ optS n b) : x = intP n ∨ x = strI b := by
  unfold optS at h
  split at h
  · simpa using h
  · simp at h
theorem leaf_pairsK {q : Ky} (h : validK q = true) : ∀ x ∈ pairsK q, leafK x := by
  have hv := (validK_iff q).mp h
  have hx : q.x.length ≤ 64 := by omega
  have hd : q.d.length ≤ 64 := by omega
  have hk : q.k.length ≤ 64 := by omega
  have hi : q.kid.length ≤ 64 := by omega
  intro x hm
  unfold pairsK at hm
  simp only [List.mem_append] at hm
  rcases hm with ((hm | hm) | hm) | hm
  · simp at hm
    rcases hm with rfl | rfl <;> exact leaf_intP _
  · rcases mem_optS hm with rfl | rfl
    · exact leaf_intP _
    · exact leaf_strI hi
  · split at hm
    · simp at hm
    · simp at hm
      rcases hm with rfl | rfl <;> exact leaf_intP _
  · split at hm
    · rcases mem_optS hm with rfl | rfl
      · exact leaf_intP _
      · exact leaf_strI hk
    · simp only [List.mem_append] at hm
      rcases hm with (hm | hm) | hm
      · simp at hm
        rcases hm with rfl | rfl <;> exact leaf_intP _
      · rcases mem_optS hm with rfl | rfl
        · exact leaf_intP _
        · exact leaf_strI hx
      · rcases mem_optS hm with rfl | rfl
        · exact leaf_intP _
        · exact leaf_strI hd
theorem validP_itemK {q : Ky} (h : validK q = true) : validP (itemK q) = true := by
  have hs := sum_leaf (pairsK q) (leaf_pairsK h)
  have hl := pairsK_len q
  refine (validP_iff _).mpr ⟨good_itemK q, ?_, ?_⟩
  · rw [cnt_eq]
    show cntL (pairsK q) + 1 ≤ 256
    omega
  · have h2 := encB_len 5 0 [] (pairsK q) (by decide) (by decide)
    simp at h2
    show (encB (.mk 5 0 [] (pairsK q))).length ≤ 4096
    omega
theorem validP_pairsK {q : Ky} (h : validK q = true) : ∀ x ∈ pairsK q, validP x = true :=
  fun x hx => validP_elem (validP_itemK h) (show x ∈ (itemK q).items from hx)
/-- What both sides' ToItem of a key must say: with these pairs Build cannot fail. -/
theorem buildK {q : Ky} (h : validK q = true) : (pairsK q).length % 2 = 0 ∧ ascP (pairsK q) = true ∧ (∀ x ∈ pairsK q, validP x = true) ∧ validP (.mk 5 0 [] (pairsK q)) = true :=
  ⟨pairsK_even q, asc_pairsK q, validP_pairsK h, validP_itemK h⟩
end Go.Proofs.YtebcnkelbicbnaaDoor
