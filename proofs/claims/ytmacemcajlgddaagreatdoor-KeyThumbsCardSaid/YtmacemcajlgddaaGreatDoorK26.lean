/- squeezed. sort.Slice of pairs whose keys asc -/
import Derived.Test.YtmacemcajlgddaaGreatDoorK25
import Derived.Test.YtmacemcajlgddaaGreatDoorK01
set_option linter.unusedVariables false
set_option linter.unusedSimpArgs false
set_option maxRecDepth 100000
set_option maxHeartbeats 3200000
namespace Go.Proofs.YtmacemcajlgddaaGreatDoor
open Go.RowKit
structure PE (H : Snap) where
 A : Option Addr
 cc : Nat
 key : List UInt8
 rest : List Value
 len : rest.length = 8
 one : ∀ u ∈ rest, u.oneCell' = true
 is : IsBytes H A cc key
instance (H : Snap) : Inhabited (PE H) := ⟨⟨none, 0, [], List.replicate 8 (.bool false), by simp, by simp [Value.oneCell'], IsBytes.nil H⟩⟩
def encPE {H : Snap} (x : PE H) : List Value := .slice x.A x.key.length x.cc :: x.rest
def ltPE {H : Snap} (a b : PE H) : Bool := decide (Lib.compareBytes a.key b.key < 0)
theorem less_pairs {H : Snap} (blk off c Bs size : Nat) (W : World) (hW : Holds W H) (G : Nat → PE H) (hs : W.cell? ⟨Bs, 0, none⟩ = some (.slice (some ⟨blk, off, none⟩) size c))
  (hc : ∀ t, t < size → W.cell? ⟨blk, off + t * 9, none⟩ = some (.slice (G t).A (G t).key.length (G t).cc)) (i j : Nat) (hi : i < size) (hj : j < size) :
  Calls Tryz.prog 52 #[.int .i64 i, .int .i64 j, .pointer (some ⟨Bs, 0, none⟩)] W fun e w' => e = .returned (.bool (ltPE (G i) (G j))) ∧ ∃ q, w' = W.drewN q := by
 have ci := hc i hi;have cj := hc j hj;have si := Src.of_row (G i).is.row hW;have sj := Src.of_row (G j).is.row hW;have hiI : (i : Int) < size := by omega
 have hjI : (j : Int) < size := by omega
 have E : Hid (ltPE (G i) (G j) = decide (Lib.compareBytes (G i).key (G j).key < 0)) := rfl;obtain ⟨x, hx⟩ : ∃ x, G i = x := ⟨_, rfl⟩
 obtain ⟨y, hy⟩ : ∃ y, G j = y := ⟨_, rfl⟩
 rw [hx] at ci si E ⊢;rw [hy] at cj sj E ⊢;rw [E.out];have CMP : True := trivial;have SX := si;have SY := sj;clear hc hx hy si sj E hW CMP;have HB := Hh (And.intro hi hj);go_enter Tryz.func52, Tryz.ntmps52
 go_upto_region 1 with fail
 refine wp_region_waysZ 12 (fun wx => wx.cell? ⟨Bs, 0, none⟩ = some (.slice (some ⟨blk, off, none⟩) size c) ∧ wx.cell? ⟨blk, off + i * 9, none⟩ = some (.slice x.A x.key.length x.cc) ∧ wx.cell? ⟨blk, off + j * 9, none⟩ = some (.slice y.A y.key.length y.cc)) (by kernel_rfl) (⟨hs, ci, cj⟩) (fun hHeld => ?_)
 refine Zk 0 rfl hHeld ?_
 refine Zk 1 rfl hHeld ?_
 refine Zk 2 rfl hHeld ?_
 refine Zk 3 rfl hHeld ?_
 refine Zk 4 rfl hHeld ?_
 refine Zk 5 rfl hHeld ?_
 refine Zk 6 rfl hHeld ?_
 refine Zk 7 rfl hHeld ?_
 refine Zk 8 rfl hHeld ?_
 refine Zk 9 rfl hHeld ?_
 refine Zo 10 rfl fun K hK => ?_
 go_simp
 refine (show Calls Tryz.prog 53 #[.slice x.A x.key.length x.cc, .slice y.A y.key.length y.cc] W.drew fun e w' => e = .returned (.int .i64 (Lib.compareBytes x.key y.key)) ∧ W.drew = w' from bytes_Compare W.drew x.A y.A x.key y.key x.key.length y.key.length x.cc y.cc rfl rfl SX SY).mono ?_
 rintro e w3 ⟨rfl, rfl⟩
 refine hK.out _ _ (fun _ => ?_) (fun hHeld => ?_)
 ·exact ⟨hs, ci, cj⟩
 clear hK K;have hHeld := hHeld (by decide)
 try simp only [Act.put, zz1, zz2, zz3, zz4, zz5, zz6]
 refine Zk 11 rfl hHeld ?_
 refine Zo 12 rfl fun K hK => ?_
 go_simp
 refine hK.out _ _ (fun h => absurd h (by decide)) (fun _ => ?_)
 clear hK K
 try simp only [Act.put, zz1, zz2, zz3, zz4, zz5, zz6]
 refine WaysZ.done (by kernel_rfl) ?_
 clear hHeld;go_wp2_with fail
 go_ret
 exact ⟨rfl, 1, rfl⟩
theorem insInner_id {α : Type} [Inhabited α] (lt : α → α → Bool) (a : Nat) : ∀ (i : Nat) (d : Array α), (∀ j, j + 1 = i → lt d[j + 1]! d[j]! = false) → Sort.insInner lt a i d = d
 | 0, d, _ => rfl
 | i + 1, d, h => by rw [Sort.insInner, h i rfl, Bool.and_false, if_neg (by simp)]
theorem insOuter_id {α : Type} [Inhabited α] (lt : α → α → Bool) (a b : Nat) (d : Array α) (h : ∀ j, j + 1 < b → lt d[j + 1]! d[j]! = false) : ∀ (n i : Nat), b - i = n → Sort.insOuter lt a b i d = d := by
 intro n
 induction n with
 | zero => intro i hi; rw [Sort.insOuter, if_neg (by omega)]
 | succ n ih =>
  intro i hi
  rw [Sort.insOuter, if_pos (by omega), insInner_id lt a i d (fun j hj => h j (by omega))]
  exact ih (i + 1) (by omega)
theorem insertion_id {α : Type} [Inhabited α] (lt : α → α → Bool) (d : Array α) (h : ∀ j, j + 1 < d.size → lt d[j + 1]! d[j]! = false) : Sort.insertionSort lt d 0 d.size = d := insOuter_id lt 0 d.size d h _ _ rfl
end Go.Proofs.YtmacemcajlgddaaGreatDoor
