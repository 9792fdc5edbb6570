/- squeezed. SHA-256 as a function of bytes; pl -/
import Derived.Test.YtmacemcajlgddaaGreatDoorK36
import Derived.Test.YtmacemcajlgddaaGreatDoorK33
import Derived.Test.YtmacemcajlgddaaGreatDoorK34
set_option linter.unusedVariables false
set_option linter.unusedSimpArgs false
set_option maxRecDepth 100000
namespace Go.Proofs.YtmacemcajlgddaaGreatDoor
open Go.RowKit
def startP : S8 := ⟨upperP 7640891576956012808, upperP 13503953896175478587, upperP 4354685564936845355, upperP 11912009170470909681, upperP 5840696475078001361, upperP 11170449401992604703, upperP 2270897969802886507, upperP 6620516959819538809⟩
def blkB (m : List UInt8) (k : Nat) : List UInt8 := (m.drop (64 * k)).take 64
def foldP (m : List UInt8) : Nat → S8
 | 0 => startP
 | k + 1 => blockP constK32 (foldP m k) (blkB m k)
def byteW (x : Int) (d : Int) : UInt8 := UInt8.ofNat (x / d % 256).toNat
def wordB (x : Int) : List UInt8 := [byteW x 16777216, byteW x 65536, byteW x 256, byteW x 1]
def shaP (l : List UInt8) : List UInt8 := (foldP (padP l) ((padP l).length / 64)).list.flatMap wordB
theorem byteW_val (x d : Int) : byteV (byteW x d) = .int .u8 (IntKind.u8.wrap (x / d)) := by
 have h : ((x / d % 256).toNat : Int) = x / d % 256 := Int.toNat_of_nonneg (Int.emod_nonneg _ (by decide));have h2 : (x / d % 256).toNat < 256 := by have := Int.emod_lt_of_pos (x / d) (show (0 : Int) < 256 by decide); omega
 rw [byteV, byteW, UInt8.toNat_ofNat', Nat.mod_eq_of_lt h2, h];rfl
theorem shaP_len (l : List UInt8) : (shaP l).length = 32 := rfl
theorem blkB_len {m : List UInt8} {k : Nat} (h : 64 * k + 64 ≤ m.length) : (blkB m k).length = 64 := by
 rw [blkB, List.length_take, List.length_drop]
 omega
def kP : Nat → List Int
 | 0 => List.replicate 64 0
 | k + 1 => (kP k).set k (getW constK32 k)
theorem kP_len : ∀ k, (kP k).length = 64
 | 0 => rfl
 | k + 1 => by rw [kP, List.length_set, kP_len k]
def KK : List Int := constK32.take 64
theorem KK_len : KK.length = 64 := rfl
theorem kP_64 : kP 64 = KK := by kernel_rfl
theorem K64_words : ((List.range 64).all fun i => decide (upperP ((getN (constK.take 64) i : Nat) : Int) = getW constK32 i)) = true := by kernel_rfl
theorem K64_word {i : Nat} (h : i < 64) : upperP ((getN (constK.take 64) i : Nat) : Int) = getW constK32 i := by
 have h1 := K64_words;rw [List.all_eq_true] at h1
 exact of_decide_eq_true (h1 i (List.mem_range.2 h))
def hP8 : Nat → List Int
 | 0 => List.replicate 8 0
 | k + 1 => (hP8 k).set k (upperP ((getN constH k : Nat) : Int))
theorem hP8_len : ∀ k, (hP8 k).length = 8
 | 0 => rfl
 | k + 1 => by rw [hP8, List.length_set, hP8_len k]
theorem hP8_8 : hP8 8 = startP.list := by kernel_rfl
def iP8 : Nat → List Int
 | 0 => List.replicate 8 0
 | k + 1 => (iP8 k).set k (upperP (getW constHI k))
theorem iP8_len : ∀ k, (iP8 k).length = 8
 | 0 => rfl
 | k + 1 => by rw [iP8, List.length_set, iP8_len k]
theorem iP8_8 : iP8 8 = startP.list := by kernel_rfl
theorem KK_get {i : Nat} (h : i < 64) : getW KK i = getW constK32 i := by
 unfold getW KK
 rw [List.getD_eq_getElem?_getD, List.getD_eq_getElem?_getD, List.getElem?_take, if_pos h]
theorem roundsP_congr {K K' W : List Int} {h : S8} : ∀ n, (∀ i, i < n → getW K i = getW K' i) → roundsP K W h n = roundsP K' W h n
 | 0, _ => rfl
 | n + 1, hn => by rw [roundsP, roundsP, roundsP_congr n (fun i hi => hn i (by omega)), hn n (by omega)]
theorem blockP_KK (h : S8) (bs : List UInt8) : blockP KK h bs = blockP constK32 h bs := by
 unfold blockP
 rw [roundsP_congr 64 (fun i hi => KK_get hi)]
theorem foldP_succ (m : List UInt8) (k : Nat) : foldP m (k + 1) = blockP constK32 (foldP m k) (blkB m k) := rfl
def outP (s : S8) (i : Nat) : List UInt8 := (s.list.take i).flatMap wordB
theorem outP_8 (s : S8) : outP s 8 = s.list.flatMap wordB := by rw [outP, List.take_of_length_le (by rw [S8.list]; simp)]
theorem wordB_len (x : Int) : (wordB x).length = 4 := rfl
theorem outP_len (s : S8) (i : Nat) (h : i ≤ 8) : (outP s i).length = 4 * i := by
 obtain rfl | rfl | rfl | rfl | rfl | rfl | rfl | rfl | rfl : i = 0 ∨ i = 1 ∨ i = 2 ∨ i = 3 ∨ i = 4 ∨ i = 5 ∨ i = 6 ∨ i = 7 ∨ i = 8 := by omega
 all_goals rfl
theorem outP_succ (s : S8) (i : Nat) (h : i < 8) : outP s i ++ wordB (getW s.list i) = outP s (i + 1) := by
 have hl : i < s.list.length := by rw [S8.list]; exact h
 rw [outP, outP, List.take_succ_eq_append_getElem hl, List.flatMap_append, List.flatMap_singleton]
 unfold getW
 rw [List.getD_eq_getElem?_getD, List.getElem?_eq_getElem hl];rfl
theorem byteW_mod (x d : Int) : byteV (byteW x d) = .int .u8 (x / d % 256) := by
 rw [byteW_val, IntKind.wrap_u8]
theorem wordB_cells (x : Int) : (wordB x).map byteV = [.int .u8 (x / 16777216 % 256), .int .u8 (x / 65536 % 256), .int .u8 (x / 256 % 256), .int .u8 (x % 256)] := by
 simp only [wordB, List.map_cons, List.map_nil]
 rw [byteW_mod, byteW_mod, byteW_mod, byteW_mod, Int.ediv_one]
end Go.Proofs.YtmacemcajlgddaaGreatDoor
