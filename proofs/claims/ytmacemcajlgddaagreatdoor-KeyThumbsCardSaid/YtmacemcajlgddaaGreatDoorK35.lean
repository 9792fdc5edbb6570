/- squeezed. SHA-256: what a block does to the  -/
import Derived.Test.YtmacemcajlgddaaGreatDoorK34
import Derived.Test.YtmacemcajlgddaaGreatDoorK01
import Derived.Deep.Cut
set_option linter.unusedVariables false
set_option linter.unusedSimpArgs false
set_option maxRecDepth 100000
set_option maxHeartbeats 3200000
namespace Go.Proofs.YtmacemcajlgddaaGreatDoor
open Go.RowKit
def rowV (l : List Int) : Array Value := (l.map (Value.int .u32)).toArray
def getW (l : List Int) (i : Nat) : Int := l.getD i 0
theorem rowV_size (l : List Int) : (rowV l).size = l.length := by simp [rowV]
theorem rowV_get (l : List Int) (i : Nat) (h : i < l.length) : (rowV l)[i]? = some (.int .u32 (getW l i)) := by
 simp [rowV, getW, h]
theorem rowV_set (l : List Int) (i : Nat) (v : Int) : (rowV l).setIfInBounds i (.int .u32 v) = rowV (l.set i v) := by
 simp [rowV, List.map_set]
def byteI (bs : List UInt8) (i : Nat) : Int := ((bs.getD i 0).toNat : Int)
def wordP (b0 b1 b2 b3 : Int) : Int := bits .or .u32 (bits .or .u32 (bits .or .u32 (IntKind.u32.wrap (IntKind.u32.wrap b0 * 16777216)) (IntKind.u32.wrap (IntKind.u32.wrap b1 * 65536))) (IntKind.u32.wrap (IntKind.u32.wrap b2 * 256))) (IntKind.u32.wrap b3)
def mixP (x y w7 w16 : Int) : Int :=
 IntKind.u32.wrap (IntKind.u32.wrap (IntKind.u32.wrap (bits .xor .u32 (bits .xor .u32 (rotP 32768 131072 y) (rotP 8192 524288 y)) (y / 1024) + w7) + bits .xor .u32 (bits .xor .u32 (rotP 33554432 128 x) (rotP 16384 262144 x)) (x / 8)) + w16)
structure S8 where
 a : Int
 b : Int
 c : Int
 d : Int
 e : Int
 f : Int
 g : Int
 h : Int
def S8.cells (s : S8) : Array Value := #[.int .u32 s.a, .int .u32 s.b, .int .u32 s.c, .int .u32 s.d, .int .u32 s.e, .int .u32 s.f, .int .u32 s.g, .int .u32 s.h]
def S8.list (s : S8) : List Int := [s.a, s.b, s.c, s.d, s.e, s.f, s.g, s.h]
theorem S8.cells_eq (s : S8) : s.cells = rowV s.list := rfl
theorem S8.one (s : S8) : s.cells.all (·.oneCell') = true := by simp [S8.cells, Value.oneCell']
def tP (s : S8) (k w : Int) : Int :=
 s.h + bits .xor .u32 (bits .xor .u32 (rotP 67108864 64 s.e) (rotP 2097152 2048 s.e)) (rotP 128 33554432 s.e) + bits .xor .u32 (bits .and .u32 s.e s.f) (bits .and .u32 (bits .xor .u32 IntKind.u32.max s.e) s.g) + k + w
def uP (s : S8) : Int :=
 bits .xor .u32 (bits .xor .u32 (rotP 1073741824 4 s.a) (rotP 524288 8192 s.a)) (rotP 1024 4194304 s.a) + bits .xor .u32 (bits .xor .u32 (bits .and .u32 s.a s.b) (bits .and .u32 s.a s.c)) (bits .and .u32 s.b s.c)
def roundP (s : S8) (k w : Int) : S8 := ⟨(tP s k w + uP s) % 4294967296, s.a, s.b, s.c, (s.d + tP s k w) % 4294967296, s.e, s.f, s.g⟩
def roundsP (K W : List Int) (h : S8) : Nat → S8
 | 0 => h
 | k + 1 => roundP (roundsP K W h k) (getW K k) (getW W k)
def schedP (bs : List UInt8) : Nat → List Int
 | 0 => List.replicate 64 0
 | k + 1 => (schedP bs k).set k (if k < 16 then wordP (byteI bs (4 * k)) (byteI bs (4 * k + 1)) (byteI bs (4 * k + 2)) (byteI bs (4 * k + 3))
   else mixP (getW (schedP bs k) (k - 15)) (getW (schedP bs k) (k - 2)) (getW (schedP bs k) (k - 7)) (getW (schedP bs k) (k - 16)))
theorem schedP_len (bs : List UInt8) : ∀ k, (schedP bs k).length = 64
 | 0 => by simp [schedP]
 | k + 1 => by simp [schedP, schedP_len bs k]
theorem schedP_lo (bs : List UInt8) (k : Nat) (h : k < 16) : (rowV (schedP bs k)).setIfInBounds k (.int .u32 (wordP (byteI bs (4 * k)) (byteI bs (4 * k + 1)) (byteI bs (4 * k + 2)) (byteI bs (4 * k + 3)))) = rowV (schedP bs (k + 1)) := by
 rw [rowV_set, schedP, if_pos h]
theorem schedP_hi (bs : List UInt8) (k : Nat) (h : 16 ≤ k) : (rowV (schedP bs k)).setIfInBounds k (.int .u32 (mixP (getW (schedP bs k) (k - 15)) (getW (schedP bs k) (k - 2)) (getW (schedP bs k) (k - 7)) (getW (schedP bs k) (k - 16)))) = rowV (schedP bs (k + 1)) := by
 rw [rowV_set, schedP, if_neg (by omega)]
def addP (h s : List Int) : Nat → List Int
 | 0 => h
 | k + 1 => (addP h s k).set k (IntKind.u32.wrap (getW (addP h s k) k + getW s k))
theorem addP_len (h s : List Int) : ∀ k, (addP h s k).length = h.length
 | 0 => rfl
 | k + 1 => by simp [addP, addP_len h s k]
def blockP (K : List Int) (h : S8) (bs : List UInt8) : S8 :=
 let s := roundsP K (schedP bs 64) h 64
 ⟨IntKind.u32.wrap (h.a + s.a), IntKind.u32.wrap (h.b + s.b), IntKind.u32.wrap (h.c + s.c), IntKind.u32.wrap (h.d + s.d), IntKind.u32.wrap (h.e + s.e), IntKind.u32.wrap (h.f + s.f), IntKind.u32.wrap (h.g + s.g), IntKind.u32.wrap (h.h + s.h)⟩
theorem size_w8 : (Tryz.prog.info? 64).map (·.size) = some 8 := by kernel_rfl
theorem size_u32 : (Tryz.prog.info? 62).map (·.size) = some 1 := by kernel_rfl
theorem byteI_cell {H : Snap} {b off c : Nat} {bs : List UInt8} (hb : IsBytes H (some ⟨b, off, none⟩) c bs) (i : Nat) (hi : i < bs.length) : H.cell? ⟨b, off + i, none⟩ = some (.int .u8 (byteI bs i)) := by
 obtain ⟨b', off', e, h⟩ := hb.at_ (by omega)
 cases e
 rw [h i hi]
 simp [byteI, hi]
theorem sha_round32 {H : Snap} {b off c : Nat} {bs : List UInt8} (hb : IsBytes H (some ⟨b, off, none⟩) c bs) (hl : bs.length = 64) {hg kg : Nat} {h0 : S8} {KK : List Int} (w : World) (hH : Holds w H)
  (hh : Blk w hg 64 h0.cells) (hKb : Blk w kg 63 (rowV KK)) (hK64 : KK.length = 64) :
  Calls Tryz.prog 32 #[.pointer (some ⟨hg, 0, none⟩), .pointer (some ⟨kg, 0, none⟩), .slice (some ⟨b, off, none⟩) 64 c] w fun e w' => (∃ v, e = .returned v) ∧ Blk w' hg 64 (blockP KK h0 bs).cells ∧ w.grownBy w' (some hg) := by
 have HN := Hh (Blk.new w 63 (rowV (schedP bs 0)));have HB := Hh hb;have HL := Hh hl;have HH := Hh hH;have H64 := Hh hK64;clear hb hl hH hK64;go_enter Tryz.func32, Tryz.ntmps32
 go_wp2_with fail
 go_loopw [17] (fun v17 wr => ∃ k : Nat, v17 = .int .i64 (k : Int) ∧ k ≤ 64 ∧ Blk wr w.heap.size 63 (rowV (schedP bs k)) ∧ Below w.heap.size w wr) (fun v17 _ => (64 - intOf v17).toNat)
 case atStart => exact ⟨0, rfl, by omega, HN.out, below_box _ _⟩
 case round =>
  obtain ⟨k, rfl, hk64, hW, hbw⟩ := hrel
  by_cases hlt : (k : Int) < 64
  ·by_cases h16 : (k : Int) < 16
   ·obtain ⟨j0, hj0⟩ : ∃ j, 4 * k = j := ⟨_, rfl⟩
    obtain ⟨j1, hj1⟩ : ∃ j, 4 * k + 1 = j := ⟨_, rfl⟩
    obtain ⟨j2, hj2⟩ : ∃ j, 4 * k + 2 = j := ⟨_, rfl⟩
    obtain ⟨j3, hj3⟩ : ∃ j, 4 * k + 3 = j := ⟨_, rfl⟩
    have W0 : IntKind.i64.wrap (4 * (k : Int)) = (j0 : Int) := by rw [← hj0]; exact IntWalk.i64_in _ (by omega)
    have W1 : IntKind.i64.wrap ((j0 : Int) + 1) = (j1 : Int) := by rw [← hj1, ← hj0]; exact IntWalk.i64_in _ (by omega)
    have W2 : IntKind.i64.wrap ((j0 : Int) + 2) = (j2 : Int) := by rw [← hj2, ← hj0]; exact IntWalk.i64_in _ (by omega)
    have W3 : IntKind.i64.wrap ((j0 : Int) + 3) = (j3 : Int) := by rw [← hj3, ← hj0]; exact IntWalk.i64_in _ (by omega)
    have l0 : (j0 : Int) < 64 := by omega
    have l1 : (j1 : Int) < 64 := by omega
    have l2 : (j2 : Int) < 64 := by omega
    have l3 : (j3 : Int) < 64 := by omega
    have b0 := byteI_cell HB.out j0 (by have := HL.out; omega);have b1 := byteI_cell HB.out j1 (by have := HL.out; omega);have b2 := byteI_cell HB.out j2 (by have := HL.out; omega);have b3 := byteI_cell HB.out j3 (by have := HL.out; omega);have HJ := Hh (And.intro hj0 (And.intro hj1 (And.intro hj2 hj3)));clear hj0 hj1 hj2 hj3;have HHr := Hh (HH.out.below hbw (Nat.le_refl _));have hWd := hW.drew;go_upto_region 5 with fail
    refine wp_region_ways 35 (fun wx => wx.cell? ⟨b, off + j0, none⟩ = some (.int .u8 (byteI bs j0)) ∧ wx.cell? ⟨b, off + j1, none⟩ = some (.int .u8 (byteI bs j1)) ∧ wx.cell? ⟨b, off + j2, none⟩ = some (.int .u8 (byteI bs j2)) ∧ wx.cell? ⟨b, off + j3, none⟩ = some (.int .u8 (byteI bs j3))) (by kernel_rfl) (⟨HHr.out.drew.cell b0, HHr.out.drew.cell b1, HHr.out.drew.cell b2, HHr.out.drew.cell b3⟩) (fun hHeld => ?_)
    refine Tk 0 rfl hHeld ?_
    refine Tk 1 rfl hHeld ?_
    refine Tk 2 rfl hHeld ?_
    refine Tk 3 rfl hHeld ?_
    refine Tk 4 rfl hHeld ?_
    refine Tk 5 rfl hHeld ?_
    refine Tk 6 rfl hHeld ?_
    refine Tk 7 rfl hHeld ?_
    refine Tk 8 rfl hHeld ?_
    refine Tk 9 rfl hHeld ?_
    refine Tk 10 rfl hHeld ?_
    refine Tk 11 rfl hHeld ?_
    refine Tk 12 rfl hHeld ?_
    refine Tk 13 rfl hHeld ?_
    refine Tk 14 rfl hHeld ?_
    refine Tk 15 rfl hHeld ?_
    refine Tk 16 rfl hHeld ?_
    refine Tk 17 rfl hHeld ?_
    refine Tk 18 rfl hHeld ?_
    refine Tk 19 rfl hHeld ?_
    refine Tk 20 rfl hHeld ?_
    refine Tk 21 rfl hHeld ?_
    refine Tk 22 rfl hHeld ?_
    refine Tk 23 rfl hHeld ?_
    refine Tk 24 rfl hHeld ?_
    refine Tk 25 rfl hHeld ?_
    refine Tk 26 rfl hHeld ?_
    refine Tk 27 rfl hHeld ?_
    refine Tk 28 rfl hHeld ?_
    refine Tk 29 rfl hHeld ?_
    refine Tk 30 rfl hHeld ?_
    refine Tk 31 rfl hHeld ?_
    refine Tk 32 rfl hHeld ?_
    refine Tk 33 rfl hHeld ?_
    refine Tk 34 rfl hHeld ?_
    refine To 35 rfl fun K hK => ?_
    rw [if_pos (by rfl)]
    refine wp_store_cell _ _ _ rfl w.heap.size k (.int .u32 (wordP (byteI bs j0) (byteI bs j1) (byteI bs j2) (byteI bs j3))) rfl rfl _ _ hWd size_u32 (by rw [rowV_size, schedP_len]; omega) rfl fun w9 hW9 hg9 => ?_
    refine hK.out _ _ (fun h => absurd rfl h) (fun _ => ?_)
    clear hK K
    try simp only [Act.put, zz1, zz2, zz3, zz4, zz5, zz6]
    refine Ways.done (by kernel_rfl) ?_
    clear hHeld;have hbn : Below w.heap.size w w9 := hbw.drew.grown hg9 hbw.size (by rintro q ⟨⟩; exact Nat.le_refl _)
    have hWn : Blk w9 w.heap.size 63 (rowV (schedP bs (k + 1))) := by
     obtain ⟨rfl, rfl, rfl, rfl⟩ := HJ.out;rw [schedP_lo _ _ (by omega)] at hW9
     exact hW9
    clear hW9 hg9 hWd;go_wp2_with fail
    go_roundw
    case rel => exact ⟨k + 1, by go_num, by omega, hWn, hbn⟩
    case measure => simp [intOf]; omega
   ·have hk16 : 16 ≤ k := by omega
    obtain ⟨a15, ha15⟩ : ∃ j, k - 15 = j := ⟨_, rfl⟩
    obtain ⟨a2, ha2⟩ : ∃ j, k - 2 = j := ⟨_, rfl⟩
    obtain ⟨a7, ha7⟩ : ∃ j, k - 7 = j := ⟨_, rfl⟩
    obtain ⟨a16, ha16⟩ : ∃ j, k - 16 = j := ⟨_, rfl⟩
    have W15 : IntKind.i64.wrap ((k : Int) - 15) = (a15 : Int) := by rw [← ha15, show ((k - 15 : Nat) : Int) = (k : Int) - 15 by omega]; exact IntWalk.i64_in _ (by omega)
    have W2 : IntKind.i64.wrap ((k : Int) - 2) = (a2 : Int) := by rw [← ha2, show ((k - 2 : Nat) : Int) = (k : Int) - 2 by omega]; exact IntWalk.i64_in _ (by omega)
    have W7 : IntKind.i64.wrap ((k : Int) - 7) = (a7 : Int) := by rw [← ha7, show ((k - 7 : Nat) : Int) = (k : Int) - 7 by omega]; exact IntWalk.i64_in _ (by omega)
    have W16 : IntKind.i64.wrap ((k : Int) - 16) = (a16 : Int) := by rw [← ha16, show ((k - 16 : Nat) : Int) = (k : Int) - 16 by omega]; exact IntWalk.i64_in _ (by omega)
    have l15 : (a15 : Int) < 64 := by omega
    have l2 : (a2 : Int) < 64 := by omega
    have l7 : (a7 : Int) < 64 := by omega
    have l16 : (a16 : Int) < 64 := by omega
    have hWd := hW.drew;have b15 := hWd.cell a15 (rowV_get _ _ (by rw [schedP_len]; omega));have b2 := hWd.cell a2 (rowV_get _ _ (by rw [schedP_len]; omega));have b7 := hWd.cell a7 (rowV_get _ _ (by rw [schedP_len]; omega));have b16 := hWd.cell a16 (rowV_get _ _ (by rw [schedP_len]; omega));have HJ := Hh (And.intro ha15 (And.intro ha2 (And.intro ha7 ha16)));obtain ⟨x15, hx15⟩ : ∃ x, getW (schedP bs k) a15 = x := ⟨_, rfl⟩
    obtain ⟨x2, hx2⟩ : ∃ x, getW (schedP bs k) a2 = x := ⟨_, rfl⟩
    obtain ⟨x7, hx7⟩ : ∃ x, getW (schedP bs k) a7 = x := ⟨_, rfl⟩
    obtain ⟨x16, hx16⟩ : ∃ x, getW (schedP bs k) a16 = x := ⟨_, rfl⟩
    rw [hx15] at b15;rw [hx2] at b2;rw [hx7] at b7;rw [hx16] at b16;have HX := Hh (And.intro hx15 (And.intro hx2 (And.intro hx7 hx16)));clear ha15 ha2 ha7 ha16 hx15 hx2 hx7 hx16;go_upto_region 6 with fail
    refine wp_region_ways 10 (fun wx => wx.cell? ⟨w.heap.size, a15, none⟩ = some (.int .u32 x15) ∧ wx.cell? ⟨w.heap.size, a2, none⟩ = some (.int .u32 x2)) (by kernel_rfl) (⟨b15, b2⟩) (fun hHeld => ?_)
    refine TkS 0 rfl hHeld ?_
    refine TkS 1 rfl hHeld ?_
    refine TkS 2 rfl hHeld ?_
    refine TkS 3 rfl hHeld ?_
    refine TkS 4 rfl hHeld ?_
    refine TkS 5 rfl hHeld ?_
    refine TkS 6 rfl hHeld ?_
    refine TkS 7 rfl hHeld ?_
    refine TkS 8 rfl hHeld ?_
    refine TkS 9 rfl hHeld ?_
    refine Ways.done (by kernel_rfl) ?_
    clear hHeld;go_upto_region 7 with fail
    refine wp_region_ways 29 (fun wx => wx.cell? ⟨w.heap.size, a7, none⟩ = some (.int .u32 x7) ∧ wx.cell? ⟨w.heap.size, a16, none⟩ = some (.int .u32 x16)) (by kernel_rfl) (⟨b7, b16⟩) (fun hHeld => ?_)
    refine Tk 0 rfl hHeld ?_
    refine Tk 1 rfl hHeld ?_
    refine Tk 3 rfl hHeld ?_
    refine Tk 6 rfl hHeld ?_
    refine Tk 7 rfl hHeld ?_
    refine Tk 9 rfl hHeld ?_
    refine Tk 10 rfl hHeld ?_
    refine Tk 11 rfl hHeld ?_
    refine Tk 12 rfl hHeld ?_
    refine Tk 14 rfl hHeld ?_
    refine Tk 16 rfl hHeld ?_
    refine Tk 19 rfl hHeld ?_
    refine Tk 20 rfl hHeld ?_
    refine Tk 23 rfl hHeld ?_
    refine Tk 24 rfl hHeld ?_
    refine Tk 25 rfl hHeld ?_
    refine Tk 26 rfl hHeld ?_
    refine To 2 rfl fun K hK => ?_
    go_simp
    refine (sha_rot17 _ _).mono ?_
    rintro e w5 ⟨rfl, rfl⟩
    clear hHeld
    refine hK.out _ _ (fun _ => ?_) (fun hHeld => ?_)
    ·exact ⟨b7, b16⟩
    clear hK K;replace hHeld := hHeld (by decide)
    try simp only [Act.put, zz1, zz2, zz3, zz4, zz5, zz6]
    refine To 4 rfl fun K hK => ?_
    go_simp
    refine (sha_rot19 _ _).mono ?_
    rintro e w5 ⟨rfl, rfl⟩
    clear hHeld
    refine hK.out _ _ (fun _ => ?_) (fun hHeld => ?_)
    ·exact ⟨b7, b16⟩
    clear hK K;replace hHeld := hHeld (by decide)
    try simp only [Act.put, zz1, zz2, zz3, zz4, zz5, zz6]
    refine Tk 5 rfl hHeld ?_
    refine Tk 8 rfl hHeld ?_
    refine Tk 13 rfl hHeld ?_
    refine To 15 rfl fun K hK => ?_
    go_simp
    refine (sha_rot7 _ _).mono ?_
    rintro e w5 ⟨rfl, rfl⟩
    clear hHeld
    refine hK.out _ _ (fun _ => ?_) (fun hHeld => ?_)
    ·exact ⟨b7, b16⟩
    clear hK K;replace hHeld := hHeld (by decide)
    try simp only [Act.put, zz1, zz2, zz3, zz4, zz5, zz6]
    refine To 17 rfl fun K hK => ?_
    go_simp
    refine (sha_rot18 _ _).mono ?_
    rintro e w5 ⟨rfl, rfl⟩
    clear hHeld
    refine hK.out _ _ (fun _ => ?_) (fun hHeld => ?_)
    ·exact ⟨b7, b16⟩
    clear hK K;replace hHeld := hHeld (by decide)
    try simp only [Act.put, zz1, zz2, zz3, zz4, zz5, zz6]
    refine Tk 18 rfl hHeld ?_
    refine Tk 21 rfl hHeld ?_
    refine Tk 22 rfl hHeld ?_
    refine Tk 27 rfl hHeld ?_
    refine Tk 28 rfl hHeld ?_
    refine To 29 rfl fun K hK => ?_
    rw [if_pos (by rfl)]
    refine wp_store_cell _ _ _ rfl w.heap.size k (.int .u32 (mixP x15 x2 x7 x16)) rfl rfl _ _ hWd size_u32 (by rw [rowV_size, schedP_len]; omega) rfl fun w9 hW9 hg9 => ?_
    refine hK.out _ _ (fun h => absurd rfl h) (fun _ => ?_)
    clear hK K
    try simp only [Act.put, zz1, zz2, zz3, zz4, zz5, zz6]
    refine Ways.done (by kernel_rfl) ?_
    clear hHeld;have hbn : Below w.heap.size w w9 := hbw.drew.drew.grown hg9 hbw.size (by rintro q ⟨⟩; exact Nat.le_refl _)
    have hWn : Blk w9 w.heap.size 63 (rowV (schedP bs (k + 1))) := by
     obtain ⟨rfl, rfl, rfl, rfl⟩ := HJ.out;obtain ⟨rfl, rfl, rfl, rfl⟩ := HX.out;rw [schedP_hi _ _ (by omega)] at hW9
     exact hW9
    clear hW9 hg9 hWd;go_wp2_with fail
    go_roundw
    case rel => exact ⟨k + 1, by go_num, by omega, hWn, hbn⟩
    case measure => simp [intOf]; omega
  ·obtain rfl : k = 64 := by omega
   rw [show ((64 : Nat) : Int) = 64 from rfl] at hlt ⊢;have hhr := hh.below hbw;have hKr := hKb.below hbw;have d0 : wr.cell? ⟨hg, 0, none⟩ = some (.int .u32 h0.a) := hhr.cell 0 rfl;have d1 : wr.cell? ⟨hg, 1, none⟩ = some (.int .u32 h0.b) := hhr.cell 1 rfl;have d2 : wr.cell? ⟨hg, 2, none⟩ = some (.int .u32 h0.c) := hhr.cell 2 rfl;have d3 : wr.cell? ⟨hg, 3, none⟩ = some (.int .u32 h0.d) := hhr.cell 3 rfl;have d4 : wr.cell? ⟨hg, 4, none⟩ = some (.int .u32 h0.e) := hhr.cell 4 rfl;have d5 : wr.cell? ⟨hg, 5, none⟩ = some (.int .u32 h0.f) := hhr.cell 5 rfl;have d6 : wr.cell? ⟨hg, 6, none⟩ = some (.int .u32 h0.g) := hhr.cell 6 rfl;have d7 : wr.cell? ⟨hg, 7, none⟩ = some (.int .u32 h0.h) := hhr.cell 7 rfl;have HZ := Hh hbw.size;have HGW : Hid (hg < w.heap.size ∧ kg < w.heap.size) := ⟨hh.lt, hKb.lt⟩
   obtain ⟨G, hG⟩ : ∃ G, wr.heap.size = G := ⟨_, rfl⟩
   have HN2 := Hh (Blk.new wr 64 h0.cells);rw [hG] at HN2;have hW2 := hW.alloc (.cells h0.cells 64);have hb2 := hbw.alloc hbw.size (.cells h0.cells 64);have HG := Hh hG;have HGS : Hid (w.heap.size < G) := by have := hW.lt; rw [Hid]; omega
   clear HN hlt hk64 hhr hG;go_wp2_with fail
   rw [HG.out];go_loopw [98] (fun v98 wx => ∃ k : Nat, v98 = .int .i64 (k : Int) ∧ k ≤ 64 ∧ Blk wx G 64 (roundsP KK (schedP bs 64) h0 k).cells ∧ Blk wx w.heap.size 63 (rowV (schedP bs 64)) ∧ Below w.heap.size w wx) (fun v98 _ => (64 - intOf v98).toNat)
   case atStart => exact ⟨0, rfl, by omega, HN2.out, hW2, hb2⟩
   case round =>
    clear hW2 hb2 HN2 d0 d1 d2 d3 d4 d5 d6 d7 hW hKr;obtain ⟨k, rfl, hk64, hS, hWx, hbx⟩ := hrel
    by_cases hlt : (k : Int) < 64
    ·obtain ⟨s, hs⟩ : ∃ s, roundsP KK (schedP bs 64) h0 k = s := ⟨_, rfl⟩
     rw [hs] at hS;have HSE := Hh hs;clear hs;have c0 : wr.cell? ⟨G, 0, none⟩ = some (.int .u32 s.a) := hS.cell 0 rfl;have c1 : wr.cell? ⟨G, 1, none⟩ = some (.int .u32 s.b) := hS.cell 1 rfl;have c2 : wr.cell? ⟨G, 2, none⟩ = some (.int .u32 s.c) := hS.cell 2 rfl;have c3 : wr.cell? ⟨G, 3, none⟩ = some (.int .u32 s.d) := hS.cell 3 rfl;have c4 : wr.cell? ⟨G, 4, none⟩ = some (.int .u32 s.e) := hS.cell 4 rfl;have c5 : wr.cell? ⟨G, 5, none⟩ = some (.int .u32 s.f) := hS.cell 5 rfl;have c6 : wr.cell? ⟨G, 6, none⟩ = some (.int .u32 s.g) := hS.cell 6 rfl;have c7 : wr.cell? ⟨G, 7, none⟩ = some (.int .u32 s.h) := hS.cell 7 rfl;have ck := (hKb.below hbx).cell k (rowV_get _ _ (by have := H64.out; omega));have cw := hWx.cell k (rowV_get _ _ (by rw [schedP_len]; omega));obtain ⟨xk, hxk⟩ : ∃ x, getW KK k = x := ⟨_, rfl⟩
     obtain ⟨xw, hxw⟩ : ∃ x, getW (schedP bs 64) k = x := ⟨_, rfl⟩
     rw [hxk] at ck;rw [hxw] at cw;have HX := Hh (And.intro hxk hxw);clear hxk hxw;go_upto_region 13 with fail
     refine wp_region_ways 6 (fun wx => wx.cell? ⟨G, 0, none⟩ = some (.int .u32 s.a) ∧ wx.cell? ⟨G, 4, none⟩ = some (.int .u32 s.e)) (by kernel_rfl) (⟨c0, c4⟩) (fun hHeld => ?_)
     refine TkS 0 rfl hHeld ?_
     refine TkS 1 rfl hHeld ?_
     refine TkS 2 rfl hHeld ?_
     refine TkS 3 rfl hHeld ?_
     refine TkS 4 rfl hHeld ?_
     refine TkS 5 rfl hHeld ?_
     refine Ways.done (by kernel_rfl) ?_
     clear hHeld;go_upto_region 14 with fail
     refine wp_region_ways 33 (fun wx => wx.cell? ⟨G, 7, none⟩ = some (.int .u32 s.h) ∧ wx.cell? ⟨G, 5, none⟩ = some (.int .u32 s.f) ∧ wx.cell? ⟨G, 6, none⟩ = some (.int .u32 s.g) ∧ wx.cell? ⟨kg, k, none⟩ = some (.int .u32 xk) ∧ wx.cell? ⟨w.heap.size, k, none⟩ = some (.int .u32 xw)) (by kernel_rfl) (⟨c7, c5, c6, ck, cw⟩) (fun hHeld => ?_)
     refine TkS 0 rfl hHeld ?_
     refine TkS 1 rfl hHeld ?_
     refine TkS 2 rfl hHeld ?_
     refine TkS 4 rfl hHeld ?_
     refine TkS 7 rfl hHeld ?_
     refine TkS 11 rfl hHeld ?_
     refine TkS 12 rfl hHeld ?_
     refine TkS 13 rfl hHeld ?_
     refine TkS 14 rfl hHeld ?_
     refine TkS 15 rfl hHeld ?_
     refine TkS 16 rfl hHeld ?_
     refine TkS 17 rfl hHeld ?_
     refine TkS 18 rfl hHeld ?_
     refine TkS 19 rfl hHeld ?_
     refine TkS 20 rfl hHeld ?_
     refine TkS 22 rfl hHeld ?_
     refine TkS 23 rfl hHeld ?_
     refine TkS 24 rfl hHeld ?_
     refine TkS 25 rfl hHeld ?_
     refine TkS 26 rfl hHeld ?_
     refine TkS 28 rfl hHeld ?_
     refine TkS 29 rfl hHeld ?_
     refine TkS 30 rfl hHeld ?_
     refine To 3 rfl fun K hK => ?_
     go_simp
     refine (sha_rot6 _ _).mono ?_
     rintro e w5 ⟨rfl, rfl⟩
     clear hHeld
     refine hK.out _ _ (fun _ => ?_) (fun hHeld => ?_)
     ·exact ⟨c7, c5, c6, ck, cw⟩
     clear hK K;replace hHeld := hHeld (by decide)
     try simp only [Act.put, zz1, zz2, zz3, zz4, zz5, zz6]
     refine To 5 rfl fun K hK => ?_
     go_simp
     refine (sha_rot11 _ _).mono ?_
     rintro e w5 ⟨rfl, rfl⟩
     clear hHeld
     refine hK.out _ _ (fun _ => ?_) (fun hHeld => ?_)
     ·exact ⟨c7, c5, c6, ck, cw⟩
     clear hK K;replace hHeld := hHeld (by decide)
     try simp only [Act.put, zz1, zz2, zz3, zz4, zz5, zz6]
     refine TkS 6 rfl hHeld ?_
     refine To 8 rfl fun K hK => ?_
     go_simp
     refine (sha_rot25 _ _).mono ?_
     rintro e w5 ⟨rfl, rfl⟩
     clear hHeld
     refine hK.out _ _ (fun _ => ?_) (fun hHeld => ?_)
     ·exact ⟨c7, c5, c6, ck, cw⟩
     clear hK K;replace hHeld := hHeld (by decide)
     try simp only [Act.put, zz1, zz2, zz3, zz4, zz5, zz6]
     refine TkS 9 rfl hHeld ?_
     refine TkS 10 rfl hHeld ?_
     refine TkS 21 rfl hHeld ?_
     refine TkS 27 rfl hHeld ?_
     refine TkS 31 rfl hHeld ?_
     refine TkS 32 rfl hHeld ?_
     refine Ways.done (by kernel_rfl) ?_
     clear hHeld;go_upto_region 15 with fail
     refine wp_region_ways 25 (fun wx => wx.cell? ⟨G, 1, none⟩ = some (.int .u32 s.b) ∧ wx.cell? ⟨G, 2, none⟩ = some (.int .u32 s.c)) (by kernel_rfl) (⟨c1, c2⟩) (fun hHeld => ?_)
     refine TkS 0 rfl hHeld ?_
     refine TkS 2 rfl hHeld ?_
     refine TkS 5 rfl hHeld ?_
     refine TkS 8 rfl hHeld ?_
     refine TkS 9 rfl hHeld ?_
     refine TkS 10 rfl hHeld ?_
     refine TkS 11 rfl hHeld ?_
     refine TkS 12 rfl hHeld ?_
     refine TkS 13 rfl hHeld ?_
     refine TkS 14 rfl hHeld ?_
     refine TkS 15 rfl hHeld ?_
     refine TkS 16 rfl hHeld ?_
     refine TkS 17 rfl hHeld ?_
     refine TkS 18 rfl hHeld ?_
     refine TkS 19 rfl hHeld ?_
     refine TkS 20 rfl hHeld ?_
     refine TkS 21 rfl hHeld ?_
     refine TkS 22 rfl hHeld ?_
     refine To 1 rfl fun K hK => ?_
     go_simp
     refine (sha_rot2 _ _).mono ?_
     rintro e w5 ⟨rfl, rfl⟩
     clear hHeld
     refine hK.out _ _ (fun _ => ?_) (fun hHeld => ?_)
     ·exact ⟨c1, c2⟩
     clear hK K;replace hHeld := hHeld (by decide)
     try simp only [Act.put, zz1, zz2, zz3, zz4, zz5, zz6]
     refine To 3 rfl fun K hK => ?_
     go_simp
     refine (sha_rot13 _ _).mono ?_
     rintro e w5 ⟨rfl, rfl⟩
     clear hHeld
     refine hK.out _ _ (fun _ => ?_) (fun hHeld => ?_)
     ·exact ⟨c1, c2⟩
     clear hK K;replace hHeld := hHeld (by decide)
     try simp only [Act.put, zz1, zz2, zz3, zz4, zz5, zz6]
     refine TkS 4 rfl hHeld ?_
     refine To 6 rfl fun K hK => ?_
     go_simp
     refine (sha_rot22 _ _).mono ?_
     rintro e w5 ⟨rfl, rfl⟩
     clear hHeld
     refine hK.out _ _ (fun _ => ?_) (fun hHeld => ?_)
     ·exact ⟨c1, c2⟩
     clear hK K;replace hHeld := hHeld (by decide)
     try simp only [Act.put, zz1, zz2, zz3, zz4, zz5, zz6]
     refine TkS 7 rfl hHeld ?_
     refine TkS 23 rfl hHeld ?_
     refine TkS 24 rfl hHeld ?_
     refine Ways.done (by kernel_rfl) ?_
     clear hHeld;go_wp2_with (with_reducible refine stop_store ?_)
     refine wpList_store_item rfl _ _ _ rfl rfl G (roundP s xk xw).cells rfl rfl _ _ hS size_w8 rfl (S8.one _) fun w9 hS9 hg9 => ?_
     have hS10 : Blk w9 G 64 (roundsP KK (schedP bs 64) h0 (k + 1)).cells := by
      rw [roundsP, HSE.out, HX.out.1, HX.out.2]
      exact hS9
     have hGs : w.heap.size < G := HGS.out;have hW10 := hWx.drew.drew.drew.grown hg9 (by intro hc; injection hc; omega);have hb10 := hbx.drew.drew.drew.grown hg9 hbx.size (by rintro q ⟨⟩; omega);clear hS9 hg9 hS hWx c0 c1 c2 c3 c4 c5 c6 c7 ck cw hbx hGs;go_wp2_with fail
     go_roundw
     case rel => exact ⟨k + 1, by go_num, by omega, hS10, hW10, hb10⟩
     case measure => simp [intOf]; omega
    ·obtain rfl : k = 64 := by omega
     rw [show ((64 : Nat) : Int) = 64 from rfl] at hlt ⊢;obtain ⟨s, hs⟩ : ∃ s, roundsP KK (schedP bs 64) h0 64 = s := ⟨_, rfl⟩
     rw [hs] at hS;have HSE := Hh hs;have hh2 := hh.below hbx;have hGs : w.heap.size < G := HGS.out;have hgh : hg < w.heap.size := HGW.out.1;clear hs hlt hk64 hKb hWx;go_wp2_with fail
     go_loopw [180] (fun v180 wx => ∃ k : Nat, v180 = .int .i64 (k : Int) ∧ k ≤ 8 ∧ Blk wx hg 64 (rowV (addP h0.list s.list k)) ∧ Blk wx G 64 (rowV s.list) ∧ w.grownBy wx (some hg)) (fun v180 _ => (8 - intOf v180).toNat)
     case atStart => exact ⟨0, rfl, by omega, hh2, hS, grown_of_below hbx _⟩
     case round =>
      clear hh2 hS hbx;obtain ⟨k, rfl, hk8, hhx, hSx, hgx⟩ := hrel
      by_cases hlt : (k : Int) < 8
      ·have ch := hhx.drew.cell k (rowV_get _ _ (by rw [addP_len]; simp [S8.list]; omega));have cs := hSx.drew.cell k (rowV_get _ _ (by simp [S8.list]; omega));obtain ⟨xh, hxh⟩ : ∃ x, getW (addP h0.list s.list k) k = x := ⟨_, rfl⟩
       obtain ⟨xs, hxs⟩ : ∃ x, getW s.list k = x := ⟨_, rfl⟩
       rw [hxh] at ch;rw [hxs] at cs;have HX := Hh (And.intro hxh hxs);clear hxh hxs;go_upto_region 21 with fail
       refine wp_region_ways 11 (fun wx => wx.cell? ⟨hg, k, none⟩ = some (.int .u32 xh) ∧ wx.cell? ⟨G, k, none⟩ = some (.int .u32 xs)) (by kernel_rfl) (⟨ch, cs⟩) (fun hHeld => ?_)
       refine Tk 0 rfl hHeld ?_
       refine Tk 1 rfl hHeld ?_
       refine Tk 2 rfl hHeld ?_
       refine Tk 3 rfl hHeld ?_
       refine Tk 4 rfl hHeld ?_
       refine Tk 5 rfl hHeld ?_
       refine Tk 6 rfl hHeld ?_
       refine Tk 7 rfl hHeld ?_
       refine Tk 8 rfl hHeld ?_
       refine Tk 9 rfl hHeld ?_
       refine Tk 10 rfl hHeld ?_
       refine To 11 rfl fun K hK => ?_
       rw [if_pos (by rfl)]
       refine wp_store_cell _ _ _ rfl hg k (.int .u32 (IntKind.u32.wrap (xh + xs))) rfl rfl _ _ hhx.drew size_u32 (by rw [rowV_size, addP_len]; simp [S8.list]; omega) rfl fun w9 hh9 hg9 => ?_
       refine hK.out _ _ (fun h => absurd rfl h) (fun _ => ?_)
       clear hK K
       try simp only [Act.put, zz1, zz2, zz3, zz4, zz5, zz6]
       refine Ways.done (by kernel_rfl) ?_
       clear hHeld
       have hh10 : Blk w9 hg 64 (rowV (addP h0.list s.list (k + 1))) := by
        obtain ⟨rfl, rfl⟩ := HX.out;rw [rowV_set] at hh9
        exact hh9
       have hS10 := hSx.drew.grown hg9 (by intro hc; injection hc; omega);have hg10 := grown_step (grown_drew hgx) hg9 (.inl rfl);clear hh9 hg9 ch cs hhx hSx hgx;go_wp2_with fail
       go_roundw
       case rel => exact ⟨k + 1, by go_num, by omega, hh10, hS10, hg10⟩
       case measure => simp [intOf]; omega
      ·obtain rfl : k = 8 := by omega
       rw [show ((8 : Nat) : Int) = 8 from rfl] at hlt ⊢;have hE : rowV (addP h0.list s.list 8) = (blockP KK h0 bs).cells := by rw [blockP, HSE.out]; rfl
       rw [hE] at hhx;clear hE;go_wp2_with fail
       go_end0
       exact ⟨⟨_, rfl⟩, hhx, hgx⟩
end Go.Proofs.YtmacemcajlgddaaGreatDoor
