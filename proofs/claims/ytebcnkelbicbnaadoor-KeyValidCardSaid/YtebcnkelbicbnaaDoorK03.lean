/- Walks: the references' Compare. Walks: the references' Head. Walks: the references' IsNaN, Narrow, float. -/
import Derived.Test.YtebcnkelbicbnaaDoorK01
import Derived.Test.YtebcnkelbicbnaaDoorK02
import Derived.Deep.DeepCutAuto
import Derived.Deep.CutBlock
import Derived.Laws.BitsAllLaws
set_option linter.unusedVariables false
set_option linter.unusedSimpArgs false
namespace Go.Proofs.YtebcnkelbicbnaaDoor
open Go.RowKit

set_option maxRecDepth 100000 in
set_option maxHeartbeats 1600000 in
theorem ref_Compare (w : World) (A B : Option Addr) (a b : List UInt8) (n m c d : Nat) (hn : n = a.length) (hm : m = b.length) (hna : n ≤ 1099511627776) (hmb : m ≤ 1099511627776) (ha : Src w A (a.map byteV)) (hb : Src w B (b.map byteV)) :
    Calls Tryd.prog 28 #[.slice A n c, .slice B m d] w fun e w' => e = .returned (.int .i64 (Lib.compareBytes a b)) ∧ Below w.heap.size w w' := by
  have HN := Lib.hid hn
  have HM := Lib.hid hm
  clear hn hm
  go_enter Tryd.func28, Tryd.ntmps28
  go_wp2_with fail
  go_loopw [5] (fun vi wr => ∃ k : Nat, k ≤ n ∧ k ≤ m ∧ vi = .int .i64 k ∧ Lib.compareBytes (a.drop k) (b.drop k) = Lib.compareBytes a b ∧ Below w.heap.size w wr) (fun vi _ => n - (intOf vi).toNat)
  case atStart => exact ⟨0, by omega, by omega, rfl, by simp, Below.refl _ _⟩
  case round =>
    obtain ⟨k, hk1, hk2, rfl, hc, hbr⟩ := hrel
    have hn := HN.out
    have hm := HM.out
    by_cases h1 : k < n
    · by_cases h2 : k < m
      · obtain ⟨ab, ao, rfl, hsa⟩ := (ha.below hbr) (by intro h; simp at h; subst h; simp at hn; omega)
        obtain ⟨bb, bo, rfl, hsb⟩ := (hb.below hbr) (by intro h; simp at h; subst h; simp at hm; omega)
        have ka : k < a.length := by omega
        have kb : k < b.length := by omega
        have p0 := hsa k (byteV a[k]) (by simp [ka])
        have q0 := hsb k (byteV b[k]) (by simp [kb])
        have hd : Lib.compareBytes (a.drop k) (b.drop k) = if a[k] < b[k] then -1 else if b[k] < a[k] then 1 else Lib.compareBytes (a.drop (k + 1)) (b.drop (k + 1)) := by
          rw [List.drop_eq_getElem_cons ka, List.drop_eq_getElem_cons kb, Lib.compareBytes]
        rw [hc] at hd
        generalize a[k]'ka = x at *
        generalize b[k]'kb = y at *
        have HD := Lib.hid hd
        clear hd hc hn hm hsa hsb ka kb
        go_upto_region 4 with fail
        refine wp_region_ways 8 (fun w' => w'.cell? ⟨ab, ao + k, none⟩ = some (byteV x) ∧ w'.cell? ⟨bb, bo + k, none⟩ = some (byteV y)) (by kernel_rfl) (⟨p0, q0⟩) (fun hHeld => ?_)
        refine Ways.take (i := 0) (v := ?_) rfl (by kernel_rfl) (fun _ _ _ h => h) (Or.inl ⟨by rfl, ?_⟩) hHeld ?_
        rotate_left
        · (intro w hSw; (try dsimp only at hSw); go_simp; try with_reducible rfl)
        try simp only [Act.put, List.setIfInBounds_toArray, List.set_cons_zero, List.set_cons_succ]
        refine Ways.take (i := 1) (v := ?_) rfl (by kernel_rfl) (fun _ _ _ h => h) (Or.inl ⟨by rfl, ?_⟩) hHeld ?_
        rotate_left
        · (intro w hSw; (try dsimp only at hSw); go_simp; try with_reducible rfl)
        try simp only [Act.put, List.setIfInBounds_toArray, List.set_cons_zero, List.set_cons_succ]
        refine Ways.take (i := 2) (v := ?_) rfl (by kernel_rfl) (fun _ _ _ h => h) (Or.inl ⟨by rfl, ?_⟩) hHeld ?_
        rotate_left
        · (intro w hSw; (try dsimp only at hSw); go_simp; try with_reducible rfl)
        try simp only [Act.put, List.setIfInBounds_toArray, List.set_cons_zero, List.set_cons_succ]
        refine Ways.take (i := 3) (v := ?_) rfl (by kernel_rfl) (fun _ _ _ h => h) (Or.inl ⟨by rfl, ?_⟩) hHeld ?_
        rotate_left
        · (intro w hSw; (try dsimp only at hSw); go_simp; try with_reducible rfl)
        try simp only [Act.put, List.setIfInBounds_toArray, List.set_cons_zero, List.set_cons_succ]
        refine Ways.take (i := 4) (v := ?_) rfl (by kernel_rfl) (fun _ _ _ h => h) (Or.inl ⟨by rfl, ?_⟩) hHeld ?_
        rotate_left
        · (intro w hSw; (try dsimp only at hSw); go_simp; try with_reducible rfl)
        try simp only [Act.put, List.setIfInBounds_toArray, List.set_cons_zero, List.set_cons_succ]
        refine Ways.take (i := 5) (v := ?_) rfl (by kernel_rfl) (fun _ _ _ h => h) (Or.inl ⟨by rfl, ?_⟩) hHeld ?_
        rotate_left
        · (intro w hSw; (try dsimp only at hSw); go_simp; try with_reducible rfl)
        try simp only [Act.put, List.setIfInBounds_toArray, List.set_cons_zero, List.set_cons_succ]
        refine Ways.take (i := 6) (v := ?_) rfl (by kernel_rfl) (fun _ _ _ h => h) (Or.inl ⟨by rfl, ?_⟩) hHeld ?_
        rotate_left
        · (intro w hSw; (try dsimp only at hSw); go_simp; try with_reducible rfl)
        try simp only [Act.put, List.setIfInBounds_toArray, List.set_cons_zero, List.set_cons_succ]
        refine Ways.take (i := 7) (v := ?_) rfl (by kernel_rfl) (fun _ _ _ h => h) (Or.inl ⟨by rfl, ?_⟩) hHeld ?_
        rotate_left
        · (intro w hSw; (try dsimp only at hSw); go_simp; try with_reducible rfl)
        try simp only [Act.put, List.setIfInBounds_toArray, List.set_cons_zero, List.set_cons_succ]
        refine Ways.one (i := 8) rfl (by kernel_rfl) (fun K hK => ?_)
        go_simp
        refine hK.out _ _ (fun h => absurd rfl h) (fun _ => ?_)
        clear hK K
        try simp only [Act.put, List.setIfInBounds_toArray, List.set_cons_zero, List.set_cons_succ]
        refine Ways.done (by kernel_rfl) ?_
        clear hHeld
        by_cases hxy : x = y
        · subst hxy
          have E : Hid (Lib.compareBytes (a.drop (k + 1)) (b.drop (k + 1)) = Lib.compareBytes a b) := by rw [Hid, HD.out, if_neg (UInt8.lt_irrefl x), if_neg (UInt8.lt_irrefl x)]
          have hb2 := hbr.drew
          go_wp2_with fail
          go_roundw
          case rel => exact ⟨k + 1, by omega, by omega, by go_num, E.out, hb2⟩
          case measure => simp [intOf]; omega
        · have hne : ((x.toNat : Int) != (y.toNat : Int)) = true := by
            rw [bne_iff_ne]
            intro h
            exact hxy (UInt8.toNat_inj.1 (by omega))
          have hb2 := hbr.drew.drew
          have HXY := Lib.hid hxy
          clear hxy
          go_upto_region 5 with fail
          refine wp_region_ways 8 (fun w' => w'.cell? ⟨ab, ao + k, none⟩ = some (byteV x) ∧ w'.cell? ⟨bb, bo + k, none⟩ = some (byteV y)) (by kernel_rfl) (⟨p0, q0⟩) (fun hHeld => ?_)
          refine Ways.take (i := 0) (v := ?_) rfl (by kernel_rfl) (fun _ _ _ h => h) (Or.inl ⟨by rfl, ?_⟩) hHeld ?_
          rotate_left
          · (intro w hSw; (try dsimp only at hSw); go_simp; try with_reducible rfl)
          try simp only [Act.put, List.setIfInBounds_toArray, List.set_cons_zero, List.set_cons_succ]
          refine Ways.take (i := 1) (v := ?_) rfl (by kernel_rfl) (fun _ _ _ h => h) (Or.inl ⟨by rfl, ?_⟩) hHeld ?_
          rotate_left
          · (intro w hSw; (try dsimp only at hSw); go_simp; try with_reducible rfl)
          try simp only [Act.put, List.setIfInBounds_toArray, List.set_cons_zero, List.set_cons_succ]
          refine Ways.take (i := 2) (v := ?_) rfl (by kernel_rfl) (fun _ _ _ h => h) (Or.inl ⟨by rfl, ?_⟩) hHeld ?_
          rotate_left
          · (intro w hSw; (try dsimp only at hSw); go_simp; try with_reducible rfl)
          try simp only [Act.put, List.setIfInBounds_toArray, List.set_cons_zero, List.set_cons_succ]
          refine Ways.take (i := 3) (v := ?_) rfl (by kernel_rfl) (fun _ _ _ h => h) (Or.inl ⟨by rfl, ?_⟩) hHeld ?_
          rotate_left
          · (intro w hSw; (try dsimp only at hSw); go_simp; try with_reducible rfl)
          try simp only [Act.put, List.setIfInBounds_toArray, List.set_cons_zero, List.set_cons_succ]
          refine Ways.take (i := 4) (v := ?_) rfl (by kernel_rfl) (fun _ _ _ h => h) (Or.inl ⟨by rfl, ?_⟩) hHeld ?_
          rotate_left
          · (intro w hSw; (try dsimp only at hSw); go_simp; try with_reducible rfl)
          try simp only [Act.put, List.setIfInBounds_toArray, List.set_cons_zero, List.set_cons_succ]
          refine Ways.take (i := 5) (v := ?_) rfl (by kernel_rfl) (fun _ _ _ h => h) (Or.inl ⟨by rfl, ?_⟩) hHeld ?_
          rotate_left
          · (intro w hSw; (try dsimp only at hSw); go_simp; try with_reducible rfl)
          try simp only [Act.put, List.setIfInBounds_toArray, List.set_cons_zero, List.set_cons_succ]
          refine Ways.take (i := 6) (v := ?_) rfl (by kernel_rfl) (fun _ _ _ h => h) (Or.inl ⟨by rfl, ?_⟩) hHeld ?_
          rotate_left
          · (intro w hSw; (try dsimp only at hSw); go_simp; try with_reducible rfl)
          try simp only [Act.put, List.setIfInBounds_toArray, List.set_cons_zero, List.set_cons_succ]
          refine Ways.take (i := 7) (v := ?_) rfl (by kernel_rfl) (fun _ _ _ h => h) (Or.inl ⟨by rfl, ?_⟩) hHeld ?_
          rotate_left
          · (intro w hSw; (try dsimp only at hSw); go_simp; try with_reducible rfl)
          try simp only [Act.put, List.setIfInBounds_toArray, List.set_cons_zero, List.set_cons_succ]
          refine Ways.one (i := 8) rfl (by kernel_rfl) (fun K hK => ?_)
          go_simp
          refine hK.out _ _ (fun h => absurd rfl h) (fun _ => ?_)
          clear hK K
          try simp only [Act.put, List.setIfInBounds_toArray, List.set_cons_zero, List.set_cons_succ]
          refine Ways.done (by kernel_rfl) ?_
          clear hHeld
          by_cases hl : x < y
          · have E : Hid (Lib.compareBytes a b = -1) := by rw [Hid, HD.out, if_pos hl]
            have hl2 : (x.toNat : Int) < (y.toNat : Int) := by have := UInt8.lt_iff_toNat_lt.1 hl; omega
            clear hl
            go_wp2_with fail
            go_ret
            exact ⟨by rw [E.out]; rfl, hb2⟩
          · have hg : y < x := by
              have := HXY.out
              rcases Nat.lt_trichotomy x.toNat y.toNat with h | h | h
              · exact absurd (UInt8.lt_iff_toNat_lt.2 h) hl
              · exact absurd (UInt8.toNat_inj.1 h) this
              · exact UInt8.lt_iff_toNat_lt.2 h
            have E : Hid (Lib.compareBytes a b = 1) := by rw [Hid, HD.out, if_neg hl, if_pos hg]
            have hl2 : (y.toNat : Int) ≤ (x.toNat : Int) := by have := UInt8.lt_iff_toNat_lt.1 hg; omega
            clear hl hg
            go_wp2_with fail
            go_ret
            exact ⟨by rw [E.out]; rfl, hbr.drew.drew⟩
      · have hkm : k = m := by omega
        have E : Hid (Lib.compareBytes a b = 1) := by
          rw [Hid, ← hc, List.drop_eq_getElem_cons (show k < a.length by omega), List.drop_eq_nil_of_le (show b.length ≤ k by omega), Lib.compareBytes]
        clear hc hn hm
        go_wp2_with fail
        go_ret
        exact ⟨by rw [E.out]; rfl, hbr⟩
    · have hkn : k = n := by omega
      by_cases h2 : k < m
      · have E : Hid (Lib.compareBytes a b = -1) := by
          rw [Hid, ← hc, List.drop_eq_nil_of_le (show a.length ≤ k by omega), List.drop_eq_getElem_cons (show k < b.length by omega), Lib.compareBytes]
        clear hc hn hm
        go_wp2_with fail
        go_ret
        exact ⟨by rw [E.out]; rfl, hbr⟩
      · have E : Hid (Lib.compareBytes a b = 0) := by
          rw [Hid, ← hc, List.drop_eq_nil_of_le (show a.length ≤ k by omega), List.drop_eq_nil_of_le (show b.length ≤ k by omega), Lib.compareBytes]
        clear hc hn hm
        go_wp2_with fail
        go_ret
        exact ⟨by rw [E.out]; rfl, hbr⟩
end Go.Proofs.YtebcnkelbicbnaaDoor
namespace Go.Proofs.YtebcnkelbicbnaaDoor
open Go.RowKit

theorem OwnB.blk {w : World} {g base : Nat} {cs : Array Value} {l : List UInt8} (h : Blk w g 5 cs) (hc : cs.toList = l.map byteV) (hb : base ≤ g) (hm : l.length ≤ 4096) (k : Nat) (hk : k = l.length) :
    OwnB w base (.slice (some ⟨g, 0, none⟩) k k) l := by
  subst hk
  refine ⟨by simp, .inr ⟨g, l.length, cs, rfl, hb, h, Nat.le_refl _, by simp only [maxLen]; omega, ?_, ?_⟩⟩
  · rw [← Array.length_toList, hc]; simp
  · rw [hc, Nat.mul_one]; exact List.take_of_length_le (by simp)
/-- The first j of the last s bytes of n. -/
def tailB (n s j : Nat) : List UInt8 := (List.range j).map fun t => u8 (n / 2 ^ (8 * (s - 1 - t)))
theorem tailB_succ (n s j : Nat) : tailB n s (j + 1) = tailB n s j ++ [u8 (n / 2 ^ (8 * (s - 1 - j)))] := by
  simp [tailB, List.range_succ]
theorem tailB_len (n s j : Nat) : (tailB n s j).length = j := by simp [tailB]
def tailF (n s j : Nat) : UInt8 := u8 (n / 2 ^ (8 * (s - 1 - j)))
/-- The size that Head writes, and its first byte. -/
def headS (n : Nat) : Nat := if n < 256 then 1 else if n < 65536 then 2 else if n < 4294967296 then 4 else 8
def headA (n : Nat) : Nat := if n < 256 then 24 else if n < 65536 then 25 else if n < 4294967296 then 26 else 27
def headF (m n : Nat) : UInt8 := u8 (m * 32 + headA n)
theorem headB_tail (m n : Nat) (h : 24 ≤ n) : headB m n = headF m n :: tailB n (headS n) (headS n) := by
  rw [headB, if_neg (by omega), headF, headA, headS]
  by_cases h1 : n < 256
  · simp [h1, tailB, List.range_succ]
  by_cases h2 : n < 65536
  · simp [h1, h2, tailB, List.range_succ]
  by_cases h3 : n < 4294967296
  · simp [h1, h2, h3, tailB, List.range_succ]
  · simp [h1, h2, h3, tailB, be8, List.range_succ]
theorem head_1 {n : Int} (h : n < 256) : headS n.toNat = 1 ∧ headA n.toNat = 24 := by
  constructor <;> (simp only [headS, headA]; repeat (first | rw [if_pos (by omega)] | rw [if_neg (by omega)]))
theorem head_2 {n : Int} (h : 256 ≤ n) (h' : n < 65536) : headS n.toNat = 2 ∧ headA n.toNat = 25 := by
  constructor <;> (simp only [headS, headA]; repeat (first | rw [if_pos (by omega)] | rw [if_neg (by omega)]))
theorem head_3 {n : Int} (h : 65536 ≤ n) (h' : n < 4294967296) : headS n.toNat = 4 ∧ headA n.toNat = 26 := by
  constructor <;> (simp only [headS, headA]; repeat (first | rw [if_pos (by omega)] | rw [if_neg (by omega)]))
theorem head_4 {n : Int} (h : 4294967296 ≤ n) : headS n.toNat = 8 ∧ headA n.toNat = 27 := by
  constructor <;> (simp only [headS, headA]; repeat (first | rw [if_pos (by omega)] | rw [if_neg (by omega)]))
theorem headS_le (n : Nat) : 1 ≤ headS n ∧ headS n ≤ 8 := by
  unfold headS
  repeat' split
  all_goals omega
theorem head_cell {m n : Int} (hm0 : 0 ≤ m) (hm : m < 8) (h0 : 0 ≤ n) (h : n < 24) : (#[.int .u8 (32 * m + n)] : Array Value).toList = (headB m.toNat n.toNat).map byteV := by
  rw [headB, if_pos (by omega)]
  simp only [List.map_cons, List.map_nil, byteV_u8]
  congr 2
  omega

set_option maxRecDepth 100000 in
set_option maxHeartbeats 1600000 in
theorem ref_Head (m n : Int) (w : World) (hm0 : 0 ≤ m) (hm : m < 8) (h0 : 0 ≤ n) (h1 : n < 18446744073709551616) :
    Calls Tryd.prog 59 #[.int .i64 m, .int .u64 n] w fun e w' => ∃ r, e = .returned r ∧ Fresh w (headB m.toNat n.toNat) r w' := by
  have H1 := Lib.hid h1
  have H0 := Lib.hid h0
  have K0 : IntKind.u8.wrap (32 * m + 24) = 32 * m + 24 := IntWalk.u8_in _ (by omega)
  have K1 : IntKind.i64.wrap (32 * m) = 32 * m := IntWalk.i64_in _ (by omega)
  have K2 : IntKind.i64.wrap (32 * m + 24) = 32 * m + 24 := IntWalk.i64_in _ (by omega)
  have K3 : IntKind.u8.wrap (32 * m) = 32 * m := IntWalk.u8_in _ (by omega)
  have hB := Blk.new w 5 #[.int .u8 (32 * m + 24)]
  have hb0 := below_box w (.cells #[.int .u8 (32 * m + 24)] 5)
  clear h1
  go_enter Tryd.func59, Tryd.ntmps59
  go_upto_block 0 with fail
  go_cut [5, 6] (fun s5 s6 wx => 24 ≤ n ∧ s5 = .slice (some ⟨w.heap.size, 0, none⟩) 1 1 ∧ s6 = .int .i64 (headS n.toNat : Int) ∧ Blk wx w.heap.size 5 #[.int .u8 (32 * m + (headA n.toNat : Int))] ∧ Below w.heap.size w wx)
  case first =>
    go_wp2_with fail
    · go_ret
      have hlt : n < 24 := by with_reducible assumption
      have hc := head_cell hm0 hm H0.out hlt
      have hB2 := Blk.new (w.alloc (.cells #[.int .u8 (32 * m + 24)] 5)) 5 #[.int .u8 (32 * m + n)]
      simp only [size_alloc] at hB2
      have hl1 : 1 = (headB m.toNat n.toNat).length := by rw [headB_length, if_pos (by omega)]
      exact ⟨_, rfl, OwnB.blk hB2 hc (by omega) (by omega) 1 hl1, hb0.alloc hb0.size _⟩
    · have h24 : 24 ≤ n := by with_reducible assumption
      have hlt : n < 256 := by with_reducible assumption
      obtain ⟨e1, e2⟩ := head_1 hlt
      go_meet
      rw [e1, e2]
      exact ⟨h24, rfl, rfl, hB, hb0⟩
    · have h24 : 24 ≤ n := by with_reducible assumption
      have hge : 256 ≤ n := by with_reducible assumption
      have hlt : n < 65536 := by with_reducible assumption
      obtain ⟨e1, e2⟩ := head_2 hge hlt
      go_meet
      rw [e1, e2]
      have := Blk.new w 5 #[.int .u8 (32 * m + 24 + 1)]
      rw [show 32 * m + 24 + 1 = 32 * m + ((25 : Nat) : Int) by omega] at this ⊢
      exact ⟨h24, rfl, rfl, this, below_box _ _⟩
    · have h24 : 24 ≤ n := by with_reducible assumption
      have hge : 65536 ≤ n := by with_reducible assumption
      have hlt : n < 4294967296 := by with_reducible assumption
      obtain ⟨e1, e2⟩ := head_3 hge hlt
      go_meet
      rw [e1, e2]
      have := Blk.new w 5 #[.int .u8 (32 * m + 24 + 2)]
      rw [show 32 * m + 24 + 2 = 32 * m + ((26 : Nat) : Int) by omega] at this ⊢
      exact ⟨h24, rfl, rfl, this, below_box _ _⟩
    · have h24 : 24 ≤ n := by with_reducible assumption
      have hge : 4294967296 ≤ n := by with_reducible assumption
      obtain ⟨e1, e2⟩ := head_4 hge
      go_meet
      rw [e1, e2]
      have := Blk.new w 5 #[.int .u8 (32 * m + 24 + 3)]
      rw [show 32 * m + 24 + 3 = 32 * m + ((27 : Nat) : Int) by omega] at this ⊢
      exact ⟨h24, rfl, rfl, this, below_box _ _⟩
  case rest =>
    obtain ⟨h24, rfl, rfl, hB2, hb2⟩ := hcut
    obtain ⟨hs1, hs2⟩ := headS_le n.toNat
    have HT := Lib.hid (headB_tail m.toNat n.toNat (by omega))
    generalize headS n.toNat = s at *
    have K5 : IntKind.i64.wrap ((s : Int) - 1) = (s : Int) - 1 := IntWalk.i64_in _ (by omega)
    have hO : OwnB wc w.heap.size (.slice (some ⟨w.heap.size, 0, none⟩) 1 1) [headF m.toNat n.toNat] := by
      refine OwnB.blk hB2 ?_ (Nat.le_refl _) (by simp) 1 rfl
      simp only [List.map_cons, List.map_nil, headF, byteV_u8]
      have : headA n.toNat ≤ 27 := by unfold headA; repeat' split
                                      all_goals omega
      congr 2
      omega
    go_upto_region 13 with fail
    go_loopw [5, 7] (fun v5 v7 wr => ∃ (j : Nat) (VA : Option Addr) (vc : Nat), j ≤ s ∧ v7 = .int .i64 ((s : Int) - 1 - j) ∧ v5 = .slice VA (1 + j) vc ∧ OwnB wr w.heap.size (.slice VA (1 + j) vc) (headF m.toNat n.toNat :: tailB n.toNat s j) ∧ Below w.heap.size w wr) (fun _ v7 _ => (intOf v7 + 1).toNat)
    case atStart => exact ⟨0, _, _, by omega, by go_num, rfl, hO, hb2⟩
    case round =>
      obtain ⟨j, VA, vc, hj, rfl, rfl, hOr, hbr⟩ := hrel
      by_cases hlt : j < s
      · have hge : (0 : Int) ≤ (s : Int) - 1 - j := by omega
        have hcell : (#[.int .u8 (n / 2 ^ (8 * (s - 1 - j)) % 256)] : Array Value).toList = [tailF n.toNat s j].map byteV := by
          simp only [List.map_cons, List.map_nil, tailF, byteV_u8]
          obtain ⟨n', rfl⟩ := Int.eq_ofNat_of_zero_le H0.out
          simp
        have hb3 := hbr.alloc hbr.size (.cells #[.int .u8 (n / 2 ^ (8 * (s - 1 - j)) % 256)] 5)
        have hO3 := hOr.alloc (.cells #[.int .u8 (n / 2 ^ (8 * (s - 1 - j)) % 256)] 5)
        have HC := Lib.hid hcell
        clear hcell
        go_wp2_with (at_builtin; refine stop_in ?_)
        unfold Stopped
        refine wpList_app_bytes rfl (.tmp 56) (.tmp 63) rfl w.heap.size _ _ rfl hO3 _ 1 _ [tailF n.toNat s j] rfl rfl (Src.new _ _ _ _ rfl _ HC.out) (by simp [tailB_len]; omega) hb3.size fun v' w7 hO7 hg7 hat7 => ?_
        have hl7 : (headF m.toNat n.toNat :: tailB n.toNat s j) ++ [tailF n.toNat s j] = headF m.toNat n.toNat :: tailB n.toNat s (j + 1) := by rw [tailB_succ]; rfl
        obtain ⟨VA', vc', rfl, _⟩ := hO7.form
        have hll : ((headF m.toNat n.toNat :: tailB n.toNat s j) ++ [tailF n.toNat s j]).length = 1 + (j + 1) := by simp [tailB_len]; omega
        rw [hll] at hO7
        rw [hll]
        rw [hl7] at hO7
        have hb7 := hb3.grown hg7 hb3.size (fun q hq => (hO3.lt q hq).1)
        clear hl7 hll hg7 hat7 hO3 hOr hb3 hbr
        go_wp2_with fail
        go_roundw
        case rel => exact ⟨j + 1, VA', vc', by omega, by rw [show ((j + 1 : Nat) : Int) = (j : Int) + 1 by omega, show (s : Int) - 1 - ((j : Int) + 1) = (s : Int) - 1 - j - 1 by omega], rfl, hO7, hb7⟩
        case measure => simp [intOf]; omega
      · have hjs : j = s := by omega
        subst hjs
        have E : Hid (headB m.toNat n.toNat = headF m.toNat n.toNat :: tailB n.toNat j j) := HT.out
        have hneg : (j : Int) - 1 - j < 0 := by omega
        go_wp2_with fail
        go_ret
        rw [E.out]
        exact ⟨_, rfl, hOr, hbr⟩
end Go.Proofs.YtebcnkelbicbnaaDoor
namespace Go.Proofs.YtebcnkelbicbnaaDoor
open Go.RowKit

theorem and_mod (a k : Nat) (ha : a < 2 ^ 64) (hk : k < 64) : bits .and .u64 (a : Int) ((2 ^ k - 1 : Nat) : Int) = ((a % 2 ^ k : Nat) : Int) := by
  rw [u64_and_nat a (2 ^ k - 1) (by simpa using ha) ?_, Nat.and_two_pow_sub_one_eq_mod]
  have : 2 ^ k < 2 ^ 64 := Nat.pow_lt_pow_right (by omega) hk
  omega

theorem or_add (a k b : Nat) (hb : b < 2 ^ k) (h : a * 2 ^ k + b < 2 ^ 64) : bits .or .u64 ((a * 2 ^ k : Nat) : Int) (b : Int) = ((a * 2 ^ k + b : Nat) : Int) := by
  rw [u64_or_nat _ _ (by omega) (by omega), Nat.mul_comm, Nat.two_pow_add_eq_or_of_lt hb]
theorem or_low (b k : Nat) (hb : b < 2 ^ k) (hk : k < 64) : bits .or .u64 (b : Int) ((2 ^ k : Nat) : Int) = ((b + 2 ^ k : Nat) : Int) := by
  have h1 : 2 ^ k < 2 ^ 64 := Nat.pow_lt_pow_right (by omega) hk
  rw [u64_or_nat _ _ (by omega) (by omega), Nat.or_comm]
  have := Nat.two_pow_add_eq_or_of_lt hb 1
  rw [Nat.mul_one] at this
  rw [← this, Nat.add_comm]
theorem pow_mask (k : Nat) (hk : k < 64) : IntKind.u64.wrap (IntKind.u64.wrap ((2 : Int) ^ k) - 1) = ((2 ^ k - 1 : Nat) : Int) := by
  have h1 : 2 ^ k < 2 ^ 64 := Nat.pow_lt_pow_right (by omega) hk
  have h2 : 0 < 2 ^ k := Nat.two_pow_pos k
  have e : (2 : Int) ^ k = ((2 ^ k : Nat) : Int) := by rw [Int.natCast_pow]; rfl
  simp only [Nat.reducePow] at h1
  have e1 : IntKind.u64.wrap ((2 ^ k : Nat) : Int) = ((2 ^ k : Nat) : Int) := IntWalk.u64_in _ (by omega)
  rw [e, e1, IntWalk.u64_in _ (by omega)]
  omega
set_option maxRecDepth 100000 in
theorem ref_IsNaN (n : Nat) (hn : n < 18446744073709551616) (w : World) :
    Calls Tryd.prog 89 #[.int .u64 (n : Int)] w fun e w' => e = .returned (.bool (isNaN n)) ∧ w = w' := by
  have A1 := and_mod (n / 2 ^ 52) 11 (by omega) (by omega)
  have A2 := and_mod n 52 (by omega) (by omega)
  have E : Hid (isNaN n = (((n / 2 ^ 52 % 2 ^ 11 : Nat) : Int) == 2047 && ((n % 2 ^ 52 : Nat) : Int) != 0)) := by
    rw [Hid, isNaN, Bool.eq_iff_iff]
    simp only [Bool.and_eq_true, beq_iff_eq, bne_iff_ne]
    omega
  simp only [Nat.reducePow, Nat.reduceSub] at A1 A2 E
  rw [Int.natCast_ediv] at A1
  have HN := Lib.hid hn
  have HA1 := Lib.hid A1
  have HA2 := Lib.hid A2
  clear hn A1 A2
  go_enter Tryd.func89, Tryd.ntmps89
  go_wp2_with fail
  all_goals
    go_ret
    refine ⟨?_, rfl⟩
    have A1 := HA1.out
    have A2 := HA2.out
    have E' := E.out
    show Ending.returned (Value.bool _) = _
    clear E HA1 HA2 HN
    simp_all

set_option maxRecDepth 100000 in
set_option maxHeartbeats 3200000 in
theorem ref_Narrow16 (n : Nat) (hn : n < 18446744073709551616) (w : World) :
    Calls Tryd.prog 90 #[.int .u64 (n : Int), .int .i64 5, .int .i64 10] w
      fun e w' => (∃ v : Nat, e = .returned (.tuple #[.int .u64 (v : Int), .bool (narrow n 5 10).isSome]) ∧ ∀ x, narrow n 5 10 = some x → v = x) ∧ w = w' := by
  have A1 := and_mod (n / 2 ^ 52) 11 (by omega) (by omega)
  have A2 := and_mod n 52 (by omega) (by omega)
  simp only [Nat.reducePow, Nat.reduceSub] at A1 A2
  rw [Int.natCast_ediv] at A1
  obtain ⟨ex, hex⟩ : ∃ ex, n / 4503599627370496 % 2048 = ex := ⟨_, rfl⟩
  obtain ⟨mx, hmx⟩ : ∃ mx, n % 4503599627370496 = mx := ⟨_, rfl⟩
  obtain ⟨sg, hsg⟩ : ∃ sg, n / 9223372036854775808 = sg := ⟨_, rfl⟩
  have hs1 : sg ≤ 1 := by omega
  have E : Hid (narrow n 5 10 = if ex = 2047 then (if mx = 0 then some (sg * 32768 + 31744) else none) else if ex = 0 then (if mx = 0 then some (sg * 32768) else none)
      else if 1023 + 31 ≤ ex + 15 then none else if 1023 < ex + 15 then (if mx % 4398046511104 = 0 then some (sg * 32768 + (ex + 15 - 1023) * 1024 + mx / 4398046511104) else none)
      else if 52 < 43 + (1023 - ex - 15) then none else if (mx + 4503599627370496) % 2 ^ (43 + (1023 - ex - 15)) = 0 then some (sg * 32768 + (mx + 4503599627370496) / 2 ^ (43 + (1023 - ex - 15))) else none) := by
    rw [Hid, narrow]
    simp only [Nat.reducePow, Nat.reduceSub, Nat.reduceAdd, Nat.reduceMul, hex, hmx, hsg]
  rw [hex] at A1
  rw [hmx] at A2
  have he1 : ex < 2048 := by omega
  have hm1 : mx < 4503599627370496 := by omega
  have A1' : bits .and .u64 ((n : Int) / 4503599627370496) 2047 = (ex : Int) := A1
  have A2' : bits .and .u64 (n : Int) 4503599627370495 = (mx : Int) := A2
  have K1 : IntKind.i64.wrap (ex : Int) = (ex : Int) := IntWalk.i64_in _ (by omega)
  have KS : Hid (IntKind.u64.wrap ((n : Int) / 9223372036854775808 * 32768) = ((sg * 2 ^ 15 : Nat) : Int)) := by
    rw [Hid, IntWalk.u64_in _ (by omega)]
    omega
  clear hn hex hmx hsg A1 A2
  go_enter Tryd.func90, Tryd.ntmps90
  go_wp2_with fail
  · have h1 : ex = 2047 := by
      have h : ((ex : Int) == 2047) = true := by assumption
      rw [beq_iff_eq] at h
      omega
    go_ret2
    have hor := or_add sg 15 31744 (by omega) (by omega)
    refine ⟨⟨sg * 32768 + 31744, ?_, ?_⟩, rfl⟩
    · show Ending.returned (Value.tuple #[Value.int .u64 _, Value.bool _]) = _
      rw [KS.out, E.out, if_pos h1]
      rw [show (31744 : Int) = ((31744 : Nat) : Int) from rfl, hor]
      by_cases h : mx = 0 <;> simp [h]
    · intro x hx
      rw [E.out, if_pos h1] at hx
      split at hx
      · injection hx
      · cases hx
  · have h1 : ¬ ex = 2047 := by
      have h : ((ex : Int) == 2047) = false := by assumption
      rw [beq_eq_false_iff_ne] at h
      omega
    have h2 : ex = 0 := by
      have h : ((ex : Int) == 0) = true := by assumption
      rw [beq_iff_eq] at h
      omega
    go_ret2
    refine ⟨⟨sg * 32768, ?_, ?_⟩, rfl⟩
    · show Ending.returned (Value.tuple #[Value.int .u64 _, Value.bool _]) = _
      rw [KS.out, E.out, if_neg h1, if_pos h2]
      by_cases h : mx = 0 <;> simp [h]
    · intro x hx
      rw [E.out, if_neg h1, if_pos h2] at hx
      split at hx
      · injection hx
      · cases hx
  all_goals
    have h1 : ¬ ex = 2047 := by
      have h : ((ex : Int) == 2047) = false := by assumption
      rw [beq_eq_false_iff_ne] at h
      omega
    have h2 : ¬ ex = 0 := by
      have h : ((ex : Int) == 0) = false := by assumption
      rw [beq_eq_false_iff_ne] at h
      omega
    rw [if_neg h1, if_neg h2] at E
  · have h3 : 1023 + 31 ≤ ex + 15 := by omega
    go_ret2
    refine ⟨⟨0, ?_, ?_⟩, rfl⟩
    · rw [E.out, if_pos h3]
      rfl
    · intro x hx
      rw [E.out, if_pos h3] at hx
      cases hx
  · have h3 : ¬ 1023 + 31 ≤ ex + 15 := by omega
    have h4 : 1023 < ex + 15 := by omega
    obtain ⟨q, hq⟩ : ∃ q, ex + 15 - 1023 = q := ⟨_, rfl⟩
    have hqi : ((ex : Int) - 1023 + 15) * 1024 = ((q * 1024 : Nat) : Int) := by omega
    have hmi : (mx : Int) / 4398046511104 = ((mx / 4398046511104 : Nat) : Int) := by omega
    have ha := and_mod mx 42 (by omega) (by omega)
    simp only [Nat.reducePow, Nat.reduceSub] at ha
    have ho1 := or_add sg 15 (q * 1024) (by omega) (by omega)
    have ho2 := or_add (sg * 2 ^ 5 + q) 10 (mx / 4398046511104) (by omega) (by omega)
    rw [show (sg * 2 ^ 5 + q) * 2 ^ 10 = sg * 2 ^ 15 + q * 1024 by omega] at ho2
    go_ret2
    refine ⟨⟨sg * 32768 + q * 1024 + mx / 4398046511104, ?_, ?_⟩, rfl⟩
    · show Ending.returned (Value.tuple #[Value.int .u64 _, Value.bool _]) = _
      rw [KS.out, E.out, if_neg h3, if_pos h4, hqi, hmi, ho1, ho2]
      have ha' : bits .and .u64 (mx : Int) 4398046511103 = ((mx % 4398046511104 : Nat) : Int) := ha
      rw [ha']
      by_cases h : mx % 4398046511104 = 0
      · rw [if_pos h, h]; rfl
      · rw [if_neg h]
        have : (((mx % 4398046511104 : Nat) : Int) == 0) = false := by rw [beq_eq_false_iff_ne]; omega
        rw [this]; rfl
    · intro x hx
      rw [E.out, if_neg h3, if_pos h4, hq] at hx
      split at hx
      · injection hx
      · cases hx
  · have h5 : 52 < 43 + (1023 - ex - 15) := by omega
    have h3 : ¬ 1023 + 31 ≤ ex + 15 := by omega
    have h4 : ¬ 1023 < ex + 15 := by omega
    go_ret2
    refine ⟨⟨0, ?_, ?_⟩, rfl⟩
    · rw [E.out, if_neg h3, if_neg h4, if_pos h5]
      rfl
    · intro x hx
      rw [E.out, if_neg h3, if_neg h4, if_pos h5] at hx
      cases hx
  · have h3 : ¬ 1023 + 31 ≤ ex + 15 := by omega
    have h4 : ¬ 1023 < ex + 15 := by omega
    have h5 : ¬ 52 < 43 + (1023 - ex - 15) := by omega
    obtain ⟨sh, hsh⟩ : ∃ sh, 43 + (1023 - ex - 15) = sh := ⟨_, rfl⟩
    have hsi : (43 - ((ex : Int) - 1023 + 15)).toNat = sh := by omega
    obtain ⟨full, hfull⟩ : ∃ full, mx + 4503599627370496 = full := ⟨_, rfl⟩
    have hof : bits .or .u64 (mx : Int) 4503599627370496 = (full : Int) := by
      have := or_low mx 52 (by omega) (by omega)
      simp only [Nat.reducePow] at this
      rw [← hfull]
      exact this
    have hw : IntKind.u64.wrap (IntKind.u64.wrap ((2 : Int) ^ sh) - 1) = ((2 ^ sh - 1 : Nat) : Int) := pow_mask sh (by omega)
    have hdv : (full : Int) / 2 ^ sh = ((full / 2 ^ sh : Nat) : Int) := by
      rw [Int.natCast_ediv, Int.natCast_pow]; rfl
    have hlt : full / 2 ^ sh < 2 ^ 15 := by
      apply Nat.div_lt_of_lt_mul
      have : 2 ^ 43 ≤ 2 ^ sh := Nat.pow_le_pow_right (by omega) (by omega)
      have h2 : 2 ^ 43 * 2 ^ 15 ≤ 2 ^ sh * 2 ^ 15 := Nat.mul_le_mul_right _ this
      simp only [Nat.reducePow, Nat.reduceMul] at h2 ⊢
      omega
    have ho := or_add sg 15 (full / 2 ^ sh) hlt (by simp only [Nat.reducePow] at hlt ⊢; omega)
    have ha := and_mod full sh (by omega) (by omega)
    go_ret2
    refine ⟨⟨sg * 32768 + full / 2 ^ sh, ?_, ?_⟩, rfl⟩
    · show Ending.returned (Value.tuple #[Value.int .u64 _, Value.bool _]) = _
      rw [KS.out, E.out, if_neg h3, if_neg h4, if_neg h5, hsi, hof, hw, ha, hdv, ho, hsh, hfull]
      by_cases h : full % 2 ^ sh = 0
      · rw [if_pos h, h]; rfl
      · rw [if_neg h]
        have : (((full % 2 ^ sh : Nat) : Int) == 0) = false := by rw [beq_eq_false_iff_ne]; omega
        rw [this]; rfl
    · intro x hx
      rw [E.out, if_neg h3, if_neg h4, if_neg h5, hsh, hfull] at hx
      split at hx
      · injection hx
      · cases hx
set_option maxRecDepth 100000 in
set_option maxHeartbeats 3200000 in
theorem ref_Narrow32 (n : Nat) (hn : n < 18446744073709551616) (w : World) :
    Calls Tryd.prog 90 #[.int .u64 (n : Int), .int .i64 8, .int .i64 23] w
      fun e w' => (∃ v : Nat, e = .returned (.tuple #[.int .u64 (v : Int), .bool (narrow n 8 23).isSome]) ∧ ∀ x, narrow n 8 23 = some x → v = x) ∧ w = w' := by
  have A1 := and_mod (n / 2 ^ 52) 11 (by omega) (by omega)
  have A2 := and_mod n 52 (by omega) (by omega)
  simp only [Nat.reducePow, Nat.reduceSub] at A1 A2
  rw [Int.natCast_ediv] at A1
  obtain ⟨ex, hex⟩ : ∃ ex, n / 4503599627370496 % 2048 = ex := ⟨_, rfl⟩
  obtain ⟨mx, hmx⟩ : ∃ mx, n % 4503599627370496 = mx := ⟨_, rfl⟩
  obtain ⟨sg, hsg⟩ : ∃ sg, n / 9223372036854775808 = sg := ⟨_, rfl⟩
  have hs1 : sg ≤ 1 := by omega
  have E : Hid (narrow n 8 23 = if ex = 2047 then (if mx = 0 then some (sg * 2147483648 + 2139095040) else none) else if ex = 0 then (if mx = 0 then some (sg * 2147483648) else none)
      else if 1023 + 255 ≤ ex + 127 then none else if 1023 < ex + 127 then (if mx % 536870912 = 0 then some (sg * 2147483648 + (ex + 127 - 1023) * 8388608 + mx / 536870912) else none)
      else if 52 < 30 + (1023 - ex - 127) then none else if (mx + 4503599627370496) % 2 ^ (30 + (1023 - ex - 127)) = 0 then some (sg * 2147483648 + (mx + 4503599627370496) / 2 ^ (30 + (1023 - ex - 127))) else none) := by
    rw [Hid, narrow]
    simp only [Nat.reducePow, Nat.reduceSub, Nat.reduceAdd, Nat.reduceMul, hex, hmx, hsg]
  rw [hex] at A1
  rw [hmx] at A2
  have he1 : ex < 2048 := by omega
  have hm1 : mx < 4503599627370496 := by omega
  have A1' : bits .and .u64 ((n : Int) / 4503599627370496) 2047 = (ex : Int) := A1
  have A2' : bits .and .u64 (n : Int) 4503599627370495 = (mx : Int) := A2
  have K1 : IntKind.i64.wrap (ex : Int) = (ex : Int) := IntWalk.i64_in _ (by omega)
  have KS : Hid (IntKind.u64.wrap ((n : Int) / 9223372036854775808 * 2147483648) = ((sg * 2 ^ 31 : Nat) : Int)) := by
    rw [Hid, IntWalk.u64_in _ (by omega)]
    omega
  clear hn hex hmx hsg A1 A2
  go_enter Tryd.func90, Tryd.ntmps90
  go_wp2_with fail
  · have h1 : ex = 2047 := by
      have h : ((ex : Int) == 2047) = true := by assumption
      rw [beq_iff_eq] at h
      omega
    go_ret2
    have hor := or_add sg 31 2139095040 (by omega) (by omega)
    refine ⟨⟨sg * 2147483648 + 2139095040, ?_, ?_⟩, rfl⟩
    · show Ending.returned (Value.tuple #[Value.int .u64 _, Value.bool _]) = _
      rw [KS.out, E.out, if_pos h1]
      rw [show (2139095040 : Int) = ((2139095040 : Nat) : Int) from rfl, hor]
      by_cases h : mx = 0 <;> simp [h]
    · intro x hx
      rw [E.out, if_pos h1] at hx
      split at hx
      · injection hx
      · cases hx
  · have h1 : ¬ ex = 2047 := by
      have h : ((ex : Int) == 2047) = false := by assumption
      rw [beq_eq_false_iff_ne] at h
      omega
    have h2 : ex = 0 := by
      have h : ((ex : Int) == 0) = true := by assumption
      rw [beq_iff_eq] at h
      omega
    go_ret2
    refine ⟨⟨sg * 2147483648, ?_, ?_⟩, rfl⟩
    · show Ending.returned (Value.tuple #[Value.int .u64 _, Value.bool _]) = _
      rw [KS.out, E.out, if_neg h1, if_pos h2]
      by_cases h : mx = 0 <;> simp [h]
    · intro x hx
      rw [E.out, if_neg h1, if_pos h2] at hx
      split at hx
      · injection hx
      · cases hx
  all_goals
    have h1 : ¬ ex = 2047 := by
      have h : ((ex : Int) == 2047) = false := by assumption
      rw [beq_eq_false_iff_ne] at h
      omega
    have h2 : ¬ ex = 0 := by
      have h : ((ex : Int) == 0) = false := by assumption
      rw [beq_eq_false_iff_ne] at h
      omega
    rw [if_neg h1, if_neg h2] at E
  · have h3 : 1023 + 255 ≤ ex + 127 := by omega
    go_ret2
    refine ⟨⟨0, ?_, ?_⟩, rfl⟩
    · rw [E.out, if_pos h3]
      rfl
    · intro x hx
      rw [E.out, if_pos h3] at hx
      cases hx
  · have h3 : ¬ 1023 + 255 ≤ ex + 127 := by omega
    have h4 : 1023 < ex + 127 := by omega
    obtain ⟨q, hq⟩ : ∃ q, ex + 127 - 1023 = q := ⟨_, rfl⟩
    have hqi : ((ex : Int) - 1023 + 127) * 8388608 = ((q * 8388608 : Nat) : Int) := by omega
    have hmi : (mx : Int) / 536870912 = ((mx / 536870912 : Nat) : Int) := by omega
    have ha := and_mod mx 29 (by omega) (by omega)
    simp only [Nat.reducePow, Nat.reduceSub] at ha
    have ho1 := or_add sg 31 (q * 8388608) (by omega) (by omega)
    have ho2 := or_add (sg * 2 ^ 8 + q) 23 (mx / 536870912) (by omega) (by omega)
    rw [show (sg * 2 ^ 8 + q) * 2 ^ 23 = sg * 2 ^ 31 + q * 8388608 by omega] at ho2
    go_ret2
    refine ⟨⟨sg * 2147483648 + q * 8388608 + mx / 536870912, ?_, ?_⟩, rfl⟩
    · show Ending.returned (Value.tuple #[Value.int .u64 _, Value.bool _]) = _
      rw [KS.out, E.out, if_neg h3, if_pos h4, hqi, hmi, ho1, ho2]
      have ha' : bits .and .u64 (mx : Int) 536870911 = ((mx % 536870912 : Nat) : Int) := ha
      rw [ha']
      by_cases h : mx % 536870912 = 0
      · rw [if_pos h, h]; rfl
      · rw [if_neg h]
        have : (((mx % 536870912 : Nat) : Int) == 0) = false := by rw [beq_eq_false_iff_ne]; omega
        rw [this]; rfl
    · intro x hx
      rw [E.out, if_neg h3, if_pos h4, hq] at hx
      split at hx
      · injection hx
      · cases hx
  · have h5 : 52 < 30 + (1023 - ex - 127) := by omega
    have h3 : ¬ 1023 + 255 ≤ ex + 127 := by omega
    have h4 : ¬ 1023 < ex + 127 := by omega
    go_ret2
    refine ⟨⟨0, ?_, ?_⟩, rfl⟩
    · rw [E.out, if_neg h3, if_neg h4, if_pos h5]
      rfl
    · intro x hx
      rw [E.out, if_neg h3, if_neg h4, if_pos h5] at hx
      cases hx
  · have h3 : ¬ 1023 + 255 ≤ ex + 127 := by omega
    have h4 : ¬ 1023 < ex + 127 := by omega
    have h5 : ¬ 52 < 30 + (1023 - ex - 127) := by omega
    obtain ⟨sh, hsh⟩ : ∃ sh, 30 + (1023 - ex - 127) = sh := ⟨_, rfl⟩
    have hsi : (30 - ((ex : Int) - 1023 + 127)).toNat = sh := by omega
    obtain ⟨full, hfull⟩ : ∃ full, mx + 4503599627370496 = full := ⟨_, rfl⟩
    have hof : bits .or .u64 (mx : Int) 4503599627370496 = (full : Int) := by
      have := or_low mx 52 (by omega) (by omega)
      simp only [Nat.reducePow] at this
      rw [← hfull]
      exact this
    have hw : IntKind.u64.wrap (IntKind.u64.wrap ((2 : Int) ^ sh) - 1) = ((2 ^ sh - 1 : Nat) : Int) := pow_mask sh (by omega)
    have hdv : (full : Int) / 2 ^ sh = ((full / 2 ^ sh : Nat) : Int) := by
      rw [Int.natCast_ediv, Int.natCast_pow]; rfl
    have hlt : full / 2 ^ sh < 2 ^ 31 := by
      apply Nat.div_lt_of_lt_mul
      have : 2 ^ 30 ≤ 2 ^ sh := Nat.pow_le_pow_right (by omega) (by omega)
      have h2 : 2 ^ 30 * 2 ^ 31 ≤ 2 ^ sh * 2 ^ 31 := Nat.mul_le_mul_right _ this
      simp only [Nat.reducePow, Nat.reduceMul] at h2 ⊢
      omega
    have ho := or_add sg 31 (full / 2 ^ sh) hlt (by simp only [Nat.reducePow] at hlt ⊢; omega)
    have ha := and_mod full sh (by omega) (by omega)
    go_ret2
    refine ⟨⟨sg * 2147483648 + full / 2 ^ sh, ?_, ?_⟩, rfl⟩
    · show Ending.returned (Value.tuple #[Value.int .u64 _, Value.bool _]) = _
      rw [KS.out, E.out, if_neg h3, if_neg h4, if_neg h5, hsi, hof, hw, ha, hdv, ho, hsh, hfull]
      by_cases h : full % 2 ^ sh = 0
      · rw [if_pos h, h]; rfl
      · rw [if_neg h]
        have : (((full % 2 ^ sh : Nat) : Int) == 0) = false := by rw [beq_eq_false_iff_ne]; omega
        rw [this]; rfl
    · intro x hx
      rw [E.out, if_neg h3, if_neg h4, if_neg h5, hsh, hfull] at hx
      split at hx
      · injection hx
      · cases hx
end Go.Proofs.YtebcnkelbicbnaaDoor
