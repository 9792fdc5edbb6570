/- squeezed. Walks: the program's parser: heads -/
import Derived.Test.YtlebpackbfcfeaaDoorK17
import Derived.Test.YtlebpackbfcfeaaDoorK01
set_option linter.unusedVariables false
set_option linter.unusedSimpArgs false
set_option maxRecDepth 100000
set_option maxHeartbeats 6400000
namespace Go.Proofs.YtlebpackbfcfeaaDoor
open Go.RowKit
def HeadSaid (T : TypeId) (w : World) (g : Nat) (A : Option Addr) (c : Nat) (l : List UInt8) (p cnt : Nat) (e : Ending) (w' : World) : Prop :=
 match headP (l.drop p) with
 | .error q => e = .returned (.tuple #[.int .u8 0, .int .u64 0, .int .i64 (q : Int)]) ∧ (∃ p', p' ≤ l.length ∧ Blk w' g T (psrC A l.length c p' cnt)) ∧ w.grownBy w' (some g)
 | .ok (f, n, k) => e = .returned (.tuple #[.int .u8 (f : Int), .int .u64 (n : Int), .int .i64 0]) ∧ Blk w' g T (psrC A l.length c (p + k) cnt) ∧ w.grownBy w' (some g)
theorem HeadSaid.err {T : TypeId} {w w' : World} {g : Nat} {A : Option Addr} {c : Nat} {l : List UInt8} {p cnt : Nat} {e : Ending} {q : Nat} (h : headP (l.drop p) = .error q) (he : e = .returned (.tuple #[.int .u8 0, .int .u64 0, .int .i64 (q : Int)]))
  (p' : Nat) (hp : p' ≤ l.length) (hb : Blk w' g T (psrC A l.length c p' cnt)) (hg : w.grownBy w' (some g)) : HeadSaid T w g A c l p cnt e w' := by
 rw [HeadSaid, h]; exact ⟨he, ⟨p', hp, hb⟩, hg⟩
theorem HeadSaid.ok {T : TypeId} {w w' : World} {g : Nat} {A : Option Addr} {c : Nat} {l : List UInt8} {p cnt : Nat} {e : Ending} {f n k : Nat} (h : headP (l.drop p) = .ok (f, n, k)) (he : e = .returned (.tuple #[.int .u8 (f : Int), .int .u64 (n : Int), .int .i64 0]))
  (hb : Blk w' g T (psrC A l.length c (p + k) cnt)) (hg : w.grownBy w' (some g)) : HeadSaid T w g A c l p cnt e w' := by
 rw [HeadSaid, h]; exact ⟨he, hb, hg⟩
theorem and31 : ∀ X : Fin 256, bits .and .u8 ((X.val : Nat) : Int) 31 = ((X.val % 32 : Nat) : Int) := by decide
theorem drop_cons {l : List UInt8} {p : Nat} (hp : p < l.length) : l.drop p = l[p] :: l.drop (p + 1) := List.drop_eq_getElem_cons hp
theorem p_head {w : World} {g : Nat} {H : Snap} {A : Option Addr} {c : Nat} {l : List UInt8} {p cnt : Nat} (hP : Psr 110 w g H A c l p cnt) :
  Calls Tryd.prog 84 #[.pointer (some ⟨g, 0, none⟩)] w (HeadSaid 110 w g A c l p cnt) := by
 have hB := hP.blk
 have c0 := hB.cell 0 rfl
 have c1 := hB.cell 1 rfl
 have hpl := hP.le
 have hsm := hP.small
 have hcl := hP.bytes.le
 have hcm := hP.bytes.max
 have HP := Hh hP
 by_cases hlt : p = l.length
 ·have E : Hid (headP (l.drop p) = .error 2) := by rw [Hid, hlt, List.drop_length]; rfl
  have z0 : ((p : Int) == (l.length : Int)) = true := by simp [hlt]
  have HL := Hh hpl
  clear hpl hsm hcl hcm hP hlt
  go_enter Tryd.func84, Tryd.ntmps84
  go_wp2_with fail
  go_big_quiet (fail)
  go_wp2_with fail
  go_ret3
  exact HeadSaid.err E.out rfl p HL.out hB (grown_drewN (grown_refl w _) _)
 ·have z0 : ((p : Int) == (l.length : Int)) = false := by simp; omega
  have hp2 : p < l.length := by omega
  have hpi : (p : Int) < (l.length : Int) := by omega
  have hp0 : (0 : Int) ≤ (p : Int) := by omega
  have hpm : (p : Int) + 1 ≤ 9223372036854775807 := by omega
  obtain ⟨b, off, rfl, hcell⟩ := hP.bytes.at_ (by omega)
  have HC := Hh hcell
  have HH := Hh hP.holds
  have q0 := hP.holds.cell (hcell p hp2)
  have ED := Hh (drop_cons hp2)
  obtain ⟨ch, hch⟩ : ∃ ch, l[p] = ch := ⟨_, rfl⟩
  rw [hch] at q0 ED
  have lc := ch.toNat_lt
  have KA := and31 ⟨ch.toNat, lc⟩
  simp only at KA
  obtain ⟨low, hlow⟩ : ∃ low, ch.toNat % 32 = low := ⟨_, rfl⟩
  rw [hlow] at KA
  have HLOW := Hh hlow
  have hl32 : low < 32 := by omega
  have HL := Hh (And.intro hp2 (And.intro hsm (And.intro hcl hcm)))
  have EH : Hid (headP (l.drop p) = if 27 < low then .error 3 else if low < 24 then .ok (ch.toNat, low, 1) else if (l.drop (p + 1)).length < 2 ^ (low - 24) then .error 2
    else if ch.toNat / 32 < 7 ∧ (headB 0 (beN ((l.drop (p + 1)).take (2 ^ (low - 24))))).length ≠ 1 + 2 ^ (low - 24) then .error 4
    else .ok (ch.toNat, beN ((l.drop (p + 1)).take (2 ^ (low - 24))), 1 + 2 ^ (low - 24))) := by rw [Hid, ED.out, headP, hlow]
  clear hpl hsm hcl hcm hP hlt hcell hch hlow hp2 ED lc
  go_enter Tryd.func84, Tryd.ntmps84
  go_wp2_with fail
  go_big_quiet (fail)
  obtain ⟨w1, hw1⟩ : ∃ W, w.drewN nq = W := ⟨_, rfl⟩
  have hB1 : Blk w1 g 110 (psrC (some ⟨b, off, none⟩) l.length c p cnt) := hw1 ▸ hB
  have hG1 : w.grownBy w1 (some g) := hw1 ▸ grown_drewN (grown_refl w _) _
  have hH1 : Holds w1 H := hw1 ▸ HH.out
  have q1 : w1.cell? ⟨b, off + p, none⟩ = some (byteV ch) := hw1 ▸ q0
  rw [hw1]
  clear hw1 c0 c1 q0 hB
  have c0 := hB1.cell 0 rfl
  have c1 := hB1.cell 1 rfl
  go_upto_region 3 with fail
  go_big_quiet (fail)
  obtain ⟨w2, hw2⟩ : ∃ W, w1.drewN nq = W := ⟨_, rfl⟩
  have hB2 : Blk w2 g 110 (psrC (some ⟨b, off, none⟩) l.length c p cnt) := hw2 ▸ hB1
  have hG2 : w.grownBy w2 (some g) := hw2 ▸ grown_drewN hG1 _
  have hH2 : Holds w2 H := hw2 ▸ hH1
  rw [hw2]
  clear hw2 c0 c1 hB1 hG1 hH1 q1
  have c1 := hB2.cell 1 rfl
  by_cases h27 : 27 < low
  ·have z27 : (27 : Int) < (low : Int) := by omega
   have E : Hid (headP (l.drop p) = .error 3) := by rw [Hid, EH.out, if_pos h27]
   go_wp2_with fail
   go_ret3
   exact HeadSaid.err E.out rfl p (Nat.le_of_lt HL.out.1) hB2 hG2
  have z27 : ¬ ((27 : Int) < (low : Int)) := by omega
  have E1 : Hid (headP (l.drop p) = if low < 24 then .ok (ch.toNat, low, 1) else if (l.drop (p + 1)).length < 2 ^ (low - 24) then .error 2
    else if ch.toNat / 32 < 7 ∧ (headB 0 (beN ((l.drop (p + 1)).take (2 ^ (low - 24))))).length ≠ 1 + 2 ^ (low - 24) then .error 4
    else .ok (ch.toNat, beN ((l.drop (p + 1)).take (2 ^ (low - 24))), 1 + 2 ^ (low - 24))) := by rw [Hid, EH.out, if_neg h27]
  clear EH
  have K1 : IntKind.i64.wrap ((p : Int) + 1) = (p : Int) + 1 := IntWalk.i64_in _ (by omega)
  go_wp2_with (with_reducible refine stop_store ?_)
  unfold Stopped
  refine wpList_store_cell rfl _ _ _ rfl rfl g 1 (.int .i64 ((p : Int) + 1)) rfl rfl _ _ hB2 size_int1 (by simp) rfl fun w3 hB3 hG3' => ?_
  have hG3 := grown_step hG2 hG3' (.inl rfl)
  have hB3 : Blk w3 g 110 (psrC (some ⟨b, off, none⟩) l.length c (p + 1) cnt) := hB3
  have hH3 : Holds w3 H := hH2.grown hG3' (by rintro q ⟨⟩; exact HP.out.apart)
  clear hB2 hG2 hG3' c1 hH2 K1
  by_cases h24 : low < 24
  ·have z24 : (low : Int) < 24 := by omega
   have E : Hid (headP (l.drop p) = .ok (ch.toNat, low, 1)) := by rw [Hid, E1.out, if_pos h24]
   have KU : IntKind.u64.wrap (low : Int) = (low : Int) := by rw [IntKind.wrap_u64]; omega
   go_wp2_with fail
   go_ret3
   exact HeadSaid.ok E.out rfl hB3 hG3
  have z24 : ¬ ((low : Int) < 24) := by omega
  have E2 : Hid (headP (l.drop p) = if (l.drop (p + 1)).length < 2 ^ (low - 24) then .error 2
    else if ch.toNat / 32 < 7 ∧ (headB 0 (beN ((l.drop (p + 1)).take (2 ^ (low - 24))))).length ≠ 1 + 2 ^ (low - 24) then .error 4
    else .ok (ch.toNat, beN ((l.drop (p + 1)).take (2 ^ (low - 24))), 1 + 2 ^ (low - 24))) := by rw [Hid, E1.out, if_neg h24]
  clear E1
  have hP3 : Psr 110 w3 g H (some ⟨b, off, none⟩) c l (p + 1) cnt := ⟨hB3, HP.out.bytes, hH3, HP.out.apart, HL.out.1, HP.out.small, HP.out.cnt_le⟩
  rcases (by omega : low = 24 ∨ low = 25 ∨ low = 26 ∨ low = 27) with rfl | rfl | rfl | rfl
  ·have NM := Hh (p_number hP3 1 (by omega) (by omega))
   simp only [Nat.reduceSub, Nat.reducePow, Nat.reduceAdd] at E2
   clear h27 h24 z27 z24 hl32 hP3
   go_wp2_with fail
   refine NM.out.mono ?_
   rintro e w4 (⟨hs, rfl, hB4, hG4⟩ | ⟨hs, rfl, hB4, hG4⟩)
   ·have E : Hid (headP (l.drop p) = .error 2) := by rw [Hid, E2.out, if_pos (by rw [List.length_drop]; have := HL.out.1; omega)]
    have hG5 := grown_step hG3 hG4 (.inl rfl)
    clear NM hs
    go_wp2_with fail
    go_ret3
    exact HeadSaid.err E.out rfl (p + 1) HL.out.1 hB4 hG5
   ·have E3 : Hid (headP (l.drop p) = if ch.toNat / 32 < 7 ∧ (headB 0 (beN ((l.drop (p + 1)).take 1))).length ≠ 2 then .error 4 else .ok (ch.toNat, beN ((l.drop (p + 1)).take 1), 2)) := by
     rw [Hid, E2.out, if_neg (by rw [List.length_drop]; have := HL.out.1; omega)]
    have hG5 := grown_step hG3 hG4 (.inl rfl)
    have hnb := beN_lt ((l.drop (p + 1)).take 1)
    have hnl : ((l.drop (p + 1)).take 1).length = 1 := by rw [List.length_take, List.length_drop]; omega
    rw [hnl] at hnb
    simp only [Nat.reducePow] at hnb
    obtain ⟨n, hn⟩ : ∃ n, beN ((l.drop (p + 1)).take 1) = n := ⟨_, rfl⟩
    rw [hn] at E3 hnb ⊢
    have HD := Hh (fun w => cbor_head 0 (n : Int) w (by omega) (by omega) (by omega) (by omega))
    have HS := Hh hs
    have hB5 : Blk w4 g 110 (psrC (some ⟨b, off, none⟩) l.length c (p + 2) cnt) := hB4
    clear NM hs E2 hn hnl hnb hB4 hG4
    by_cases h7 : ch.toNat / 32 < 7
    ·have z7 : (ch.toNat : Int) / 32 < 7 := by omega
     have E4 : Hid (headP (l.drop p) = if (headB 0 n).length ≠ 2 then .error 4 else .ok (ch.toNat, n, 2)) := by
      rw [Hid, E3.out]
      by_cases h : (headB 0 n).length = 2 <;> simp [h, h7]
     clear E3 h7
     go_wp2_with fail
     refine (HD.out _).mono ?_
     rintro e w5 ⟨r, rfl, hf⟩
     have hB6 := hB5.below hf.2
     have hG6 := grown_below hG5 hf.2
     obtain ⟨RA, rc, rfl, _⟩ := hf.own.form
     obtain ⟨hn, hhn⟩ : ∃ hn, (headB (0 : Int).toNat (n : Int).toNat).length = hn := ⟨_, rfl⟩
     rw [hhn]
     have E5 : Hid (headP (l.drop p) = if hn ≠ 2 then .error 4 else .ok (ch.toNat, n, 2)) := by rw [Hid, E4.out, ← hhn]; rfl
     clear hf HD E4 hhn hB5 hG5
     by_cases hq : hn = 2
     ·subst hq
      have E : Hid (headP (l.drop p) = .ok (ch.toNat, n, 2)) := by rw [Hid, E5.out, if_neg (by simp)]
      clear E5
      go_wp2_with fail
      go_ret3
      exact HeadSaid.ok E.out rfl hB6 hG6
     ·have zq : ((hn : Int) == 2) = false := by simp; omega
      have zq2 : ((hn : Int) = 2) = False := eq_false (by omega)
      have E : Hid (headP (l.drop p) = .error 4) := by rw [Hid, E5.out, if_pos hq]
      clear E5 hq z0 hpm hpi hp0 KA
      go_wp2_with fail
      go_ret3
      exact HeadSaid.err E.out rfl (p + 2) (by have := HS.out; omega) hB6 hG6
    ·have z7 : ¬ ((ch.toNat : Int) / 32 < 7) := by omega
     have z7b : decide ((ch.toNat : Int) / 32 < 7) = false := decide_eq_false z7
     have E : Hid (headP (l.drop p) = .ok (ch.toNat, n, 2)) := by rw [Hid, E3.out, if_neg (fun h => h7 h.1)]
     clear E3 h7 HD z7 z0
     go_wp2_with fail
     go_ret3
     exact HeadSaid.ok E.out rfl hB5 hG5
  ·have NM := Hh (p_number hP3 2 (by omega) (by omega))
   simp only [Nat.reduceSub, Nat.reducePow, Nat.reduceAdd] at E2
   clear h27 h24 z27 z24 hl32 hP3
   go_wp2_with fail
   refine NM.out.mono ?_
   rintro e w4 (⟨hs, rfl, hB4, hG4⟩ | ⟨hs, rfl, hB4, hG4⟩)
   ·have E : Hid (headP (l.drop p) = .error 2) := by rw [Hid, E2.out, if_pos (by rw [List.length_drop]; have := HL.out.1; omega)]
    have hG5 := grown_step hG3 hG4 (.inl rfl)
    clear NM hs
    go_wp2_with fail
    go_ret3
    exact HeadSaid.err E.out rfl (p + 1) HL.out.1 hB4 hG5
   ·have E3 : Hid (headP (l.drop p) = if ch.toNat / 32 < 7 ∧ (headB 0 (beN ((l.drop (p + 1)).take 2))).length ≠ 3 then .error 4 else .ok (ch.toNat, beN ((l.drop (p + 1)).take 2), 3)) := by
     rw [Hid, E2.out, if_neg (by rw [List.length_drop]; have := HL.out.1; omega)]
    have hG5 := grown_step hG3 hG4 (.inl rfl)
    have hnb := beN_lt ((l.drop (p + 1)).take 2)
    have hnl : ((l.drop (p + 1)).take 2).length = 2 := by rw [List.length_take, List.length_drop]; omega
    rw [hnl] at hnb
    simp only [Nat.reducePow] at hnb
    obtain ⟨n, hn⟩ : ∃ n, beN ((l.drop (p + 1)).take 2) = n := ⟨_, rfl⟩
    rw [hn] at E3 hnb ⊢
    have HD := Hh (fun w => cbor_head 0 (n : Int) w (by omega) (by omega) (by omega) (by omega))
    have HS := Hh hs
    have hB5 : Blk w4 g 110 (psrC (some ⟨b, off, none⟩) l.length c (p + 3) cnt) := hB4
    clear NM hs E2 hn hnl hnb hB4 hG4
    by_cases h7 : ch.toNat / 32 < 7
    ·have z7 : (ch.toNat : Int) / 32 < 7 := by omega
     have E4 : Hid (headP (l.drop p) = if (headB 0 n).length ≠ 3 then .error 4 else .ok (ch.toNat, n, 3)) := by
      rw [Hid, E3.out]
      by_cases h : (headB 0 n).length = 3 <;> simp [h, h7]
     clear E3 h7
     go_wp2_with fail
     refine (HD.out _).mono ?_
     rintro e w5 ⟨r, rfl, hf⟩
     have hB6 := hB5.below hf.2
     have hG6 := grown_below hG5 hf.2
     obtain ⟨RA, rc, rfl, _⟩ := hf.own.form
     obtain ⟨hn, hhn⟩ : ∃ hn, (headB (0 : Int).toNat (n : Int).toNat).length = hn := ⟨_, rfl⟩
     rw [hhn]
     have E5 : Hid (headP (l.drop p) = if hn ≠ 3 then .error 4 else .ok (ch.toNat, n, 3)) := by rw [Hid, E4.out, ← hhn]; rfl
     clear hf HD E4 hhn hB5 hG5
     by_cases hq : hn = 3
     ·subst hq
      have E : Hid (headP (l.drop p) = .ok (ch.toNat, n, 3)) := by rw [Hid, E5.out, if_neg (by simp)]
      clear E5
      go_wp2_with fail
      go_ret3
      exact HeadSaid.ok E.out rfl hB6 hG6
     ·have zq : ((hn : Int) == 3) = false := by simp; omega
      have zq2 : ((hn : Int) = 3) = False := eq_false (by omega)
      have E : Hid (headP (l.drop p) = .error 4) := by rw [Hid, E5.out, if_pos hq]
      clear E5 hq z0 hpm hpi hp0 KA
      go_wp2_with fail
      go_ret3
      exact HeadSaid.err E.out rfl (p + 3) (by have := HS.out; omega) hB6 hG6
    ·have z7 : ¬ ((ch.toNat : Int) / 32 < 7) := by omega
     have z7b : decide ((ch.toNat : Int) / 32 < 7) = false := decide_eq_false z7
     have E : Hid (headP (l.drop p) = .ok (ch.toNat, n, 3)) := by rw [Hid, E3.out, if_neg (fun h => h7 h.1)]
     clear E3 h7 HD z7 z0
     go_wp2_with fail
     go_ret3
     exact HeadSaid.ok E.out rfl hB5 hG5
  ·have NM := Hh (p_number hP3 4 (by omega) (by omega))
   simp only [Nat.reduceSub, Nat.reducePow, Nat.reduceAdd] at E2
   clear h27 h24 z27 z24 hl32 hP3
   go_wp2_with fail
   refine NM.out.mono ?_
   rintro e w4 (⟨hs, rfl, hB4, hG4⟩ | ⟨hs, rfl, hB4, hG4⟩)
   ·have E : Hid (headP (l.drop p) = .error 2) := by rw [Hid, E2.out, if_pos (by rw [List.length_drop]; have := HL.out.1; omega)]
    have hG5 := grown_step hG3 hG4 (.inl rfl)
    clear NM hs
    go_wp2_with fail
    go_ret3
    exact HeadSaid.err E.out rfl (p + 1) HL.out.1 hB4 hG5
   ·have E3 : Hid (headP (l.drop p) = if ch.toNat / 32 < 7 ∧ (headB 0 (beN ((l.drop (p + 1)).take 4))).length ≠ 5 then .error 4 else .ok (ch.toNat, beN ((l.drop (p + 1)).take 4), 5)) := by
     rw [Hid, E2.out, if_neg (by rw [List.length_drop]; have := HL.out.1; omega)]
    have hG5 := grown_step hG3 hG4 (.inl rfl)
    have hnb := beN_lt ((l.drop (p + 1)).take 4)
    have hnl : ((l.drop (p + 1)).take 4).length = 4 := by rw [List.length_take, List.length_drop]; omega
    rw [hnl] at hnb
    simp only [Nat.reducePow] at hnb
    obtain ⟨n, hn⟩ : ∃ n, beN ((l.drop (p + 1)).take 4) = n := ⟨_, rfl⟩
    rw [hn] at E3 hnb ⊢
    have HD := Hh (fun w => cbor_head 0 (n : Int) w (by omega) (by omega) (by omega) (by omega))
    have HS := Hh hs
    have hB5 : Blk w4 g 110 (psrC (some ⟨b, off, none⟩) l.length c (p + 5) cnt) := hB4
    clear NM hs E2 hn hnl hnb hB4 hG4
    by_cases h7 : ch.toNat / 32 < 7
    ·have z7 : (ch.toNat : Int) / 32 < 7 := by omega
     have E4 : Hid (headP (l.drop p) = if (headB 0 n).length ≠ 5 then .error 4 else .ok (ch.toNat, n, 5)) := by
      rw [Hid, E3.out]
      by_cases h : (headB 0 n).length = 5 <;> simp [h, h7]
     clear E3 h7
     go_wp2_with fail
     refine (HD.out _).mono ?_
     rintro e w5 ⟨r, rfl, hf⟩
     have hB6 := hB5.below hf.2
     have hG6 := grown_below hG5 hf.2
     obtain ⟨RA, rc, rfl, _⟩ := hf.own.form
     obtain ⟨hn, hhn⟩ : ∃ hn, (headB (0 : Int).toNat (n : Int).toNat).length = hn := ⟨_, rfl⟩
     rw [hhn]
     have E5 : Hid (headP (l.drop p) = if hn ≠ 5 then .error 4 else .ok (ch.toNat, n, 5)) := by rw [Hid, E4.out, ← hhn]; rfl
     clear hf HD E4 hhn hB5 hG5
     by_cases hq : hn = 5
     ·subst hq
      have E : Hid (headP (l.drop p) = .ok (ch.toNat, n, 5)) := by rw [Hid, E5.out, if_neg (by simp)]
      clear E5
      go_wp2_with fail
      go_ret3
      exact HeadSaid.ok E.out rfl hB6 hG6
     ·have zq : ((hn : Int) == 5) = false := by simp; omega
      have zq2 : ((hn : Int) = 5) = False := eq_false (by omega)
      have E : Hid (headP (l.drop p) = .error 4) := by rw [Hid, E5.out, if_pos hq]
      clear E5 hq z0 hpm hpi hp0 KA
      go_wp2_with fail
      go_ret3
      exact HeadSaid.err E.out rfl (p + 5) (by have := HS.out; omega) hB6 hG6
    ·have z7 : ¬ ((ch.toNat : Int) / 32 < 7) := by omega
     have z7b : decide ((ch.toNat : Int) / 32 < 7) = false := decide_eq_false z7
     have E : Hid (headP (l.drop p) = .ok (ch.toNat, n, 5)) := by rw [Hid, E3.out, if_neg (fun h => h7 h.1)]
     clear E3 h7 HD z7 z0
     go_wp2_with fail
     go_ret3
     exact HeadSaid.ok E.out rfl hB5 hG5
  ·have NM := Hh (p_number hP3 8 (by omega) (by omega))
   simp only [Nat.reduceSub, Nat.reducePow, Nat.reduceAdd] at E2
   clear h27 h24 z27 z24 hl32 hP3
   go_wp2_with fail
   refine NM.out.mono ?_
   rintro e w4 (⟨hs, rfl, hB4, hG4⟩ | ⟨hs, rfl, hB4, hG4⟩)
   ·have E : Hid (headP (l.drop p) = .error 2) := by rw [Hid, E2.out, if_pos (by rw [List.length_drop]; have := HL.out.1; omega)]
    have hG5 := grown_step hG3 hG4 (.inl rfl)
    clear NM hs
    go_wp2_with fail
    go_ret3
    exact HeadSaid.err E.out rfl (p + 1) HL.out.1 hB4 hG5
   ·have E3 : Hid (headP (l.drop p) = if ch.toNat / 32 < 7 ∧ (headB 0 (beN ((l.drop (p + 1)).take 8))).length ≠ 9 then .error 4 else .ok (ch.toNat, beN ((l.drop (p + 1)).take 8), 9)) := by
     rw [Hid, E2.out, if_neg (by rw [List.length_drop]; have := HL.out.1; omega)]
    have hG5 := grown_step hG3 hG4 (.inl rfl)
    have hnb := beN_lt ((l.drop (p + 1)).take 8)
    have hnl : ((l.drop (p + 1)).take 8).length = 8 := by rw [List.length_take, List.length_drop]; omega
    rw [hnl] at hnb
    simp only [Nat.reducePow] at hnb
    obtain ⟨n, hn⟩ : ∃ n, beN ((l.drop (p + 1)).take 8) = n := ⟨_, rfl⟩
    rw [hn] at E3 hnb ⊢
    have HD := Hh (fun w => cbor_head 0 (n : Int) w (by omega) (by omega) (by omega) (by omega))
    have HS := Hh hs
    have hB5 : Blk w4 g 110 (psrC (some ⟨b, off, none⟩) l.length c (p + 9) cnt) := hB4
    clear NM hs E2 hn hnl hnb hB4 hG4
    by_cases h7 : ch.toNat / 32 < 7
    ·have z7 : (ch.toNat : Int) / 32 < 7 := by omega
     have E4 : Hid (headP (l.drop p) = if (headB 0 n).length ≠ 9 then .error 4 else .ok (ch.toNat, n, 9)) := by
      rw [Hid, E3.out]
      by_cases h : (headB 0 n).length = 9 <;> simp [h, h7]
     clear E3 h7
     go_wp2_with fail
     refine (HD.out _).mono ?_
     rintro e w5 ⟨r, rfl, hf⟩
     have hB6 := hB5.below hf.2
     have hG6 := grown_below hG5 hf.2
     obtain ⟨RA, rc, rfl, _⟩ := hf.own.form
     obtain ⟨hn, hhn⟩ : ∃ hn, (headB (0 : Int).toNat (n : Int).toNat).length = hn := ⟨_, rfl⟩
     rw [hhn]
     have E5 : Hid (headP (l.drop p) = if hn ≠ 9 then .error 4 else .ok (ch.toNat, n, 9)) := by rw [Hid, E4.out, ← hhn]; rfl
     clear hf HD E4 hhn hB5 hG5
     by_cases hq : hn = 9
     ·subst hq
      have E : Hid (headP (l.drop p) = .ok (ch.toNat, n, 9)) := by rw [Hid, E5.out, if_neg (by simp)]
      clear E5
      go_wp2_with fail
      go_ret3
      exact HeadSaid.ok E.out rfl hB6 hG6
     ·have zq : ((hn : Int) == 9) = false := by simp; omega
      have zq2 : ((hn : Int) = 9) = False := eq_false (by omega)
      have E : Hid (headP (l.drop p) = .error 4) := by rw [Hid, E5.out, if_pos hq]
      clear E5 hq z0 hpm hpi hp0 KA
      go_wp2_with fail
      go_ret3
      exact HeadSaid.err E.out rfl (p + 9) (by have := HS.out; omega) hB6 hG6
    ·have z7 : ¬ ((ch.toNat : Int) / 32 < 7) := by omega
     have z7b : decide ((ch.toNat : Int) / 32 < 7) = false := decide_eq_false z7
     have E : Hid (headP (l.drop p) = .ok (ch.toNat, n, 9)) := by rw [Hid, E3.out, if_neg (fun h => h7 h.1)]
     clear E3 h7 HD z7 z0
     go_wp2_with fail
     go_ret3
     exact HeadSaid.ok E.out rfl hB5 hG5
theorem run_f32frombits (n : Nat) (w : World) : (callFunc 94 #[.int .u32 (n : Int)]).run Tryd.prog w = .ok (.value (.float .f32 n)) w := by
 rw [run_callFunc_extern Tryd.func94 (by kernel_rfl) (by kernel_rfl) (by kernel_rfl) (e := Extern.MathFloatBits.float32frombits) (by kernel_rfl)]
 rfl
theorem single_nan {r : Nat} (hr : r < 4294967296) (h : r / 8388608 % 256 = 255 ∧ r % 8388608 ≠ 0) : (Ieee.single.read r).isNaN = true := by
 have e1 : Ieee.single.signWeight = 2147483648 := rfl
 have e2 : Ieee.single.binade = 8388608 := rfl
 have e3 : Ieee.single.infRung = 2139095040 := rfl
 obtain ⟨h1, h2⟩ := h
 unfold Ieee.Format.read
 rw [e1, e2, e3]
 simp only [show ¬ r % 2147483648 < 8388608 by omega, show ¬ r % 2147483648 < 2139095040 by omega, show ¬ r % 2147483648 = 2139095040 by omega, if_false]
 rfl
theorem conv_seven (r : Nat) (hr : r < 4294967296) (w : World) : ∃ m w', (convert 130 129 (.float .f32 r)).run Tryd.prog w = .ok (.float .f64 m) w' ∧ (w' = w ∨ w' = w.drew) ∧ m < 18446744073709551616 ∧
  ((r / 8388608 % 256 = 255 ∧ r % 8388608 ≠ 0) → isNaN m = true) ∧ (¬ (r / 8388608 % 256 = 255 ∧ r % 8388608 ≠ 0) → m = widen8 r) := by
 have hs : Tryd.prog.underlying 130 = some (.float .f32) := Tryd.underlying130
 have hd : Tryd.prog.underlying 129 = some (.float .f64) := Tryd.underlying129
 by_cases hx : r / 8388608 % 256 = 255 ∧ r % 8388608 ≠ 0
 ·have hn := single_nan hr hx
  cases hq : FloatKind.decode .f32 r with
  | number a b c =>
   have h' : Ieee.single.read r = .number a b c := hq
   rw [h'] at hn; cases hn
  | infinity a =>
   have h' : Ieee.single.read r = .infinity a := hq
   rw [h'] at hn; cases hn
  | nan a b =>
   have hnan : isNaN ((Question.nanConv .f64 r).cut (w.tape w.drawn (Question.nanConv .f64 r))) = true ∧ ((Question.nanConv .f64 r).cut (w.tape w.drawn (Question.nanConv .f64 r))) < 18446744073709551616 := by
    rw [isNaN_iff]
    show ((_ % 2 * 2 ^ 63 + 0x7ff0000000000000 + 1 + _ / 2 % (2 ^ 52 - 1)) / 2 ^ 52 % 2048 = 2047 ∧ _) ∧ _
    generalize w.tape w.drawn (Question.nanConv .f64 r) = t
    show ((t % 2 * 2 ^ 63 + 0x7ff0000000000000 + 1 + t / 2 % (2 ^ 52 - 1)) / 2 ^ 52 % 2048 = 2047 ∧ (t % 2 * 2 ^ 63 + 0x7ff0000000000000 + 1 + t / 2 % (2 ^ 52 - 1)) % 2 ^ 52 ≠ 0) ∧ t % 2 * 2 ^ 63 + 0x7ff0000000000000 + 1 + t / 2 % (2 ^ 52 - 1) < 18446744073709551616
    generalize t / 2 = u
    have : t % 2 = 0 ∨ t % 2 = 1 := by omega
    rcases this with h | h <;> rw [h] <;> simp only [Nat.reducePow, Nat.reduceSub, Nat.reduceMul, Nat.reduceAdd, Nat.zero_add] <;> omega
   refine ⟨(Question.nanConv .f64 r).cut (w.tape w.drawn (Question.nanConv .f64 r)), w.drew, ?_, .inr rfl, hnan.2, fun _ => hnan.1, fun h => absurd hx h⟩
   simp [convert, run_underlying hs, run_underlying hd, Conv.floatToFloat, hq, Question.forced]
 ·obtain ⟨h31, hlt⟩ := widen8_nar hr hx
  have hw := wide_of h31
  have hs' : (Tryd.prog.underlying 130).isSome = true := by rw [hs]; rfl
  exact ⟨widen8 r, w, run_convert_float_float (P := Tryd.prog) (w := w) 130 129 .f32 .f64 r _ hs' hd hw, .inl rfl, hlt, fun h => absurd h hx, fun _ => rfl⟩
abbrev zeroV : Value := .agg #[.int .i64 0, .int .u64 0, .slice none 0 0, .slice none 0 0]
def SevenSaid (w : World) (low n : Nat) (e : Ending) (w' : World) : Prop :=
 Below w.heap.size w w' ∧ match sevenP low n with
  | .error q => e = .returned (.tuple #[zeroV, .int .i64 (q : Int)])
  | .ok x => e = .returned (.tuple #[itemV x none 0 none 0, .int .i64 0])
theorem SevenSaid.err {w w' : World} {low n q : Nat} {e : Ending} (h : sevenP low n = .error q) (he : e = .returned (.tuple #[zeroV, .int .i64 (q : Int)])) (hb : Below w.heap.size w w') : SevenSaid w low n e w' := by
 rw [SevenSaid, h]; exact ⟨hb, he⟩
theorem SevenSaid.ok {w w' : World} {low n : Nat} {x : Itm} {e : Ending} (h : sevenP low n = .ok x) (he : e = .returned (.tuple #[itemV x none 0 none 0, .int .i64 0])) (hb : Below w.heap.size w w') : SevenSaid w low n e w' := by
 rw [SevenSaid, h]; exact ⟨hb, he⟩
theorem sevenP_f (low n : Nat) (h : 25 ≤ low) : sevenP low n = if (isNaN (wideP low n) && wideP low n != notNumber) || (floatB (wideP low n)).length != 1 + 2 ^ (low - 24) then .error 4 else .ok (.mk 8 (wideP low n) [] []) := by
 rw [sevenP, if_neg (by omega), if_neg (by omega)]
theorem widenQ_lt {v : Nat} (hv : v < 65536) : widenQ v < 18446744073709551616 := by
 rw [widenQ]
 split
 ·decide
 ·rename_i h; exact (widen5_nar hv h).2
theorem notNumber_nan : isNaN notNumber = true := by decide +kernel
theorem seven25 {n : Nat} (hn : n < 65536) : sevenP 25 n = if widenQ n = notNumber ∧ n ≠ 32256 then .error 4 else if (floatB (widenQ n)).length ≠ 3 then .error 4 else .ok (.mk 8 (widenQ n) [] []) := by
 rw [sevenP_f 25 n (by omega), show wideP 25 n = widen5 n by rw [wideP, if_pos rfl]]
 by_cases hx : n / 1024 % 32 = 31 ∧ n % 1024 ≠ 0
 ·obtain ⟨q1, q2⟩ := widen5_nan hn hx
  have hq : widenQ n = notNumber := by rw [widenQ, if_pos hx]
  rw [hq, q1]
  by_cases h : n = 32256
  ·have h5 := q2.2 h
   have L : (floatB notNumber).length = 3 := by rw [floatB_nan notNumber_nan]; rfl
   rw [h5, L]
   simp [h]
  ·have h5 : widen5 n ≠ notNumber := fun h' => h (q2.1 h')
   have b5 : (widen5 n != notNumber) = true := by rw [bne_iff_ne]; exact h5
   rw [b5]
   simp [h]
 ·obtain ⟨q1, q2⟩ := widen5_nar hn hx
  have q3 := nar15_notNaN q1
  have hq : widenQ n = widen5 n := by rw [widenQ, if_neg hx]
  have hne : widen5 n ≠ notNumber := fun h => by rw [h, notNumber_nan] at q3; cases q3
  rw [hq, q3]
  generalize widen5 n = D at *
  simp [hne]
theorem seven26 {n m : Nat} (hn : n < 4294967296) (h1 : (n / 8388608 % 256 = 255 ∧ n % 8388608 ≠ 0) → isNaN m = true) (h2 : ¬ (n / 8388608 % 256 = 255 ∧ n % 8388608 ≠ 0) → m = widen8 n) :
  sevenP 26 n = if (floatB m).length ≠ 5 then .error 4 else .ok (.mk 8 m [] []) := by
 rw [sevenP_f 26 n (by omega), show wideP 26 n = widen8 n by rw [wideP, if_neg (by omega), if_pos rfl]]
 by_cases hx : n / 8388608 % 256 = 255 ∧ n % 8388608 ≠ 0
 ·have q1 := widen8_nan hn hx
  have L1 : (floatB (widen8 n)).length = 3 := by rw [floatB_nan q1]; rfl
  have L2 : (floatB m).length = 3 := by rw [floatB_nan (h1 hx)]; rfl
  rw [L1, L2]
  simp
 ·obtain ⟨q1, q2⟩ := widen8_nar hn hx
  have q3 := nar31_notNaN q1
  rw [h2 hx, q3]
  generalize widen8 n = D at *
  simp
theorem seven27 {n : Nat} : sevenP 27 n = if (floatB n).length ≠ 9 then .error 4 else .ok (.mk 8 n [] []) := by
 rw [sevenP_f 27 n (by omega), show wideP 27 n = n by rw [wideP, if_neg (by omega), if_neg (by omega)]]
 cases h : isNaN n with
 | true =>
  have L : (floatB n).length = 3 := by rw [floatB_nan h]; rfl
  rw [L]; simp
 | false => simp
theorem cbor_seven (f n : Nat) (hf : f < 256) (hlow : f % 32 ≤ 27) (hn : n < 18446744073709551616) (h25 : f % 32 = 25 → n < 65536) (h26 : f % 32 = 26 → n < 4294967296) (w : World) :
  Calls Tryd.prog 86 #[.int .u8 (f : Int), .int .u64 (n : Int)] w (SevenSaid w (f % 32) n) := by
 have KA := and31 ⟨f, hf⟩
 simp only at KA
 obtain ⟨low, hl⟩ : ∃ low, f % 32 = low := ⟨_, rfl⟩
 rw [hl] at KA hlow h25 h26 ⊢
 have hB0 := Blk.new w 69 #[.int .i64 0, .int .u64 0, .slice none 0 0, .slice none 0 0]
 have hb0 := below_box w zeroO
 have HN := Hh hn
 have H25 := Hh h25
 have H26 := Hh h26
 clear hn h25 h26 hl hf
 by_cases h24 : low < 24
 ·have e1 : ((low : Int) == 24) = false := by simp; omega
  have e2 : ((low : Int) == 25) = false := by simp; omega
  have e3 : ((low : Int) == 26) = false := by simp; omega
  have e4 : ((low : Int) == 27) = false := by simp; omega
  have p1 : ((low : Int) = 24) = False := eq_false (by omega)
  have p2 : ((low : Int) = 25) = False := eq_false (by omega)
  have p3 : ((low : Int) = 26) = False := eq_false (by omega)
  have p4 : ((low : Int) = 27) = False := eq_false (by omega)
  have E : Hid (sevenP low n = .ok (.mk 7 n [] [])) := by rw [Hid, sevenP, if_pos h24]
  clear hlow h24
  go_enter Tryd.func86, Tryd.ntmps86
  go_wp2_with (with_reducible refine stop_store ?_)
  unfold Stopped
  refine stI rfl rfl rfl rfl rfl hB0 rfl rfl rfl rfl rfl fun wz hTy hgz => ?_
  have hbz := below_of_grown hb0 hgz (by rintro q ⟨⟩; exact Nat.le_refl _)
  go_wp2_with fail
  refine ret_row_tmp rfl rfl hTy rfl rfl size_item rfl ?_
  exact SevenSaid.ok E.out rfl hbz
 rcases (by omega : low = 24 ∨ low = 25 ∨ low = 26 ∨ low = 27) with rfl | rfl | rfl | rfl
 ·by_cases h32 : n < 32
  ·have z32 : (n : Int) < 32 := by omega
   have E : Hid (sevenP 24 n = .error 4) := by rw [Hid, sevenP, if_neg (by omega), if_pos rfl, if_pos h32]
   clear h32 hlow h24
   go_enter Tryd.func86, Tryd.ntmps86
   go_wp2_with (with_reducible refine stop_store ?_)
   unfold Stopped
   refine stI rfl rfl rfl rfl rfl hB0 rfl rfl rfl rfl rfl fun wz hTy hgz => ?_
   have hbz := below_of_grown hb0 hgz (by rintro q ⟨⟩; exact Nat.le_refl _)
   go_wp2_with fail
   refine ret_row_tmp rfl rfl hTy rfl rfl size_item rfl ?_
   exact SevenSaid.err E.out rfl hbz
  ·have z32 : ¬ ((n : Int) < 32) := by omega
   have E : Hid (sevenP 24 n = .ok (.mk 7 n [] [])) := by rw [Hid, sevenP, if_neg (by omega), if_pos rfl, if_neg h32]
   clear h32 hlow h24
   go_enter Tryd.func86, Tryd.ntmps86
   go_wp2_with (with_reducible refine stop_store ?_)
   unfold Stopped
   refine stI rfl rfl rfl rfl rfl hB0 rfl rfl rfl rfl rfl fun wz hTy hgz => ?_
   have hbz := below_of_grown hb0 hgz (by rintro q ⟨⟩; exact Nat.le_refl _)
   go_wp2_with fail
   refine ret_row_tmp rfl rfl hTy rfl rfl size_item rfl ?_
   exact SevenSaid.ok E.out rfl hbz
 ·have hn := H25.out rfl
  have K1 : IntKind.u16.wrap (n : Int) = (n : Int) := IntWalk.u16_in _ (by omega)
  have FL := Hh (fun w => cbor_float_nat (widenQ n) (widenQ_lt hn) w)
  have E0 := Hh (seven25 hn)
  obtain ⟨D, hD⟩ : ∃ D, widenQ n = D := ⟨_, rfl⟩
  have WD := Hh (show ∀ w, Calls Tryd.prog 92 #[.int .u16 (n : Int)] w fun e w' => e = .returned (.int .u64 (D : Int)) ∧ w' = w from fun w => by
   have h := cbor_widen n hn w
   unfold WidenQ at h
   rw [hD] at h
   exact h)
  rw [hD] at FL E0
  clear hn hD hlow h24
  by_cases hc : D = notNumber ∧ n ≠ 32256
  ·have c1 : ((D : Int) == 9221120237041090560) = true := by rw [hc.1]; rfl
   have c2 : ((n : Int) != 32256) = true := by rw [bne_iff_ne]; omega
   have c1' : ((D : Int) = 9221120237041090560) = True := eq_true (by rw [hc.1]; rfl)
   have c2' : ((n : Int) = 32256) = False := eq_false (by omega)
   have E : Hid (sevenP 25 n = .error 4) := by rw [Hid, E0.out, if_pos hc]
   clear hc E0 FL
   go_enter Tryd.func86, Tryd.ntmps86
   go_wp2_with fail
   refine (WD.out _).mono ?_
   rintro e w1 ⟨rfl, rfl⟩
   go_wp2_with (with_reducible refine stop_store ?_)
   unfold Stopped
   refine stI rfl rfl rfl rfl rfl hB0 rfl rfl rfl rfl rfl fun wz hTy hgz => ?_
   have hbz := below_of_grown hb0 hgz (by rintro q ⟨⟩; exact Nat.le_refl _)
   go_wp2_with fail
   refine ret_row_tmp rfl rfl hTy rfl rfl size_item rfl ?_
   exact SevenSaid.err E.out rfl hbz
  have E1 : Hid (sevenP 25 n = if (floatB D).length ≠ 3 then .error 4 else .ok (.mk 8 D [] [])) := by rw [Hid, E0.out, if_neg hc]
  clear E0
  by_cases hD : D = notNumber
  ·have hn3 : n = 32256 := Classical.byContradiction fun h => hc ⟨hD, h⟩
   have c1 : ((D : Int) == 9221120237041090560) = true := by rw [hD]; rfl
   have c1' : ((D : Int) = 9221120237041090560) = True := eq_true (by rw [hD]; rfl)
   have c2 : ((n : Int) != 32256) = false := by rw [hn3]; rfl
   have c2' : ((n : Int) = 32256) = True := eq_true (by rw [hn3]; rfl)
   clear hc hD hn3
   go_enter Tryd.func86, Tryd.ntmps86
   go_wp2_with fail
   refine (WD.out _).mono ?_
   rintro e w1 ⟨rfl, rfl⟩
   go_wp2_with fail
   refine (FL.out _).mono ?_
   rintro e w3 ⟨r, rfl, hfr⟩
   obtain ⟨RA, rc, rfl, _⟩ := hfr.own.form
   have hB3 := hB0.below hfr.2
   have hb3 := hb0.trans (hfr.2.mono hb0.size)
   obtain ⟨fl, hfl⟩ : ∃ fl, (floatB D).length = fl := ⟨_, rfl⟩
   rw [hfl] at E1 ⊢
   clear hfr hfl FL
   by_cases hq : fl = 3
   ·subst hq
    have E : Hid (_ = Except.ok (Itm.mk 8 D [] [])) := E1.out.trans (if_neg (by simp))
    clear E1
    go_wp2_with (with_reducible refine stop_store ?_)
    unfold Stopped
    refine stI rfl rfl rfl rfl rfl hB3 rfl rfl rfl rfl rfl fun wz hTy hgz => ?_
    have hbz := below_of_grown hb3 hgz (by rintro q ⟨⟩; exact Nat.le_refl _)
    go_wp2_with fail
    refine ret_row_tmp rfl rfl hTy rfl rfl size_item rfl ?_
    exact SevenSaid.ok E.out rfl hbz
   ·have zq : ((fl : Int) == 3) = false := by simp; omega
    have zq2 : ((fl : Int) = 3) = False := eq_false (by omega)
    have E : Hid (_ = Except.error 4) := E1.out.trans (if_pos hq)
    clear E1 hq
    go_wp2_with (with_reducible refine stop_store ?_)
    unfold Stopped
    refine stI rfl rfl rfl rfl rfl hB3 rfl rfl rfl rfl rfl fun wz hTy hgz => ?_
    have hbz := below_of_grown hb3 hgz (by rintro q ⟨⟩; exact Nat.le_refl _)
    go_wp2_with fail
    refine ret_row_tmp rfl rfl hTy rfl rfl size_item rfl ?_
    exact SevenSaid.err E.out rfl hbz
  ·have c1 : ((D : Int) == 9221120237041090560) = false := by rw [beq_eq_false_iff_ne]; intro h; exact hD (by show D = 9221120237041090560; omega)
   have c1' : ((D : Int) = 9221120237041090560) = False := eq_false (by intro h; exact hD (by show D = 9221120237041090560; omega))
   clear hc hD
   go_enter Tryd.func86, Tryd.ntmps86
   go_wp2_with fail
   refine (WD.out _).mono ?_
   rintro e w1 ⟨rfl, rfl⟩
   go_wp2_with fail
   refine (FL.out _).mono ?_
   rintro e w3 ⟨r, rfl, hfr⟩
   obtain ⟨RA, rc, rfl, _⟩ := hfr.own.form
   have hB3 := hB0.below hfr.2
   have hb3 := hb0.trans (hfr.2.mono hb0.size)
   obtain ⟨fl, hfl⟩ : ∃ fl, (floatB D).length = fl := ⟨_, rfl⟩
   rw [hfl] at E1 ⊢
   clear hfr hfl FL
   by_cases hq : fl = 3
   ·subst hq
    have E : Hid (_ = Except.ok (Itm.mk 8 D [] [])) := E1.out.trans (if_neg (by simp))
    clear E1
    go_wp2_with (with_reducible refine stop_store ?_)
    unfold Stopped
    refine stI rfl rfl rfl rfl rfl hB3 rfl rfl rfl rfl rfl fun wz hTy hgz => ?_
    have hbz := below_of_grown hb3 hgz (by rintro q ⟨⟩; exact Nat.le_refl _)
    go_wp2_with fail
    refine ret_row_tmp rfl rfl hTy rfl rfl size_item rfl ?_
    exact SevenSaid.ok E.out rfl hbz
   ·have zq : ((fl : Int) == 3) = false := by simp; omega
    have zq2 : ((fl : Int) = 3) = False := eq_false (by omega)
    have E : Hid (_ = Except.error 4) := E1.out.trans (if_pos hq)
    clear E1 hq
    go_wp2_with (with_reducible refine stop_store ?_)
    unfold Stopped
    refine stI rfl rfl rfl rfl rfl hB3 rfl rfl rfl rfl rfl fun wz hTy hgz => ?_
    have hbz := below_of_grown hb3 hgz (by rintro q ⟨⟩; exact Nat.le_refl _)
    go_wp2_with fail
    refine ret_row_tmp rfl rfl hTy rfl rfl size_item rfl ?_
    exact SevenSaid.err E.out rfl hbz
 ·have hn := H26.out rfl
  have K1 : IntKind.u32.wrap (n : Int) = (n : Int) := IntWalk.u32_in _ (by omega)
  have r1 := run_f32frombits n
  obtain ⟨W0, hW0⟩ : ∃ W0, w.alloc zeroO = W0 := ⟨_, rfl⟩
  obtain ⟨D, w2, hc2, hw2, hDl, hD1, hD2⟩ := conv_seven n hn W0
  have E1 := Hh (seven26 hn hD1 hD2)
  have r2 := run_f64bits D
  have FL := Hh (fun w => cbor_float_nat D hDl w)
  have hb2 : Below w.heap.size w w2 := by
   rw [← hW0] at hw2
   rcases hw2 with rfl | rfl
   ·exact hb0
   ·exact hb0.drew
  have hB2 : Blk w2 w.heap.size 69 #[.int .i64 0, .int .u64 0, .slice none 0 0, .slice none 0 0] := by
   rw [← hW0] at hw2
   rcases hw2 with rfl | rfl
   ·exact hB0
   ·exact hB0.drew
  clear hn hD1 hD2 hw2 hDl hlow h24 hB0 hb0
  go_enter Tryd.func86, Tryd.ntmps86
  go_upto_region 13 with fail
  clear hW0
  go_wp2_with fail
  refine (FL.out _).mono ?_
  rintro e w3 ⟨r, rfl, hfr⟩
  obtain ⟨RA, rc, rfl, _⟩ := hfr.own.form
  have hB3 := hB2.below hfr.2
  have hb3 := hb2.trans (hfr.2.mono hb2.size)
  obtain ⟨fl, hfl⟩ : ∃ fl, (floatB D).length = fl := ⟨_, rfl⟩
  rw [hfl] at E1 ⊢
  clear hfr hfl FL
  by_cases hq : fl = 5
  ·subst hq
   have E : Hid (_ = Except.ok (Itm.mk 8 D [] [])) := E1.out.trans (if_neg (by simp))
   clear E1
   go_wp2_with (with_reducible refine stop_store ?_)
   unfold Stopped
   refine stI rfl rfl rfl rfl rfl hB3 rfl rfl rfl rfl rfl fun wz hTy hgz => ?_
   have hbz := below_of_grown hb3 hgz (by rintro q ⟨⟩; exact Nat.le_refl _)
   go_wp2_with fail
   refine ret_row_tmp rfl rfl hTy rfl rfl size_item rfl ?_
   exact SevenSaid.ok E.out rfl hbz
  ·have zq : ((fl : Int) == 5) = false := by simp; omega
   have zq2 : ((fl : Int) = 5) = False := eq_false (by omega)
   have E : Hid (_ = Except.error 4) := E1.out.trans (if_pos hq)
   clear E1 hq
   go_wp2_with (with_reducible refine stop_store ?_)
   unfold Stopped
   refine stI rfl rfl rfl rfl rfl hB3 rfl rfl rfl rfl rfl fun wz hTy hgz => ?_
   have hbz := below_of_grown hb3 hgz (by rintro q ⟨⟩; exact Nat.le_refl _)
   go_wp2_with fail
   refine ret_row_tmp rfl rfl hTy rfl rfl size_item rfl ?_
   exact SevenSaid.err E.out rfl hbz
 ·have E1 := Hh (seven27 (n := n))
  have FL := Hh (fun w => cbor_float_nat n HN.out w)
  have hb2 := hb0
  have hB2 := hB0
  clear hlow h24 hB0 hb0
  obtain ⟨D, hD⟩ : ∃ D, n = D := ⟨_, rfl⟩
  subst hD
  go_enter Tryd.func86, Tryd.ntmps86
  go_wp2_with fail
  refine (FL.out _).mono ?_
  rintro e w3 ⟨r, rfl, hfr⟩
  obtain ⟨RA, rc, rfl, _⟩ := hfr.own.form
  have hB3 := hB2.below hfr.2
  have hb3 := hb2.trans (hfr.2.mono hb2.size)
  obtain ⟨fl, hfl⟩ : ∃ fl, (floatB n).length = fl := ⟨_, rfl⟩
  rw [hfl] at E1 ⊢
  clear hfr hfl FL
  by_cases hq : fl = 9
  ·subst hq
   have E : Hid (_ = Except.ok (Itm.mk 8 n [] [])) := E1.out.trans (if_neg (by simp))
   clear E1
   go_wp2_with (with_reducible refine stop_store ?_)
   unfold Stopped
   refine stI rfl rfl rfl rfl rfl hB3 rfl rfl rfl rfl rfl fun wz hTy hgz => ?_
   have hbz := below_of_grown hb3 hgz (by rintro q ⟨⟩; exact Nat.le_refl _)
   go_wp2_with fail
   refine ret_row_tmp rfl rfl hTy rfl rfl size_item rfl ?_
   exact SevenSaid.ok E.out rfl hbz
  ·have zq : ((fl : Int) == 9) = false := by simp; omega
   have zq2 : ((fl : Int) = 9) = False := eq_false (by omega)
   have E : Hid (_ = Except.error 4) := E1.out.trans (if_pos hq)
   clear E1 hq
   go_wp2_with (with_reducible refine stop_store ?_)
   unfold Stopped
   refine stI rfl rfl rfl rfl rfl hB3 rfl rfl rfl rfl rfl fun wz hTy hgz => ?_
   have hbz := below_of_grown hb3 hgz (by rintro q ⟨⟩; exact Nat.le_refl _)
   go_wp2_with fail
   refine ret_row_tmp rfl rfl hTy rfl rfl size_item rfl ?_
   exact SevenSaid.err E.out rfl hbz
end Go.Proofs.YtlebpackbfcfeaaDoor
