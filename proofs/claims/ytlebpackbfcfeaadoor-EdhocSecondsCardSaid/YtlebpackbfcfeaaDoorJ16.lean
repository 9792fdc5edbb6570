/- squeezed. Walks: the program's parser: heads. -/
import Derived.Test.YtlebpackbfcfeaaDoorJ15
set_option linter.unusedVariables false
set_option linter.unusedSimpArgs false
namespace Go.Proofs.YtlebpackbfcfeaaDoor
open Go.RowKit

def HeadSaid (T : TypeId) (w : World) (g : Nat) (A : Option Addr) (c : Nat) (l : List UInt8) (p cnt : Nat) (e : Ending) (w' : World) : Prop :=
 match headP (l.drop p) with
 | .error q => e = .returned (.tuple #[.int .u8 0, .int .u64 0, .int .i64 (q : Int)]) ∧ (∃ p', p' ≤ l.length ∧ Blk w' g T (psrC A l.length c p' cnt)) ∧ w.grownBy w' (some g)
 | .ok (f, n, k) => e = .returned (.tuple #[.int .u8 (f : Int), .int .u64 (n : Int), .int .i64 0]) ∧ Blk w' g T (psrC A l.length c (p + k) cnt) ∧ w.grownBy w' (some g)
theorem HeadSaid.err {T : TypeId} {w w' : World} {g : Nat} {A : Option Addr} {c : Nat} {l : List UInt8} {p cnt : Nat} {e : Ending} {q : Nat} (h : headP (l.drop p) = .error q) (he : e = .returned (.tuple #[.int .u8 0, .int .u64 0, .int .i64 (q : Int)]))
   (p' : Nat) (hp : p' ≤ l.length) (hb : Blk w' g T (psrC A l.length c p' cnt)) (hg : w.grownBy w' (some g)) : HeadSaid T w g A c l p cnt e w' := by
 rw [HeadSaid, h]; exact ⟨he, ⟨p', hp, hb⟩, hg⟩
theorem HeadSaid.ok {T : TypeId} {w w' : World} {g : Nat} {A : Option Addr} {c : Nat} {l : List UInt8} {p cnt : Nat} {e : Ending} {f n k : Nat} (h : headP (l.drop p) = .ok (f, n, k)) (he : e = .returned (.tuple #[.int .u8 (f : Int), .int .u64 (n : Int), .int .i64 0]))
   (hb : Blk w' g T (psrC A l.length c (p + k) cnt)) (hg : w.grownBy w' (some g)) : HeadSaid T w g A c l p cnt e w' := by
 rw [HeadSaid, h]; exact ⟨he, hb, hg⟩
set_option maxRecDepth 100000 in
theorem and31 : ∀ X : Fin 256, bits .and .u8 ((X.val : Nat) : Int) 31 = ((X.val % 32 : Nat) : Int) := by decide
theorem drop_cons {l : List UInt8} {p : Nat} (hp : p < l.length) : l.drop p = l[p] :: l.drop (p + 1) := List.drop_eq_getElem_cons hp

set_option maxRecDepth 100000 in
set_option maxHeartbeats 6400000 in
theorem p_head {w : World} {g : Nat} {H : Snap} {A : Option Addr} {c : Nat} {l : List UInt8} {p cnt : Nat} (hP : Psr 110 w g H A c l p cnt) :
   Calls Tryd.prog 84 #[.pointer (some ⟨g, 0, none⟩)] w (HeadSaid 110 w g A c l p cnt) := by
 have hB := hP.blk
 have c0 := hB.cell 0 rfl
 have c1 := hB.cell 1 rfl
 have hpl := hP.le
 have hsm := hP.small
 have hcl := hP.bytes.le
 have hcm := hP.bytes.max
 have HP := Lib.hid hP
 by_cases hlt : p = l.length
 · have E : Hid (headP (l.drop p) = .error 2) := by rw [Hid, hlt, List.drop_length]; rfl
   have z0 : ((p : Int) == (l.length : Int)) = true := by simp [hlt]
   have HL := Lib.hid hpl
   clear hpl hsm hcl hcm hP hlt
   go_enter Tryd.func84, Tryd.ntmps84
   go_wp2_with fail
   go_big_quiet (fail)
   go_wp2_with fail
   go_ret3
   exact HeadSaid.err E.out rfl p HL.out hB (grown_drewN (grown_refl w _) _)
 · have z0 : ((p : Int) == (l.length : Int)) = false := by simp; omega
   have hp2 : p < l.length := by omega
   have hpi : (p : Int) < (l.length : Int) := by omega
   have hp0 : (0 : Int) ≤ (p : Int) := by omega
   have hpm : (p : Int) + 1 ≤ 9223372036854775807 := by omega
   obtain ⟨b, off, rfl, hcell⟩ := hP.bytes.at_ (by omega)
   have HC := Lib.hid hcell
   have HH := Lib.hid hP.holds
   have q0 := hP.holds.cell (hcell p hp2)
   have ED := Lib.hid (drop_cons hp2)
   obtain ⟨ch, hch⟩ : ∃ ch, l[p] = ch := ⟨_, rfl⟩
   rw [hch] at q0 ED
   have lc := ch.toNat_lt
   have KA := and31 ⟨ch.toNat, lc⟩
   simp only at KA
   obtain ⟨low, hlow⟩ : ∃ low, ch.toNat % 32 = low := ⟨_, rfl⟩
   rw [hlow] at KA
   have HLOW := Lib.hid hlow
   have hl32 : low < 32 := by omega
   have HL := Lib.hid (And.intro hp2 (And.intro hsm (And.intro hcl hcm)))
   have EH : Hid (headP (l.drop p) = if 27 < low then .error 3 else if low < 24 then .ok (ch.toNat, low, 1) else if (l.drop (p + 1)).length < 2 ^ (low - 24) then .error 2
       else if ch.toNat / 32 < 7 ∧ (headB 0 (beN ((l.drop (p + 1)).take (2 ^ (low - 24))))).length ≠ 1 + 2 ^ (low - 24) then .error 4
       else .ok (ch.toNat, beN ((l.drop (p + 1)).take (2 ^ (low - 24))), 1 + 2 ^ (low - 24))) := by rw [Hid, ED.out, headP, hlow]
   clear hpl hsm hcl hcm hP hlt hcell hch hlow hp2 ED lc
   go_enter Tryd.func84, Tryd.ntmps84
   go_wp2_with fail
   go_big_quiet (fail)
   obtain ⟨w1, hw1⟩ : ∃ W, w.drewN nq = W := ⟨_, rfl⟩
   have hB1 : Blk w1 g 110 (psrC (some ⟨b, off, none⟩) l.length c p cnt) := hw1 ▸ hB
   have hG1 : w.grownBy w1 (some g) := hw1 ▸ grown_drewN (grown_refl w _) _
   have hH1 : Holds w1 H := hw1 ▸ HH.out
   have q1 : w1.cell? ⟨b, off + p, none⟩ = some (byteV ch) := hw1 ▸ q0
   rw [hw1]
   clear hw1 c0 c1 q0 hB
   have c0 := hB1.cell 0 rfl
   have c1 := hB1.cell 1 rfl
   go_upto_region 3 with fail
   go_big_quiet (fail)
   obtain ⟨w2, hw2⟩ : ∃ W, w1.drewN nq = W := ⟨_, rfl⟩
   have hB2 : Blk w2 g 110 (psrC (some ⟨b, off, none⟩) l.length c p cnt) := hw2 ▸ hB1
   have hG2 : w.grownBy w2 (some g) := hw2 ▸ grown_drewN hG1 _
   have hH2 : Holds w2 H := hw2 ▸ hH1
   rw [hw2]
   clear hw2 c0 c1 hB1 hG1 hH1 q1
   have c1 := hB2.cell 1 rfl
   by_cases h27 : 27 < low
   · have z27 : (27 : Int) < (low : Int) := by omega
     have E : Hid (headP (l.drop p) = .error 3) := by rw [Hid, EH.out, if_pos h27]
     go_wp2_with fail
     go_ret3
     exact HeadSaid.err E.out rfl p (Nat.le_of_lt HL.out.1) hB2 hG2
   have z27 : ¬ ((27 : Int) < (low : Int)) := by omega
   have E1 : Hid (headP (l.drop p) = if low < 24 then .ok (ch.toNat, low, 1) else if (l.drop (p + 1)).length < 2 ^ (low - 24) then .error 2
       else if ch.toNat / 32 < 7 ∧ (headB 0 (beN ((l.drop (p + 1)).take (2 ^ (low - 24))))).length ≠ 1 + 2 ^ (low - 24) then .error 4
       else .ok (ch.toNat, beN ((l.drop (p + 1)).take (2 ^ (low - 24))), 1 + 2 ^ (low - 24))) := by rw [Hid, EH.out, if_neg h27]
   clear EH
   have K1 : IntKind.i64.wrap ((p : Int) + 1) = (p : Int) + 1 := IntWalk.i64_in _ (by omega)
   go_wp2_with (with_reducible refine stop_store ?_)
   unfold Stopped
   refine wpList_store_cell rfl _ _ _ rfl rfl g 1 (.int .i64 ((p : Int) + 1)) rfl rfl _ _ hB2 size_int1 (by simp) rfl fun w3 hB3 hG3' => ?_
   have hG3 := grown_step hG2 hG3' (.inl rfl)
   have hB3 : Blk w3 g 110 (psrC (some ⟨b, off, none⟩) l.length c (p + 1) cnt) := hB3
   have hH3 : Holds w3 H := hH2.grown hG3' (by rintro q ⟨⟩; exact HP.out.apart)
   clear hB2 hG2 hG3' c1 hH2 K1
   by_cases h24 : low < 24
   · have z24 : (low : Int) < 24 := by omega
     have E : Hid (headP (l.drop p) = .ok (ch.toNat, low, 1)) := by rw [Hid, E1.out, if_pos h24]
     have KU : IntKind.u64.wrap (low : Int) = (low : Int) := by rw [IntKind.wrap_u64]; omega
     go_wp2_with fail
     go_ret3
     exact HeadSaid.ok E.out rfl hB3 hG3
   have z24 : ¬ ((low : Int) < 24) := by omega
   have E2 : Hid (headP (l.drop p) = if (l.drop (p + 1)).length < 2 ^ (low - 24) then .error 2
       else if ch.toNat / 32 < 7 ∧ (headB 0 (beN ((l.drop (p + 1)).take (2 ^ (low - 24))))).length ≠ 1 + 2 ^ (low - 24) then .error 4
       else .ok (ch.toNat, beN ((l.drop (p + 1)).take (2 ^ (low - 24))), 1 + 2 ^ (low - 24))) := by rw [Hid, E1.out, if_neg h24]
   clear E1
   have hP3 : Psr 110 w3 g H (some ⟨b, off, none⟩) c l (p + 1) cnt := ⟨hB3, HP.out.bytes, hH3, HP.out.apart, HL.out.1, HP.out.small, HP.out.cnt_le⟩
   rcases (by omega : low = 24 ∨ low = 25 ∨ low = 26 ∨ low = 27) with rfl | rfl | rfl | rfl
   · have NM := Lib.hid (p_number hP3 1 (by omega) (by omega))
     simp only [Nat.reduceSub, Nat.reducePow, Nat.reduceAdd] at E2
     clear h27 h24 z27 z24 hl32 hP3
     go_wp2_with fail
     refine NM.out.mono ?_
     rintro e w4 (⟨hs, rfl, hB4, hG4⟩ | ⟨hs, rfl, hB4, hG4⟩)
     · have E : Hid (headP (l.drop p) = .error 2) := by rw [Hid, E2.out, if_pos (by rw [List.length_drop]; have := HL.out.1; omega)]
       have hG5 := grown_step hG3 hG4 (.inl rfl)
       clear NM hs
       go_wp2_with fail
       go_ret3
       exact HeadSaid.err E.out rfl (p + 1) HL.out.1 hB4 hG5
     · have E3 : Hid (headP (l.drop p) = if ch.toNat / 32 < 7 ∧ (headB 0 (beN ((l.drop (p + 1)).take 1))).length ≠ 2 then .error 4 else .ok (ch.toNat, beN ((l.drop (p + 1)).take 1), 2)) := by
         rw [Hid, E2.out, if_neg (by rw [List.length_drop]; have := HL.out.1; omega)]
       have hG5 := grown_step hG3 hG4 (.inl rfl)
       have hnb := beN_lt ((l.drop (p + 1)).take 1)
       have hnl : ((l.drop (p + 1)).take 1).length = 1 := by rw [List.length_take, List.length_drop]; omega
       rw [hnl] at hnb
       simp only [Nat.reducePow] at hnb
       obtain ⟨n, hn⟩ : ∃ n, beN ((l.drop (p + 1)).take 1) = n := ⟨_, rfl⟩
       rw [hn] at E3 hnb ⊢
       have HD := Lib.hid (fun w => cbor_head 0 (n : Int) w (by omega) (by omega) (by omega) (by omega))
       have HS := Lib.hid hs
       have hB5 : Blk w4 g 110 (psrC (some ⟨b, off, none⟩) l.length c (p + 2) cnt) := hB4
       clear NM hs E2 hn hnl hnb hB4 hG4
       by_cases h7 : ch.toNat / 32 < 7
       · have z7 : (ch.toNat : Int) / 32 < 7 := by omega
         have E4 : Hid (headP (l.drop p) = if (headB 0 n).length ≠ 2 then .error 4 else .ok (ch.toNat, n, 2)) := by
           rw [Hid, E3.out]
           by_cases h : (headB 0 n).length = 2 <;> simp [h, h7]
         clear E3 h7
         go_wp2_with fail
         refine (HD.out _).mono ?_
         rintro e w5 ⟨r, rfl, hf⟩
         have hB6 := hB5.below hf.2
         have hG6 := grown_below hG5 hf.2
         obtain ⟨RA, rc, rfl, _⟩ := hf.own.form
         obtain ⟨hn, hhn⟩ : ∃ hn, (headB (0 : Int).toNat (n : Int).toNat).length = hn := ⟨_, rfl⟩
         rw [hhn]
         have E5 : Hid (headP (l.drop p) = if hn ≠ 2 then .error 4 else .ok (ch.toNat, n, 2)) := by rw [Hid, E4.out, ← hhn]; rfl
         clear hf HD E4 hhn hB5 hG5
         by_cases hq : hn = 2
         · subst hq
           have E : Hid (headP (l.drop p) = .ok (ch.toNat, n, 2)) := by rw [Hid, E5.out, if_neg (by simp)]
           clear E5
           go_wp2_with fail
           go_ret3
           exact HeadSaid.ok E.out rfl hB6 hG6
         · have zq : ((hn : Int) == 2) = false := by simp; omega
           have zq2 : ((hn : Int) = 2) = False := eq_false (by omega)
           have E : Hid (headP (l.drop p) = .error 4) := by rw [Hid, E5.out, if_pos hq]
           clear E5 hq z0 hpm hpi hp0 KA
           go_wp2_with fail
           go_ret3
           exact HeadSaid.err E.out rfl (p + 2) (by have := HS.out; omega) hB6 hG6
       · have z7 : ¬ ((ch.toNat : Int) / 32 < 7) := by omega
         have z7b : decide ((ch.toNat : Int) / 32 < 7) = false := decide_eq_false z7
         have E : Hid (headP (l.drop p) = .ok (ch.toNat, n, 2)) := by rw [Hid, E3.out, if_neg (fun h => h7 h.1)]
         clear E3 h7 HD z7 z0
         go_wp2_with fail
         go_ret3
         exact HeadSaid.ok E.out rfl hB5 hG5
   · have NM := Lib.hid (p_number hP3 2 (by omega) (by omega))
     simp only [Nat.reduceSub, Nat.reducePow, Nat.reduceAdd] at E2
     clear h27 h24 z27 z24 hl32 hP3
     go_wp2_with fail
     refine NM.out.mono ?_
     rintro e w4 (⟨hs, rfl, hB4, hG4⟩ | ⟨hs, rfl, hB4, hG4⟩)
     · have E : Hid (headP (l.drop p) = .error 2) := by rw [Hid, E2.out, if_pos (by rw [List.length_drop]; have := HL.out.1; omega)]
       have hG5 := grown_step hG3 hG4 (.inl rfl)
       clear NM hs
       go_wp2_with fail
       go_ret3
       exact HeadSaid.err E.out rfl (p + 1) HL.out.1 hB4 hG5
     · have E3 : Hid (headP (l.drop p) = if ch.toNat / 32 < 7 ∧ (headB 0 (beN ((l.drop (p + 1)).take 2))).length ≠ 3 then .error 4 else .ok (ch.toNat, beN ((l.drop (p + 1)).take 2), 3)) := by
         rw [Hid, E2.out, if_neg (by rw [List.length_drop]; have := HL.out.1; omega)]
       have hG5 := grown_step hG3 hG4 (.inl rfl)
       have hnb := beN_lt ((l.drop (p + 1)).take 2)
       have hnl : ((l.drop (p + 1)).take 2).length = 2 := by rw [List.length_take, List.length_drop]; omega
       rw [hnl] at hnb
       simp only [Nat.reducePow] at hnb
       obtain ⟨n, hn⟩ : ∃ n, beN ((l.drop (p + 1)).take 2) = n := ⟨_, rfl⟩
       rw [hn] at E3 hnb ⊢
       have HD := Lib.hid (fun w => cbor_head 0 (n : Int) w (by omega) (by omega) (by omega) (by omega))
       have HS := Lib.hid hs
       have hB5 : Blk w4 g 110 (psrC (some ⟨b, off, none⟩) l.length c (p + 3) cnt) := hB4
       clear NM hs E2 hn hnl hnb hB4 hG4
       by_cases h7 : ch.toNat / 32 < 7
       · have z7 : (ch.toNat : Int) / 32 < 7 := by omega
         have E4 : Hid (headP (l.drop p) = if (headB 0 n).length ≠ 3 then .error 4 else .ok (ch.toNat, n, 3)) := by
           rw [Hid, E3.out]
           by_cases h : (headB 0 n).length = 3 <;> simp [h, h7]
         clear E3 h7
         go_wp2_with fail
         refine (HD.out _).mono ?_
         rintro e w5 ⟨r, rfl, hf⟩
         have hB6 := hB5.below hf.2
         have hG6 := grown_below hG5 hf.2
         obtain ⟨RA, rc, rfl, _⟩ := hf.own.form
         obtain ⟨hn, hhn⟩ : ∃ hn, (headB (0 : Int).toNat (n : Int).toNat).length = hn := ⟨_, rfl⟩
         rw [hhn]
         have E5 : Hid (headP (l.drop p) = if hn ≠ 3 then .error 4 else .ok (ch.toNat, n, 3)) := by rw [Hid, E4.out, ← hhn]; rfl
         clear hf HD E4 hhn hB5 hG5
         by_cases hq : hn = 3
         · subst hq
           have E : Hid (headP (l.drop p) = .ok (ch.toNat, n, 3)) := by rw [Hid, E5.out, if_neg (by simp)]
           clear E5
           go_wp2_with fail
           go_ret3
           exact HeadSaid.ok E.out rfl hB6 hG6
         · have zq : ((hn : Int) == 3) = false := by simp; omega
           have zq2 : ((hn : Int) = 3) = False := eq_false (by omega)
           have E : Hid (headP (l.drop p) = .error 4) := by rw [Hid, E5.out, if_pos hq]
           clear E5 hq z0 hpm hpi hp0 KA
           go_wp2_with fail
           go_ret3
           exact HeadSaid.err E.out rfl (p + 3) (by have := HS.out; omega) hB6 hG6
       · have z7 : ¬ ((ch.toNat : Int) / 32 < 7) := by omega
         have z7b : decide ((ch.toNat : Int) / 32 < 7) = false := decide_eq_false z7
         have E : Hid (headP (l.drop p) = .ok (ch.toNat, n, 3)) := by rw [Hid, E3.out, if_neg (fun h => h7 h.1)]
         clear E3 h7 HD z7 z0
         go_wp2_with fail
         go_ret3
         exact HeadSaid.ok E.out rfl hB5 hG5
   · have NM := Lib.hid (p_number hP3 4 (by omega) (by omega))
     simp only [Nat.reduceSub, Nat.reducePow, Nat.reduceAdd] at E2
     clear h27 h24 z27 z24 hl32 hP3
     go_wp2_with fail
     refine NM.out.mono ?_
     rintro e w4 (⟨hs, rfl, hB4, hG4⟩ | ⟨hs, rfl, hB4, hG4⟩)
     · have E : Hid (headP (l.drop p) = .error 2) := by rw [Hid, E2.out, if_pos (by rw [List.length_drop]; have := HL.out.1; omega)]
       have hG5 := grown_step hG3 hG4 (.inl rfl)
       clear NM hs
       go_wp2_with fail
       go_ret3
       exact HeadSaid.err E.out rfl (p + 1) HL.out.1 hB4 hG5
     · have E3 : Hid (headP (l.drop p) = if ch.toNat / 32 < 7 ∧ (headB 0 (beN ((l.drop (p + 1)).take 4))).length ≠ 5 then .error 4 else .ok (ch.toNat, beN ((l.drop (p + 1)).take 4), 5)) := by
         rw [Hid, E2.out, if_neg (by rw [List.length_drop]; have := HL.out.1; omega)]
       have hG5 := grown_step hG3 hG4 (.inl rfl)
       have hnb := beN_lt ((l.drop (p + 1)).take 4)
       have hnl : ((l.drop (p + 1)).take 4).length = 4 := by rw [List.length_take, List.length_drop]; omega
       rw [hnl] at hnb
       simp only [Nat.reducePow] at hnb
       obtain ⟨n, hn⟩ : ∃ n, beN ((l.drop (p + 1)).take 4) = n := ⟨_, rfl⟩
       rw [hn] at E3 hnb ⊢
       have HD := Lib.hid (fun w => cbor_head 0 (n : Int) w (by omega) (by omega) (by omega) (by omega))
       have HS := Lib.hid hs
       have hB5 : Blk w4 g 110 (psrC (some ⟨b, off, none⟩) l.length c (p + 5) cnt) := hB4
       clear NM hs E2 hn hnl hnb hB4 hG4
       by_cases h7 : ch.toNat / 32 < 7
       · have z7 : (ch.toNat : Int) / 32 < 7 := by omega
         have E4 : Hid (headP (l.drop p) = if (headB 0 n).length ≠ 5 then .error 4 else .ok (ch.toNat, n, 5)) := by
           rw [Hid, E3.out]
           by_cases h : (headB 0 n).length = 5 <;> simp [h, h7]
         clear E3 h7
         go_wp2_with fail
         refine (HD.out _).mono ?_
         rintro e w5 ⟨r, rfl, hf⟩
         have hB6 := hB5.below hf.2
         have hG6 := grown_below hG5 hf.2
         obtain ⟨RA, rc, rfl, _⟩ := hf.own.form
         obtain ⟨hn, hhn⟩ : ∃ hn, (headB (0 : Int).toNat (n : Int).toNat).length = hn := ⟨_, rfl⟩
         rw [hhn]
         have E5 : Hid (headP (l.drop p) = if hn ≠ 5 then .error 4 else .ok (ch.toNat, n, 5)) := by rw [Hid, E4.out, ← hhn]; rfl
         clear hf HD E4 hhn hB5 hG5
         by_cases hq : hn = 5
         · subst hq
           have E : Hid (headP (l.drop p) = .ok (ch.toNat, n, 5)) := by rw [Hid, E5.out, if_neg (by simp)]
           clear E5
           go_wp2_with fail
           go_ret3
           exact HeadSaid.ok E.out rfl hB6 hG6
         · have zq : ((hn : Int) == 5) = false := by simp; omega
           have zq2 : ((hn : Int) = 5) = False := eq_false (by omega)
           have E : Hid (headP (l.drop p) = .error 4) := by rw [Hid, E5.out, if_pos hq]
           clear E5 hq z0 hpm hpi hp0 KA
           go_wp2_with fail
           go_ret3
           exact HeadSaid.err E.out rfl (p + 5) (by have := HS.out; omega) hB6 hG6
       · have z7 : ¬ ((ch.toNat : Int) / 32 < 7) := by omega
         have z7b : decide ((ch.toNat : Int) / 32 < 7) = false := decide_eq_false z7
         have E : Hid (headP (l.drop p) = .ok (ch.toNat, n, 5)) := by rw [Hid, E3.out, if_neg (fun h => h7 h.1)]
         clear E3 h7 HD z7 z0
         go_wp2_with fail
         go_ret3
         exact HeadSaid.ok E.out rfl hB5 hG5
   · have NM := Lib.hid (p_number hP3 8 (by omega) (by omega))
     simp only [Nat.reduceSub, Nat.reducePow, Nat.reduceAdd] at E2
     clear h27 h24 z27 z24 hl32 hP3
     go_wp2_with fail
     refine NM.out.mono ?_
     rintro e w4 (⟨hs, rfl, hB4, hG4⟩ | ⟨hs, rfl, hB4, hG4⟩)
     · have E : Hid (headP (l.drop p) = .error 2) := by rw [Hid, E2.out, if_pos (by rw [List.length_drop]; have := HL.out.1; omega)]
       have hG5 := grown_step hG3 hG4 (.inl rfl)
       clear NM hs
       go_wp2_with fail
       go_ret3
       exact HeadSaid.err E.out rfl (p + 1) HL.out.1 hB4 hG5
     · have E3 : Hid (headP (l.drop p) = if ch.toNat / 32 < 7 ∧ (headB 0 (beN ((l.drop (p + 1)).take 8))).length ≠ 9 then .error 4 else .ok (ch.toNat, beN ((l.drop (p + 1)).take 8), 9)) := by
         rw [Hid, E2.out, if_neg (by rw [List.length_drop]; have := HL.out.1; omega)]
       have hG5 := grown_step hG3 hG4 (.inl rfl)
       have hnb := beN_lt ((l.drop (p + 1)).take 8)
       have hnl : ((l.drop (p + 1)).take 8).length = 8 := by rw [List.length_take, List.length_drop]; omega
       rw [hnl] at hnb
       simp only [Nat.reducePow] at hnb
       obtain ⟨n, hn⟩ : ∃ n, beN ((l.drop (p + 1)).take 8) = n := ⟨_, rfl⟩
       rw [hn] at E3 hnb ⊢
       have HD := Lib.hid (fun w => cbor_head 0 (n : Int) w (by omega) (by omega) (by omega) (by omega))
       have HS := Lib.hid hs
       have hB5 : Blk w4 g 110 (psrC (some ⟨b, off, none⟩) l.length c (p + 9) cnt) := hB4
       clear NM hs E2 hn hnl hnb hB4 hG4
       by_cases h7 : ch.toNat / 32 < 7
       · have z7 : (ch.toNat : Int) / 32 < 7 := by omega
         have E4 : Hid (headP (l.drop p) = if (headB 0 n).length ≠ 9 then .error 4 else .ok (ch.toNat, n, 9)) := by
           rw [Hid, E3.out]
           by_cases h : (headB 0 n).length = 9 <;> simp [h, h7]
         clear E3 h7
         go_wp2_with fail
         refine (HD.out _).mono ?_
         rintro e w5 ⟨r, rfl, hf⟩
         have hB6 := hB5.below hf.2
         have hG6 := grown_below hG5 hf.2
         obtain ⟨RA, rc, rfl, _⟩ := hf.own.form
         obtain ⟨hn, hhn⟩ : ∃ hn, (headB (0 : Int).toNat (n : Int).toNat).length = hn := ⟨_, rfl⟩
         rw [hhn]
         have E5 : Hid (headP (l.drop p) = if hn ≠ 9 then .error 4 else .ok (ch.toNat, n, 9)) := by rw [Hid, E4.out, ← hhn]; rfl
         clear hf HD E4 hhn hB5 hG5
         by_cases hq : hn = 9
         · subst hq
           have E : Hid (headP (l.drop p) = .ok (ch.toNat, n, 9)) := by rw [Hid, E5.out, if_neg (by simp)]
           clear E5
           go_wp2_with fail
           go_ret3
           exact HeadSaid.ok E.out rfl hB6 hG6
         · have zq : ((hn : Int) == 9) = false := by simp; omega
           have zq2 : ((hn : Int) = 9) = False := eq_false (by omega)
           have E : Hid (headP (l.drop p) = .error 4) := by rw [Hid, E5.out, if_pos hq]
           clear E5 hq z0 hpm hpi hp0 KA
           go_wp2_with fail
           go_ret3
           exact HeadSaid.err E.out rfl (p + 9) (by have := HS.out; omega) hB6 hG6
       · have z7 : ¬ ((ch.toNat : Int) / 32 < 7) := by omega
         have z7b : decide ((ch.toNat : Int) / 32 < 7) = false := decide_eq_false z7
         have E : Hid (headP (l.drop p) = .ok (ch.toNat, n, 9)) := by rw [Hid, E3.out, if_neg (fun h => h7 h.1)]
         clear E3 h7 HD z7 z0
         go_wp2_with fail
         go_ret3
         exact HeadSaid.ok E.out rfl hB5 hG5
end Go.Proofs.YtlebpackbfcfeaaDoor
