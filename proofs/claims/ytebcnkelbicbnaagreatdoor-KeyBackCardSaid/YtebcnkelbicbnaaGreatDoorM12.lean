/- Walks: the program's parser: heads. Walks: the deck's bytes. Walks: the deck's texts and numbers. Floats: whole numbers, sums and products that the reading of half floats needs; plain mathematics. -/
import Derived.Test.YtebcnkelbicbnaaGreatDoorM11
import Derived.Test.YtebcnkelbicbnaaGreatDoorM09
import Derived.Test.YtebcnkelbicbnaaGreatDoorM10
set_option linter.unusedVariables false
set_option linter.unusedSimpArgs false
namespace Go.Proofs.YtebcnkelbicbnaaGreatDoor
open Go.RowKit

def HeadSaid (T : TypeId) (w : World) (g : Nat) (A : Option Addr) (c : Nat) (l : List UInt8) (p cnt : Nat) (e : Ending) (w' : World) : Prop :=
  match headP (l.drop p) with
  | .error q => e = .returned (.tuple #[.int .u8 0, .int .u64 0, .int .i64 (q : Int)]) ∧ (∃ p', p' ≤ l.length ∧ Blk w' g T (psrC A l.length c p' cnt)) ∧ w.grownBy w' (some g)
  | .ok (f, n, k) => e = .returned (.tuple #[.int .u8 (f : Int), .int .u64 (n : Int), .int .i64 0]) ∧ Blk w' g T (psrC A l.length c (p + k) cnt) ∧ w.grownBy w' (some g)
theorem HeadSaid.err {T : TypeId} {w w' : World} {g : Nat} {A : Option Addr} {c : Nat} {l : List UInt8} {p cnt : Nat} {e : Ending} {q : Nat} (h : headP (l.drop p) = .error q) (he : e = .returned (.tuple #[.int .u8 0, .int .u64 0, .int .i64 (q : Int)]))
    (p' : Nat) (hp : p' ≤ l.length) (hb : Blk w' g T (psrC A l.length c p' cnt)) (hg : w.grownBy w' (some g)) : HeadSaid T w g A c l p cnt e w' := by
  rw [HeadSaid, h]; exact ⟨he, ⟨p', hp, hb⟩, hg⟩
theorem HeadSaid.ok {T : TypeId} {w w' : World} {g : Nat} {A : Option Addr} {c : Nat} {l : List UInt8} {p cnt : Nat} {e : Ending} {f n k : Nat} (h : headP (l.drop p) = .ok (f, n, k)) (he : e = .returned (.tuple #[.int .u8 (f : Int), .int .u64 (n : Int), .int .i64 0]))
    (hb : Blk w' g T (psrC A l.length c (p + k) cnt)) (hg : w.grownBy w' (some g)) : HeadSaid T w g A c l p cnt e w' := by
  rw [HeadSaid, h]; exact ⟨he, hb, hg⟩
set_option maxRecDepth 100000 in
theorem and31 : ∀ X : Fin 256, bits .and .u8 ((X.val : Nat) : Int) 31 = ((X.val % 32 : Nat) : Int) := by decide
theorem drop_cons {l : List UInt8} {p : Nat} (hp : p < l.length) : l.drop p = l[p] :: l.drop (p + 1) := List.drop_eq_getElem_cons hp

set_option maxRecDepth 100000 in
set_option maxHeartbeats 6400000 in
theorem p_head {w : World} {g : Nat} {H : Snap} {A : Option Addr} {c : Nat} {l : List UInt8} {p cnt : Nat} (hP : Psr 109 w g H A c l p cnt) :
    Calls Tryz.prog 94 #[.pointer (some ⟨g, 0, none⟩)] w (HeadSaid 109 w g A c l p cnt) := by
  have hB := hP.blk
  have c0 := hB.cell 0 rfl
  have c1 := hB.cell 1 rfl
  have hpl := hP.le
  have hsm := hP.small
  have hcl := hP.bytes.le
  have hcm := hP.bytes.max
  have HP := Lib.hid hP
  by_cases hlt : p = l.length
  · have E : Hid (headP (l.drop p) = .error 2) := by rw [Hid, hlt, List.drop_length]; rfl
    have z0 : ((p : Int) == (l.length : Int)) = true := by simp [hlt]
    have HL := Lib.hid hpl
    clear hpl hsm hcl hcm hP hlt
    go_enter Tryz.func94, Tryz.ntmps94
    go_wp2_with fail
    go_big_quiet (fail)
    go_wp2_with fail
    go_ret3
    exact HeadSaid.err E.out rfl p HL.out hB (grown_drewN (grown_refl w _) _)
  · have z0 : ((p : Int) == (l.length : Int)) = false := by simp; omega
    have hp2 : p < l.length := by omega
    have hpi : (p : Int) < (l.length : Int) := by omega
    have hp0 : (0 : Int) ≤ (p : Int) := by omega
    have hpm : (p : Int) + 1 ≤ 9223372036854775807 := by omega
    obtain ⟨b, off, rfl, hcell⟩ := hP.bytes.at_ (by omega)
    have HC := Lib.hid hcell
    have HH := Lib.hid hP.holds
    have q0 := hP.holds.cell (hcell p hp2)
    have ED := Lib.hid (drop_cons hp2)
    obtain ⟨ch, hch⟩ : ∃ ch, l[p] = ch := ⟨_, rfl⟩
    rw [hch] at q0 ED
    have lc := ch.toNat_lt
    have KA := and31 ⟨ch.toNat, lc⟩
    simp only at KA
    obtain ⟨low, hlow⟩ : ∃ low, ch.toNat % 32 = low := ⟨_, rfl⟩
    rw [hlow] at KA
    have HLOW := Lib.hid hlow
    have hl32 : low < 32 := by omega
    have HL := Lib.hid (And.intro hp2 (And.intro hsm (And.intro hcl hcm)))
    have EH : Hid (headP (l.drop p) = if 27 < low then .error 3 else if low < 24 then .ok (ch.toNat, low, 1) else if (l.drop (p + 1)).length < 2 ^ (low - 24) then .error 2
        else if ch.toNat / 32 < 7 ∧ (headB 0 (beN ((l.drop (p + 1)).take (2 ^ (low - 24))))).length ≠ 1 + 2 ^ (low - 24) then .error 4
        else .ok (ch.toNat, beN ((l.drop (p + 1)).take (2 ^ (low - 24))), 1 + 2 ^ (low - 24))) := by rw [Hid, ED.out, headP, hlow]
    clear hpl hsm hcl hcm hP hlt hcell hch hlow hp2 ED lc
    go_enter Tryz.func94, Tryz.ntmps94
    go_wp2_with fail
    go_big_quiet (fail)
    obtain ⟨w1, hw1⟩ : ∃ W, w.drewN nq = W := ⟨_, rfl⟩
    have hB1 : Blk w1 g 109 (psrC (some ⟨b, off, none⟩) l.length c p cnt) := hw1 ▸ hB
    have hG1 : w.grownBy w1 (some g) := hw1 ▸ grown_drewN (grown_refl w _) _
    have hH1 : Holds w1 H := hw1 ▸ HH.out
    have q1 : w1.cell? ⟨b, off + p, none⟩ = some (byteV ch) := hw1 ▸ q0
    rw [hw1]
    clear hw1 c0 c1 q0 hB
    have c0 := hB1.cell 0 rfl
    have c1 := hB1.cell 1 rfl
    go_upto_region 3 with fail
    go_big_quiet (fail)
    obtain ⟨w2, hw2⟩ : ∃ W, w1.drewN nq = W := ⟨_, rfl⟩
    have hB2 : Blk w2 g 109 (psrC (some ⟨b, off, none⟩) l.length c p cnt) := hw2 ▸ hB1
    have hG2 : w.grownBy w2 (some g) := hw2 ▸ grown_drewN hG1 _
    have hH2 : Holds w2 H := hw2 ▸ hH1
    rw [hw2]
    clear hw2 c0 c1 hB1 hG1 hH1 q1
    have c1 := hB2.cell 1 rfl
    by_cases h27 : 27 < low
    · have z27 : (27 : Int) < (low : Int) := by omega
      have E : Hid (headP (l.drop p) = .error 3) := by rw [Hid, EH.out, if_pos h27]
      go_wp2_with fail
      go_ret3
      exact HeadSaid.err E.out rfl p (Nat.le_of_lt HL.out.1) hB2 hG2
    have z27 : ¬ ((27 : Int) < (low : Int)) := by omega
    have E1 : Hid (headP (l.drop p) = if low < 24 then .ok (ch.toNat, low, 1) else if (l.drop (p + 1)).length < 2 ^ (low - 24) then .error 2
        else if ch.toNat / 32 < 7 ∧ (headB 0 (beN ((l.drop (p + 1)).take (2 ^ (low - 24))))).length ≠ 1 + 2 ^ (low - 24) then .error 4
        else .ok (ch.toNat, beN ((l.drop (p + 1)).take (2 ^ (low - 24))), 1 + 2 ^ (low - 24))) := by rw [Hid, EH.out, if_neg h27]
    clear EH
    have K1 : IntKind.i64.wrap ((p : Int) + 1) = (p : Int) + 1 := IntWalk.i64_in _ (by omega)
    go_wp2_with (with_reducible refine stop_store ?_)
    unfold Stopped
    refine wpList_store_cell rfl _ _ _ rfl rfl g 1 (.int .i64 ((p : Int) + 1)) rfl rfl _ _ hB2 size_int1 (by simp) rfl fun w3 hB3 hG3' => ?_
    have hG3 := grown_step hG2 hG3' (.inl rfl)
    have hB3 : Blk w3 g 109 (psrC (some ⟨b, off, none⟩) l.length c (p + 1) cnt) := hB3
    have hH3 : Holds w3 H := hH2.grown hG3' (by rintro q ⟨⟩; exact HP.out.apart)
    clear hB2 hG2 hG3' c1 hH2 K1
    by_cases h24 : low < 24
    · have z24 : (low : Int) < 24 := by omega
      have E : Hid (headP (l.drop p) = .ok (ch.toNat, low, 1)) := by rw [Hid, E1.out, if_pos h24]
      have KU : IntKind.u64.wrap (low : Int) = (low : Int) := by rw [IntKind.wrap_u64]; omega
      go_wp2_with fail
      go_ret3
      exact HeadSaid.ok E.out rfl hB3 hG3
    have z24 : ¬ ((low : Int) < 24) := by omega
    have E2 : Hid (headP (l.drop p) = if (l.drop (p + 1)).length < 2 ^ (low - 24) then .error 2
        else if ch.toNat / 32 < 7 ∧ (headB 0 (beN ((l.drop (p + 1)).take (2 ^ (low - 24))))).length ≠ 1 + 2 ^ (low - 24) then .error 4
        else .ok (ch.toNat, beN ((l.drop (p + 1)).take (2 ^ (low - 24))), 1 + 2 ^ (low - 24))) := by rw [Hid, E1.out, if_neg h24]
    clear E1
    have hP3 : Psr 109 w3 g H (some ⟨b, off, none⟩) c l (p + 1) cnt := ⟨hB3, HP.out.bytes, hH3, HP.out.apart, HL.out.1, HP.out.small, HP.out.cnt_le⟩
    rcases (by omega : low = 24 ∨ low = 25 ∨ low = 26 ∨ low = 27) with rfl | rfl | rfl | rfl
    · have NM := Lib.hid (p_number hP3 1 (by omega) (by omega))
      simp only [Nat.reduceSub, Nat.reducePow, Nat.reduceAdd] at E2
      clear h27 h24 z27 z24 hl32 hP3
      go_wp2_with fail
      refine NM.out.mono ?_
      rintro e w4 (⟨hs, rfl, hB4, hG4⟩ | ⟨hs, rfl, hB4, hG4⟩)
      · have E : Hid (headP (l.drop p) = .error 2) := by rw [Hid, E2.out, if_pos (by rw [List.length_drop]; have := HL.out.1; omega)]
        have hG5 := grown_step hG3 hG4 (.inl rfl)
        clear NM hs
        go_wp2_with fail
        go_ret3
        exact HeadSaid.err E.out rfl (p + 1) HL.out.1 hB4 hG5
      · have E3 : Hid (headP (l.drop p) = if ch.toNat / 32 < 7 ∧ (headB 0 (beN ((l.drop (p + 1)).take 1))).length ≠ 2 then .error 4 else .ok (ch.toNat, beN ((l.drop (p + 1)).take 1), 2)) := by
          rw [Hid, E2.out, if_neg (by rw [List.length_drop]; have := HL.out.1; omega)]
        have hG5 := grown_step hG3 hG4 (.inl rfl)
        have hnb := beN_lt ((l.drop (p + 1)).take 1)
        have hnl : ((l.drop (p + 1)).take 1).length = 1 := by rw [List.length_take, List.length_drop]; omega
        rw [hnl] at hnb
        simp only [Nat.reducePow] at hnb
        obtain ⟨n, hn⟩ : ∃ n, beN ((l.drop (p + 1)).take 1) = n := ⟨_, rfl⟩
        rw [hn] at E3 hnb ⊢
        have HD := Lib.hid (fun w => cbor_head 0 (n : Int) w (by omega) (by omega) (by omega) (by omega))
        have HS := Lib.hid hs
        have hB5 : Blk w4 g 109 (psrC (some ⟨b, off, none⟩) l.length c (p + 2) cnt) := hB4
        clear NM hs E2 hn hnl hnb hB4 hG4
        by_cases h7 : ch.toNat / 32 < 7
        · have z7 : (ch.toNat : Int) / 32 < 7 := by omega
          have E4 : Hid (headP (l.drop p) = if (headB 0 n).length ≠ 2 then .error 4 else .ok (ch.toNat, n, 2)) := by
            rw [Hid, E3.out]
            by_cases h : (headB 0 n).length = 2 <;> simp [h, h7]
          clear E3 h7
          go_wp2_with fail
          refine (HD.out _).mono ?_
          rintro e w5 ⟨r, rfl, hf⟩
          have hB6 := hB5.below hf.2
          have hG6 := grown_below hG5 hf.2
          obtain ⟨RA, rc, rfl, _⟩ := hf.own.form
          obtain ⟨hn, hhn⟩ : ∃ hn, (headB (0 : Int).toNat (n : Int).toNat).length = hn := ⟨_, rfl⟩
          rw [hhn]
          have E5 : Hid (headP (l.drop p) = if hn ≠ 2 then .error 4 else .ok (ch.toNat, n, 2)) := by rw [Hid, E4.out, ← hhn]; rfl
          clear hf HD E4 hhn hB5 hG5
          by_cases hq : hn = 2
          · subst hq
            have E : Hid (headP (l.drop p) = .ok (ch.toNat, n, 2)) := by rw [Hid, E5.out, if_neg (by simp)]
            clear E5
            go_wp2_with fail
            go_ret3
            exact HeadSaid.ok E.out rfl hB6 hG6
          · have zq : ((hn : Int) == 2) = false := by simp; omega
            have zq2 : ((hn : Int) = 2) = False := eq_false (by omega)
            have E : Hid (headP (l.drop p) = .error 4) := by rw [Hid, E5.out, if_pos hq]
            clear E5 hq z0 hpm hpi hp0 KA
            go_wp2_with fail
            go_ret3
            exact HeadSaid.err E.out rfl (p + 2) (by have := HS.out; omega) hB6 hG6
        · have z7 : ¬ ((ch.toNat : Int) / 32 < 7) := by omega
          have z7b : decide ((ch.toNat : Int) / 32 < 7) = false := decide_eq_false z7
          have E : Hid (headP (l.drop p) = .ok (ch.toNat, n, 2)) := by rw [Hid, E3.out, if_neg (fun h => h7 h.1)]
          clear E3 h7 HD z7 z0
          go_wp2_with fail
          go_ret3
          exact HeadSaid.ok E.out rfl hB5 hG5
    · have NM := Lib.hid (p_number hP3 2 (by omega) (by omega))
      simp only [Nat.reduceSub, Nat.reducePow, Nat.reduceAdd] at E2
      clear h27 h24 z27 z24 hl32 hP3
      go_wp2_with fail
      refine NM.out.mono ?_
      rintro e w4 (⟨hs, rfl, hB4, hG4⟩ | ⟨hs, rfl, hB4, hG4⟩)
      · have E : Hid (headP (l.drop p) = .error 2) := by rw [Hid, E2.out, if_pos (by rw [List.length_drop]; have := HL.out.1; omega)]
        have hG5 := grown_step hG3 hG4 (.inl rfl)
        clear NM hs
        go_wp2_with fail
        go_ret3
        exact HeadSaid.err E.out rfl (p + 1) HL.out.1 hB4 hG5
      · have E3 : Hid (headP (l.drop p) = if ch.toNat / 32 < 7 ∧ (headB 0 (beN ((l.drop (p + 1)).take 2))).length ≠ 3 then .error 4 else .ok (ch.toNat, beN ((l.drop (p + 1)).take 2), 3)) := by
          rw [Hid, E2.out, if_neg (by rw [List.length_drop]; have := HL.out.1; omega)]
        have hG5 := grown_step hG3 hG4 (.inl rfl)
        have hnb := beN_lt ((l.drop (p + 1)).take 2)
        have hnl : ((l.drop (p + 1)).take 2).length = 2 := by rw [List.length_take, List.length_drop]; omega
        rw [hnl] at hnb
        simp only [Nat.reducePow] at hnb
        obtain ⟨n, hn⟩ : ∃ n, beN ((l.drop (p + 1)).take 2) = n := ⟨_, rfl⟩
        rw [hn] at E3 hnb ⊢
        have HD := Lib.hid (fun w => cbor_head 0 (n : Int) w (by omega) (by omega) (by omega) (by omega))
        have HS := Lib.hid hs
        have hB5 : Blk w4 g 109 (psrC (some ⟨b, off, none⟩) l.length c (p + 3) cnt) := hB4
        clear NM hs E2 hn hnl hnb hB4 hG4
        by_cases h7 : ch.toNat / 32 < 7
        · have z7 : (ch.toNat : Int) / 32 < 7 := by omega
          have E4 : Hid (headP (l.drop p) = if (headB 0 n).length ≠ 3 then .error 4 else .ok (ch.toNat, n, 3)) := by
            rw [Hid, E3.out]
            by_cases h : (headB 0 n).length = 3 <;> simp [h, h7]
          clear E3 h7
          go_wp2_with fail
          refine (HD.out _).mono ?_
          rintro e w5 ⟨r, rfl, hf⟩
          have hB6 := hB5.below hf.2
          have hG6 := grown_below hG5 hf.2
          obtain ⟨RA, rc, rfl, _⟩ := hf.own.form
          obtain ⟨hn, hhn⟩ : ∃ hn, (headB (0 : Int).toNat (n : Int).toNat).length = hn := ⟨_, rfl⟩
          rw [hhn]
          have E5 : Hid (headP (l.drop p) = if hn ≠ 3 then .error 4 else .ok (ch.toNat, n, 3)) := by rw [Hid, E4.out, ← hhn]; rfl
          clear hf HD E4 hhn hB5 hG5
          by_cases hq : hn = 3
          · subst hq
            have E : Hid (headP (l.drop p) = .ok (ch.toNat, n, 3)) := by rw [Hid, E5.out, if_neg (by simp)]
            clear E5
            go_wp2_with fail
            go_ret3
            exact HeadSaid.ok E.out rfl hB6 hG6
          · have zq : ((hn : Int) == 3) = false := by simp; omega
            have zq2 : ((hn : Int) = 3) = False := eq_false (by omega)
            have E : Hid (headP (l.drop p) = .error 4) := by rw [Hid, E5.out, if_pos hq]
            clear E5 hq z0 hpm hpi hp0 KA
            go_wp2_with fail
            go_ret3
            exact HeadSaid.err E.out rfl (p + 3) (by have := HS.out; omega) hB6 hG6
        · have z7 : ¬ ((ch.toNat : Int) / 32 < 7) := by omega
          have z7b : decide ((ch.toNat : Int) / 32 < 7) = false := decide_eq_false z7
          have E : Hid (headP (l.drop p) = .ok (ch.toNat, n, 3)) := by rw [Hid, E3.out, if_neg (fun h => h7 h.1)]
          clear E3 h7 HD z7 z0
          go_wp2_with fail
          go_ret3
          exact HeadSaid.ok E.out rfl hB5 hG5
    · have NM := Lib.hid (p_number hP3 4 (by omega) (by omega))
      simp only [Nat.reduceSub, Nat.reducePow, Nat.reduceAdd] at E2
      clear h27 h24 z27 z24 hl32 hP3
      go_wp2_with fail
      refine NM.out.mono ?_
      rintro e w4 (⟨hs, rfl, hB4, hG4⟩ | ⟨hs, rfl, hB4, hG4⟩)
      · have E : Hid (headP (l.drop p) = .error 2) := by rw [Hid, E2.out, if_pos (by rw [List.length_drop]; have := HL.out.1; omega)]
        have hG5 := grown_step hG3 hG4 (.inl rfl)
        clear NM hs
        go_wp2_with fail
        go_ret3
        exact HeadSaid.err E.out rfl (p + 1) HL.out.1 hB4 hG5
      · have E3 : Hid (headP (l.drop p) = if ch.toNat / 32 < 7 ∧ (headB 0 (beN ((l.drop (p + 1)).take 4))).length ≠ 5 then .error 4 else .ok (ch.toNat, beN ((l.drop (p + 1)).take 4), 5)) := by
          rw [Hid, E2.out, if_neg (by rw [List.length_drop]; have := HL.out.1; omega)]
        have hG5 := grown_step hG3 hG4 (.inl rfl)
        have hnb := beN_lt ((l.drop (p + 1)).take 4)
        have hnl : ((l.drop (p + 1)).take 4).length = 4 := by rw [List.length_take, List.length_drop]; omega
        rw [hnl] at hnb
        simp only [Nat.reducePow] at hnb
        obtain ⟨n, hn⟩ : ∃ n, beN ((l.drop (p + 1)).take 4) = n := ⟨_, rfl⟩
        rw [hn] at E3 hnb ⊢
        have HD := Lib.hid (fun w => cbor_head 0 (n : Int) w (by omega) (by omega) (by omega) (by omega))
        have HS := Lib.hid hs
        have hB5 : Blk w4 g 109 (psrC (some ⟨b, off, none⟩) l.length c (p + 5) cnt) := hB4
        clear NM hs E2 hn hnl hnb hB4 hG4
        by_cases h7 : ch.toNat / 32 < 7
        · have z7 : (ch.toNat : Int) / 32 < 7 := by omega
          have E4 : Hid (headP (l.drop p) = if (headB 0 n).length ≠ 5 then .error 4 else .ok (ch.toNat, n, 5)) := by
            rw [Hid, E3.out]
            by_cases h : (headB 0 n).length = 5 <;> simp [h, h7]
          clear E3 h7
          go_wp2_with fail
          refine (HD.out _).mono ?_
          rintro e w5 ⟨r, rfl, hf⟩
          have hB6 := hB5.below hf.2
          have hG6 := grown_below hG5 hf.2
          obtain ⟨RA, rc, rfl, _⟩ := hf.own.form
          obtain ⟨hn, hhn⟩ : ∃ hn, (headB (0 : Int).toNat (n : Int).toNat).length = hn := ⟨_, rfl⟩
          rw [hhn]
          have E5 : Hid (headP (l.drop p) = if hn ≠ 5 then .error 4 else .ok (ch.toNat, n, 5)) := by rw [Hid, E4.out, ← hhn]; rfl
          clear hf HD E4 hhn hB5 hG5
          by_cases hq : hn = 5
          · subst hq
            have E : Hid (headP (l.drop p) = .ok (ch.toNat, n, 5)) := by rw [Hid, E5.out, if_neg (by simp)]
            clear E5
            go_wp2_with fail
            go_ret3
            exact HeadSaid.ok E.out rfl hB6 hG6
          · have zq : ((hn : Int) == 5) = false := by simp; omega
            have zq2 : ((hn : Int) = 5) = False := eq_false (by omega)
            have E : Hid (headP (l.drop p) = .error 4) := by rw [Hid, E5.out, if_pos hq]
            clear E5 hq z0 hpm hpi hp0 KA
            go_wp2_with fail
            go_ret3
            exact HeadSaid.err E.out rfl (p + 5) (by have := HS.out; omega) hB6 hG6
        · have z7 : ¬ ((ch.toNat : Int) / 32 < 7) := by omega
          have z7b : decide ((ch.toNat : Int) / 32 < 7) = false := decide_eq_false z7
          have E : Hid (headP (l.drop p) = .ok (ch.toNat, n, 5)) := by rw [Hid, E3.out, if_neg (fun h => h7 h.1)]
          clear E3 h7 HD z7 z0
          go_wp2_with fail
          go_ret3
          exact HeadSaid.ok E.out rfl hB5 hG5
    · have NM := Lib.hid (p_number hP3 8 (by omega) (by omega))
      simp only [Nat.reduceSub, Nat.reducePow, Nat.reduceAdd] at E2
      clear h27 h24 z27 z24 hl32 hP3
      go_wp2_with fail
      refine NM.out.mono ?_
      rintro e w4 (⟨hs, rfl, hB4, hG4⟩ | ⟨hs, rfl, hB4, hG4⟩)
      · have E : Hid (headP (l.drop p) = .error 2) := by rw [Hid, E2.out, if_pos (by rw [List.length_drop]; have := HL.out.1; omega)]
        have hG5 := grown_step hG3 hG4 (.inl rfl)
        clear NM hs
        go_wp2_with fail
        go_ret3
        exact HeadSaid.err E.out rfl (p + 1) HL.out.1 hB4 hG5
      · have E3 : Hid (headP (l.drop p) = if ch.toNat / 32 < 7 ∧ (headB 0 (beN ((l.drop (p + 1)).take 8))).length ≠ 9 then .error 4 else .ok (ch.toNat, beN ((l.drop (p + 1)).take 8), 9)) := by
          rw [Hid, E2.out, if_neg (by rw [List.length_drop]; have := HL.out.1; omega)]
        have hG5 := grown_step hG3 hG4 (.inl rfl)
        have hnb := beN_lt ((l.drop (p + 1)).take 8)
        have hnl : ((l.drop (p + 1)).take 8).length = 8 := by rw [List.length_take, List.length_drop]; omega
        rw [hnl] at hnb
        simp only [Nat.reducePow] at hnb
        obtain ⟨n, hn⟩ : ∃ n, beN ((l.drop (p + 1)).take 8) = n := ⟨_, rfl⟩
        rw [hn] at E3 hnb ⊢
        have HD := Lib.hid (fun w => cbor_head 0 (n : Int) w (by omega) (by omega) (by omega) (by omega))
        have HS := Lib.hid hs
        have hB5 : Blk w4 g 109 (psrC (some ⟨b, off, none⟩) l.length c (p + 9) cnt) := hB4
        clear NM hs E2 hn hnl hnb hB4 hG4
        by_cases h7 : ch.toNat / 32 < 7
        · have z7 : (ch.toNat : Int) / 32 < 7 := by omega
          have E4 : Hid (headP (l.drop p) = if (headB 0 n).length ≠ 9 then .error 4 else .ok (ch.toNat, n, 9)) := by
            rw [Hid, E3.out]
            by_cases h : (headB 0 n).length = 9 <;> simp [h, h7]
          clear E3 h7
          go_wp2_with fail
          refine (HD.out _).mono ?_
          rintro e w5 ⟨r, rfl, hf⟩
          have hB6 := hB5.below hf.2
          have hG6 := grown_below hG5 hf.2
          obtain ⟨RA, rc, rfl, _⟩ := hf.own.form
          obtain ⟨hn, hhn⟩ : ∃ hn, (headB (0 : Int).toNat (n : Int).toNat).length = hn := ⟨_, rfl⟩
          rw [hhn]
          have E5 : Hid (headP (l.drop p) = if hn ≠ 9 then .error 4 else .ok (ch.toNat, n, 9)) := by rw [Hid, E4.out, ← hhn]; rfl
          clear hf HD E4 hhn hB5 hG5
          by_cases hq : hn = 9
          · subst hq
            have E : Hid (headP (l.drop p) = .ok (ch.toNat, n, 9)) := by rw [Hid, E5.out, if_neg (by simp)]
            clear E5
            go_wp2_with fail
            go_ret3
            exact HeadSaid.ok E.out rfl hB6 hG6
          · have zq : ((hn : Int) == 9) = false := by simp; omega
            have zq2 : ((hn : Int) = 9) = False := eq_false (by omega)
            have E : Hid (headP (l.drop p) = .error 4) := by rw [Hid, E5.out, if_pos hq]
            clear E5 hq z0 hpm hpi hp0 KA
            go_wp2_with fail
            go_ret3
            exact HeadSaid.err E.out rfl (p + 9) (by have := HS.out; omega) hB6 hG6
        · have z7 : ¬ ((ch.toNat : Int) / 32 < 7) := by omega
          have z7b : decide ((ch.toNat : Int) / 32 < 7) = false := decide_eq_false z7
          have E : Hid (headP (l.drop p) = .ok (ch.toNat, n, 9)) := by rw [Hid, E3.out, if_neg (fun h => h7 h.1)]
          clear E3 h7 HD z7 z0
          go_wp2_with fail
          go_ret3
          exact HeadSaid.ok E.out rfl hB5 hG5
end Go.Proofs.YtebcnkelbicbnaaGreatDoor
namespace Go.Proofs.YtebcnkelbicbnaaGreatDoor
open Go.RowKit

section
variable {w w' w'' : World} {H H' H'' : Snap} {g : Nat}
theorem GrowsBut.refl (hH : Holds w H) (g : Nat) : GrowsBut w H w H g := ⟨grown_refl w _, Snap.le.refl _, hH, fun _ _ h => .inl h⟩
theorem GrowsBut.trans (h : GrowsBut w H w' H' g) (k : GrowsBut w' H' w'' H'' g) : GrowsBut w H w'' H'' g :=
  ⟨grown_step h.grown k.grown (.inl rfl), h.le.trans k.le, k.holds, fun b o hb => by
    rcases k.fresh b o hb with h1 | h1
    · exact h.fresh b o h1
    · exact .inr (Nat.le_trans h.grown.size h1)⟩
theorem Grows.but (h : Grows w H w' H') (g : Nat) : GrowsBut w H w' H' g := ⟨grown_of_below h.below _, h.le, h.holds, h.fresh⟩
theorem GrowsBut.hid (h : GrowsBut w H w' H' g) {k : Nat} (hk : H k = .none) (hl : k < w.heap.size) : H' k = .none := by
  cases hH : H' k with
  | none => rfl
  | some o =>
    rcases h.fresh k o hH with hx | hx
    · rw [hk] at hx; cases hx
    · omega
/-- A deck, and data that stay. -/
structure DeckIn (w : World) (g : Nat) (H : Snap) : Prop where
  deck : Deck w g H
  holds : Holds w H
  apart : H g = .none
/-- A deck was drawn from; there is new memory. -/
structure Dealt (w : World) (H : Snap) (w' : World) (H' : Snap) (g : Nat) : Prop where
  grows : GrowsBut w H w' H' g
  deck : DeckIn w' g H'
theorem Dealt.refl (h : DeckIn w g H) : Dealt w H w H g := ⟨GrowsBut.refl h.holds g, h⟩
theorem Dealt.trans (h : Dealt w H w' H' g) (k : Dealt w' H' w'' H'' g) : Dealt w H w'' H'' g := ⟨h.grows.trans k.grows, k.deck⟩
theorem DeckIn.grows (h : DeckIn w g H) (k : Grows w H w' H') : Dealt w H w' H' g :=
  ⟨k.but g, ⟨(h.deck.below k.below).mono k.le, k.holds, k.none h.apart h.deck.lt⟩⟩
theorem Dealt.grown (h : Dealt w H w' H' g) (k : Grows w' H' w'' H'') : Dealt w H w'' H'' g := h.trans (h.deck.grows k)
theorem Dealt.alloc (h : Dealt w H w' H' g) (o : Obj) : Dealt w H (w'.alloc o) H' g := h.grown ((Grows.refl h.deck.holds).alloc o)
theorem Dealt.le (h : Dealt w H w' H' g) : H.le H' := h.grows.le
theorem Dealt.holds (h : Dealt w H w' H' g) : Holds w' H' := h.deck.holds
theorem Dealt.size (h : Dealt w H w' H' g) : w.heap.size ≤ w'.heap.size := h.grows.grown.size
theorem Dealt.hid (h : Dealt w H w' H' g) {k : Nat} (hk : H k = .none) (hl : k < w.heap.size) : H' k = .none := h.grows.hid hk hl
theorem Dealt.grownRow {row : Option Nat} (h : Dealt w H w' H' g) (h0 : ∀ k, row = some k → H' k = .none) (hw : ∀ k, row = some k → w.heap.size ≤ k) (hlt : g < w.heap.size) (hg : w'.grownBy w'' row) : Dealt w H w'' H' g := by
  have hd := h.deck
  have hne : row ≠ some g := fun e => by have := hw g e; omega
  refine ⟨⟨?_, h.le, h.holds.grown hg h0, h.grows.fresh⟩, ?_, h.holds.grown hg h0, hd.apart⟩
  · exact ⟨hg.os.trans h.grows.grown.os, hg.tape.trans h.grows.grown.tape, hg.output.trans h.grows.grown.output, Nat.le_trans h.size hg.size, fun i hi hne' =>
      (hg.block i (Nat.lt_of_lt_of_le hi h.size) (fun e => by have := hw i e.symm; omega)).trans (h.grows.grown.block i hi hne')⟩
  · obtain ⟨A, c, l, k, h1, h2, h3⟩ := hd.deck
    exact ⟨A, c, l, k, h1.grown hg hne, h2, h3⟩
theorem Blk.dealt {k : Nat} {t : TypeId} {cs : Array Value} (h : Blk w k t cs) (hd : Dealt w H w' H' g) (hk : k ≠ g) : Blk w' k t cs :=
  h.grown hd.grows.grown (by intro e; injection e with e; exact hk e.symm)
theorem OwnB.dealt {base : Nat} {v : Value} {l : List UInt8} (h : OwnB w base v l) (hd : Dealt w H w' H' g) (hb : g < base) : OwnB w' base v l := by
  refine h.kept hd.grows.grown ?_
  cases hv : v.ownBlock with
  | none => exact .inl rfl
  | some k => exact .inr (fun e => by injection e with e; have := h.lt k hv; omega)
end

theorem deck_Next {H : Snap} {g : Nat} (w : World) (hD : DeckIn w g H) (n : Int) (hn : 0 < n) (hn2 : n ≤ 1099511627776) :
    Calls Tryz.prog 27 #[.pointer (some ⟨g, 0, none⟩), .int .i64 n] w fun e w' => ∃ r : Nat, e = .returned (.int .i64 (r : Int)) ∧ (r : Int) < n ∧ Dealt w H w' H g := by
  refine (mk_Next w hD.deck hD.holds hD.apart n hn hn2).mono ?_
  rintro e w' ⟨r, rfl, h0, h1, h2, h3⟩
  obtain ⟨k, rfl⟩ := Int.eq_ofNat_of_zero_le h0
  have hH := hD.holds.grown h3 (by rintro q ⟨⟩; exact hD.apart)
  exact ⟨k, rfl, h1, ⟨h3, Snap.le.refl _, hH, fun _ _ h => .inl h⟩, h2, hH, hD.apart⟩

set_option maxRecDepth 100000 in
set_option maxHeartbeats 1600000 in
theorem mk_Bytes {H : Snap} {g : Nat} (w : World) (hD : DeckIn w g H) (n : Int) (hn : 0 ≤ n) (hn2 : n ≤ 1048576) :
    Calls Tryz.prog 26 #[.pointer (some ⟨g, 0, none⟩), .int .i64 n] w fun e w' =>
      ∃ A c l, e = .returned (.slice A l.length c) ∧ (l.length : Int) ≤ n ∧ ∃ H', IsBytes H' A c l ∧ Dealt w H w' H' g := by
  have NX := Lib.hid (deck_Next w hD (n + 1) (by omega) (by omega))
  have K0 : IntKind.i64.wrap (n + 1) = n + 1 := IntWalk.i64_in _ (by omega)
  have hgl := hD.deck.lt
  have HN := Lib.hid (And.intro hn hn2)
  have HD := Lib.hid hD
  clear hn hn2 hD
  go_enter Tryz.func26, Tryz.ntmps26
  go_wp2_with fail
  refine NX.out.mono ?_
  rintro e w1 ⟨r, rfl, hr, hd1⟩
  have hO1 := OwnB.nil w1 w.heap.size
  go_wp2_with fail
  go_loopw [5, 6] (fun v5 v6 wr => ∃ (k : Nat) (VA : Option Addr) (vc vn : Nat) (l : List UInt8), v6 = .int .i64 (k : Int) ∧ v5 = .slice VA vn vc ∧ OwnB wr w.heap.size (.slice VA vn vc) l ∧ vn = l.length ∧ (l.length : Int) + k ≤ n ∧ Dealt w H wr H g ∧ (∀ q, (Value.slice VA vn vc).ownBlock = some q → H q = none)) (fun _ v6 _ => (intOf v6).toNat)
  case atStart => exact ⟨r, _, _, _, _, rfl, rfl, hO1, rfl, by simp; omega, hd1, by intro q hq; simp [Value.ownBlock] at hq⟩
  case round =>
    obtain ⟨k, VA, vc, vn, l, rfl, rfl, hOr, hvn, hlk, hdr, hnr⟩ := hrel
    have HV := Lib.hid hvn
    have HLK := Lib.hid hlk
    clear hvn hlk
    by_cases hlt : (0 : Int) < (k : Int)
    · have NX := Lib.hid (deck_Next wr hdr.deck 256 (by omega) (by omega))
      go_wp2_with fail
      refine NX.out.mono ?_
      rintro e w2 ⟨q, rfl, hq, hd2⟩
      have hd := hdr.trans hd2
      have hO2 := hOr.dealt hd2 hgl
      have K1 : IntKind.u8.wrap (q : Int) = (q : Int) := IntWalk.u8_in _ (by omega)
      have hO3 := hO2.alloc (.cells #[.int .u8 (q : Int)] 5)
      have hd3 := hd.alloc (.cells #[.int .u8 (q : Int)] 5)
      have HC : Hid ((#[.int .u8 (q : Int)] : Array Value).toList = [u8 q].map byteV) := by
        simp only [Hid, List.map_cons, List.map_nil, byteV_u8]
        congr 2
        omega
      have hk1 : (-9223372036854775808 : Int) ≤ (k : Int) - 1 ∧ (k : Int) - 1 ≤ 9223372036854775807 := by have := HLK.out; have := HN.out; omega
      clear hq NX hdr hOr hd2 hO2 hd
      go_wp2_with (at_builtin; refine stop_in ?_)
      unfold Stopped
      obtain rfl := HV.out
      refine wpList_app_bytes rfl (.tmp 15) (.tmp 19) rfl w.heap.size (.slice VA l.length vc) _ rfl hO3 _ 1 _ [u8 q] rfl rfl (Src.new _ _ _ _ rfl _ HC.out) (by have := HLK.out; have := HN.out; simp; omega) hd3.size fun v' w7 hO7 hg7 hat7 => ?_
      obtain ⟨VA', vc', rfl, _⟩ := hO7.form
      have hd7 := hd3.grownRow hnr (fun q hq => (hO3.lt q hq).1) hgl hg7
      have hn7 : ∀ q', (Value.slice VA' (l ++ [u8 q]).length vc').ownBlock = some q' → H q' = none := fun q' hq' => by
        rcases hat7 with h | ⟨g', h1, h2⟩
        · exact hnr q' (by rw [← h, hq'])
        · rw [hq'] at h1
          injection h1 with h1
          subst h1
          exact hd3.holds.none_of_ge h2
      have hl9 : (l ++ [u8 q]).length = l.length + 1 := by simp
      rw [hl9] at hO7 hn7
      rw [hl9]
      clear hl9
      have hk2 : IntKind.i64.wrap ((k : Int) - 1) = (k : Int) - 1 := IntWalk.i64_in _ hk1
      clear hO3 hg7 hat7 hd3 hk1
      go_wp2_with fail
      go_roundw
      case rel => exact ⟨k - 1, VA', vc', _, _, by rw [show ((k - 1 : Nat) : Int) = (k : Int) - 1 by omega], rfl, hO7, by simp, by have := HLK.out; simp; omega, hd7, hn7⟩
      case measure => simp [intOf]; omega
    · go_wp2_with fail
      obtain rfl := HV.out
      obtain ⟨H', hl8, hh8, hf8, hz8, hi8⟩ := hOr.snap hdr.holds (fun q hq => hnr q (by cases VA <;> simp_all [Value.ownBlock]))
      have hG : Grows wr H wr H' → True := fun _ => trivial
      go_ret
      refine ⟨VA, vc, l, rfl, by have := HLK.out; omega, H', hi8, ⟨⟨hdr.grows.grown, hl8, hh8, fun b o hb => ?_⟩, hdr.deck.deck.mono hl8, hh8, ?_⟩⟩
      · rcases hf8 b o hb with h | h
        · exact .inl h
        · exact .inr (hOr.lt b (by cases VA <;> simp_all [Value.ownBlock])).1
      · cases hH : H' g with
        | none => rfl
        | some o =>
          rcases hf8 g o hH with h | h
          · rw [HD.out.apart] at h; cases h
          · have := (hOr.lt g (by cases VA <;> simp_all [Value.ownBlock])).1
            omega
end Go.Proofs.YtebcnkelbicbnaaGreatDoor
namespace Go.Proofs.YtebcnkelbicbnaaGreatDoor
open Go.RowKit

def isU64 : Value → Bool | .int .u64 x => decide (0 ≤ x) && decide (x < 18446744073709551616) | _ => false
def isI64 : Value → Bool | .int .i64 x => decide (-1000 ≤ x) && decide (x ≤ 1000) | _ => false
theorem isI64_spec {v : Value} (h : isI64 v = true) : ∃ x : Int, v = .int .i64 x ∧ -1000 ≤ x ∧ x ≤ 1000 := by
  unfold isI64 at h
  split at h
  · rename_i x
    rw [Bool.and_eq_true, decide_eq_true_eq, decide_eq_true_eq] at h
    exact ⟨x, rfl, h.1, h.2⟩
  · cases h
/-- What stands in a table at a place. -/
theorem Blk.pick {w : World} {g : Nat} {t : TypeId} {cs : Array Value} (h : Blk w g t cs) (P : Value → Bool) (hall : cs.all P = true) (k : Nat) (hk : k < cs.size) : ∃ v, w.cell? ⟨g, k, none⟩ = some v ∧ P v = true :=
  ⟨cs[k], h.cell k (Array.getElem?_eq_getElem hk), by rw [Array.all_eq_true] at hall; exact hall k hk⟩

end Go.Proofs.YtebcnkelbicbnaaGreatDoor
namespace Go.Proofs.YtebcnkelbicbnaaGreatDoor
open Go.RowKit

/-- The bits of 64 of a whole number. -/
def dbl (n : Nat) : Nat := if n = 0 then 0 else (1023 + n.log2) * 4503599627370496 + (n * 2 ^ (52 - n.log2) - 4503599627370496)
theorem of_int_dbl : ∀ n : Fin 1024, floatOfInt .f64 ((n.val : Nat) : Int) = dbl n.val := by decide +kernel
theorem add_dbl : ∀ n : Fin 1024, floatBits .add .f64 (dbl n.val) (dbl 1024) = some (dbl (n.val + 1024)) := by decide +kernel
/-- Once a normal number. -/
theorem mul_one_f {s e m : Nat} (hs : s ≤ 1) (he : 1 ≤ e) (he2 : e ≤ 2046) (hm : m < 4503599627370496) :
    floatBits .mul .f64 4607182418800017408 (s * 9223372036854775808 + e * 4503599627370496 + m) = some (s * 9223372036854775808 + e * 4503599627370496 + m) := by
  have e1 : Ieee.double.signWeight = 9223372036854775808 := rfl
  have e2 : Ieee.double.binade = 4503599627370496 := rfl
  have e3 : Ieee.double.infRung = 9218868437227405312 := rfl
  have e4 : Ieee.double.leastPlace = -1074 := rfl
  have e5 : Ieee.double.fractionBits = 52 := rfl
  have r1 : Ieee.double.read 4607182418800017408 = .number false 4503599627370496 (-52) := by decide +kernel
  obtain ⟨x, hx⟩ : ∃ x, s * 9223372036854775808 + e * 4503599627370496 + m = x := ⟨_, rfl⟩
  have r2 : Ieee.double.read x = .number (s % 2 == 1) (4503599627370496 + m) (-1074 + ((e - 1 : Nat) : Int)) := by
    unfold Ieee.Format.read
    rw [e1, e2, e3, e4]
    have a1 : x / 9223372036854775808 = s := by omega
    have a2 : x % 9223372036854775808 = e * 4503599627370496 + m := by omega
    simp only [a1, a2]
    rw [if_neg (by omega), if_pos (by omega)]
    congr 1
    · omega
    · have : (e * 4503599627370496 + m) / 4503599627370496 = e := by omega
      rw [this]
  rw [hx]
  show ((Ieee.double.read 4607182418800017408).product (Ieee.double.read x)).map Ieee.double.write = some x
  rw [r1, r2]
  simp only [Ieee.Datum.product, Option.map_some, Ieee.Format.write, Bool.false_bne]
  congr 1
  obtain ⟨M, hM⟩ : ∃ M, 4503599627370496 + m = M := ⟨_, rfl⟩
  have hM1 : 4503599627370496 ≤ M := by omega
  have hM2 : M < 9007199254740992 := by omega
  have hl : (4503599627370496 * M).log2 = 104 := by
    refine log2_of ?_ ?_
    · have : (2 : Nat) ^ 104 = 4503599627370496 * 4503599627370496 := by decide
      rw [this]; exact Nat.mul_le_mul_left _ hM1
    · have : (2 : Nat) ^ (104 + 1) = 4503599627370496 * 9007199254740992 := by decide
      rw [this]; exact Nat.mul_lt_mul_of_pos_left hM2 (by omega)
  rw [hM]
  unfold Ieee.Format.nearest
  rw [if_neg (by intro h; rcases Nat.mul_eq_zero.1 h with h | h <;> omega), e2, e3, e4, e5, hl]
  have p1 : max (-52 + (-1074 + ((e - 1 : Nat) : Int)) + ((104 : Nat) : Int) - ((52 : Nat) : Int)) (-1074) = -1074 + ((e - 1 : Nat) : Int) := by omega
  rw [p1]
  have p2 : (-52 + (-1074 + ((e - 1 : Nat) : Int)) - (-1074 + ((e - 1 : Nat) : Int))).toNat = 0 := by omega
  have p3 : (-1074 + ((e - 1 : Nat) : Int) - (-52 + (-1074 + ((e - 1 : Nat) : Int)))).toNat = 52 := by omega
  have p4 : (-1074 + ((e - 1 : Nat) : Int) - -1074).toNat = e - 1 := by omega
  simp only [p2, p3, p4, Nat.shiftLeft_zero]
  have hq : 4503599627370496 * M = M * 2 ^ 52 := by rw [Nat.mul_comm]
  rw [hq, cut_exact _ M 52 (by rw [← hq, hl]; omega)]
  clear p1 p2 p3 p4 hl hq r1 r2 e1 e2 e3 e4 e5
  obtain ⟨r, hr⟩ : ∃ r, min ((e - 1) * 4503599627370496 + M) 9218868437227405312 = r := ⟨_, rfl⟩
  have hr' : r = (e - 1) * 4503599627370496 + M := by
    rw [← hr]
    exact Nat.min_eq_left (by omega)
  obtain ⟨k, rfl⟩ : ∃ k, e = k + 1 := ⟨e - 1, by omega⟩
  rw [hr, word_d s r hs, hr', ← hx, ← hM, Nat.add_sub_cancel, Nat.succ_mul]
  simp only [Nat.add_assoc]
end Go.Proofs.YtebcnkelbicbnaaGreatDoor
