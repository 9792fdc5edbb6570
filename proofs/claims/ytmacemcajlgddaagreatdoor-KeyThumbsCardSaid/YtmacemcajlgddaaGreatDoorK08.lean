/- squeezed. Walks: the library's Valid of a sl -/
import Derived.Test.YtmacemcajlgddaaGreatDoorK07
import Derived.BigQuiet
set_option linter.unusedVariables false
set_option linter.unusedSimpArgs false
open List (getElem_toArray getElem_cons_zero getElem_cons_succ setIfInBounds_toArray set_cons_zero set_cons_succ)
namespace Go.Proofs.YtmacemcajlgddaaGreatDoor
open Go.RowKit
def lenV : Value → Nat
 | .slice _ n _ => n
 | _ => 0
theorem SB.skipc {H : Snap} {b off : Nat} {t : ByteArray} (h : ∀ j, j < t.size → H.cell? ⟨b, off + j, none⟩ = some (.int .u8 ((t.get! j).toNat : Int))) (k : Nat) (hk : k ≤ t.size) :
  SB H (if t.size = k then some (⟨b, off, none⟩ : Addr) else some ⟨b, off + k, none⟩) (t.extract k t.size) := fun h0 => by
 rw [Lib.ext_size] at h0
 rw [if_neg (by omega)]
 refine ⟨b, off + k, rfl, fun j hj => ?_⟩
 rw [Lib.ext_size] at hj
 rw [Nat.add_assoc, h (k + j) (by omega), ← Lib.getD_get!', ← Lib.getD_get!', Lib.ext_list]
 simp [List.getD, List.getElem?_drop]
set_option maxHeartbeats 16000000 in
set_option maxRecDepth 1000000 in
theorem utf8_ValidB {H : Snap} (hT : Tabs H) (w : World) (hH : Holds w H) (A : Option Addr) (t0 : ByteArray) (c : Nat) (hs : SB H A t0) (hc : t0.size ≤ c) (hm : t0.size ≤ 9223372036854775807) :
  Calls Tryz.prog 104 #[.slice A t0.size c] w fun e w' => e = .returned (.bool (Lib.validD t0.data.toList)) ∧ Below w.heap.size w w' := by
 obtain ⟨ANS, hANS⟩ : ∃ ANS, Lib.validD t0.data.toList = ANS := ⟨_, rfl⟩
 rw [hANS]
 have HANS := Lib.hid hANS
 clear hANS
 have hci : (t0.size : Int) ≤ c := by omega
 go_enter Tryz.func104, Tryz.ntmps104
 go_wp2
 go_loopw [0] (fun v0 wx => ∃ (B : Option Addr) (t : ByteArray), v0 = .slice B t.size t.size ∧ SB H B t ∧ Lib.validD t.data.toList = ANS ∧ t.size ≤ t0.size ∧ Below w.heap.size w wx) (fun v0 _ => lenV v0)
 case atStart => exact ⟨A, t0, rfl, hs, HANS.out, Nat.le_refl _, Below.refl _ _⟩
 case round =>
  obtain ⟨B, t, rfl, hsb, hv, hts, hbw⟩ := hrel
  have HV := Lib.hid hv
  clear hv
  by_cases h0 : 0 < t.size
  ·obtain ⟨b, off, rfl, hct⟩ := hsb h0
   have h0z : (0 : Int) < (t.size : Int) := by omega
   have hHr := hH.below hbw (Nat.le_refl _)
   have c0 := hHr.cell (hct 0 h0)
   have l0 := (t.get! 0).toNat_lt
   obtain ⟨x0, hx0⟩ : ∃ x0, t.get! 0 = x0 := ⟨_, rfl⟩
   rw [hx0] at c0 l0
   simp only [Nat.add_zero] at c0
   have HCT := Lib.hid hct
   by_cases hasc : x0.toNat < 128
   ·as_aux_lemma =>
    have hascz : (x0.toNat : Int) < 128 := by omega
    have h1z : (1 : Int) ≤ (t.size : Int) := by omega
    have a1 : Lib.Asc t 1 := Lib.asc_one t h0 (by rw [hx0]; exact hasc)
    obtain ⟨t1, ht1⟩ : ∃ t1, t.extract 1 t.size = t1 := ⟨_, rfl⟩
    have zt1 : t.size - 1 = t1.size := by rw [← ht1, Lib.ext_size]
    have sbt1 := SB.skipc hct 1 (by omega)
    rw [ht1] at sbt1
    obtain ⟨Bt1, hBt1⟩ : ∃ B, (if t.size = 1 then some (⟨b, off, none⟩ : Addr) else some ⟨b, off + 1, none⟩) = B := ⟨_, rfl⟩
    rw [hBt1] at sbt1
    have V1 : Hid (Lib.validD t1.data.toList = ANS) := by rw [Hid, ← ht1, Lib.valid_skip t 1 a1]; exact HV.out
    have HT1 := Lib.hid (And.intro zt1 hBt1)
    clear hct zt1 a1 hx0 ht1 hsb hBt1
    go_upto_region 6 with fail
    rw [HT1.out.2, HT1.out.1]
    by_cases c8 : 8 < t1.size
    ·have c8z : (8 : Int) < (t1.size : Int) := by omega
     have c8y : (8 : Int) ≤ (t1.size : Int) := by omega
     obtain ⟨A1, hA1⟩ : ∃ A1, Lib.leNat [t1.get! 0, t1.get! 1, t1.get! 2, t1.get! 3, t1.get! 4, t1.get! 5, t1.get! 6, t1.get! 7] = A1 := ⟨_, rfl⟩
     have lA1 : A1 < 18446744073709551616 := hA1 ▸ Lib.word_lt t1
     have cW1 : ∀ (c : Nat) (W : World), Holds W H → Calls Tryz.prog 130 #[.slice Bt1 t1.size c] W fun e w' => e = .returned (.int .u64 (A1 : Int)) ∧ ∃ q, w' = W.drewN q := fun c W h => by rw [← hA1]; exact utf8_word sbt1 (by omega) c W h
     have CW1 := Lib.hid cW1
     have kA1 := Lib.word_asc t1 (by omega)
     rw [hA1] at kA1
     clear cW1 hA1
     have hand1 : bits .and .u64 (A1 : Int) 9259542123273814144 = ((A1 &&& 9259542123273814144 : Nat) : Int) := u64_and_nat A1 9259542123273814144 lA1 (by omega)
     obtain ⟨Z1, hZ1⟩ : ∃ Z1, A1 &&& 9259542123273814144 = Z1 := ⟨_, rfl⟩
     rw [hZ1] at hand1 kA1
     have KA1 := Lib.hid kA1
     have HSB1 := Lib.hid sbt1
     clear hZ1 kA1 lA1 sbt1 c0 l0
     by_cases hz1 : Z1 = 0
     ·have hz1b : ((Z1 : Int) == 0) = true := by simp [hz1]
      have HZ1 := Lib.hid hz1
      clear hz1
      go_wp2_with (go_at_call 130; refine stop_in ?_)
      unfold Stopped
      refine (CW1.out _ _ hHr).mono ?_
      rintro e w5 ⟨rfl, q5, rfl⟩
      have hHc := Holds.drewN hHr q5
      have hbc := below_drewNv hbw q5
      obtain ⟨b1, off1, rfl, hct1⟩ := HSB1.out (by omega)
      obtain ⟨t2, ht2⟩ : ∃ t2, t1.extract 8 t1.size = t2 := ⟨_, rfl⟩
      have zt2 : t1.size - 8 = t2.size := by rw [← ht2, Lib.ext_size]
      have sbt2 := SB.skipc hct1 8 (by omega)
      rw [ht2, if_neg (by omega)] at sbt2
      obtain ⟨Bt2, hBt2⟩ : ∃ B, some (⟨b1, off1 + 8, none⟩ : Addr) = B := ⟨_, rfl⟩
      rw [hBt2] at sbt2
      have V2 : Hid (Lib.validD t2.data.toList = ANS) := by rw [Hid, ← ht2, Lib.valid_skip t1 8 (KA1.out.1 HZ1.out)]; exact V1.out
      have HT2 := Lib.hid (And.intro zt2 hBt2)
      generalize wr.drewN q5 = wq at hHc hbc ⊢
      clear zt2 ht2 hct1 hBt2 hbw hHr CW1 KA1 HZ1
      go_upto_region 8 with fail
      rw [HT2.out.2, HT2.out.1]
      by_cases c16 : 16 < t2.size
      ·have c16z : (16 : Int) < (t2.size : Int) := by omega
       have c16y : (16 : Int) ≤ (t2.size : Int) := by omega
       have s8z : (8 : Int) ≤ (t2.size : Int) := by omega
       have n8 : (t2.size = 8) = False := eq_false (by omega)
       obtain ⟨b2, off2, rfl, hct2⟩ := sbt2 (by omega)
       have hSB2 : SB H (some ⟨b2, off2, none⟩) t2 := sbt2
       obtain ⟨t2b, ht2b⟩ : ∃ t2b, t2.extract 8 t2.size = t2b := ⟨_, rfl⟩
       have zt2b : t2.size - 8 = t2b.size := by rw [← ht2b, Lib.ext_size]
       have sbt2b := SB.skipc hct2 8 (by omega)
       rw [ht2b, if_neg (by omega)] at sbt2b
       obtain ⟨o2b, ho2b⟩ : ∃ o, off2 + 8 = o := ⟨_, rfl⟩
       rw [ho2b] at sbt2b
       obtain ⟨A2, hA2⟩ : ∃ A2, Lib.leNat [t2.get! 0, t2.get! 1, t2.get! 2, t2.get! 3, t2.get! 4, t2.get! 5, t2.get! 6, t2.get! 7] = A2 := ⟨_, rfl⟩
       have lA2 : A2 < 18446744073709551616 := hA2 ▸ Lib.word_lt t2
       have cW2 : ∀ (c : Nat) (W : World), Holds W H → Calls Tryz.prog 130 #[.slice (some ⟨b2, off2, none⟩) t2.size c] W fun e w' => e = .returned (.int .u64 (A2 : Int)) ∧ ∃ q, w' = W.drewN q := fun c W h => by rw [← hA2]; exact utf8_word hSB2 (by omega) c W h
       have CW2 := Lib.hid cW2
       have kA2 := Lib.word_asc t2 (by omega)
       rw [hA2] at kA2
       clear cW2 hA2
       obtain ⟨A3, hA3⟩ : ∃ A3, Lib.leNat [t2b.get! 0, t2b.get! 1, t2b.get! 2, t2b.get! 3, t2b.get! 4, t2b.get! 5, t2b.get! 6, t2b.get! 7] = A3 := ⟨_, rfl⟩
       have lA3 : A3 < 18446744073709551616 := hA3 ▸ Lib.word_lt t2b
       have cW3 : ∀ (c : Nat) (W : World), Holds W H → Calls Tryz.prog 130 #[.slice (some ⟨b2, off2 + 8, none⟩) (t2.size - 8) c] W fun e w' => e = .returned (.int .u64 (A3 : Int)) ∧ ∃ q, w' = W.drewN q := fun c W h => by rw [← hA3, zt2b, ho2b]; exact utf8_word sbt2b (by omega) c W h
       have CW3 := Lib.hid cW3
       have kA3 := Lib.word_asc t2b (by omega)
       rw [hA3] at kA3
       clear cW3 hA3
       have hor2 : bits .or .u64 (A2 : Int) (A3 : Int) = ((A2 ||| A3 : Nat) : Int) := u64_or_nat A2 A3 lA2 lA3
       have lor2 : A2 ||| A3 < 18446744073709551616 := Nat.or_lt_two_pow (n := 64) lA2 lA3
       have hand2 : bits .and .u64 ((A2 ||| A3 : Nat) : Int) 9259542123273814144 = (((A2 ||| A3) &&& 9259542123273814144 : Nat) : Int) := u64_and_nat _ 9259542123273814144 lor2 (by omega)
       have k2 : (A2 ||| A3) &&& 9259542123273814144 = 0 → Lib.Asc t2 16 := fun h0' => by
        obtain ⟨e1, e2⟩ := (Lib.or_mask A2 A3 _).1 h0'
        exact Lib.asc_add t2 8 8 (kA2.1 e1) (by rw [ht2b]; exact kA3.1 e2)
       obtain ⟨O2, hO2⟩ : ∃ O2, A2 ||| A3 = O2 := ⟨_, rfl⟩
       rw [hO2] at hor2 hand2 k2
       obtain ⟨Z2, hZ2⟩ : ∃ Z2, O2 &&& 9259542123273814144 = Z2 := ⟨_, rfl⟩
       rw [hZ2] at hand2 k2
       have K2 := Lib.hid k2
       have HCT2 := Lib.hid hct2
       clear kA2 kA3 lor2 hO2 hZ2 k2 lA2 lA3 ht2b sbt2b hct2 sbt2
       obtain ⟨zz2, hzz2⟩ : ∃ zz, ((Z2 : Int) == 0) = zz := ⟨_, rfl⟩
       have HZZ := Lib.hid hzz2
       go_cut [0, 46] (fun s0 s46 wx => s0 = .slice (some ⟨b2, off2, none⟩) t2.size t2.size ∧ s46 = .bool zz2 ∧ Below w.heap.size w wx)
       case first =>
        clear zt2b ho2b hz1b hand1
        have hHq := hHc
        have hbq := hbc
        refine wp_region_ways 13 (fun _ => True) (by kernel_rfl) (trivial) (fun hHeld => ?_)
        refine Ways.takeS (i := 0) (v := ?_) rfl (by kernel_rfl) (fun _ _ _ h => h) (Or.inl ⟨by rfl, ?_⟩) hHeld ?_
        rotate_left
        ·(intro w hSw; (try dsimp only at hSw); go_simp; try with_reducible rfl)
        try simp only [Act.put, getElem_toArray, getElem_cons_zero, getElem_cons_succ, setIfInBounds_toArray, set_cons_zero, set_cons_succ]
        refine Ways.takeS (i := 1) (v := ?_) rfl (by kernel_rfl) (fun _ _ _ h => h) (Or.inl ⟨by rfl, ?_⟩) hHeld ?_
        rotate_left
        ·(intro w hSw; (try dsimp only at hSw); go_simp; try with_reducible rfl)
        try simp only [Act.put, getElem_toArray, getElem_cons_zero, getElem_cons_succ, setIfInBounds_toArray, set_cons_zero, set_cons_succ]
        refine Ways.takeS (i := 2) (v := ?_) rfl (by kernel_rfl) (fun _ _ _ h => h) (Or.inl ⟨by rfl, ?_⟩) hHeld ?_
        rotate_left
        ·(intro w hSw; (try dsimp only at hSw); go_simp; try with_reducible rfl)
        try simp only [Act.put, getElem_toArray, getElem_cons_zero, getElem_cons_succ, setIfInBounds_toArray, set_cons_zero, set_cons_succ]
        refine Ways.takeS (i := 3) (v := ?_) rfl (by kernel_rfl) (fun _ _ _ h => h) (Or.inl ⟨by rfl, ?_⟩) hHeld ?_
        rotate_left
        ·(intro w hSw; (try dsimp only at hSw); go_simp; try with_reducible rfl)
        try simp only [Act.put, getElem_toArray, getElem_cons_zero, getElem_cons_succ, setIfInBounds_toArray, set_cons_zero, set_cons_succ]
        refine Ways.takeS (i := 4) (v := ?_) rfl (by kernel_rfl) (fun _ _ _ h => h) (Or.inl ⟨?_, ?_⟩) hHeld ?_
        rotate_left
        ·kernel_rfl
        ·(intro w hSw; (try dsimp only at hSw); go_simp; try with_reducible rfl)
        try simp only [Act.put, getElem_toArray, getElem_cons_zero, getElem_cons_succ, setIfInBounds_toArray, set_cons_zero, set_cons_succ]
        refine Ways.takeS (i := 6) (v := ?_) rfl (by kernel_rfl) (fun _ _ _ h => h) (Or.inl ⟨?_, ?_⟩) hHeld ?_
        rotate_left
        ·kernel_rfl
        ·(intro w hSw; (try dsimp only at hSw); go_simp; try with_reducible rfl)
        try simp only [Act.put, getElem_toArray, getElem_cons_zero, getElem_cons_succ, setIfInBounds_toArray, set_cons_zero, set_cons_succ]
        refine Ways.takeS (i := 7) (v := ?_) rfl (by kernel_rfl) (fun _ _ _ h => h) (Or.inl ⟨?_, ?_⟩) hHeld ?_
        rotate_left
        ·kernel_rfl
        ·(intro w hSw; (try dsimp only at hSw); go_simp; try with_reducible rfl)
        try simp only [Act.put, getElem_toArray, getElem_cons_zero, getElem_cons_succ, setIfInBounds_toArray, set_cons_zero, set_cons_succ]
        refine Ways.one (i := 5) rfl (by kernel_rfl) (fun K hK => ?_)
        go_simp
        refine (CW2.out _ _ (by repeat (first | exact hHq | exact hHq.drew | refine Holds.drewN ?_ _))).mono ?_
        rintro e w5 ⟨rfl, q5, rfl⟩
        refine hK.out _ _ (fun _ => ?_) (fun hHeld => ?_)
        ·exact trivial
        clear hK K
        have hHeld := hHeld (by decide)
        try simp only [Act.put, getElem_toArray, getElem_cons_zero, getElem_cons_succ, setIfInBounds_toArray, set_cons_zero, set_cons_succ]
        refine Ways.one (i := 8) rfl (by kernel_rfl) (fun K hK => ?_)
        go_simp
        refine (CW3.out _ _ (by repeat (first | exact hHq | exact hHq.drew | refine Holds.drewN ?_ _))).mono ?_
        rintro e w5 ⟨rfl, q5, rfl⟩
        refine hK.out _ _ (fun _ => ?_) (fun hHeld => ?_)
        ·exact trivial
        clear hK K
        have hHeld := hHeld (by decide)
        try simp only [Act.put, getElem_toArray, getElem_cons_zero, getElem_cons_succ, setIfInBounds_toArray, set_cons_zero, set_cons_succ]
        refine Ways.takeS (i := 9) (v := ?_) rfl (by kernel_rfl) (fun _ _ _ h => h) (Or.inl ⟨?_, ?_⟩) hHeld ?_
        rotate_left
        ·kernel_rfl
        ·(intro w hSw; (try dsimp only at hSw); go_simp; try with_reducible rfl)
        try simp only [Act.put, getElem_toArray, getElem_cons_zero, getElem_cons_succ, setIfInBounds_toArray, set_cons_zero, set_cons_succ]
        refine Ways.takeS (i := 10) (v := ?_) rfl (by kernel_rfl) (fun _ _ _ h => h) (Or.inl ⟨?_, ?_⟩) hHeld ?_
        rotate_left
        ·kernel_rfl
        ·(intro w hSw; (try dsimp only at hSw); go_simp; try with_reducible rfl)
        try simp only [Act.put, getElem_toArray, getElem_cons_zero, getElem_cons_succ, setIfInBounds_toArray, set_cons_zero, set_cons_succ]
        refine Ways.takeS (i := 11) (v := ?_) rfl (by kernel_rfl) (fun _ _ _ h => h) (Or.inl ⟨?_, ?_⟩) hHeld ?_
        rotate_left
        ·kernel_rfl
        ·(intro w hSw; (try dsimp only at hSw); go_simp; try with_reducible rfl)
        try simp only [Act.put, getElem_toArray, getElem_cons_zero, getElem_cons_succ, setIfInBounds_toArray, set_cons_zero, set_cons_succ]
        refine Ways.takeS (i := 12) (v := ?_) rfl (by kernel_rfl) (fun _ _ _ h => h) (Or.inl ⟨by rfl, ?_⟩) hHeld ?_
        rotate_left
        ·(intro w hSw; (try dsimp only at hSw); go_simp; try with_reducible rfl)
        try simp only [Act.put, getElem_toArray, getElem_cons_zero, getElem_cons_succ, setIfInBounds_toArray, set_cons_zero, set_cons_succ]
        refine Ways.done (by kernel_rfl) ?_
        go_wp2_with fail
        go_meet
        exact ⟨rfl, rfl, by repeat (first | exact hbq | exact hbq.drew | refine below_drewNv ?_ _)⟩
       case rest =>
        clear hbc hHc
        obtain ⟨rfl, rfl, hbc⟩ := hcut
        have hHc := hH.below hbc (Nat.le_refl _)
        cases zz2 with
        | true =>
         have hz2 : Z2 = 0 := by have := HZZ.out; simpa using this
         have hct2 := HCT2.out
         obtain ⟨t3, ht3⟩ : ∃ t3, t2.extract 16 t2.size = t3 := ⟨_, rfl⟩
         have zt3 : t2.size - 16 = t3.size := by rw [← ht3, Lib.ext_size]
         have sbt3 := SB.skipc hct2 16 (by omega)
         rw [ht3, if_neg (by omega)] at sbt3
         obtain ⟨Bt3, hBt3⟩ : ∃ B, some (⟨b2, off2 + 16, none⟩ : Addr) = B := ⟨_, rfl⟩
         rw [hBt3] at sbt3
         have V3 : Hid (Lib.validD t3.data.toList = ANS) := by rw [Hid, ← ht3, Lib.valid_skip t2 16 (K2.out hz2)]; exact V2.out
         have HT3 := Lib.hid (And.intro zt3 hBt3)
         have HLT := Lib.hid (show t3.size < t.size ∧ t3.size ≤ t0.size by have := HT1.out.1; have := HT2.out.1; omega)
         clear zt3 ht3 hBt3 hct2 hand2 hor2 hzz2 hz2 CW2 CW3 hand1 zt2b ho2b
         go_wp2_with fail
         rw [HT3.out.2, HT3.out.1]
         go_loopw [0] (fun v0 wx => ∃ (B : Option Addr) (u : ByteArray), v0 = .slice B u.size u.size ∧ SB H B u ∧ Lib.validD u.data.toList = ANS ∧ u.size ≤ t3.size ∧ Below w.heap.size w wx) (fun v0 _ => lenV v0)
         case atStart => exact ⟨_, t3, rfl, sbt3, V3.out, Nat.le_refl _, hbc⟩
         case round =>
          clear sbt3 hbc hHc
          obtain ⟨BU, u, rfl, sbu, hvu, hus, hbc⟩ := hrel
          have VU := Lib.hid hvu
          clear hvu
          have hHc := hH.below hbc (Nat.le_refl _)
          by_cases c32 : 32 < u.size
          ·have c32z : (32 : Int) < (u.size : Int) := by omega
           have c32y : (32 : Int) ≤ (u.size : Int) := by omega
           have s8u : (8 : Int) ≤ (u.size : Int) := by omega
           have s16u : (16 : Int) ≤ (u.size : Int) := by omega
           have s24u : (24 : Int) ≤ (u.size : Int) := by omega
           have n8u : (u.size = 8) = False := eq_false (by omega)
           have n16u : (u.size = 16) = False := eq_false (by omega)
           have n24u : (u.size = 24) = False := eq_false (by omega)
           obtain ⟨bu, ou, rfl, hcu⟩ := sbu (by omega)
           obtain ⟨ub, hub⟩ : ∃ ub, u.extract 8 u.size = ub := ⟨_, rfl⟩
           have zub : u.size - 8 = ub.size := by rw [← hub, Lib.ext_size]
           have sbub := SB.skipc hcu 8 (by omega)
           rw [hub, if_neg (by omega)] at sbub
           obtain ⟨oub, houb⟩ : ∃ o, ou + 8 = o := ⟨_, rfl⟩
           rw [houb] at sbub
           obtain ⟨uc, huc⟩ : ∃ uc, u.extract 16 u.size = uc := ⟨_, rfl⟩
           have zuc : u.size - 16 = uc.size := by rw [← huc, Lib.ext_size]
           have sbuc := SB.skipc hcu 16 (by omega)
           rw [huc, if_neg (by omega)] at sbuc
           obtain ⟨ouc, houc⟩ : ∃ o, ou + 16 = o := ⟨_, rfl⟩
           rw [houc] at sbuc
           obtain ⟨ud, hud⟩ : ∃ ud, u.extract 24 u.size = ud := ⟨_, rfl⟩
           have zud : u.size - 24 = ud.size := by rw [← hud, Lib.ext_size]
           have sbud := SB.skipc hcu 24 (by omega)
           rw [hud, if_neg (by omega)] at sbud
           obtain ⟨oud, houd⟩ : ∃ o, ou + 24 = o := ⟨_, rfl⟩
           rw [houd] at sbud
           obtain ⟨A4, hA4⟩ : ∃ A4, Lib.leNat [u.get! 0, u.get! 1, u.get! 2, u.get! 3, u.get! 4, u.get! 5, u.get! 6, u.get! 7] = A4 := ⟨_, rfl⟩
           have lA4 : A4 < 18446744073709551616 := hA4 ▸ Lib.word_lt u
           have cW4 : ∀ (c : Nat) (W : World), Holds W H → Calls Tryz.prog 130 #[.slice (some ⟨bu, ou, none⟩) u.size c] W fun e w' => e = .returned (.int .u64 (A4 : Int)) ∧ ∃ q, w' = W.drewN q := fun c W h => by rw [← hA4]; exact utf8_word (fun _ => ⟨bu, ou, rfl, hcu⟩) (by omega) c W h
           have CW4 := Lib.hid cW4
           have kA4 := Lib.word_asc u (by omega)
           rw [hA4] at kA4
           clear cW4 hA4
           obtain ⟨A5, hA5⟩ : ∃ A5, Lib.leNat [ub.get! 0, ub.get! 1, ub.get! 2, ub.get! 3, ub.get! 4, ub.get! 5, ub.get! 6, ub.get! 7] = A5 := ⟨_, rfl⟩
           have lA5 : A5 < 18446744073709551616 := hA5 ▸ Lib.word_lt ub
           have cW5 : ∀ (c : Nat) (W : World), Holds W H → Calls Tryz.prog 130 #[.slice (some ⟨bu, ou + 8, none⟩) (u.size - 8) c] W fun e w' => e = .returned (.int .u64 (A5 : Int)) ∧ ∃ q, w' = W.drewN q := fun c W h => by rw [← hA5, zub, houb]; exact utf8_word sbub (by omega) c W h
           have CW5 := Lib.hid cW5
           have kA5 := Lib.word_asc ub (by omega)
           rw [hA5] at kA5
           clear cW5 hA5
           obtain ⟨A6, hA6⟩ : ∃ A6, Lib.leNat [uc.get! 0, uc.get! 1, uc.get! 2, uc.get! 3, uc.get! 4, uc.get! 5, uc.get! 6, uc.get! 7] = A6 := ⟨_, rfl⟩
           have lA6 : A6 < 18446744073709551616 := hA6 ▸ Lib.word_lt uc
           have cW6 : ∀ (c : Nat) (W : World), Holds W H → Calls Tryz.prog 130 #[.slice (some ⟨bu, ou + 16, none⟩) (u.size - 16) c] W fun e w' => e = .returned (.int .u64 (A6 : Int)) ∧ ∃ q, w' = W.drewN q := fun c W h => by rw [← hA6, zuc, houc]; exact utf8_word sbuc (by omega) c W h
           have CW6 := Lib.hid cW6
           have kA6 := Lib.word_asc uc (by omega)
           rw [hA6] at kA6
           clear cW6 hA6
           obtain ⟨A7, hA7⟩ : ∃ A7, Lib.leNat [ud.get! 0, ud.get! 1, ud.get! 2, ud.get! 3, ud.get! 4, ud.get! 5, ud.get! 6, ud.get! 7] = A7 := ⟨_, rfl⟩
           have lA7 : A7 < 18446744073709551616 := hA7 ▸ Lib.word_lt ud
           have cW7 : ∀ (c : Nat) (W : World), Holds W H → Calls Tryz.prog 130 #[.slice (some ⟨bu, ou + 24, none⟩) (u.size - 24) c] W fun e w' => e = .returned (.int .u64 (A7 : Int)) ∧ ∃ q, w' = W.drewN q := fun c W h => by rw [← hA7, zud, houd]; exact utf8_word sbud (by omega) c W h
           have CW7 := Lib.hid cW7
           have kA7 := Lib.word_asc ud (by omega)
           rw [hA7] at kA7
           clear cW7 hA7
           have ho1 : bits .or .u64 (A4 : Int) (A5 : Int) = ((A4 ||| A5 : Nat) : Int) := u64_or_nat A4 A5 lA4 lA5
           have ho2 : bits .or .u64 (A6 : Int) (A7 : Int) = ((A6 ||| A7 : Nat) : Int) := u64_or_nat A6 A7 lA6 lA7
           have lo1 : A4 ||| A5 < 18446744073709551616 := Nat.or_lt_two_pow (n := 64) lA4 lA5
           have lo2 : A6 ||| A7 < 18446744073709551616 := Nat.or_lt_two_pow (n := 64) lA6 lA7
           have ho3 : bits .or .u64 ((A4 ||| A5 : Nat) : Int) ((A6 ||| A7 : Nat) : Int) = (((A4 ||| A5) ||| (A6 ||| A7) : Nat) : Int) := u64_or_nat _ _ lo1 lo2
           have lo3 : (A4 ||| A5) ||| (A6 ||| A7) < 18446744073709551616 := Nat.or_lt_two_pow (n := 64) lo1 lo2
           have hand3 : bits .and .u64 (((A4 ||| A5) ||| (A6 ||| A7) : Nat) : Int) 9259542123273814144 = ((((A4 ||| A5) ||| (A6 ||| A7)) &&& 9259542123273814144 : Nat) : Int) := u64_and_nat _ 9259542123273814144 lo3 (by omega)
           have k3 : ((A4 ||| A5) ||| (A6 ||| A7)) &&& 9259542123273814144 = 0 → Lib.Asc u 32 := fun h0' => by
            obtain ⟨e01, e23⟩ := (Lib.or_mask _ _ _).1 h0'
            obtain ⟨e0, e1⟩ := (Lib.or_mask _ _ _).1 e01
            obtain ⟨e2, e3⟩ := (Lib.or_mask _ _ _).1 e23
            have s16 : Lib.Asc u 16 := Lib.asc_add u 8 8 (kA4.1 e0) (by rw [hub]; exact kA5.1 e1)
            have s24 : Lib.Asc u 24 := Lib.asc_add u 16 8 s16 (by rw [huc]; exact kA6.1 e2)
            exact Lib.asc_add u 24 8 s24 (by rw [hud]; exact kA7.1 e3)
           obtain ⟨P1, hP1⟩ : ∃ P1, A4 ||| A5 = P1 := ⟨_, rfl⟩
           obtain ⟨P2, hP2⟩ : ∃ P2, A6 ||| A7 = P2 := ⟨_, rfl⟩
           rw [hP1, hP2] at ho3 hand3 k3
           rw [hP1] at ho1
           rw [hP2] at ho2
           obtain ⟨P3, hP3⟩ : ∃ P3, P1 ||| P2 = P3 := ⟨_, rfl⟩
           rw [hP3] at ho3 hand3 k3
           obtain ⟨Z3, hZ3⟩ : ∃ Z3, P3 &&& 9259542123273814144 = Z3 := ⟨_, rfl⟩
           rw [hZ3] at hand3 k3
           have K3 := Lib.hid k3
           have HCU := Lib.hid hcu
           clear kA4 kA5 kA6 kA7 lo1 lo2 lo3 hP1 hP2 hP3 hZ3 k3 hub sbub huc sbuc hud sbud lA4 lA5 lA6 lA7 hcu sbu
           obtain ⟨zz3, hzz3⟩ : ∃ zz, ((Z3 : Int) == 0) = zz := ⟨_, rfl⟩
           have HZ3 := Lib.hid hzz3
           go_upto_region 10 with fail
           go_cut [0, 69] (fun s0 s69 wx => s0 = .slice (some ⟨bu, ou, none⟩) u.size u.size ∧ s69 = .bool zz3 ∧ Below w.heap.size w wx)
           case first =>
            clear zub zuc zud houb houc houd
            have hHq := hHc
            have hbq := hbc
            refine wp_region_ways 21 (fun _ => True) (by kernel_rfl) (trivial) (fun hHeld => ?_)
            refine Ways.takeS (i := 0) (v := ?_) rfl (by kernel_rfl) (fun _ _ _ h => h) (Or.inl ⟨by rfl, ?_⟩) hHeld ?_
            rotate_left
            ·(intro w hSw; (try dsimp only at hSw); go_simp; try with_reducible rfl)
            try simp only [Act.put, getElem_toArray, getElem_cons_zero, getElem_cons_succ, setIfInBounds_toArray, set_cons_zero, set_cons_succ]
            refine Ways.takeS (i := 1) (v := ?_) rfl (by kernel_rfl) (fun _ _ _ h => h) (Or.inl ⟨by rfl, ?_⟩) hHeld ?_
            rotate_left
            ·(intro w hSw; (try dsimp only at hSw); go_simp; try with_reducible rfl)
            try simp only [Act.put, getElem_toArray, getElem_cons_zero, getElem_cons_succ, setIfInBounds_toArray, set_cons_zero, set_cons_succ]
            refine Ways.takeS (i := 2) (v := ?_) rfl (by kernel_rfl) (fun _ _ _ h => h) (Or.inl ⟨by rfl, ?_⟩) hHeld ?_
            rotate_left
            ·(intro w hSw; (try dsimp only at hSw); go_simp; try with_reducible rfl)
            try simp only [Act.put, getElem_toArray, getElem_cons_zero, getElem_cons_succ, setIfInBounds_toArray, set_cons_zero, set_cons_succ]
            refine Ways.takeS (i := 3) (v := ?_) rfl (by kernel_rfl) (fun _ _ _ h => h) (Or.inl ⟨by rfl, ?_⟩) hHeld ?_
            rotate_left
            ·(intro w hSw; (try dsimp only at hSw); go_simp; try with_reducible rfl)
            try simp only [Act.put, getElem_toArray, getElem_cons_zero, getElem_cons_succ, setIfInBounds_toArray, set_cons_zero, set_cons_succ]
            refine Ways.takeS (i := 4) (v := ?_) rfl (by kernel_rfl) (fun _ _ _ h => h) (Or.inl ⟨?_, ?_⟩) hHeld ?_
            rotate_left
            ·kernel_rfl
            ·(intro w hSw; (try dsimp only at hSw); go_simp; try with_reducible rfl)
            try simp only [Act.put, getElem_toArray, getElem_cons_zero, getElem_cons_succ, setIfInBounds_toArray, set_cons_zero, set_cons_succ]
            refine Ways.takeS (i := 6) (v := ?_) rfl (by kernel_rfl) (fun _ _ _ h => h) (Or.inl ⟨?_, ?_⟩) hHeld ?_
            rotate_left
            ·kernel_rfl
            ·(intro w hSw; (try dsimp only at hSw); go_simp; try with_reducible rfl)
            try simp only [Act.put, getElem_toArray, getElem_cons_zero, getElem_cons_succ, setIfInBounds_toArray, set_cons_zero, set_cons_succ]
            refine Ways.takeS (i := 7) (v := ?_) rfl (by kernel_rfl) (fun _ _ _ h => h) (Or.inl ⟨?_, ?_⟩) hHeld ?_
            rotate_left
            ·kernel_rfl
            ·(intro w hSw; (try dsimp only at hSw); go_simp; try with_reducible rfl)
            try simp only [Act.put, getElem_toArray, getElem_cons_zero, getElem_cons_succ, setIfInBounds_toArray, set_cons_zero, set_cons_succ]
            refine Ways.takeS (i := 10) (v := ?_) rfl (by kernel_rfl) (fun _ _ _ h => h) (Or.inl ⟨?_, ?_⟩) hHeld ?_
            rotate_left
            ·kernel_rfl
            ·(intro w hSw; (try dsimp only at hSw); go_simp; try with_reducible rfl)
            try simp only [Act.put, getElem_toArray, getElem_cons_zero, getElem_cons_succ, setIfInBounds_toArray, set_cons_zero, set_cons_succ]
            refine Ways.takeS (i := 11) (v := ?_) rfl (by kernel_rfl) (fun _ _ _ h => h) (Or.inl ⟨?_, ?_⟩) hHeld ?_
            rotate_left
            ·kernel_rfl
            ·(intro w hSw; (try dsimp only at hSw); go_simp; try with_reducible rfl)
            try simp only [Act.put, getElem_toArray, getElem_cons_zero, getElem_cons_succ, setIfInBounds_toArray, set_cons_zero, set_cons_succ]
            refine Ways.takeS (i := 13) (v := ?_) rfl (by kernel_rfl) (fun _ _ _ h => h) (Or.inl ⟨?_, ?_⟩) hHeld ?_
            rotate_left
            ·kernel_rfl
            ·(intro w hSw; (try dsimp only at hSw); go_simp; try with_reducible rfl)
            try simp only [Act.put, getElem_toArray, getElem_cons_zero, getElem_cons_succ, setIfInBounds_toArray, set_cons_zero, set_cons_succ]
            refine Ways.takeS (i := 14) (v := ?_) rfl (by kernel_rfl) (fun _ _ _ h => h) (Or.inl ⟨?_, ?_⟩) hHeld ?_
            rotate_left
            ·kernel_rfl
            ·(intro w hSw; (try dsimp only at hSw); go_simp; try with_reducible rfl)
            try simp only [Act.put, getElem_toArray, getElem_cons_zero, getElem_cons_succ, setIfInBounds_toArray, set_cons_zero, set_cons_succ]
            refine Ways.one (i := 5) rfl (by kernel_rfl) (fun K hK => ?_)
            go_simp
            refine (CW4.out _ _ (by repeat (first | exact hHq | exact hHq.drew | refine Holds.drewN ?_ _))).mono ?_
            rintro e w5 ⟨rfl, q5, rfl⟩
            refine hK.out _ _ (fun _ => ?_) (fun hHeld => ?_)
            ·exact trivial
            clear hK K
            have hHeld := hHeld (by decide)
            try simp only [Act.put, getElem_toArray, getElem_cons_zero, getElem_cons_succ, setIfInBounds_toArray, set_cons_zero, set_cons_succ]
            refine Ways.one (i := 8) rfl (by kernel_rfl) (fun K hK => ?_)
            go_simp
            refine (CW5.out _ _ (by repeat (first | exact hHq | exact hHq.drew | refine Holds.drewN ?_ _))).mono ?_
            rintro e w5 ⟨rfl, q5, rfl⟩
            refine hK.out _ _ (fun _ => ?_) (fun hHeld => ?_)
            ·exact trivial
            clear hK K
            have hHeld := hHeld (by decide)
            try simp only [Act.put, getElem_toArray, getElem_cons_zero, getElem_cons_succ, setIfInBounds_toArray, set_cons_zero, set_cons_succ]
            refine Ways.takeS (i := 9) (v := ?_) rfl (by kernel_rfl) (fun _ _ _ h => h) (Or.inl ⟨?_, ?_⟩) hHeld ?_
            rotate_left
            ·kernel_rfl
            ·(intro w hSw; (try dsimp only at hSw); go_simp; try with_reducible rfl)
            try simp only [Act.put, getElem_toArray, getElem_cons_zero, getElem_cons_succ, setIfInBounds_toArray, set_cons_zero, set_cons_succ]
            refine Ways.one (i := 12) rfl (by kernel_rfl) (fun K hK => ?_)
            go_simp
            refine (CW6.out _ _ (by repeat (first | exact hHq | exact hHq.drew | refine Holds.drewN ?_ _))).mono ?_
            rintro e w5 ⟨rfl, q5, rfl⟩
            refine hK.out _ _ (fun _ => ?_) (fun hHeld => ?_)
            ·exact trivial
            clear hK K
            have hHeld := hHeld (by decide)
            try simp only [Act.put, getElem_toArray, getElem_cons_zero, getElem_cons_succ, setIfInBounds_toArray, set_cons_zero, set_cons_succ]
            refine Ways.one (i := 15) rfl (by kernel_rfl) (fun K hK => ?_)
            go_simp
            refine (CW7.out _ _ (by repeat (first | exact hHq | exact hHq.drew | refine Holds.drewN ?_ _))).mono ?_
            rintro e w5 ⟨rfl, q5, rfl⟩
            refine hK.out _ _ (fun _ => ?_) (fun hHeld => ?_)
            ·exact trivial
            clear hK K
            have hHeld := hHeld (by decide)
            try simp only [Act.put, getElem_toArray, getElem_cons_zero, getElem_cons_succ, setIfInBounds_toArray, set_cons_zero, set_cons_succ]
            refine Ways.takeS (i := 16) (v := ?_) rfl (by kernel_rfl) (fun _ _ _ h => h) (Or.inl ⟨?_, ?_⟩) hHeld ?_
            rotate_left
            ·kernel_rfl
            ·(intro w hSw; (try dsimp only at hSw); go_simp; try with_reducible rfl)
            try simp only [Act.put, getElem_toArray, getElem_cons_zero, getElem_cons_succ, setIfInBounds_toArray, set_cons_zero, set_cons_succ]
            refine Ways.takeS (i := 17) (v := ?_) rfl (by kernel_rfl) (fun _ _ _ h => h) (Or.inl ⟨?_, ?_⟩) hHeld ?_
            rotate_left
            ·kernel_rfl
            ·(intro w hSw; (try dsimp only at hSw); go_simp; try with_reducible rfl)
            try simp only [Act.put, getElem_toArray, getElem_cons_zero, getElem_cons_succ, setIfInBounds_toArray, set_cons_zero, set_cons_succ]
            refine Ways.takeS (i := 18) (v := ?_) rfl (by kernel_rfl) (fun _ _ _ h => h) (Or.inl ⟨?_, ?_⟩) hHeld ?_
            rotate_left
            ·kernel_rfl
            ·(intro w hSw; (try dsimp only at hSw); go_simp; try with_reducible rfl)
            try simp only [Act.put, getElem_toArray, getElem_cons_zero, getElem_cons_succ, setIfInBounds_toArray, set_cons_zero, set_cons_succ]
            refine Ways.takeS (i := 19) (v := ?_) rfl (by kernel_rfl) (fun _ _ _ h => h) (Or.inl ⟨?_, ?_⟩) hHeld ?_
            rotate_left
            ·kernel_rfl
            ·(intro w hSw; (try dsimp only at hSw); go_simp; try with_reducible rfl)
            try simp only [Act.put, getElem_toArray, getElem_cons_zero, getElem_cons_succ, setIfInBounds_toArray, set_cons_zero, set_cons_succ]
            refine Ways.takeS (i := 20) (v := ?_) rfl (by kernel_rfl) (fun _ _ _ h => h) (Or.inl ⟨by rfl, ?_⟩) hHeld ?_
            rotate_left
            ·(intro w hSw; (try dsimp only at hSw); go_simp; try with_reducible rfl)
            try simp only [Act.put, getElem_toArray, getElem_cons_zero, getElem_cons_succ, setIfInBounds_toArray, set_cons_zero, set_cons_succ]
            refine Ways.done (by kernel_rfl) ?_
            go_wp2_with fail
            go_meet
            exact ⟨rfl, rfl, by repeat (first | exact hbq | exact hbq.drew | refine below_drewNv ?_ _)⟩
           case rest =>
            clear hbc hHc
            obtain ⟨rfl, rfl, hbc⟩ := hcut
            cases zz3 with
            | true =>
             have hz3 : Z3 = 0 := by have := HZ3.out; simpa using this
             have hcu := HCU.out
             obtain ⟨u2, hu2⟩ : ∃ u2, u.extract 32 u.size = u2 := ⟨_, rfl⟩
             have zu2 : u.size - 32 = u2.size := by rw [← hu2, Lib.ext_size]
             have sbu2 := SB.skipc hcu 32 (by omega)
             rw [hu2, if_neg (by omega)] at sbu2
             obtain ⟨Bu2, hBu2⟩ : ∃ B, some (⟨bu, ou + 32, none⟩ : Addr) = B := ⟨_, rfl⟩
             rw [hBu2] at sbu2
             have VU2 : Hid (Lib.validD u2.data.toList = ANS) := by rw [Hid, ← hu2, Lib.valid_skip u 32 (K3.out hz3)]; exact VU.out
             have HU2 := Lib.hid (And.intro zu2 hBu2)
             have HLU := Lib.hid (show u2.size < u.size ∧ u2.size ≤ t3.size by omega)
             clear zu2 hu2 hBu2 hcu hz3 hzz3 hand3 ho1 ho2 ho3 zub zuc zud houb houc houd
             go_wp2_with fail
             rw [HU2.out.2, HU2.out.1]
             go_roundw
             case rel => exact ⟨_, u2, rfl, sbu2, VU2.out, HLU.out.2, hbc⟩
             case measure => have := HLU.out.1; simp [lenV]; omega
            | false =>
             have hu0 : SB H (some ⟨bu, ou, none⟩) u := fun _ => ⟨bu, ou, rfl, HCU.out⟩
             have HL2 := Lib.hid (show u.size < t.size ∧ u.size ≤ t0.size by have := HLT.out; omega)
             go_wp2_with fail
             go_roundw
             case rel => exact ⟨_, u, rfl, hu0, VU.out, HL2.out.2, hbc⟩
             case measure => have := HL2.out.1; simp [lenV]; omega
          ·have c32z : ¬ ((32 : Int) < (u.size : Int)) := by omega
           have c32b : decide ((32 : Int) < (u.size : Int)) = false := decide_eq_false c32z
           have HL2 := Lib.hid (show u.size < t.size ∧ u.size ≤ t0.size by have := HLT.out; omega)
           go_upto_region 10 with fail
           go_big_quiet (fail)
           have hbc := below_drewNv hbc nq
           go_wp2_with fail
           go_roundw
           case rel => exact ⟨_, u, rfl, sbu, VU.out, HL2.out.2, hbc⟩
           case measure => have := HL2.out.1; simp [lenV]; omega
        | false =>
         have hu0 : SB H (some ⟨b2, off2, none⟩) t2 := fun _ => ⟨b2, off2, rfl, HCT2.out⟩
         have HLT := Lib.hid (show t2.size < t.size ∧ t2.size ≤ t0.size by have := HT1.out.1; have := HT2.out.1; omega)
         go_wp2_with fail
         go_roundw
         case rel => exact ⟨_, t2, rfl, hu0, V2.out, HLT.out.2, hbc⟩
         case measure => have := HLT.out.1; simp [lenV]; omega
      ·have c16z : ¬ ((16 : Int) < (t2.size : Int)) := by omega
       have c16b : decide ((16 : Int) < (t2.size : Int)) = false := decide_eq_false c16z
       have HLT := Lib.hid (show t2.size < t.size ∧ t2.size ≤ t0.size by have := HT1.out.1; have := HT2.out.1; omega)
       go_big_quiet (fail)
       have hbc := below_drewNv hbc nq
       go_wp2_with fail
       go_roundw
       case rel => exact ⟨_, t2, rfl, sbt2, V2.out, HLT.out.2, hbc⟩
       case measure => have := HLT.out.1; simp [lenV]; omega
     ·have hz1b : ((Z1 : Int) == 0) = false := by simp; omega
      have HLT := Lib.hid (show t1.size < t.size ∧ t1.size ≤ t0.size by have := HT1.out.1; omega)
      go_wp2_with (go_at_call 130; refine stop_in ?_)
      unfold Stopped
      refine (CW1.out _ _ hHr).mono ?_
      rintro e w5 ⟨rfl, q5, rfl⟩
      have hbc := below_drewNv hbw q5
      go_wp2_with fail
      go_roundw
      case rel => exact ⟨_, t1, rfl, HSB1.out, V1.out, HLT.out.2, hbc⟩
      case measure => have := HLT.out.1; simp [lenV]; omega
    ·have c8z : ¬ ((8 : Int) < (t1.size : Int)) := by omega
     have HLT := Lib.hid (show t1.size < t.size ∧ t1.size ≤ t0.size by have := HT1.out.1; omega)
     go_wp2_with fail
     go_roundw
     case rel => exact ⟨_, t1, rfl, sbt1, V1.out, HLT.out.2, hbw⟩
     case measure => have := HLT.out.1; simp [lenV]; omega
   ·have hge : 128 ≤ x0.toNat := by omega
    have hascz : ¬ ((x0.toNat : Int) < 128) := by omega
    obtain ⟨x1, hx1⟩ : ∃ x1, t.get! 1 = x1 := ⟨_, rfl⟩
    obtain ⟨x2, hx2⟩ : ∃ x2, t.get! 2 = x2 := ⟨_, rfl⟩
    obtain ⟨x3, hx3⟩ : ∃ x3, t.get! 3 = x3 := ⟨_, rfl⟩
    have l1 := x1.toNat_lt; have l2 := x2.toNat_lt; have l3 := x3.toNat_lt
    have hne : t.data.toList ≠ [] := fun h => by rw [Lib.size_eq, h] at h0; simp at h0
    have hlead := Lib.validD_lead t.data.toList hne (by rw [Lib.getD_get!', hx0]; exact hge)
    rw [Lib.getD_get!', Lib.getD_get!', Lib.getD_get!', Lib.getD_get!', hx0, hx1, hx2, hx3, ← Lib.size_eq, HV.out] at hlead
    have hTr := hT wr hHr
    have hc0 := hTr.1 x0.toNat (by omega)
    have hXlt : Lib.firstT x0.toNat < 256 := by rcases Lib.firstT_cases x0.toNat with h | h | h | h | h | h | h | h | h <;> omega
    obtain ⟨X, hX⟩ : ∃ X, Lib.firstT x0.toNat = X := ⟨_, rfl⟩
    rw [hX] at hc0 hXlt hlead
    have h7 := and7 ⟨X, hXlt⟩
    simp only at h7
    have ha0 : wr.cell? ⟨3, X / 16 * 2, none⟩ = some (.int .u8 (Lib.accLo (X / 16))) := by rw [Nat.mul_comm]; exact (hTr.2 (X / 16) (by omega)).1
    have ha1 : wr.cell? ⟨3, X / 16 * 2 + 1, none⟩ = some (.int .u8 (Lib.accHi (X / 16))) := by rw [Nat.mul_comm]; exact (hTr.2 (X / 16) (by omega)).2
    obtain ⟨LO, hLO⟩ : ∃ LO, Lib.accLo (X / 16) = LO := ⟨_, rfl⟩
    obtain ⟨HI, hHI⟩ : ∃ HI, Lib.accHi (X / 16) = HI := ⟨_, rfl⟩
    rw [hLO] at ha0 hlead
    rw [hHI] at ha1 hlead
    obtain ⟨SZ, hSZ⟩ : ∃ SZ, X % 8 = SZ := ⟨_, rfl⟩
    rw [hSZ] at hlead
    have hBN := Blk.new wr 161 #[.int .u8 (LO : Int), .int .u8 (HI : Int)]
    have hbN := hbw.alloc hbw.size (.cells #[.int .u8 (LO : Int), .int .u8 (HI : Int)] 161)
    have hHN := hHr.alloc (.cells #[.int .u8 (LO : Int), .int .u8 (HI : Int)] 161)
    obtain ⟨N, hN⟩ : ∃ N, wr.heap.size = N := ⟨_, rfl⟩
    rw [hN] at hBN
    clear hTr hX hLO hHI hne hsb hct
    by_cases s2 : SZ = 2
    ·as_aux_lemma =>
     subst s2
     have hSZz : (X : Int) % 8 = 2 := by omega
     simp only [Lib.checkN, Nat.reduceEqDiff, if_true, if_false] at hlead
     have HLD := Lib.hid hlead
     clear hlead
     go_upto_region 18 with fail
     generalize wr.alloc (.cells #[.int .u8 (LO : Int), .int .u8 (HI : Int)] 161) = wN at hBN hbN hHN ⊢
     have n0 := hBN.cell 0 rfl
     have n1 := hBN.cell 1 rfl
     go_cut [103] (fun cc wx => cc = .bool (decide (t.size < 2 ∨ x1.toNat < LO ∨ HI < x1.toNat)) ∧ Below w.heap.size w wx)
     case first =>
      by_cases q0 : t.size < 2
      ·have q0z : (t.size : Int) < 2 := by omega
       go_big_quiet (fail)
       go_wp2_with fail
       go_meet
       exact ⟨congrArg Value.bool (decide_eq_true (p := t.size < 2 ∨ x1.toNat < LO ∨ HI < x1.toNat) (by omega)).symm, below_drewNv hbN nq⟩
      ·have q0z : ¬ ((t.size : Int) < 2) := by omega
       have q0b : decide ((t.size : Int) < 2) = false := decide_eq_false q0z
       have hz1 : (1 : Int) < (t.size : Int) := by omega
       have hp1 : 1 < t.size := by omega
       have d1 : wN.cell? ⟨b, off + 1, none⟩ = some (.int .u8 (x1.toNat : Int)) := by rw [← hx1]; exact hHN.cell (HCT.out 1 (by omega))
       by_cases q1 : x1.toNat < LO
       ·have q1z : ((x1.toNat : Int) < (LO : Int)) := by omega
        go_big_quiet (fail)
        go_wp2_with fail
        go_meet
        exact ⟨congrArg Value.bool (decide_eq_true (p := t.size < 2 ∨ x1.toNat < LO ∨ HI < x1.toNat) (by omega)).symm, below_drewNv hbN nq⟩
       ·have q1z : ¬ ((x1.toNat : Int) < (LO : Int)) := by omega
        have q1b : decide ((x1.toNat : Int) < (LO : Int)) = false := decide_eq_false q1z
        by_cases q2 : HI < x1.toNat
        ·have q2z : ((HI : Int) < (x1.toNat : Int)) := by omega
         go_big_quiet (fail)
         go_wp2_with fail
         go_meet
         exact ⟨congrArg Value.bool (decide_eq_true (p := t.size < 2 ∨ x1.toNat < LO ∨ HI < x1.toNat) (by omega)).symm, below_drewNv hbN nq⟩
        ·have q2z : ¬ ((HI : Int) < (x1.toNat : Int)) := by omega
         have q2b : decide ((HI : Int) < (x1.toNat : Int)) = false := decide_eq_false q2z
         go_big_quiet (fail)
         go_wp2_with fail
         go_meet
         exact ⟨congrArg Value.bool (decide_eq_false (p := t.size < 2 ∨ x1.toNat < LO ∨ HI < x1.toNat) (by omega)).symm, below_drewNv hbN nq⟩
     case rest =>
      obtain ⟨rfl, hbc⟩ := hcut
      by_cases hb : t.size < 2 ∨ x1.toNat < LO ∨ HI < x1.toNat
      ·have hbd : decide (t.size < 2 ∨ x1.toNat < LO ∨ HI < x1.toNat) = true := decide_eq_true hb
       have hlead := HLD.out
       rw [if_pos hb] at hlead
       rw [hbd]
       clear hb hbd HLD n0 n1
       go_wp2_with fail
       go_ret
       exact ⟨by first | rfl | rw [hlead], hbc⟩
      ·have hbd : decide (t.size < 2 ∨ x1.toNat < LO ∨ HI < x1.toNat) = false := decide_eq_false hb
       have hlead := HLD.out
       rw [if_neg hb] at hlead
       rw [hbd]
       have hle : (2 : Int) ≤ (t.size : Int) := by omega
       have hct := HCT.out
       obtain ⟨t1, ht1⟩ : ∃ t1, t.extract 2 t.size = t1 := ⟨_, rfl⟩
       have zt1 : t.size - 2 = t1.size := by rw [← ht1, Lib.ext_size]
       have sbt1 := SB.skipc hct 2 (by omega)
       rw [ht1] at sbt1
       obtain ⟨Bt1, hBt1⟩ : ∃ B, (if t.size = 2 then some (⟨b, off, none⟩ : Addr) else some ⟨b, off + 2, none⟩) = B := ⟨_, rfl⟩
       rw [hBt1] at sbt1
       have HE := Lib.hid (And.intro zt1 hBt1)
       have HV1 := Lib.hid (show Lib.validD t1.data.toList = ANS by rw [← ht1, Lib.ext_list, hlead])
       have HLT := Lib.hid (show t1.size < t.size ∧ t1.size ≤ t0.size by omega)
       clear hb hbd HLD hlead zt1 hBt1 ht1 hct n0 n1
       go_wp2_with fail
       go_roundw
       case rel => exact ⟨Bt1, t1, by rw [HE.out.1, HE.out.2], sbt1, HV1.out, HLT.out.2, hbc⟩
       case measure => have := HLT.out.1; have := HE.out.1; simp [lenV]; omega
    by_cases s3 : SZ = 3
    ·as_aux_lemma =>
     subst s3
     have hSZz : (X : Int) % 8 = 3 := by omega
     simp only [Lib.checkN, Nat.reduceEqDiff, if_true, if_false] at hlead
     have HLD := Lib.hid hlead
     clear hlead
     go_upto_region 22 with fail
     generalize wr.alloc (.cells #[.int .u8 (LO : Int), .int .u8 (HI : Int)] 161) = wN at hBN hbN hHN ⊢
     have n0 := hBN.cell 0 rfl
     have n1 := hBN.cell 1 rfl
     go_cut [138] (fun cc wx => cc = .bool (decide (t.size < 3 ∨ x1.toNat < LO ∨ HI < x1.toNat ∨ x2.toNat < 128 ∨ 191 < x2.toNat)) ∧ Below w.heap.size w wx)
     case first =>
      by_cases q0 : t.size < 3
      ·have q0z : (t.size : Int) < 3 := by omega
       go_big_quiet (fail)
       go_wp2_with fail
       go_meet
       exact ⟨congrArg Value.bool (decide_eq_true (p := t.size < 3 ∨ x1.toNat < LO ∨ HI < x1.toNat ∨ x2.toNat < 128 ∨ 191 < x2.toNat) (by omega)).symm, below_drewNv hbN nq⟩
      ·have q0z : ¬ ((t.size : Int) < 3) := by omega
       have q0b : decide ((t.size : Int) < 3) = false := decide_eq_false q0z
       have hz1 : (1 : Int) < (t.size : Int) := by omega
       have hp1 : 1 < t.size := by omega
       have d1 : wN.cell? ⟨b, off + 1, none⟩ = some (.int .u8 (x1.toNat : Int)) := by rw [← hx1]; exact hHN.cell (HCT.out 1 (by omega))
       have hz2 : (2 : Int) < (t.size : Int) := by omega
       have hp2 : 2 < t.size := by omega
       have d2 : wN.cell? ⟨b, off + 2, none⟩ = some (.int .u8 (x2.toNat : Int)) := by rw [← hx2]; exact hHN.cell (HCT.out 2 (by omega))
       by_cases q1 : x1.toNat < LO
       ·have q1z : ((x1.toNat : Int) < (LO : Int)) := by omega
        go_big_quiet (fail)
        go_wp2_with fail
        go_meet
        exact ⟨congrArg Value.bool (decide_eq_true (p := t.size < 3 ∨ x1.toNat < LO ∨ HI < x1.toNat ∨ x2.toNat < 128 ∨ 191 < x2.toNat) (by omega)).symm, below_drewNv hbN nq⟩
       ·have q1z : ¬ ((x1.toNat : Int) < (LO : Int)) := by omega
        have q1b : decide ((x1.toNat : Int) < (LO : Int)) = false := decide_eq_false q1z
        by_cases q2 : HI < x1.toNat
        ·have q2z : ((HI : Int) < (x1.toNat : Int)) := by omega
         go_big_quiet (fail)
         go_wp2_with fail
         go_meet
         exact ⟨congrArg Value.bool (decide_eq_true (p := t.size < 3 ∨ x1.toNat < LO ∨ HI < x1.toNat ∨ x2.toNat < 128 ∨ 191 < x2.toNat) (by omega)).symm, below_drewNv hbN nq⟩
        ·have q2z : ¬ ((HI : Int) < (x1.toNat : Int)) := by omega
         have q2b : decide ((HI : Int) < (x1.toNat : Int)) = false := decide_eq_false q2z
         by_cases q3 : x2.toNat < 128
         ·have q3z : ((x2.toNat : Int) < 128) := by omega
          go_big_quiet (fail)
          go_wp2_with fail
          go_meet
          exact ⟨congrArg Value.bool (decide_eq_true (p := t.size < 3 ∨ x1.toNat < LO ∨ HI < x1.toNat ∨ x2.toNat < 128 ∨ 191 < x2.toNat) (by omega)).symm, below_drewNv hbN nq⟩
         ·have q3z : ¬ ((x2.toNat : Int) < 128) := by omega
          have q3b : decide ((x2.toNat : Int) < 128) = false := decide_eq_false q3z
          by_cases q4 : 191 < x2.toNat
          ·have q4z : ((191 : Int) < (x2.toNat : Int)) := by omega
           go_big_quiet (fail)
           go_wp2_with fail
           go_meet
           exact ⟨congrArg Value.bool (decide_eq_true (p := t.size < 3 ∨ x1.toNat < LO ∨ HI < x1.toNat ∨ x2.toNat < 128 ∨ 191 < x2.toNat) (by omega)).symm, below_drewNv hbN nq⟩
          ·have q4z : ¬ ((191 : Int) < (x2.toNat : Int)) := by omega
           have q4b : decide ((191 : Int) < (x2.toNat : Int)) = false := decide_eq_false q4z
           go_big_quiet (fail)
           go_wp2_with fail
           go_meet
           exact ⟨congrArg Value.bool (decide_eq_false (p := t.size < 3 ∨ x1.toNat < LO ∨ HI < x1.toNat ∨ x2.toNat < 128 ∨ 191 < x2.toNat) (by omega)).symm, below_drewNv hbN nq⟩
     case rest =>
      obtain ⟨rfl, hbc⟩ := hcut
      by_cases hb : t.size < 3 ∨ x1.toNat < LO ∨ HI < x1.toNat ∨ x2.toNat < 128 ∨ 191 < x2.toNat
      ·have hbd : decide (t.size < 3 ∨ x1.toNat < LO ∨ HI < x1.toNat ∨ x2.toNat < 128 ∨ 191 < x2.toNat) = true := decide_eq_true hb
       have hlead := HLD.out
       rw [if_pos hb] at hlead
       rw [hbd]
       clear hb hbd HLD n0 n1
       go_wp2_with fail
       go_ret
       exact ⟨by first | rfl | rw [hlead], hbc⟩
      ·have hbd : decide (t.size < 3 ∨ x1.toNat < LO ∨ HI < x1.toNat ∨ x2.toNat < 128 ∨ 191 < x2.toNat) = false := decide_eq_false hb
       have hlead := HLD.out
       rw [if_neg hb] at hlead
       rw [hbd]
       have hle : (3 : Int) ≤ (t.size : Int) := by omega
       have hct := HCT.out
       obtain ⟨t1, ht1⟩ : ∃ t1, t.extract 3 t.size = t1 := ⟨_, rfl⟩
       have zt1 : t.size - 3 = t1.size := by rw [← ht1, Lib.ext_size]
       have sbt1 := SB.skipc hct 3 (by omega)
       rw [ht1] at sbt1
       obtain ⟨Bt1, hBt1⟩ : ∃ B, (if t.size = 3 then some (⟨b, off, none⟩ : Addr) else some ⟨b, off + 3, none⟩) = B := ⟨_, rfl⟩
       rw [hBt1] at sbt1
       have HE := Lib.hid (And.intro zt1 hBt1)
       have HV1 := Lib.hid (show Lib.validD t1.data.toList = ANS by rw [← ht1, Lib.ext_list, hlead])
       have HLT := Lib.hid (show t1.size < t.size ∧ t1.size ≤ t0.size by omega)
       clear hb hbd HLD hlead zt1 hBt1 ht1 hct n0 n1
       go_wp2_with fail
       go_roundw
       case rel => exact ⟨Bt1, t1, by rw [HE.out.1, HE.out.2], sbt1, HV1.out, HLT.out.2, hbc⟩
       case measure => have := HLT.out.1; have := HE.out.1; simp [lenV]; omega
    by_cases s4 : SZ = 4
    ·as_aux_lemma =>
     subst s4
     have hSZz : (X : Int) % 8 = 4 := by omega
     simp only [Lib.checkN, Nat.reduceEqDiff, if_true, if_false] at hlead
     have HLD := Lib.hid hlead
     clear hlead
     go_upto_region 26 with fail
     generalize wr.alloc (.cells #[.int .u8 (LO : Int), .int .u8 (HI : Int)] 161) = wN at hBN hbN hHN ⊢
     have n0 := hBN.cell 0 rfl
     have n1 := hBN.cell 1 rfl
     go_cut [185] (fun cc wx => cc = .bool (decide (t.size < 4 ∨ x1.toNat < LO ∨ HI < x1.toNat ∨ x2.toNat < 128 ∨ 191 < x2.toNat ∨ x3.toNat < 128 ∨ 191 < x3.toNat)) ∧ Below w.heap.size w wx)
     case first =>
      by_cases q0 : t.size < 4
      ·have q0z : (t.size : Int) < 4 := by omega
       go_big_quiet (fail)
       go_wp2_with fail
       go_meet
       exact ⟨congrArg Value.bool (decide_eq_true (p := t.size < 4 ∨ x1.toNat < LO ∨ HI < x1.toNat ∨ x2.toNat < 128 ∨ 191 < x2.toNat ∨ x3.toNat < 128 ∨ 191 < x3.toNat) (by omega)).symm, below_drewNv hbN nq⟩
      ·have q0z : ¬ ((t.size : Int) < 4) := by omega
       have q0b : decide ((t.size : Int) < 4) = false := decide_eq_false q0z
       have hz1 : (1 : Int) < (t.size : Int) := by omega
       have hp1 : 1 < t.size := by omega
       have d1 : wN.cell? ⟨b, off + 1, none⟩ = some (.int .u8 (x1.toNat : Int)) := by rw [← hx1]; exact hHN.cell (HCT.out 1 (by omega))
       have hz2 : (2 : Int) < (t.size : Int) := by omega
       have hp2 : 2 < t.size := by omega
       have d2 : wN.cell? ⟨b, off + 2, none⟩ = some (.int .u8 (x2.toNat : Int)) := by rw [← hx2]; exact hHN.cell (HCT.out 2 (by omega))
       have hz3 : (3 : Int) < (t.size : Int) := by omega
       have hp3 : 3 < t.size := by omega
       have d3 : wN.cell? ⟨b, off + 3, none⟩ = some (.int .u8 (x3.toNat : Int)) := by rw [← hx3]; exact hHN.cell (HCT.out 3 (by omega))
       by_cases q1 : x1.toNat < LO
       ·have q1z : ((x1.toNat : Int) < (LO : Int)) := by omega
        go_big_quiet (fail)
        go_wp2_with fail
        go_meet
        exact ⟨congrArg Value.bool (decide_eq_true (p := t.size < 4 ∨ x1.toNat < LO ∨ HI < x1.toNat ∨ x2.toNat < 128 ∨ 191 < x2.toNat ∨ x3.toNat < 128 ∨ 191 < x3.toNat) (by omega)).symm, below_drewNv hbN nq⟩
       ·have q1z : ¬ ((x1.toNat : Int) < (LO : Int)) := by omega
        have q1b : decide ((x1.toNat : Int) < (LO : Int)) = false := decide_eq_false q1z
        by_cases q2 : HI < x1.toNat
        ·have q2z : ((HI : Int) < (x1.toNat : Int)) := by omega
         go_big_quiet (fail)
         go_wp2_with fail
         go_meet
         exact ⟨congrArg Value.bool (decide_eq_true (p := t.size < 4 ∨ x1.toNat < LO ∨ HI < x1.toNat ∨ x2.toNat < 128 ∨ 191 < x2.toNat ∨ x3.toNat < 128 ∨ 191 < x3.toNat) (by omega)).symm, below_drewNv hbN nq⟩
        ·have q2z : ¬ ((HI : Int) < (x1.toNat : Int)) := by omega
         have q2b : decide ((HI : Int) < (x1.toNat : Int)) = false := decide_eq_false q2z
         by_cases q3 : x2.toNat < 128
         ·have q3z : ((x2.toNat : Int) < 128) := by omega
          go_big_quiet (fail)
          go_wp2_with fail
          go_meet
          exact ⟨congrArg Value.bool (decide_eq_true (p := t.size < 4 ∨ x1.toNat < LO ∨ HI < x1.toNat ∨ x2.toNat < 128 ∨ 191 < x2.toNat ∨ x3.toNat < 128 ∨ 191 < x3.toNat) (by omega)).symm, below_drewNv hbN nq⟩
         ·have q3z : ¬ ((x2.toNat : Int) < 128) := by omega
          have q3b : decide ((x2.toNat : Int) < 128) = false := decide_eq_false q3z
          by_cases q4 : 191 < x2.toNat
          ·have q4z : ((191 : Int) < (x2.toNat : Int)) := by omega
           go_big_quiet (fail)
           go_wp2_with fail
           go_meet
           exact ⟨congrArg Value.bool (decide_eq_true (p := t.size < 4 ∨ x1.toNat < LO ∨ HI < x1.toNat ∨ x2.toNat < 128 ∨ 191 < x2.toNat ∨ x3.toNat < 128 ∨ 191 < x3.toNat) (by omega)).symm, below_drewNv hbN nq⟩
          ·have q4z : ¬ ((191 : Int) < (x2.toNat : Int)) := by omega
           have q4b : decide ((191 : Int) < (x2.toNat : Int)) = false := decide_eq_false q4z
           by_cases q5 : x3.toNat < 128
           ·have q5z : ((x3.toNat : Int) < 128) := by omega
            go_big_quiet (fail)
            go_wp2_with fail
            go_meet
            exact ⟨congrArg Value.bool (decide_eq_true (p := t.size < 4 ∨ x1.toNat < LO ∨ HI < x1.toNat ∨ x2.toNat < 128 ∨ 191 < x2.toNat ∨ x3.toNat < 128 ∨ 191 < x3.toNat) (by omega)).symm, below_drewNv hbN nq⟩
           ·have q5z : ¬ ((x3.toNat : Int) < 128) := by omega
            have q5b : decide ((x3.toNat : Int) < 128) = false := decide_eq_false q5z
            by_cases q6 : 191 < x3.toNat
            ·have q6z : ((191 : Int) < (x3.toNat : Int)) := by omega
             go_big_quiet (fail)
             go_wp2_with fail
             go_meet
             exact ⟨congrArg Value.bool (decide_eq_true (p := t.size < 4 ∨ x1.toNat < LO ∨ HI < x1.toNat ∨ x2.toNat < 128 ∨ 191 < x2.toNat ∨ x3.toNat < 128 ∨ 191 < x3.toNat) (by omega)).symm, below_drewNv hbN nq⟩
            ·have q6z : ¬ ((191 : Int) < (x3.toNat : Int)) := by omega
             have q6b : decide ((191 : Int) < (x3.toNat : Int)) = false := decide_eq_false q6z
             go_big_quiet (fail)
             go_wp2_with fail
             go_meet
             exact ⟨congrArg Value.bool (decide_eq_false (p := t.size < 4 ∨ x1.toNat < LO ∨ HI < x1.toNat ∨ x2.toNat < 128 ∨ 191 < x2.toNat ∨ x3.toNat < 128 ∨ 191 < x3.toNat) (by omega)).symm, below_drewNv hbN nq⟩
     case rest =>
      obtain ⟨rfl, hbc⟩ := hcut
      by_cases hb : t.size < 4 ∨ x1.toNat < LO ∨ HI < x1.toNat ∨ x2.toNat < 128 ∨ 191 < x2.toNat ∨ x3.toNat < 128 ∨ 191 < x3.toNat
      ·have hbd : decide (t.size < 4 ∨ x1.toNat < LO ∨ HI < x1.toNat ∨ x2.toNat < 128 ∨ 191 < x2.toNat ∨ x3.toNat < 128 ∨ 191 < x3.toNat) = true := decide_eq_true hb
       have hlead := HLD.out
       rw [if_pos hb] at hlead
       rw [hbd]
       clear hb hbd HLD n0 n1
       go_wp2_with fail
       go_ret
       exact ⟨by first | rfl | rw [hlead], hbc⟩
      ·have hbd : decide (t.size < 4 ∨ x1.toNat < LO ∨ HI < x1.toNat ∨ x2.toNat < 128 ∨ 191 < x2.toNat ∨ x3.toNat < 128 ∨ 191 < x3.toNat) = false := decide_eq_false hb
       have hlead := HLD.out
       rw [if_neg hb] at hlead
       rw [hbd]
       have hle : (4 : Int) ≤ (t.size : Int) := by omega
       have hct := HCT.out
       obtain ⟨t1, ht1⟩ : ∃ t1, t.extract 4 t.size = t1 := ⟨_, rfl⟩
       have zt1 : t.size - 4 = t1.size := by rw [← ht1, Lib.ext_size]
       have sbt1 := SB.skipc hct 4 (by omega)
       rw [ht1] at sbt1
       obtain ⟨Bt1, hBt1⟩ : ∃ B, (if t.size = 4 then some (⟨b, off, none⟩ : Addr) else some ⟨b, off + 4, none⟩) = B := ⟨_, rfl⟩
       rw [hBt1] at sbt1
       have HE := Lib.hid (And.intro zt1 hBt1)
       have HV1 := Lib.hid (show Lib.validD t1.data.toList = ANS by rw [← ht1, Lib.ext_list, hlead])
       have HLT := Lib.hid (show t1.size < t.size ∧ t1.size ≤ t0.size by omega)
       clear hb hbd HLD hlead zt1 hBt1 ht1 hct n0 n1
       go_wp2_with fail
       go_roundw
       case rel => exact ⟨Bt1, t1, by rw [HE.out.1, HE.out.2], sbt1, HV1.out, HLT.out.2, hbc⟩
       case measure => have := HLT.out.1; have := HE.out.1; simp [lenV]; omega
    ·have e2b : (((X : Int) % 8) == 2) = false := by simp; omega
     have e3b : (((X : Int) % 8) == 3) = false := by simp; omega
     have e4b : (((X : Int) % 8) == 4) = false := by simp; omega
     have e2 : ¬ ((X : Int) % 8 = 2) := by omega
     have e3 : ¬ ((X : Int) % 8 = 3) := by omega
     have e4 : ¬ ((X : Int) % 8 = 4) := by omega
     simp only [Lib.checkN, s2, s3, s4, if_false] at hlead
     have HLD := Lib.hid hlead
     clear hlead
     go_wp2_with fail
     go_ret
     exact ⟨by first | rfl | (rw [HLD.out]; rfl), hbN⟩
  ·have h0z : ¬ ((0 : Int) < (t.size : Int)) := by omega
   have ht0 : t.data.toList = [] := List.eq_nil_of_length_eq_zero (by rw [← Lib.size_eq]; omega)
   have hv := HV.out
   rw [ht0, Lib.validD_nil] at hv
   subst hv
   go_wp2_with fail
   go_ret
   exact ⟨rfl, hbw⟩
theorem utf8_Valid {H : Snap} (hT : Tabs H) (w : World) (hH : Holds w H) (A : Option Addr) (l : List UInt8) (n c : Nat) (hn : n = l.length) (hb : IsBytes H A c l) :
  Calls Tryz.prog 104 #[.slice A n c] w fun e w' => e = .returned (.bool (Lib.validD l)) ∧ Below w.heap.size w w' := by
 subst hn
 have hl : (⟨l.toArray⟩ : ByteArray).size = l.length := by show l.toArray.size = l.length; simp
 have h := utf8_ValidB hT w hH A ⟨l.toArray⟩ c (SB.of hb) (by rw [hl]; exact hb.le) (by rw [hl]; have := hb.le; have := hb.max; omega)
 rw [hl, ba_list] at h
 exact h
end Go.Proofs.YtmacemcajlgddaaGreatDoor
