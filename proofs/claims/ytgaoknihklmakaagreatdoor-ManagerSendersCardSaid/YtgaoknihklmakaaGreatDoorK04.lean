/- squeezed. Walks: the library's Valid of a sl -/
import Derived.Test.YtgaoknihklmakaaGreatDoorK03
import Derived.BigQuiet
import Derived.Test.YtgaoknihklmakaaGreatDoorK01
import Derived.RegionTactic
import Derived.ChangeAlike
import Derived.Test.YtgaoknihklmakaaGreatDoorK02
import Derived.Shelf.Unicode.DecodeSlow
set_option linter.unusedVariables false
set_option linter.unusedSimpArgs false
open List (getElem_toArray getElem_cons_zero getElem_cons_succ setIfInBounds_toArray set_cons_zero set_cons_succ)
namespace Go.Proofs.YtgaoknihklmakaaGreatDoor
open Go.RowKit
def lenV : Value → Nat
 | .slice _ n _ => n
 | _ => 0
theorem SB.skipc {H : Snap} {b off : Nat} {t : ByteArray} (h : ∀ j, j < t.size → H.cell? ⟨b, off + j, none⟩ = some (.int .u8 ((t.get! j).toNat : Int))) (k : Nat) (hk : k ≤ t.size) :
  SB H (if t.size = k then some (⟨b, off, none⟩ : Addr) else some ⟨b, off + k, none⟩) (t.extract k t.size) := fun h0 => by
 rw [Lib.ext_size] at h0
 rw [if_neg (by omega)]
 refine ⟨b, off + k, rfl, fun j hj => ?_⟩
 rw [Lib.ext_size] at hj
 rw [Nat.add_assoc, h (k + j) (by omega), ← Lib.getD_get!', ← Lib.getD_get!', Lib.ext_list]
 simp [List.getD, List.getElem?_drop]
set_option maxHeartbeats 16000000 in
set_option maxRecDepth 1000000 in
theorem utf8_ValidB {H : Snap} (hT : Tabs H) (w : World) (hH : Holds w H) (A : Option Addr) (t0 : ByteArray) (c : Nat) (hs : SB H A t0) (hc : t0.size ≤ c) (hm : t0.size ≤ 9223372036854775807) :
  Calls Tryz.prog 72 #[.slice A t0.size c] w fun e w' => e = .returned (.bool (Lib.validD t0.data.toList)) ∧ Below w.heap.size w w' := by
 obtain ⟨ANS, hANS⟩ : ∃ ANS, Lib.validD t0.data.toList = ANS := ⟨_, rfl⟩
 rw [hANS]
 have HANS := Lib.hid hANS
 clear hANS
 have hci : (t0.size : Int) ≤ c := by omega
 go_enter Tryz.func72, Tryz.ntmps72
 go_wp2
 go_loopw [0] (fun v0 wx => ∃ (B : Option Addr) (t : ByteArray), v0 = .slice B t.size t.size ∧ SB H B t ∧ Lib.validD t.data.toList = ANS ∧ t.size ≤ t0.size ∧ Below w.heap.size w wx) (fun v0 _ => lenV v0)
 case atStart => exact ⟨A, t0, rfl, hs, HANS.out, Nat.le_refl _, Below.refl _ _⟩
 case round =>
  obtain ⟨B, t, rfl, hsb, hv, hts, hbw⟩ := hrel
  have HV := Lib.hid hv
  clear hv
  by_cases h0 : 0 < t.size
  ·obtain ⟨b, off, rfl, hct⟩ := hsb h0
   have h0z : (0 : Int) < (t.size : Int) := by omega
   have hHr := hH.below hbw (Nat.le_refl _)
   have c0 := hHr.cell (hct 0 h0)
   have l0 := (t.get! 0).toNat_lt
   obtain ⟨x0, hx0⟩ : ∃ x0, t.get! 0 = x0 := ⟨_, rfl⟩
   rw [hx0] at c0 l0
   simp only [Nat.add_zero] at c0
   have HCT := Lib.hid hct
   by_cases hasc : x0.toNat < 128
   ·as_aux_lemma =>
    have hascz : (x0.toNat : Int) < 128 := by omega
    have h1z : (1 : Int) ≤ (t.size : Int) := by omega
    have a1 : Lib.Asc t 1 := Lib.asc_one t h0 (by rw [hx0]; exact hasc)
    obtain ⟨t1, ht1⟩ : ∃ t1, t.extract 1 t.size = t1 := ⟨_, rfl⟩
    have zt1 : t.size - 1 = t1.size := by rw [← ht1, Lib.ext_size]
    have sbt1 := SB.skipc hct 1 (by omega)
    rw [ht1] at sbt1
    obtain ⟨Bt1, hBt1⟩ : ∃ B, (if t.size = 1 then some (⟨b, off, none⟩ : Addr) else some ⟨b, off + 1, none⟩) = B := ⟨_, rfl⟩
    rw [hBt1] at sbt1
    have V1 : Hid (Lib.validD t1.data.toList = ANS) := by rw [Hid, ← ht1, Lib.valid_skip t 1 a1]; exact HV.out
    have HT1 := Lib.hid (And.intro zt1 hBt1)
    clear hct zt1 a1 hx0 ht1 hsb hBt1
    go_upto_region 6 with fail
    rw [HT1.out.2, HT1.out.1]
    by_cases c8 : 8 < t1.size
    ·have c8z : (8 : Int) < (t1.size : Int) := by omega
     have c8y : (8 : Int) ≤ (t1.size : Int) := by omega
     obtain ⟨A1, hA1⟩ : ∃ A1, Lib.leNat [t1.get! 0, t1.get! 1, t1.get! 2, t1.get! 3, t1.get! 4, t1.get! 5, t1.get! 6, t1.get! 7] = A1 := ⟨_, rfl⟩
     have lA1 : A1 < 18446744073709551616 := hA1 ▸ Lib.word_lt t1
     have cW1 : ∀ (c : Nat) (W : World), Holds W H → Calls Tryz.prog 88 #[.slice Bt1 t1.size c] W fun e w' => e = .returned (.int .u64 (A1 : Int)) ∧ ∃ q, w' = W.drewN q := fun c W h => by rw [← hA1]; exact utf8_word sbt1 (by omega) c W h
     have CW1 := Lib.hid cW1
     have kA1 := Lib.word_asc t1 (by omega)
     rw [hA1] at kA1
     clear cW1 hA1
     have hand1 : bits .and .u64 (A1 : Int) 9259542123273814144 = ((A1 &&& 9259542123273814144 : Nat) : Int) := u64_and_nat A1 9259542123273814144 lA1 (by omega)
     obtain ⟨Z1, hZ1⟩ : ∃ Z1, A1 &&& 9259542123273814144 = Z1 := ⟨_, rfl⟩
     rw [hZ1] at hand1 kA1
     have KA1 := Lib.hid kA1
     have HSB1 := Lib.hid sbt1
     clear hZ1 kA1 lA1 sbt1 c0 l0
     by_cases hz1 : Z1 = 0
     ·have hz1b : ((Z1 : Int) == 0) = true := by simp [hz1]
      have HZ1 := Lib.hid hz1
      clear hz1
      go_wp2_with (go_at_call 88; refine stop_in ?_)
      unfold Stopped
      refine (CW1.out _ _ hHr).mono ?_
      rintro e w5 ⟨rfl, q5, rfl⟩
      have hHc := Holds.drewN hHr q5
      have hbc := below_drewNv hbw q5
      obtain ⟨b1, off1, rfl, hct1⟩ := HSB1.out (by omega)
      obtain ⟨t2, ht2⟩ : ∃ t2, t1.extract 8 t1.size = t2 := ⟨_, rfl⟩
      have zt2 : t1.size - 8 = t2.size := by rw [← ht2, Lib.ext_size]
      have sbt2 := SB.skipc hct1 8 (by omega)
      rw [ht2, if_neg (by omega)] at sbt2
      obtain ⟨Bt2, hBt2⟩ : ∃ B, some (⟨b1, off1 + 8, none⟩ : Addr) = B := ⟨_, rfl⟩
      rw [hBt2] at sbt2
      have V2 : Hid (Lib.validD t2.data.toList = ANS) := by rw [Hid, ← ht2, Lib.valid_skip t1 8 (KA1.out.1 HZ1.out)]; exact V1.out
      have HT2 := Lib.hid (And.intro zt2 hBt2)
      generalize wr.drewN q5 = wq at hHc hbc ⊢
      clear zt2 ht2 hct1 hBt2 hbw hHr CW1 KA1 HZ1
      go_upto_region 8 with fail
      rw [HT2.out.2, HT2.out.1]
      by_cases c16 : 16 < t2.size
      ·have c16z : (16 : Int) < (t2.size : Int) := by omega
       have c16y : (16 : Int) ≤ (t2.size : Int) := by omega
       have s8z : (8 : Int) ≤ (t2.size : Int) := by omega
       have n8 : (t2.size = 8) = False := eq_false (by omega)
       obtain ⟨b2, off2, rfl, hct2⟩ := sbt2 (by omega)
       have hSB2 : SB H (some ⟨b2, off2, none⟩) t2 := sbt2
       obtain ⟨t2b, ht2b⟩ : ∃ t2b, t2.extract 8 t2.size = t2b := ⟨_, rfl⟩
       have zt2b : t2.size - 8 = t2b.size := by rw [← ht2b, Lib.ext_size]
       have sbt2b := SB.skipc hct2 8 (by omega)
       rw [ht2b, if_neg (by omega)] at sbt2b
       obtain ⟨o2b, ho2b⟩ : ∃ o, off2 + 8 = o := ⟨_, rfl⟩
       rw [ho2b] at sbt2b
       obtain ⟨A2, hA2⟩ : ∃ A2, Lib.leNat [t2.get! 0, t2.get! 1, t2.get! 2, t2.get! 3, t2.get! 4, t2.get! 5, t2.get! 6, t2.get! 7] = A2 := ⟨_, rfl⟩
       have lA2 : A2 < 18446744073709551616 := hA2 ▸ Lib.word_lt t2
       have cW2 : ∀ (c : Nat) (W : World), Holds W H → Calls Tryz.prog 88 #[.slice (some ⟨b2, off2, none⟩) t2.size c] W fun e w' => e = .returned (.int .u64 (A2 : Int)) ∧ ∃ q, w' = W.drewN q := fun c W h => by rw [← hA2]; exact utf8_word hSB2 (by omega) c W h
       have CW2 := Lib.hid cW2
       have kA2 := Lib.word_asc t2 (by omega)
       rw [hA2] at kA2
       clear cW2 hA2
       obtain ⟨A3, hA3⟩ : ∃ A3, Lib.leNat [t2b.get! 0, t2b.get! 1, t2b.get! 2, t2b.get! 3, t2b.get! 4, t2b.get! 5, t2b.get! 6, t2b.get! 7] = A3 := ⟨_, rfl⟩
       have lA3 : A3 < 18446744073709551616 := hA3 ▸ Lib.word_lt t2b
       have cW3 : ∀ (c : Nat) (W : World), Holds W H → Calls Tryz.prog 88 #[.slice (some ⟨b2, off2 + 8, none⟩) (t2.size - 8) c] W fun e w' => e = .returned (.int .u64 (A3 : Int)) ∧ ∃ q, w' = W.drewN q := fun c W h => by rw [← hA3, zt2b, ho2b]; exact utf8_word sbt2b (by omega) c W h
       have CW3 := Lib.hid cW3
       have kA3 := Lib.word_asc t2b (by omega)
       rw [hA3] at kA3
       clear cW3 hA3
       have hor2 : bits .or .u64 (A2 : Int) (A3 : Int) = ((A2 ||| A3 : Nat) : Int) := u64_or_nat A2 A3 lA2 lA3
       have lor2 : A2 ||| A3 < 18446744073709551616 := Nat.or_lt_two_pow (n := 64) lA2 lA3
       have hand2 : bits .and .u64 ((A2 ||| A3 : Nat) : Int) 9259542123273814144 = (((A2 ||| A3) &&& 9259542123273814144 : Nat) : Int) := u64_and_nat _ 9259542123273814144 lor2 (by omega)
       have k2 : (A2 ||| A3) &&& 9259542123273814144 = 0 → Lib.Asc t2 16 := fun h0' => by
        obtain ⟨e1, e2⟩ := (Lib.or_mask A2 A3 _).1 h0'
        exact Lib.asc_add t2 8 8 (kA2.1 e1) (by rw [ht2b]; exact kA3.1 e2)
       obtain ⟨O2, hO2⟩ : ∃ O2, A2 ||| A3 = O2 := ⟨_, rfl⟩
       rw [hO2] at hor2 hand2 k2
       obtain ⟨Z2, hZ2⟩ : ∃ Z2, O2 &&& 9259542123273814144 = Z2 := ⟨_, rfl⟩
       rw [hZ2] at hand2 k2
       have K2 := Lib.hid k2
       have HCT2 := Lib.hid hct2
       clear kA2 kA3 lor2 hO2 hZ2 k2 lA2 lA3 ht2b sbt2b hct2 sbt2
       obtain ⟨zz2, hzz2⟩ : ∃ zz, ((Z2 : Int) == 0) = zz := ⟨_, rfl⟩
       have HZZ := Lib.hid hzz2
       go_cut [0, 46] (fun s0 s46 wx => s0 = .slice (some ⟨b2, off2, none⟩) t2.size t2.size ∧ s46 = .bool zz2 ∧ Below w.heap.size w wx)
       case first =>
        clear zt2b ho2b hz1b hand1
        have hHq := hHc
        have hbq := hbc
        refine wp_region_ways 13 (fun _ => True) (by kernel_rfl) (trivial) (fun hHeld => ?_)
        refine Ways.takeS (i := 0) (v := ?_) rfl (by kernel_rfl) (fun _ _ _ h => h) (Or.inl ⟨by rfl, ?_⟩) hHeld ?_
        rotate_left
        ·(intro w hSw; (try dsimp only at hSw); go_simp; try with_reducible rfl)
        try simp only [Act.put, getElem_toArray, getElem_cons_zero, getElem_cons_succ, setIfInBounds_toArray, set_cons_zero, set_cons_succ]
        refine Ways.takeS (i := 1) (v := ?_) rfl (by kernel_rfl) (fun _ _ _ h => h) (Or.inl ⟨by rfl, ?_⟩) hHeld ?_
        rotate_left
        ·(intro w hSw; (try dsimp only at hSw); go_simp; try with_reducible rfl)
        try simp only [Act.put, getElem_toArray, getElem_cons_zero, getElem_cons_succ, setIfInBounds_toArray, set_cons_zero, set_cons_succ]
        refine Ways.takeS (i := 2) (v := ?_) rfl (by kernel_rfl) (fun _ _ _ h => h) (Or.inl ⟨by rfl, ?_⟩) hHeld ?_
        rotate_left
        ·(intro w hSw; (try dsimp only at hSw); go_simp; try with_reducible rfl)
        try simp only [Act.put, getElem_toArray, getElem_cons_zero, getElem_cons_succ, setIfInBounds_toArray, set_cons_zero, set_cons_succ]
        refine Ways.takeS (i := 3) (v := ?_) rfl (by kernel_rfl) (fun _ _ _ h => h) (Or.inl ⟨by rfl, ?_⟩) hHeld ?_
        rotate_left
        ·(intro w hSw; (try dsimp only at hSw); go_simp; try with_reducible rfl)
        try simp only [Act.put, getElem_toArray, getElem_cons_zero, getElem_cons_succ, setIfInBounds_toArray, set_cons_zero, set_cons_succ]
        refine Ways.takeS (i := 4) (v := ?_) rfl (by kernel_rfl) (fun _ _ _ h => h) (Or.inl ⟨?_, ?_⟩) hHeld ?_
        rotate_left
        ·kernel_rfl
        ·(intro w hSw; (try dsimp only at hSw); go_simp; try with_reducible rfl)
        try simp only [Act.put, getElem_toArray, getElem_cons_zero, getElem_cons_succ, setIfInBounds_toArray, set_cons_zero, set_cons_succ]
        refine Ways.takeS (i := 6) (v := ?_) rfl (by kernel_rfl) (fun _ _ _ h => h) (Or.inl ⟨?_, ?_⟩) hHeld ?_
        rotate_left
        ·kernel_rfl
        ·(intro w hSw; (try dsimp only at hSw); go_simp; try with_reducible rfl)
        try simp only [Act.put, getElem_toArray, getElem_cons_zero, getElem_cons_succ, setIfInBounds_toArray, set_cons_zero, set_cons_succ]
        refine Ways.takeS (i := 7) (v := ?_) rfl (by kernel_rfl) (fun _ _ _ h => h) (Or.inl ⟨?_, ?_⟩) hHeld ?_
        rotate_left
        ·kernel_rfl
        ·(intro w hSw; (try dsimp only at hSw); go_simp; try with_reducible rfl)
        try simp only [Act.put, getElem_toArray, getElem_cons_zero, getElem_cons_succ, setIfInBounds_toArray, set_cons_zero, set_cons_succ]
        refine Ways.one (i := 5) rfl (by kernel_rfl) (fun K hK => ?_)
        go_simp
        refine (CW2.out _ _ (by repeat (first | exact hHq | exact hHq.drew | refine Holds.drewN ?_ _))).mono ?_
        rintro e w5 ⟨rfl, q5, rfl⟩
        refine hK.out _ _ (fun _ => ?_) (fun hHeld => ?_)
        ·exact trivial
        clear hK K
        have hHeld := hHeld (by decide)
        try simp only [Act.put, getElem_toArray, getElem_cons_zero, getElem_cons_succ, setIfInBounds_toArray, set_cons_zero, set_cons_succ]
        refine Ways.one (i := 8) rfl (by kernel_rfl) (fun K hK => ?_)
        go_simp
        refine (CW3.out _ _ (by repeat (first | exact hHq | exact hHq.drew | refine Holds.drewN ?_ _))).mono ?_
        rintro e w5 ⟨rfl, q5, rfl⟩
        refine hK.out _ _ (fun _ => ?_) (fun hHeld => ?_)
        ·exact trivial
        clear hK K
        have hHeld := hHeld (by decide)
        try simp only [Act.put, getElem_toArray, getElem_cons_zero, getElem_cons_succ, setIfInBounds_toArray, set_cons_zero, set_cons_succ]
        refine Ways.takeS (i := 9) (v := ?_) rfl (by kernel_rfl) (fun _ _ _ h => h) (Or.inl ⟨?_, ?_⟩) hHeld ?_
        rotate_left
        ·kernel_rfl
        ·(intro w hSw; (try dsimp only at hSw); go_simp; try with_reducible rfl)
        try simp only [Act.put, getElem_toArray, getElem_cons_zero, getElem_cons_succ, setIfInBounds_toArray, set_cons_zero, set_cons_succ]
        refine Ways.takeS (i := 10) (v := ?_) rfl (by kernel_rfl) (fun _ _ _ h => h) (Or.inl ⟨?_, ?_⟩) hHeld ?_
        rotate_left
        ·kernel_rfl
        ·(intro w hSw; (try dsimp only at hSw); go_simp; try with_reducible rfl)
        try simp only [Act.put, getElem_toArray, getElem_cons_zero, getElem_cons_succ, setIfInBounds_toArray, set_cons_zero, set_cons_succ]
        refine Ways.takeS (i := 11) (v := ?_) rfl (by kernel_rfl) (fun _ _ _ h => h) (Or.inl ⟨?_, ?_⟩) hHeld ?_
        rotate_left
        ·kernel_rfl
        ·(intro w hSw; (try dsimp only at hSw); go_simp; try with_reducible rfl)
        try simp only [Act.put, getElem_toArray, getElem_cons_zero, getElem_cons_succ, setIfInBounds_toArray, set_cons_zero, set_cons_succ]
        refine Ways.takeS (i := 12) (v := ?_) rfl (by kernel_rfl) (fun _ _ _ h => h) (Or.inl ⟨by rfl, ?_⟩) hHeld ?_
        rotate_left
        ·(intro w hSw; (try dsimp only at hSw); go_simp; try with_reducible rfl)
        try simp only [Act.put, getElem_toArray, getElem_cons_zero, getElem_cons_succ, setIfInBounds_toArray, set_cons_zero, set_cons_succ]
        refine Ways.done (by kernel_rfl) ?_
        go_wp2_with fail
        go_meet
        exact ⟨rfl, rfl, by repeat (first | exact hbq | exact hbq.drew | refine below_drewNv ?_ _)⟩
       case rest =>
        clear hbc hHc
        obtain ⟨rfl, rfl, hbc⟩ := hcut
        have hHc := hH.below hbc (Nat.le_refl _)
        cases zz2 with
        | true =>
         have hz2 : Z2 = 0 := by have := HZZ.out; simpa using this
         have hct2 := HCT2.out
         obtain ⟨t3, ht3⟩ : ∃ t3, t2.extract 16 t2.size = t3 := ⟨_, rfl⟩
         have zt3 : t2.size - 16 = t3.size := by rw [← ht3, Lib.ext_size]
         have sbt3 := SB.skipc hct2 16 (by omega)
         rw [ht3, if_neg (by omega)] at sbt3
         obtain ⟨Bt3, hBt3⟩ : ∃ B, some (⟨b2, off2 + 16, none⟩ : Addr) = B := ⟨_, rfl⟩
         rw [hBt3] at sbt3
         have V3 : Hid (Lib.validD t3.data.toList = ANS) := by rw [Hid, ← ht3, Lib.valid_skip t2 16 (K2.out hz2)]; exact V2.out
         have HT3 := Lib.hid (And.intro zt3 hBt3)
         have HLT := Lib.hid (show t3.size < t.size ∧ t3.size ≤ t0.size by have := HT1.out.1; have := HT2.out.1; omega)
         clear zt3 ht3 hBt3 hct2 hand2 hor2 hzz2 hz2 CW2 CW3 hand1 zt2b ho2b
         go_wp2_with fail
         rw [HT3.out.2, HT3.out.1]
         go_loopw [0] (fun v0 wx => ∃ (B : Option Addr) (u : ByteArray), v0 = .slice B u.size u.size ∧ SB H B u ∧ Lib.validD u.data.toList = ANS ∧ u.size ≤ t3.size ∧ Below w.heap.size w wx) (fun v0 _ => lenV v0)
         case atStart => exact ⟨_, t3, rfl, sbt3, V3.out, Nat.le_refl _, hbc⟩
         case round =>
          clear sbt3 hbc hHc
          obtain ⟨BU, u, rfl, sbu, hvu, hus, hbc⟩ := hrel
          have VU := Lib.hid hvu
          clear hvu
          have hHc := hH.below hbc (Nat.le_refl _)
          by_cases c32 : 32 < u.size
          ·have c32z : (32 : Int) < (u.size : Int) := by omega
           have c32y : (32 : Int) ≤ (u.size : Int) := by omega
           have s8u : (8 : Int) ≤ (u.size : Int) := by omega
           have s16u : (16 : Int) ≤ (u.size : Int) := by omega
           have s24u : (24 : Int) ≤ (u.size : Int) := by omega
           have n8u : (u.size = 8) = False := eq_false (by omega)
           have n16u : (u.size = 16) = False := eq_false (by omega)
           have n24u : (u.size = 24) = False := eq_false (by omega)
           obtain ⟨bu, ou, rfl, hcu⟩ := sbu (by omega)
           obtain ⟨ub, hub⟩ : ∃ ub, u.extract 8 u.size = ub := ⟨_, rfl⟩
           have zub : u.size - 8 = ub.size := by rw [← hub, Lib.ext_size]
           have sbub := SB.skipc hcu 8 (by omega)
           rw [hub, if_neg (by omega)] at sbub
           obtain ⟨oub, houb⟩ : ∃ o, ou + 8 = o := ⟨_, rfl⟩
           rw [houb] at sbub
           obtain ⟨uc, huc⟩ : ∃ uc, u.extract 16 u.size = uc := ⟨_, rfl⟩
           have zuc : u.size - 16 = uc.size := by rw [← huc, Lib.ext_size]
           have sbuc := SB.skipc hcu 16 (by omega)
           rw [huc, if_neg (by omega)] at sbuc
           obtain ⟨ouc, houc⟩ : ∃ o, ou + 16 = o := ⟨_, rfl⟩
           rw [houc] at sbuc
           obtain ⟨ud, hud⟩ : ∃ ud, u.extract 24 u.size = ud := ⟨_, rfl⟩
           have zud : u.size - 24 = ud.size := by rw [← hud, Lib.ext_size]
           have sbud := SB.skipc hcu 24 (by omega)
           rw [hud, if_neg (by omega)] at sbud
           obtain ⟨oud, houd⟩ : ∃ o, ou + 24 = o := ⟨_, rfl⟩
           rw [houd] at sbud
           obtain ⟨A4, hA4⟩ : ∃ A4, Lib.leNat [u.get! 0, u.get! 1, u.get! 2, u.get! 3, u.get! 4, u.get! 5, u.get! 6, u.get! 7] = A4 := ⟨_, rfl⟩
           have lA4 : A4 < 18446744073709551616 := hA4 ▸ Lib.word_lt u
           have cW4 : ∀ (c : Nat) (W : World), Holds W H → Calls Tryz.prog 88 #[.slice (some ⟨bu, ou, none⟩) u.size c] W fun e w' => e = .returned (.int .u64 (A4 : Int)) ∧ ∃ q, w' = W.drewN q := fun c W h => by rw [← hA4]; exact utf8_word (fun _ => ⟨bu, ou, rfl, hcu⟩) (by omega) c W h
           have CW4 := Lib.hid cW4
           have kA4 := Lib.word_asc u (by omega)
           rw [hA4] at kA4
           clear cW4 hA4
           obtain ⟨A5, hA5⟩ : ∃ A5, Lib.leNat [ub.get! 0, ub.get! 1, ub.get! 2, ub.get! 3, ub.get! 4, ub.get! 5, ub.get! 6, ub.get! 7] = A5 := ⟨_, rfl⟩
           have lA5 : A5 < 18446744073709551616 := hA5 ▸ Lib.word_lt ub
           have cW5 : ∀ (c : Nat) (W : World), Holds W H → Calls Tryz.prog 88 #[.slice (some ⟨bu, ou + 8, none⟩) (u.size - 8) c] W fun e w' => e = .returned (.int .u64 (A5 : Int)) ∧ ∃ q, w' = W.drewN q := fun c W h => by rw [← hA5, zub, houb]; exact utf8_word sbub (by omega) c W h
           have CW5 := Lib.hid cW5
           have kA5 := Lib.word_asc ub (by omega)
           rw [hA5] at kA5
           clear cW5 hA5
           obtain ⟨A6, hA6⟩ : ∃ A6, Lib.leNat [uc.get! 0, uc.get! 1, uc.get! 2, uc.get! 3, uc.get! 4, uc.get! 5, uc.get! 6, uc.get! 7] = A6 := ⟨_, rfl⟩
           have lA6 : A6 < 18446744073709551616 := hA6 ▸ Lib.word_lt uc
           have cW6 : ∀ (c : Nat) (W : World), Holds W H → Calls Tryz.prog 88 #[.slice (some ⟨bu, ou + 16, none⟩) (u.size - 16) c] W fun e w' => e = .returned (.int .u64 (A6 : Int)) ∧ ∃ q, w' = W.drewN q := fun c W h => by rw [← hA6, zuc, houc]; exact utf8_word sbuc (by omega) c W h
           have CW6 := Lib.hid cW6
           have kA6 := Lib.word_asc uc (by omega)
           rw [hA6] at kA6
           clear cW6 hA6
           obtain ⟨A7, hA7⟩ : ∃ A7, Lib.leNat [ud.get! 0, ud.get! 1, ud.get! 2, ud.get! 3, ud.get! 4, ud.get! 5, ud.get! 6, ud.get! 7] = A7 := ⟨_, rfl⟩
           have lA7 : A7 < 18446744073709551616 := hA7 ▸ Lib.word_lt ud
           have cW7 : ∀ (c : Nat) (W : World), Holds W H → Calls Tryz.prog 88 #[.slice (some ⟨bu, ou + 24, none⟩) (u.size - 24) c] W fun e w' => e = .returned (.int .u64 (A7 : Int)) ∧ ∃ q, w' = W.drewN q := fun c W h => by rw [← hA7, zud, houd]; exact utf8_word sbud (by omega) c W h
           have CW7 := Lib.hid cW7
           have kA7 := Lib.word_asc ud (by omega)
           rw [hA7] at kA7
           clear cW7 hA7
           have ho1 : bits .or .u64 (A4 : Int) (A5 : Int) = ((A4 ||| A5 : Nat) : Int) := u64_or_nat A4 A5 lA4 lA5
           have ho2 : bits .or .u64 (A6 : Int) (A7 : Int) = ((A6 ||| A7 : Nat) : Int) := u64_or_nat A6 A7 lA6 lA7
           have lo1 : A4 ||| A5 < 18446744073709551616 := Nat.or_lt_two_pow (n := 64) lA4 lA5
           have lo2 : A6 ||| A7 < 18446744073709551616 := Nat.or_lt_two_pow (n := 64) lA6 lA7
           have ho3 : bits .or .u64 ((A4 ||| A5 : Nat) : Int) ((A6 ||| A7 : Nat) : Int) = (((A4 ||| A5) ||| (A6 ||| A7) : Nat) : Int) := u64_or_nat _ _ lo1 lo2
           have lo3 : (A4 ||| A5) ||| (A6 ||| A7) < 18446744073709551616 := Nat.or_lt_two_pow (n := 64) lo1 lo2
           have hand3 : bits .and .u64 (((A4 ||| A5) ||| (A6 ||| A7) : Nat) : Int) 9259542123273814144 = ((((A4 ||| A5) ||| (A6 ||| A7)) &&& 9259542123273814144 : Nat) : Int) := u64_and_nat _ 9259542123273814144 lo3 (by omega)
           have k3 : ((A4 ||| A5) ||| (A6 ||| A7)) &&& 9259542123273814144 = 0 → Lib.Asc u 32 := fun h0' => by
            obtain ⟨e01, e23⟩ := (Lib.or_mask _ _ _).1 h0'
            obtain ⟨e0, e1⟩ := (Lib.or_mask _ _ _).1 e01
            obtain ⟨e2, e3⟩ := (Lib.or_mask _ _ _).1 e23
            have s16 : Lib.Asc u 16 := Lib.asc_add u 8 8 (kA4.1 e0) (by rw [hub]; exact kA5.1 e1)
            have s24 : Lib.Asc u 24 := Lib.asc_add u 16 8 s16 (by rw [huc]; exact kA6.1 e2)
            exact Lib.asc_add u 24 8 s24 (by rw [hud]; exact kA7.1 e3)
           obtain ⟨P1, hP1⟩ : ∃ P1, A4 ||| A5 = P1 := ⟨_, rfl⟩
           obtain ⟨P2, hP2⟩ : ∃ P2, A6 ||| A7 = P2 := ⟨_, rfl⟩
           rw [hP1, hP2] at ho3 hand3 k3
           rw [hP1] at ho1
           rw [hP2] at ho2
           obtain ⟨P3, hP3⟩ : ∃ P3, P1 ||| P2 = P3 := ⟨_, rfl⟩
           rw [hP3] at ho3 hand3 k3
           obtain ⟨Z3, hZ3⟩ : ∃ Z3, P3 &&& 9259542123273814144 = Z3 := ⟨_, rfl⟩
           rw [hZ3] at hand3 k3
           have K3 := Lib.hid k3
           have HCU := Lib.hid hcu
           clear kA4 kA5 kA6 kA7 lo1 lo2 lo3 hP1 hP2 hP3 hZ3 k3 hub sbub huc sbuc hud sbud lA4 lA5 lA6 lA7 hcu sbu
           obtain ⟨zz3, hzz3⟩ : ∃ zz, ((Z3 : Int) == 0) = zz := ⟨_, rfl⟩
           have HZ3 := Lib.hid hzz3
           go_upto_region 10 with fail
           go_cut [0, 69] (fun s0 s69 wx => s0 = .slice (some ⟨bu, ou, none⟩) u.size u.size ∧ s69 = .bool zz3 ∧ Below w.heap.size w wx)
           case first =>
            clear zub zuc zud houb houc houd
            have hHq := hHc
            have hbq := hbc
            refine wp_region_ways 21 (fun _ => True) (by kernel_rfl) (trivial) (fun hHeld => ?_)
            refine Ways.takeS (i := 0) (v := ?_) rfl (by kernel_rfl) (fun _ _ _ h => h) (Or.inl ⟨by rfl, ?_⟩) hHeld ?_
            rotate_left
            ·(intro w hSw; (try dsimp only at hSw); go_simp; try with_reducible rfl)
            try simp only [Act.put, getElem_toArray, getElem_cons_zero, getElem_cons_succ, setIfInBounds_toArray, set_cons_zero, set_cons_succ]
            refine Ways.takeS (i := 1) (v := ?_) rfl (by kernel_rfl) (fun _ _ _ h => h) (Or.inl ⟨by rfl, ?_⟩) hHeld ?_
            rotate_left
            ·(intro w hSw; (try dsimp only at hSw); go_simp; try with_reducible rfl)
            try simp only [Act.put, getElem_toArray, getElem_cons_zero, getElem_cons_succ, setIfInBounds_toArray, set_cons_zero, set_cons_succ]
            refine Ways.takeS (i := 2) (v := ?_) rfl (by kernel_rfl) (fun _ _ _ h => h) (Or.inl ⟨by rfl, ?_⟩) hHeld ?_
            rotate_left
            ·(intro w hSw; (try dsimp only at hSw); go_simp; try with_reducible rfl)
            try simp only [Act.put, getElem_toArray, getElem_cons_zero, getElem_cons_succ, setIfInBounds_toArray, set_cons_zero, set_cons_succ]
            refine Ways.takeS (i := 3) (v := ?_) rfl (by kernel_rfl) (fun _ _ _ h => h) (Or.inl ⟨by rfl, ?_⟩) hHeld ?_
            rotate_left
            ·(intro w hSw; (try dsimp only at hSw); go_simp; try with_reducible rfl)
            try simp only [Act.put, getElem_toArray, getElem_cons_zero, getElem_cons_succ, setIfInBounds_toArray, set_cons_zero, set_cons_succ]
            refine Ways.takeS (i := 4) (v := ?_) rfl (by kernel_rfl) (fun _ _ _ h => h) (Or.inl ⟨?_, ?_⟩) hHeld ?_
            rotate_left
            ·kernel_rfl
            ·(intro w hSw; (try dsimp only at hSw); go_simp; try with_reducible rfl)
            try simp only [Act.put, getElem_toArray, getElem_cons_zero, getElem_cons_succ, setIfInBounds_toArray, set_cons_zero, set_cons_succ]
            refine Ways.takeS (i := 6) (v := ?_) rfl (by kernel_rfl) (fun _ _ _ h => h) (Or.inl ⟨?_, ?_⟩) hHeld ?_
            rotate_left
            ·kernel_rfl
            ·(intro w hSw; (try dsimp only at hSw); go_simp; try with_reducible rfl)
            try simp only [Act.put, getElem_toArray, getElem_cons_zero, getElem_cons_succ, setIfInBounds_toArray, set_cons_zero, set_cons_succ]
            refine Ways.takeS (i := 7) (v := ?_) rfl (by kernel_rfl) (fun _ _ _ h => h) (Or.inl ⟨?_, ?_⟩) hHeld ?_
            rotate_left
            ·kernel_rfl
            ·(intro w hSw; (try dsimp only at hSw); go_simp; try with_reducible rfl)
            try simp only [Act.put, getElem_toArray, getElem_cons_zero, getElem_cons_succ, setIfInBounds_toArray, set_cons_zero, set_cons_succ]
            refine Ways.takeS (i := 10) (v := ?_) rfl (by kernel_rfl) (fun _ _ _ h => h) (Or.inl ⟨?_, ?_⟩) hHeld ?_
            rotate_left
            ·kernel_rfl
            ·(intro w hSw; (try dsimp only at hSw); go_simp; try with_reducible rfl)
            try simp only [Act.put, getElem_toArray, getElem_cons_zero, getElem_cons_succ, setIfInBounds_toArray, set_cons_zero, set_cons_succ]
            refine Ways.takeS (i := 11) (v := ?_) rfl (by kernel_rfl) (fun _ _ _ h => h) (Or.inl ⟨?_, ?_⟩) hHeld ?_
            rotate_left
            ·kernel_rfl
            ·(intro w hSw; (try dsimp only at hSw); go_simp; try with_reducible rfl)
            try simp only [Act.put, getElem_toArray, getElem_cons_zero, getElem_cons_succ, setIfInBounds_toArray, set_cons_zero, set_cons_succ]
            refine Ways.takeS (i := 13) (v := ?_) rfl (by kernel_rfl) (fun _ _ _ h => h) (Or.inl ⟨?_, ?_⟩) hHeld ?_
            rotate_left
            ·kernel_rfl
            ·(intro w hSw; (try dsimp only at hSw); go_simp; try with_reducible rfl)
            try simp only [Act.put, getElem_toArray, getElem_cons_zero, getElem_cons_succ, setIfInBounds_toArray, set_cons_zero, set_cons_succ]
            refine Ways.takeS (i := 14) (v := ?_) rfl (by kernel_rfl) (fun _ _ _ h => h) (Or.inl ⟨?_, ?_⟩) hHeld ?_
            rotate_left
            ·kernel_rfl
            ·(intro w hSw; (try dsimp only at hSw); go_simp; try with_reducible rfl)
            try simp only [Act.put, getElem_toArray, getElem_cons_zero, getElem_cons_succ, setIfInBounds_toArray, set_cons_zero, set_cons_succ]
            refine Ways.one (i := 5) rfl (by kernel_rfl) (fun K hK => ?_)
            go_simp
            refine (CW4.out _ _ (by repeat (first | exact hHq | exact hHq.drew | refine Holds.drewN ?_ _))).mono ?_
            rintro e w5 ⟨rfl, q5, rfl⟩
            refine hK.out _ _ (fun _ => ?_) (fun hHeld => ?_)
            ·exact trivial
            clear hK K
            have hHeld := hHeld (by decide)
            try simp only [Act.put, getElem_toArray, getElem_cons_zero, getElem_cons_succ, setIfInBounds_toArray, set_cons_zero, set_cons_succ]
            refine Ways.one (i := 8) rfl (by kernel_rfl) (fun K hK => ?_)
            go_simp
            refine (CW5.out _ _ (by repeat (first | exact hHq | exact hHq.drew | refine Holds.drewN ?_ _))).mono ?_
            rintro e w5 ⟨rfl, q5, rfl⟩
            refine hK.out _ _ (fun _ => ?_) (fun hHeld => ?_)
            ·exact trivial
            clear hK K
            have hHeld := hHeld (by decide)
            try simp only [Act.put, getElem_toArray, getElem_cons_zero, getElem_cons_succ, setIfInBounds_toArray, set_cons_zero, set_cons_succ]
            refine Ways.takeS (i := 9) (v := ?_) rfl (by kernel_rfl) (fun _ _ _ h => h) (Or.inl ⟨?_, ?_⟩) hHeld ?_
            rotate_left
            ·kernel_rfl
            ·(intro w hSw; (try dsimp only at hSw); go_simp; try with_reducible rfl)
            try simp only [Act.put, getElem_toArray, getElem_cons_zero, getElem_cons_succ, setIfInBounds_toArray, set_cons_zero, set_cons_succ]
            refine Ways.one (i := 12) rfl (by kernel_rfl) (fun K hK => ?_)
            go_simp
            refine (CW6.out _ _ (by repeat (first | exact hHq | exact hHq.drew | refine Holds.drewN ?_ _))).mono ?_
            rintro e w5 ⟨rfl, q5, rfl⟩
            refine hK.out _ _ (fun _ => ?_) (fun hHeld => ?_)
            ·exact trivial
            clear hK K
            have hHeld := hHeld (by decide)
            try simp only [Act.put, getElem_toArray, getElem_cons_zero, getElem_cons_succ, setIfInBounds_toArray, set_cons_zero, set_cons_succ]
            refine Ways.one (i := 15) rfl (by kernel_rfl) (fun K hK => ?_)
            go_simp
            refine (CW7.out _ _ (by repeat (first | exact hHq | exact hHq.drew | refine Holds.drewN ?_ _))).mono ?_
            rintro e w5 ⟨rfl, q5, rfl⟩
            refine hK.out _ _ (fun _ => ?_) (fun hHeld => ?_)
            ·exact trivial
            clear hK K
            have hHeld := hHeld (by decide)
            try simp only [Act.put, getElem_toArray, getElem_cons_zero, getElem_cons_succ, setIfInBounds_toArray, set_cons_zero, set_cons_succ]
            refine Ways.takeS (i := 16) (v := ?_) rfl (by kernel_rfl) (fun _ _ _ h => h) (Or.inl ⟨?_, ?_⟩) hHeld ?_
            rotate_left
            ·kernel_rfl
            ·(intro w hSw; (try dsimp only at hSw); go_simp; try with_reducible rfl)
            try simp only [Act.put, getElem_toArray, getElem_cons_zero, getElem_cons_succ, setIfInBounds_toArray, set_cons_zero, set_cons_succ]
            refine Ways.takeS (i := 17) (v := ?_) rfl (by kernel_rfl) (fun _ _ _ h => h) (Or.inl ⟨?_, ?_⟩) hHeld ?_
            rotate_left
            ·kernel_rfl
            ·(intro w hSw; (try dsimp only at hSw); go_simp; try with_reducible rfl)
            try simp only [Act.put, getElem_toArray, getElem_cons_zero, getElem_cons_succ, setIfInBounds_toArray, set_cons_zero, set_cons_succ]
            refine Ways.takeS (i := 18) (v := ?_) rfl (by kernel_rfl) (fun _ _ _ h => h) (Or.inl ⟨?_, ?_⟩) hHeld ?_
            rotate_left
            ·kernel_rfl
            ·(intro w hSw; (try dsimp only at hSw); go_simp; try with_reducible rfl)
            try simp only [Act.put, getElem_toArray, getElem_cons_zero, getElem_cons_succ, setIfInBounds_toArray, set_cons_zero, set_cons_succ]
            refine Ways.takeS (i := 19) (v := ?_) rfl (by kernel_rfl) (fun _ _ _ h => h) (Or.inl ⟨?_, ?_⟩) hHeld ?_
            rotate_left
            ·kernel_rfl
            ·(intro w hSw; (try dsimp only at hSw); go_simp; try with_reducible rfl)
            try simp only [Act.put, getElem_toArray, getElem_cons_zero, getElem_cons_succ, setIfInBounds_toArray, set_cons_zero, set_cons_succ]
            refine Ways.takeS (i := 20) (v := ?_) rfl (by kernel_rfl) (fun _ _ _ h => h) (Or.inl ⟨by rfl, ?_⟩) hHeld ?_
            rotate_left
            ·(intro w hSw; (try dsimp only at hSw); go_simp; try with_reducible rfl)
            try simp only [Act.put, getElem_toArray, getElem_cons_zero, getElem_cons_succ, setIfInBounds_toArray, set_cons_zero, set_cons_succ]
            refine Ways.done (by kernel_rfl) ?_
            go_wp2_with fail
            go_meet
            exact ⟨rfl, rfl, by repeat (first | exact hbq | exact hbq.drew | refine below_drewNv ?_ _)⟩
           case rest =>
            clear hbc hHc
            obtain ⟨rfl, rfl, hbc⟩ := hcut
            cases zz3 with
            | true =>
             have hz3 : Z3 = 0 := by have := HZ3.out; simpa using this
             have hcu := HCU.out
             obtain ⟨u2, hu2⟩ : ∃ u2, u.extract 32 u.size = u2 := ⟨_, rfl⟩
             have zu2 : u.size - 32 = u2.size := by rw [← hu2, Lib.ext_size]
             have sbu2 := SB.skipc hcu 32 (by omega)
             rw [hu2, if_neg (by omega)] at sbu2
             obtain ⟨Bu2, hBu2⟩ : ∃ B, some (⟨bu, ou + 32, none⟩ : Addr) = B := ⟨_, rfl⟩
             rw [hBu2] at sbu2
             have VU2 : Hid (Lib.validD u2.data.toList = ANS) := by rw [Hid, ← hu2, Lib.valid_skip u 32 (K3.out hz3)]; exact VU.out
             have HU2 := Lib.hid (And.intro zu2 hBu2)
             have HLU := Lib.hid (show u2.size < u.size ∧ u2.size ≤ t3.size by omega)
             clear zu2 hu2 hBu2 hcu hz3 hzz3 hand3 ho1 ho2 ho3 zub zuc zud houb houc houd
             go_wp2_with fail
             rw [HU2.out.2, HU2.out.1]
             go_roundw
             case rel => exact ⟨_, u2, rfl, sbu2, VU2.out, HLU.out.2, hbc⟩
             case measure => have := HLU.out.1; simp [lenV]; omega
            | false =>
             have hu0 : SB H (some ⟨bu, ou, none⟩) u := fun _ => ⟨bu, ou, rfl, HCU.out⟩
             have HL2 := Lib.hid (show u.size < t.size ∧ u.size ≤ t0.size by have := HLT.out; omega)
             go_wp2_with fail
             go_roundw
             case rel => exact ⟨_, u, rfl, hu0, VU.out, HL2.out.2, hbc⟩
             case measure => have := HL2.out.1; simp [lenV]; omega
          ·have c32z : ¬ ((32 : Int) < (u.size : Int)) := by omega
           have c32b : decide ((32 : Int) < (u.size : Int)) = false := decide_eq_false c32z
           have HL2 := Lib.hid (show u.size < t.size ∧ u.size ≤ t0.size by have := HLT.out; omega)
           go_upto_region 10 with fail
           go_big_quiet (fail)
           have hbc := below_drewNv hbc nq
           go_wp2_with fail
           go_roundw
           case rel => exact ⟨_, u, rfl, sbu, VU.out, HL2.out.2, hbc⟩
           case measure => have := HL2.out.1; simp [lenV]; omega
        | false =>
         have hu0 : SB H (some ⟨b2, off2, none⟩) t2 := fun _ => ⟨b2, off2, rfl, HCT2.out⟩
         have HLT := Lib.hid (show t2.size < t.size ∧ t2.size ≤ t0.size by have := HT1.out.1; have := HT2.out.1; omega)
         go_wp2_with fail
         go_roundw
         case rel => exact ⟨_, t2, rfl, hu0, V2.out, HLT.out.2, hbc⟩
         case measure => have := HLT.out.1; simp [lenV]; omega
      ·have c16z : ¬ ((16 : Int) < (t2.size : Int)) := by omega
       have c16b : decide ((16 : Int) < (t2.size : Int)) = false := decide_eq_false c16z
       have HLT := Lib.hid (show t2.size < t.size ∧ t2.size ≤ t0.size by have := HT1.out.1; have := HT2.out.1; omega)
       go_big_quiet (fail)
       have hbc := below_drewNv hbc nq
       go_wp2_with fail
       go_roundw
       case rel => exact ⟨_, t2, rfl, sbt2, V2.out, HLT.out.2, hbc⟩
       case measure => have := HLT.out.1; simp [lenV]; omega
     ·have hz1b : ((Z1 : Int) == 0) = false := by simp; omega
      have HLT := Lib.hid (show t1.size < t.size ∧ t1.size ≤ t0.size by have := HT1.out.1; omega)
      go_wp2_with (go_at_call 88; refine stop_in ?_)
      unfold Stopped
      refine (CW1.out _ _ hHr).mono ?_
      rintro e w5 ⟨rfl, q5, rfl⟩
      have hbc := below_drewNv hbw q5
      go_wp2_with fail
      go_roundw
      case rel => exact ⟨_, t1, rfl, HSB1.out, V1.out, HLT.out.2, hbc⟩
      case measure => have := HLT.out.1; simp [lenV]; omega
    ·have c8z : ¬ ((8 : Int) < (t1.size : Int)) := by omega
     have HLT := Lib.hid (show t1.size < t.size ∧ t1.size ≤ t0.size by have := HT1.out.1; omega)
     go_wp2_with fail
     go_roundw
     case rel => exact ⟨_, t1, rfl, sbt1, V1.out, HLT.out.2, hbw⟩
     case measure => have := HLT.out.1; simp [lenV]; omega
   ·have hge : 128 ≤ x0.toNat := by omega
    have hascz : ¬ ((x0.toNat : Int) < 128) := by omega
    obtain ⟨x1, hx1⟩ : ∃ x1, t.get! 1 = x1 := ⟨_, rfl⟩
    obtain ⟨x2, hx2⟩ : ∃ x2, t.get! 2 = x2 := ⟨_, rfl⟩
    obtain ⟨x3, hx3⟩ : ∃ x3, t.get! 3 = x3 := ⟨_, rfl⟩
    have l1 := x1.toNat_lt; have l2 := x2.toNat_lt; have l3 := x3.toNat_lt
    have hne : t.data.toList ≠ [] := fun h => by rw [Lib.size_eq, h] at h0; simp at h0
    have hlead := Lib.validD_lead t.data.toList hne (by rw [Lib.getD_get!', hx0]; exact hge)
    rw [Lib.getD_get!', Lib.getD_get!', Lib.getD_get!', Lib.getD_get!', hx0, hx1, hx2, hx3, ← Lib.size_eq, HV.out] at hlead
    have hTr := hT wr hHr
    have hc0 := hTr.1 x0.toNat (by omega)
    have hXlt : Lib.firstT x0.toNat < 256 := by rcases Lib.firstT_cases x0.toNat with h | h | h | h | h | h | h | h | h <;> omega
    obtain ⟨X, hX⟩ : ∃ X, Lib.firstT x0.toNat = X := ⟨_, rfl⟩
    rw [hX] at hc0 hXlt hlead
    have h7 := and7 ⟨X, hXlt⟩
    simp only at h7
    have ha0 : wr.cell? ⟨1, X / 16 * 2, none⟩ = some (.int .u8 (Lib.accLo (X / 16))) := by rw [Nat.mul_comm]; exact (hTr.2 (X / 16) (by omega)).1
    have ha1 : wr.cell? ⟨1, X / 16 * 2 + 1, none⟩ = some (.int .u8 (Lib.accHi (X / 16))) := by rw [Nat.mul_comm]; exact (hTr.2 (X / 16) (by omega)).2
    obtain ⟨LO, hLO⟩ : ∃ LO, Lib.accLo (X / 16) = LO := ⟨_, rfl⟩
    obtain ⟨HI, hHI⟩ : ∃ HI, Lib.accHi (X / 16) = HI := ⟨_, rfl⟩
    rw [hLO] at ha0 hlead
    rw [hHI] at ha1 hlead
    obtain ⟨SZ, hSZ⟩ : ∃ SZ, X % 8 = SZ := ⟨_, rfl⟩
    rw [hSZ] at hlead
    have hBN := Blk.new wr 80 #[.int .u8 (LO : Int), .int .u8 (HI : Int)]
    have hbN := hbw.alloc hbw.size (.cells #[.int .u8 (LO : Int), .int .u8 (HI : Int)] 80)
    have hHN := hHr.alloc (.cells #[.int .u8 (LO : Int), .int .u8 (HI : Int)] 80)
    obtain ⟨N, hN⟩ : ∃ N, wr.heap.size = N := ⟨_, rfl⟩
    rw [hN] at hBN
    clear hTr hX hLO hHI hne hsb hct
    by_cases s2 : SZ = 2
    ·as_aux_lemma =>
     subst s2
     have hSZz : (X : Int) % 8 = 2 := by omega
     simp only [Lib.checkN, Nat.reduceEqDiff, if_true, if_false] at hlead
     have HLD := Lib.hid hlead
     clear hlead
     go_upto_region 18 with fail
     generalize wr.alloc (.cells #[.int .u8 (LO : Int), .int .u8 (HI : Int)] 80) = wN at hBN hbN hHN ⊢
     have n0 := hBN.cell 0 rfl
     have n1 := hBN.cell 1 rfl
     go_cut [103] (fun cc wx => cc = .bool (decide (t.size < 2 ∨ x1.toNat < LO ∨ HI < x1.toNat)) ∧ Below w.heap.size w wx)
     case first =>
      by_cases q0 : t.size < 2
      ·have q0z : (t.size : Int) < 2 := by omega
       go_big_quiet (fail)
       go_wp2_with fail
       go_meet
       exact ⟨congrArg Value.bool (decide_eq_true (p := t.size < 2 ∨ x1.toNat < LO ∨ HI < x1.toNat) (by omega)).symm, below_drewNv hbN nq⟩
      ·have q0z : ¬ ((t.size : Int) < 2) := by omega
       have q0b : decide ((t.size : Int) < 2) = false := decide_eq_false q0z
       have hz1 : (1 : Int) < (t.size : Int) := by omega
       have hp1 : 1 < t.size := by omega
       have d1 : wN.cell? ⟨b, off + 1, none⟩ = some (.int .u8 (x1.toNat : Int)) := by rw [← hx1]; exact hHN.cell (HCT.out 1 (by omega))
       by_cases q1 : x1.toNat < LO
       ·have q1z : ((x1.toNat : Int) < (LO : Int)) := by omega
        go_big_quiet (fail)
        go_wp2_with fail
        go_meet
        exact ⟨congrArg Value.bool (decide_eq_true (p := t.size < 2 ∨ x1.toNat < LO ∨ HI < x1.toNat) (by omega)).symm, below_drewNv hbN nq⟩
       ·have q1z : ¬ ((x1.toNat : Int) < (LO : Int)) := by omega
        have q1b : decide ((x1.toNat : Int) < (LO : Int)) = false := decide_eq_false q1z
        by_cases q2 : HI < x1.toNat
        ·have q2z : ((HI : Int) < (x1.toNat : Int)) := by omega
         go_big_quiet (fail)
         go_wp2_with fail
         go_meet
         exact ⟨congrArg Value.bool (decide_eq_true (p := t.size < 2 ∨ x1.toNat < LO ∨ HI < x1.toNat) (by omega)).symm, below_drewNv hbN nq⟩
        ·have q2z : ¬ ((HI : Int) < (x1.toNat : Int)) := by omega
         have q2b : decide ((HI : Int) < (x1.toNat : Int)) = false := decide_eq_false q2z
         go_big_quiet (fail)
         go_wp2_with fail
         go_meet
         exact ⟨congrArg Value.bool (decide_eq_false (p := t.size < 2 ∨ x1.toNat < LO ∨ HI < x1.toNat) (by omega)).symm, below_drewNv hbN nq⟩
     case rest =>
      obtain ⟨rfl, hbc⟩ := hcut
      by_cases hb : t.size < 2 ∨ x1.toNat < LO ∨ HI < x1.toNat
      ·have hbd : decide (t.size < 2 ∨ x1.toNat < LO ∨ HI < x1.toNat) = true := decide_eq_true hb
       have hlead := HLD.out
       rw [if_pos hb] at hlead
       rw [hbd]
       clear hb hbd HLD n0 n1
       go_wp2_with fail
       go_ret
       exact ⟨by first | rfl | rw [hlead], hbc⟩
      ·have hbd : decide (t.size < 2 ∨ x1.toNat < LO ∨ HI < x1.toNat) = false := decide_eq_false hb
       have hlead := HLD.out
       rw [if_neg hb] at hlead
       rw [hbd]
       have hle : (2 : Int) ≤ (t.size : Int) := by omega
       have hct := HCT.out
       obtain ⟨t1, ht1⟩ : ∃ t1, t.extract 2 t.size = t1 := ⟨_, rfl⟩
       have zt1 : t.size - 2 = t1.size := by rw [← ht1, Lib.ext_size]
       have sbt1 := SB.skipc hct 2 (by omega)
       rw [ht1] at sbt1
       obtain ⟨Bt1, hBt1⟩ : ∃ B, (if t.size = 2 then some (⟨b, off, none⟩ : Addr) else some ⟨b, off + 2, none⟩) = B := ⟨_, rfl⟩
       rw [hBt1] at sbt1
       have HE := Lib.hid (And.intro zt1 hBt1)
       have HV1 := Lib.hid (show Lib.validD t1.data.toList = ANS by rw [← ht1, Lib.ext_list, hlead])
       have HLT := Lib.hid (show t1.size < t.size ∧ t1.size ≤ t0.size by omega)
       clear hb hbd HLD hlead zt1 hBt1 ht1 hct n0 n1
       go_wp2_with fail
       go_roundw
       case rel => exact ⟨Bt1, t1, by rw [HE.out.1, HE.out.2], sbt1, HV1.out, HLT.out.2, hbc⟩
       case measure => have := HLT.out.1; have := HE.out.1; simp [lenV]; omega
    by_cases s3 : SZ = 3
    ·as_aux_lemma =>
     subst s3
     have hSZz : (X : Int) % 8 = 3 := by omega
     simp only [Lib.checkN, Nat.reduceEqDiff, if_true, if_false] at hlead
     have HLD := Lib.hid hlead
     clear hlead
     go_upto_region 22 with fail
     generalize wr.alloc (.cells #[.int .u8 (LO : Int), .int .u8 (HI : Int)] 80) = wN at hBN hbN hHN ⊢
     have n0 := hBN.cell 0 rfl
     have n1 := hBN.cell 1 rfl
     go_cut [138] (fun cc wx => cc = .bool (decide (t.size < 3 ∨ x1.toNat < LO ∨ HI < x1.toNat ∨ x2.toNat < 128 ∨ 191 < x2.toNat)) ∧ Below w.heap.size w wx)
     case first =>
      by_cases q0 : t.size < 3
      ·have q0z : (t.size : Int) < 3 := by omega
       go_big_quiet (fail)
       go_wp2_with fail
       go_meet
       exact ⟨congrArg Value.bool (decide_eq_true (p := t.size < 3 ∨ x1.toNat < LO ∨ HI < x1.toNat ∨ x2.toNat < 128 ∨ 191 < x2.toNat) (by omega)).symm, below_drewNv hbN nq⟩
      ·have q0z : ¬ ((t.size : Int) < 3) := by omega
       have q0b : decide ((t.size : Int) < 3) = false := decide_eq_false q0z
       have hz1 : (1 : Int) < (t.size : Int) := by omega
       have hp1 : 1 < t.size := by omega
       have d1 : wN.cell? ⟨b, off + 1, none⟩ = some (.int .u8 (x1.toNat : Int)) := by rw [← hx1]; exact hHN.cell (HCT.out 1 (by omega))
       have hz2 : (2 : Int) < (t.size : Int) := by omega
       have hp2 : 2 < t.size := by omega
       have d2 : wN.cell? ⟨b, off + 2, none⟩ = some (.int .u8 (x2.toNat : Int)) := by rw [← hx2]; exact hHN.cell (HCT.out 2 (by omega))
       by_cases q1 : x1.toNat < LO
       ·have q1z : ((x1.toNat : Int) < (LO : Int)) := by omega
        go_big_quiet (fail)
        go_wp2_with fail
        go_meet
        exact ⟨congrArg Value.bool (decide_eq_true (p := t.size < 3 ∨ x1.toNat < LO ∨ HI < x1.toNat ∨ x2.toNat < 128 ∨ 191 < x2.toNat) (by omega)).symm, below_drewNv hbN nq⟩
       ·have q1z : ¬ ((x1.toNat : Int) < (LO : Int)) := by omega
        have q1b : decide ((x1.toNat : Int) < (LO : Int)) = false := decide_eq_false q1z
        by_cases q2 : HI < x1.toNat
        ·have q2z : ((HI : Int) < (x1.toNat : Int)) := by omega
         go_big_quiet (fail)
         go_wp2_with fail
         go_meet
         exact ⟨congrArg Value.bool (decide_eq_true (p := t.size < 3 ∨ x1.toNat < LO ∨ HI < x1.toNat ∨ x2.toNat < 128 ∨ 191 < x2.toNat) (by omega)).symm, below_drewNv hbN nq⟩
        ·have q2z : ¬ ((HI : Int) < (x1.toNat : Int)) := by omega
         have q2b : decide ((HI : Int) < (x1.toNat : Int)) = false := decide_eq_false q2z
         by_cases q3 : x2.toNat < 128
         ·have q3z : ((x2.toNat : Int) < 128) := by omega
          go_big_quiet (fail)
          go_wp2_with fail
          go_meet
          exact ⟨congrArg Value.bool (decide_eq_true (p := t.size < 3 ∨ x1.toNat < LO ∨ HI < x1.toNat ∨ x2.toNat < 128 ∨ 191 < x2.toNat) (by omega)).symm, below_drewNv hbN nq⟩
         ·have q3z : ¬ ((x2.toNat : Int) < 128) := by omega
          have q3b : decide ((x2.toNat : Int) < 128) = false := decide_eq_false q3z
          by_cases q4 : 191 < x2.toNat
          ·have q4z : ((191 : Int) < (x2.toNat : Int)) := by omega
           go_big_quiet (fail)
           go_wp2_with fail
           go_meet
           exact ⟨congrArg Value.bool (decide_eq_true (p := t.size < 3 ∨ x1.toNat < LO ∨ HI < x1.toNat ∨ x2.toNat < 128 ∨ 191 < x2.toNat) (by omega)).symm, below_drewNv hbN nq⟩
          ·have q4z : ¬ ((191 : Int) < (x2.toNat : Int)) := by omega
           have q4b : decide ((191 : Int) < (x2.toNat : Int)) = false := decide_eq_false q4z
           go_big_quiet (fail)
           go_wp2_with fail
           go_meet
           exact ⟨congrArg Value.bool (decide_eq_false (p := t.size < 3 ∨ x1.toNat < LO ∨ HI < x1.toNat ∨ x2.toNat < 128 ∨ 191 < x2.toNat) (by omega)).symm, below_drewNv hbN nq⟩
     case rest =>
      obtain ⟨rfl, hbc⟩ := hcut
      by_cases hb : t.size < 3 ∨ x1.toNat < LO ∨ HI < x1.toNat ∨ x2.toNat < 128 ∨ 191 < x2.toNat
      ·have hbd : decide (t.size < 3 ∨ x1.toNat < LO ∨ HI < x1.toNat ∨ x2.toNat < 128 ∨ 191 < x2.toNat) = true := decide_eq_true hb
       have hlead := HLD.out
       rw [if_pos hb] at hlead
       rw [hbd]
       clear hb hbd HLD n0 n1
       go_wp2_with fail
       go_ret
       exact ⟨by first | rfl | rw [hlead], hbc⟩
      ·have hbd : decide (t.size < 3 ∨ x1.toNat < LO ∨ HI < x1.toNat ∨ x2.toNat < 128 ∨ 191 < x2.toNat) = false := decide_eq_false hb
       have hlead := HLD.out
       rw [if_neg hb] at hlead
       rw [hbd]
       have hle : (3 : Int) ≤ (t.size : Int) := by omega
       have hct := HCT.out
       obtain ⟨t1, ht1⟩ : ∃ t1, t.extract 3 t.size = t1 := ⟨_, rfl⟩
       have zt1 : t.size - 3 = t1.size := by rw [← ht1, Lib.ext_size]
       have sbt1 := SB.skipc hct 3 (by omega)
       rw [ht1] at sbt1
       obtain ⟨Bt1, hBt1⟩ : ∃ B, (if t.size = 3 then some (⟨b, off, none⟩ : Addr) else some ⟨b, off + 3, none⟩) = B := ⟨_, rfl⟩
       rw [hBt1] at sbt1
       have HE := Lib.hid (And.intro zt1 hBt1)
       have HV1 := Lib.hid (show Lib.validD t1.data.toList = ANS by rw [← ht1, Lib.ext_list, hlead])
       have HLT := Lib.hid (show t1.size < t.size ∧ t1.size ≤ t0.size by omega)
       clear hb hbd HLD hlead zt1 hBt1 ht1 hct n0 n1
       go_wp2_with fail
       go_roundw
       case rel => exact ⟨Bt1, t1, by rw [HE.out.1, HE.out.2], sbt1, HV1.out, HLT.out.2, hbc⟩
       case measure => have := HLT.out.1; have := HE.out.1; simp [lenV]; omega
    by_cases s4 : SZ = 4
    ·as_aux_lemma =>
     subst s4
     have hSZz : (X : Int) % 8 = 4 := by omega
     simp only [Lib.checkN, Nat.reduceEqDiff, if_true, if_false] at hlead
     have HLD := Lib.hid hlead
     clear hlead
     go_upto_region 26 with fail
     generalize wr.alloc (.cells #[.int .u8 (LO : Int), .int .u8 (HI : Int)] 80) = wN at hBN hbN hHN ⊢
     have n0 := hBN.cell 0 rfl
     have n1 := hBN.cell 1 rfl
     go_cut [185] (fun cc wx => cc = .bool (decide (t.size < 4 ∨ x1.toNat < LO ∨ HI < x1.toNat ∨ x2.toNat < 128 ∨ 191 < x2.toNat ∨ x3.toNat < 128 ∨ 191 < x3.toNat)) ∧ Below w.heap.size w wx)
     case first =>
      by_cases q0 : t.size < 4
      ·have q0z : (t.size : Int) < 4 := by omega
       go_big_quiet (fail)
       go_wp2_with fail
       go_meet
       exact ⟨congrArg Value.bool (decide_eq_true (p := t.size < 4 ∨ x1.toNat < LO ∨ HI < x1.toNat ∨ x2.toNat < 128 ∨ 191 < x2.toNat ∨ x3.toNat < 128 ∨ 191 < x3.toNat) (by omega)).symm, below_drewNv hbN nq⟩
      ·have q0z : ¬ ((t.size : Int) < 4) := by omega
       have q0b : decide ((t.size : Int) < 4) = false := decide_eq_false q0z
       have hz1 : (1 : Int) < (t.size : Int) := by omega
       have hp1 : 1 < t.size := by omega
       have d1 : wN.cell? ⟨b, off + 1, none⟩ = some (.int .u8 (x1.toNat : Int)) := by rw [← hx1]; exact hHN.cell (HCT.out 1 (by omega))
       have hz2 : (2 : Int) < (t.size : Int) := by omega
       have hp2 : 2 < t.size := by omega
       have d2 : wN.cell? ⟨b, off + 2, none⟩ = some (.int .u8 (x2.toNat : Int)) := by rw [← hx2]; exact hHN.cell (HCT.out 2 (by omega))
       have hz3 : (3 : Int) < (t.size : Int) := by omega
       have hp3 : 3 < t.size := by omega
       have d3 : wN.cell? ⟨b, off + 3, none⟩ = some (.int .u8 (x3.toNat : Int)) := by rw [← hx3]; exact hHN.cell (HCT.out 3 (by omega))
       by_cases q1 : x1.toNat < LO
       ·have q1z : ((x1.toNat : Int) < (LO : Int)) := by omega
        go_big_quiet (fail)
        go_wp2_with fail
        go_meet
        exact ⟨congrArg Value.bool (decide_eq_true (p := t.size < 4 ∨ x1.toNat < LO ∨ HI < x1.toNat ∨ x2.toNat < 128 ∨ 191 < x2.toNat ∨ x3.toNat < 128 ∨ 191 < x3.toNat) (by omega)).symm, below_drewNv hbN nq⟩
       ·have q1z : ¬ ((x1.toNat : Int) < (LO : Int)) := by omega
        have q1b : decide ((x1.toNat : Int) < (LO : Int)) = false := decide_eq_false q1z
        by_cases q2 : HI < x1.toNat
        ·have q2z : ((HI : Int) < (x1.toNat : Int)) := by omega
         go_big_quiet (fail)
         go_wp2_with fail
         go_meet
         exact ⟨congrArg Value.bool (decide_eq_true (p := t.size < 4 ∨ x1.toNat < LO ∨ HI < x1.toNat ∨ x2.toNat < 128 ∨ 191 < x2.toNat ∨ x3.toNat < 128 ∨ 191 < x3.toNat) (by omega)).symm, below_drewNv hbN nq⟩
        ·have q2z : ¬ ((HI : Int) < (x1.toNat : Int)) := by omega
         have q2b : decide ((HI : Int) < (x1.toNat : Int)) = false := decide_eq_false q2z
         by_cases q3 : x2.toNat < 128
         ·have q3z : ((x2.toNat : Int) < 128) := by omega
          go_big_quiet (fail)
          go_wp2_with fail
          go_meet
          exact ⟨congrArg Value.bool (decide_eq_true (p := t.size < 4 ∨ x1.toNat < LO ∨ HI < x1.toNat ∨ x2.toNat < 128 ∨ 191 < x2.toNat ∨ x3.toNat < 128 ∨ 191 < x3.toNat) (by omega)).symm, below_drewNv hbN nq⟩
         ·have q3z : ¬ ((x2.toNat : Int) < 128) := by omega
          have q3b : decide ((x2.toNat : Int) < 128) = false := decide_eq_false q3z
          by_cases q4 : 191 < x2.toNat
          ·have q4z : ((191 : Int) < (x2.toNat : Int)) := by omega
           go_big_quiet (fail)
           go_wp2_with fail
           go_meet
           exact ⟨congrArg Value.bool (decide_eq_true (p := t.size < 4 ∨ x1.toNat < LO ∨ HI < x1.toNat ∨ x2.toNat < 128 ∨ 191 < x2.toNat ∨ x3.toNat < 128 ∨ 191 < x3.toNat) (by omega)).symm, below_drewNv hbN nq⟩
          ·have q4z : ¬ ((191 : Int) < (x2.toNat : Int)) := by omega
           have q4b : decide ((191 : Int) < (x2.toNat : Int)) = false := decide_eq_false q4z
           by_cases q5 : x3.toNat < 128
           ·have q5z : ((x3.toNat : Int) < 128) := by omega
            go_big_quiet (fail)
            go_wp2_with fail
            go_meet
            exact ⟨congrArg Value.bool (decide_eq_true (p := t.size < 4 ∨ x1.toNat < LO ∨ HI < x1.toNat ∨ x2.toNat < 128 ∨ 191 < x2.toNat ∨ x3.toNat < 128 ∨ 191 < x3.toNat) (by omega)).symm, below_drewNv hbN nq⟩
           ·have q5z : ¬ ((x3.toNat : Int) < 128) := by omega
            have q5b : decide ((x3.toNat : Int) < 128) = false := decide_eq_false q5z
            by_cases q6 : 191 < x3.toNat
            ·have q6z : ((191 : Int) < (x3.toNat : Int)) := by omega
             go_big_quiet (fail)
             go_wp2_with fail
             go_meet
             exact ⟨congrArg Value.bool (decide_eq_true (p := t.size < 4 ∨ x1.toNat < LO ∨ HI < x1.toNat ∨ x2.toNat < 128 ∨ 191 < x2.toNat ∨ x3.toNat < 128 ∨ 191 < x3.toNat) (by omega)).symm, below_drewNv hbN nq⟩
            ·have q6z : ¬ ((191 : Int) < (x3.toNat : Int)) := by omega
             have q6b : decide ((191 : Int) < (x3.toNat : Int)) = false := decide_eq_false q6z
             go_big_quiet (fail)
             go_wp2_with fail
             go_meet
             exact ⟨congrArg Value.bool (decide_eq_false (p := t.size < 4 ∨ x1.toNat < LO ∨ HI < x1.toNat ∨ x2.toNat < 128 ∨ 191 < x2.toNat ∨ x3.toNat < 128 ∨ 191 < x3.toNat) (by omega)).symm, below_drewNv hbN nq⟩
     case rest =>
      obtain ⟨rfl, hbc⟩ := hcut
      by_cases hb : t.size < 4 ∨ x1.toNat < LO ∨ HI < x1.toNat ∨ x2.toNat < 128 ∨ 191 < x2.toNat ∨ x3.toNat < 128 ∨ 191 < x3.toNat
      ·have hbd : decide (t.size < 4 ∨ x1.toNat < LO ∨ HI < x1.toNat ∨ x2.toNat < 128 ∨ 191 < x2.toNat ∨ x3.toNat < 128 ∨ 191 < x3.toNat) = true := decide_eq_true hb
       have hlead := HLD.out
       rw [if_pos hb] at hlead
       rw [hbd]
       clear hb hbd HLD n0 n1
       go_wp2_with fail
       go_ret
       exact ⟨by first | rfl | rw [hlead], hbc⟩
      ·have hbd : decide (t.size < 4 ∨ x1.toNat < LO ∨ HI < x1.toNat ∨ x2.toNat < 128 ∨ 191 < x2.toNat ∨ x3.toNat < 128 ∨ 191 < x3.toNat) = false := decide_eq_false hb
       have hlead := HLD.out
       rw [if_neg hb] at hlead
       rw [hbd]
       have hle : (4 : Int) ≤ (t.size : Int) := by omega
       have hct := HCT.out
       obtain ⟨t1, ht1⟩ : ∃ t1, t.extract 4 t.size = t1 := ⟨_, rfl⟩
       have zt1 : t.size - 4 = t1.size := by rw [← ht1, Lib.ext_size]
       have sbt1 := SB.skipc hct 4 (by omega)
       rw [ht1] at sbt1
       obtain ⟨Bt1, hBt1⟩ : ∃ B, (if t.size = 4 then some (⟨b, off, none⟩ : Addr) else some ⟨b, off + 4, none⟩) = B := ⟨_, rfl⟩
       rw [hBt1] at sbt1
       have HE := Lib.hid (And.intro zt1 hBt1)
       have HV1 := Lib.hid (show Lib.validD t1.data.toList = ANS by rw [← ht1, Lib.ext_list, hlead])
       have HLT := Lib.hid (show t1.size < t.size ∧ t1.size ≤ t0.size by omega)
       clear hb hbd HLD hlead zt1 hBt1 ht1 hct n0 n1
       go_wp2_with fail
       go_roundw
       case rel => exact ⟨Bt1, t1, by rw [HE.out.1, HE.out.2], sbt1, HV1.out, HLT.out.2, hbc⟩
       case measure => have := HLT.out.1; have := HE.out.1; simp [lenV]; omega
    ·have e2b : (((X : Int) % 8) == 2) = false := by simp; omega
     have e3b : (((X : Int) % 8) == 3) = false := by simp; omega
     have e4b : (((X : Int) % 8) == 4) = false := by simp; omega
     have e2 : ¬ ((X : Int) % 8 = 2) := by omega
     have e3 : ¬ ((X : Int) % 8 = 3) := by omega
     have e4 : ¬ ((X : Int) % 8 = 4) := by omega
     simp only [Lib.checkN, s2, s3, s4, if_false] at hlead
     have HLD := Lib.hid hlead
     clear hlead
     go_wp2_with fail
     go_ret
     exact ⟨by first | rfl | (rw [HLD.out]; rfl), hbN⟩
  ·have h0z : ¬ ((0 : Int) < (t.size : Int)) := by omega
   have ht0 : t.data.toList = [] := List.eq_nil_of_length_eq_zero (by rw [← Lib.size_eq]; omega)
   have hv := HV.out
   rw [ht0, Lib.validD_nil] at hv
   subst hv
   go_wp2_with fail
   go_ret
   exact ⟨rfl, hbw⟩
theorem utf8_Valid {H : Snap} (hT : Tabs H) (w : World) (hH : Holds w H) (A : Option Addr) (l : List UInt8) (n c : Nat) (hn : n = l.length) (hb : IsBytes H A c l) :
  Calls Tryz.prog 72 #[.slice A n c] w fun e w' => e = .returned (.bool (Lib.validD l)) ∧ Below w.heap.size w w' := by
 subst hn
 have hl : (⟨l.toArray⟩ : ByteArray).size = l.length := by show l.toArray.size = l.length; simp
 have h := utf8_ValidB hT w hH A ⟨l.toArray⟩ c (SB.of hb) (by rw [hl]; exact hb.le) (by rw [hl]; have := hb.le; have := hb.max; omega)
 rw [hl, ba_list] at h
 exact h
set_option maxRecDepth 100000 in
set_option maxHeartbeats 800000 in
theorem cbor_major {H : Snap} {k n : Int} {ba : Option Addr} {bl bc : Nat} {ia : Option Addr} {il ic : Nat} {x : Itm} (hx : ItemA H k n ba bl bc ia il ic x) (w : World) (h0 : 0 ≤ x.kind) (h8 : x.kind ≤ 8) :
  Calls Tryz.prog 82 #[.agg #[.int .i64 k, .int .u64 n, .slice ba bl bc, .slice ia il ic]] w fun e w' => e = .returned (.tuple #[.int .u8 x.kind, .int .u64 (numP x)]) ∧ Below w.heap.size w w' := by
 obtain ⟨rfl, rfl, rfl, rfl, hx⟩ := hx
 obtain ⟨_, _, hn, hb1, hb2, hi1, hi2⟩ := hx.bounds
 have hb : x.bytes.length ≤ 9223372036854775807 := by omega
 have hi : x.items.length ≤ 9223372036854775807 := by omega
 clear hb1 hb2 hi1 hi2 hx
 have HN := Lib.hid hn
 clear hn
 by_cases h2 : x.kind = 2
 ·have e : Hid (Ending.returned (.tuple #[.int .u8 2, .int .u64 x.bytes.length]) = Ending.returned (.tuple #[.int .u8 x.kind, .int .u64 (numP x)])) := by simp [Hid, numP, h2]
  go_enter Tryz.func82, Tryz.ntmps82
  go_wp2
  go_region
  all_goals go_wp2
  all_goals go_ret2
  all_goals exact ⟨e.out, (below_box w _).drew⟩
 by_cases h3 : x.kind = 3
 ·have e : Hid (Ending.returned (.tuple #[.int .u8 3, .int .u64 x.bytes.length]) = Ending.returned (.tuple #[.int .u8 x.kind, .int .u64 (numP x)])) := by simp [Hid, numP, h3]
  clear h2
  go_enter Tryz.func82, Tryz.ntmps82
  go_wp2
  go_region
  all_goals go_wp2
  all_goals go_ret2
  all_goals exact ⟨e.out, (below_box w _).drew⟩
 by_cases h4 : x.kind = 4
 ·have e : Hid (Ending.returned (.tuple #[.int .u8 4, .int .u64 x.items.length]) = Ending.returned (.tuple #[.int .u8 x.kind, .int .u64 (numP x)])) := by simp [Hid, numP, h4]
  clear h2 h3
  go_enter Tryz.func82, Tryz.ntmps82
  go_wp2
  go_region
  all_goals go_wp2
  all_goals go_ret2
  all_goals exact ⟨e.out, (below_box w _).drew⟩
 by_cases h5 : x.kind = 5
 ·have e : Hid (Ending.returned (.tuple #[.int .u8 5, .int .u64 ((x.items.length : Int) / 2)]) = Ending.returned (.tuple #[.int .u8 x.kind, .int .u64 (numP x)])) := by simp [Hid, numP, h5]
  clear h2 h3 h4
  go_enter Tryz.func82, Tryz.ntmps82
  go_wp2
  go_region
  all_goals go_wp2
  all_goals go_ret2
  all_goals exact ⟨e.out, (below_box w _).drew⟩
 have e : Hid (Ending.returned (.tuple #[.int .u8 x.kind, .int .u64 x.n]) = Ending.returned (.tuple #[.int .u8 x.kind, .int .u64 (numP x)])) := by simp [Hid, numP, h2, h3, h4, h5]
 have b2 : (x.kind == 2) = false := by simp [h2]
 have b3 : (x.kind == 3) = false := by simp [h3]
 have b4 : (x.kind == 4) = false := by simp [h4]
 have b5 : (x.kind == 5) = false := by simp [h5]
 clear h2 h3 h4 h5
 go_enter Tryz.func82, Tryz.ntmps82
 go_wp2
 go_region
 all_goals go_wp2
 all_goals go_ret2
 all_goals exact ⟨e.out, (below_box w _).drew⟩
def byteN (n k : Nat) : UInt8 := u8 (n / 2 ^ (56 - 8 * k))
theorem byteN_cell (n k : Nat) : (#[.int .u8 ((n : Int) / 2 ^ (56 - 8 * k) % 256)] : Array Value).toList = [byteN n k].map byteV := by
 simp only [List.map_cons, List.map_nil, byteN, byteV_u8]
 simp
set_option maxRecDepth 100000 in
set_option maxHeartbeats 1600000 in
theorem cbor_wide (n : Nat) (hn : n < 18446744073709551616) (w : World) :
  Calls Tryz.prog 97 #[.int .u64 (n : Int)] w fun e w' => ∃ r, e = .returned r ∧ Fresh w (be8 n 8) r w' := by
 have HN := Lib.hid hn
 clear hn
 have hO := OwnB.nil w w.heap.size
 have hb := Below.refl w.heap.size w
 go_enter Tryz.func97, Tryz.ntmps97
 go_wp2_with fail
 go_loopw [3, 4] (fun v3 v4 wr => ∃ (k : Nat) (VA : Option Addr) (vc : Nat), k ≤ 8 ∧ v4 = .int .i64 (56 - 8 * (k : Int)) ∧ v3 = .slice VA k vc ∧ OwnB wr w.heap.size (.slice VA k vc) (be8 n k) ∧ Below w.heap.size w wr) (fun _ v4 _ => (intOf v4 + 8).toNat)
 case atStart => exact ⟨0, none, 0, by omega, rfl, rfl, hO, hb⟩
 case round =>
  obtain ⟨k, VA, vc, hk, rfl, rfl, hOr, hbr⟩ := hrel
  by_cases hlt : k < 8
  ·have hcell := byteN_cell n k
   have hb3 := hbr.alloc hbr.size (.cells #[.int .u8 ((n : Int) / 2 ^ (56 - 8 * k) % 256)] 5)
   have hO3 := hOr.alloc (.cells #[.int .u8 ((n : Int) / 2 ^ (56 - 8 * k) % 256)] 5)
   have HC := Lib.hid hcell
   clear hcell
   go_wp2_with (at_builtin; refine stop_in ?_)
   unfold Stopped
   refine wpList_app_bytes rfl (.tmp 9) (.tmp 14) rfl w.heap.size _ _ rfl hO3 _ 1 _ [byteN n k] rfl rfl (Src.new _ _ _ _ rfl _ HC.out) (by simp [be8_length]; omega) hb3.size fun v' w7 hO7 hg7 hat7 => ?_
   obtain ⟨VA', vc', rfl, _⟩ := hO7.form
   have hll : (be8 n k ++ [byteN n k]).length = k + 1 := by simp [be8_length]
   have hO7' : OwnB w7 w.heap.size (.slice VA' (k + 1) vc') (be8 n (k + 1)) := by
    rw [hll] at hO7
    exact hO7
   rw [hll]
   have hb7 := hb3.grown hg7 hb3.size (fun q hq => (hO3.lt q hq).1)
   clear hll hg7 hat7 hO3 hOr hb3 hbr hO7
   go_wp2_with fail
   go_roundw
   case rel => exact ⟨k + 1, VA', vc', by omega, by go_num, rfl, hO7', hb7⟩
   case measure => simp [intOf]; omega
  ·have hk8 : k = 8 := by omega
   subst hk8
   go_wp2_with fail
   go_ret
   exact ⟨_, rfl, hOr, hbr⟩
theorem and_mod32 (a k : Nat) (ha : a < 4294967296) (hk : k < 32) : bits .and .u32 (a : Int) ((2 ^ k - 1 : Nat) : Int) = ((a % 2 ^ k : Nat) : Int) := by
 have : 2 ^ k < 2 ^ 32 := Nat.pow_lt_pow_right (by omega) hk
 simp only [Nat.reducePow] at this
 rw [u32_and_nat a (2 ^ k - 1) ha (by omega), Nat.and_two_pow_sub_one_eq_mod]
theorem or_low32 (b k : Nat) (hb : b < 2 ^ k) (hk : k < 31) : bits .or .u32 (b : Int) ((2 ^ k : Nat) : Int) = ((b + 2 ^ k : Nat) : Int) := by
 have h1 : 2 ^ k < 2 ^ 31 := Nat.pow_lt_pow_right (by omega) hk
 simp only [Nat.reducePow] at h1
 rw [u32_or_nat _ _ (by omega) (by omega), Nat.or_comm]
 have := Nat.two_pow_add_eq_or_of_lt hb 1
 rw [Nat.mul_one] at this
 rw [← this, Nat.add_comm]
theorem or_add16 (a k b : Nat) (hb : b < 2 ^ k) (h : a * 2 ^ k + b < 65536) : bits .or .u16 ((a * 2 ^ k : Nat) : Int) (b : Int) = ((a * 2 ^ k + b : Nat) : Int) := by
 rw [u16_or_nat _ _ (by omega) (by omega), Nat.mul_comm, Nat.two_pow_add_eq_or_of_lt hb]
theorem u16_nat (q : Nat) (h : q < 65536) : IntKind.u16.wrap (q : Int) = (q : Int) := IntWalk.u16_in _ (by omega)
set_option maxRecDepth 100000 in
set_option maxHeartbeats 3200000 in
theorem cbor_half (v : Nat) (hv : v < 4294967296) (w : World) :
  Calls Tryz.prog 99 #[.int .u32 (v : Int)] w
   fun e w' => (∃ h : Nat, e = .returned (.tuple #[.int .u16 (h : Int), .bool (halfP v).isSome]) ∧ ∀ x, halfP v = some x → h = x) ∧ w = w' := by
 have A1 := and_mod32 (v / 2 ^ 23) 8 (by omega) (by omega)
 have A2 := and_mod32 v 23 hv (by omega)
 simp only [Nat.reducePow, Nat.reduceSub] at A1 A2
 rw [Int.natCast_ediv] at A1
 obtain ⟨ex, hex⟩ : ∃ ex, v / 8388608 % 256 = ex := ⟨_, rfl⟩
 obtain ⟨mx, hmx⟩ : ∃ mx, v % 8388608 = mx := ⟨_, rfl⟩
 obtain ⟨sg, hsg⟩ : ∃ sg, v / 2147483648 = sg := ⟨_, rfl⟩
 have hs1 : sg ≤ 1 := by omega
 have E : Hid (halfP v = if ex = 255 then some (sg * 32768 + 31744) else if ex = 0 then (if mx = 0 then some (sg * 32768) else none)
   else if 113 ≤ ex ∧ ex ≤ 142 then (if mx % 8192 = 0 then some (sg * 32768 + (ex - 112) * 1024 + mx / 8192) else none)
   else if 103 ≤ ex ∧ ex < 113 then (if (mx + 8388608) % 2 ^ (126 - ex) = 0 then some (sg * 32768 + (mx + 8388608) / 2 ^ (126 - ex)) else none) else none) := by
  rw [Hid, halfP]
  simp only [hex, hmx, hsg]
 rw [hex] at A1
 rw [hmx] at A2
 have he1 : ex < 256 := by omega
 have hm1 : mx < 8388608 := by omega
 have A1' : bits .and .u32 ((v : Int) / 8388608) 255 = (ex : Int) := A1
 have A2' : bits .and .u32 (v : Int) 8388607 = (mx : Int) := A2
 have K1 : IntKind.i64.wrap (ex : Int) = (ex : Int) := IntWalk.i64_in _ (by omega)
 have KS : Hid (IntKind.u16.wrap ((v : Int) / 2147483648 * 32768 % 4294967296) = ((sg * 2 ^ 15 : Nat) : Int)) := by
  have h : (v : Int) / 2147483648 * 32768 % 4294967296 = (sg : Int) * 32768 := by omega
  simp only [Nat.reducePow]
  rw [Hid, h, IntWalk.u16_in _ (by omega)]
  omega
 clear hv hex hmx hsg A1 A2
 go_enter Tryz.func99, Tryz.ntmps99
 go_wp2_with fail
 ·have h1 : ex = 255 := by
   have h : ((ex : Int) == 255) = true := by assumption
   rw [beq_iff_eq] at h
   omega
  go_ret2
  have hor := or_add16 sg 15 31744 (by omega) (by omega)
  refine ⟨⟨sg * 32768 + 31744, ?_, ?_⟩, rfl⟩
  ·show Ending.returned (Value.tuple #[Value.int .u16 _, Value.bool _]) = _
   rw [KS.out, E.out, if_pos h1]
   rw [show (31744 : Int) = ((31744 : Nat) : Int) from rfl, hor]
   rfl
  ·intro x hx
   rw [E.out, if_pos h1] at hx
   injection hx
 all_goals
  have h1 : ¬ ex = 255 := by
   have h : ((ex : Int) == 255) = false := by assumption
   rw [beq_eq_false_iff_ne] at h
   omega
  rw [if_neg h1] at E
 ·have h2 : ex = 0 := by
   have h : ((ex : Int) == 0) = true := by assumption
   rw [beq_iff_eq] at h
   omega
  rw [if_pos h2] at E
  go_ret2
  refine ⟨⟨sg * 32768, ?_, ?_⟩, rfl⟩
  ·show Ending.returned (Value.tuple #[Value.int .u16 _, Value.bool _]) = _
   rw [KS.out, E.out]
   by_cases h : mx = 0 <;> simp [h]
  ·intro x hx
   rw [E.out] at hx
   split at hx
   ·injection hx
   ·cases hx
 all_goals
  have h2 : ¬ ex = 0 := by
   have h : ((ex : Int) == 0) = false := by assumption
   rw [beq_eq_false_iff_ne] at h
   omega
  rw [if_neg h2] at E
 ·have h3 : 113 ≤ ex ∧ ex ≤ 142 := by omega
  rw [if_pos h3] at E
  obtain ⟨q, hq⟩ : ∃ q, ex - 112 = q := ⟨_, rfl⟩
  have hqi : ((ex : Int) - 112) * 1024 = ((q * 1024 : Nat) : Int) := by omega
  have hmi : (mx : Int) / 8192 = ((mx / 8192 : Nat) : Int) := by omega
  have ha := and_mod32 mx 13 (by omega) (by omega)
  simp only [Nat.reducePow, Nat.reduceSub] at ha
  have ho1 := or_add16 sg 15 (q * 1024) (by omega) (by omega)
  have ho2 := or_add16 (sg * 2 ^ 5 + q) 10 (mx / 8192) (by omega) (by omega)
  rw [show (sg * 2 ^ 5 + q) * 2 ^ 10 = sg * 2 ^ 15 + q * 1024 by omega] at ho2
  go_ret2
  refine ⟨⟨sg * 32768 + q * 1024 + mx / 8192, ?_, ?_⟩, rfl⟩
  ·show Ending.returned (Value.tuple #[Value.int .u16 _, Value.bool _]) = _
   rw [KS.out, E.out, hqi, hmi, ho1, ho2]
   have ha' : bits .and .u32 (mx : Int) 8191 = ((mx % 8192 : Nat) : Int) := ha
   rw [ha']
   by_cases h : mx % 8192 = 0
   ·rw [if_pos h, h]; rfl
   ·rw [if_neg h]
    have : (((mx % 8192 : Nat) : Int) == 0) = false := by rw [beq_eq_false_iff_ne]; omega
    rw [this]; rfl
  ·intro x hx
   rw [E.out, hq] at hx
   split at hx
   ·injection hx
   ·cases hx
 ·have h3 : ¬ (113 ≤ ex ∧ ex ≤ 142) := by omega
  have h4 : ¬ (103 ≤ ex ∧ ex < 113) := by omega
  rw [if_neg h3, if_neg h4] at E
  go_ret2
  refine ⟨⟨0, ?_, ?_⟩, rfl⟩
  ·rw [E.out]; rfl
  ·intro x hx
   rw [E.out] at hx
   cases hx
 ·have h3 : ¬ (113 ≤ ex ∧ ex ≤ 142) := by omega
  have h4 : 103 ≤ ex ∧ ex < 113 := by omega
  rw [if_neg h3, if_pos h4] at E
  obtain ⟨sh, hsh⟩ : ∃ sh, 126 - ex = sh := ⟨_, rfl⟩
  obtain ⟨full, hfull⟩ : ∃ full, mx + 8388608 = full := ⟨_, rfl⟩
  have hof : bits .or .u32 (mx : Int) 8388608 = (full : Int) := by
   have := or_low32 mx 23 (by omega) (by omega)
   simp only [Nat.reducePow] at this
   rw [← hfull]
   exact this
  have hp : 2 ^ sh < 2 ^ 32 := Nat.pow_lt_pow_right (by omega) (by omega)
  have hp0 : 0 < 2 ^ sh := Nat.two_pow_pos sh
  simp only [Nat.reducePow] at hp
  have hwi : (2 : Int) ^ sh = ((2 ^ sh : Nat) : Int) := by rw [Int.natCast_pow]; rfl
  have hw : ((2 : Int) ^ sh - 1) % 4294967296 = ((2 ^ sh - 1 : Nat) : Int) := by rw [hwi]; omega
  have hdv : (full : Int) / 2 ^ sh = ((full / 2 ^ sh : Nat) : Int) := by
   rw [Int.natCast_ediv, Int.natCast_pow]; rfl
  have hlt : full / 2 ^ sh < 2 ^ 15 := by
   apply Nat.div_lt_of_lt_mul
   have h1 : 2 ^ 14 ≤ 2 ^ sh := Nat.pow_le_pow_right (by omega) (by omega)
   have h2 : 2 ^ 14 * 2 ^ 15 ≤ 2 ^ sh * 2 ^ 15 := Nat.mul_le_mul_right _ h1
   simp only [Nat.reducePow, Nat.reduceMul] at h2 ⊢
   omega
  have hlt' : full / 2 ^ sh < 32768 := hlt
  have hwr : IntKind.u16.wrap ((full / 2 ^ sh : Nat) : Int) = ((full / 2 ^ sh : Nat) : Int) := u16_nat _ (by omega)
  have ho := or_add16 sg 15 (full / 2 ^ sh) hlt (by simp only [Nat.reducePow]; omega)
  have ha := and_mod32 full sh (by omega) (by omega)
  go_ret2
  refine ⟨⟨sg * 32768 + full / 2 ^ sh, ?_, ?_⟩, rfl⟩
  ·show Ending.returned (Value.tuple #[Value.int .u16 _, Value.bool _]) = _
   rw [KS.out, E.out, hsh, hof, hw, ha, hdv, hwr, ho, hfull]
   by_cases h : full % 2 ^ sh = 0
   ·rw [if_pos h, h]; rfl
   ·rw [if_neg h]
    have : (((full % 2 ^ sh : Nat) : Int) == 0) = false := by rw [beq_eq_false_iff_ne]; omega
    rw [this]; rfl
  ·intro x hx
   rw [E.out, hsh, hfull] at hx
   split at hx
   ·injection hx
   ·cases hx
 ·have h3 : ¬ (113 ≤ ex ∧ ex ≤ 142) := by omega
  have h4 : ¬ (103 ≤ ex ∧ ex < 113) := by omega
  rw [if_neg h3, if_neg h4] at E
  go_ret2
  refine ⟨⟨0, ?_, ?_⟩, rfl⟩
  ·rw [E.out]; rfl
  ·intro x hx
   rw [E.out] at hx
   cases hx
theorem conv_f32 (n : Nat) (hN : isNaN n = false) (w : World) : ∃ r w', (convert 143 144 (.float .f64 n)).run Tryz.prog w = .ok (.float .f32 r) w' ∧ (w' = w ∨ w' = w.drew) ∧ r < 4294967296 ∧ (∀ s x f v, Nar31 n v s x f → r = v) := by
 have hs : Tryz.prog.underlying 143 = some (.float .f64) := Tryz.underlying143
 have hd : Tryz.prog.underlying 144 = some (.float .f32) := Tryz.underlying144
 cases hb : floatToFloatBits .f64 n .f32 with
 | some r =>
  have hs' : (Tryz.prog.underlying 143).isSome = true := by rw [hs]; rfl
  refine ⟨r, w, run_convert_float_float (P := Tryz.prog) (w := w) 143 144 .f64 .f32 n r hs' hd hb, .inl rfl, ?_, ?_⟩
  ·unfold floatToFloatBits at hb
   rw [if_neg (by decide)] at hb
   have hlt : ∀ d : Ieee.Datum, FloatKind.encode .f32 d < 4294967296 := fun d => Ieee.single.write_lt d
   split at hb
   ·cases hb
   ·injection hb with hb; rw [← hb]; exact hlt _
   ·split at hb
    ·cases hb
    ·injection hb with hb; rw [← hb]; exact hlt _
  ·intro s x f v h
   have := slim_of h
   rw [hb] at this
   injection this
 | none =>
  have hbb := hb
  unfold floatToFloatBits at hb
  rw [if_neg (by decide)] at hb
  have hnn : ¬ (∃ a b, FloatKind.decode .f64 n = .nan a b) := by
   rintro ⟨a, b, h⟩
   have := read_nan n
   rw [hN] at this
   have h' : Ieee.double.read n = .nan a b := h
   rw [h'] at this
   cases this
  cases hq : FloatKind.decode .f64 n with
  | nan a b => exact absurd ⟨a, b, hq⟩ hnn
  | infinity a => rw [hq] at hb; cases hb
  | number a b c =>
   rw [hq] at hb
   simp only at hb
   split at hb
   ·rename_i ho
    refine ⟨(Question.floatToFloat n).cut (w.tape w.drawn (Question.floatToFloat n)), w.drew, ?_, .inr rfl, ?_, ?_⟩
    ·simp [convert, run_underlying hs, run_underlying hd, Conv.floatToFloat, hq, ho, Question.forced]
    ·show _ % 2 ^ 32 < 4294967296
     omega
    ·intro s x f v h
     have := slim_of h
     rw [hbb] at this
     cases this
   ·cases hb
theorem conv_f64 (r n : Nat) (hN : isNaN n = false) (hr : r < 4294967296) (w : World) : ∃ m w', (convert 144 143 (.float .f32 r)).run Tryz.prog w = .ok (.float .f64 m) w' ∧ (w' = w ∨ w' = w.drew) ∧ (m = n → narrow n 8 23 = some r) ∧ (∀ s x f, Nar31 n r s x f → m = n) := by
 have hs : Tryz.prog.underlying 144 = some (.float .f32) := Tryz.underlying144
 have hd : Tryz.prog.underlying 143 = some (.float .f64) := Tryz.underlying143
 cases hn : (Ieee.single.read r).isNaN with
 | false =>
  obtain ⟨m, s, x, f, _, hx⟩ := single_fields hr hn
  have hw := wide_of hx
  have hs' : (Tryz.prog.underlying 144).isSome = true := by rw [hs]; rfl
  refine ⟨m, w, run_convert_float_float (P := Tryz.prog) (w := w) 144 143 .f32 .f64 r m hs' hd hw, .inl rfl, ?_, ?_⟩
  ·rintro rfl
   exact narrow31_of hx
  ·intro s' x' f' h
   have := wide_of h
   rw [hw] at this
   injection this
 | true =>
  cases hq : FloatKind.decode .f32 r with
  | number a b c =>
   have h' : Ieee.single.read r = .number a b c := hq
   rw [h'] at hn; cases hn
  | infinity a =>
   have h' : Ieee.single.read r = .infinity a := hq
   rw [h'] at hn; cases hn
  | nan a b =>
   refine ⟨(Question.nanConv .f64 r).cut (w.tape w.drawn (Question.nanConv .f64 r)), w.drew, ?_, .inr rfl, ?_, ?_⟩
   ·simp [convert, run_underlying hs, run_underlying hd, Conv.floatToFloat, hq, Question.forced]
   ·intro h
    exfalso
    have hnan : isNaN ((Question.nanConv .f64 r).cut (w.tape w.drawn (Question.nanConv .f64 r))) = true := by
     rw [isNaN_iff]
     show (_ % 2 * 2 ^ 63 + 0x7ff0000000000000 + 1 + _ / 2 % (2 ^ 52 - 1)) / 2 ^ 52 % 2048 = 2047 ∧ _
     generalize w.tape w.drawn (Question.nanConv .f64 r) = t
     show (t % 2 * 2 ^ 63 + 0x7ff0000000000000 + 1 + t / 2 % (2 ^ 52 - 1)) / 2 ^ 52 % 2048 = 2047 ∧ (t % 2 * 2 ^ 63 + 0x7ff0000000000000 + 1 + t / 2 % (2 ^ 52 - 1)) % 2 ^ 52 ≠ 0
     generalize t / 2 = u
     have : t % 2 = 0 ∨ t % 2 = 1 := by omega
     rcases this with h | h <;> rw [h] <;> simp only [Nat.reducePow, Nat.reduceSub, Nat.reduceMul, Nat.reduceAdd, Nat.zero_add] <;> omega
    rw [h, hN] at hnan
    cases hnan
   ·intro s x f h
    have := read_s h
    have h' : Ieee.single.read r = .nan a b := hq
    rw [h'] at this
    split at this
    ·cases this
    ·split at this <;> cases this
theorem Fresh.step_ {w w1 w2 : World} {l : List UInt8} {r : Value} (hb : Below w.heap.size w w1) (h : Fresh w1 l r w2) : Fresh w l r w2 := ⟨h.own.more hb.size, hb.trans (h.2.mono hb.size)⟩
theorem narrow15_none {n : Nat} (hn : n < 18446744073709551616) (h : narrow n 8 23 = none) : narrow n 5 10 = none := by
 cases h5 : narrow n 5 10 with
 | none => rfl
 | some v =>
  obtain ⟨s, x, f, a1, a2, a3, a4, a5⟩ := narrow15_spec hn h5
  have done : ∀ {x' f' : Nat}, Nar31 n (s * 2147483648 + x' * 8388608 + f') s x' f' → False := fun hx => by
   rw [narrow31_of hx] at h
   cases h
  rcases a5 with ⟨c1, c2, c3⟩ | ⟨c1, c2, c3⟩ | ⟨c1, c2, c3⟩ | ⟨c1, t, full, c2, c3, c4, c5, c6, c7⟩
  ·exact (done (x' := 255) (f' := 0) ⟨a1, rfl, by omega, by omega, .inl ⟨rfl, rfl, c3⟩⟩).elim
  ·exact (done (x' := 0) (f' := 0) ⟨a1, rfl, by omega, by omega, .inr (.inl ⟨rfl, rfl, c3⟩)⟩).elim
  ·have C3 : n = s * 9223372036854775808 + (x + 112 + 896) * 4503599627370496 + f * 8192 * 536870912 := by
    rw [c3, Nat.mul_assoc f 8192, Nat.add_assoc x 112]
   have C := Lib.hid C3
   clear c3 C3
   have g1 : f * 8192 < 8388608 := by omega
   have g2 : x + 112 ≤ 255 := by omega
   have g3 : 1 ≤ x + 112 := by omega
   have g4 : x + 112 ≤ 254 := by omega
   exact (done (x' := x + 112) (f' := f * 8192) ⟨a1, rfl, g1, g2, .inr (.inr (.inl ⟨g3, g4, C.out⟩))⟩).elim
  ·have C := Lib.hid c7
   clear c7
   have e1 : full = f * 2 ^ (23 - t) * 536870912 := by
    rw [c5, Nat.mul_assoc, show (536870912 : Nat) = 2 ^ 29 from rfl, ← Nat.pow_add, show 23 - t + 29 = 52 - t by omega]
   have e2 : 2 ^ (t + 1) * 2 ^ (52 - t) = 9007199254740992 := by
    rw [← Nat.pow_add, show t + 1 + (52 - t) = 53 by omega]
   have b2 := Nat.mul_lt_mul_of_pos_right c4 (Nat.two_pow_pos (52 - t))
   rw [e2, ← c5] at b2
   obtain ⟨q, hq⟩ : ∃ q, f * 2 ^ (23 - t) = q := ⟨_, rfl⟩
   rw [hq] at e1
   have g0 : 8388608 ≤ q ∧ q < 16777216 := by clear a2; omega
   have g5 : full - 4503599627370496 = (q - 8388608) * 536870912 := by clear a2; omega
   have g1 : q - 8388608 < 8388608 := by omega
   have g2 : 103 + t ≤ 255 := by omega
   have g3 : 1 ≤ 103 + t := by omega
   have g4 : 103 + t ≤ 254 := by omega
   have C3 : n = s * 9223372036854775808 + (103 + t + 896) * 4503599627370496 + (q - 8388608) * 536870912 := by
    rw [C.out, g5, show 103 + t + 896 = 999 + t by omega]
   exact (done (x' := 103 + t) (f' := q - 8388608) ⟨a1, rfl, g1, g2, .inr (.inr (.inl ⟨g3, g4, C3⟩))⟩).elim
set_option maxRecDepth 100000 in
set_option maxHeartbeats 3200000 in
theorem cbor_float_nat (n : Nat) (hn : n < 18446744073709551616) (w : World) :
  Calls Tryz.prog 80 #[.int .u64 (n : Int)] w fun e w' => ∃ r, e = .returned r ∧ Fresh w (floatB n) r w' := by
 have r1 := run_f64frombits n
 have r2 := order_fne n
 cases hN : isNaN n with
 | true =>
  rw [hN] at r2
  have E : Hid (floatB n = [u8 249, u8 126, u8 0]) := by rw [Hid, floatB, if_pos hN]
  clear hN hn
  go_enter Tryz.func80, Tryz.ntmps80
  go_wp2_with fail
  go_ret
  refine ⟨_, rfl, ?_⟩
  rw [E.out]
  exact Fresh.lit w _ _ 3 rfl (by simp) rfl
 | false =>
  rw [hN] at r2
  obtain ⟨r, w1, hc1, hw1, hr, hv⟩ := conv_f32 n hN w
  obtain ⟨m, w2, hc2, hw2, hm1, hm2⟩ := conv_f64 r n hN hr w1
  have hb : Below w.heap.size w w2 := by
   rcases hw1 with rfl | rfl <;> rcases hw2 with rfl | rfl
   ·exact Below.refl _ _
   ·exact (Below.refl _ _).drew
   ·exact (Below.refl _ _).drew
   ·exact (Below.refl _ _).drew.drew
  have r3 := run_f64bits m
  have r4 := run_f32bits r
  have HNN := Lib.hid hN
  cases h2 : narrow n 8 23 with
  | none =>
   have hne : m ≠ n := fun h => by rw [hm1 h] at h2; cases h2
   have b1 : ((m : Int) != (n : Int)) = true := by rw [bne_iff_ne]; omega
   have p1 : (m = n) = False := eq_false hne
   have E : Hid (floatB n = u8 251 :: be8 n 8) := by rw [Hid, floatB, if_neg (by simp [hN]), narrow15_none hn h2, h2]
   have WD := Lib.hid (fun w3 : World => cbor_wide n hn w3)
   have hO := OwnB.lit w2 w.heap.size [u8 251] #[.int .u8 251] 1 rfl rfl hb.size (by simp)
   have hbz := hb.alloc hb.size (.cells #[.int .u8 251] 5)
   clear hm1 hm2 hv hN hn h2 hne hw1 hw2 hr
   go_enter Tryz.func80, Tryz.ntmps80
   go_wp2_with fail
   refine (WD.out _).mono ?_
   rintro e w3 ⟨rr, rfl, hf⟩
   obtain ⟨RA, rc, rfl, _⟩ := hf.own.form
   have hO3 := hO.below hf.2
   have hb3 := hbz.trans (hf.2.mono hbz.size)
   go_wp2_with (at_builtin; refine stop_in ?_)
   unfold Stopped
   refine wpList_app_bytes rfl (.tmp 21) (.tmp 23) rfl w.heap.size _ _ rfl hO3 RA _ rc (be8 n 8) rfl rfl hf.own.src (by simp [be8_length]) hb3.size fun v' w7 hO7 hg7 hat7 => ?_
   have hb7 := hb3.grown hg7 hb3.size (fun q hq => (hO3.lt q hq).1)
   clear hg7 hat7 hO3 hf
   go_wp2_with fail
   go_ret
   exact ⟨_, rfl, by rw [E.out]; exact ⟨hO7, hb7⟩⟩
  | some v =>
   obtain ⟨s, x, f, hx⟩ := narrow31_spec hn h2
   obtain rfl := hv s x f v hx
   obtain rfl := hm2 s x f hx
   have b1 : ((m : Int) != (m : Int)) = false := by simp
   have HF := half_of hx
   have HH := Lib.hid (fun w3 : World => cbor_half r hr w3)
   cases h5 : narrow m 5 10 with
   | some q =>
    rw [h5] at HF
    rw [HF] at HH
    have E : Hid (floatB m = [u8 249, u8 (q / 256), u8 q]) := by rw [Hid, floatB, if_neg (by simp [hN]), h5]
    clear hm1 hm2 hv hN hn h2 hw1 hw2 hr hx HF h5
    go_enter Tryz.func80, Tryz.ntmps80
    go_wp2_with fail
    refine (HH.out _).mono ?_
    rintro e w' ⟨⟨hq, rfl, he⟩, rfl⟩
    obtain rfl := he q rfl
    clear he
    go_wp2_with fail
    go_ret
    refine ⟨_, rfl, ?_⟩
    rw [E.out]
    refine (Fresh.lit w2 _ _ 3 rfl (by simp) ?_).step_ hb
    simp only [List.map_cons, List.map_nil, byteV_u8]
    simp
   | none =>
    rw [h5] at HF
    rw [HF] at HH
    have E : Hid (floatB m = [u8 250, u8 (r / 16777216), u8 (r / 65536), u8 (r / 256), u8 r]) := by rw [Hid, floatB, if_neg (by simp [hN]), h5, h2]
    clear hm1 hm2 hv hN hn h2 hw1 hw2 hr hx HF h5
    go_enter Tryz.func80, Tryz.ntmps80
    go_wp2_with fail
    refine (HH.out _).mono ?_
    rintro e w' ⟨⟨hq, rfl, _⟩, rfl⟩
    go_wp2_with fail
    go_ret
    refine ⟨_, rfl, ?_⟩
    rw [E.out]
    refine (Fresh.lit w2 _ _ 5 rfl (by simp) ?_).step_ hb
    simp only [List.map_cons, List.map_nil, byteV_u8]
    simp
theorem cbor_float (n : Int) (w : World) (h0 : 0 ≤ n) (h1 : n < 18446744073709551616) :
  Calls Tryz.prog 80 #[.int .u64 n] w fun e w' => ∃ r, e = .returned r ∧ Fresh w (floatB n.toNat) r w' := by
 obtain ⟨m, rfl⟩ := Int.eq_ofNat_of_zero_le h0
 rw [Int.toNat_natCast]
 exact cbor_float_nat m (by omega) w
def U64 (n : Int) : Prop := 0 ≤ n ∧ n < 18446744073709551616
def Adds (w : World) (base : Nat) (v : Value) (l : List UInt8) (e : Ending) (w' : World) : Prop :=
 ∃ r, e = .returned r ∧ OwnB w' base r l ∧ w.grownBy w' v.ownBlock ∧ At0 w v.ownBlock r.ownBlock
def AddSaid (x : Itm) : Prop := ∀ (H : Snap) (k n : Int) (ba : Option Addr) (bl bc : Nat) (ia : Option Addr) (il ic : Nat) (w : World) (base : Nat) (v : Value) (l : List UInt8),
 Kinds x → ItemA H k n ba bl bc ia il ic x → Holds w H → OwnB w base v l → base ≤ w.heap.size → (∀ g, v.ownBlock = some g → H g = none) → l.length + (encB x).length ≤ 1099511627776 →
 Calls Tryz.prog 60 #[v, .agg #[.int .i64 k, .int .u64 n, .slice ba bl bc, .slice ia il ic]] w (Adds w base v (l ++ encB x))
set_option maxRecDepth 100000 in
set_option maxHeartbeats 800000 in
theorem add_float (x : Itm) (h8 : x.kind = 8) : AddSaid x := by
 intro H k n ba bl bc ia il ic w base v l hk hx hH hown hbase hv hlen
 obtain ⟨rfl, rfl, rfl, rfl, hx⟩ := hx
 have hbd := hx.bounds
 have E : Hid (encB x = floatB x.n) := by rw [Hid, encB_eq, if_pos h8]
 rw [E.out] at hlen
 have HL := Lib.hid hlen
 have HB := Lib.hid hbd
 have HV := Lib.hid hv
 clear hlen hbd hv
 go_enter Tryz.func60, Tryz.ntmps60
 go_wp2_with (first
  | (go_at_call 80; refine (cbor_float _ _ (by omega) (by have := HB.out; omega)).mono ?_; rintro e w1 ⟨r, rfl, hf⟩; obtain ⟨A, c, rfl, _, _, hsrc⟩ := hf.own.form)
  | (at_builtin; refine wpList_app_bytes rfl (.tmp 11) (.tmp 14) rfl base v l rfl ((hown.alloc _).below hf.2) A _ c (floatB x.n) rfl (by simp) (by simpa using hsrc) HL.out (by have := hf.2.size; simp at this; omega) ?_; intro v' w2 hown' hg hat))
 go_ret
 refine ⟨v', rfl, by rw [E.out]; exact hown', ?_, ?_⟩
 ·exact grown_step (grown_of_below ((below_box w _).trans (hf.2.mono (by simp))) _) hg (.inl rfl)
 ·exact At0.step (.inl rfl) (by have := hf.2.size; simp at this; omega) hat
set_option maxRecDepth 100000 in
set_option maxHeartbeats 800000 in
theorem add_simple (x : Itm) (h7 : x.kind = 7) (h24 : 24 ≤ x.n) : AddSaid x := by
 intro H k n ba bl bc ia il ic w base v l hk hx hH hown hbase hv hlen
 obtain ⟨rfl, rfl, rfl, rfl, hx⟩ := hx
 have hbd := hx.bounds
 have E : Hid (encB x = [u8 248, u8 x.n]) := by rw [Hid, encB_eq, if_neg (by omega), if_pos ⟨h7, h24⟩]
 rw [E.out] at hlen
 have HL := Lib.hid hlen
 have HB := Lib.hid hbd
 have HV := Lib.hid hv
 have h24' : (24 : Int) ≤ (x.n : Int) := by omega
 clear hlen hbd hv h24
 go_enter Tryz.func60, Tryz.ntmps60
 go_wp2_with (at_builtin; refine wpList_app_bytes rfl (.tmp 25) (.tmp 29) rfl base v l rfl ((hown.alloc _).alloc _) _ 2 2 [u8 248, u8 x.n] rfl rfl ?hs HL.out (by simp; omega) ?_)
 case hs => exact Src.new _ _ _ _ (by simp) _ (by simp [u8_toNat])
 intro v' w2 hown' hg hat
 go_wp2
 go_ret
 refine ⟨v', rfl, by rw [E.out]; exact hown', ?_, ?_⟩
 ·exact grown_step (grown_of_below ((below_box w _).alloc (by simp) _) _) hg (.inl rfl)
 ·exact At0.step (.inl rfl) (by simp; omega) hat
theorem cell_box {w : World} {g : Nat} {cs : Array Value} {e : TypeId} (h : w.heap[g]? = some (.cells cs e (0, 0))) (i : Nat) : w.cell? ⟨g, i, none⟩ = cs[i]? := cell_of_row w g i cs e (0, 0) h
theorem more_box {w w1 w2 w3 : World} {base : Nat} {v : Value} {l : List UInt8} {cs : Array Value} {e : TypeId} (hown : OwnB w base v l)
  (h1 : Below (w.alloc (.cells cs e)).heap.size (w.alloc (.cells cs e)) w1) (h2 : Below w1.heap.size w1 w2) (h3 : w2.grownBy w3 v.ownBlock) :
  w3.heap[w.heap.size]? = some (.cells cs e (0, 0)) ∧ w.heap.size + 1 ≤ w3.heap.size := by
 have s1 := h1.size
 have s2 := h2.size
 have s3 := h3.size
 simp at s1
 refine ⟨?_, by omega⟩
 rw [h3.block _ (by omega) (fun h => by have := (hown.lt _ h.symm).2; omega), h2.block _ (by omega), h1.block _ (by simp)]
 exact heap_alloc_new w _
set_option maxRecDepth 100000 in
set_option maxHeartbeats 1600000 in
theorem add_more (x : Itm) (h8 : ¬ x.kind = 8) (h7 : ¬ (x.kind = 7 ∧ 24 ≤ x.n)) (ih : ∀ y : Itm, cnt y < cnt x → AddSaid y) : AddSaid x := by
 intro H k n ba bl bc ia il ic w base v l hk hx hH hown hbase hv hlen
 obtain ⟨rfl, rfl, rfl, rfl, hx⟩ := hx
 have hbd := hx.bounds
 have E : Hid (encB x = headB x.kind.toNat (numP x) ++ x.bytes ++ encL x.items) := by rw [Hid, encB_eq, if_neg h8, if_neg h7]
 rw [E.out] at hlen
 have hkk := hk.kind
 have hx8 : x.kind < 8 := by omega
 have b8 : (x.kind == 8) = false := by simp [h8]
 have hN0 : (numP x : Int) < 18446744073709551616 := by
  unfold numP
  repeat' split
  all_goals omega
 have HN : U64 (numP x) := ⟨by omega, hN0⟩
 clear hN0
 have hn24 : x.kind = 7 → (x.n : Int) < 24 := fun h => by have : ¬ 24 ≤ x.n := fun h' => h7 ⟨h, h'⟩; omega
 have HL := Lib.hid hlen
 have HB := Lib.hid hbd
 have HV := Lib.hid hv
 clear hlen hbd hv h8 h7
 have hkb : ((x.kind == 7) = true ∧ (x.n : Int) < 24) ∨ (x.kind == 7) = false := by
  by_cases hk7 : x.kind = 7
  ·exact .inl ⟨by simp [hk7], hn24 hk7⟩
  ·exact .inr (by simp [hk7])
 clear hn24
 have G : Hid (w.grownBy w none) := grown_refl w none
 rcases hkb with ⟨b7, hn⟩ | b7
 all_goals
  go_enter Tryz.func60, Tryz.ntmps60
  go_wp2_with fail
  refine (cbor_major hx.arg _ (by omega) (by omega)).mono ?_
  rintro e w1 ⟨rfl, hm⟩
  go_wp2_with fail
  refine (cbor_head _ _ _ (by omega) (by omega) (by omega) HN.2).mono ?_
  rintro e w2 ⟨r, rfl, hf⟩
  obtain ⟨A, c, rfl, _, _, hsrc⟩ := hf.own.form
  have hs1 : w.heap.size + 1 ≤ w1.heap.size := by have h1 := hm.size; simp at h1; omega
  have hs2 : w.heap.size + 1 ≤ w2.heap.size := by have h1 := hm.size; have h2 := hf.2.size; simp at h1; omega
  go_wp2_with (at_builtin; refine stop_in ?_)
  unfold Stopped
  refine wpList_app_bytes rfl (.tmp 31) (.tmp 36) rfl base v l rfl (((hown.alloc _).below hm).below hf.2) A _ c (headB x.kind.toNat (numP x)) rfl (by simp) (by simpa using hsrc) (by have := HL.out; simp at this ⊢; omega) (by omega) ?_
  intro v3 w3 hown3 hg3 hat3
  obtain ⟨hbx3, hs3⟩ := more_box hown hm hf.2 hg3
  have hc2 := cell_box hbx3 2
  have hc3 := cell_box hbx3 3
  simp at hc2 hc3
  have hH3 : Holds w3 H := (((hH.alloc _).below hm (Nat.le_refl _)).below hf.2 (Nat.le_refl _)).grown hg3 HV.out
  have hsrc5 := Src.of_row hx.bytes.row hH3
  have hG3 : w.grownBy w3 v.ownBlock := grown_step (grown_of_below (((below_box w _).trans (hm.mono (by simp))).trans (hf.2.mono (by omega))) _) hg3 (.inl rfl)
  go_wp2_with (at_builtin; refine stop_in ?_)
  unfold Stopped
  refine wpList_app_bytes rfl (.tmp 38) (.tmp 40) rfl base v3 _ rfl hown3 ba _ bc x.bytes rfl rfl hsrc5 (by have := HL.out; simp at this ⊢; omega) (by omega) ?_
  intro v4 w4 hown4 hg4 hat4
  have hH4 : Holds w4 H := hH3.grown hg4 (fun g hg => by
   rcases hat3 with h | ⟨g', h, hg'⟩
   ·exact HV.out g (h ▸ hg)
   ·rw [h] at hg; injection hg with hg; subst hg; exact hH.none_of_ge (by omega))
  have hat34 : At0 w v.ownBlock v3.ownBlock := At0.step (.inl rfl) (by omega) hat3
  have hG4 : w.grownBy w4 v.ownBlock := grown_step hG3 hg4 hat34
  have hbx4 : w4.heap[w.heap.size]? = some (.cells #[.int .i64 x.kind, .int .u64 x.n, .slice ba x.bytes.length bc, .slice ia x.items.length ic] 75 (0, 0)) :=
   (hg4.block _ (by omega) (fun h => by
    rcases hat34 with h' | ⟨g', h', hg'⟩
    ·rw [h'] at h; have := (hown.lt _ h.symm).2; omega
    ·rw [h'] at h; injection h with h; subst h
     rcases hat3 with h3 | ⟨g3, h3, hg3'⟩
     ·rw [h3] at h'; have := (hown.lt _ h').2; omega
     ·rw [h'] at h3; injection h3 with h3; omega)).trans hbx3
  have hc43 := cell_box hbx4 3
  simp at hc43
  have hat44 : At0 w v.ownBlock v4.ownBlock := At0.step hat34 (by omega) hat4
  clear hc2 hc3 hbx3 hbx4
  go_wp2_with (at_builtin; refine stop_in ?_)
  have hil : x.items.length ≤ 9223372036854775807 := by have := HB.out; omega
  go_loopw [0, 45] (fun v' i wr => ∃ k : Nat, k ≤ x.items.length ∧ i = .int .i64 k ∧ OwnB wr base v' (l ++ headB x.kind.toNat (numP x) ++ x.bytes ++ encL (x.items.take k)) ∧
    w.grownBy wr v.ownBlock ∧ At0 w v.ownBlock v'.ownBlock) (fun _ i _ => x.items.length - (intOf i).toNat)
  case atStart => exact ⟨0, Nat.zero_le _, rfl, by simpa [encL] using hown4, hG4, hat44⟩
  case round =>
   obtain ⟨k, hkl, rfl, hown5, hG5, hat5⟩ := hrel
   by_cases hlt : k < x.items.length
   ·have hH5 : Holds wr H := hH.grown hG5 HV.out
    obtain ⟨ib, io, hia, hel⟩ := hx.items (by omega)
    obtain ⟨eba, ebc, eia, eic, q0, q1, q2, q3, hex⟩ := hel.get k hlt
    subst hia
    have p0 := hH5.cell q0
    have p1 := hH5.cell q1
    have p2 := hH5.cell q2
    have p3 := hH5.cell q3
    have hfin := encL_take_succ x.items k hlt
    have hle := encL_take_le x.items (k + 1)
    have hrow : ∀ g, u0.ownBlock = some g → H g = none := fun g hg => by
     rcases hat5 with h | ⟨g', h, hg'⟩
     ·exact HV.out g (h ▸ hg)
     ·rw [h] at hg; injection hg with hg; subst hg; exact hH.none_of_ge hg'
    have hs5 := hG5.size
    have hlen5 : (l ++ headB x.kind.toNat (numP x) ++ x.bytes ++ encL (x.items.take k)).length + (encB x.items[k]).length ≤ 1099511627776 := by
     have h1 := HL.out
     rw [hfin] at hle
     simp only [List.length_append] at h1 hle ⊢
     omega
    have IHC := ih x.items[k] (cnt_items x k hlt) H _ _ eba _ ebc eia _ eic (wr.alloc (.cells #[.int .i64 x.items[k].kind, .int .u64 x.items[k].n, .slice eba x.items[k].bytes.length ebc, .slice eia x.items[k].items.length eic] 75)) base u0 _
     (hk.items.get k hlt) hex.arg (hH5.alloc _) (hown5.alloc _) (by simp; omega) hrow hlen5
    have IHH := Lib.hid IHC
    have HF := Lib.hid hfin
    clear hfin hle hlen5 hrow q0 q1 q2 q3 IHC
    go_wp2_with fail
    refine IHH.out.mono ?_
    rintro e w6 ⟨r6, rfl, hown6, hg6, hat6⟩
    have R : OwnB w6 base r6 (l ++ headB x.kind.toNat (numP x) ++ x.bytes ++ encL (x.items.take (k + 1))) ∧ w.grownBy w6 v.ownBlock ∧ At0 w v.ownBlock r6.ownBlock := by
     refine ⟨by rw [HF.out]; simpa using hown6, grown_step (grown_alloc hG5 _) hg6 hat5, At0.step hat5 (by simp; omega) hat6⟩
    clear hown6 hg6 hat6 hown5 hG5 hat5 IHH HF p0 p1 p2 p3
    go_wp2_with fail
    go_roundw
    case rel => exact ⟨k + 1, by omega, by go_num, R.1, R.2.1, R.2.2⟩
    case measure => simp [intOf]; omega
   ·have hkk : k = x.items.length := by omega
    subst hkk
    rw [List.take_length] at hown5
    go_wp2_with fail
    go_ret
    exact ⟨_, rfl, by rw [E.out]; simpa using hown5, hG5, hat5⟩
theorem cbor_add (x : Itm) : AddSaid x := by
 have main : ∀ N, ∀ x : Itm, cnt x ≤ N → AddSaid x := by
  intro N
  induction N with
  | zero =>
   intro x hx
   have : 0 < cnt x := by cases x; rw [cnt]; omega
   omega
  | succ N ih =>
   intro x hx
   by_cases h8 : x.kind = 8
   ·exact add_float x h8
   ·by_cases h7 : x.kind = 7 ∧ 24 ≤ x.n
    ·exact add_simple x h7.1 h7.2
    ·exact add_more x h8 h7 fun y hy => ih y (by omega)
 exact main _ x (Nat.le_refl _)
theorem nn_eq (n : Nat) : ((n : Int) == 9221120237041090560) = (n == 9221120237041090560) := by rw [Bool.eq_iff_iff, beq_iff_eq, beq_iff_eq]; omega
theorem len0 {α : Type} (l : List α) : ((l.length : Int) == 0) = l.isEmpty := by cases l <;> simp <;> omega
theorem tup2 {a b c d : Bool} (h : a = b) (k : c = d) : Ending.returned (.tuple #[.bool a, .bool c]) = Ending.returned (.tuple #[.bool b, .bool d]) := by rw [h, k]
set_option maxRecDepth 100000 in
set_option maxHeartbeats 1600000 in
theorem plain_a {H : Snap} {x : Itm} {ba : Option Addr} {bc : Nat} {ia : Option Addr} {ic : Nat} (hx : IsItem H ba bc ia ic x) (w : World) (hk : x.kind = 0 ∨ x.kind = 1 ∨ x.kind = 2 ∨ x.kind = 7):
  Calls Tryz.prog 93 #[itemV x ba bc ia ic] w fun e w' => e = .returned (.tuple #[.bool (okPlain x), .bool (isPlain x)]) ∧ Below w.heap.size w w' := by
 obtain ⟨_, _, hn, hb1, hb2, hi1, hi2⟩ := hx.bounds
 have hb : x.bytes.length ≤ 9223372036854775807 := by omega
 have hi : x.items.length ≤ 9223372036854775807 := by omega
 have HN := Lib.hid hn
 clear hb1 hb2 hi1 hi2 hx hn
 rcases hk with hk | hk | hk | hk
 all_goals
  have E : Hid (okPlain x = okPlain x ∧ isPlain x = true) := ⟨rfl, by simp [isPlain, hk]⟩
  go_enter Tryz.func93, Tryz.ntmps93
  go_wp2
  all_goals go_ret2
 all_goals refine ⟨tup2 ?_ E.out.2.symm, ?_⟩
 all_goals first | exact below_box w _ | exact (below_box w _).drew | skip
 all_goals (simp [okPlain, len0, *]; try (rw [Bool.eq_iff_iff]; simp; omega); skip)
 all_goals omega
set_option maxRecDepth 100000 in
set_option maxHeartbeats 1600000 in
theorem plain_t {H : Snap} (hT : Tabs H) {x : Itm} {ba : Option Addr} {bc : Nat} {ia : Option Addr} {ic : Nat} (hx : IsItem H ba bc ia ic x) (w : World) (hH : Holds w H) (hk : x.kind = 3):
  Calls Tryz.prog 93 #[itemV x ba bc ia ic] w fun e w' => e = .returned (.tuple #[.bool (okPlain x), .bool (isPlain x)]) ∧ Below w.heap.size w w' := by
 obtain ⟨_, _, hn, hb1, hb2, hi1, hi2⟩ := hx.bounds
 have hb : x.bytes.length ≤ 9223372036854775807 := by omega
 have hi : x.items.length ≤ 9223372036854775807 := by omega
 have HN := Lib.hid hn
 have hby := hx.bytes
 clear hb1 hb2 hi1 hi2 hx hn
 have E : Hid (isPlain x = true) := by simp [Hid, isPlain, hk]
 go_enter Tryz.func93, Tryz.ntmps93
 go_wp2_with (go_at_call 72; refine (utf8_Valid hT _ (hH.alloc _) ba _ _ bc rfl hby).mono ?_; rintro e w1 ⟨rfl, hb1⟩)
 all_goals go_ret2
 all_goals refine ⟨tup2 ?_ E.out.symm, ?_⟩
 all_goals first | exact (below_box w _).trans (hb1.mono (by simp)) | exact below_box w _ | exact (below_box w _).drew | skip
 all_goals (simp [okPlain, *])
set_option maxRecDepth 100000 in
set_option maxHeartbeats 1600000 in
theorem plain_f {H : Snap} {x : Itm} {ba : Option Addr} {bc : Nat} {ia : Option Addr} {ic : Nat} (hx : IsItem H ba bc ia ic x) (w : World) (hk : x.kind = 8) :
  Calls Tryz.prog 93 #[itemV x ba bc ia ic] w fun e w' => e = .returned (.tuple #[.bool (okPlain x), .bool (isPlain x)]) ∧ Below w.heap.size w w' := by
 obtain ⟨_, _, hn, hb1, hb2, hi1, hi2⟩ := hx.bounds
 have hb : x.bytes.length ≤ 9223372036854775807 := by omega
 have hi : x.items.length ≤ 9223372036854775807 := by omega
 have HN := Lib.hid hn
 clear hb1 hb2 hi1 hi2 hx hn
 have E : Hid (isPlain x = true) := by simp [Hid, isPlain, hk]
 go_enter Tryz.func93, Tryz.ntmps93
 have r1 := run_f64frombits x.n
 have r2 := order_feq x.n
 go_wp2
 all_goals go_ret2
 all_goals refine ⟨tup2 ?_ E.out.symm, ?_⟩
 all_goals first | exact below_box w _ | exact (below_box w _).drew | skip
 all_goals simp [okPlain, notNumber, nn_eq, *]
set_option maxRecDepth 100000 in
set_option maxHeartbeats 1600000 in
theorem plain_o {x : Itm} {ba : Option Addr} {bc : Nat} {ia : Option Addr} {ic : Nat} (w : World) (hk : isPlain x = false) :
  Calls Tryz.prog 93 #[itemV x ba bc ia ic] w fun e w' => e = .returned (.tuple #[.bool (okPlain x), .bool (isPlain x)]) ∧ Below w.heap.size w w' := by
 have h : (x.kind == 0) = false ∧ (x.kind == 1) = false ∧ (x.kind == 2) = false ∧ (x.kind == 3) = false ∧ (x.kind == 7) = false ∧ (x.kind == 8) = false := by
  simp only [isPlain, Bool.or_eq_false_iff] at hk
  simp only [hk, and_self]
 obtain ⟨h0, h1, h2, h3, h7, h8⟩ := h
 have E : Hid (isPlain x = false ∧ okPlain x = false) := ⟨hk, by
  simp only [beq_eq_false_iff_ne, ne_eq] at h0 h1 h2 h3 h7 h8
  simp [okPlain, *]⟩
 clear hk
 go_enter Tryz.func93, Tryz.ntmps93
 go_wp2
 go_ret2
 exact ⟨tup2 E.out.2.symm E.out.1.symm, below_box w _⟩
theorem cbor_plain {H : Snap} (hT : Tabs H) {k n : Int} {ba : Option Addr} {bl bc : Nat} {ia : Option Addr} {il ic : Nat} {x : Itm} (hx : ItemA H k n ba bl bc ia il ic x) (w : World) (hH : Holds w H) :
  Calls Tryz.prog 93 #[.agg #[.int .i64 k, .int .u64 n, .slice ba bl bc, .slice ia il ic]] w fun e w' => e = .returned (.tuple #[.bool (okPlain x), .bool (isPlain x)]) ∧ Below w.heap.size w w' := by
 obtain ⟨rfl, rfl, rfl, rfl, hx⟩ := hx
 by_cases h3 : x.kind = 3
 ·exact plain_t hT hx w hH h3
 by_cases h8 : x.kind = 8
 ·exact plain_f hx w h8
 by_cases ha : x.kind = 0 ∨ x.kind = 1 ∨ x.kind = 2 ∨ x.kind = 7
 ·exact plain_a hx w ha
 ·exact plain_o w (by simp [isPlain]; omega)
def leftI : Option Nat → Int
 | none => -1
 | some r => r
def LeftSaid (x : Itm) : Prop := ∀ (H : Snap), Tabs H → ∀ (k n : Int) (ba : Option Addr) (bl bc : Nat) (ia : Option Addr) (il ic : Nat) (w : World) (c d : Nat),
 ItemA H k n ba bl bc ia il ic x → Holds w H → c ≤ 65536 → d ≤ 65536 →
 Calls Tryz.prog 53 #[.agg #[.int .i64 k, .int .u64 n, .slice ba bl bc, .slice ia il ic], .int .i64 c, .int .i64 d] w fun e w' => e = .returned (.int .i64 (leftI (leftP x c d))) ∧ Below w.heap.size w w'
set_option maxRecDepth 100000 in
theorem left_zero (x : Itm) {H : Snap} {ba : Option Addr} {bc : Nat} {ia : Option Addr} {ic : Nat} (w : World) (d : Nat) :
  Calls Tryz.prog 53 #[itemV x ba bc ia ic, .int .i64 0, .int .i64 d] w fun e w' => e = .returned (.int .i64 (leftI (leftP x 0 d))) ∧ Below w.heap.size w w' := by
 have E : Hid (leftP x 0 d = none) := by rw [Hid, leftP_eq, if_pos (by omega)]
 go_enter Tryz.func53, Tryz.ntmps53
 go_wp2_with fail
 go_ret
 exact ⟨by rw [E.out]; rfl, below_box w _⟩
theorem left_none {x : Itm} {c d : Nat} (h : nodeR x d (c - 1) = false) : leftP x c d = none := by
 rw [leftP_eq]
 by_cases h1 : c < 1
 ·rw [if_pos h1]
 ·rw [if_neg h1, if_pos h]
theorem nodeR_01 {x : Itm} {d m : Nat} (hk : x.kind = 0 ∨ x.kind = 1) : nodeR x d m = true ↔ x.bytes.length = 0 ∧ x.items.length = 0 := by
 have hp := (isPlain_iff x).2 (by omega)
 unfold nodeR nodeOk okPlain
 rw [if_pos hp, if_pos hk]
 simp only [Bool.and_eq_true, List.isEmpty_iff, decide_eq_true_eq, List.length_eq_zero_iff]
 constructor
 ·rintro ⟨⟨⟨a, b⟩, _⟩, _⟩; exact ⟨a, b⟩
 ·rintro ⟨a, b⟩; exact ⟨⟨⟨a, b⟩, by rw [a]; simp⟩, by rw [b]; simp⟩
theorem nodeR_2 {x : Itm} {d m : Nat} (hk : x.kind = 2) : nodeR x d m = true ↔ x.n = 0 ∧ x.items.length = 0 ∧ x.bytes.length ≤ 4096 := by
 have hp := (isPlain_iff x).2 (by omega)
 unfold nodeR nodeOk okPlain
 rw [if_pos hp, if_neg (by omega), if_pos hk]
 simp only [Bool.and_eq_true, List.isEmpty_iff, decide_eq_true_eq, List.length_eq_zero_iff, beq_iff_eq]
 constructor
 ·rintro ⟨⟨⟨a, b⟩, c⟩, _⟩; exact ⟨a, b, c⟩
 ·rintro ⟨a, b, c⟩; exact ⟨⟨⟨a, b⟩, c⟩, by rw [b]; simp⟩
theorem nodeR_3 {x : Itm} {d m : Nat} (hk : x.kind = 3) : nodeR x d m = true ↔ x.n = 0 ∧ x.items.length = 0 ∧ x.bytes.length ≤ 4096 ∧ Lib.validD x.bytes = true := by
 have hp := (isPlain_iff x).2 (by omega)
 unfold nodeR nodeOk okPlain
 rw [if_pos hp, if_neg (by omega), if_neg (by omega), if_pos hk]
 simp only [Bool.and_eq_true, List.isEmpty_iff, decide_eq_true_eq, List.length_eq_zero_iff, beq_iff_eq]
 constructor
 ·rintro ⟨⟨⟨⟨a, b⟩, v⟩, c⟩, _⟩; exact ⟨a, b, c, v⟩
 ·rintro ⟨a, b, c, v⟩; exact ⟨⟨⟨⟨a, b⟩, v⟩, c⟩, by rw [b]; simp⟩
theorem nodeR_7 {x : Itm} {d m : Nat} (hk : x.kind = 7) : nodeR x d m = true ↔ x.bytes.length = 0 ∧ x.items.length = 0 ∧ (x.n < 24 ∨ (32 ≤ x.n ∧ x.n < 256)) := by
 have hp := (isPlain_iff x).2 (by omega)
 unfold nodeR nodeOk okPlain
 rw [if_pos hp, if_neg (by omega), if_neg (by omega), if_neg (by omega), if_pos hk]
 simp only [Bool.and_eq_true, Bool.or_eq_true, List.isEmpty_iff, decide_eq_true_eq, List.length_eq_zero_iff, beq_iff_eq]
 constructor
 ·rintro ⟨⟨⟨⟨a, b⟩, v⟩, _⟩, _⟩; exact ⟨a, b, v⟩
 ·rintro ⟨a, b, v⟩; exact ⟨⟨⟨⟨a, b⟩, v⟩, by rw [a]; simp⟩, by rw [b]; simp⟩
theorem nodeR_8 {x : Itm} {d m : Nat} (hk : x.kind = 8) : nodeR x d m = true ↔ x.bytes.length = 0 ∧ x.items.length = 0 ∧ (isNaN x.n = false ∨ x.n = notNumber) := by
 have hp := (isPlain_iff x).2 (by omega)
 unfold nodeR nodeOk okPlain
 rw [if_pos hp, if_neg (by omega), if_neg (by omega), if_neg (by omega), if_neg (by omega), if_pos hk]
 simp only [Bool.and_eq_true, Bool.or_eq_true, List.isEmpty_iff, decide_eq_true_eq, List.length_eq_zero_iff, beq_iff_eq, Bool.not_eq_true']
 constructor
 ·rintro ⟨⟨⟨⟨a, b⟩, v⟩, _⟩, _⟩; exact ⟨a, b, v⟩
 ·rintro ⟨a, b, v⟩; exact ⟨⟨⟨⟨a, b⟩, v⟩, by rw [a]; simp⟩, by rw [b]; simp⟩
theorem nodeR_456 {x : Itm} {d m : Nat} (hk : 4 ≤ x.kind ∧ x.kind ≤ 6) : nodeR x d m = true ↔ d < 8 ∧ x.bytes.length = 0 ∧ (x.kind = 6 → x.items.length = 1) ∧ (x.kind ≠ 6 → x.n = 0) ∧ (x.kind = 5 → x.items.length % 2 = 0) ∧ x.items.length ≤ m := by
 have hp : ¬ isPlain x = true := by rw [isPlain_iff]; omega
 unfold nodeR nodeOk frameOk
 rw [if_neg hp]
 simp only [Bool.and_eq_true, decide_eq_true_eq]
 constructor
 ·rintro ⟨⟨⟨_, _, a, b, c, d, e⟩, _⟩, f⟩; exact ⟨a, b, c, d, e, f⟩
 ·rintro ⟨a, b, c, d, e, f⟩; exact ⟨⟨⟨hk.1, hk.2, a, b, c, d, e⟩, by omega⟩, f⟩
theorem nodeR_out {x : Itm} {d m : Nat} (hk : x.kind < 0 ∨ 8 < x.kind) : nodeR x d m = false := by
 cases h : nodeR x d m with
 | false => rfl
 | true =>
  have := nodeOk_kind (nodeR_spec h).1
  omega
theorem left_flat {x : Itm} {c d : Nat} (hc : 0 < c) (h : nodeR x d (c - 1) = true) (h0 : x.items.length = 0) : leftP x c d = some (c - 1) := by
 rw [List.length_eq_zero_iff] at h0
 rw [leftP_eq, if_neg (by omega), if_neg (by simp [h]), h0, leftL]
 simp only
 rw [if_neg (by rintro ⟨_, h⟩; cases h)]
end Go.Proofs.YtgaoknihklmakaaGreatDoor
