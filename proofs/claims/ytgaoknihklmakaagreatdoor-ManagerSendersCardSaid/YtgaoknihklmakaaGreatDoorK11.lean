/- squeezed. Walks: members that differ, by the -/
import Derived.Test.YtgaoknihklmakaaGreatDoorK10
set_option linter.unusedVariables false
set_option linter.unusedSimpArgs false
set_option maxRecDepth 100000
set_option maxHeartbeats 12800000
namespace Go.Proofs.YtgaoknihklmakaaGreatDoor
open Go.RowKit
def UnlOut (w : World) (l : List Mb) (e : Ending) (w' : World) : Prop := ∃ b, e = .returned (.bool b) ∧ (b = true ↔ UnlP l) ∧ Below w.heap.size w w'
theorem name_ne_facts {a b : ByteArray} (h : ¬ a = b) : (a = b) = False ∧ (a == b) = false ∧ (a.toList == b.toList) = false := by
 have f3 : (a.toList == b.toList) = false := by
  cases h' : (a.toList == b.toList) with
  | false => rfl
  | true => exact absurd (by have := beq_iff_eq.1 h'; rw [ByteArray.toList_eq, ByteArray.toList_eq] at this; exact ByteArray.ext (Array.toList_inj.1 this)) h
 exact ⟨eq_false h, by rw [beq_toListBytes]; exact f3, f3⟩
theorem name_eq_facts {a b : ByteArray} (h : a = b) : (a = b) = True ∧ (a == b) = true ∧ (a.toList == b.toList) = true :=
 ⟨eq_true h, by rw [h, beq_toListBytes]; exact beq_self_eq_true _, by rw [h]; exact beq_self_eq_true _⟩
theorem manager_unlike {H : Snap} {A : Option Addr} {c : Nat} {l : List Mb} (hI : IsRow lieM H A c l) {n : Nat} (hn : n = l.length) (hl : l.length ≤ 1099511) (w : World) (hH : Holds w H) :
  Calls Tryz.prog 26 #[.slice A n c] w (UnlOut w l) := by
 have HN := Hh (And.intro hn hl);have HI := Hh hI;have HH := Hh hH;have hnc : (n : Int) ≤ (c : Int) := by have := hI.le; omega
 have HC : Hid (n ≤ c) := by have := hI.le; rw [Hid]; omega
 have hb1 : Below w.heap.size w w := Below.refl _ _;have H0 : Hid (UnlP (l.take 0)) := by rw [Hid, List.take_zero]; exact UnlP.nil
 clear hn hl hI hH;go_enter Tryz.func26, Tryz.ntmps26
 go_wp2_with fail
 go_loopw [9] (fun v9 wr => ∃ j : Nat, v9 = .int .i64 (j : Int) ∧ Hid (j ≤ n) ∧ Hid (UnlP (l.take j)) ∧ Below w.heap.size w wr) (fun v9 _ => (n : Int).toNat + 1 - (intOf v9).toNat)
 case atStart => exact ⟨0, rfl, Nat.zero_le _, H0, hb1⟩
 case round =>
  clear H0 hb1;obtain ⟨j, rfl, HJ, HF, hb⟩ := hrel
  by_cases hlt : (j : Int) < (n : Int)
  ·have hjl : j < l.length := by rw [← HN.out.1]; omega
   obtain ⟨gb, go, hga, hat⟩ := HI.out.at_ (by omega);have HAT := Hh hat;obtain ⟨d, hd, hc⟩ := hat j hjl;obtain ⟨ma, hd, hkx⟩ := hd;subst hd;obtain ⟨m, hm⟩ : ∃ m, l[j] = m := ⟨_, rfl⟩
   rw [hm] at hc hkx;have HM : Hid (∀ h : j < l.length, l[j] = m) := fun _ => hm
   obtain ⟨sn, hsn⟩ : ∃ k, m.sender.length = k := ⟨_, rfl⟩
   have HS := Hh hsn;have hhr := HH.out.below hb (Nat.le_refl _);have r0 := hhr.cell (hc 0 _ rfl);have r1 := hhr.cell (hc 1 _ rfl);have r2 := hhr.cell (hc 2 _ rfl);have r3 := hhr.cell (hc 3 _ rfl);have r4 := hhr.cell (hc 4 _ rfl);have r5 := hhr.cell (hc 5 _ rfl);have r6 := hhr.cell (hc 6 _ rfl)
   simp only [lieM, Nat.add_zero, Nat.zero_add, ← Nat.add_assoc] at r0 r1 r2 r3 r4 r5 r6
   rw [hsn] at r1;have HKX := Hh hkx;have hP := Blk.new wr 39 (memQ m ma);have hb2 := hb.alloc hb.size (.cells (memQ m ma) 39);have hP0 := hb.size;rw [show memQ m ma = memC m.name m.roles m.since ma.sa sn ma.sc ma.ca m.cred.length ma.cc ma.ha m.share.length ma.hc ma.wa m.wrap.length ma.wc by rw [← hsn]] at hP hb2;obtain ⟨P, hPe⟩ : ∃ P, wr.heap.size = P := ⟨_, rfl⟩
   obtain ⟨w2, hw2⟩ : ∃ w2, wr.alloc (.cells (memC m.name m.roles m.since ma.sa sn ma.sc ma.ca m.cred.length ma.cc ma.ha m.share.length ma.hc ma.wa m.wrap.length ma.wc) 39) = w2 := ⟨_, rfl⟩
   rw [hPe, hw2] at hP;rw [hPe] at hP0;rw [hw2] at hb2;have HW2 := Hh (And.intro hPe hw2);have hj63 : (j : Int) + 1 ≤ 9223372036854775807 := by have := HN.out.2; omega
   have HJL := Hh hjl;have HP0 := Hh hP0;clear hPe hw2 hat hc hkx hb hjl hhr hm hsn hP0;have HNC := Hh hnc;rw [hga];go_upto_region 4 with fail
   try rw [HW2.out.1]
   try rw [HW2.out.2]
   clear r0 r1 r2 r3 r4 r5 r6 hga;have p1 := hP.cell 1 rfl
   by_cases hs1 : sn = 1
   ·have e1 : ((sn : Int) = 1) = True := eq_true (by omega);have e2 : ((sn : Int) == 1) = true := by simpa using (by omega : (sn : Int) = 1)
    have e3 : ((sn : Int) != 1) = false := by simpa using (by omega : (sn : Int) = 1)
    have HS1 := Hh hs1;clear hs1;go_upto_region 6 with fail
    clear p1;have hjc : (j : Int) ≤ (c : Int) := by omega
    have hj0 : (0 : Int) ≤ (j : Int) := by omega
    have H1 : Hid (∀ k (hk : k < l.length), k < 0 → l[k].name ≠ m.name ∧ l[k].sender ≠ m.sender) := fun k hk h0 => absurd h0 (by omega)
    go_wp2_with fail
    go_loopw [22] (fun v22 wx => ∃ k : Nat, v22 = .int .i64 (k : Int) ∧ Hid (k ≤ j) ∧ Hid (∀ i (hi : i < l.length), i < k → l[i].name ≠ m.name ∧ l[i].sender ≠ m.sender) ∧ Blk wx P 39 (memC m.name m.roles m.since ma.sa sn ma.sc ma.ca m.cred.length ma.cc ma.ha m.share.length ma.hc ma.wa m.wrap.length ma.wc) ∧ Below w.heap.size w wx) (fun v22 _ => (j : Int).toNat + 1 - (intOf v22).toNat)
    case atStart => exact ⟨0, rfl, Nat.zero_le _, H1, hP, hb2⟩
    case round =>
     clear hP hb2 H1;obtain ⟨k, rfl, HK, HFK, hP, hb⟩ := hrel
     by_cases hkt : (k : Int) < (j : Int)
     ·have hkl : k < l.length := by have := HJL.out; omega
      obtain ⟨d, hd, hc⟩ := HAT.out k hkl;obtain ⟨mb, hd, hkx⟩ := hd;subst hd;obtain ⟨m2, hm2⟩ : ∃ m2, l[k] = m2 := ⟨_, rfl⟩
      rw [hm2] at hc hkx;have HM2 : Hid (∀ h : k < l.length, l[k] = m2) := fun _ => hm2
      have HKL := Hh hkl;have hhr := HH.out.below hb (Nat.le_refl _);have q0 := hhr.cell (hc 0 _ rfl);have q1 := hhr.cell (hc 1 _ rfl);have q2 := hhr.cell (hc 2 _ rfl);have q3 := hhr.cell (hc 3 _ rfl);have q4 := hhr.cell (hc 4 _ rfl);have q5 := hhr.cell (hc 5 _ rfl);have q6 := hhr.cell (hc 6 _ rfl)
      simp only [lieM, Nat.add_zero, Nat.zero_add, ← Nat.add_assoc] at q0 q1 q2 q3 q4 q5 q6
      have hQ := Blk.new wr 39 (memQ m2 mb);have hP3 := hP.alloc (.cells (memQ m2 mb) 39);have hb3 := hb.alloc hb.size (.cells (memQ m2 mb) 39);obtain ⟨Q, hQe⟩ : ∃ Q, wr.heap.size = Q := ⟨_, rfl⟩
      obtain ⟨w3, hw3⟩ : ∃ w3, wr.alloc (.cells (memQ m2 mb) 39) = w3 := ⟨_, rfl⟩
      rw [hQe, hw3] at hQ;rw [hw3] at hP3 hb3;have HW3 := Hh (And.intro hQe hw3);have hkj63 : (k : Int) + 1 ≤ 9223372036854775807 := by omega
      have HHK := Hh hkx;have hk0 : (0 : Int) ≤ (k : Int) := by omega
      clear hQe hw3 hb hP hhr hc hkx hm2 hkl e1 e2 e3;go_upto_region 9 with fail
      try rw [HW3.out.1]
      try rw [HW3.out.2]
      clear q0 q1 q2 q3 q4 q5 q6 HW3;have hh3 := HH.out.below hb3 (Nat.le_refl _);have q0 := hQ.cell 0 rfl;have p0 := hP3.cell 0 rfl
      by_cases hq : m2.name = m.name
      ·obtain ⟨f1, f2, f3⟩ := name_eq_facts hq
       have HNO : Hid (¬ UnlP l) := fun h => by
        have h2 := (h.at_ (i := j) (k := k) (by omega) HJL.out).1;rw [HM.out, HM2.out] at h2
        exact h2 hq
       clear hq;go_wp2_with fail
       go_ret
       exact ⟨false, rfl, ⟨fun h => (by cases h), fun h => absurd h HNO.out⟩, hb3⟩
      obtain ⟨f1, f2, f3⟩ := name_ne_facts hq;have HQ := Hh hq;clear hq;have q1 := hQ.cell 1 rfl;have p1 := hP3.cell 1 rfl;have k1 := conv_bytes (Src.of_row HHK.out.sender.row hh3) m2.sender.length mb.sc rfl;have k2 := conv_bytes (Src.of_row HKX.out.sender.row hh3) sn ma.sc HS.out.symm
      by_cases hsd : m2.sender = m.sender
      ·have b1 : (m2.sender = m.sender) = True := eq_true hsd;have b2 : ((m2.sender : List UInt8) == m.sender) = true := by simpa using hsd
       have HNO : Hid (¬ UnlP l) := fun h => by
        have h2 := (h.at_ (i := j) (k := k) (by omega) HJL.out).2;rw [HM.out, HM2.out] at h2
        exact h2 hsd
       clear hsd;go_wp2_with fail
       go_ret
       exact ⟨false, rfl, ⟨fun h => (by cases h), fun h => absurd h HNO.out⟩, hb3⟩
      have b1 : (m2.sender = m.sender) = False := eq_false hsd;have b2 : ((m2.sender : List UInt8) == m.sender) = false := by simpa using hsd
      have HSD := Hh hsd;clear hsd hQ hh3;go_wp2_with fail
      go_roundw
      case rel => exact ⟨k + 1, by go_num, by rw [Hid]; omega, fun i hi h1 => by
       by_cases e : i = k
       ·subst e; rw [HM2.out hi]; exact ⟨HQ.out, HSD.out⟩
       ·exact HFK.out i hi (by omega), hP3, hb3⟩
      case measure => simp [intOf]; omega
     ·have HF1 : Hid (UnlP (l.take (j + 1))) := HF.out.take_succ HJL.out (by rw [HM.out]; exact HS.out.trans HS1.out) (fun k hk => by rw [HM.out]; exact HFK.out k (by have := HJL.out; omega) (by have := HK.out; omega));clear hP e1 e2 e3;go_wp2_with fail
      go_roundw
      case rel => exact ⟨j + 1, by go_num, by rw [Hid]; omega, HF1, hb⟩
      case measure => simp [intOf]; omega
   ·have e1 : ((sn : Int) = 1) = False := eq_false (by omega);have e2 : ((sn : Int) == 1) = false := by simpa using (by omega : ¬ (sn : Int) = 1)
    have e3 : ((sn : Int) != 1) = true := by simpa using (by omega : ¬ (sn : Int) = 1)
    have HNO : Hid (¬ UnlP l) := fun h => by
     have h2 := h.one _ (List.getElem_mem HJL.out);rw [HM.out, HS.out] at h2
     exact hs1 h2
    clear hP;go_wp2_with fail
    go_ret
    exact ⟨false, rfl, ⟨fun h => (by cases h), fun h => absurd h HNO.out⟩, hb2⟩
  ·have hjn : j = n := by have := HJ.out; omega
   have HE : Hid (UnlP l) := by have h := HF.out; rw [hjn, HN.out.1, List.take_length] at h; exact h
   go_wp2_with fail
   go_ret
   exact ⟨true, rfl, ⟨fun _ => HE.out, fun _ => rfl⟩, hb⟩
def SoundIs (sP : Mb → Bool) (H : Snap) : Prop := ∀ (K : Snap), H.le K → ∀ (m : Mb) (a : MAd) (w : World), MemA K m a → Holds w K → Calls Tryz.prog 18 #[.agg (memQ m a)] w fun e w' => e = .returned (.bool (sP m)) ∧ Below w.heap.size w w'
theorem SoundIs.mono {sP : Mb → Bool} {H K : Snap} (h : SoundIs sP H) (hl : H.le K) : SoundIs sP K := fun L hk => h L (hl.trans hk)
theorem num_eq_facts {a b : Int} (h : a = b) : (a = b) = True ∧ (a == b) = true ∧ (a != b) = false := by subst h; simp
theorem num_ne_facts {a b : Int} (h : ¬ a = b) : (a = b) = False ∧ (a == b) = false ∧ (a != b) = true := ⟨eq_false h, beq_eq_false_iff_ne.2 h, by rw [bne, beq_eq_false_iff_ne.2 h]; rfl⟩
theorem manager_Valid {sP : Mb → Bool} {H : Snap} (hS : SoundIs sP H) {g : Gp} {a : EAd} (hg : GpA H g a) (w : World) (hH : Holds w H) :
  Calls Tryz.prog 14 #[.agg (gpQ g a)] w (ValidOutP sP w g) := by
 obtain ⟨il, hil⟩ : ∃ n, n = g.id.length := ⟨_, rfl⟩
 obtain ⟨sl, hsl⟩ : ∃ n, n = g.secret.length := ⟨_, rfl⟩
 obtain ⟨ml, hml⟩ : ∃ n, n = g.members.length := ⟨_, rfl⟩
 have HN := Hh (And.intro hil (And.intro hsl hml));have HG := Hh hg;have HH := Hh hH;have HS := Hh (hS H (Snap.le.refl H));show Calls Tryz.prog 14 #[.agg (gpC a.ia g.id.length a.ic a.sa g.secret.length a.sc g.number a.ma g.members.length a.mc)] w (ValidOutP sP w g)
 rw [← hil, ← hsl, ← hml];have hB := Blk.new w 30 (gpC a.ia il a.ic a.sa sl a.sc g.number a.ma ml a.mc);have hb := below_box w (.cells (gpC a.ia il a.ic a.sa sl a.sc g.number a.ma ml a.mc) 30);have HGN : Hid (-9223372036854775808 ≤ g.number ∧ g.number ≤ 9223372036854775807) := hg.number;have BAD : Hid (∀ wx, Below w.heap.size w wx → ¬ ValidG sP g → ValidOutP sP w g (.returned (.bool false)) wx) := fun wx h hn => ⟨false, rfl, ⟨fun h => (by cases h), fun h => absurd h hn⟩, h⟩
 have g0 := hB.cell 0 rfl;have g1 := hB.cell 1 rfl;have g2 := hB.cell 2 rfl;have g3 := hB.cell 3 rfl;clear hil hsl hml hg hH hS;go_enter Tryz.func14, Tryz.ntmps14
 by_cases c0 : (il : Int) < 1
 ·have NO : Hid (¬ ValidG sP g) := fun h => by have := h.id1; have := HN.out.1; omega
  clear hB;go_wp2_with fail
  go_ret
  exact BAD.out _ hb NO.out
 by_cases c1 : (8 : Int) < (il : Int)
 ·have NO : Hid (¬ ValidG sP g) := fun h => by have := h.id8; have := HN.out.1; omega
  clear hB;go_wp2_with fail
  go_ret
  exact BAD.out _ hb NO.out
 by_cases c2 : (sl : Int) = 32
 case neg =>
  obtain ⟨e1, e2, e3⟩ := num_ne_facts c2;have NO : Hid (¬ ValidG sP g) := fun h => by have := h.sec; have := HN.out.2.1; omega
  clear hB c2;go_wp2_with fail
  go_ret
  exact BAD.out _ hb NO.out
 obtain ⟨e1, e2, e3⟩ := num_eq_facts c2;have c2' := Hh c2;clear c2
 by_cases c3 : g.number < 0
 ·have NO : Hid (¬ ValidG sP g) := fun h => by have := h.num0; omega
  clear hB;go_wp2_with fail
  go_ret
  exact BAD.out _ hb NO.out
 by_cases c4 : (65535 : Int) < g.number
 ·have NO : Hid (¬ ValidG sP g) := fun h => by have := h.num1; omega
  clear hB;go_wp2_with fail
  go_ret
  exact BAD.out _ hb NO.out
 by_cases c5 : (16 : Int) < (ml : Int)
 ·have NO : Hid (¬ ValidG sP g) := fun h => by have := h.few; have := HN.out.2.2; omega
  clear hB;go_wp2_with fail
  go_ret
  exact BAD.out _ hb NO.out
 have AP := Hh (fun wx hx => manager_unlike (n := ml) HG.out.members HN.out.2.2 HG.out.small.2.2 wx hx);go_wp2_with fail
 refine (AP.out _ (HH.out.below hb (Nat.le_refl _))).mono ?_
 rintro e w2 ⟨b2, rfl, ha2, hb2⟩
 replace hB := hB.below hb2;replace hb := hb.trans (hb2.mono hb.size);have HA := Hh ha2;clear hb2 ha2 AP g0 g1 g2 g3
 cases b2 with
 | false =>
  have NO : Hid (¬ ValidG sP g) := fun h => by have h2 := HA.out.2 h.unl; cases h2
  clear hB;go_wp2_with fail
  go_ret
  exact BAD.out _ hb NO.out
 | true =>
 have GOOD : Hid ((∀ i (h : i < g.members.length), sP g.members[i] = true ∧ g.members[i].wrap.length = 16 ∧ 0 ≤ g.members[i].since ∧ g.members[i].since ≤ g.number) → ValidG sP g) := by
  have h1 := HN.out.1;have h2 := HN.out.2.1;have h3 := HN.out.2.2;have h4 := c2'.out
  exact fun h => ⟨by omega, by omega, by omega, by omega, by omega, by omega, HA.out.1 rfl, fun m hm => by
   obtain ⟨i, hi, rfl⟩ := List.getElem_of_mem hm
   exact h i hi⟩
 have hnum := Hh (And.intro c3 c4);have c5' := Hh c5;have H0 : Hid (∀ i (h : i < g.members.length), i < 0 → sP g.members[i] = true ∧ g.members[i].wrap.length = 16 ∧ 0 ≤ g.members[i].since ∧ g.members[i].since ≤ g.number) := fun i h h0 => absurd h0 (by omega)
 clear c0 c1 c3 c4 c5 e1 e2 e3 HA c2';have g3 := hB.cell 3 rfl;go_wp2_with fail
 clear g3;go_loopw [46] (fun v46 wr => ∃ j : Nat, v46 = .int .i64 (j : Int) ∧ Hid (j ≤ ml) ∧ Hid (∀ i (h : i < g.members.length), i < j → sP g.members[i] = true ∧ g.members[i].wrap.length = 16 ∧ 0 ≤ g.members[i].since ∧ g.members[i].since ≤ g.number) ∧ Blk wr w.heap.size 30 (gpC a.ia il a.ic a.sa sl a.sc g.number a.ma ml a.mc) ∧ Below w.heap.size w wr) (fun v46 _ => (ml : Int).toNat + 1 - (intOf v46).toNat)
 case atStart => exact ⟨0, rfl, Nat.zero_le _, H0, hB, hb⟩
 case round =>
  clear hB hb H0;obtain ⟨j, rfl, HJ, HF, hB, hb⟩ := hrel
  by_cases hlt : (j : Int) < (ml : Int)
  ·have hjl : j < g.members.length := by rw [← HN.out.2.2]; omega
   obtain ⟨gb, go, hga, hat⟩ := HG.out.members.at_ (by omega);obtain ⟨d, hd, hc⟩ := hat j hjl;obtain ⟨ma, hd, hkx⟩ := hd;subst hd;obtain ⟨m, hm⟩ : ∃ m, g.members[j] = m := ⟨_, rfl⟩
   rw [hm] at hc hkx;have HM : Hid (∀ h : j < g.members.length, g.members[j] = m) := fun _ => hm
   have hhr := HH.out.below hb (Nat.le_refl _);have r0 := hhr.cell (hc 0 _ rfl);have r1 := hhr.cell (hc 1 _ rfl);have r2 := hhr.cell (hc 2 _ rfl);have r3 := hhr.cell (hc 3 _ rfl);have r4 := hhr.cell (hc 4 _ rfl);have r5 := hhr.cell (hc 5 _ rfl);have r6 := hhr.cell (hc 6 _ rfl)
   simp only [lieM, Nat.add_zero, Nat.zero_add, ← Nat.add_assoc] at r0 r1 r2 r3 r4 r5 r6
   have HKX := Hh hkx;have hP := Blk.new wr 39 (memQ m ma);have hB2 := hB.alloc (.cells (memQ m ma) 39);have hb2 := hb.alloc hb.size (.cells (memQ m ma) 39);obtain ⟨P, hPe⟩ : ∃ P, wr.heap.size = P := ⟨_, rfl⟩
   obtain ⟨w2, hw2⟩ : ∃ w2, wr.alloc (.cells (memQ m ma) 39) = w2 := ⟨_, rfl⟩
   rw [hPe, hw2] at hP;rw [hw2] at hB2 hb2;have HW2 := Hh (And.intro hPe hw2);have hj63 : (j : Int) + 1 ≤ 9223372036854775807 := by have := c5'.out; omega
   have HJL := Hh (And.intro hjl hlt);have HGA := Hh hga;clear hPe hw2 hat hc hkx hB hb hjl hhr hm;rw [hga];go_upto_region 6 with fail
   try rw [HW2.out.1]
   try rw [HW2.out.2]
   clear r0 r1 r2 r3 r4 r5 r6 hga;have p0 := hP.cell 0 rfl;have p1 := hP.cell 1 rfl;have p2 := hP.cell 2 rfl;have p3 := hP.cell 3 rfl;have p4 := hP.cell 4 rfl;have p5 := hP.cell 5 rfl;have p6 := hP.cell 6 rfl;have SD := Hh (HS.out m ma w2 HKX.out (HH.out.below hb2 (Nat.le_refl _)));go_wp2_with fail
   refine SD.out.mono ?_
   rintro e w3 ⟨rfl, hb3⟩
   replace hB := hB2.below hb3;replace hP := hP.below hb3;replace hb := hb2.trans (hb3.mono hb2.size);clear p0 p1 p2 p3 p4 p5 p6 SD hB2 hb2 hb3
   have ALL : Hid (ValidG sP g → sP m = true ∧ m.wrap.length = 16 ∧ 0 ≤ m.since ∧ m.since ≤ g.number) := fun h => by
    have h2 := h.all _ (List.getElem_mem HJL.out.1);rw [HM.out] at h2
    exact h2
   obtain ⟨b3, hb3⟩ : ∃ b, sP m = b := ⟨_, rfl⟩
   have HB3 := Hh hb3;rw [hb3];clear hb3
   cases b3 with
   | false =>
    have NO : Hid (¬ ValidG sP g) := fun h => by have h2 := (ALL.out h).1; rw [HB3.out] at h2; cases h2
    clear hB hP;go_wp2_with fail
    go_ret
    exact BAD.out _ hb NO.out
   | true =>
   have p5 := hP.cell 5 rfl;have p6 := hP.cell 6 rfl;have g2 := hB.cell 2 rfl
   simp only [Bool.not_true]
   by_cases d0 : (m.wrap.length : Int) = 16
   case neg =>
    obtain ⟨e1, e2, e3⟩ := num_ne_facts d0;have NO : Hid (¬ ValidG sP g) := fun h => by have h2 := (ALL.out h).2.1; omega
    clear hB hP d0;go_wp2_with fail
    go_ret
    exact BAD.out _ hb NO.out
   obtain ⟨e1, e2, e3⟩ := num_eq_facts d0;have D0 := Hh d0;clear d0
   by_cases d1 : m.since < 0
   ·have NO : Hid (¬ ValidG sP g) := fun h => by have h2 := (ALL.out h).2.2.1; omega
    clear hB hP;go_wp2_with fail
    go_ret
    exact BAD.out _ hb NO.out
   by_cases d2 : g.number < m.since
   ·have NO : Hid (¬ ValidG sP g) := fun h => by have h2 := (ALL.out h).2.2.2; omega
    clear hB hP;go_wp2_with fail
    go_ret
    exact BAD.out _ hb NO.out
   have HF1 : Hid (∀ i (h : i < g.members.length), i < j + 1 → sP g.members[i] = true ∧ g.members[i].wrap.length = 16 ∧ 0 ≤ g.members[i].since ∧ g.members[i].since ≤ g.number) := fun i h h1 => by
    by_cases e : i = j
    ·subst e;rw [HM.out h];have := D0.out
     exact ⟨HB3.out, by omega, by omega, by omega⟩
    ·exact HF.out i h (by omega)
   clear hP;go_wp2_with fail
   go_roundw
   case rel => exact ⟨j + 1, by go_num, (by have := HJL.out.2; exact (show j + 1 ≤ ml by omega)), HF1, (by rw [← HGA.out]; exact hB), hb⟩
   case measure => have := HJL.out.2; simp [intOf]; omega
  ·have OK : Hid (ValidG sP g) := GOOD.out fun i h => HF.out i h (by have := HN.out.2.2; have := HJ.out; omega)
   go_wp2_with fail
   go_ret
   exact ⟨true, rfl, ⟨fun _ => OK.out, fun _ => rfl⟩, hb⟩
theorem info_memM : (Tryz.prog.info? 39).map (fun i => (i.zero, i.size, i.bytes)) = some (some (.agg zeroM), 7, 128) := by kernel_rfl
theorem OwnX.append_wpM {α : Type} {L : Lie α} {t : TypeId} {w : World} {base : Nat} {v : Value} {H : Snap} {l : List α} {o : Oper} {a : Act} {K : Act → World → Prop} {Q : Exit → Act → World → Prop} (s x : Operand) (T : TypeId)
  (ho : o.op = .call { callee := .builtin .append, args := #[s, x], argTypes := #[T, T] }) (hT : Tryz.prog.underlying T = some (.slice t)) {z : Value} {bytes : Nat} (hzs : z.cells.size = L.k) (hby : bytes ≤ 128)
  (hinfo : (Tryz.prog.info? t).map (fun i => (i.zero, i.size, i.bytes)) = some (some z, L.k, bytes))
  (hs : a.eval s = v) (hown : OwnX L t w base v H l) (A : Option Addr) (m c : Nat) (cs : List Value) (news : List α) (hx : a.eval x = .slice A m c) (hm : m = news.length)
  (hn : RowC L H cs news) (hr : Src w A cs) (hlen : l.length + news.length ≤ 1099511627776) (hbase : base ≤ w.heap.size)
  (h : ∀ v' w', OwnX L t w' base v' H (l ++ news) → w.grownBy w' v.ownBlock → At0 w v.ownBlock v'.ownBlock → K (a.put o.dst v') w') :
  Oper.wp Tryz.prog o a w K Q := by
 subst hm;obtain ⟨xs, hxs, hown⟩ := hown;obtain ⟨i0, hi0, hz0, hz1, hz2⟩ := info_parts hinfo
 refine wp_append_src s x _ ho base t i0 _ L.k bytes hT hi0 hz0 hz1 hz2 hzs L.pos v l.length xs hs hown A news.length c cs hx hn.len hr hn.oneCell
  (by simp only [maxLen]; omega) (by have := Nat.mul_le_mul hlen hby; omega) hbase fun v' w' h2 h3 h4 => h v' w' ?_ h3 ?_
 ·exact ⟨xs ++ cs, hxs.app hn, by simpa using h2⟩
 ·rcases h4 with h4 | h4
  ·exact .inl h4
  ·exact .inr ⟨_, h4, Nat.le_refl _⟩
theorem one4g (a b c d : Value) (ha : a.oneCell' = true) (hb : b.oneCell' = true) (hc : c.oneCell' = true) (hd : d.oneCell' = true) : (#[a, b, c, d] : Array Value).all (·.oneCell') = true := by simp [ha, hb, hc, hd]
theorem Blk.srcM {w : World} {g : Nat} {t : TypeId} {cs : Array Value} (h : Blk w g t cs) : Src w (some ⟨g, 0, none⟩) cs.toList := fun _ => ⟨g, 0, rfl, fun j v hj => by rw [Nat.zero_add]; exact h.cell j (by simpa using hj)⟩
structure GcS (W0 : World) (H : Snap) (bc : Array Value) (w : World) (Hr : Snap) : Prop where
 grows : Grows W0 H w Hr
 box : Blk w W0.heap.size 30 bc
 res : Blk w (W0.heap.size + 1) 30 zeroG
 hT : Hr (W0.heap.size + 1) = none
section
variable {W0 w w' : World} {H Hr Hs : Snap} {bc pc pc' : Array Value} {P Q : Nat} {v v' : Value} {l l' : List Mb}
theorem GcS.grow (h : GcS W0 H bc w Hr) (k : Grows w Hr w' Hs) : GcS W0 H bc w' Hs := ⟨h.grows.trans k, h.box.below k.below, h.res.below k.below, k.none h.hT h.res.lt⟩
theorem GcS.alloc (h : GcS W0 H bc w Hr) (o : Obj) : GcS W0 H bc (w.alloc o) Hr := h.grow ((Grows.refl h.grows.holds).alloc o)
theorem GcS.drew (h : GcS W0 H bc w Hr) : GcS W0 H bc w.drew Hr := h.grow ((Grows.refl h.grows.holds).drew)
theorem GcS.set (h : GcS W0 H bc w Hr) (hQ : W0.heap.size + 2 ≤ Q) (hn : Hr Q = none) (hg : w.grownBy w' (some Q)) : GcS W0 H bc w' Hr :=
 ⟨h.grows.grownOwn hn (by omega) hg, h.box.gr hg (by omega), h.res.gr hg (by omega), h.hT⟩
structure KS (W0 : World) (H : Snap) (bc pc : Array Value) (P : Nat) (v : Value) (l : List Mb) (w : World) (Hr : Snap) : Prop where
 base : GcS W0 H bc w Hr
 var : Blk w P 30 pc
 far : W0.heap.size + 2 ≤ P
 hP : Hr P = none
 own : OwnX lieM 39 w (P + 1) v Hr l
 apart : ∀ g, v.ownBlock = some g → Hr g = none
theorem KS.grow (h : KS W0 H bc pc P v l w Hr) (k : Grows w Hr w' Hs) : KS W0 H bc pc P v l w' Hs :=
 ⟨h.base.grow k, h.var.below k.below, h.far, k.none h.hP h.var.lt, (h.own.below k.below).mono k.le, fun g hg => k.none (h.apart g hg) (h.own.lt g hg).2⟩
theorem KS.alloc (h : KS W0 H bc pc P v l w Hr) (o : Obj) : KS W0 H bc pc P v l (w.alloc o) Hr := h.grow ((Grows.refl h.base.grows.holds).alloc o)
theorem KS.drew (h : KS W0 H bc pc P v l w Hr) : KS W0 H bc pc P v l w.drew Hr := h.grow ((Grows.refl h.base.grows.holds).drew)
theorem KS.app (h : KS W0 H bc pc P v l w Hr) (hO : OwnX lieM 39 w' (P + 1) v' Hr l') (hg : w.grownBy w' v.ownBlock) (ha : At0 w v.ownBlock v'.ownBlock) : KS W0 H bc pc P v' l' w' Hr :=
 ⟨⟨h.base.grows.grownRow h.apart (fun g hg => by have := (h.own.lt g hg).1; have := h.far; omega) hg, h.base.box.grown hg (fun e => by have := (h.own.lt _ e).1; have := h.far; omega), h.base.res.grown hg (fun e => by have := (h.own.lt _ e).1; have := h.far; omega), h.base.hT⟩, h.var.grown hg (fun e => by have := (h.own.lt _ e).1; omega), h.far, h.hP, hO, fun g hv => by
  rcases ha with e | ⟨g', e, hs⟩
  ·exact h.apart g (by rw [← e, hv])
  ·rw [hv] at e;injection e with e
   subst e
   exact h.base.grows.hidden hs⟩
theorem KS.set (h : KS W0 H bc pc P v l w Hr) (hB : Blk w' P 30 pc') (hg : w.grownBy w' (some P)) : KS W0 H bc pc' P v l w' Hr :=
 ⟨h.base.set h.far h.hP hg, hB, h.far, h.hP, h.own.kept hg (by
  cases hv : v.ownBlock with
  | none => exact .inl rfl
  | some g => exact .inr (by intro e; injection e with e; have := (h.own.lt g hv).1; omega)), h.apart⟩
theorem KS.up (h : KS W0 H bc pc P v l w Hr) : P + 1 ≤ w.heap.size := h.var.lt
end
def KEx (W0 : World) (H : Snap) (bc : Array Value) (pc : Value → Array Value) (P : Nat) (l : List Mb) (H1 : Snap) (w : World) : Prop := ∃ v Hr, KS W0 H bc (pc v) P v l w Hr ∧ H1.le Hr
def ClOut (w : World) (H : Snap) (g : Gp) (e : Ending) (w' : World) : Prop := ∃ A c B d v Hr, e = .returned (.agg #[.slice A g.id.length c, .slice B g.secret.length d, .int .i64 g.number, v]) ∧ Grows w H w' Hr ∧ IsBytes Hr A c g.id ∧ IsBytes Hr B d g.secret ∧ OwnX lieM 39 w' w.heap.size v Hr g.members ∧ (∀ q, v.ownBlock = some q → Hr q = none)
theorem manager_cloned {H : Snap} {g : Gp} {a : EAd} (hg : GpA H g a) (w : World) (hH : Holds w H) :
  Calls Tryz.prog 20 #[.agg (gpQ g a)] w (ClOut w H g) := by
 obtain ⟨il, hil⟩ : ∃ n, n = g.id.length := ⟨_, rfl⟩
 obtain ⟨sl, hsl⟩ : ∃ n, n = g.secret.length := ⟨_, rfl⟩
 obtain ⟨ml, hml⟩ : ∃ n, n = g.members.length := ⟨_, rfl⟩
 have HN := Hh (And.intro hil (And.intro hsl hml));have HG := Hh hg;have HH := Hh hH;show Calls Tryz.prog 20 #[.agg (gpC a.ia g.id.length a.ic a.sa g.secret.length a.sc g.number a.ma g.members.length a.mc)] w (ClOut w H g)
 rw [← hil, ← hsl, ← hml];have hB := (Blk.new w 30 (gpC a.ia il a.ic a.sa sl a.sc g.number a.ma ml a.mc)).alloc (.cells zeroG 30);have hT := Blk.new (w.alloc (.cells (gpC a.ia il a.ic a.sa sl a.sc g.number a.ma ml a.mc) 30)) 30 zeroG;rw [size_alloc] at hT;have hS : GcS w H (gpC a.ia il a.ic a.sa sl a.sc g.number a.ma ml a.mc) _ H := ⟨((Grows.refl hH).alloc (.cells (gpC a.ia il a.ic a.sa sl a.sc g.number a.ma ml a.mc) 30)).alloc (.cells zeroG 30), hB, hT, hH.none_of_ge (by omega)⟩
 clear hil hsl hml hg hH hB hT;go_enter Tryz.func20, Tryz.ntmps20
 go_upto_region 1 with fail
 go_cut [3] (fun s3 wx => ∃ (P : Nat) (A : Option Addr) (c : Nat) (B : Option Addr) (d : Nat) (H1 : Snap), s3 = .pointer (some ⟨P, 0, none⟩) ∧ GcS w H (gpC a.ia il a.ic a.sa sl a.sc g.number a.ma ml a.mc) wx H1 ∧ Blk wx P 30 #[.slice A il c, .slice B sl d, .int .i64 g.number, .slice none 0 0] ∧ IsBytes H1 A c g.id ∧ IsBytes H1 B d g.secret ∧ H1 P = none ∧ w.heap.size + 2 ≤ P)
 case first =>
  replace hS := hS.drew;have hle := hS.grows.le
  refine wp_region_ways 11 (fun wx => wx.cell? ⟨w.heap.size, 0, none⟩ = some (.slice a.ia il a.ic) ∧ wx.cell? ⟨w.heap.size, 1, none⟩ = some (.slice a.sa sl a.sc) ∧ wx.cell? ⟨w.heap.size, 2, none⟩ = some (.int .i64 g.number)) (by kernel_rfl) (⟨hS.box.cell 0 rfl, hS.box.cell 1 rfl, hS.box.cell 2 rfl⟩) (fun hHeld => ?_)
  refine TkS 0 rfl hHeld ?_
  refine TkS 1 rfl hHeld ?_
  refine TkS 3 rfl hHeld ?_
  refine TkS 4 rfl hHeld ?_
  refine TkS 6 rfl hHeld ?_
  refine TkS 7 rfl hHeld ?_
  refine Ways.two (i := 2) (j := 9) rfl rfl (by kernel_rfl) (fun K hK => ?_) (fun K hK => ?_)
  ·go_simp
   refine (clone_Bytes (c := a.ic) HN.out.1 (by have := HG.out.small.1; omega) _ (Src.of_row (HG.out.id.mono hS.grows.le).row hS.grows.holds)).mono ?_
   rintro e w2 ⟨r2, rfl, hf2⟩
   obtain ⟨A2, c2, rfl, hj2⟩ := hf2.own.form;obtain ⟨H2, hG2, hi2, hk2⟩ := Fresh.snapB hS.grows.holds hf2;clear hj2 hk2 hf2;have hS := hS.grow hG2
   try have hPn := hG2.none hPn hP.lt
   try have hP := hP.below hG2.below
   have hl2 := hG2.le;rw [← HN.out.1]
   try have hi5 := hi5.mono hl2
   clear hG2
   refine Ko hK ?_ fun hHeld => ?_
   ·exact ⟨hS.box.cell 0 rfl, hS.box.cell 1 rfl, hS.box.cell 2 rfl⟩
   clear hK K
   refine Ways.two (i := 5) (j := 9) rfl rfl (by kernel_rfl) (fun K hK => ?_) (fun K hK => ?_)
   ·go_simp
    refine (clone_Bytes (c := a.sc) HN.out.2.1 (by have := HG.out.small.2.1; omega) _ (Src.of_row (HG.out.secret.mono hS.grows.le).row hS.grows.holds)).mono ?_
    rintro e w5 ⟨r5, rfl, hf5⟩
    obtain ⟨A5, c5, rfl, hj5⟩ := hf5.own.form;obtain ⟨H5, hG5, hi5, hk5⟩ := Fresh.snapB hS.grows.holds hf5;clear hj5 hk5 hf5;have hS := hS.grow hG5
    try have hPn := hG5.none hPn hP.lt
    try have hP := hP.below hG5.below
    have hl5 := hG5.le;rw [← HN.out.2.1]
    try have hi2 := hi2.mono hl5
    clear hG5
    refine Ko hK ?_ fun hHeld => ?_
    ·exact ⟨hS.box.cell 0 rfl, hS.box.cell 1 rfl, hS.box.cell 2 rfl⟩
    clear hK K
    refine TkS 8 rfl hHeld ?_
    refine To 9 rfl fun K hK => ?_
    go_simp
    have hP := hS.grows.newBlk 30 zeroG;have hPn := hS.grows.holds.none_of_ge (Nat.le_refl _);have hPf : w.heap.size + 2 ≤ _ := hS.res.lt;have hS := hS.alloc (.cells zeroG 30)
    try simp only [drew_heap, size_alloc] at hP hPn hPf
    refine Ko hK ?_ fun hHeld => ?_
    ·exact ⟨hS.box.cell 0 rfl, hS.box.cell 1 rfl, hS.box.cell 2 rfl⟩
    clear hK K
    refine To 10 rfl fun K hK => ?_
    refine wp_store_item _ _ _ rfl _ _ rfl rfl _ _ hP size_group rfl (one4g _ _ _ _ rfl rfl rfl rfl) fun w10 hP10 hg10 => ?_
    have hS := hS.set hPf hPn hg10;clear hg10;go_simp
    refine Ko hK ?_ fun hHeld => ?_
    ·exact ⟨hS.box.cell 0 rfl, hS.box.cell 1 rfl, hS.box.cell 2 rfl⟩
    clear hK K
    refine Wd ?_
    clear hHeld;go_wp2_with fail
    go_meet
    exact ⟨_, _, _, _, _, _, rfl, hS, hP10, hi2, hi5, hPn, hPf⟩
   ·go_simp
    have hP := hS.grows.newBlk 30 zeroG;have hPn := hS.grows.holds.none_of_ge (Nat.le_refl _);have hPf : w.heap.size + 2 ≤ _ := hS.res.lt;have hS := hS.alloc (.cells zeroG 30)
    try simp only [drew_heap, size_alloc] at hP hPn hPf
    refine Ko hK ?_ fun hHeld => ?_
    ·exact ⟨hS.box.cell 0 rfl, hS.box.cell 1 rfl, hS.box.cell 2 rfl⟩
    clear hK K
    refine To 5 rfl fun K hK => ?_
    go_simp
    refine (clone_Bytes (c := a.sc) HN.out.2.1 (by have := HG.out.small.2.1; omega) _ (Src.of_row (HG.out.secret.mono hS.grows.le).row hS.grows.holds)).mono ?_
    rintro e w5 ⟨r5, rfl, hf5⟩
    obtain ⟨A5, c5, rfl, hj5⟩ := hf5.own.form;obtain ⟨H5, hG5, hi5, hk5⟩ := Fresh.snapB hS.grows.holds hf5;clear hj5 hk5 hf5;have hS := hS.grow hG5
    try have hPn := hG5.none hPn hP.lt
    try have hP := hP.below hG5.below
    have hl5 := hG5.le;rw [← HN.out.2.1]
    try have hi2 := hi2.mono hl5
    clear hG5
    refine Ko hK ?_ fun hHeld => ?_
    ·exact ⟨hS.box.cell 0 rfl, hS.box.cell 1 rfl, hS.box.cell 2 rfl⟩
    clear hK K
    refine TkS 8 rfl hHeld ?_
    refine To 10 rfl fun K hK => ?_
    refine wp_store_item _ _ _ rfl _ _ rfl rfl _ _ hP size_group rfl (one4g _ _ _ _ rfl rfl rfl rfl) fun w10 hP10 hg10 => ?_
    have hS := hS.set hPf hPn hg10;clear hg10;go_simp
    refine Ko hK ?_ fun hHeld => ?_
    ·exact ⟨hS.box.cell 0 rfl, hS.box.cell 1 rfl, hS.box.cell 2 rfl⟩
    clear hK K
    refine Wd ?_
    clear hHeld;go_wp2_with fail
    go_meet
    exact ⟨_, _, _, _, _, _, rfl, hS, hP10, hi2, hi5, hPn, hPf⟩
  ·go_simp
   have hP := hS.grows.newBlk 30 zeroG;have hPn := hS.grows.holds.none_of_ge (Nat.le_refl _);have hPf : w.heap.size + 2 ≤ _ := hS.res.lt;have hS := hS.alloc (.cells zeroG 30)
   try simp only [drew_heap, size_alloc] at hP hPn hPf
   refine Ko hK ?_ fun hHeld => ?_
   ·exact ⟨hS.box.cell 0 rfl, hS.box.cell 1 rfl, hS.box.cell 2 rfl⟩
   clear hK K
   refine To 2 rfl fun K hK => ?_
   go_simp
   refine (clone_Bytes (c := a.ic) HN.out.1 (by have := HG.out.small.1; omega) _ (Src.of_row (HG.out.id.mono hS.grows.le).row hS.grows.holds)).mono ?_
   rintro e w2 ⟨r2, rfl, hf2⟩
   obtain ⟨A2, c2, rfl, hj2⟩ := hf2.own.form;obtain ⟨H2, hG2, hi2, hk2⟩ := Fresh.snapB hS.grows.holds hf2;clear hj2 hk2 hf2;have hS := hS.grow hG2
   try have hPn := hG2.none hPn hP.lt
   try have hP := hP.below hG2.below
   have hl2 := hG2.le;rw [← HN.out.1]
   try have hi5 := hi5.mono hl2
   clear hG2
   refine Ko hK ?_ fun hHeld => ?_
   ·exact ⟨hS.box.cell 0 rfl, hS.box.cell 1 rfl, hS.box.cell 2 rfl⟩
   clear hK K
   refine To 5 rfl fun K hK => ?_
   go_simp
   refine (clone_Bytes (c := a.sc) HN.out.2.1 (by have := HG.out.small.2.1; omega) _ (Src.of_row (HG.out.secret.mono hS.grows.le).row hS.grows.holds)).mono ?_
   rintro e w5 ⟨r5, rfl, hf5⟩
   obtain ⟨A5, c5, rfl, hj5⟩ := hf5.own.form;obtain ⟨H5, hG5, hi5, hk5⟩ := Fresh.snapB hS.grows.holds hf5;clear hj5 hk5 hf5;have hS := hS.grow hG5
   try have hPn := hG5.none hPn hP.lt
   try have hP := hP.below hG5.below
   have hl5 := hG5.le;rw [← HN.out.2.1]
   try have hi2 := hi2.mono hl5
   clear hG5
   refine Ko hK ?_ fun hHeld => ?_
   ·exact ⟨hS.box.cell 0 rfl, hS.box.cell 1 rfl, hS.box.cell 2 rfl⟩
   clear hK K
   refine TkS 8 rfl hHeld ?_
   refine To 10 rfl fun K hK => ?_
   refine wp_store_item _ _ _ rfl _ _ rfl rfl _ _ hP size_group rfl (one4g _ _ _ _ rfl rfl rfl rfl) fun w10 hP10 hg10 => ?_
   have hS := hS.set hPf hPn hg10;clear hg10;go_simp
   refine Ko hK ?_ fun hHeld => ?_
   ·exact ⟨hS.box.cell 0 rfl, hS.box.cell 1 rfl, hS.box.cell 2 rfl⟩
   clear hK K
   refine Wd ?_
   clear hHeld;go_wp2_with fail
   go_meet
   exact ⟨_, _, _, _, _, _, rfl, hS, hP10, hi2, hi5, hPn, hPf⟩
 case rest =>
  clear hS;obtain ⟨P, A, c, B, d, H1, rfl, hS, hP, hi1, hi2, hPn, hPf⟩ := hcut;have HI := Hh (And.intro hi1 hi2)
  have hX : KEx w H (gpC a.ia il a.ic a.sa sl a.sc g.number a.ma ml a.mc) (fun v => #[.slice A il c, .slice B sl d, .int .i64 g.number, v]) P (g.members.take 0) H1 wc :=
   ⟨_, H1, ⟨hS, hP, hPf, hPn, OwnX.nil _ _ _ _ _, fun g hg => by cases hg⟩, Snap.le.refl H1⟩
  have g3 := hS.box.cell 3 rfl;clear hi1 hi2 hPn hPf hP hS;go_upto_region 2 with fail
  go_wp2_with fail
  clear g3;have HML : Hid ((ml : Int) ≤ 1099511) := by have h := HG.out.small.2.2; have h2 := HN.out.2.2; rw [Hid]; omega
  go_loopw [18] (fun v18 wr => ∃ j : Nat, v18 = .int .i64 (j : Int) ∧ Hid (j ≤ ml) ∧ KEx w H (gpC a.ia il a.ic a.sa sl a.sc g.number a.ma ml a.mc) (fun v => #[.slice A il c, .slice B sl d, .int .i64 g.number, v]) P (g.members.take j) H1 wr) (fun v18 _ => (ml : Int).toNat + 1 - (intOf v18).toNat)
  case atStart => exact ⟨0, rfl, Nat.zero_le _, hX⟩
  case round =>
   clear hX;obtain ⟨j, rfl, HJ, v, Hr, hX, hle⟩ := hrel;have HLE := Hh hle;clear hle
   by_cases hlt : (j : Int) < (ml : Int)
   ·have hjl : j < g.members.length := by rw [← HN.out.2.2]; omega
    obtain ⟨gb, go, hga, hat⟩ := HG.out.members.at_ (by omega);obtain ⟨x, hd, hc⟩ := hat j hjl;obtain ⟨xa, hd, hkx⟩ := hd;subst hd;obtain ⟨m, hm⟩ : ∃ m, g.members[j] = m := ⟨_, rfl⟩
    rw [hm] at hc hkx;have HTK : Hid (g.members.take j ++ [m] = g.members.take (j + 1)) := by rw [Hid, ← hm]; exact (List.take_succ_eq_append_getElem hjl).symm
    obtain ⟨tk, htk⟩ : ∃ tk, g.members.take j = tk := ⟨_, rfl⟩
    rw [htk] at hX HTK;have HTL : Hid (tk.length = j) := by rw [Hid, ← htk, List.length_take]; omega
    clear htk;have hhr := HH.out.below hX.base.grows.below (Nat.le_refl _);have r0 := hhr.cell (hc 0 _ rfl);have r1 := hhr.cell (hc 1 _ rfl);have r2 := hhr.cell (hc 2 _ rfl);have r3 := hhr.cell (hc 3 _ rfl);have r4 := hhr.cell (hc 4 _ rfl);have r5 := hhr.cell (hc 5 _ rfl);have r6 := hhr.cell (hc 6 _ rfl)
    simp only [lieM, Nat.add_zero, Nat.zero_add, ← Nat.add_assoc] at r0 r1 r2 r3 r4 r5 r6
    have HKX := Hh (hkx.mono hX.base.grows.le);have hQ := Blk.new wr 39 (memQ m xa);have hXa := hX.alloc (.cells (memQ m xa) 39);obtain ⟨Q, hQe⟩ : ∃ Q, wr.heap.size = Q := ⟨_, rfl⟩
    obtain ⟨w6, hw6⟩ : ∃ w6, wr.alloc (.cells (memQ m xa) 39) = w6 := ⟨_, rfl⟩
    rw [hQe, hw6] at hQ;rw [hw6] at hXa;have HW2 := Hh (And.intro hQe hw6);have HQF : Hid (∀ g, v.ownBlock = some g → g < Q) := fun g hg => by rw [← hQe]; exact (hX.own.lt g hg).2
    have hj63 : (j : Int) + 1 ≤ 9223372036854775807 := by have := HML.out; omega
    have HJL := Hh (And.intro hjl hlt);have HGA := Hh hga;clear hQe hw6 hat hc hkx hjl hhr hX hm;rw [hga];go_upto_region 5 with fail
    try rw [HW2.out.1]
    try rw [HW2.out.2]
    clear r0 r1 r2 r3 r4 r5 r6 hga HW2;obtain ⟨VA, vc, rfl, hjk⟩ := hXa.own.form;obtain ⟨nv, hnv⟩ : ∃ nv, tk.length = nv := ⟨_, rfl⟩
    have HNV := Hh hnv;rw [hnv] at hXa hjk HQF;clear hjk hnv;replace hXa := hXa.drew;replace hQ := hQ.below (Below.refl _ _).drew
    refine wp_region_waysZ 7 (fun wx => wx.cell? ⟨P, 3, none⟩ = some (.slice VA nv vc) ∧ wx.cell? ⟨Q, 0, none⟩ = some (.string m.name) ∧ wx.cell? ⟨Q, 1, none⟩ = some (.slice xa.sa m.sender.length xa.sc) ∧ wx.cell? ⟨Q, 2, none⟩ = some (.int .i64 m.roles) ∧ wx.cell? ⟨Q, 3, none⟩ = some (.slice xa.ca m.cred.length xa.cc) ∧ wx.cell? ⟨Q, 4, none⟩ = some (.slice xa.ha m.share.length xa.hc) ∧ wx.cell? ⟨Q, 5, none⟩ = some (.slice xa.wa m.wrap.length xa.wc) ∧ wx.cell? ⟨Q, 6, none⟩ = some (.int .i64 m.since)) (by kernel_rfl) (⟨hXa.var.cell 3 rfl, hQ.cell 0 rfl, hQ.cell 1 rfl, hQ.cell 2 rfl, hQ.cell 3 rfl, hQ.cell 4 rfl, hQ.cell 5 rfl, hQ.cell 6 rfl⟩) (fun hHeld => ?_)
    refine Zk 0 rfl hHeld ?_
    refine Zk 1 rfl hHeld ?_
    refine Zk 2 rfl hHeld ?_
    refine Zo 3 rfl fun K hK => ?_
    go_simp
    refine (manager_member HKX.out _ hXa.base.grows.holds).mono ?_
    rintro e w3 ⟨a3, H3, rfl, hG3, hm3⟩
    have HM3 := Hh hm3;have hXa := hXa.grow hG3;have hQ := hQ.below hG3.below;have hl3 := Hh hG3.le;clear hG3 hm3
    refine Ko hK ?_ fun hHeld => ?_
    ·exact ⟨hXa.var.cell 3 rfl, hQ.cell 0 rfl, hQ.cell 1 rfl, hQ.cell 2 rfl, hQ.cell 3 rfl, hQ.cell 4 rfl, hQ.cell 5 rfl, hQ.cell 6 rfl⟩
    clear hK K
    refine Zo 4 rfl fun K hK => ?_
    go_simp
    have hL := hXa.base.grows.newBlk 39 (memQ m a3);have hQ := hQ.alloc (.cells (memQ m a3) 39);have hXa := hXa.alloc (.cells (memQ m a3) 39)
    refine Ko hK ?_ fun hHeld => ?_
    ·exact ⟨hXa.var.cell 3 rfl, hQ.cell 0 rfl, hQ.cell 1 rfl, hQ.cell 2 rfl, hQ.cell 3 rfl, hQ.cell 4 rfl, hQ.cell 5 rfl, hQ.cell 6 rfl⟩
    clear hK K
    refine Zo 5 rfl fun K hK => ?_
    refine OwnX.append_wpM (v := .slice VA nv vc) (.tmp 23) (.tmp 26) 28 rfl Tryz.underlying28 rfl (by omega) info_memM rfl hXa.own _ 1 _ (memQ m a3).toList [m] rfl rfl (RowC.one ⟨a3, rfl, HM3.out⟩) hL.srcM (by have h1 := HTL.out; have := HML.out; simp only [List.length_singleton]; omega) hXa.up fun v8 w8 hO8 hg8 hat8 => ?_
    have hQ := hQ.grown hg8 (fun e => by have := HQF.out _ e; omega);have hXa := hXa.app hO8 hg8 hat8;obtain ⟨A8, c8, rfl, hjk⟩ := hO8.form;obtain ⟨m8, hm8⟩ : ∃ k, (tk ++ [m]).length = k := ⟨_, rfl⟩
    rw [hm8] at hXa ⊢;clear hO8 hg8 hat8 hjk hm8;go_simp
    refine Ko hK ?_ fun hHeld => ?_
    ·exact ⟨hXa.var.cell 3 rfl, hQ.cell 0 rfl, hQ.cell 1 rfl, hQ.cell 2 rfl, hQ.cell 3 rfl, hQ.cell 4 rfl, hQ.cell 5 rfl, hQ.cell 6 rfl⟩
    clear hK K
    refine Zk 6 rfl hHeld ?_
    refine Zo 7 rfl fun K hK => ?_
    refine wp_store_cell _ _ _ rfl P 3 (.slice A8 m8 c8) rfl rfl _ _ hXa.var (by kernel_rfl) (by simp) rfl fun w9 hP9 hg9 => ?_
    have hXb := hXa.set hP9 hg9;clear hP9 hg9;go_simp
    refine Kz hK ?_
    clear hK K
    refine WaysZ.done (by kernel_rfl) ?_
    clear hHeld hQ;have hXc : KEx w H (gpC a.ia il a.ic a.sa sl a.sc g.number a.ma ml a.mc) (fun v => #[.slice A il c, .slice B sl d, .int .i64 g.number, v]) P (g.members.take (j + 1)) H1 w9 := by rw [← HTK.out]; exact ⟨_, _, hXb, HLE.out.trans hl3.out⟩
    clear hXb hXa;go_wp2_with fail
    go_roundw
    case rel => exact ⟨j + 1, by go_num, (by have := HJL.out.2; exact (show j + 1 ≤ ml by omega)), (by rw [← HGA.out]; exact hXc)⟩
    case measure => have := HJL.out.2; simp [intOf]; omega
   ·have hjm : j = g.members.length := by have := HN.out.2.2; have := HJ.out; omega
    rw [hjm, List.take_length] at hX;have HX := Hh hX;have p0 := hX.var.cell 0 rfl;have p1 := hX.var.cell 1 rfl;have p2 := hX.var.cell 2 rfl;have p3 := hX.var.cell 3 rfl;obtain ⟨VA, vc, rfl, hjk⟩ := hX.own.form;clear hjk hjm;obtain ⟨nv, hnv⟩ : ∃ nv, g.members.length = nv := ⟨_, rfl⟩
    have HNV := Hh hnv;rw [hnv] at p3;go_wp2_with (with_reducible refine stop_store ?_)
    refine wpList_store_item rfl _ _ _ rfl rfl _ _ rfl rfl _ _ hX.base.res size_group rfl (one4g _ _ _ _ rfl rfl rfl rfl) fun w9 hT9 hg9 => ?_
    have hGz := hX.base.grows.grownOwn hX.base.hT (by omega) hg9
    have hOz := hX.own.kept hg9 (by
     rcases HX.out.own.lt with hlt2
     by_cases e : (Value.slice VA g.members.length vc).ownBlock = some (w.heap.size + 1)
     ·exact absurd (hlt2 _ e).1 (by have := HX.out.far; omega)
     ·exact .inr e)
    have hOy := hOz.more (base' := w.heap.size) (by have := HX.out.far; omega);clear hX hg9 hOz p0 p1 p2 p3;go_wp2_with fail
    refine ret_row rfl rfl hT9 rfl rfl size_group rfl ?_
    exact ⟨A, c, B, d, _, Hr, by rw [HN.out.1, HN.out.2.1, ← HNV.out], hGz, HI.out.1.mono HLE.out, HI.out.2.mono HLE.out, hOy, HX.out.apart⟩
structure SetIs (vs : List Nat) (l : List UInt8) : Prop where
 len : vs.length = 4
 lt : ∀ i, getN vs i < 18446744073709551616
 bits : ∀ b : UInt8, (getN vs (b.toNat / 64)).testBit (b.toNat % 64) = true ↔ b ∈ l
theorem SetIs.nil : SetIs [0, 0, 0, 0] [] := by
 have h0 : ∀ i, getN [0, 0, 0, 0] i = 0 := fun i => by
  unfold getN
  rcases i with _ | _ | _ | _ | i <;> rfl
 exact ⟨rfl, fun i => by rw [h0]; omega, fun b => by rw [h0]; simp⟩
def addW (vs : List Nat) (b : UInt8) : List Nat := vs.set (b.toNat / 64) (getN vs (b.toNat / 64) ||| 2 ^ (b.toNat % 64))
theorem getN_set (l : List Nat) (i j n : Nat) (hi : i < l.length) : getN (l.set i n) j = if i = j then n else getN l j := by
 unfold getN
 rw [List.getD_eq_getElem?_getD, List.getD_eq_getElem?_getD, List.getElem?_set]
 split
 ·first | rfl | (rw [if_pos hi]; rfl)
 ·rfl
theorem SetIs.add {vs : List Nat} {l : List UInt8} (h : SetIs vs l) (b : UInt8) : SetIs (addW vs b) (l ++ [b]) := by
 have hb := b.toNat_lt;have hi : b.toNat / 64 < vs.length := by rw [h.len]; omega
 refine ⟨by rw [addW, List.length_set, h.len], fun i => ?_, fun c => ?_⟩
 ·rw [addW, getN_set _ _ _ _ hi]
  split
  ·exact Nat.or_lt_two_pow (n := 64) (h.lt _) (Nat.pow_lt_pow_right (by omega) (Nat.mod_lt _ (by omega)))
  ·exact h.lt i
 ·rw [addW, getN_set _ _ _ _ hi, List.mem_append, List.mem_singleton]
  split
  ·rename_i e
   rw [Nat.testBit_or, Nat.testBit_two_pow, e, Bool.or_eq_true, h.bits c, decide_eq_true_eq];constructor
   ·rintro (h1 | h1)
    ·exact .inl h1
    ·exact .inr (UInt8.toNat_inj.1 (by omega))
   ·rintro (h1 | rfl)
    ·exact .inl h1
    ·exact .inr rfl
  ·rename_i e
   rw [h.bits c]
   exact ⟨.inl, fun h1 => h1.resolve_right (by rintro rfl; exact e rfl)⟩
structure FreeB (l : List UInt8) (n : UInt8) : Prop where
 free : n ∉ l
 least : ∀ k : UInt8, k.toNat < n.toNat → k ∈ l
theorem full_lt {l : List UInt8} {b : Nat} (h : ∀ k : UInt8, k.toNat < b → k ∈ l) (hb : b ≤ 256) : b ≤ l.length := by
 have := pigeon b (l.map UInt8.toNat) fun k hk => by
  refine List.mem_map.2 ⟨UInt8.ofNat k, h _ ?_, ?_⟩
  ·rw [UInt8.toNat_ofNat_of_lt' (by show k < 256; omega)]; exact hk
  ·exact UInt8.toNat_ofNat_of_lt' (by show k < 256; omega)
 simpa using this
theorem grown_of_drew {w w' : World} {r : Option Nat} (h : w.drew.grownBy w' r) : w.grownBy w' r := ⟨h.os, h.tape, h.output, h.size, h.block⟩
theorem size_u64M : (Tryz.prog.info? 47).map (·.size) = some 1 := by kernel_rfl
theorem set_add {vs : List Nat} {l : List UInt8} (hV : SetIs vs l) (b : UInt8) (U : Nat) (w : World) (hB : Blk w U 52 (rowN vs)) :
  Calls Tryz.prog 19 #[.pointer (some ⟨U, 0, none⟩), .int .u8 (b.toNat : Int)] w fun e w' => e = .returned (.tuple #[]) ∧ Blk w' U 52 (rowN (addW vs b)) ∧ w.grownBy w' (some U) := by
 have hb := b.toNat_lt;obtain ⟨n, hn⟩ : ∃ n, b.toNat = n := ⟨_, rfl⟩
 rw [hn] at hb ⊢;obtain ⟨q, hq⟩ : ∃ q, n / 64 = q := ⟨_, rfl⟩
 obtain ⟨r, hr⟩ : ∃ r, n % 64 = r := ⟨_, rfl⟩
 have hq4 : q < 4 := by omega
 have hr64 : r < 64 := by omega
 have t1 : (n : Int).tdiv 64 = (q : Int) := by rw [Int.tdiv_eq_ediv_of_nonneg (by omega)]; omega
 have t2 : (n : Int).tmod 64 = (r : Int) := by rw [Int.tmod_eq_emod_of_nonneg (by omega)]; omega
 have t3 : IntKind.u8.wrap (q : Int) = (q : Int) := by simp [IntKind.wrap, IntKind.bits, IntKind.signed]; omega
 have t4 : IntKind.u8.wrap (r : Int) = (r : Int) := by simp [IntKind.wrap, IntKind.bits, IntKind.signed]; omega
 have hlt := hV.lt q;have hp : 2 ^ r < 18446744073709551616 := Nat.pow_lt_pow_right (a := 2) (m := r) (n := 64) (by omega) hr64;obtain ⟨x, hx⟩ : ∃ x, getN vs q = x := ⟨_, rfl⟩
 obtain ⟨p, hpp⟩ : ∃ p, 2 ^ r = p := ⟨_, rfl⟩
 have hc := hB.cell q (rowN_get vs q (by rw [hV.len]; exact hq4));rw [hx] at hc hlt;rw [hpp] at hp
 have t5 : IntKind.u64.wrap (2 ^ r : Int) = (p : Int) := by
  rw [← hpp, show ((2 : Int) ^ r) = (((2 : Nat) ^ r : Nat) : Int) by rw [Int.natCast_pow]; rfl]
  exact wrap64_in _ (by rw [hpp]; exact hp)
 have t6 : bits .or .u64 (x : Int) (p : Int) = ((x ||| p : Nat) : Int) := bits_or_u64_nat x p hlt hp
 have hz : Hid ((rowN vs).setIfInBounds q (.int .u64 ((x ||| p : Nat) : Int)) = rowN (addW vs b)) := by
  rw [Hid, rowN_set, addW, hn, hq, hr, hx, hpp]
 obtain ⟨y, hy⟩ : ∃ y, x ||| p = y := ⟨_, rfl⟩
 rw [hy] at t6 hz;have HB := Hh hB;have HQ4 : (q : Int) < 4 := by omega
 have HR := Hh hr64;have hr0 : (r : Int) ≤ 64 := by omega
 have HL : Hid (q < (rowN vs).size) := by rw [Hid, rowN_size, hV.len]; exact hq4
 clear hV hb hn hq hr hq4 hr64 hlt hp hpp hx hy hB;go_enter Tryz.func19, Tryz.ntmps19
 refine wp_region_waysZ 12 (fun wx => wx.cell? ⟨U, q, none⟩ = some (.int .u64 (x : Int))) (by kernel_rfl) (hc) (fun hHeld => ?_)
 refine Zk 0 rfl hHeld ?_
 refine Zk 1 rfl hHeld ?_
 refine Zk 2 rfl hHeld ?_
 refine Zk 3 rfl hHeld ?_
 refine Zk 4 rfl hHeld ?_
 refine Zk 5 rfl hHeld ?_
 refine Zk 6 rfl hHeld ?_
 refine Zk 7 rfl hHeld ?_
 refine Zk 8 rfl hHeld ?_
 refine Zk 9 rfl hHeld ?_
 refine Zk 10 rfl hHeld ?_
 refine Zk 11 rfl hHeld ?_
 refine Zo 12 rfl fun K hK => ?_
 refine wp_store_cell _ _ _ rfl U q (.int .u64 (y : Int)) rfl rfl _ _ HB.out size_u64M HL.out rfl fun w9 hB9 hg9 => ?_
 rw [hz.out] at hB9;go_simp
 refine Kz hK ?_
 clear hK K
 refine WaysZ.done (by kernel_rfl) ?_
 clear hHeld;go_wp2_with fail
 go_end0
 exact ⟨rfl, hB9, grown_of_drew hg9⟩
theorem set_free {vs : List Nat} {l : List UInt8} (hV : SetIs vs l) (hl : l.length ≤ 200) (U : Nat) (w : World) (hB : Blk w U 52 (rowN vs)) :
  Calls Tryz.prog 22 #[.pointer (some ⟨U, 0, none⟩)] w fun e w' => ∃ n : UInt8, e = .returned (byteV n) ∧ FreeB l n ∧ w = w' := by
 have HV := Hh hV;have HL := Hh hl;have HB := Hh hB;have H0 : Hid (∀ k : UInt8, k.toNat < 0 → k ∈ l) := fun k h => absurd h (by omega)
 clear hV hl hB;go_enter Tryz.func22, Tryz.ntmps22
 go_wp2_with fail
 go_loopw [3] (fun v3 wr => ∃ n : Nat, v3 = .int .u8 (n : Int) ∧ Hid (∀ k : UInt8, k.toNat < n → k ∈ l) ∧ Hid (n ≤ 200) ∧ wr = w) (fun v3 _ => 300 - (intOf v3).toNat)
 case atStart => exact ⟨0, rfl, H0, Nat.zero_le _, rfl⟩
 case round =>
  clear H0;obtain ⟨n, rfl, HF, HN, rfl⟩ := hrel;have hn := HN.out;obtain ⟨q, hq⟩ : ∃ q, n / 64 = q := ⟨_, rfl⟩
  obtain ⟨r, hr⟩ : ∃ r, n % 64 = r := ⟨_, rfl⟩
  have hq4 : q < 4 := by omega
  have hr64 : r < 64 := by omega
  have t1 : (n : Int).tdiv 64 = (q : Int) := by rw [Int.tdiv_eq_ediv_of_nonneg (by omega)]; omega
  have t2 : (n : Int).tmod 64 = (r : Int) := by rw [Int.tmod_eq_emod_of_nonneg (by omega)]; omega
  have t3 : IntKind.u8.wrap (q : Int) = (q : Int) := by simp [IntKind.wrap, IntKind.bits, IntKind.signed]; omega
  have t4 : IntKind.u8.wrap (r : Int) = (r : Int) := by simp [IntKind.wrap, IntKind.bits, IntKind.signed]; omega
  have hlt := HV.out.lt q;obtain ⟨x, hx⟩ : ∃ x, getN vs q = x := ⟨_, rfl⟩
  have hc := HB.out.cell q (rowN_get vs q (by rw [HV.out.len]; exact hq4));have hbits := HV.out.bits (UInt8.ofNat n);rw [UInt8.toNat_ofNat_of_lt' (by show n < 256; omega), hq, hr, hx] at hbits;rw [hx] at hc hlt;obtain ⟨y, hy⟩ : ∃ y, x / 2 ^ r = y := ⟨_, rfl⟩
  have hy64 : y < 18446744073709551616 := by have := Nat.div_le_self x (2 ^ r); omega
  have t5 : (x : Int) / 2 ^ r = (y : Int) := by
   rw [← hy, show ((2 : Int) ^ r) = (((2 : Nat) ^ r : Nat) : Int) by rw [Int.natCast_pow]; rfl];rfl
  have t6 : bits .and .u64 (y : Int) 1 = ((y % 2 : Nat) : Int) := by
   have h := bits_and_u64_nat y 1 hy64 (by omega);rw [Nat.and_one_is_mod] at h
   exact h
  have HQ4 : (q : Int) < 4 := by omega
  have hr0 : (r : Int) ≤ 64 := by omega
  have tb : x.testBit r = decide (y % 2 = 1) := by rw [Nat.testBit_eq_decide_div_mod_eq, hy]
  rw [tb, decide_eq_true_eq] at hbits;obtain ⟨m, hm⟩ : ∃ m, y % 2 = m := ⟨_, rfl⟩
  rw [hm] at t6 hbits;have HBT := Hh hbits;clear hn hq hr hq4 hr64 hlt hx hy hy64 tb hbits hm
  by_cases h1 : m = 1
  ·subst h1
   have HF1 : Hid (∀ k : UInt8, k.toNat < n + 1 → k ∈ l) := fun k hk => by
    by_cases e : k.toNat = n
    ·rw [show k = UInt8.ofNat n by rw [← e]; exact UInt8.ofNat_toNat.symm]
     exact HBT.out.1 rfl
    ·exact HF.out k (by omega)
   have hn2 : n + 1 ≤ 200 := Nat.le_trans (full_lt HF1.out (by have := HN.out; omega)) HL.out;have t7 : IntKind.u8.wrap ((n : Int) + 1) = (n : Int) + 1 := by simp [IntKind.wrap, IntKind.bits, IntKind.signed]; omega
   have HN2 := Hh hn2;clear hn2;go_wp2_with fail
   go_roundw
   case rel => exact ⟨n + 1, by go_num, HF1, HN2, by trivial⟩
   case measure => have := HN2.out; simp [intOf]; omega
  ·have e1 : ((m : Int) = 1) = False := eq_false (by omega);have e2 : ((m : Int) == 1) = false := beq_eq_false_iff_ne.2 (by omega);have HM := Hh h1;clear h1;go_wp2_with fail
   go_ret
   refine ⟨UInt8.ofNat n, by rw [byteV, UInt8.toNat_ofNat_of_lt' (by show n < 256; have := HN.out; omega)]; rfl, ⟨fun h => HM.out (HBT.out.2 h), fun k hk => HF.out k ?_⟩, rfl⟩
   rw [UInt8.toNat_ofNat_of_lt' (by show n < 256; have := HN.out; omega)] at hk
   exact hk
def NamedOut (w : World) (l : List Mb) (name : ByteArray) (e : Ending) (w' : World) : Prop := ∃ r : Int, e = .returned (.int .i64 r) ∧ Below w.heap.size w w' ∧ ((r = -1 ∧ ∀ m ∈ l, m.name ≠ name) ∨ (∃ i : Nat, r = (i : Int) ∧ ∃ h : i < l.length, l[i].name = name))
theorem manager_named {H : Snap} {A : Option Addr} {c : Nat} {l : List Mb} (hI : IsRow lieM H A c l) {n : Nat} (hn : n = l.length) (hl : l.length ≤ 1099511) (name : ByteArray) (w : World) (hH : Holds w H) :
  Calls Tryz.prog 25 #[.slice A n c, .string name] w (NamedOut w l name) := by
 have HN := Hh (And.intro hn hl);have HI := Hh hI;have HH := Hh hH;have hb1 : Below w.heap.size w w := Below.refl _ _;have H0 : Hid (∀ i (h : i < l.length), i < 0 → l[i].name ≠ name) := fun i h h0 => absurd h0 (by omega)
 clear hn hl hI hH;go_enter Tryz.func25, Tryz.ntmps25
 go_wp2_with fail
 go_loopw [9] (fun v9 wr => ∃ j : Nat, v9 = .int .i64 (j : Int) ∧ Hid (j ≤ n) ∧ Hid (∀ i (h : i < l.length), i < j → l[i].name ≠ name) ∧ Below w.heap.size w wr) (fun v9 _ => (n : Int).toNat + 1 - (intOf v9).toNat)
 case atStart => exact ⟨0, rfl, Nat.zero_le _, H0, hb1⟩
 case round =>
  clear H0 hb1;obtain ⟨j, rfl, HJ, HF, hb⟩ := hrel
  by_cases hlt : (j : Int) < (n : Int)
  ·have hjl : j < l.length := by rw [← HN.out.1]; omega
   obtain ⟨gb, go, hga, hat⟩ := HI.out.at_ (by omega);obtain ⟨d, hd, hc⟩ := hat j hjl;obtain ⟨ma, hd, hkx⟩ := hd;subst hd;obtain ⟨m, hm⟩ : ∃ m, l[j] = m := ⟨_, rfl⟩
   rw [hm] at hc hkx;have HM : Hid (∀ h : j < l.length, l[j] = m) := fun _ => hm
   have hhr := HH.out.below hb (Nat.le_refl _);have r0 := hhr.cell (hc 0 _ rfl);have r1 := hhr.cell (hc 1 _ rfl);have r2 := hhr.cell (hc 2 _ rfl);have r3 := hhr.cell (hc 3 _ rfl);have r4 := hhr.cell (hc 4 _ rfl);have r5 := hhr.cell (hc 5 _ rfl);have r6 := hhr.cell (hc 6 _ rfl)
   simp only [lieM, Nat.add_zero, Nat.zero_add, ← Nat.add_assoc] at r0 r1 r2 r3 r4 r5 r6
   have hP := Blk.new wr 39 (memQ m ma);have hb2 := hb.alloc hb.size (.cells (memQ m ma) 39);obtain ⟨P, hPe⟩ : ∃ P, wr.heap.size = P := ⟨_, rfl⟩
   obtain ⟨w2, hw2⟩ : ∃ w2, wr.alloc (.cells (memQ m ma) 39) = w2 := ⟨_, rfl⟩
   rw [hPe, hw2] at hP;rw [hw2] at hb2;have HW2 := Hh (And.intro hPe hw2);have hj63 : (j : Int) + 1 ≤ 9223372036854775807 := by have := HN.out.2; omega
   have HJL := Hh hjl;have HLT := Hh hlt;clear hPe hw2 hat hc hkx hb hjl hhr hm;rw [hga];go_upto_region 4 with fail
   try rw [HW2.out.1]
   try rw [HW2.out.2]
   clear r0 r1 r2 r3 r4 r5 r6 hga HW2;have p0 := hP.cell 0 rfl;clear hP
   by_cases hq : m.name = name
   ·obtain ⟨f1, f2, f3⟩ := name_eq_facts hq;have HQ := Hh hq;clear hq;go_wp2_with fail
    go_ret
    exact ⟨_, rfl, hb2, .inr ⟨j, rfl, HJL.out, by rw [HM.out]; exact HQ.out⟩⟩
   ·obtain ⟨f1, f2, f3⟩ := name_ne_facts hq
    have HF1 : Hid (∀ i (h : i < l.length), i < j + 1 → l[i].name ≠ name) := fun i h h1 => by
     by_cases e : i = j
     ·subst e; rw [HM.out h]; exact hq
     ·exact HF.out i h (by omega)
    clear hq;go_wp2_with fail
    go_roundw
    case rel => exact ⟨j + 1, by go_num, by have := HLT.out; rw [Hid]; omega, HF1, hb2⟩
    case measure => have := HLT.out; simp [intOf]; omega
  ·have HE : Hid (∀ m ∈ l, m.name ≠ name) := fun m hm => by
    obtain ⟨i, hi, rfl⟩ := List.getElem_of_mem hm
    exact HF.out i hi (by have := HN.out.1; have := HJ.out; omega)
   go_wp2_with fail
   go_ret
   exact ⟨_, rfl, hb, .inl ⟨rfl, HE.out⟩⟩
theorem RowC.split {α : Type} {L : Lie α} {H : Snap} : ∀ {l m : List α} {cs : List Value}, RowC L H cs (l ++ m) → ∃ a b, cs = a ++ b ∧ RowC L H a l ∧ RowC L H b m
 | [], m, cs, h => ⟨[], cs, rfl, RowC.nil L H, h⟩
 | x :: l, m, cs, h => by
  obtain ⟨c, ds, rfl, hx, hr⟩ := h;obtain ⟨a, b, rfl, ha, hb⟩ := RowC.split hr
  exact ⟨c ++ a, b, by simp, ⟨c, a, rfl, hx, ha⟩, hb⟩
theorem OwnX.parts {α : Type} {L : Lie α} {t : TypeId} {w : World} {base : Nat} {A : Option Addr} {n c : Nat} {H : Snap} {l : List α} (h : OwnX L t w base (.slice A n c) H l) {i : Nat} (hi : i < l.length) :
  ∃ g, A = some ⟨g, 0, none⟩ ∧ OwnX L t w base (.slice A i c) H (l.take i) ∧ ∃ cs, RowC L H cs (l.drop (i + 1)) ∧ Src w (some ⟨g, (i + 1) * L.k, none⟩) cs := by
 obtain ⟨cs, hcs, h⟩ := h
 rcases h.2 with ⟨hv, hz⟩ | ⟨g, cap, cur, hv, hb, hg, hc, hm, hcz, ht⟩
 ·omega
 ·cases hv
  have h1 := hcs;rw [← List.take_append_drop i l] at h1;obtain ⟨a, b, rfl, ha, hb1⟩ := h1.split;have h2 := hcs;rw [← List.take_append_drop (i + 1) l] at h2;obtain ⟨a2, b2, e2, ha2, hb2⟩ := h2.split;have hla := ha.len;have hla2 := ha2.len;rw [List.length_take] at hla hla2;rw [show min i l.length = i by omega] at hla;rw [show min (i + 1) l.length = i + 1 by omega] at hla2
  refine ⟨g, rfl, ⟨a, ha, by rw [hla, List.length_take]; congr 1; omega, .inr ⟨g, c, cur, by rw [List.length_take, show min i l.length = i by omega], hb, hg, by rw [List.length_take]; omega, hm, hcz, ?_⟩⟩, b2, hb2, fun _ => ⟨g, (i + 1) * L.k, rfl, fun j v hj => ?_⟩⟩
  ·have e3 : i * L.k ≤ l.length * L.k := Nat.mul_le_mul_right _ (by omega);have e4 : (cur.toList.take (l.length * L.k)).take (i * L.k) = (a ++ b).take (i * L.k) := by rw [ht]
   rw [List.take_take, Nat.min_eq_left e3] at e4;rw [List.length_take, show min i l.length = i by omega, e4, ← hla, List.take_left'];rfl
  ·have hx : (a ++ b)[(i + 1) * L.k + j]? = some v := by
    rw [e2, List.getElem?_append_right (by omega), hla2, Nat.add_sub_cancel_left]
    exact hj
   rw [← ht, List.getElem?_take] at hx
   split at hx
   ·exact (cell_of_row w g _ cur t (0, 0) hg).trans (by simpa using hx)
   ·cases hx
end Go.Proofs.YtgaoknihklmakaaGreatDoor
