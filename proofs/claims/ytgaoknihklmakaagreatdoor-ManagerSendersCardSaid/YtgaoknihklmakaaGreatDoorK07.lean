/- squeezed. Walks: cbor.checker.spend. Walks:  -/
import Derived.Test.YtgaoknihklmakaaGreatDoorK04
import Derived.Test.YtgaoknihklmakaaGreatDoorK00
import Derived.Test.YtgaoknihklmakaaGreatDoorK01
import Derived.Deep.DeepCutAuto
import Derived.Test.YtgaoknihklmakaaGreatDoorK03
import Derived.Test.YtgaoknihklmakaaGreatDoorK06
import Derived.Test.YtgaoknihklmakaaGreatDoorK05
set_option linter.unusedVariables false
set_option linter.unusedSimpArgs false
set_option maxRecDepth 100000
set_option maxHeartbeats 6400000
namespace Go.Proofs.YtgaoknihklmakaaGreatDoor
open Go.RowKit
abbrev Chk (w : World) (g : Nat) (i s : Int) : Prop := Blk w g 128 #[.int .i64 i, .int .i64 s]
theorem spend_float {H : Snap} {x : Itm} {ba : Option Addr} {bc : Nat} {ia : Option Addr} {ic : Nat} (hx : IsItem H ba bc ia ic x) (w : World) (g : Nat) (i s : Int) (hc : Chk w g i s) (h8 : x.kind = 8) (hs0 : 0 ≤ s) (hs1 : s ≤ 1099511627776) :
  Calls Tryz.prog 94 #[.pointer (some ⟨g, 0, none⟩), itemV x ba bc ia ic] w fun e w' => e = .returned (.bool (decide (s + spendP x ≤ 4096))) ∧ Chk w' g i (s + spendP x) ∧ w.grownBy w' (some g) := by
 have hfl := floatB_length x.n;have E : Hid (spendP x = (floatB x.n).length) := by simp [Hid, spendP, h8]
 obtain ⟨_, _, hn, _⟩ := hx.bounds;have HN : U64 x.n := ⟨by omega, by omega⟩
 have hlt := hc.lt;have hB := Blk.new w 75 #[.int .i64 8, .int .u64 x.n, .slice ba x.bytes.length bc, .slice ia x.items.length ic];have hC := hc.alloc (.cells #[.int .i64 8, .int .u64 x.n, .slice ba x.bytes.length bc, .slice ia x.items.length ic] 75);clear hx hn;go_enter Tryz.func94, Tryz.ntmps94
 go_wp2_with fail
 refine wp_region_ways 11 (fun w' => w'.cell? ⟨g, 1, none⟩ = some (.int .i64 s) ∧ w'.cell? ⟨w.heap.size, 1, none⟩ = some (.int .u64 x.n)) (by kernel_rfl) (⟨hC.cell 1 rfl, hB.cell 1 rfl⟩) (fun hHeld => ?_)
 refine Tk 0 rfl hHeld ?_
 refine Tk 1 rfl hHeld ?_
 refine Tk 2 rfl hHeld ?_
 refine Tk 3 rfl hHeld ?_
 refine Tk 4 rfl hHeld ?_
 refine Tk 5 rfl hHeld ?_
 refine To 6 rfl fun K hK => ?_
 go_simp
 refine (cbor_float _ _ HN.1 HN.2).mono ?_
 rintro e w1 ⟨r, rfl, hf⟩
 obtain ⟨A, c, rfl, _, _, _⟩ := hf.own.form;have hC1 := hC.drew.below hf.2
 refine Ko hK ?_ fun hHeld => ?_
 ·exact ⟨hC1.cell 1 rfl, (hB.drew.below hf.2).cell 1 rfl⟩
 clear hK K
 refine Tk 7 rfl hHeld ?_
 refine Tk 8 rfl hHeld ?_
 refine Tk 9 rfl hHeld ?_
 refine Tk 10 rfl hHeld ?_
 refine To 11 rfl fun K hK => ?_
 have d1 := hC1.cell 1 rfl;have d2 := hC1.frozen 1;go_simp
 refine Kz hK ?_
 clear hK K
 refine Wd ?_
 all_goals
  have hw : Hid (IntKind.i64.wrap (s + ((floatB x.n).length : Int)) = s + (spendP x : Int)) := by rw [Hid, E.out]; exact IntWalk.i64_in _ (by omega)
  have R : Chk (w1.setCell ⟨g, 1, none⟩ (.int .i64 (s + (spendP x : Int)))) g i (s + (spendP x : Int)) ∧ w.grownBy (w1.setCell ⟨g, 1, none⟩ (.int .i64 (s + (spendP x : Int)))) (some g) :=
   ⟨(hC.drew.below hf.2).set_ 1 _, grown_set (grown_below (grown_drew (grown_alloc (grown_refl w _) _)) hf.2) (.inl rfl) _⟩
  rw [hw.out];have e1 := R.1.cell 1 rfl;clear d1 d2;go_wp2
  go_ret
  exact ⟨rfl, R⟩
theorem spend_simple {x : Itm} {ba : Option Addr} {bc : Nat} {ia : Option Addr} {ic : Nat} (w : World) (g : Nat) (i s : Int) (hc : Chk w g i s) (h7 : x.kind = 7) (hs0 : 0 ≤ s) (hs1 : s ≤ 1099511627776) :
  Calls Tryz.prog 94 #[.pointer (some ⟨g, 0, none⟩), itemV x ba bc ia ic] w fun e w' => e = .returned (.bool (decide (s + spendP x ≤ 4096))) ∧ Chk w' g i (s + spendP x) ∧ w.grownBy w' (some g) := by
 have hlt := hc.lt;have c1 := hc.cell 1 rfl;have f1 := hc.frozen 1
 by_cases h24 : (24 : Int) ≤ (x.n : Int)
 ·have E : Hid ((spendP x : Int) = 2) := by
   have : 24 ≤ x.n := by omega
   simp [Hid, spendP, h7, this]
  have d1 := (hc.set_ 1 (.int .i64 (s + 1))).cell 1 rfl;have g1 := (hc.set_ 1 (.int .i64 (s + 1))).frozen 1;go_enter Tryz.func94, Tryz.ntmps94
  go_wp2
  go_ret
  have e : s + 1 + 1 = s + (spendP x : Int) := by rw [E.out]; omega
  rw [← e]
  exact ⟨rfl, ((hc.set_ 1 _).set_ 1 _).alloc _, grown_alloc (grown_set (grown_set (grown_refl w _) (.inl rfl) _) (.inl rfl) _) _⟩
 ·have E : Hid ((spendP x : Int) = 1) := by
   have : ¬ 24 ≤ x.n := by omega
   simp [Hid, spendP, h7, this]
  have d1 := (hc.set_ 1 (.int .i64 (s + 1))).cell 1 rfl;go_enter Tryz.func94, Tryz.ntmps94
  go_wp2
  go_ret
  have e : s + 1 = s + (spendP x : Int) := by rw [E.out]
  rw [← e]
  exact ⟨rfl, (hc.set_ 1 _).alloc _, grown_alloc (grown_set (grown_refl w _) (.inl rfl) _) _⟩
theorem spend_more {H : Snap} {x : Itm} {ba : Option Addr} {bc : Nat} {ia : Option Addr} {ic : Nat} (hx : IsItem H ba bc ia ic x) (w : World) (g : Nat) (i s : Int) (hc : Chk w g i s) (h0 : 0 ≤ x.kind) (h7 : x.kind < 7) (hs0 : 0 ≤ s) (hs1 : s ≤ 1099511627776) (hbl : x.bytes.length ≤ 1099511627776) :
  Calls Tryz.prog 94 #[.pointer (some ⟨g, 0, none⟩), itemV x ba bc ia ic] w fun e w' => e = .returned (.bool (decide (s + spendP x ≤ 4096))) ∧ Chk w' g i (s + spendP x) ∧ w.grownBy w' (some g) := by
 have hlt := hc.lt
 have hN0 : (numP x : Int) < 18446744073709551616 := by
  have := hx.bounds
  unfold numP
  repeat' split
  all_goals omega
 have HN : U64 (numP x) := ⟨by omega, hN0⟩
 have hb9 := headB_le x.kind.toNat (numP x);have E : Hid (spendP x = (headB x.kind.toNat (numP x)).length + x.bytes.length) := by rw [Hid, spendP, if_neg (by omega), if_neg (by omega)]
 have b7 : (x.kind == 7) = false := by simp; omega
 have b8 : (x.kind == 8) = false := by simp; omega
 have hB := Blk.new w 75 #[.int .i64 x.kind, .int .u64 x.n, .slice ba x.bytes.length bc, .slice ia x.items.length ic];have hC := hc.alloc (.cells #[.int .i64 x.kind, .int .u64 x.n, .slice ba x.bytes.length bc, .slice ia x.items.length ic] 75);clear hN0;go_enter Tryz.func94, Tryz.ntmps94
 go_wp2_with fail
 refine wp_region_ways 17 (fun w' => w'.cell? ⟨g, 1, none⟩ = some (.int .i64 s) ∧ w'.cell? ⟨w.heap.size, 0, none⟩ = some (.int .i64 x.kind) ∧ w'.cell? ⟨w.heap.size, 1, none⟩ = some (.int .u64 x.n) ∧ w'.cell? ⟨w.heap.size, 2, none⟩ = some (.slice ba x.bytes.length bc) ∧ w'.cell? ⟨w.heap.size, 3, none⟩ = some (.slice ia x.items.length ic)) (by kernel_rfl) (⟨hC.cell 1 rfl, hB.cell 0 rfl, hB.cell 1 rfl, hB.cell 2 rfl, hB.cell 3 rfl⟩) (fun hHeld => ?_)
 refine Tk 0 rfl hHeld ?_
 refine Tk 1 rfl hHeld ?_
 refine Tk 2 rfl hHeld ?_
 refine Tk 3 rfl hHeld ?_
 refine Tk 4 rfl hHeld ?_
 refine Tk 10 rfl hHeld ?_
 refine Tk 11 rfl hHeld ?_
 refine Tk 12 rfl hHeld ?_
 refine To 5 rfl fun K hK => ?_
 go_simp
 refine (cbor_major hx.arg _ (by omega) (by omega)).mono ?_
 rintro e w1 ⟨rfl, hm⟩
 have hB1 := hB.drew.below hm;have hC1 := hC.drew.below hm
 refine Ko hK ?_ fun hHeld => ?_
 ·exact ⟨hC1.cell 1 rfl, hB1.cell 0 rfl, hB1.cell 1 rfl, hB1.cell 2 rfl, hB1.cell 3 rfl⟩
 clear hK K
 refine Tk 6 rfl hHeld ?_
 refine Tk 7 rfl hHeld ?_
 refine To 8 rfl fun K hK => ?_
 go_simp
 refine (cbor_head _ _ _ (by omega) (by omega) (by omega) HN.2).mono ?_
 rintro e w2 ⟨r, rfl, hf⟩
 obtain ⟨A, c, rfl, _, _, _⟩ := hf.own.form;have hB2 := hB1.below hf.2;have hC2 := hC1.below hf.2
 refine Ko hK ?_ fun hHeld => ?_
 ·exact ⟨hC2.cell 1 rfl, hB2.cell 0 rfl, hB2.cell 1 rfl, hB2.cell 2 rfl, hB2.cell 3 rfl⟩
 clear hK K
 refine Tk 9 rfl hHeld ?_
 refine Tk 13 rfl hHeld ?_
 refine Tk 14 rfl hHeld ?_
 refine Tk 15 rfl hHeld ?_
 refine Tk 16 rfl hHeld ?_
 refine To 17 rfl fun K hK => ?_
 have d1 := hC2.cell 1 rfl;have d2 := hC2.frozen 1;go_simp
 refine Kz hK ?_
 clear hK K
 refine Wd ?_
 have hw : Hid (IntKind.i64.wrap (s + IntKind.i64.wrap (((headB x.kind.toNat (numP x)).length : Int) + (x.bytes.length : Int))) = s + (spendP x : Int)) := by
  rw [Hid, E.out, IntWalk.i64_in (((headB x.kind.toNat (numP x)).length : Int) + (x.bytes.length : Int)) (by omega), IntWalk.i64_in _ (by omega)]
  omega
 have R : Chk (w2.setCell ⟨g, 1, none⟩ (.int .i64 (s + (spendP x : Int)))) g i (s + (spendP x : Int)) ∧ w.grownBy (w2.setCell ⟨g, 1, none⟩ (.int .i64 (s + (spendP x : Int)))) (some g) :=
  ⟨hC2.set_ 1 _, grown_set (grown_below (grown_below (grown_drew (grown_alloc (grown_refl w _) _)) hm) hf.2) (.inl rfl) _⟩
 rw [Int.toNat_natCast] at *;rw [hw.out];have e1 := R.1.cell 1 rfl;clear d1 d2;go_wp2
 go_ret
 exact ⟨rfl, R⟩
theorem cbor_spend {H : Snap} {k n : Int} {ba : Option Addr} {bl bc : Nat} {ia : Option Addr} {il ic : Nat} {x : Itm} (hx : ItemA H k n ba bl bc ia il ic x) (w : World) (g : Nat) (i s : Int) (hc : Chk w g i s)
  (h0 : 0 ≤ x.kind) (h8 : x.kind ≤ 8) (hs0 : 0 ≤ s) (hs1 : s ≤ 1099511627776) (hbl : x.bytes.length ≤ 1099511627776) :
  Calls Tryz.prog 94 #[.pointer (some ⟨g, 0, none⟩), .agg #[.int .i64 k, .int .u64 n, .slice ba bl bc, .slice ia il ic]] w
   fun e w' => e = .returned (.bool (decide (s + spendP x ≤ 4096))) ∧ Chk w' g i (s + spendP x) ∧ w.grownBy w' (some g) := by
 obtain ⟨rfl, rfl, rfl, rfl, hx⟩ := hx
 by_cases h : x.kind = 8
 ·exact spend_float hx w g i s hc h hs0 hs1
 by_cases h7 : x.kind = 7
 ·exact spend_simple w g i s hc h7 hs0 hs1
 ·exact spend_more hx w g i s hc h0 (by omega) hs0 hs1 hbl
theorem cbor_ascending {H : Snap} (l : List Itm) (b off : Nat) (A : Option Addr) (ic : Nat) (w : World) (hA : 0 < l.length → A = some ⟨b, off, none⟩ ∧ IsElems H b off l) (hH : Holds w H) (hk : KindsL l)
  (hlen : ∀ k (h : k < l.length), (encB l[k]).length ≤ 1099511627776) (n : Nat) (hn : n = l.length) (hnn : n ≤ 1099511627776) :
  Calls Tryz.prog 95 #[.slice A n ic] w fun e w' => e = .returned (.bool (ascP l)) ∧ Below w.heap.size w w' := by
 obtain ⟨ans, hans⟩ : ∃ b, ascP l = b := ⟨_, rfl⟩
 rw [hans];have HAns := Hh hans;have HNn := Hh hn;have HLen := Hh hlen;have HAA := Hh hA;clear hans hn hlen hA;go_enter Tryz.func95, Tryz.ntmps95
 go_wp2
 go_loopw [3] (fun i wr => ∃ j : Nat, 2 ≤ j ∧ i = .int .i64 j ∧ j ≤ n + 2 ∧ ascP (l.drop (j - 2)) = ans ∧ Below w.heap.size w wr) (fun i _ => (n + 2 - intOf i).toNat)
 case atStart => exact ⟨2, Nat.le_refl _, rfl, by omega, by simpa using HAns.out, Below.refl _ _⟩
 case round =>
  obtain ⟨j, h2, rfl, hj, hasc, hb⟩ := hrel
  by_cases hlt : j < n
  ·have hn := HNn.out;obtain ⟨hA, hel⟩ := HAA.out (by omega);have hstep := ascP_drop l j h2 (by omega);obtain ⟨y1, y2, y3, y4, p0, p1, p2, p3, hy⟩ := hel.get (j - 2) (by omega);obtain ⟨z1, z2, z3, z4, q0, q1, q2, q3, hz⟩ := hel.get j (by omega);have hky := hk.get (j - 2) (by omega);have hkz := hk.get j (by omega);have hly := HLen.out (j - 2) (by omega);have hlz := HLen.out j (by omega)
   generalize l[j - 2]'(by omega) = y at *
   generalize l[j]'(by omega) = z at *
   have hi0 : (0 : Int) ≤ (j : Int) - 2 := by omega
   have hi1 : (j : Int) - 2 < (n : Int) := by omega
   have hi3 : (2 : Int) ≤ (j : Int) := by omega
   have hi2 : (j : Int) < (n : Int) := by omega
   subst hA;have HST := Hh hstep;have HASC := Hh hasc;have HSZ : Hid (w.heap.size ≤ wr.heap.size) := hb.size;have hHr : Holds wr H := hH.below hb (Nat.le_refl _);have hH0 : Holds wr.drew H := hHr.drew;have hw1 : IntKind.i64.wrap ((j : Int) - 2) = (j : Int) - 2 := IntWalk.i64_in _ (by omega);have hw2 : ((j : Int) - 2).toNat = j - 2 := by omega
   clear hstep hasc hn hel;go_wp2_with fail
   refine wp_region_ways 12 (fun w' => w'.cell? ⟨b, off + (j - 2) * 4, none⟩ = some (.int .i64 y.kind) ∧ w'.cell? ⟨b, off + (j - 2) * 4 + 1, none⟩ = some (.int .u64 y.n) ∧ w'.cell? ⟨b, off + (j - 2) * 4 + 2, none⟩ = some (.slice y1 y.bytes.length y2) ∧ w'.cell? ⟨b, off + (j - 2) * 4 + 3, none⟩ = some (.slice y3 y.items.length y4) ∧ w'.cell? ⟨b, off + j * 4, none⟩ = some (.int .i64 z.kind) ∧ w'.cell? ⟨b, off + j * 4 + 1, none⟩ = some (.int .u64 z.n) ∧ w'.cell? ⟨b, off + j * 4 + 2, none⟩ = some (.slice z1 z.bytes.length z2) ∧ w'.cell? ⟨b, off + j * 4 + 3, none⟩ = some (.slice z3 z.items.length z4)) (by kernel_rfl) (⟨hHr.cell p0, hHr.cell p1, hHr.cell p2, hHr.cell p3, hHr.cell q0, hHr.cell q1, hHr.cell q2, hHr.cell q3⟩) (fun hHeld => ?_)
   refine Tk 0 rfl hHeld ?_
   refine Tk 1 rfl hHeld ?_
   refine Tk 2 rfl hHeld ?_
   refine Tk 3 rfl hHeld ?_
   refine Tk 4 rfl hHeld ?_
   refine Tk 6 rfl hHeld ?_
   refine Tk 7 rfl hHeld ?_
   refine Tk 8 rfl hHeld ?_
   refine Tk 9 rfl hHeld ?_
   refine To 5 rfl fun K hK => ?_
   go_simp
   refine (cbor_add y H _ _ _ _ _ _ _ _ _ w.heap.size (.slice none 0 0) [] hky hy.arg hH0 (OwnB.nil _ _) HSZ.out (by simp [Value.ownBlock]) (by simpa using hly)).mono ?_
   rintro e w1 ⟨r1, rfl, ho1, hg1, ha1⟩
   obtain ⟨A1, c1, rfl, _, _, hs1⟩ := ho1.form;have hb1 := grown_none hg1;have hH1 : Holds w1 H := hH0.below hb1 (Nat.le_refl _);have hz1 := hb1.size
   simp only [List.nil_append] at ho1 hs1
   refine Ko hK ?_ fun hHeld => ?_
   ·exact ⟨hH1.cell p0, hH1.cell p1, hH1.cell p2, hH1.cell p3, hH1.cell q0, hH1.cell q1, hH1.cell q2, hH1.cell q3⟩
   clear hK K
   refine To 10 rfl fun K hK => ?_
   go_simp
   refine (cbor_add z H _ _ _ _ _ _ _ _ _ w.heap.size (.slice none 0 0) [] hkz hz.arg hH1 (OwnB.nil _ _) (Nat.le_trans HSZ.out hz1) (by simp [Value.ownBlock]) (by simpa using hlz)).mono ?_
   rintro e w2 ⟨r2, rfl, ho2, hg2, ha2⟩
   obtain ⟨A2, c2, rfl, _, _, hs2⟩ := ho2.form;have hb2 := grown_none hg2;have hH2 : Holds w2 H := hH1.below hb2 (Nat.le_refl _)
   simp only [List.nil_append] at ho2 hs2
   refine Ko hK ?_ fun hHeld => ?_
   ·exact ⟨hH2.cell p0, hH2.cell p1, hH2.cell p2, hH2.cell p3, hH2.cell q0, hH2.cell q1, hH2.cell q2, hH2.cell q3⟩
   clear hK K
   refine To 11 rfl fun K hK => ?_
   go_simp
   refine (bytes_Compare _ _ _ (encB y) (encB z) _ _ _ _ (by simp) (by simp) (hs1.below hb2) hs2).mono ?_
   rintro e w3 ⟨rfl, rfl⟩
   refine Ko hK ?_ fun hHeld => ?_
   ·exact ⟨hH2.cell p0, hH2.cell p1, hH2.cell p2, hH2.cell p3, hH2.cell q0, hH2.cell q1, hH2.cell q2, hH2.cell q3⟩
   clear hK K
   refine To 12 rfl fun K hK => ?_
   go_simp
   refine Kz hK ?_
   clear hK K
   refine Wd ?_
   have hbw := hb.drew.trans ((hb1.trans (hb2.mono hz1)).mono HSZ.out);have hcmp := Hh (And.intro HST.out HASC.out);clear HST HASC p0 p1 p2 p3 q0 q1 q2 q3 hHeld ho1 ho2 hg1 hg2 ha1 ha2 hs1 hs2
   generalize hcv : Lib.compareBytes (encB y) (encB z) = cv at *
   by_cases hc : (0 : Int) ≤ cv
   ·have ha : ans = false := by
     obtain ⟨h1, h2⟩ := hcmp.out;rw [← h2, h1];have : ¬ cv < 0 := by omega
     simp [this]
    have HAF := Hh ha;clear ha;go_wp2
    go_ret
    exact ⟨(by rw [HAF.out]; rfl), hbw⟩
   ·have ha : ascP (l.drop j) = ans := by
     obtain ⟨h1, h2⟩ := hcmp.out;rw [← h2, h1];have : cv < 0 := by omega
     simp [this]
    have HAF := Hh ha;clear ha;go_wp2
    go_roundw
    case rel => exact ⟨j + 2, by omega, by go_num, by omega, HAF.out, hbw⟩
    case measure => simp [intOf]; omega
  ·have hn := HNn.out;have hend := Hh (ascP_end l j h2 (by omega));have HASC := Hh hasc;clear hasc hn;go_wp2
   go_ret
   exact ⟨(by rw [← HASC.out, hend.out]; rfl), hb⟩
def Counts (w : World) (g : Nat) (o : Option (Nat × Nat)) (e : Ending) (w' : World) : Prop :=
 e = .returned (.bool o.isSome) ∧ w.grownBy w' (some g) ∧ ∃ i s : Int, Chk w' g i s ∧ ∀ p, o = some p → i = (p.1 : Int) ∧ s = (p.2 : Int)
def ItemSaid (x : Itm) : Prop := ∀ (H : Snap) (k n : Int) (ba : Option Addr) (bl bc : Nat) (ia : Option Addr) (il ic : Nat) (w : World) (g i s lv : Nat),
 Tabs H → ItemA H k n ba bl bc ia il ic x → Holds w H → H g = none → Chk w g i s → i ≤ 256 → s ≤ 4096 → lv ≤ 8 →
 Calls Tryz.prog 79 #[.pointer (some ⟨g, 0, none⟩), .agg #[.int .i64 k, .int .u64 n, .slice ba bl bc, .slice ia il ic], .int .i64 (lv : Int)] w (Counts w g (chk x lv i s))
theorem item_many (x : Itm) (i s lv : Nat) (h : 256 < i + 1 ∨ 4096 < x.bytes.length ∨ 256 < x.items.length) {H : Snap} {ba : Option Addr} {bc : Nat} {ia : Option Addr} {ic : Nat} (hx : IsItem H ba bc ia ic x) (w : World) (g : Nat)
  (hc : Chk w g i s) (hi : i ≤ 256) : Calls Tryz.prog 79 #[.pointer (some ⟨g, 0, none⟩), itemV x ba bc ia ic, .int .i64 (lv : Int)] w (Counts w g (chk x lv i s)) := by
 have E : Hid (chk x lv i s = none) := by rw [Hid, chk_eq, if_pos h]
 obtain ⟨_, _, _, hb1, hb2, hi1, hi2⟩ := hx.bounds;have hb : x.bytes.length ≤ 9223372036854775807 := by omega
 have hil : x.items.length ≤ 9223372036854775807 := by omega
 have hlt := hc.lt;have c0 := hc.cell 0 rfl;have f0 := hc.frozen 0;have c00 := (hc.set_ 0 (.int .i64 ((i : Int) + 1))).cell 0 rfl
 have R := Hh (And.intro ((hc.set_ 0 (.int .i64 ((i : Int) + 1))).alloc (.cells #[.int .i64 x.kind, .int .u64 x.n, .slice ba x.bytes.length bc, .slice ia x.items.length ic] 75))
  (grown_alloc (grown_set (grown_refl w (some g)) (.inl (rfl : (⟨g, 0, none⟩ : Addr).block = g)) (.int .i64 ((i : Int) + 1))) (.cells #[.int .i64 x.kind, .int .u64 x.n, .slice ba x.bytes.length bc, .slice ia x.items.length ic] 75)))
 have HH := Hh h;clear hx hb1 hb2 hi1 hi2 h;go_enter Tryz.func79, Tryz.ntmps79
 go_wp2_with fail
 all_goals first
  | (go_ret; exact ⟨by rw [E.out]; rfl, R.out.2, _, _, R.out.1, by rw [E.out]; intro p hp; cases hp⟩)
  | (exfalso; have := HH.out; omega)
abbrev boxed (w : World) (g : Nat) (i : Int) (x : Itm) (ba : Option Addr) (bc : Nat) (ia : Option Addr) (ic : Nat) : World :=
 (w.setCell ⟨g, 0, none⟩ (.int .i64 i)).alloc (.cells #[.int .i64 x.kind, .int .u64 x.n, .slice ba x.bytes.length bc, .slice ia x.items.length ic] 75)
theorem item_plain (x : Itm) (i s lv : Nat) (h1 : i + 1 ≤ 256) (h2 : x.bytes.length ≤ 4096) (h3 : x.items.length ≤ 256) (hp : isPlain x = true) {H : Snap} (hT : Tabs H) {ba : Option Addr} {bc : Nat} {ia : Option Addr} {ic : Nat} (hx : IsItem H ba bc ia ic x)
  (w : World) (hH : Holds w H) (g : Nat) (hg : H g = none) (hc : Chk w g i s) (hs : s ≤ 4096) :
  Calls Tryz.prog 79 #[.pointer (some ⟨g, 0, none⟩), itemV x ba bc ia ic, .int .i64 (lv : Int)] w (Counts w g (chk x lv i s)) := by
 have E : Hid (chk x lv i s = if okPlain x = true ∧ s + spendP x ≤ 4096 then some (i + 1, s + spendP x) else none) := by rw [Hid, chk_eq, if_neg (by omega), if_pos hp]
 have hk := (isPlain_iff x).1 hp;have hk0 : 0 ≤ x.kind := by omega
 have hk8 : x.kind ≤ 8 := by omega
 have hlt := hc.lt;have c0 := hc.cell 0 rfl;have f0 := hc.frozen 0;have c00 := (hc.set_ 0 (.int .i64 ((i : Int) + 1))).cell 0 rfl;have hC1 : Chk (boxed w g ((i : Int) + 1) x ba bc ia ic) g ((i : Int) + 1) s := (hc.set_ 0 _).alloc _
 have hB1 : Blk (boxed w g ((i : Int) + 1) x ba bc ia ic) w.heap.size 75 #[.int .i64 x.kind, .int .u64 x.n, .slice ba x.bytes.length bc, .slice ia x.items.length ic] := by
  have := Blk.new (w.setCell ⟨g, 0, none⟩ (.int .i64 ((i : Int) + 1))) 75 #[.int .i64 x.kind, .int .u64 x.n, .slice ba x.bytes.length bc, .slice ia x.items.length ic];rwa [show (w.setCell ⟨g, 0, none⟩ (.int .i64 ((i : Int) + 1))).heap.size = w.heap.size by simp [World.setCell]] at this
 have hG1 : w.grownBy (boxed w g ((i : Int) + 1) x ba bc ia ic) (some g) := grown_alloc (grown_set (grown_refl w (some g)) (.inl rfl) _) _;have hH1 : Holds (boxed w g ((i : Int) + 1) x ba bc ia ic) H := (hH.setCell hg _).alloc _;clear hk;have hxa := hx.arg;clear hx;go_enter Tryz.func79, Tryz.ntmps79
 go_wp2_with fail
 refine (cbor_plain hT hxa _ hH1).mono ?_
 rintro e w2 ⟨rfl, hb2⟩
 have hC2 := hC1.below hb2;have hB2 := hB1.below hb2;have hG2 := grown_below hG1 hb2;have b0 := hB2.cell 0 rfl;have b1 := hB2.cell 1 rfl;have b2 := hB2.cell 2 rfl;have b3 := hB2.cell 3 rfl
 by_cases ho : okPlain x = true
 ·go_wp2_with fail
  refine (cbor_spend hxa w2 g ((i : Int) + 1) s hC2 hk0 hk8 (by omega) (by omega) (by omega)).mono ?_
  rintro e w3 ⟨rfl, hC3, hG3⟩
  have R := Hh (And.intro (grown_step hG2 hG3 (.inl rfl)) hC3);clear c0 f0 c00 hC1 hB1 hG1 hH1 hC2 hB2 hG2 b0 b1 b2 b3 hC3 hG3;go_wp2_with fail
  go_ret
  refine ⟨?_, R.out.1, _, _, R.out.2, ?_⟩
  ·rw [E.out]
   by_cases hle : s + spendP x ≤ 4096
   ·rw [if_pos ⟨ho, hle⟩, show decide ((s : Int) + (spendP x : Int) ≤ 4096) = true by simp; omega];rfl
   ·rw [if_neg (fun h => hle h.2), show decide ((s : Int) + (spendP x : Int) ≤ 4096) = false by simp; omega];rfl
  ·intro p hp
   rw [E.out] at hp
   split at hp
   ·injection hp with hp
    subst hp
    exact ⟨by simp, by simp⟩
   ·cases hp
 ·have ho' : okPlain x = false := by simpa using ho
  clear ho;have R := Hh (And.intro hG2 hC2);clear c0 f0 c00 hC1 hB1 hG1 hH1 hC2 hB2 hG2 b0 b1 b2 b3;go_wp2_with fail
  go_ret
  have e0 : chk x lv i s = none := by rw [E.out, if_neg (fun h => by rw [ho'] at h; cases h.1)]
  exact ⟨by rw [e0]; rfl, R.out.1, _, _, R.out.2, by rw [e0]; intro p hp; cases hp⟩
theorem item_frame (x : Itm) (i s lv : Nat) (h1 : i + 1 ≤ 256) (h2 : x.bytes.length ≤ 4096) (h3 : x.items.length ≤ 256) (hp : isPlain x = false) (hf : frameOk x lv = false) {H : Snap} (hT : Tabs H) {ba : Option Addr} {bc : Nat} {ia : Option Addr} {ic : Nat} (hx : IsItem H ba bc ia ic x)
  (w : World) (hH : Holds w H) (g : Nat) (hg : H g = none) (hc : Chk w g i s) (hs : s ≤ 4096) (hlv : lv ≤ 8) :
  Calls Tryz.prog 79 #[.pointer (some ⟨g, 0, none⟩), itemV x ba bc ia ic, .int .i64 (lv : Int)] w (Counts w g (chk x lv i s)) := by
 have E : Hid (chk x lv i s = none) := by rw [Hid, chk_eq, if_neg (by omega), if_neg (by simp [hp]), if_pos hf]
 have hlt := hc.lt;have c0 := hc.cell 0 rfl;have f0 := hc.frozen 0;have c00 := (hc.set_ 0 (.int .i64 ((i : Int) + 1))).cell 0 rfl;have hC1 : Chk (boxed w g ((i : Int) + 1) x ba bc ia ic) g ((i : Int) + 1) s := (hc.set_ 0 _).alloc _
 have hB1 : Blk (boxed w g ((i : Int) + 1) x ba bc ia ic) w.heap.size 75 #[.int .i64 x.kind, .int .u64 x.n, .slice ba x.bytes.length bc, .slice ia x.items.length ic] := by
  have := Blk.new (w.setCell ⟨g, 0, none⟩ (.int .i64 ((i : Int) + 1))) 75 #[.int .i64 x.kind, .int .u64 x.n, .slice ba x.bytes.length bc, .slice ia x.items.length ic];rwa [show (w.setCell ⟨g, 0, none⟩ (.int .i64 ((i : Int) + 1))).heap.size = w.heap.size by simp [World.setCell]] at this
 have hG1 : w.grownBy (boxed w g ((i : Int) + 1) x ba bc ia ic) (some g) := grown_alloc (grown_set (grown_refl w (some g)) (.inl rfl) _) _;have hH1 : Holds (boxed w g ((i : Int) + 1) x ba bc ia ic) H := (hH.setCell hg _).alloc _;have hxa := hx.arg;have HF := Hh hf;clear hx hf;go_enter Tryz.func79, Tryz.ntmps79
 go_wp2_with fail
 refine (cbor_plain hT hxa _ hH1).mono ?_
 rintro e w2 ⟨rfl, hb2⟩
 have hC2 := hC1.below hb2;have hB2 := hB1.below hb2;have R := Hh (And.intro (grown_below hG1 hb2) hC2);have b0 := hB2.cell 0 rfl;have b1 := hB2.cell 1 rfl;have b2 := hB2.cell 2 rfl;have b3 := hB2.cell 3 rfl;clear c0 f0 c00 hC1 hB1 hG1 hH1 hC2 hB2 hb2;go_wp2_with fail
 all_goals first
  | (go_ret; exact ⟨by rw [E.out]; rfl, R.out.1, _, _, R.out.2, by rw [E.out]; intro p hp; cases hp⟩)
  | skip
 all_goals try simp only [beq_eq_false_iff_ne, ne_eq] at *
 all_goals exact absurd (show _ ∧ _ ∧ _ ∧ _ ∧ _ ∧ _ ∧ _ from ⟨by omega, by omega, by omega, by omega, fun _ => by omega, fun _ => by omega, fun _ => by omega⟩) (of_decide_eq_false HF.out)
theorem item_more (x : Itm) (ih : ∀ y : Itm, cnt y < cnt x → ItemSaid y) (i s lv : Nat) (h1 : i + 1 ≤ 256) (h2 : x.bytes.length ≤ 4096) (h3 : x.items.length ≤ 256) (hp : isPlain x = false) (hf : frameOk x lv = true) {H : Snap} (hT : Tabs H) {ba : Option Addr} {bc : Nat} {ia : Option Addr} {ic : Nat} (hx : IsItem H ba bc ia ic x)
  (w : World) (hH : Holds w H) (g : Nat) (hg : H g = none) (hc : Chk w g i s) (hs : s ≤ 4096) :
  Calls Tryz.prog 79 #[.pointer (some ⟨g, 0, none⟩), itemV x ba bc ia ic, .int .i64 (lv : Int)] w (Counts w g (chk x lv i s)) := by
 have E : Hid (chk x lv i s = if 4096 < s + spendP x then none else match chkL x.items (lv + 1) (i + 1) (s + spendP x) with | none => none | some p => if x.kind = 5 ∧ ascP x.items = false then none else some p) := by
  rw [Hid, chk_eq, if_neg (by omega), if_neg (by simp [hp]), if_neg (by simp [hf])];rfl
 obtain ⟨hk4, hk6, hlv8, hbl, hi6, hn0, hm2⟩ := frameOk_spec hf;have hbl0 : (x.bytes.length : Int) ≤ 0 := by omega
 have hlt := hc.lt;have c0 := hc.cell 0 rfl;have f0 := hc.frozen 0;have c00 := (hc.set_ 0 (.int .i64 ((i : Int) + 1))).cell 0 rfl;have hC1 : Chk (boxed w g ((i : Int) + 1) x ba bc ia ic) g ((i : Int) + 1) s := (hc.set_ 0 _).alloc _
 have hB1 : Blk (boxed w g ((i : Int) + 1) x ba bc ia ic) w.heap.size 75 #[.int .i64 x.kind, .int .u64 x.n, .slice ba x.bytes.length bc, .slice ia x.items.length ic] := by
  have := Blk.new (w.setCell ⟨g, 0, none⟩ (.int .i64 ((i : Int) + 1))) 75 #[.int .i64 x.kind, .int .u64 x.n, .slice ba x.bytes.length bc, .slice ia x.items.length ic];rwa [show (w.setCell ⟨g, 0, none⟩ (.int .i64 ((i : Int) + 1))).heap.size = w.heap.size by simp [World.setCell]] at this
 have hG1 : w.grownBy (boxed w g ((i : Int) + 1) x ba bc ia ic) (some g) := grown_alloc (grown_set (grown_refl w (some g)) (.inl rfl) _) _;have hH1 : Holds (boxed w g ((i : Int) + 1) x ba bc ia ic) H := (hH.setCell hg _).alloc _;have hxa := hx.arg
 have tests : ((x.kind == 6) = true ∧ (x.kind == 5) = false ∧ (x.kind != 5) = true ∧ (x.kind != 6) = false ∧ (x.items.length : Int) ≤ 1 ∧ 1 ≤ (x.items.length : Int) ∧ Hid (¬ x.kind = 5)) ∨
   ((x.kind == 6) = false ∧ (x.kind != 6) = true ∧ (x.n : Int) ≤ 0 ∧ (x.kind == 5) = true ∧ (x.kind != 5) = false ∧ ((x.items.length : Int) % 2 == 1) = false ∧ Hid (x.kind = 5)) ∨
   ((x.kind == 6) = false ∧ (x.kind != 6) = true ∧ (x.n : Int) ≤ 0 ∧ (x.kind == 5) = false ∧ (x.kind != 5) = true ∧ True ∧ Hid (¬ x.kind = 5)) := by
  rcases (by omega : x.kind = 6 ∨ x.kind = 5 ∨ x.kind = 4) with h | h | h
  ·have := hi6 h
   exact .inl ⟨by simp [h], by simp [h], by simp [h], by simp [h], by omega, by omega, by rw [Hid]; omega⟩
  ·have := hn0 (by omega);have h2 := hm2 h
   exact .inr (.inl ⟨by simp [h], by simp [h], by omega, by simp [h], by simp [h], by simp; omega, h⟩)
  ·have := hn0 (by omega)
   exact .inr (.inr ⟨by simp [h], by simp [h], by omega, by simp [h], by simp [h], trivial, by rw [Hid]; omega⟩)
 have HX := Hh hx;clear hx hf hi6 hn0 hm2 hbl;have TT := Hh tests;clear tests;go_enter Tryz.func79, Tryz.ntmps79
 go_wp2_with fail
 refine (cbor_plain hT hxa _ hH1).mono ?_
 rintro e w2 ⟨rfl, hb2⟩
 have hC2 := hC1.below hb2;have hB2 := hB1.below hb2;have hG2 := grown_below hG1 hb2;have b0 := hB2.cell 0 rfl;have b1 := hB2.cell 1 rfl;have b2 := hB2.cell 2 rfl;have b3 := hB2.cell 3 rfl;go_upto_region 9 with fail
 go_cut [95] (fun s95 wx => s95 = .bool false ∧ w2 = wx)
 case first =>
  rcases TT.out with ⟨t1, t2, t3, t4, t5, t6, t7⟩ | ⟨t1, t2, t3, t4, t5, t6, t7⟩ | ⟨t1, t2, t3, t4, t5, t6, t7⟩
  all_goals
   go_wp2_with fail
   go_meet
   exact ⟨rfl, rfl⟩
 case rest =>
  obtain ⟨rfl, rfl⟩ := hcut;go_wp2_with fail
  refine (cbor_spend hxa _ g ((i : Int) + 1) s hC2 (by omega) (by omega) (by omega) (by omega) (by omega)).mono ?_
  rintro e w3 ⟨rfl, hC3, hG3⟩
  have hB3 := hB2.grown hG3 (by simp; omega);have d0 := hB3.cell 0 rfl;have d3 := hB3.cell 3 rfl;clear b0 b1 b2 b3
  by_cases hle : s + spendP x ≤ 4096
  ·have hdec : decide ((s : Int) + (spendP x : Int) ≤ 4096) = true := by simp; omega
   go_wp2_with fail
   have E2 : Hid (chk x lv i s = match chkL x.items (lv + 1) (i + 1) (s + spendP x) with | none => none | some p => if x.kind = 5 ∧ ascP x.items = false then none else some p) := by
    rw [Hid, E.out, if_neg (by omega)]
   have HG3 := Hh (grown_step hG2 hG3 (.inl rfl));have hwz : w.heap.size < w3.heap.size := hB3.lt;have hH3 : Holds w3 H := (hH1.below hb2 (Nat.le_refl _)).grown hG3 (fun g' h => by injection h with h; subst h; exact hg);clear hC1 hB1 hG1 hH1 hC2 hB2 hG2 c0 f0 c00 E hdec hb2 hG3;go_loopw [103] (fun vi wr => ∃ (k : Nat) (p : Nat × Nat), k ≤ x.items.length ∧ vi = .int .i64 k ∧ Hid (chkL (x.items.drop k) (lv + 1) p.1 p.2 = chkL x.items (lv + 1) (i + 1) (s + spendP x)) ∧ p.1 ≤ 256 ∧ p.2 ≤ 4096 ∧ Chk wr g p.1 p.2 ∧ w3.grownBy wr (some g)) (fun vi _ => x.items.length - (intOf vi).toNat)
   case atStart => exact ⟨0, (i + 1, s + spendP x), Nat.zero_le _, rfl, by simp [Hid], by omega, hle, by simpa using hC3, grown_refl _ _⟩
   case round =>
    obtain ⟨k, p, hk, rfl, hdr, hp1, hp2, hCr, hGr⟩ := hrel;have hHr : Holds wr H := hH3.grown hGr (fun g' h => by injection h with h; subst h; exact hg)
    by_cases hlt : k < x.items.length
    ·obtain ⟨ib, io, hia, hel⟩ := HX.out.items (by omega);obtain ⟨eba, ebc, eia, eic, q0, q1, q2, q3, hex⟩ := hel.get k hlt;subst hia;have hlen : (x.items.length : Int) ≤ 256 := by omega
     have p0 := hHr.cell q0;have p1 := hHr.cell q1;have p2 := hHr.cell q2;have p3 := hHr.cell q3;have hdrop : x.items.drop k = x.items[k] :: x.items.drop (k + 1) := List.drop_eq_getElem_cons hlt
     have IHH := Hh (ih x.items[k] (cnt_items x k hlt) H _ _ eba _ ebc eia _ eic (wr.alloc (.cells #[.int .i64 x.items[k].kind, .int .u64 x.items[k].n, .slice eba x.items[k].bytes.length ebc, .slice eia x.items[k].items.length eic] 75)) g p.1 p.2 (lv + 1)
      hT hex.arg (hHr.alloc _) hg (hCr.alloc _) hp1 hp2 (by omega))
     have HD := Hh hdrop;have hlv1 : ((lv + 1 : Nat) : Int) = (lv : Int) + 1 := by omega
     rw [hlv1] at IHH;clear hdrop q0 q1 q2 q3 hel d0 d3 hlv1;go_wp2_with fail
     refine IHH.out.mono ?_
     rintro e w4 ⟨rfl, hG4, i4, s4, hC4, heq⟩
     have hG5 := grown_step (grown_alloc hGr (.cells #[.int .i64 x.items[k].kind, .int .u64 x.items[k].n, .slice eba x.items[k].bytes.length ebc, .slice eia x.items[k].items.length eic] 75)) hG4 (.inl rfl)
     cases hq : chk x.items[k] (lv + 1) p.1 p.2 with
     | none =>
      have e0 : Hid (chk x lv i s = none) := by
       rw [Hid, E2.out, ← hdr.out, HD.out, chkL, hq]
      have R := Hh (And.intro (grown_step HG3.out hG5 (.inl rfl)) hC4);clear hq heq p0 p1 p2 p3 IHH hCr hGr hG4 hG5 hC4;go_wp2_with fail
      go_ret
      exact ⟨by rw [e0.out]; rfl, R.out.1, _, _, R.out.2, by rw [e0.out]; intro p hp; cases hp⟩
     | some p' =>
      obtain ⟨rfl, rfl⟩ := heq p' hq;obtain ⟨_, _, hp3, hp4⟩ := chk_spec _ _ _ _ _ hq
      have hn : Hid (chkL (x.items.drop (k + 1)) (lv + 1) p'.1 p'.2 = chkL x.items (lv + 1) (i + 1) (s + spendP x)) := by
       rw [Hid, ← hdr.out, HD.out, chkL, hq]
      clear hq heq p0 p1 p2 p3 IHH hCr hGr hG4 HD hdr;go_wp2_with fail
      go_roundw
      case rel => exact ⟨k + 1, p', by omega, by go_num, hn, hp3, hp4, hC4, hG5⟩
      case measure => simp [intOf]; omega
    ·have hkl : k = x.items.length := by omega
     subst hkl
     have hfin : Hid (chkL x.items (lv + 1) (i + 1) (s + spendP x) = some p) := by
      rw [Hid, ← hdr.out, List.drop_length, chkL]
     have hBr := hB3.grown hGr (by simp; omega);have d0 := hBr.cell 0 rfl;have d3 := hBr.cell 3 rfl;have hGG := Hh (grown_step HG3.out hGr (.inl rfl));clear hdr
     rcases TT.out with ⟨t1, t2, t3, t4, t5, t6, t7⟩ | ⟨t1, t2, t3, t4, t5, t6, t7⟩ | ⟨t1, t2, t3, t4, t5, t6, t7⟩
     ·clear t1 t2 t4 t5 t6;go_wp2_with fail
      go_ret
      have e0 : chk x lv i s = some p := by
       rw [E2.out, hfin.out]
       simp only [if_neg (fun h : x.kind = 5 ∧ _ => t7.out h.1)]
      exact ⟨by rw [e0]; rfl, hGG.out, _, _, hCr, by rw [e0]; intro p' hp'; injection hp' with hp'; subst hp'; exact ⟨rfl, rfl⟩⟩
     ·clear t1 t2 t3 t4 t6;obtain ⟨hK, hPe, _, hp4⟩ := chkL_spec _ _ _ _ _ hfin.out h1 hle;have hen : (encL x.items).length ≤ 4096 := by rw [hPe] at hp4; simp only at hp4; omega
      have hlen : ∀ k (h : k < x.items.length), (encB x.items[k]).length ≤ 1099511627776 := by
       intro k hk
       have a1 := encL_take_succ x.items k hk;have a2 := encL_take_le x.items (k + 1);rw [a1] at a2
       simp only [List.length_append] at a2
       omega
      have hAA : ∃ b off, 0 < x.items.length → ia = some ⟨b, off, none⟩ ∧ IsElems H b off x.items := by
       by_cases h0 : 0 < x.items.length
       ·obtain ⟨ib, io, hia, hel⟩ := HX.out.items h0
        exact ⟨ib, io, fun _ => ⟨hia, hel⟩⟩
       ·exact ⟨0, 0, fun h => absurd h h0⟩
      obtain ⟨ib, io, hA⟩ := hAA;have ASC := Hh (cbor_ascending x.items ib io ia ic wr hA hHr hK hlen x.items.length rfl (by omega));clear hA hlen hen hPe hp4 hK;go_wp2_with fail
      refine ASC.out.mono ?_
      rintro e w5 ⟨rfl, hb5⟩
      have R := Hh (And.intro (grown_below hGG.out hb5) (hCr.below hb5))
      cases hasc : ascP x.items with
      | true =>
       have e0 : Hid (chk x lv i s = some p) := by
        rw [Hid, E2.out, hfin.out]
        simp only [hasc, Bool.true_eq_false, and_false, if_false]
       clear ASC hasc;go_wp2_with fail
       go_ret
       exact ⟨by rw [e0.out]; rfl, R.out.1, _, _, R.out.2, by rw [e0.out]; intro p' hp'; injection hp' with hp'; subst hp'; exact ⟨rfl, rfl⟩⟩
      | false =>
       have e0 : Hid (chk x lv i s = none) := by
        rw [Hid, E2.out, hfin.out]
        simp only [hasc, t7.out, and_self, if_true]
       clear ASC hasc;go_wp2_with fail
       go_ret
       exact ⟨by rw [e0.out]; rfl, R.out.1, _, _, R.out.2, by rw [e0.out]; intro p' hp'; cases hp'⟩
     ·clear t1 t2 t3 t4;go_wp2_with fail
      go_ret
      have e0 : chk x lv i s = some p := by
       rw [E2.out, hfin.out]
       simp only [if_neg (fun h : x.kind = 5 ∧ _ => t7.out h.1)]
      exact ⟨by rw [e0]; rfl, hGG.out, _, _, hCr, by rw [e0]; intro p' hp'; injection hp' with hp'; subst hp'; exact ⟨rfl, rfl⟩⟩
  ·have hdec : decide ((s : Int) + (spendP x : Int) ≤ 4096) = false := by simp; omega
   have R := Hh (And.intro (grown_step hG2 hG3 (.inl rfl)) hC3);clear hC1 hB1 hG1 hH1 hC2 hB2 hG2 hC3 hG3 hB3 d0 d3 c0 f0 c00;go_wp2_with fail
   go_ret
   have e0 : chk x lv i s = none := by rw [E.out, if_pos (by omega)]
   exact ⟨by rw [e0]; rfl, R.out.1, _, _, R.out.2, by rw [e0]; intro p hp; cases hp⟩
theorem ItemA.eqs {H : Snap} {k n : Int} {ba : Option Addr} {bl bc : Nat} {ia : Option Addr} {il ic : Nat} {x : Itm} (h : ItemA H k n ba bl bc ia il ic x) : k = x.kind ∧ n = (x.n : Int) ∧ bl = x.bytes.length ∧ il = x.items.length ∧ IsItem H ba bc ia ic x := ⟨h.1, h.2, h.3, h.4, h.5⟩
theorem cbor_item (x : Itm) : ItemSaid x := by
 have main : ∀ N, ∀ x : Itm, cnt x ≤ N → ItemSaid x := by
  intro N
  induction N with
  | zero =>
   intro x hx
   have : 0 < cnt x := by cases x; rw [cnt]; omega
   omega
  | succ N ih =>
   intro x hx H k n ba bl bc ia il ic w g i s lv hT ha hH hg hc hi hs hlv
   obtain ⟨rfl, rfl, rfl, rfl, hxi⟩ := ha.eqs
   by_cases h0 : 256 < i + 1 ∨ 4096 < x.bytes.length ∨ 256 < x.items.length
   ·exact item_many x i s lv h0 hxi w g hc hi
   ·by_cases hp : isPlain x = true
    ·exact item_plain x i s lv (by omega) (by omega) (by omega) hp hT hxi w hH g hg hc hs
    ·have hp' : isPlain x = false := by simpa using hp
     by_cases hf : frameOk x lv = true
     ·exact item_more x (fun y hy => ih y (by omega)) i s lv (by omega) (by omega) (by omega) hp' hf hT hxi w hH g hg hc hs
     ·exact item_frame x i s lv (by omega) (by omega) (by omega) hp' (by simpa using hf) hT hxi w hH g hg hc hs hlv
 exact main _ x (Nat.le_refl _)
theorem cbor_Valid {H : Snap} (hT : Tabs H) {k n : Int} {ba : Option Addr} {bl bc : Nat} {ia : Option Addr} {il ic : Nat} {x : Itm} (hx : ItemA H k n ba bl bc ia il ic x) (w : World) (hH : Holds w H) :
  Calls Tryz.prog 59 #[.agg #[.int .i64 k, .int .u64 n, .slice ba bl bc, .slice ia il ic]] w fun e w' => e = .returned (.bool (validP x)) ∧ Below w.heap.size w w' := by
 have W1 := fun w1 : World => fun h1 : Holds w1 H => fun hg => fun hc => (cbor_item x) H k n ba bl bc ia il ic w1 (w.heap.size + 1) 0 0 0 hT hx h1 hg hc (by omega) (by omega) (by omega)
 have hH2 := (hH.alloc (.cells #[.int .i64 k, .int .u64 n, .slice ba bl bc, .slice ia il ic] 75))
 have hg2 : H (w.heap.size + 1) = none := hH.none_of_ge (by omega);have hC := Blk.new (w.alloc (.cells #[.int .i64 k, .int .u64 n, .slice ba bl bc, .slice ia il ic] 75)) 128 #[.int .i64 0, .int .i64 0];rw [show (w.alloc (.cells #[.int .i64 k, .int .u64 n, .slice ba bl bc, .slice ia il ic] 75)).heap.size = w.heap.size + 1 by simp] at hC;have I := Hh (W1 _ (hH2.alloc (.cells #[.int .i64 0, .int .i64 0] 128)) hg2 hC);have B2 := Hh ((below_box w (.cells #[.int .i64 k, .int .u64 n, .slice ba bl bc, .slice ia il ic] 75)).alloc (by simp) (.cells #[.int .i64 0, .int .i64 0] 128));clear W1 hH2 hg2 hC hx;go_enter Tryz.func59, Tryz.ntmps59
 go_wp2_with fail
 refine I.out.mono ?_
 rintro e w2 ⟨rfl, hG, _⟩
 go_wp2_with fail
 go_ret
 exact ⟨rfl, below_of_grown B2.out hG (by simp)⟩
theorem Snap.with_ne (H : Snap) {g b : Nat} (o : Obj) (h : b ≠ g) : (H.with g o) b = H b := by simp [Snap.with, h]
theorem wpList_make_items {w : World} {ops : Array Oper} {rest : List Oper} {o : Oper} {a : Act} {Q : Exit → Act → World → Prop}
  (hg : o.guard = none) (l c : Operand) (hop : o.op = Op.makeSlice 73 l c)
  (kl kc : IntKind) (L C : Int) (n : Nat) (hl : a.eval l = .int kl L) (hc : a.eval c = .int kc C) (hL : L = (n : Int)) (hC : C = (n : Int)) (b2 : n ≤ 1099511627776) (g : Nat) (hgz : w.heap.size = g)
  (hK : ∀ w' cs, Blk w' g 75 cs → cs.size = n * 4 → Below w.heap.size w w' → wpList Tryz.prog ops Q rest (a.put o.dst (.slice (some ⟨g, 0, none⟩) n n)) w') :
  wpList Tryz.prog ops Q (o :: rest) a w := by
 subst hgz;obtain ⟨i0, hi0, hz0, hz1, hz2⟩ := info_parts info_item
 refine wpList_make_full w hg l c _ hop w.heap.size 75 i0 _ 4 Tryz.underlying73 hi0 hz0 hz1 kl kc L C n hl hc hL hC (by rw [hz2]; omega) (by simp only [maxLen]; omega) (Nat.le_refl _) fun w' h1 h2 => ?_
 rcases h1.2 with ⟨hv, _⟩ | ⟨g, cap, cur, hv, _, hg, _, _, hs, _⟩
 ·cases hv
 ·cases hv
  exact hK w' cur hg hs (grown_none h2)
def CopiedSaid (x : Itm) : Prop := ∀ (H : Snap) (k n : Int) (ba : Option Addr) (bl bc : Nat) (ia : Option Addr) (il ic : Nat) (w : World),
 Modest x → ItemA H k n ba bl bc ia il ic x → Holds w H →
 Calls Tryz.prog 62 #[.agg #[.int .i64 k, .int .u64 n, .slice ba bl bc, .slice ia il ic]] w fun e w' => ∃ v, e = .returned v ∧ Gives w H x v w'
theorem copied_step (x : Itm) (ih : ∀ y : Itm, cnt y < cnt x → CopiedSaid y) : CopiedSaid x := by
 intro H k n ba bl bc ia il ic w hm hx hH
 obtain ⟨rfl, rfl, rfl, rfl, hxi⟩ := hx.eqs;obtain ⟨hm1, hm2, hm3⟩ := hm.parts;have HX := Hh hxi;have hbounds := Hh hxi.bounds;have C := Hh (bytes_Clone ((w.alloc (.cells #[.int .i64 x.kind, .int .u64 x.n, .slice ba x.bytes.length bc, .slice ia x.items.length ic] 75)).alloc (.cells #[.int .i64 0, .int .u64 0, .slice none 0 0, .slice none 0 0] 75)) ba x.bytes x.bytes.length bc rfl hm1 (((Src.of_row hxi.bytes.row hH).alloc _).alloc _));have hB1 := (Blk.new w 75 #[.int .i64 x.kind, .int .u64 x.n, .slice ba x.bytes.length bc, .slice ia x.items.length ic]).alloc (.cells #[.int .i64 0, .int .u64 0, .slice none 0 0, .slice none 0 0] 75);have hB2 := Blk.new (w.alloc (.cells #[.int .i64 x.kind, .int .u64 x.n, .slice ba x.bytes.length bc, .slice ia x.items.length ic] 75)) 75 #[.int .i64 0, .int .u64 0, .slice none 0 0, .slice none 0 0];rw [show (w.alloc (.cells #[.int .i64 x.kind, .int .u64 x.n, .slice ba x.bytes.length bc, .slice ia x.items.length ic] 75)).heap.size = w.heap.size + 1 by simp] at hB2
 clear hx hm hxi hm1;go_enter Tryz.func62, Tryz.ntmps62
 go_wp2_with fail
 refine C.out.mono ?_
 rintro e w1 ⟨r, rfl, hf⟩
 obtain ⟨A', c', rfl, _⟩ := hf.own.form;obtain ⟨H1, hG1, hbs, _⟩ := hf.snapB ((hH.alloc _).alloc _);have hb1n : H1 w.heap.size = none := hG1.none (hH.none_of_ge (Nat.le_refl _)) (by simp; omega);have hb2n : H1 (w.heap.size + 1) = none := hG1.none (hH.none_of_ge (by omega)) (by simp);have hG1 := (((Grows.refl hH).alloc _).alloc _).trans hG1;have hB1 := hB1.below hf.2;have hB2 := hB2.below hf.2;have b2 := hB1.cell 2 rfl;have f2 := hB1.frozen 2;have hB1 := hB1.set_ 2 (.slice A' x.bytes.length c');have b3 := hB1.cell 3 rfl;have hw1 : w.heap.size + 2 ≤ w1.heap.size := by have := hf.2.size; simp at this; omega
 go_wp2_with (at_make; refine stop_in ?_)
 refine wpList_make_items rfl _ _ rfl .i64 .i64 _ _ x.items.length rfl rfl rfl rfl hm2 w1.heap.size (by simp [World.setCell]) fun w2 cs hcs hcz hb2 => ?_
 have hgn : H1 w1.heap.size = none := hG1.hidden (Nat.le_refl _);have hG2 : Grows w H w2 H1 := (hG1.setOwn hb1n (Nat.le_refl _) 2 (.slice A' x.bytes.length c')).below_ hb2;have hB2 := (hB2.far (p := ⟨w.heap.size, 2, none⟩) (by simp) (.slice A' x.bytes.length c')).below hb2;have hB1 := hB1.below hb2;have hw2 : w1.heap.size < w2.heap.size := hcs.lt;have c3 := hB1.cell 3 rfl;have HG2 := Hh hG2;have hle1 := hG1.le;clear hf C b2 f2 b3 hb2;go_upto_region 4 with fail
 go_loopw [17] (fun vi wr => ∃ (k : Nat) (Hr : Snap) (cr : Array Value) (pre : List Value), k ≤ x.items.length ∧ vi = .int .i64 k ∧ Grows w H wr Hr ∧ H1.le Hr ∧ Hr w.heap.size = none ∧ Hr (w.heap.size + 1) = none ∧ Hr w1.heap.size = none ∧
  Blk wr w.heap.size 75 #[.int .i64 x.kind, .int .u64 x.n, .slice A' x.bytes.length c', .slice ia x.items.length ic] ∧ Blk wr (w.heap.size + 1) 75 #[.int .i64 0, .int .u64 0, .slice none 0 0, .slice none 0 0] ∧
  Blk wr w1.heap.size 75 cr ∧ cr.size = x.items.length * 4 ∧ ItemsC Hr pre (x.items.take k) ∧ cr.toList.take (k * 4) = pre) (fun vi _ => x.items.length - (intOf vi).toNat)
 case atStart => exact ⟨0, H1, cs, [], Nat.zero_le _, rfl, HG2.out, Snap.le.refl _, hb1n, hb2n, hgn, hB1, hB2, hcs, hcz, by simp [ItemsC], by simp⟩
 case round =>
  obtain ⟨k, Hr, cr, pre, hk, rfl, hGr, hlr, hn1, hn2, hng, hC1, hC2, hCg, hcrz, hpre, hcp⟩ := hrel
  by_cases hlt : k < x.items.length
  ·obtain ⟨ib, io, hia, hel⟩ := HX.out.items (by omega);obtain ⟨eba, ebc, eia, eic, q0, q1, q2, q3, hex⟩ := hel.get k hlt;subst hia;have hHw := hGr.holds.mono hGr.le;have p0 := hHw.cell q0;have p1 := hHw.cell q1;have p2 := hHw.cell q2;have p3 := hHw.cell q3;have IH := Hh (ih x.items[k] (cnt_items x k hlt) Hr _ _ eba _ ebc eia _ eic (wr.alloc (.cells #[.int .i64 x.items[k].kind, .int .u64 x.items[k].n, .slice eba x.items[k].bytes.length ebc, .slice eia x.items[k].items.length eic] 75)) (hm3.get k hlt) (hex.mono hGr.le).arg (hGr.holds.alloc _));clear q0 q1 q2 q3 hel hex hHw;go_wp2_with fail
   refine IH.out.mono ?_
   rintro e w3 ⟨v, rfl, rba, rbc, ria, ric, Hs, rfl, hG3, his⟩
   have hG4 := (hGr.alloc (.cells #[.int .i64 x.items[k].kind, .int .u64 x.items[k].n, .slice eba x.items[k].bytes.length ebc, .slice eia x.items[k].items.length eic] 75)).trans hG3;have hD1 := (hC1.alloc (.cells #[.int .i64 x.items[k].kind, .int .u64 x.items[k].n, .slice eba x.items[k].bytes.length ebc, .slice eia x.items[k].items.length eic] 75)).below hG3.below;have hD2 := (hC2.alloc (.cells #[.int .i64 x.items[k].kind, .int .u64 x.items[k].n, .slice eba x.items[k].bytes.length ebc, .slice eia x.items[k].items.length eic] 75)).below hG3.below;have hDg := (hCg.alloc (.cells #[.int .i64 x.items[k].kind, .int .u64 x.items[k].n, .slice eba x.items[k].bytes.length ebc, .slice eia x.items[k].items.length eic] 75)).below hG3.below;have hm1' := hG3.none hn1 (by have := hC1.lt; simp; omega);have hm2' := hG3.none hn2 (by have := hC2.lt; simp; omega);have hmg' := hG3.none hng (by have := hCg.lt; simp; omega)
   have hpre2 : ItemsC Hs (pre ++ itemC x.items[k] rba rbc ria ric) (x.items.take (k + 1)) := by
    rw [List.take_succ_eq_append_getElem hlt]
    exact (hpre.mono hG3.le).app (ItemsC.one his)
   have hlr2 := hlr.trans hG3.le;have HCP := Hh hcp;clear p0 p1 p2 p3 IH hC1 hC2 hCg hpre hGr hG3 hcp;go_wp2_with (with_reducible refine stop_store ?_)
   refine wpList_store_blk rfl _ _ _ rfl rfl w1.heap.size (k * 4) _ rfl rfl _ _ hDg size_item (by show k * 4 + 4 ≤ cr.size; omega) (one4 _ _ _ _ rfl rfl rfl rfl) fun w4 hDg4 hg4 => ?_
   have hG5 := hG4.grownOwn hmg' (by omega) hg4;have hD1 := hD1.grown hg4 (by simp; omega);have hD2 := hD2.grown hg4 (by simp; omega);have hsz : (putC cr (k * 4) (itemC x.items[k] rba rbc ria ric)).size = x.items.length * 4 := by rw [putC_size]; exact hcrz
   have htk : (putC cr (k * 4) (itemC x.items[k] rba rbc ria ric)).toList.take ((k + 1) * 4) = pre ++ itemC x.items[k] rba rbc ria ric := by
    rw [show (k + 1) * 4 = k * 4 + (itemC x.items[k] rba rbc ria ric).length by simp [itemC]; omega, putC_take _ _ _ (by simp [itemC]; omega), HCP.out]
   have HTK := Hh htk;clear htk hG4 hDg;go_wp2_with fail
   go_roundw
   case rel => exact ⟨k + 1, Hs, _, _, by omega, by go_num, hG5, hlr2, hm1', hm2', hmg', hD1, hD2, hDg4, hsz, hpre2, HTK.out⟩
   case measure => simp [intOf]; omega
  ·have hkl : k = x.items.length := by omega
   subst hkl;rw [List.take_length] at hpre;have HCP := Hh hcp;clear hcp;have hF := hGr.withOwn hng (by omega) hCg;have hK := hlr.trans (Snap.le_with hng (o := .cells cr 75 (0, 0)));have hn2' : (Hr.with w1.heap.size (.cells cr 75 (0, 0))) (w.heap.size + 1) = none := by rw [Snap.with_ne _ _ (by omega)]; exact hn2
   have hn1' : (Hr.with w1.heap.size (.cells cr 75 (0, 0))) w.heap.size = none := by rw [Snap.with_ne _ _ (by omega)]; exact hn1
   have helems : IsElems (Hr.with w1.heap.size (.cells cr 75 (0, 0))) w1.heap.size 0 x.items :=
    (hpre.mono (Snap.le_with hng)).elems (Blk.cellsAt _ rfl pre (by rw [hpre.len]; exact HCP.out))
   have hbs' := hbs.mono hK;have hsz : w.heap.size < wr.heap.size := hC1.lt;clear hCg;go_wp2_with (with_reducible refine stop_store ?_)
   refine wpList_store_cell rfl _ _ _ rfl rfl w.heap.size 3 _ rfl rfl _ _ hC1 size_items (by simp) rfl fun w4 hE1 hg4 => ?_
   have hE2 := hC2.grown hg4 (by simp);have hGE := hF.grownOwn hn1' (Nat.le_refl _) hg4;clear hC1 hC2
   by_cases h0 : x.items.length = 0
   ·have hitem : IsItem (Hr.with w1.heap.size (.cells cr 75 (0, 0))) A' c' none 0 x := by
     obtain ⟨z1, z2, z3, _⟩ := hbounds.out
     cases x
     rw [IsItem]
     exact ⟨⟨z1, z2, z3, Nat.le_of_eq h0, by omega⟩, hbs', fun h => absurd h (by simp [Itm.items] at h0; simp [h0])⟩
    have HI := Hh hitem;have h00 : (x.items.length : Int) = 0 := by omega
    have H00 := Hh h0;clear h0 hitem;go_wp2_with (with_reducible refine stop_store ?_)
    refine wpList_store_cell rfl _ _ _ rfl rfl w.heap.size 3 _ rfl rfl _ _ hE1 size_items (by simp) rfl fun w5 hF1 hg5 => ?_
    have hF2 := hE2.grown hg5 (by simp);have hGE := hGE.grownOwn hn1' (Nat.le_refl _) hg5;have i0 := hF1.cell 0 rfl;have i1 := hF1.cell 1 rfl;have i2 := hF1.cell 2 rfl;have i3 := hF1.cell 3 rfl;go_wp2_with (with_reducible refine stop_store ?_)
    refine stI hF2 fun w6 hJ2 hg6 => ?_
    go_wp2_with fail
    refine ret_row rfl rfl hJ2 rfl rfl size_item rfl ?_
    exact ⟨_, rfl, A', c', none, 0, _, by simp [itemV, H00.out], hGE.grownOwn hn2' (by omega) hg6, HI.out⟩
   ·have hitem : IsItem (Hr.with w1.heap.size (.cells cr 75 (0, 0))) A' c' (some ⟨w1.heap.size, 0, none⟩) x.items.length x := by
     obtain ⟨z1, z2, z3, z4, z5, z6, z7⟩ := hbounds.out
     cases x
     rw [IsItem]
     exact ⟨⟨z1, z2, z3, Nat.le_refl _, by simp only [Itm.items] at z6 ⊢; omega⟩, hbs', fun h => ⟨_, _, rfl, helems⟩⟩
    have HI := Hh hitem;have h00 : ((x.items.length : Int) == 0) = false := by rw [beq_eq_false_iff_ne]; omega
    clear h0 hitem;have i0 := hE1.cell 0 rfl;have i1 := hE1.cell 1 rfl;have i2 := hE1.cell 2 rfl;have i3 := hE1.cell 3 rfl;go_wp2_with (with_reducible refine stop_store ?_)
    refine stI hE2 fun w6 hJ2 hg6 => ?_
    go_wp2_with fail
    refine ret_row rfl rfl hJ2 rfl rfl size_item rfl ?_
    exact ⟨_, rfl, A', c', _, _, _, rfl, hGE.grownOwn hn2' (by omega) hg6, HI.out⟩
theorem cbor_copied (x : Itm) : CopiedSaid x := by
 have main : ∀ N, ∀ x : Itm, cnt x ≤ N → CopiedSaid x := by
  intro N
  induction N with
  | zero =>
   intro x hx
   have : 0 < cnt x := by cases x; rw [cnt]; omega
   omega
  | succ N ih => exact fun x hx => copied_step x fun y hy => ih y (by omega)
 exact main _ x (Nat.le_refl _)
theorem cbor_Find {H : Snap} (hT : Tabs H) {k n : Int} {ba : Option Addr} {bl bc : Nat} {ia : Option Addr} {il ic : Nat} {x : Itm} (hx : ItemA H k n ba bl bc ia il ic x)
  {k' n' : Int} {ba' : Option Addr} {bl' bc' : Nat} {ia' : Option Addr} {il' ic' : Nat} {y : Itm} (hy : ItemA H k' n' ba' bl' bc' ia' il' ic' y) (w : World) (hH : Holds w H) :
  Calls Tryz.prog 46 #[.agg #[.int .i64 k, .int .u64 n, .slice ba bl bc, .slice ia il ic], .agg #[.int .i64 k', .int .u64 n', .slice ba' bl' bc', .slice ia' il' ic']] w
   fun e w' => ∃ v, e = .returned (.tuple #[v, .bool (findP x y).isSome]) ∧ Gives w H ((findP x y).getD zeroItm) v w' := by
 obtain ⟨rfl, rfl, rfl, rfl, hxi⟩ := hx.eqs;obtain ⟨rfl, rfl, rfl, rfl, hyi⟩ := hy.eqs;have HX := Hh hxi;have HXA := Hh hx;have HYA := Hh hy;have hB1 := ((Blk.new w 75 #[.int .i64 x.kind, .int .u64 x.n, .slice ba x.bytes.length bc, .slice ia x.items.length ic]).alloc (itemO y ba' bc' ia' ic')).alloc zeroO;have hB2 := (Blk.new (w.alloc (itemO x ba bc ia ic)) 75 #[.int .i64 y.kind, .int .u64 y.n, .slice ba' y.bytes.length bc', .slice ia' y.items.length ic']).alloc zeroO;have hB3 := Blk.new ((w.alloc (itemO x ba bc ia ic)).alloc (itemO y ba' bc' ia' ic')) 75 #[.int .i64 0, .int .u64 0, .slice none 0 0, .slice none 0 0];have hG0 := (((Grows.refl hH).alloc (itemO x ba bc ia ic)).alloc (itemO y ba' bc' ia' ic')).alloc zeroO
 simp only [size_alloc] at hB2 hB3
 have hn3 : H (w.heap.size + 1 + 1) = none := hH.none_of_ge (by omega)
 by_cases h5 : x.kind = 5
 ·have k5 : (x.kind != 5) = false := by simp [h5]
  have H5 := Hh h5;clear h5;have V := Hh (cbor_Valid hT hx _ hG0.holds)
  cases hvx : validP x with
  | false =>
   have E : Hid (findP x y = none) := by rw [Hid, findP, if_neg (by simp [hvx])]
   have HG := Hh hG0;rw [hvx] at V;clear hvx hxi hyi hx hy hG0;go_enter Tryz.func46, Tryz.ntmps46
   go_wp2_with fail
   refine V.out.mono ?_
   rintro e w1 ⟨rfl, hb1⟩
   have hB3 := hB3.below hb1;have HG1 := Hh (HG.out.below_ hb1);clear hB1 hB2 hb1 HG;go_wp2_with (with_reducible refine stop_store ?_)
   refine stI hB3 fun w6 hJ2 hg6 => ?_
   go_wp2_with fail
   refine ret_row_tmp rfl rfl hJ2 rfl rfl size_item rfl ?_
   rw [E.out]
   exact ⟨_, rfl, none, 0, none, 0, H, rfl, HG1.out.grownOwn hn3 (by omega) hg6, IsItem.plain H 0 0 (by omega) (by omega)⟩
  | true =>
   have hmx := validP_modest hvx;obtain ⟨hx1, hx2, hKx, hex⟩ := validP_items hvx;have heven := Hh (validP_even hvx H5.out);have HVX := Hh hvx;rw [hvx] at V;clear hvx hxi hyi hx hy;go_enter Tryz.func46, Tryz.ntmps46
   go_wp2_with fail
   refine V.out.mono ?_
   rintro e w1 ⟨rfl, hb1⟩
   have hB1 := hB1.below hb1;have hB2 := hB2.below hb1;have hB3 := hB3.below hb1;have hG1 := hG0.below_ hb1;have q0 := hB2.cell 0 rfl;have q1 := hB2.cell 1 rfl;have q2 := hB2.cell 2 rfl;have q3 := hB2.cell 3 rfl;have V2 := Hh (cbor_Valid hT HYA.out _ hG1.holds)
   cases hvy : validP y with
   | false =>
    have E : Hid (findP x y = none) := by rw [Hid, findP, if_neg (by simp [hvy])]
    rw [hvy] at V2;clear hvy;go_wp2_with fail
    refine V2.out.mono ?_
    rintro e w2 ⟨rfl, hb2⟩
    have hB3 := hB3.below hb2;have HG2 := Hh (hG1.below_ hb2);clear hB1 hB2 hb1 hb2 q0 q1 q2 q3 hG1 hG0;go_wp2_with (with_reducible refine stop_store ?_)
    refine stI hB3 fun w6 hJ2 hg6 => ?_
    go_wp2_with fail
    refine ret_row_tmp rfl rfl hJ2 rfl rfl size_item rfl ?_
    rw [E.out]
    exact ⟨_, rfl, none, 0, none, 0, H, rfl, HG2.out.grownOwn hn3 (by omega) hg6, IsItem.plain H 0 0 (by omega) (by omega)⟩
   | true =>
    obtain ⟨hky, _, hly⟩ := validP_spec hvy;have E : Hid (findP x y = findL (encB y) x.items) := by rw [Hid, findP, if_pos ⟨H5.out, HVX.out, hvy⟩]
    rw [hvy] at V2;clear hvy;go_wp2_with fail
    refine V2.out.mono ?_
    rintro e w2 ⟨rfl, hb2⟩
    have hB1 := hB1.below hb2;have hB2 := hB2.below hb2;have hB3 := hB3.below hb2;have hG2 := hG1.below_ hb2;have A := Hh (cbor_add y H _ _ _ _ _ _ _ _ w2 w2.heap.size (.slice none 0 0) [] hky HYA.out hG2.holds (OwnB.nil _ _) (Nat.le_refl _) (by simp [Value.ownBlock]) (by simp; omega));clear hb1 hb2 q0 q1 q2 q3 hG1 hG0;have q0 := hB2.cell 0 rfl;have q1 := hB2.cell 1 rfl;have q2 := hB2.cell 2 rfl;have q3 := hB2.cell 3 rfl;go_wp2_with fail
    refine A.out.mono ?_
    rintro e w3 ⟨r, rfl, hown, hg3, _⟩
    obtain ⟨KA, kc, rfl, _, _, hsrc⟩ := hown.form;rw [List.nil_append] at hown hsrc;have hb3 := grown_none hg3;have h3B1 := hB1.below hb3;have h3B3 := hB3.below hb3;have HG3 := Hh (hG2.below_ hb3);have c3 := h3B1.cell 3 rfl;clear hB2 q0 q1 q2 q3 hG2 A V V2 hg3;go_upto_region 5 with fail
    go_loopw [7] (fun vi wr => ∃ k : Nat, k ≤ x.items.length ∧ k % 2 = 0 ∧ vi = .int .i64 k ∧ findL (encB y) (x.items.drop k) = findP x y ∧ Below w3.heap.size w3 wr) (fun vi _ => x.items.length - (intOf vi).toNat)
    case atStart => exact ⟨0, Nat.zero_le _, rfl, rfl, by rw [E.out]; simp, Below.refl _ _⟩
    case round =>
     obtain ⟨k, hk, hk2, rfl, hf, hbr⟩ := hrel;have HGr := Hh (HG3.out.below_ hbr);have d3 := (h3B1.below hbr).cell 3 rfl
     by_cases hlt : k < x.items.length
     ·have heven := heven.out;have hlt1 : k + 1 < x.items.length := by omega
      have hst := findL_step (encB y) x.items k hlt1;rw [hf] at hst;obtain ⟨ib, io, hia, hel⟩ := HX.out.items (by omega);subst hia;obtain ⟨eba, ebc, eia, eic, z0, z1, z2, z3, hez⟩ := hel.get k hlt;have hHr := HGr.out.holds;have p0 := hHr.cell z0;have p1 := hHr.cell z1;have p2 := hHr.cell z2;have p3 := hHr.cell z3;have HST := Hh hst;have A := Hh (cbor_add x.items[k] H _ _ _ _ _ _ _ _ wr wr.heap.size (.slice none 0 0) [] (hKx.get k hlt) hez.arg hHr (OwnB.nil _ _) (Nat.le_refl _) (by simp [Value.ownBlock]) (by have := encL_get x.items k hlt; simp; omega));clear z0 z1 z2 z3 hez hst hf heven;go_wp2_with fail
      refine A.out.mono ?_
      rintro e w4 ⟨r, rfl, hown4, hg4, _⟩
      obtain ⟨EA, ec, rfl, _, _, hsrc4⟩ := hown4.form;rw [List.nil_append] at hown4 hsrc4;have hb4 := grown_none hg4;have Q := Hh (bytes_Equal w4 EA KA (encB x.items[k]) (encB y) (encB x.items[k]).length (encB y).length ec kc rfl rfl hsrc4 (hsrc.below (hbr.trans (hb4.mono hbr.size))));have HGr4 := Hh (HGr.out.below_ hb4);have hB1r := (h3B1.below hbr).below hb4;have hB3r := (h3B3.below hbr).below hb4;have hbr4 := hbr.trans (hb4.mono hbr.size);have e3 := hB1r.cell 3 rfl;clear d3 p0 p1 p2 p3 A hg4 hbr hHr;go_wp2_with fail
      refine Q.out.mono ?_
      rintro e w5 ⟨rfl, rfl⟩
      cases hq : (encB x.items[k] == encB y) with
      | true =>
       have E2 : Hid (findP x y = some x.items[k + 1]) := HST.out.trans (if_pos (by simpa using hq));obtain ⟨eba', ebc', eia', eic', z0, z1, z2, z3, hez⟩ := hel.get (k + 1) hlt1;have hHr := HGr4.out.holds;have p0 := hHr.cell z0;have p1 := hHr.cell z1;have p2 := hHr.cell z2;have p3 := hHr.cell z3;have C := Hh (cbor_copied x.items[k + 1] H _ _ eba' _ ebc' eia' _ eic' w4 (hmx.parts.2.2.get (k + 1) hlt1) hez.arg hHr);have i1 : ((k : Int) + 1).toNat = k + 1 := by omega
       have i2 : (k : Int) + 1 < x.items.length := by omega
       have i3 : IntKind.i64.wrap ((k : Int) + 1) = (k : Int) + 1 := IntWalk.i64_in _ (by omega);clear z0 z1 z2 z3 hez hq Q hel;go_wp2_with fail
       refine C.out.mono ?_
       rintro e w5 ⟨v, rfl, rba, rbc, ria, ric, Hs, rfl, hG5, his⟩
       have hF3 := hB3r.below hG5.below;have hn3' := hG5.none hn3 (by have := hB3r.lt; omega);have HG5 := Hh (HGr4.out.trans hG5);clear e3 p0 p1 p2 p3 C hB1r;go_wp2_with (with_reducible refine stop_store ?_)
       refine stI hF3 fun w6 hJ2 hg6 => ?_
       go_wp2_with fail
       refine ret_row_tmp rfl rfl hJ2 rfl rfl size_item rfl ?_
       rw [E2.out]
       exact ⟨_, rfl, rba, rbc, ria, ric, Hs, rfl, HG5.out.grownOwn hn3' (by omega) hg6, his⟩
      | false =>
       have E2 : Hid (findL (encB y) (x.items.drop (k + 2)) = findP x y) := (HST.out.trans (if_neg (by simpa using hq))).symm;have heven := heven.out;have i3 : IntKind.i64.wrap ((k : Int) + 2) = (k : Int) + 2 := IntWalk.i64_in _ (by omega);clear hq Q hel e3;go_wp2_with fail
       go_roundw
       case rel => exact ⟨k + 2, by omega, by omega, by go_num, E2.out, hbr4⟩
       case measure => simp [intOf]; omega
     ·have E2 : Hid (findP x y = none) := by
       rw [Hid, ← hf, List.drop_eq_nil_of_le (by omega)];rfl
      have hB3r := h3B3.below hbr;clear hf;go_wp2_with (with_reducible refine stop_store ?_)
      refine stI hB3r fun w6 hJ2 hg6 => ?_
      go_wp2_with fail
      refine ret_row_tmp rfl rfl hJ2 rfl rfl size_item rfl ?_
      rw [E2.out]
      exact ⟨_, rfl, none, 0, none, 0, H, rfl, HGr.out.grownOwn hn3 (by omega) hg6, IsItem.plain H 0 0 (by omega) (by omega)⟩
 ·have k5 : (x.kind != 5) = true := by simp [h5]
  have E : Hid (findP x y = none) := by rw [Hid, findP, if_neg (by simp [h5])]
  clear h5;have HG := Hh hG0;clear hxi hyi hx hy hG0;go_enter Tryz.func46, Tryz.ntmps46
  go_wp2_with (with_reducible refine stop_store ?_)
  refine stI hB3 fun w6 hJ2 hg6 => ?_
  go_wp2_with fail
  refine ret_row_tmp rfl rfl hJ2 rfl rfl size_item rfl ?_
  rw [E.out]
  exact ⟨_, rfl, none, 0, none, 0, H, rfl, HG.out.grownOwn hn3 (by omega) hg6, IsItem.plain H 0 0 (by omega) (by omega)⟩
theorem OwnI.lit {w : World} {H : Snap} {l : List Itm} {cs : List Value} (h : ItemsC H cs l) (base : Nat) (hb : base ≤ w.heap.size) (hm : l.length ≤ 4096) :
  OwnI (w.alloc (.cells cs.toArray 75)) base (.slice (some ⟨w.heap.size, 0, none⟩) l.length l.length) H l := by
 refine ⟨cs, h, h.len, .inr ⟨w.heap.size, l.length, cs.toArray, rfl, hb, heap_alloc_new w _, Nat.le_refl _, by simp only [maxLen]; omega, ?_, ?_⟩⟩
 ·simpa using h.len
 ·rw [← h.len]; simp
section
variable {d : Nat} {w : World} {H : Snap} {g : Nat} {A : Option Addr} {c : Nat} {l : List UInt8} {p cnt lv : Nat}
theorem IsItem.str {H : Snap} {B : Option Addr} {bc : Nat} {s : List UInt8} (k : Int) (hk : 0 ≤ k ∧ k ≤ 8) (h : IsBytes H B bc s) : IsItem H B bc none 0 (.mk k 0 s []) := by
 rw [IsItem]
 exact ⟨⟨by omega, by omega, by omega, Nat.le_refl _, by omega⟩, h, fun h => absurd h (by simp)⟩
theorem p_item_2 (hTab : Tabs H) (hlv : lv + d = 8) (hP : Psr 107 w g H A c l p cnt) (hc : cnt < 256) {f n k : Nat} (hh : headP (l.drop p) = .ok (f, n, k)) (hk : f / 32 = 2) : Calls Tryz.prog 58 #[.pointer (some ⟨g, 0, none⟩), .int .i64 (lv : Int)] w (ItemOut 107 w H g A c l p (parse d (l.drop p) cnt)) := by
 have hgl := hP.gt;have hd0 := (Rdg.refl hP).alloc zeroO;have hT0 := Blk.new w 75 #[.int .i64 0, .int .u64 0, .slice none 0 0, .slice none 0 0];have hn0 : H w.heap.size = none := hP.holds.none_of_ge (Nat.le_refl _);have c2 := hd0.psr.blk.cell 2 rfl
 have E0 : Hid (parse d (l.drop p) cnt = (if (l.drop p).length < k + n then .err 2 else if 2 = 3 ∧ Lib.validD (((l.drop p).drop k).take n) = false then .err 5 else .ok (.mk 2 0 (((l.drop p).drop k).take n) []) (k + n) (cnt + 1))) := by
  rw [Hid, parse_str d (l.drop p) cnt (by omega) hh (by omega) (by omega), hk]; first | rfl | (simp only [true_and]; first | done | rfl) | simp
 have S : (f : Int) / 32 = 2 := by omega
 have hc256 : ((cnt : Int) == 256) = false := by simp; omega
 have hc256' : ((cnt : Int) = 256) = False := eq_false (by omega);have KC : IntKind.i64.wrap ((cnt : Int) + 1) = (cnt : Int) + 1 := IntWalk.i64_in _ (by omega);have HC := Hh hc;clear hc;go_enter Tryz.func58, Tryz.ntmps58
 go_wp2_with (with_reducible refine stop_store ?_)
 refine wpList_store_cell rfl _ _ _ rfl rfl g 2 (.int .i64 ((cnt : Int) + 1)) rfl rfl _ _ hd0.psr.blk size_int1 (by simp) rfl fun w2 hB2 hG2 => ?_
 have hd2 : Rdg 107 w H w2 H g A c l p (cnt + 1) := hd0.step hG2 hB2 hP.le (by have := HC.out; omega);have hT2 := hT0.gr hG2 (by omega);have PH := Hh (p_head hd2.psr);clear hd0 hT0 hB2 hG2 c2 KC hc256 hc256';go_wp2_with fail
 refine PH.out.mono ?_
 intro e w3 hs
 rw [HeadSaid, hh] at hs;obtain ⟨rfl, hB3, hG3⟩ := hs;have HS := headP_spec hh;have hle3 : p + k ≤ l.length := by have := HS.le; rw [List.length_drop] at this; have := hP.le; omega
 have hd3 : Rdg 107 w H w3 H g A c l (p + k) (cnt + 1) := hd2.step hG3 hB3 hle3 (by have := HC.out; omega);have hT3 := hT2.gr hG3 (by omega);have HF := Hh HS;clear hd2 hT2 hB3 hG3 PH HS hh;have hpos := HF.out.pos;obtain ⟨b, off, rfl, HCELL0⟩ := hd3.psr.bytes.at_ (by omega);have hsm := hd3.psr.small;have hcl := hd3.psr.bytes.le;have hcm := hd3.psr.bytes.max;have hnl := HF.out.n_lt;have hdl : (l.drop p).length = l.length - p := List.length_drop;obtain ⟨P, hPk⟩ : ∃ P, p + k = P := ⟨_, rfl⟩
 obtain ⟨s, hss⟩ : ∃ s, ((l.drop p).drop k).take n = s := ⟨_, rfl⟩
 rw [hss] at E0;rw [List.drop_drop, hPk] at hss;rw [hPk] at hd3 hle3;have K1 : IntKind.i64.wrap ((l.length : Int) - (P : Int)) = (l.length : Int) - (P : Int) := IntWalk.i64_in _ (by omega);have K2 : IntKind.u64.wrap ((l.length : Int) - (P : Int)) = (l.length : Int) - (P : Int) := by rw [IntKind.wrap_u64]; omega
 have a0 := hd3.psr.blk.cell 0 rfl;have a1 := hd3.psr.blk.cell 1 rfl;have hPl : (P : Int) ≤ (l.length : Int) := by omega
 have hll : (l.length : Int) ≤ 4096 := by omega
 by_cases hlt : l.length < P + n
 ·have z0 : (l.length : Int) - (P : Int) < (n : Int) := by omega
  have E : Hid (parse d (l.drop p) cnt = .err 2) := by rw [Hid, E0.out, if_pos (by omega)]
  clear hsm hcl hcm hnl hdl hPk hss E0 hlt HCELL0;go_wp2_with fail
  go_big_quiet (fail)
  have hd4 := hd3.drewN nq;have hT4 : Blk (w3.drewN nq) w.heap.size 75 #[.int .i64 0, .int .u64 0, .slice none 0 0, .slice none 0 0] := hT3;go_wp2_with (with_reducible refine stop_store ?_)
  refine stI hT4 fun wz hTy hgz => ?_
  have hdz := hd4.gb hn0 (Nat.le_refl _) hgl hgz;go_wp2_with fail
  refine ret_row_tmp rfl rfl hTy rfl rfl size_item rfl ?_
  exact ItemOut.err E.out rfl hdz
 ·have z0 : ¬ ((l.length : Int) - (P : Int) < (n : Int)) := by omega
  have z0b : decide ((l.length : Int) - (P : Int) < (n : Int)) = false := decide_eq_false z0;have E1 : Hid (parse d (l.drop p) cnt = (if 2 = 3 ∧ Lib.validD s = false then .err 5 else .ok (.mk 2 0 s []) (k + n) (cnt + 1))) := by rw [Hid, E0.out, if_neg (by omega)]; try simp
  have hsn : n = s.length := by rw [← hss, List.length_take, List.length_drop]; omega
  have HSN := Hh hsn;clear hsn;have KN : IntKind.i64.wrap (n : Int) = (n : Int) := IntWalk.i64_in _ (by omega);have KP : IntKind.i64.wrap ((P : Int) + (n : Int)) = (P : Int) + (n : Int) := IntWalk.i64_in _ (by omega);have kt : ((P : Int) + (n : Int)).toNat = P + n := by omega
  have y0 : (0 : Int) ≤ (P : Int) + (n : Int) := by omega
  have y5 : P ≤ P + n := by omega
  have y6 : P + n - P = n := by omega
  have y1 : (P : Int) ≤ (P : Int) + (n : Int) := by omega
  have y2 : (P : Int) + (n : Int) ≤ (c : Int) := by omega
  have y3 : (P : Int) ≤ (c : Int) := by omega
  have y4 : (0 : Int) ≤ (P : Int) := by omega
  have HK := Hh (And.intro hsm (And.intro hcl (And.intro hcm hPk)));go_wp2_with fail
  go_big_quiet (fail)
  have hd4' := hd3.drewN nq;have hT4' : Blk (w3.drewN nq) w.heap.size 75 #[.int .i64 0, .int .u64 0, .slice none 0 0, .slice none 0 0] := hT3
  generalize w3.drewN nq = w4 at hd4' hT4' ⊢
  obtain ⟨hd4, hT4⟩ := And.intro hd4' hT4';clear hd4' hT4' hd3 hT3 a0 a1 E0 z0 z0b;have HCELL : ∀ j (hj : j < l.length), w4.cell? ⟨b, off + j, none⟩ = some (byteV l[j]) := fun j hj => hd4.psr.holds.cell (HCELL0 j hj)
  by_cases hcp : c = P
  ·have hcp' : P = c := hcp.symm;subst hcp';clear hcp;have hd4d : Rdg 107 w H w4.drew H g (some ⟨b, off, none⟩) P l P (cnt + 1) := hd4.drewN 1;have hT4d : Blk w4.drew w.heap.size 75 #[.int .i64 0, .int .u64 0, .slice none 0 0, .slice none 0 0] := hT4;have CL := Hh (bytes_Clone w4.drew (some ⟨b, off, none⟩) s n 0 HSN.out (by have := HSN.out; omega) (by have hz : s = [] := List.eq_nil_of_length_eq_zero (by have := HSN.out; omega); rw [hz]; exact Src.nil _ _));have a0 := hd4.psr.blk.cell 0 rfl;have a1 := hd4.psr.blk.cell 1 rfl;clear hd4 hT4;go_upto_region 16 with fail
   refine wp_region_ways 17 (fun w' => w'.cell? ⟨g, 0, none⟩ = some (.slice (some ⟨b, off, none⟩) l.length P) ∧ w'.cell? ⟨g, 1, none⟩ = some (.int .i64 (P : Int))) (by kernel_rfl) (⟨a0, a1⟩) (fun hHeld => ?_)
   refine Tk 0 rfl hHeld ?_
   refine Tk 1 rfl hHeld ?_
   refine Tk 2 rfl hHeld ?_
   refine Tk 3 rfl hHeld ?_
   refine Tk 4 rfl hHeld ?_
   refine Tk 5 rfl hHeld ?_
   refine Tk 6 rfl hHeld ?_
   refine Tk 7 rfl hHeld ?_
   refine Tk 8 rfl hHeld ?_
   refine Tk 9 rfl hHeld ?_
   refine Tk 10 rfl hHeld ?_
   refine Tk 11 rfl hHeld ?_
   refine Tk 12 rfl hHeld ?_
   refine Tk 13 rfl hHeld ?_
   refine Tk 14 rfl hHeld ?_
   refine Tk 15 rfl hHeld ?_
   refine To 16 rfl fun K hK => ?_
   go_simp
   refine CL.out.mono ?_
   rintro e w5 ⟨r5, rfl, hf5⟩
   obtain ⟨RA, rc, rfl, _⟩ := hf5.own.form;have hd5 := hd4d.below_ hf5.2
   refine Ko hK ?_ fun hHeld => ?_
   ·exact ⟨hd5.psr.blk.cell 0 rfl, hd5.psr.blk.cell 1 rfl⟩
   clear hK K
   refine To 17 rfl fun K hK => ?_
   go_simp
   refine Kz hK ?_
   clear hK K
   refine Wd ?_
   clear hHeld CL a0 a1;have hT5 := hT4d.below hf5.2;obtain ⟨H6, hG6, hi6, _⟩ := Fresh.snapB hd4d.psr.holds hf5;have hd6 := hd4d.grown hG6;have hn6 := hG6.none hn0 hT4d.lt;clear hd5 hf5 hd4d hT4d;have a1 := hd6.psr.blk.cell 1 rfl;go_wp2_with (with_reducible refine stop_store ?_)
   refine wpList_store_cell rfl _ _ _ rfl rfl g 1 (.int .i64 ((P : Int) + (n : Int))) rfl rfl _ _ hd6.psr.blk size_int1 (by simp) rfl fun w7 hB7 hG7 => ?_
   have hd7 : Rdg 107 w H w7 H6 g (some ⟨b, off, none⟩) P l (P + n) (cnt + 1) := hd6.step hG7 hB7 (by omega) (by have := HC.out; omega);have hT7 := hT5.gr hG7 (by omega);have hn7 := hn6;clear hd6 hT5 hB7 hG7 a1;have E : Hid (parse d (l.drop p) cnt = .ok (.mk 2 0 s []) (k + n) (cnt + 1)) := by rw [Hid, E1.out, if_neg (fun h => absurd h.1 (by omega))]
   have IB := hi6;clear E1;go_wp2_with (with_reducible refine stop_store ?_)
   refine stI hT7 fun wz hTy hgz => ?_
   have hdz := hd7.gb hn7 (Nat.le_refl _) hgl hgz;go_wp2_with fail
   refine ret_row_tmp rfl rfl hTy rfl rfl size_item rfl ?_
   exact ItemOut.ok E.out rfl (by rw [← Nat.add_assoc, HK.out.2.2.2]; exact hdz) (IsItem.str 2 (by omega) IB)
  ·have hcpF : (c = P) = False := eq_false hcp;have hd4d : Rdg 107 w H w4.drew H g (some ⟨b, off, none⟩) c l P (cnt + 1) := hd4.drewN 1;have hT4d : Blk w4.drew w.heap.size 75 #[.int .i64 0, .int .u64 0, .slice none 0 0, .slice none 0 0] := hT4;have CL := Hh (bytes_Clone w4.drew (some ⟨b, off + P, none⟩) s n (c - P) HSN.out (by have := HSN.out; omega) ((by have hq := src_sub (w := w4.drew) (n := n) HCELL P (some ⟨b, off + P, none⟩) (fun _ => rfl) (by omega); rw [hss] at hq; exact hq)));have a0 := hd4.psr.blk.cell 0 rfl;have a1 := hd4.psr.blk.cell 1 rfl;clear hd4 hT4;go_upto_region 16 with fail
   refine wp_region_ways 17 (fun w' => w'.cell? ⟨g, 0, none⟩ = some (.slice (some ⟨b, off, none⟩) l.length c) ∧ w'.cell? ⟨g, 1, none⟩ = some (.int .i64 (P : Int))) (by kernel_rfl) (⟨a0, a1⟩) (fun hHeld => ?_)
   refine Tk 0 rfl hHeld ?_
   refine Tk 1 rfl hHeld ?_
   refine Tk 2 rfl hHeld ?_
   refine Tk 3 rfl hHeld ?_
   refine Tk 4 rfl hHeld ?_
   refine Tk 5 rfl hHeld ?_
   refine Tk 6 rfl hHeld ?_
   refine Tk 7 rfl hHeld ?_
   refine Tk 8 rfl hHeld ?_
   refine Tk 9 rfl hHeld ?_
   refine Tk 10 rfl hHeld ?_
   refine Tk 11 rfl hHeld ?_
   refine Tk 12 rfl hHeld ?_
   refine Tk 13 rfl hHeld ?_
   refine Tk 14 rfl hHeld ?_
   refine Tk 15 rfl hHeld ?_
   refine To 16 rfl fun K hK => ?_
   go_simp
   refine CL.out.mono ?_
   rintro e w5 ⟨r5, rfl, hf5⟩
   obtain ⟨RA, rc, rfl, _⟩ := hf5.own.form;have hd5 := hd4d.below_ hf5.2
   refine Ko hK ?_ fun hHeld => ?_
   ·exact ⟨hd5.psr.blk.cell 0 rfl, hd5.psr.blk.cell 1 rfl⟩
   clear hK K
   refine To 17 rfl fun K hK => ?_
   go_simp
   refine Kz hK ?_
   clear hK K
   refine Wd ?_
   clear hHeld CL a0 a1;have hT5 := hT4d.below hf5.2;obtain ⟨H6, hG6, hi6, _⟩ := Fresh.snapB hd4d.psr.holds hf5;have hd6 := hd4d.grown hG6;have hn6 := hG6.none hn0 hT4d.lt;clear hd5 hf5 hd4d hT4d;have a1 := hd6.psr.blk.cell 1 rfl;go_wp2_with (with_reducible refine stop_store ?_)
   refine wpList_store_cell rfl _ _ _ rfl rfl g 1 (.int .i64 ((P : Int) + (n : Int))) rfl rfl _ _ hd6.psr.blk size_int1 (by simp) rfl fun w7 hB7 hG7 => ?_
   have hd7 : Rdg 107 w H w7 H6 g (some ⟨b, off, none⟩) c l (P + n) (cnt + 1) := hd6.step hG7 hB7 (by omega) (by have := HC.out; omega);have hT7 := hT5.gr hG7 (by omega);have hn7 := hn6;clear hd6 hT5 hB7 hG7 a1;have E : Hid (parse d (l.drop p) cnt = .ok (.mk 2 0 s []) (k + n) (cnt + 1)) := by rw [Hid, E1.out, if_neg (fun h => absurd h.1 (by omega))]
   have IB := hi6;clear E1;go_wp2_with (with_reducible refine stop_store ?_)
   refine stI hT7 fun wz hTy hgz => ?_
   have hdz := hd7.gb hn7 (Nat.le_refl _) hgl hgz;go_wp2_with fail
   refine ret_row_tmp rfl rfl hTy rfl rfl size_item rfl ?_
   exact ItemOut.ok E.out rfl (by rw [← Nat.add_assoc, HK.out.2.2.2]; exact hdz) (IsItem.str 2 (by omega) IB)
theorem p_item_3 (hTab : Tabs H) (hlv : lv + d = 8) (hP : Psr 107 w g H A c l p cnt) (hc : cnt < 256) {f n k : Nat} (hh : headP (l.drop p) = .ok (f, n, k)) (hk : f / 32 = 3) : Calls Tryz.prog 58 #[.pointer (some ⟨g, 0, none⟩), .int .i64 (lv : Int)] w (ItemOut 107 w H g A c l p (parse d (l.drop p) cnt)) := by
 have hgl := hP.gt;have hd0 := (Rdg.refl hP).alloc zeroO;have hT0 := Blk.new w 75 #[.int .i64 0, .int .u64 0, .slice none 0 0, .slice none 0 0];have hn0 : H w.heap.size = none := hP.holds.none_of_ge (Nat.le_refl _);have c2 := hd0.psr.blk.cell 2 rfl
 have E0 : Hid (parse d (l.drop p) cnt = (if (l.drop p).length < k + n then .err 2 else if 3 = 3 ∧ Lib.validD (((l.drop p).drop k).take n) = false then .err 5 else .ok (.mk 3 0 (((l.drop p).drop k).take n) []) (k + n) (cnt + 1))) := by
  rw [Hid, parse_str d (l.drop p) cnt (by omega) hh (by omega) (by omega), hk]; first | rfl | (simp only [true_and]; first | done | rfl) | simp
 have S : (f : Int) / 32 = 3 := by omega
 have hc256 : ((cnt : Int) == 256) = false := by simp; omega
 have hc256' : ((cnt : Int) = 256) = False := eq_false (by omega);have KC : IntKind.i64.wrap ((cnt : Int) + 1) = (cnt : Int) + 1 := IntWalk.i64_in _ (by omega);have HC := Hh hc;clear hc;go_enter Tryz.func58, Tryz.ntmps58
 go_wp2_with (with_reducible refine stop_store ?_)
 refine wpList_store_cell rfl _ _ _ rfl rfl g 2 (.int .i64 ((cnt : Int) + 1)) rfl rfl _ _ hd0.psr.blk size_int1 (by simp) rfl fun w2 hB2 hG2 => ?_
 have hd2 : Rdg 107 w H w2 H g A c l p (cnt + 1) := hd0.step hG2 hB2 hP.le (by have := HC.out; omega);have hT2 := hT0.gr hG2 (by omega);have PH := Hh (p_head hd2.psr);clear hd0 hT0 hB2 hG2 c2 KC hc256 hc256';go_wp2_with fail
 refine PH.out.mono ?_
 intro e w3 hs
 rw [HeadSaid, hh] at hs;obtain ⟨rfl, hB3, hG3⟩ := hs;have HS := headP_spec hh;have hle3 : p + k ≤ l.length := by have := HS.le; rw [List.length_drop] at this; have := hP.le; omega
 have hd3 : Rdg 107 w H w3 H g A c l (p + k) (cnt + 1) := hd2.step hG3 hB3 hle3 (by have := HC.out; omega);have hT3 := hT2.gr hG3 (by omega);have HF := Hh HS;clear hd2 hT2 hB3 hG3 PH HS hh;have hpos := HF.out.pos;obtain ⟨b, off, rfl, HCELL0⟩ := hd3.psr.bytes.at_ (by omega);have hsm := hd3.psr.small;have hcl := hd3.psr.bytes.le;have hcm := hd3.psr.bytes.max;have hnl := HF.out.n_lt;have hdl : (l.drop p).length = l.length - p := List.length_drop;obtain ⟨P, hPk⟩ : ∃ P, p + k = P := ⟨_, rfl⟩
 obtain ⟨s, hss⟩ : ∃ s, ((l.drop p).drop k).take n = s := ⟨_, rfl⟩
 rw [hss] at E0;rw [List.drop_drop, hPk] at hss;rw [hPk] at hd3 hle3;have K1 : IntKind.i64.wrap ((l.length : Int) - (P : Int)) = (l.length : Int) - (P : Int) := IntWalk.i64_in _ (by omega);have K2 : IntKind.u64.wrap ((l.length : Int) - (P : Int)) = (l.length : Int) - (P : Int) := by rw [IntKind.wrap_u64]; omega
 have a0 := hd3.psr.blk.cell 0 rfl;have a1 := hd3.psr.blk.cell 1 rfl;have hPl : (P : Int) ≤ (l.length : Int) := by omega
 have hll : (l.length : Int) ≤ 4096 := by omega
 by_cases hlt : l.length < P + n
 ·have z0 : (l.length : Int) - (P : Int) < (n : Int) := by omega
  have E : Hid (parse d (l.drop p) cnt = .err 2) := by rw [Hid, E0.out, if_pos (by omega)]
  clear hsm hcl hcm hnl hdl hPk hss E0 hlt HCELL0;go_wp2_with fail
  go_big_quiet (fail)
  have hd4 := hd3.drewN nq;have hT4 : Blk (w3.drewN nq) w.heap.size 75 #[.int .i64 0, .int .u64 0, .slice none 0 0, .slice none 0 0] := hT3;go_wp2_with (with_reducible refine stop_store ?_)
  refine stI hT4 fun wz hTy hgz => ?_
  have hdz := hd4.gb hn0 (Nat.le_refl _) hgl hgz;go_wp2_with fail
  refine ret_row_tmp rfl rfl hTy rfl rfl size_item rfl ?_
  exact ItemOut.err E.out rfl hdz
 ·have z0 : ¬ ((l.length : Int) - (P : Int) < (n : Int)) := by omega
  have z0b : decide ((l.length : Int) - (P : Int) < (n : Int)) = false := decide_eq_false z0;have E1 : Hid (parse d (l.drop p) cnt = (if 3 = 3 ∧ Lib.validD s = false then .err 5 else .ok (.mk 3 0 s []) (k + n) (cnt + 1))) := by rw [Hid, E0.out, if_neg (by omega)]; try simp
  have hsn : n = s.length := by rw [← hss, List.length_take, List.length_drop]; omega
  have HSN := Hh hsn;clear hsn;have KN : IntKind.i64.wrap (n : Int) = (n : Int) := IntWalk.i64_in _ (by omega);have KP : IntKind.i64.wrap ((P : Int) + (n : Int)) = (P : Int) + (n : Int) := IntWalk.i64_in _ (by omega);have kt : ((P : Int) + (n : Int)).toNat = P + n := by omega
  have y0 : (0 : Int) ≤ (P : Int) + (n : Int) := by omega
  have y5 : P ≤ P + n := by omega
  have y6 : P + n - P = n := by omega
  have y1 : (P : Int) ≤ (P : Int) + (n : Int) := by omega
  have y2 : (P : Int) + (n : Int) ≤ (c : Int) := by omega
  have y3 : (P : Int) ≤ (c : Int) := by omega
  have y4 : (0 : Int) ≤ (P : Int) := by omega
  have HK := Hh (And.intro hsm (And.intro hcl (And.intro hcm hPk)));go_wp2_with fail
  go_big_quiet (fail)
  have hd4' := hd3.drewN nq;have hT4' : Blk (w3.drewN nq) w.heap.size 75 #[.int .i64 0, .int .u64 0, .slice none 0 0, .slice none 0 0] := hT3
  generalize w3.drewN nq = w4 at hd4' hT4' ⊢
  obtain ⟨hd4, hT4⟩ := And.intro hd4' hT4';clear hd4' hT4' hd3 hT3 a0 a1 E0 z0 z0b;have HCELL : ∀ j (hj : j < l.length), w4.cell? ⟨b, off + j, none⟩ = some (byteV l[j]) := fun j hj => hd4.psr.holds.cell (HCELL0 j hj)
  by_cases hcp : c = P
  ·have hcp' : P = c := hcp.symm;subst hcp';clear hcp;have hd4d : Rdg 107 w H w4.drew H g (some ⟨b, off, none⟩) P l P (cnt + 1) := hd4.drewN 1;have hT4d : Blk w4.drew w.heap.size 75 #[.int .i64 0, .int .u64 0, .slice none 0 0, .slice none 0 0] := hT4;have CL := Hh (bytes_Clone w4.drew (some ⟨b, off, none⟩) s n 0 HSN.out (by have := HSN.out; omega) (by have hz : s = [] := List.eq_nil_of_length_eq_zero (by have := HSN.out; omega); rw [hz]; exact Src.nil _ _));have a0 := hd4.psr.blk.cell 0 rfl;have a1 := hd4.psr.blk.cell 1 rfl;clear hd4 hT4;go_upto_region 16 with fail
   refine wp_region_ways 17 (fun w' => w'.cell? ⟨g, 0, none⟩ = some (.slice (some ⟨b, off, none⟩) l.length P) ∧ w'.cell? ⟨g, 1, none⟩ = some (.int .i64 (P : Int))) (by kernel_rfl) (⟨a0, a1⟩) (fun hHeld => ?_)
   refine Tk 0 rfl hHeld ?_
   refine Tk 1 rfl hHeld ?_
   refine Tk 2 rfl hHeld ?_
   refine Tk 3 rfl hHeld ?_
   refine Tk 4 rfl hHeld ?_
   refine Tk 5 rfl hHeld ?_
   refine Tk 6 rfl hHeld ?_
   refine Tk 7 rfl hHeld ?_
   refine Tk 8 rfl hHeld ?_
   refine Tk 9 rfl hHeld ?_
   refine Tk 10 rfl hHeld ?_
   refine Tk 11 rfl hHeld ?_
   refine Tk 12 rfl hHeld ?_
   refine Tk 13 rfl hHeld ?_
   refine Tk 14 rfl hHeld ?_
   refine Tk 15 rfl hHeld ?_
   refine To 16 rfl fun K hK => ?_
   go_simp
   refine CL.out.mono ?_
   rintro e w5 ⟨r5, rfl, hf5⟩
   obtain ⟨RA, rc, rfl, _⟩ := hf5.own.form;have hd5 := hd4d.below_ hf5.2
   refine Ko hK ?_ fun hHeld => ?_
   ·exact ⟨hd5.psr.blk.cell 0 rfl, hd5.psr.blk.cell 1 rfl⟩
   clear hK K
   refine To 17 rfl fun K hK => ?_
   go_simp
   refine Kz hK ?_
   clear hK K
   refine Wd ?_
   clear hHeld CL a0 a1;have hT5 := hT4d.below hf5.2;obtain ⟨H6, hG6, hi6, _⟩ := Fresh.snapB hd4d.psr.holds hf5;have hd6 := hd4d.grown hG6;have hn6 := hG6.none hn0 hT4d.lt;clear hd5 hf5 hd4d hT4d;have a1 := hd6.psr.blk.cell 1 rfl;go_wp2_with (with_reducible refine stop_store ?_)
   refine wpList_store_cell rfl _ _ _ rfl rfl g 1 (.int .i64 ((P : Int) + (n : Int))) rfl rfl _ _ hd6.psr.blk size_int1 (by simp) rfl fun w7 hB7 hG7 => ?_
   have hd7 : Rdg 107 w H w7 H6 g (some ⟨b, off, none⟩) P l (P + n) (cnt + 1) := hd6.step hG7 hB7 (by omega) (by have := HC.out; omega);have hT7 := hT5.gr hG7 (by omega);have hn7 := hn6;clear hd6 hT5 hB7 hG7 a1;have IB := hi6;have UV := Hh (utf8_Valid (hTab.mono hG6.le) w7 hd7.psr.holds RA s s.length rc rfl hi6)
   cases hv : Lib.validD s with
   | false =>
    rw [hv] at UV;have E : Hid (parse d (l.drop p) cnt = .err 5) := by rw [Hid, E1.out, if_pos (by first | exact ⟨rfl, hv⟩ | exact ⟨trivial, hv⟩)]
    clear hv E1;go_wp2_with fail
    refine UV.out.mono ?_
    rintro e w8 ⟨rfl, hb8⟩
    have hd8 := hd7.below_ hb8;have hT8 := hT7.below hb8;clear UV hd7 hT7;go_wp2_with (with_reducible refine stop_store ?_)
    refine stI hT8 fun wz hTy hgz => ?_
    have hdz := hd8.gb hn7 (Nat.le_refl _) hgl hgz;go_wp2_with fail
    refine ret_row_tmp rfl rfl hTy rfl rfl size_item rfl ?_
    exact ItemOut.err E.out rfl hdz
   | true =>
    rw [hv] at UV;have E : Hid (parse d (l.drop p) cnt = .ok (.mk 3 0 s []) (k + n) (cnt + 1)) := by rw [Hid, E1.out, if_neg (fun h => by rw [hv] at h; cases h.2)]
    clear hv E1;go_wp2_with fail
    refine UV.out.mono ?_
    rintro e w8 ⟨rfl, hb8⟩
    have hd8 := hd7.below_ hb8;have hT8 := hT7.below hb8;clear UV hd7 hT7;go_wp2_with (with_reducible refine stop_store ?_)
    refine stI hT8 fun wz hTy hgz => ?_
    have hdz := hd8.gb hn7 (Nat.le_refl _) hgl hgz;go_wp2_with fail
    refine ret_row_tmp rfl rfl hTy rfl rfl size_item rfl ?_
    exact ItemOut.ok E.out rfl (by rw [← Nat.add_assoc, HK.out.2.2.2]; exact hdz) (IsItem.str 3 (by omega) IB)
  ·have hcpF : (c = P) = False := eq_false hcp;have hd4d : Rdg 107 w H w4.drew H g (some ⟨b, off, none⟩) c l P (cnt + 1) := hd4.drewN 1;have hT4d : Blk w4.drew w.heap.size 75 #[.int .i64 0, .int .u64 0, .slice none 0 0, .slice none 0 0] := hT4;have CL := Hh (bytes_Clone w4.drew (some ⟨b, off + P, none⟩) s n (c - P) HSN.out (by have := HSN.out; omega) ((by have hq := src_sub (w := w4.drew) (n := n) HCELL P (some ⟨b, off + P, none⟩) (fun _ => rfl) (by omega); rw [hss] at hq; exact hq)));have a0 := hd4.psr.blk.cell 0 rfl;have a1 := hd4.psr.blk.cell 1 rfl;clear hd4 hT4;go_upto_region 16 with fail
   refine wp_region_ways 17 (fun w' => w'.cell? ⟨g, 0, none⟩ = some (.slice (some ⟨b, off, none⟩) l.length c) ∧ w'.cell? ⟨g, 1, none⟩ = some (.int .i64 (P : Int))) (by kernel_rfl) (⟨a0, a1⟩) (fun hHeld => ?_)
   refine Tk 0 rfl hHeld ?_
   refine Tk 1 rfl hHeld ?_
   refine Tk 2 rfl hHeld ?_
   refine Tk 3 rfl hHeld ?_
   refine Tk 4 rfl hHeld ?_
   refine Tk 5 rfl hHeld ?_
   refine Tk 6 rfl hHeld ?_
   refine Tk 7 rfl hHeld ?_
   refine Tk 8 rfl hHeld ?_
   refine Tk 9 rfl hHeld ?_
   refine Tk 10 rfl hHeld ?_
   refine Tk 11 rfl hHeld ?_
   refine Tk 12 rfl hHeld ?_
   refine Tk 13 rfl hHeld ?_
   refine Tk 14 rfl hHeld ?_
   refine Tk 15 rfl hHeld ?_
   refine To 16 rfl fun K hK => ?_
   go_simp
   refine CL.out.mono ?_
   rintro e w5 ⟨r5, rfl, hf5⟩
   obtain ⟨RA, rc, rfl, _⟩ := hf5.own.form;have hd5 := hd4d.below_ hf5.2
   refine Ko hK ?_ fun hHeld => ?_
   ·exact ⟨hd5.psr.blk.cell 0 rfl, hd5.psr.blk.cell 1 rfl⟩
   clear hK K
   refine To 17 rfl fun K hK => ?_
   go_simp
   refine Kz hK ?_
   clear hK K
   refine Wd ?_
   clear hHeld CL a0 a1;have hT5 := hT4d.below hf5.2;obtain ⟨H6, hG6, hi6, _⟩ := Fresh.snapB hd4d.psr.holds hf5;have hd6 := hd4d.grown hG6;have hn6 := hG6.none hn0 hT4d.lt;clear hd5 hf5 hd4d hT4d;have a1 := hd6.psr.blk.cell 1 rfl;go_wp2_with (with_reducible refine stop_store ?_)
   refine wpList_store_cell rfl _ _ _ rfl rfl g 1 (.int .i64 ((P : Int) + (n : Int))) rfl rfl _ _ hd6.psr.blk size_int1 (by simp) rfl fun w7 hB7 hG7 => ?_
   have hd7 : Rdg 107 w H w7 H6 g (some ⟨b, off, none⟩) c l (P + n) (cnt + 1) := hd6.step hG7 hB7 (by omega) (by have := HC.out; omega);have hT7 := hT5.gr hG7 (by omega);have hn7 := hn6;clear hd6 hT5 hB7 hG7 a1;have IB := hi6;have UV := Hh (utf8_Valid (hTab.mono hG6.le) w7 hd7.psr.holds RA s s.length rc rfl hi6)
   cases hv : Lib.validD s with
   | false =>
    rw [hv] at UV;have E : Hid (parse d (l.drop p) cnt = .err 5) := by rw [Hid, E1.out, if_pos (by first | exact ⟨rfl, hv⟩ | exact ⟨trivial, hv⟩)]
    clear hv E1;go_wp2_with fail
    refine UV.out.mono ?_
    rintro e w8 ⟨rfl, hb8⟩
    have hd8 := hd7.below_ hb8;have hT8 := hT7.below hb8;clear UV hd7 hT7;go_wp2_with (with_reducible refine stop_store ?_)
    refine stI hT8 fun wz hTy hgz => ?_
    have hdz := hd8.gb hn7 (Nat.le_refl _) hgl hgz;go_wp2_with fail
    refine ret_row_tmp rfl rfl hTy rfl rfl size_item rfl ?_
    exact ItemOut.err E.out rfl hdz
   | true =>
    rw [hv] at UV;have E : Hid (parse d (l.drop p) cnt = .ok (.mk 3 0 s []) (k + n) (cnt + 1)) := by rw [Hid, E1.out, if_neg (fun h => by rw [hv] at h; cases h.2)]
    clear hv E1;go_wp2_with fail
    refine UV.out.mono ?_
    rintro e w8 ⟨rfl, hb8⟩
    have hd8 := hd7.below_ hb8;have hT8 := hT7.below hb8;clear UV hd7 hT7;go_wp2_with (with_reducible refine stop_store ?_)
    refine stI hT8 fun wz hTy hgz => ?_
    have hdz := hd8.gb hn7 (Nat.le_refl _) hgl hgz;go_wp2_with fail
    refine ret_row_tmp rfl rfl hTy rfl rfl size_item rfl ?_
    exact ItemOut.ok E.out rfl (by rw [← Nat.add_assoc, HK.out.2.2.2]; exact hdz) (IsItem.str 3 (by omega) IB)
end
end Go.Proofs.YtgaoknihklmakaaGreatDoor
