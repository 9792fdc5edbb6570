/- squeezed. Walks: cbor.checker.spend. Walks:  -/
import Derived.Test.YtmacemcajlgddaaGreatDoorK10
import Derived.Test.YtmacemcajlgddaaGreatDoorK01
import Derived.Test.YtmacemcajlgddaaGreatDoorK04
import Derived.Deep.DeepCutAuto
set_option linter.unusedVariables false
set_option linter.unusedSimpArgs false
set_option maxRecDepth 100000
set_option maxHeartbeats 3200000
namespace Go.Proofs.YtmacemcajlgddaaGreatDoor
open Go.RowKit
abbrev Chk (w : World) (g : Nat) (i s : Int) : Prop := Blk w g 94 #[.int .i64 i, .int .i64 s]
theorem spend_float {H : Snap} {x : Itm} {ba : Option Addr} {bc : Nat} {ia : Option Addr} {ic : Nat} (hx : IsItem H ba bc ia ic x) (w : World) (g : Nat) (i s : Int) (hc : Chk w g i s) (h8 : x.kind = 8) (hs0 : 0 ≤ s) (hs1 : s ≤ 1099511627776) :
  Calls Tryz.prog 89 #[.pointer (some ⟨g, 0, none⟩), itemV x ba bc ia ic] w fun e w' => e = .returned (.bool (decide (s + spendP x ≤ 4096))) ∧ Chk w' g i (s + spendP x) ∧ w.grownBy w' (some g) := by
 have hfl := floatB_length x.n;have E : Hid (spendP x = (floatB x.n).length) := by simp [Hid, spendP, h8]
 obtain ⟨_, _, hn, _⟩ := hx.bounds;have HN : U64 x.n := ⟨by omega, by omega⟩
 have hlt := hc.lt;have hB := Blk.new w 54 #[.int .i64 8, .int .u64 x.n, .slice ba x.bytes.length bc, .slice ia x.items.length ic];have hC := hc.alloc (.cells #[.int .i64 8, .int .u64 x.n, .slice ba x.bytes.length bc, .slice ia x.items.length ic] 54);clear hx hn;go_enter Tryz.func89, Tryz.ntmps89
 go_wp2_with fail
 refine wp_region_ways 11 (fun w' => w'.cell? ⟨g, 1, none⟩ = some (.int .i64 s) ∧ w'.cell? ⟨w.heap.size, 1, none⟩ = some (.int .u64 x.n)) (by kernel_rfl) (⟨hC.cell 1 rfl, hB.cell 1 rfl⟩) (fun hHeld => ?_)
 refine Tk 0 rfl hHeld ?_
 refine Tk 1 rfl hHeld ?_
 refine Tk 2 rfl hHeld ?_
 refine Tk 3 rfl hHeld ?_
 refine Tk 4 rfl hHeld ?_
 refine Tk 5 rfl hHeld ?_
 refine To 6 rfl fun K hK => ?_
 go_simp
 refine (cbor_float _ _ HN.1 HN.2).mono ?_
 rintro e w1 ⟨r, rfl, hf⟩
 obtain ⟨A, c, rfl, _, _, _⟩ := hf.own.form;have hC1 := hC.drew.below hf.2
 refine hK.out _ _ (fun _ => ?_) (fun hHeld => ?_)
 ·exact ⟨hC1.cell 1 rfl, (hB.drew.below hf.2).cell 1 rfl⟩
 clear hK K;have hHeld := hHeld (by decide)
 try simp only [Act.put, zz4, zz5, zz6]
 refine Tk 7 rfl hHeld ?_
 refine Tk 8 rfl hHeld ?_
 refine Tk 9 rfl hHeld ?_
 refine Tk 10 rfl hHeld ?_
 refine To 11 rfl fun K hK => ?_
 have d1 := hC1.cell 1 rfl;have d2 := hC1.frozen 1;go_simp
 refine hK.out _ _ (fun h => absurd rfl h) (fun _ => ?_)
 clear hK K
 try simp only [Act.put, zz4, zz5, zz6]
 refine Ways.done (by kernel_rfl) ?_
 all_goals
  have hw : Hid (IntKind.i64.wrap (s + ((floatB x.n).length : Int)) = s + (spendP x : Int)) := by rw [Hid, E.out]; exact IntWalk.i64_in _ (by omega)
  have R : Chk (w1.setCell ⟨g, 1, none⟩ (.int .i64 (s + (spendP x : Int)))) g i (s + (spendP x : Int)) ∧ w.grownBy (w1.setCell ⟨g, 1, none⟩ (.int .i64 (s + (spendP x : Int)))) (some g) :=
   ⟨(hC.drew.below hf.2).set_ 1 _, grown_set (grown_below (grown_drew (grown_alloc (grown_refl w _) _)) hf.2) (.inl rfl) _⟩
  rw [hw.out];have e1 := R.1.cell 1 rfl;clear d1 d2;go_wp2
  go_ret
  exact ⟨rfl, R⟩
theorem spend_simple {x : Itm} {ba : Option Addr} {bc : Nat} {ia : Option Addr} {ic : Nat} (w : World) (g : Nat) (i s : Int) (hc : Chk w g i s) (h7 : x.kind = 7) (hs0 : 0 ≤ s) (hs1 : s ≤ 1099511627776) :
  Calls Tryz.prog 89 #[.pointer (some ⟨g, 0, none⟩), itemV x ba bc ia ic] w fun e w' => e = .returned (.bool (decide (s + spendP x ≤ 4096))) ∧ Chk w' g i (s + spendP x) ∧ w.grownBy w' (some g) := by
 have hlt := hc.lt;have c1 := hc.cell 1 rfl;have f1 := hc.frozen 1
 by_cases h24 : (24 : Int) ≤ (x.n : Int)
 ·have E : Hid ((spendP x : Int) = 2) := by
   have : 24 ≤ x.n := by omega
   simp [Hid, spendP, h7, this]
  have d1 := (hc.set_ 1 (.int .i64 (s + 1))).cell 1 rfl;have g1 := (hc.set_ 1 (.int .i64 (s + 1))).frozen 1;go_enter Tryz.func89, Tryz.ntmps89
  go_wp2
  go_ret
  have e : s + 1 + 1 = s + (spendP x : Int) := by rw [E.out]; omega
  rw [← e]
  exact ⟨rfl, ((hc.set_ 1 _).set_ 1 _).alloc _, grown_alloc (grown_set (grown_set (grown_refl w _) (.inl rfl) _) (.inl rfl) _) _⟩
 ·have E : Hid ((spendP x : Int) = 1) := by
   have : ¬ 24 ≤ x.n := by omega
   simp [Hid, spendP, h7, this]
  have d1 := (hc.set_ 1 (.int .i64 (s + 1))).cell 1 rfl;go_enter Tryz.func89, Tryz.ntmps89
  go_wp2
  go_ret
  have e : s + 1 = s + (spendP x : Int) := by rw [E.out]
  rw [← e]
  exact ⟨rfl, (hc.set_ 1 _).alloc _, grown_alloc (grown_set (grown_refl w _) (.inl rfl) _) _⟩
theorem spend_more {H : Snap} {x : Itm} {ba : Option Addr} {bc : Nat} {ia : Option Addr} {ic : Nat} (hx : IsItem H ba bc ia ic x) (w : World) (g : Nat) (i s : Int) (hc : Chk w g i s) (h0 : 0 ≤ x.kind) (h7 : x.kind < 7) (hs0 : 0 ≤ s) (hs1 : s ≤ 1099511627776) (hbl : x.bytes.length ≤ 1099511627776) :
  Calls Tryz.prog 89 #[.pointer (some ⟨g, 0, none⟩), itemV x ba bc ia ic] w fun e w' => e = .returned (.bool (decide (s + spendP x ≤ 4096))) ∧ Chk w' g i (s + spendP x) ∧ w.grownBy w' (some g) := by
 have hlt := hc.lt
 have hN0 : (numP x : Int) < 18446744073709551616 := by
  have := hx.bounds
  unfold numP
  repeat' split
  all_goals omega
 have HN : U64 (numP x) := ⟨by omega, hN0⟩
 have hb9 := headB_le x.kind.toNat (numP x);have E : Hid (spendP x = (headB x.kind.toNat (numP x)).length + x.bytes.length) := by rw [Hid, spendP, if_neg (by omega), if_neg (by omega)]
 have b7 : (x.kind == 7) = false := by simp; omega
 have b8 : (x.kind == 8) = false := by simp; omega
 have hB := Blk.new w 54 #[.int .i64 x.kind, .int .u64 x.n, .slice ba x.bytes.length bc, .slice ia x.items.length ic];have hC := hc.alloc (.cells #[.int .i64 x.kind, .int .u64 x.n, .slice ba x.bytes.length bc, .slice ia x.items.length ic] 54);clear hN0;go_enter Tryz.func89, Tryz.ntmps89
 go_wp2_with fail
 refine wp_region_ways 17 (fun w' => w'.cell? ⟨g, 1, none⟩ = some (.int .i64 s) ∧ w'.cell? ⟨w.heap.size, 0, none⟩ = some (.int .i64 x.kind) ∧ w'.cell? ⟨w.heap.size, 1, none⟩ = some (.int .u64 x.n) ∧ w'.cell? ⟨w.heap.size, 2, none⟩ = some (.slice ba x.bytes.length bc) ∧ w'.cell? ⟨w.heap.size, 3, none⟩ = some (.slice ia x.items.length ic)) (by kernel_rfl) (⟨hC.cell 1 rfl, hB.cell 0 rfl, hB.cell 1 rfl, hB.cell 2 rfl, hB.cell 3 rfl⟩) (fun hHeld => ?_)
 refine Tk 0 rfl hHeld ?_
 refine Tk 1 rfl hHeld ?_
 refine Tk 2 rfl hHeld ?_
 refine Tk 3 rfl hHeld ?_
 refine Tk 4 rfl hHeld ?_
 refine Tk 10 rfl hHeld ?_
 refine Tk 11 rfl hHeld ?_
 refine Tk 12 rfl hHeld ?_
 refine To 5 rfl fun K hK => ?_
 go_simp
 refine (cbor_major hx.arg _ (by omega) (by omega)).mono ?_
 rintro e w1 ⟨rfl, hm⟩
 have hB1 := hB.drew.below hm;have hC1 := hC.drew.below hm
 refine hK.out _ _ (fun _ => ?_) (fun hHeld => ?_)
 ·exact ⟨hC1.cell 1 rfl, hB1.cell 0 rfl, hB1.cell 1 rfl, hB1.cell 2 rfl, hB1.cell 3 rfl⟩
 clear hK K;have hHeld := hHeld (by decide)
 try simp only [Act.put, zz4, zz5, zz6]
 refine Tk 6 rfl hHeld ?_
 refine Tk 7 rfl hHeld ?_
 refine To 8 rfl fun K hK => ?_
 go_simp
 refine (cbor_head _ _ _ (by omega) (by omega) (by omega) HN.2).mono ?_
 rintro e w2 ⟨r, rfl, hf⟩
 obtain ⟨A, c, rfl, _, _, _⟩ := hf.own.form;have hB2 := hB1.below hf.2;have hC2 := hC1.below hf.2
 refine hK.out _ _ (fun _ => ?_) (fun hHeld => ?_)
 ·exact ⟨hC2.cell 1 rfl, hB2.cell 0 rfl, hB2.cell 1 rfl, hB2.cell 2 rfl, hB2.cell 3 rfl⟩
 clear hK K;have hHeld := hHeld (by decide)
 try simp only [Act.put, zz4, zz5, zz6]
 refine Tk 9 rfl hHeld ?_
 refine Tk 13 rfl hHeld ?_
 refine Tk 14 rfl hHeld ?_
 refine Tk 15 rfl hHeld ?_
 refine Tk 16 rfl hHeld ?_
 refine To 17 rfl fun K hK => ?_
 have d1 := hC2.cell 1 rfl;have d2 := hC2.frozen 1;go_simp
 refine hK.out _ _ (fun h => absurd rfl h) (fun _ => ?_)
 clear hK K
 try simp only [Act.put, zz4, zz5, zz6]
 refine Ways.done (by kernel_rfl) ?_
 have hw : Hid (IntKind.i64.wrap (s + IntKind.i64.wrap (((headB x.kind.toNat (numP x)).length : Int) + (x.bytes.length : Int))) = s + (spendP x : Int)) := by
  rw [Hid, E.out, IntWalk.i64_in (((headB x.kind.toNat (numP x)).length : Int) + (x.bytes.length : Int)) (by omega), IntWalk.i64_in _ (by omega)]
  omega
 have R : Chk (w2.setCell ⟨g, 1, none⟩ (.int .i64 (s + (spendP x : Int)))) g i (s + (spendP x : Int)) ∧ w.grownBy (w2.setCell ⟨g, 1, none⟩ (.int .i64 (s + (spendP x : Int)))) (some g) :=
  ⟨hC2.set_ 1 _, grown_set (grown_below (grown_below (grown_drew (grown_alloc (grown_refl w _) _)) hm) hf.2) (.inl rfl) _⟩
 rw [Int.toNat_natCast] at *;rw [hw.out];have e1 := R.1.cell 1 rfl;clear d1 d2;go_wp2
 go_ret
 exact ⟨rfl, R⟩
theorem cbor_spend {H : Snap} {k n : Int} {ba : Option Addr} {bl bc : Nat} {ia : Option Addr} {il ic : Nat} {x : Itm} (hx : ItemA H k n ba bl bc ia il ic x) (w : World) (g : Nat) (i s : Int) (hc : Chk w g i s)
  (h0 : 0 ≤ x.kind) (h8 : x.kind ≤ 8) (hs0 : 0 ≤ s) (hs1 : s ≤ 1099511627776) (hbl : x.bytes.length ≤ 1099511627776) :
  Calls Tryz.prog 89 #[.pointer (some ⟨g, 0, none⟩), .agg #[.int .i64 k, .int .u64 n, .slice ba bl bc, .slice ia il ic]] w
   fun e w' => e = .returned (.bool (decide (s + spendP x ≤ 4096))) ∧ Chk w' g i (s + spendP x) ∧ w.grownBy w' (some g) := by
 obtain ⟨rfl, rfl, rfl, rfl, hx⟩ := hx
 by_cases h : x.kind = 8
 ·exact spend_float hx w g i s hc h hs0 hs1
 by_cases h7 : x.kind = 7
 ·exact spend_simple w g i s hc h7 hs0 hs1
 ·exact spend_more hx w g i s hc h0 (by omega) hs0 hs1 hbl
theorem cbor_ascending {H : Snap} (l : List Itm) (b off : Nat) (A : Option Addr) (ic : Nat) (w : World) (hA : 0 < l.length → A = some ⟨b, off, none⟩ ∧ IsElems H b off l) (hH : Holds w H) (hk : KindsL l)
  (hlen : ∀ k (h : k < l.length), (encB l[k]).length ≤ 1099511627776) (n : Nat) (hn : n = l.length) (hnn : n ≤ 1099511627776) :
  Calls Tryz.prog 90 #[.slice A n ic] w fun e w' => e = .returned (.bool (ascP l)) ∧ Below w.heap.size w w' := by
 obtain ⟨ans, hans⟩ : ∃ b, ascP l = b := ⟨_, rfl⟩
 rw [hans];have HAns := Hh hans;have HNn := Hh hn;have HLen := Hh hlen;have HAA := Hh hA;clear hans hn hlen hA;go_enter Tryz.func90, Tryz.ntmps90
 go_wp2
 go_loopw [3] (fun i wr => ∃ j : Nat, 2 ≤ j ∧ i = .int .i64 j ∧ j ≤ n + 2 ∧ ascP (l.drop (j - 2)) = ans ∧ Below w.heap.size w wr) (fun i _ => (n + 2 - intOf i).toNat)
 case atStart => exact ⟨2, Nat.le_refl _, rfl, by omega, by simpa using HAns.out, Below.refl _ _⟩
 case round =>
  obtain ⟨j, h2, rfl, hj, hasc, hb⟩ := hrel
  by_cases hlt : j < n
  ·have hn := HNn.out;obtain ⟨hA, hel⟩ := HAA.out (by omega);have hstep := ascP_drop l j h2 (by omega);obtain ⟨y1, y2, y3, y4, p0, p1, p2, p3, hy⟩ := hel.get (j - 2) (by omega);obtain ⟨z1, z2, z3, z4, q0, q1, q2, q3, hz⟩ := hel.get j (by omega);have hky := hk.get (j - 2) (by omega);have hkz := hk.get j (by omega);have hly := HLen.out (j - 2) (by omega);have hlz := HLen.out j (by omega)
   generalize l[j - 2]'(by omega) = y at *
   generalize l[j]'(by omega) = z at *
   have hi0 : (0 : Int) ≤ (j : Int) - 2 := by omega
   have hi1 : (j : Int) - 2 < (n : Int) := by omega
   have hi3 : (2 : Int) ≤ (j : Int) := by omega
   have hi2 : (j : Int) < (n : Int) := by omega
   subst hA;have HST := Hh hstep;have HASC := Hh hasc;have HSZ : Hid (w.heap.size ≤ wr.heap.size) := hb.size;have hHr : Holds wr H := hH.below hb (Nat.le_refl _);have hH0 : Holds wr.drew H := hHr.drew;have hw1 : IntKind.i64.wrap ((j : Int) - 2) = (j : Int) - 2 := IntWalk.i64_in _ (by omega);have hw2 : ((j : Int) - 2).toNat = j - 2 := by omega
   clear hstep hasc hn hel;go_wp2_with fail
   refine wp_region_ways 12 (fun w' => w'.cell? ⟨b, off + (j - 2) * 4, none⟩ = some (.int .i64 y.kind) ∧ w'.cell? ⟨b, off + (j - 2) * 4 + 1, none⟩ = some (.int .u64 y.n) ∧ w'.cell? ⟨b, off + (j - 2) * 4 + 2, none⟩ = some (.slice y1 y.bytes.length y2) ∧ w'.cell? ⟨b, off + (j - 2) * 4 + 3, none⟩ = some (.slice y3 y.items.length y4) ∧ w'.cell? ⟨b, off + j * 4, none⟩ = some (.int .i64 z.kind) ∧ w'.cell? ⟨b, off + j * 4 + 1, none⟩ = some (.int .u64 z.n) ∧ w'.cell? ⟨b, off + j * 4 + 2, none⟩ = some (.slice z1 z.bytes.length z2) ∧ w'.cell? ⟨b, off + j * 4 + 3, none⟩ = some (.slice z3 z.items.length z4)) (by kernel_rfl) (⟨hHr.cell p0, hHr.cell p1, hHr.cell p2, hHr.cell p3, hHr.cell q0, hHr.cell q1, hHr.cell q2, hHr.cell q3⟩) (fun hHeld => ?_)
   refine Tk 0 rfl hHeld ?_
   refine Tk 1 rfl hHeld ?_
   refine Tk 2 rfl hHeld ?_
   refine Tk 3 rfl hHeld ?_
   refine Tk 4 rfl hHeld ?_
   refine Tk 6 rfl hHeld ?_
   refine Tk 7 rfl hHeld ?_
   refine Tk 8 rfl hHeld ?_
   refine Tk 9 rfl hHeld ?_
   refine To 5 rfl fun K hK => ?_
   go_simp
   refine (cbor_add y H _ _ _ _ _ _ _ _ _ w.heap.size (.slice none 0 0) [] hky hy.arg hH0 (OwnB.nil _ _) HSZ.out (by simp [Value.ownBlock]) (by simpa using hly)).mono ?_
   rintro e w1 ⟨r1, rfl, ho1, hg1, ha1⟩
   obtain ⟨A1, c1, rfl, _, _, hs1⟩ := ho1.form;have hb1 := grown_none hg1;have hH1 : Holds w1 H := hH0.below hb1 (Nat.le_refl _);have hz1 := hb1.size
   simp only [List.nil_append] at ho1 hs1
   refine hK.out _ _ (fun _ => ?_) (fun hHeld => ?_)
   ·exact ⟨hH1.cell p0, hH1.cell p1, hH1.cell p2, hH1.cell p3, hH1.cell q0, hH1.cell q1, hH1.cell q2, hH1.cell q3⟩
   clear hK K;have hHeld := hHeld (by decide)
   try simp only [Act.put, zz4, zz5, zz6]
   refine To 10 rfl fun K hK => ?_
   go_simp
   refine (cbor_add z H _ _ _ _ _ _ _ _ _ w.heap.size (.slice none 0 0) [] hkz hz.arg hH1 (OwnB.nil _ _) (Nat.le_trans HSZ.out hz1) (by simp [Value.ownBlock]) (by simpa using hlz)).mono ?_
   rintro e w2 ⟨r2, rfl, ho2, hg2, ha2⟩
   obtain ⟨A2, c2, rfl, _, _, hs2⟩ := ho2.form;have hb2 := grown_none hg2;have hH2 : Holds w2 H := hH1.below hb2 (Nat.le_refl _)
   simp only [List.nil_append] at ho2 hs2
   refine hK.out _ _ (fun _ => ?_) (fun hHeld => ?_)
   ·exact ⟨hH2.cell p0, hH2.cell p1, hH2.cell p2, hH2.cell p3, hH2.cell q0, hH2.cell q1, hH2.cell q2, hH2.cell q3⟩
   clear hK K;have hHeld := hHeld (by decide)
   try simp only [Act.put, zz4, zz5, zz6]
   refine To 11 rfl fun K hK => ?_
   go_simp
   refine (bytes_Compare _ _ _ (encB y) (encB z) _ _ _ _ (by simp) (by simp) (hs1.below hb2) hs2).mono ?_
   rintro e w3 ⟨rfl, rfl⟩
   refine hK.out _ _ (fun _ => ?_) (fun hHeld => ?_)
   ·exact ⟨hH2.cell p0, hH2.cell p1, hH2.cell p2, hH2.cell p3, hH2.cell q0, hH2.cell q1, hH2.cell q2, hH2.cell q3⟩
   clear hK K;have hHeld := hHeld (by decide)
   try simp only [Act.put, zz4, zz5, zz6]
   refine To 12 rfl fun K hK => ?_
   go_simp
   refine hK.out _ _ (fun h => absurd rfl h) (fun _ => ?_)
   clear hK K
   try simp only [Act.put, zz4, zz5, zz6]
   refine Ways.done (by kernel_rfl) ?_
   have hbw := hb.drew.trans ((hb1.trans (hb2.mono hz1)).mono HSZ.out);have hcmp := Hh (And.intro HST.out HASC.out);clear HST HASC p0 p1 p2 p3 q0 q1 q2 q3 hHeld ho1 ho2 hg1 hg2 ha1 ha2 hs1 hs2
   generalize hcv : Lib.compareBytes (encB y) (encB z) = cv at *
   by_cases hc : (0 : Int) ≤ cv
   ·have ha : ans = false := by
     obtain ⟨h1, h2⟩ := hcmp.out;rw [← h2, h1];have : ¬ cv < 0 := by omega
     simp [this]
    have HAF := Hh ha;clear ha;go_wp2
    go_ret
    exact ⟨(by rw [HAF.out]; rfl), hbw⟩
   ·have ha : ascP (l.drop j) = ans := by
     obtain ⟨h1, h2⟩ := hcmp.out;rw [← h2, h1];have : cv < 0 := by omega
     simp [this]
    have HAF := Hh ha;clear ha;go_wp2
    go_roundw
    case rel => exact ⟨j + 2, by omega, by go_num, by omega, HAF.out, hbw⟩
    case measure => simp [intOf]; omega
  ·have hn := HNn.out;have hend := Hh (ascP_end l j h2 (by omega));have HASC := Hh hasc;clear hasc hn;go_wp2
   go_ret
   exact ⟨(by rw [← HASC.out, hend.out]; rfl), hb⟩
def Counts (w : World) (g : Nat) (o : Option (Nat × Nat)) (e : Ending) (w' : World) : Prop :=
 e = .returned (.bool o.isSome) ∧ w.grownBy w' (some g) ∧ ∃ i s : Int, Chk w' g i s ∧ ∀ p, o = some p → i = (p.1 : Int) ∧ s = (p.2 : Int)
def ItemSaid (x : Itm) : Prop := ∀ (H : Snap) (k n : Int) (ba : Option Addr) (bl bc : Nat) (ia : Option Addr) (il ic : Nat) (w : World) (g i s lv : Nat),
 Tabs H → ItemA H k n ba bl bc ia il ic x → Holds w H → H g = none → Chk w g i s → i ≤ 256 → s ≤ 4096 → lv ≤ 8 →
 Calls Tryz.prog 59 #[.pointer (some ⟨g, 0, none⟩), .agg #[.int .i64 k, .int .u64 n, .slice ba bl bc, .slice ia il ic], .int .i64 (lv : Int)] w (Counts w g (chk x lv i s))
theorem item_many (x : Itm) (i s lv : Nat) (h : 256 < i + 1 ∨ 4096 < x.bytes.length ∨ 256 < x.items.length) {H : Snap} {ba : Option Addr} {bc : Nat} {ia : Option Addr} {ic : Nat} (hx : IsItem H ba bc ia ic x) (w : World) (g : Nat)
  (hc : Chk w g i s) (hi : i ≤ 256) : Calls Tryz.prog 59 #[.pointer (some ⟨g, 0, none⟩), itemV x ba bc ia ic, .int .i64 (lv : Int)] w (Counts w g (chk x lv i s)) := by
 have E : Hid (chk x lv i s = none) := by rw [Hid, chk_eq, if_pos h]
 obtain ⟨_, _, _, hb1, hb2, hi1, hi2⟩ := hx.bounds;have hb : x.bytes.length ≤ 9223372036854775807 := by omega
 have hil : x.items.length ≤ 9223372036854775807 := by omega
 have hlt := hc.lt;have c0 := hc.cell 0 rfl;have f0 := hc.frozen 0;have c00 := (hc.set_ 0 (.int .i64 ((i : Int) + 1))).cell 0 rfl
 have R := Hh (And.intro ((hc.set_ 0 (.int .i64 ((i : Int) + 1))).alloc (.cells #[.int .i64 x.kind, .int .u64 x.n, .slice ba x.bytes.length bc, .slice ia x.items.length ic] 54))
  (grown_alloc (grown_set (grown_refl w (some g)) (.inl (rfl : (⟨g, 0, none⟩ : Addr).block = g)) (.int .i64 ((i : Int) + 1))) (.cells #[.int .i64 x.kind, .int .u64 x.n, .slice ba x.bytes.length bc, .slice ia x.items.length ic] 54)))
 have HH := Hh h;clear hx hb1 hb2 hi1 hi2 h;go_enter Tryz.func59, Tryz.ntmps59
 go_wp2_with fail
 all_goals first
  | (go_ret; exact ⟨by rw [E.out]; rfl, R.out.2, _, _, R.out.1, by rw [E.out]; intro p hp; cases hp⟩)
  | (exfalso; have := HH.out; omega)
abbrev boxed (w : World) (g : Nat) (i : Int) (x : Itm) (ba : Option Addr) (bc : Nat) (ia : Option Addr) (ic : Nat) : World :=
 (w.setCell ⟨g, 0, none⟩ (.int .i64 i)).alloc (.cells #[.int .i64 x.kind, .int .u64 x.n, .slice ba x.bytes.length bc, .slice ia x.items.length ic] 54)
theorem item_plain (x : Itm) (i s lv : Nat) (h1 : i + 1 ≤ 256) (h2 : x.bytes.length ≤ 4096) (h3 : x.items.length ≤ 256) (hp : isPlain x = true) {H : Snap} (hT : Tabs H) {ba : Option Addr} {bc : Nat} {ia : Option Addr} {ic : Nat} (hx : IsItem H ba bc ia ic x)
  (w : World) (hH : Holds w H) (g : Nat) (hg : H g = none) (hc : Chk w g i s) (hs : s ≤ 4096) :
  Calls Tryz.prog 59 #[.pointer (some ⟨g, 0, none⟩), itemV x ba bc ia ic, .int .i64 (lv : Int)] w (Counts w g (chk x lv i s)) := by
 have E : Hid (chk x lv i s = if okPlain x = true ∧ s + spendP x ≤ 4096 then some (i + 1, s + spendP x) else none) := by rw [Hid, chk_eq, if_neg (by omega), if_pos hp]
 have hk := (isPlain_iff x).1 hp;have hk0 : 0 ≤ x.kind := by omega
 have hk8 : x.kind ≤ 8 := by omega
 have hlt := hc.lt;have c0 := hc.cell 0 rfl;have f0 := hc.frozen 0;have c00 := (hc.set_ 0 (.int .i64 ((i : Int) + 1))).cell 0 rfl;have hC1 : Chk (boxed w g ((i : Int) + 1) x ba bc ia ic) g ((i : Int) + 1) s := (hc.set_ 0 _).alloc _
 have hB1 : Blk (boxed w g ((i : Int) + 1) x ba bc ia ic) w.heap.size 54 #[.int .i64 x.kind, .int .u64 x.n, .slice ba x.bytes.length bc, .slice ia x.items.length ic] := by
  have := Blk.new (w.setCell ⟨g, 0, none⟩ (.int .i64 ((i : Int) + 1))) 54 #[.int .i64 x.kind, .int .u64 x.n, .slice ba x.bytes.length bc, .slice ia x.items.length ic];rwa [show (w.setCell ⟨g, 0, none⟩ (.int .i64 ((i : Int) + 1))).heap.size = w.heap.size by simp [World.setCell]] at this
 have hG1 : w.grownBy (boxed w g ((i : Int) + 1) x ba bc ia ic) (some g) := grown_alloc (grown_set (grown_refl w (some g)) (.inl rfl) _) _;have hH1 : Holds (boxed w g ((i : Int) + 1) x ba bc ia ic) H := (hH.setCell hg _).alloc _;clear hk;have hxa := hx.arg;clear hx;go_enter Tryz.func59, Tryz.ntmps59
 go_wp2_with fail
 refine (cbor_plain hT hxa _ hH1).mono ?_
 rintro e w2 ⟨rfl, hb2⟩
 have hC2 := hC1.below hb2;have hB2 := hB1.below hb2;have hG2 := grown_below hG1 hb2;have b0 := hB2.cell 0 rfl;have b1 := hB2.cell 1 rfl;have b2 := hB2.cell 2 rfl;have b3 := hB2.cell 3 rfl
 by_cases ho : okPlain x = true
 ·go_wp2_with fail
  refine (cbor_spend hxa w2 g ((i : Int) + 1) s hC2 hk0 hk8 (by omega) (by omega) (by omega)).mono ?_
  rintro e w3 ⟨rfl, hC3, hG3⟩
  have R := Hh (And.intro (grown_step hG2 hG3 (.inl rfl)) hC3);clear c0 f0 c00 hC1 hB1 hG1 hH1 hC2 hB2 hG2 b0 b1 b2 b3 hC3 hG3;go_wp2_with fail
  go_ret
  refine ⟨?_, R.out.1, _, _, R.out.2, ?_⟩
  ·rw [E.out]
   by_cases hle : s + spendP x ≤ 4096
   ·rw [if_pos ⟨ho, hle⟩, show decide ((s : Int) + (spendP x : Int) ≤ 4096) = true by simp; omega];rfl
   ·rw [if_neg (fun h => hle h.2), show decide ((s : Int) + (spendP x : Int) ≤ 4096) = false by simp; omega];rfl
  ·intro p hp
   rw [E.out] at hp
   split at hp
   ·injection hp with hp
    subst hp
    exact ⟨by simp, by simp⟩
   ·cases hp
 ·have ho' : okPlain x = false := by simpa using ho
  clear ho;have R := Hh (And.intro hG2 hC2);clear c0 f0 c00 hC1 hB1 hG1 hH1 hC2 hB2 hG2 b0 b1 b2 b3;go_wp2_with fail
  go_ret
  have e0 : chk x lv i s = none := by rw [E.out, if_neg (fun h => by rw [ho'] at h; cases h.1)]
  exact ⟨by rw [e0]; rfl, R.out.1, _, _, R.out.2, by rw [e0]; intro p hp; cases hp⟩
theorem item_frame (x : Itm) (i s lv : Nat) (h1 : i + 1 ≤ 256) (h2 : x.bytes.length ≤ 4096) (h3 : x.items.length ≤ 256) (hp : isPlain x = false) (hf : frameOk x lv = false) {H : Snap} (hT : Tabs H) {ba : Option Addr} {bc : Nat} {ia : Option Addr} {ic : Nat} (hx : IsItem H ba bc ia ic x)
  (w : World) (hH : Holds w H) (g : Nat) (hg : H g = none) (hc : Chk w g i s) (hs : s ≤ 4096) (hlv : lv ≤ 8) :
  Calls Tryz.prog 59 #[.pointer (some ⟨g, 0, none⟩), itemV x ba bc ia ic, .int .i64 (lv : Int)] w (Counts w g (chk x lv i s)) := by
 have E : Hid (chk x lv i s = none) := by rw [Hid, chk_eq, if_neg (by omega), if_neg (by simp [hp]), if_pos hf]
 have hlt := hc.lt;have c0 := hc.cell 0 rfl;have f0 := hc.frozen 0;have c00 := (hc.set_ 0 (.int .i64 ((i : Int) + 1))).cell 0 rfl;have hC1 : Chk (boxed w g ((i : Int) + 1) x ba bc ia ic) g ((i : Int) + 1) s := (hc.set_ 0 _).alloc _
 have hB1 : Blk (boxed w g ((i : Int) + 1) x ba bc ia ic) w.heap.size 54 #[.int .i64 x.kind, .int .u64 x.n, .slice ba x.bytes.length bc, .slice ia x.items.length ic] := by
  have := Blk.new (w.setCell ⟨g, 0, none⟩ (.int .i64 ((i : Int) + 1))) 54 #[.int .i64 x.kind, .int .u64 x.n, .slice ba x.bytes.length bc, .slice ia x.items.length ic];rwa [show (w.setCell ⟨g, 0, none⟩ (.int .i64 ((i : Int) + 1))).heap.size = w.heap.size by simp [World.setCell]] at this
 have hG1 : w.grownBy (boxed w g ((i : Int) + 1) x ba bc ia ic) (some g) := grown_alloc (grown_set (grown_refl w (some g)) (.inl rfl) _) _;have hH1 : Holds (boxed w g ((i : Int) + 1) x ba bc ia ic) H := (hH.setCell hg _).alloc _;have hxa := hx.arg;have HF := Hh hf;clear hx hf;go_enter Tryz.func59, Tryz.ntmps59
 go_wp2_with fail
 refine (cbor_plain hT hxa _ hH1).mono ?_
 rintro e w2 ⟨rfl, hb2⟩
 have hC2 := hC1.below hb2;have hB2 := hB1.below hb2;have R := Hh (And.intro (grown_below hG1 hb2) hC2);have b0 := hB2.cell 0 rfl;have b1 := hB2.cell 1 rfl;have b2 := hB2.cell 2 rfl;have b3 := hB2.cell 3 rfl;clear c0 f0 c00 hC1 hB1 hG1 hH1 hC2 hB2 hb2;go_wp2_with fail
 all_goals first
  | (go_ret; exact ⟨by rw [E.out]; rfl, R.out.1, _, _, R.out.2, by rw [E.out]; intro p hp; cases hp⟩)
  | skip
 all_goals try simp only [beq_eq_false_iff_ne, ne_eq] at *
 all_goals exact absurd (show _ ∧ _ ∧ _ ∧ _ ∧ _ ∧ _ ∧ _ from ⟨by omega, by omega, by omega, by omega, fun _ => by omega, fun _ => by omega, fun _ => by omega⟩) (of_decide_eq_false HF.out)
theorem item_more (x : Itm) (ih : ∀ y : Itm, cnt y < cnt x → ItemSaid y) (i s lv : Nat) (h1 : i + 1 ≤ 256) (h2 : x.bytes.length ≤ 4096) (h3 : x.items.length ≤ 256) (hp : isPlain x = false) (hf : frameOk x lv = true) {H : Snap} (hT : Tabs H) {ba : Option Addr} {bc : Nat} {ia : Option Addr} {ic : Nat} (hx : IsItem H ba bc ia ic x)
  (w : World) (hH : Holds w H) (g : Nat) (hg : H g = none) (hc : Chk w g i s) (hs : s ≤ 4096) :
  Calls Tryz.prog 59 #[.pointer (some ⟨g, 0, none⟩), itemV x ba bc ia ic, .int .i64 (lv : Int)] w (Counts w g (chk x lv i s)) := by
 have E : Hid (chk x lv i s = if 4096 < s + spendP x then none else match chkL x.items (lv + 1) (i + 1) (s + spendP x) with | none => none | some p => if x.kind = 5 ∧ ascP x.items = false then none else some p) := by
  rw [Hid, chk_eq, if_neg (by omega), if_neg (by simp [hp]), if_neg (by simp [hf])];rfl
 obtain ⟨hk4, hk6, hlv8, hbl, hi6, hn0, hm2⟩ := frameOk_spec hf;have hbl0 : (x.bytes.length : Int) ≤ 0 := by omega
 have hlt := hc.lt;have c0 := hc.cell 0 rfl;have f0 := hc.frozen 0;have c00 := (hc.set_ 0 (.int .i64 ((i : Int) + 1))).cell 0 rfl;have hC1 : Chk (boxed w g ((i : Int) + 1) x ba bc ia ic) g ((i : Int) + 1) s := (hc.set_ 0 _).alloc _
 have hB1 : Blk (boxed w g ((i : Int) + 1) x ba bc ia ic) w.heap.size 54 #[.int .i64 x.kind, .int .u64 x.n, .slice ba x.bytes.length bc, .slice ia x.items.length ic] := by
  have := Blk.new (w.setCell ⟨g, 0, none⟩ (.int .i64 ((i : Int) + 1))) 54 #[.int .i64 x.kind, .int .u64 x.n, .slice ba x.bytes.length bc, .slice ia x.items.length ic];rwa [show (w.setCell ⟨g, 0, none⟩ (.int .i64 ((i : Int) + 1))).heap.size = w.heap.size by simp [World.setCell]] at this
 have hG1 : w.grownBy (boxed w g ((i : Int) + 1) x ba bc ia ic) (some g) := grown_alloc (grown_set (grown_refl w (some g)) (.inl rfl) _) _;have hH1 : Holds (boxed w g ((i : Int) + 1) x ba bc ia ic) H := (hH.setCell hg _).alloc _;have hxa := hx.arg
 have tests : ((x.kind == 6) = true ∧ (x.kind == 5) = false ∧ (x.kind != 5) = true ∧ (x.kind != 6) = false ∧ (x.items.length : Int) ≤ 1 ∧ 1 ≤ (x.items.length : Int) ∧ Hid (¬ x.kind = 5)) ∨
   ((x.kind == 6) = false ∧ (x.kind != 6) = true ∧ (x.n : Int) ≤ 0 ∧ (x.kind == 5) = true ∧ (x.kind != 5) = false ∧ ((x.items.length : Int) % 2 == 1) = false ∧ Hid (x.kind = 5)) ∨
   ((x.kind == 6) = false ∧ (x.kind != 6) = true ∧ (x.n : Int) ≤ 0 ∧ (x.kind == 5) = false ∧ (x.kind != 5) = true ∧ True ∧ Hid (¬ x.kind = 5)) := by
  rcases (by omega : x.kind = 6 ∨ x.kind = 5 ∨ x.kind = 4) with h | h | h
  ·have := hi6 h
   exact .inl ⟨by simp [h], by simp [h], by simp [h], by simp [h], by omega, by omega, by rw [Hid]; omega⟩
  ·have := hn0 (by omega);have h2 := hm2 h
   exact .inr (.inl ⟨by simp [h], by simp [h], by omega, by simp [h], by simp [h], by simp; omega, h⟩)
  ·have := hn0 (by omega)
   exact .inr (.inr ⟨by simp [h], by simp [h], by omega, by simp [h], by simp [h], trivial, by rw [Hid]; omega⟩)
 have HX := Hh hx;clear hx hf hi6 hn0 hm2 hbl;have TT := Hh tests;clear tests;go_enter Tryz.func59, Tryz.ntmps59
 go_wp2_with fail
 refine (cbor_plain hT hxa _ hH1).mono ?_
 rintro e w2 ⟨rfl, hb2⟩
 have hC2 := hC1.below hb2;have hB2 := hB1.below hb2;have hG2 := grown_below hG1 hb2;have b0 := hB2.cell 0 rfl;have b1 := hB2.cell 1 rfl;have b2 := hB2.cell 2 rfl;have b3 := hB2.cell 3 rfl;go_upto_region 9 with fail
 go_cut [95] (fun s95 wx => s95 = .bool false ∧ w2 = wx)
 case first =>
  rcases TT.out with ⟨t1, t2, t3, t4, t5, t6, t7⟩ | ⟨t1, t2, t3, t4, t5, t6, t7⟩ | ⟨t1, t2, t3, t4, t5, t6, t7⟩
  all_goals
   go_wp2_with fail
   go_meet
   exact ⟨rfl, rfl⟩
 case rest =>
  obtain ⟨rfl, rfl⟩ := hcut;go_wp2_with fail
  refine (cbor_spend hxa _ g ((i : Int) + 1) s hC2 (by omega) (by omega) (by omega) (by omega) (by omega)).mono ?_
  rintro e w3 ⟨rfl, hC3, hG3⟩
  have hB3 := hB2.grown hG3 (by simp; omega);have d0 := hB3.cell 0 rfl;have d3 := hB3.cell 3 rfl;clear b0 b1 b2 b3
  by_cases hle : s + spendP x ≤ 4096
  ·have hdec : decide ((s : Int) + (spendP x : Int) ≤ 4096) = true := by simp; omega
   go_wp2_with fail
   have E2 : Hid (chk x lv i s = match chkL x.items (lv + 1) (i + 1) (s + spendP x) with | none => none | some p => if x.kind = 5 ∧ ascP x.items = false then none else some p) := by
    rw [Hid, E.out, if_neg (by omega)]
   have HG3 := Hh (grown_step hG2 hG3 (.inl rfl));have hwz : w.heap.size < w3.heap.size := hB3.lt;have hH3 : Holds w3 H := (hH1.below hb2 (Nat.le_refl _)).grown hG3 (fun g' h => by injection h with h; subst h; exact hg);clear hC1 hB1 hG1 hH1 hC2 hB2 hG2 c0 f0 c00 E hdec hb2 hG3;go_loopw [103] (fun vi wr => ∃ (k : Nat) (p : Nat × Nat), k ≤ x.items.length ∧ vi = .int .i64 k ∧ Hid (chkL (x.items.drop k) (lv + 1) p.1 p.2 = chkL x.items (lv + 1) (i + 1) (s + spendP x)) ∧ p.1 ≤ 256 ∧ p.2 ≤ 4096 ∧ Chk wr g p.1 p.2 ∧ w3.grownBy wr (some g)) (fun vi _ => x.items.length - (intOf vi).toNat)
   case atStart => exact ⟨0, (i + 1, s + spendP x), Nat.zero_le _, rfl, by simp [Hid], by omega, hle, by simpa using hC3, grown_refl _ _⟩
   case round =>
    obtain ⟨k, p, hk, rfl, hdr, hp1, hp2, hCr, hGr⟩ := hrel;have hHr : Holds wr H := hH3.grown hGr (fun g' h => by injection h with h; subst h; exact hg)
    by_cases hlt : k < x.items.length
    ·obtain ⟨ib, io, hia, hel⟩ := HX.out.items (by omega);obtain ⟨eba, ebc, eia, eic, q0, q1, q2, q3, hex⟩ := hel.get k hlt;subst hia;have hlen : (x.items.length : Int) ≤ 256 := by omega
     have p0 := hHr.cell q0;have p1 := hHr.cell q1;have p2 := hHr.cell q2;have p3 := hHr.cell q3;have hdrop : x.items.drop k = x.items[k] :: x.items.drop (k + 1) := List.drop_eq_getElem_cons hlt
     have IHH := Hh (ih x.items[k] (cnt_items x k hlt) H _ _ eba _ ebc eia _ eic (wr.alloc (.cells #[.int .i64 x.items[k].kind, .int .u64 x.items[k].n, .slice eba x.items[k].bytes.length ebc, .slice eia x.items[k].items.length eic] 54)) g p.1 p.2 (lv + 1)
      hT hex.arg (hHr.alloc _) hg (hCr.alloc _) hp1 hp2 (by omega))
     have HD := Hh hdrop;have hlv1 : ((lv + 1 : Nat) : Int) = (lv : Int) + 1 := by omega
     rw [hlv1] at IHH;clear hdrop q0 q1 q2 q3 hel d0 d3 hlv1;go_wp2_with fail
     refine IHH.out.mono ?_
     rintro e w4 ⟨rfl, hG4, i4, s4, hC4, heq⟩
     have hG5 := grown_step (grown_alloc hGr (.cells #[.int .i64 x.items[k].kind, .int .u64 x.items[k].n, .slice eba x.items[k].bytes.length ebc, .slice eia x.items[k].items.length eic] 54)) hG4 (.inl rfl)
     cases hq : chk x.items[k] (lv + 1) p.1 p.2 with
     | none =>
      have e0 : Hid (chk x lv i s = none) := by
       rw [Hid, E2.out, ← hdr.out, HD.out, chkL, hq]
      have R := Hh (And.intro (grown_step HG3.out hG5 (.inl rfl)) hC4);clear hq heq p0 p1 p2 p3 IHH hCr hGr hG4 hG5 hC4;go_wp2_with fail
      go_ret
      exact ⟨by rw [e0.out]; rfl, R.out.1, _, _, R.out.2, by rw [e0.out]; intro p hp; cases hp⟩
     | some p' =>
      obtain ⟨rfl, rfl⟩ := heq p' hq;obtain ⟨_, _, hp3, hp4⟩ := chk_spec _ _ _ _ _ hq
      have hn : Hid (chkL (x.items.drop (k + 1)) (lv + 1) p'.1 p'.2 = chkL x.items (lv + 1) (i + 1) (s + spendP x)) := by
       rw [Hid, ← hdr.out, HD.out, chkL, hq]
      clear hq heq p0 p1 p2 p3 IHH hCr hGr hG4 HD hdr;go_wp2_with fail
      go_roundw
      case rel => exact ⟨k + 1, p', by omega, by go_num, hn, hp3, hp4, hC4, hG5⟩
      case measure => simp [intOf]; omega
    ·have hkl : k = x.items.length := by omega
     subst hkl
     have hfin : Hid (chkL x.items (lv + 1) (i + 1) (s + spendP x) = some p) := by
      rw [Hid, ← hdr.out, List.drop_length, chkL]
     have hBr := hB3.grown hGr (by simp; omega);have d0 := hBr.cell 0 rfl;have d3 := hBr.cell 3 rfl;have hGG := Hh (grown_step HG3.out hGr (.inl rfl));clear hdr
     rcases TT.out with ⟨t1, t2, t3, t4, t5, t6, t7⟩ | ⟨t1, t2, t3, t4, t5, t6, t7⟩ | ⟨t1, t2, t3, t4, t5, t6, t7⟩
     ·clear t1 t2 t4 t5 t6;go_wp2_with fail
      go_ret
      have e0 : chk x lv i s = some p := by
       rw [E2.out, hfin.out]
       simp only [if_neg (fun h : x.kind = 5 ∧ _ => t7.out h.1)]
      exact ⟨by rw [e0]; rfl, hGG.out, _, _, hCr, by rw [e0]; intro p' hp'; injection hp' with hp'; subst hp'; exact ⟨rfl, rfl⟩⟩
     ·clear t1 t2 t3 t4 t6;obtain ⟨hK, hPe, _, hp4⟩ := chkL_spec _ _ _ _ _ hfin.out h1 hle;have hen : (encL x.items).length ≤ 4096 := by rw [hPe] at hp4; simp only at hp4; omega
      have hlen : ∀ k (h : k < x.items.length), (encB x.items[k]).length ≤ 1099511627776 := by
       intro k hk
       have a1 := encL_take_succ x.items k hk;have a2 := encL_take_le x.items (k + 1);rw [a1] at a2
       simp only [List.length_append] at a2
       omega
      have hAA : ∃ b off, 0 < x.items.length → ia = some ⟨b, off, none⟩ ∧ IsElems H b off x.items := by
       by_cases h0 : 0 < x.items.length
       ·obtain ⟨ib, io, hia, hel⟩ := HX.out.items h0
        exact ⟨ib, io, fun _ => ⟨hia, hel⟩⟩
       ·exact ⟨0, 0, fun h => absurd h h0⟩
      obtain ⟨ib, io, hA⟩ := hAA;have ASC := Hh (cbor_ascending x.items ib io ia ic wr hA hHr hK hlen x.items.length rfl (by omega));clear hA hlen hen hPe hp4 hK;go_wp2_with fail
      refine ASC.out.mono ?_
      rintro e w5 ⟨rfl, hb5⟩
      have R := Hh (And.intro (grown_below hGG.out hb5) (hCr.below hb5))
      cases hasc : ascP x.items with
      | true =>
       have e0 : Hid (chk x lv i s = some p) := by
        rw [Hid, E2.out, hfin.out]
        simp only [hasc, Bool.true_eq_false, and_false, if_false]
       clear ASC hasc;go_wp2_with fail
       go_ret
       exact ⟨by rw [e0.out]; rfl, R.out.1, _, _, R.out.2, by rw [e0.out]; intro p' hp'; injection hp' with hp'; subst hp'; exact ⟨rfl, rfl⟩⟩
      | false =>
       have e0 : Hid (chk x lv i s = none) := by
        rw [Hid, E2.out, hfin.out]
        simp only [hasc, t7.out, and_self, if_true]
       clear ASC hasc;go_wp2_with fail
       go_ret
       exact ⟨by rw [e0.out]; rfl, R.out.1, _, _, R.out.2, by rw [e0.out]; intro p' hp'; cases hp'⟩
     ·clear t1 t2 t3 t4;go_wp2_with fail
      go_ret
      have e0 : chk x lv i s = some p := by
       rw [E2.out, hfin.out]
       simp only [if_neg (fun h : x.kind = 5 ∧ _ => t7.out h.1)]
      exact ⟨by rw [e0]; rfl, hGG.out, _, _, hCr, by rw [e0]; intro p' hp'; injection hp' with hp'; subst hp'; exact ⟨rfl, rfl⟩⟩
  ·have hdec : decide ((s : Int) + (spendP x : Int) ≤ 4096) = false := by simp; omega
   have R := Hh (And.intro (grown_step hG2 hG3 (.inl rfl)) hC3);clear hC1 hB1 hG1 hH1 hC2 hB2 hG2 hC3 hG3 hB3 d0 d3 c0 f0 c00;go_wp2_with fail
   go_ret
   have e0 : chk x lv i s = none := by rw [E.out, if_pos (by omega)]
   exact ⟨by rw [e0]; rfl, R.out.1, _, _, R.out.2, by rw [e0]; intro p hp; cases hp⟩
theorem ItemA.eqs {H : Snap} {k n : Int} {ba : Option Addr} {bl bc : Nat} {ia : Option Addr} {il ic : Nat} {x : Itm} (h : ItemA H k n ba bl bc ia il ic x) : k = x.kind ∧ n = (x.n : Int) ∧ bl = x.bytes.length ∧ il = x.items.length ∧ IsItem H ba bc ia ic x := ⟨h.1, h.2, h.3, h.4, h.5⟩
theorem cbor_item (x : Itm) : ItemSaid x := by
 have main : ∀ N, ∀ x : Itm, cnt x ≤ N → ItemSaid x := by
  intro N
  induction N with
  | zero =>
   intro x hx
   have : 0 < cnt x := by cases x; rw [cnt]; omega
   omega
  | succ N ih =>
   intro x hx H k n ba bl bc ia il ic w g i s lv hT ha hH hg hc hi hs hlv
   obtain ⟨rfl, rfl, rfl, rfl, hxi⟩ := ha.eqs
   by_cases h0 : 256 < i + 1 ∨ 4096 < x.bytes.length ∨ 256 < x.items.length
   ·exact item_many x i s lv h0 hxi w g hc hi
   ·by_cases hp : isPlain x = true
    ·exact item_plain x i s lv (by omega) (by omega) (by omega) hp hT hxi w hH g hg hc hs
    ·have hp' : isPlain x = false := by simpa using hp
     by_cases hf : frameOk x lv = true
     ·exact item_more x (fun y hy => ih y (by omega)) i s lv (by omega) (by omega) (by omega) hp' hf hT hxi w hH g hg hc hs
     ·exact item_frame x i s lv (by omega) (by omega) (by omega) hp' (by simpa using hf) hT hxi w hH g hg hc hs hlv
 exact main _ x (Nat.le_refl _)
theorem cbor_Valid {H : Snap} (hT : Tabs H) {k n : Int} {ba : Option Addr} {bl bc : Nat} {ia : Option Addr} {il ic : Nat} {x : Itm} (hx : ItemA H k n ba bl bc ia il ic x) (w : World) (hH : Holds w H) :
  Calls Tryz.prog 40 #[.agg #[.int .i64 k, .int .u64 n, .slice ba bl bc, .slice ia il ic]] w fun e w' => e = .returned (.bool (validP x)) ∧ Below w.heap.size w w' := by
 have W1 := fun w1 : World => fun h1 : Holds w1 H => fun hg => fun hc => (cbor_item x) H k n ba bl bc ia il ic w1 (w.heap.size + 1) 0 0 0 hT hx h1 hg hc (by omega) (by omega) (by omega)
 have hH2 := (hH.alloc (.cells #[.int .i64 k, .int .u64 n, .slice ba bl bc, .slice ia il ic] 54))
 have hg2 : H (w.heap.size + 1) = none := hH.none_of_ge (by omega);have hC := Blk.new (w.alloc (.cells #[.int .i64 k, .int .u64 n, .slice ba bl bc, .slice ia il ic] 54)) 94 #[.int .i64 0, .int .i64 0];rw [show (w.alloc (.cells #[.int .i64 k, .int .u64 n, .slice ba bl bc, .slice ia il ic] 54)).heap.size = w.heap.size + 1 by simp] at hC;have I := Hh (W1 _ (hH2.alloc (.cells #[.int .i64 0, .int .i64 0] 94)) hg2 hC);have B2 := Hh ((below_box w (.cells #[.int .i64 k, .int .u64 n, .slice ba bl bc, .slice ia il ic] 54)).alloc (by simp) (.cells #[.int .i64 0, .int .i64 0] 94));clear W1 hH2 hg2 hC hx;go_enter Tryz.func40, Tryz.ntmps40
 go_wp2_with fail
 refine I.out.mono ?_
 rintro e w2 ⟨rfl, hG, _⟩
 go_wp2_with fail
 go_ret
 exact ⟨rfl, below_of_grown B2.out hG (by simp)⟩
def EncSaid (w : World) (x : Itm) (e : Ending) (w' : World) : Prop :=
 (validP x = false ∧ e = .returned (.tuple #[.slice none 0 0, .int .i64 1]) ∧ Below w.heap.size w w') ∨
 (validP x = true ∧ ∃ r, e = .returned (.tuple #[r, .int .i64 0]) ∧ Fresh w (encB x) r w')
theorem cbor_Encode {H : Snap} (hT : Tabs H) {k n : Int} {ba : Option Addr} {bl bc : Nat} {ia : Option Addr} {il ic : Nat} {x : Itm} (hx : ItemA H k n ba bl bc ia il ic x) (w : World) (hH : Holds w H) :
  Calls Tryz.prog 29 #[.agg #[.int .i64 k, .int .u64 n, .slice ba bl bc, .slice ia il ic]] w (EncSaid w x) := by
 have hH1 := (hH.alloc (.cells #[.int .i64 k, .int .u64 n, .slice ba bl bc, .slice ia il ic] 54))
 have hb1 := below_box w (.cells #[.int .i64 k, .int .u64 n, .slice ba bl bc, .slice ia il ic] 54);have hB1 := Blk.new w 54 #[.int .i64 k, .int .u64 n, .slice ba bl bc, .slice ia il ic];have V := Hh (cbor_Valid hT hx _ hH1);go_enter Tryz.func29, Tryz.ntmps29
 go_wp2_with fail
 refine V.out.mono ?_
 rintro e w2 ⟨rfl, hb2⟩
 have hB2 := hB1.below hb2;have b0 := hB2.cell 0 rfl;have b1 := hB2.cell 1 rfl;have b2 := hB2.cell 2 rfl;have b3 := hB2.cell 3 rfl;have hH2 := hH1.below hb2 (Nat.le_refl _);have hb := hb1.trans (hb2.mono hb1.size)
 cases hv : validP x with
 | false =>
  have hv' := Hh hv;clear hv;go_wp2_with fail
  go_ret2
  exact .inl ⟨hv'.out, rfl, hb⟩
 | true =>
  obtain ⟨hk, _, hl⟩ := validP_spec hv;have A := Hh (cbor_add x H k n ba bl bc ia il ic w2 w2.heap.size (.slice none 0 0) [] hk hx hH2 (OwnB.nil _ _) (Nat.le_refl _) (by simp [Value.ownBlock]) (by simp; omega));have hv' := Hh hv;clear hv hl;go_wp2_with fail
  refine A.out.mono ?_
  rintro e w3 ⟨r, rfl, hown, hg, _⟩
  go_wp2_with fail
  go_ret2
  refine .inr ⟨hv'.out, _, rfl, ?_, ?_⟩
  ·simpa [OwnB] using hown.more (base' := w.heap.size) hb.size
  ·exact hb.trans ((grown_none (by simpa [Value.ownBlock] using hg)).mono hb.size)
end Go.Proofs.YtmacemcajlgddaaGreatDoor
