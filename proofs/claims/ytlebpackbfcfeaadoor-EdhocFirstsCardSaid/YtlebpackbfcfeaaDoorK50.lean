/- squeezed. Walks: first messages that are the -/
import Derived.Test.YtlebpackbfcfeaaDoorK41
import Derived.Test.YtlebpackbfcfeaaDoorK49
import Derived.Test.YtlebpackbfcfeaaDoorK42
import Derived.Test.YtlebpackbfcfeaaDoorK46
set_option linter.unusedVariables false
set_option linter.unusedSimpArgs false
set_option maxRecDepth 100000
set_option maxHeartbeats 12800000
namespace Go.Proofs.YtlebpackbfcfeaaDoor
open Go.RowKit
theorem law_sameFirst {H : Snap} (w : World) (hH : Holds w H) {f : First} {m : Int} {sa sa2 : Option Addr} {sn sc sc2 : Nat} {ga ga2 : Option Addr} {gn gc gc2 : Nat} {ca ca2 : Option Addr} {cn cc cc2 : Nat} {ea ea2 : Option Addr} {en ec ec2 : Nat}
  (hF : FirstA H f sa sc ga gc ca cc ea ec) (hF2 : FirstA H f sa2 sc2 ga2 gc2 ca2 cc2 ea2 ec2) (hsn : sn = f.suites.length) (hgn : gn = f.gx.length) (hcn : cn = f.conn.length) (hen : en = f.ext.length)
  (hb : sn ≤ 4096 ∧ gn ≤ 4096 ∧ cn ≤ 4096 ∧ en ≤ 4096) (hv : ∀ x ∈ f.ext, x.val.length ≤ 1099511627776) :
  Calls Tryd.prog 28 #[.agg (firstC m sa sn sc ga gn gc ca cn cc ea en ec), .agg (firstC m sa2 sn sc2 ga2 gn gc2 ca2 cn cc2 ea2 en ec2)] w fun e w' => e = .returned (.bool true) ∧ Below w.heap.size w w' := by
 have hG := ((Grows.refl hH).alloc (.cells (firstC m sa sn sc ga gn gc ca cn cc ea en ec) 44)).alloc (.cells (firstC m sa2 sn sc2 ga2 gn gc2 ca2 cn cc2 ea2 en ec2) 44)
 have hB' := (Blk.new w 44 (firstC m sa sn sc ga gn gc ca cn cc ea en ec)).alloc (.cells (firstC m sa2 sn sc2 ga2 gn gc2 ca2 cn cc2 ea2 en ec2) 44)
 have hC' := Blk.new (w.alloc (.cells (firstC m sa sn sc ga gn gc ca cn cc ea en ec) 44)) 44 (firstC m sa2 sn sc2 ga2 gn gc2 ca2 cn cc2 ea2 en ec2)
 rw [show (w.alloc (.cells (firstC m sa sn sc ga gn gc ca cn cc ea en ec) 44)).heap.size = w.heap.size + 1 by simp] at hC'
 have HF := Hh hF
 have HF2 := Hh hF2
 have HQ := Hh (And.intro hsn (And.intro hgn (And.intro hcn (And.intro hen (And.intro hb hv)))))
 clear hsn hgn hcn hen hF hF2 hH hb hv
 have hB : Blk ((w.alloc (.cells (firstC m sa sn sc ga gn gc ca cn cc ea en ec) 44)).alloc (.cells (firstC m sa2 sn sc2 ga2 gn gc2 ca2 cn cc2 ea2 en ec2) 44)) w.heap.size 44 (firstC m sa sn sc ga gn gc ca cn cc ea en ec) := hB'
 have hC : Blk ((w.alloc (.cells (firstC m sa sn sc ga gn gc ca cn cc ea en ec) 44)).alloc (.cells (firstC m sa2 sn sc2 ga2 gn gc2 ca2 cn cc2 ea2 en ec2) 44)) (w.heap.size + 1) 44 (firstC m sa2 sn sc2 ga2 gn gc2 ca2 cn cc2 ea2 en ec2) := hC'
 clear hB' hC'
 go_enter Tryd.func28, Tryd.ntmps28
 go_upto_region 1 with fail
 generalize (w.alloc (.cells (firstC m sa sn sc ga gn gc ca cn cc ea en ec) 44)).alloc (.cells (firstC m sa2 sn sc2 ga2 gn gc2 ca2 cn cc2 ea2 en ec2) 44) = w1 at hG hB hC ⊢
 obtain ⟨P, hP⟩ : ∃ P, w.heap.size = P := ⟨_, rfl⟩
 obtain ⟨Q, hQ⟩ : ∃ Q, P + 1 = Q := ⟨_, rfl⟩
 have hbel := hG.below
 have hHo := hG.holds
 rw [hP] at hB hC ⊢
 rw [hQ] at hC ⊢
 clear hP hQ
 have b0 := hB.cell 0 rfl
 have b1 := hB.cell 1 rfl
 have c0 := hC.cell 0 rfl
 have c1 := hC.cell 1 rfl
 have e1 : (m != m) = false := bne_self_eq_false _
 have e2 : ((sn : Int) != (sn : Int)) = false := bne_self_eq_false _
 go_wp2_with fail
 clear b0 b1 c0 c1
 go_loopw [23] (fun v23 wr => Below w1.heap.size w1 wr ∧ ∃ i : Nat, i ≤ sn ∧ v23 = .int .i64 (i : Int)) (fun v23 _ => sn - (intOf v23).toNat)
 case atStart => exact ⟨Below.refl _ _, 0, Nat.zero_le _, rfl⟩
 case round =>
  obtain ⟨hbr, i, hi, rfl⟩ := hrel
  have HI := Hh hi
  clear hi
  have hBr := hB.below hbr
  have hCr := hC.below hbr
  have hHr := hHo.below hbr (Nat.le_refl _)
  by_cases hin : i < sn
  ·have hii : (i : Int) < (sn : Int) := by omega
   obtain ⟨sb, so, rfl, hat⟩ := rowI_at HF.out.suites (by have := HQ.out.1; omega)
   obtain ⟨sb2, so2, rfl, hat2⟩ := rowI_at HF2.out.suites (by have := HQ.out.1; omega)
   have q0 := hHr.cell (hat i (by have := HQ.out.1; omega))
   have p0 := hHr.cell (hat2 i (by have := HQ.out.1; omega))
   obtain ⟨v, hv⟩ : ∃ v, f.suites.getD i 0 = v := ⟨_, rfl⟩
   rw [hv] at q0 p0
   have b1 := hBr.cell 1 rfl
   have c1 := hCr.cell 1 rfl
   have HIN := Hh hin
   have hi0 : (0 : Int) ≤ (i : Int) := by omega
   have e3 : (v != v) = false := bne_self_eq_false _
   have HLE := Hh (And.intro HF.out.suites.le HF2.out.suites.le)
   have hic : (i : Int) ≤ (sc : Int) := by have := HLE.out; have := HQ.out.1; omega
   have hic2 : (i : Int) ≤ (sc2 : Int) := by have := HLE.out; have := HQ.out.1; omega
   have hnc : (sn : Int) ≤ (sc : Int) := by have := HLE.out; have := HQ.out.1; omega
   have hnc2 : (sn : Int) ≤ (sc2 : Int) := by have := HLE.out; have := HQ.out.1; omega
   clear hv hin hat hat2
   go_upto_region 6 with fail
   go_big_quiet (fail)
   have hby := below_drewNv hbr nq
   generalize wr.drewN nq = wy at hby ⊢
   have KI : IntKind.i64.wrap ((i : Int) + 1) = (i : Int) + 1 := IntWalk.i64_in _ (by have := HQ.out.2.2.2.2.1.1; omega)
   clear q0 p0 b1 c1 hi0 hic hic2 hnc hnc2 hbr hBr hCr hHr hii
   go_wp2_with fail
   go_roundw
   case rel => exact ⟨hby, i + 1, HIN.out, by go_num⟩
   case measure => have := HIN.out; simp [intOf]; omega
  ·have hii : ¬ ((i : Int) < (sn : Int)) := by omega
   have hid : decide ((i : Int) < (sn : Int)) = false := decide_eq_false hii
   clear hin
   have hbel2 := hbel.trans (hbr.mono hbel.size)
   have b2 := hBr.cell 2 rfl
   have c2 := hCr.cell 2 rfl
   have EQ := ref_Equal wr ga ga2 f.gx f.gx gn gn gc gc2 HQ.out.2.1 HQ.out.2.1 (by have := HQ.out.2.2.2.2.1; omega) (by have := HQ.out.2.2.2.2.1; omega) (Src.of_row HF.out.gx.row hHr) (Src.of_row HF2.out.gx.row hHr)
   rw [decide_eq_true (rfl : f.gx = f.gx)] at EQ
   have EQ := Hh EQ
   clear hbr hB hC hHo
   go_wp2_with fail
   refine EQ.out.mono ?_
   rintro e w5 ⟨rfl, hb5⟩
   have hB5 := hBr.below hb5
   have hC5 := hCr.below hb5
   have hH5 := hHr.below hb5 (Nat.le_refl _)
   have hbel5 := hbel2.trans (hb5.mono hbel2.size)
   have b3 := hB5.cell 3 rfl
   have c3 := hC5.cell 3 rfl
   have EQ2 := ref_Equal w5 ca ca2 f.conn f.conn cn cn cc cc2 HQ.out.2.2.1 HQ.out.2.2.1 (by have := HQ.out.2.2.2.2.1; omega) (by have := HQ.out.2.2.2.2.1; omega) (Src.of_row HF.out.conn.row hH5) (Src.of_row HF2.out.conn.row hH5)
   rw [decide_eq_true (rfl : f.conn = f.conn)] at EQ2
   have EQ2 := Hh EQ2
   clear EQ b2 c2 hb5 hbel2 hBr hCr hHr
   go_wp2_with fail
   refine EQ2.out.mono ?_
   rintro e w6 ⟨rfl, hb6⟩
   have hB6 := hB5.below hb6
   have hC6 := hC5.below hb6
   have hH6 := hH5.below hb6 (Nat.le_refl _)
   have hbel6 := hbel5.trans (hb6.mono hbel5.size)
   have b4 := hB6.cell 4 rfl
   have c4 := hC6.cell 4 rfl
   have SX := Hh (law_sameExt (c := ec) (d := ec2) (A := ea) (B := ea2) w6 hH6 HQ.out.2.2.2.1 HQ.out.2.2.2.1 (by have := HQ.out.2.2.2.2.1; omega) HQ.out.2.2.2.2.2 HF.out.ext HF2.out.ext)
   clear EQ2 b3 c3 hb6 hbel5 hB5 hC5 hH5
   go_wp2_with fail
   refine SX.out.mono ?_
   rintro e w7 ⟨rfl, hb7⟩
   have hbel7 := hbel6.trans (hb7.mono hbel6.size)
   clear SX b4 c4 hb7 hbel6 hB6 hC6 hH6
   go_wp2_with fail
   go_ret
   exact ⟨rfl, hbel7⟩
theorem mk2_All {H : Snap} (w : World) (hH : Holds w H) {A : Option Addr} {n c : Nat} {l : List (List UInt8)} (hn : n = l.length) (hr : IsRow lieB H A c l) :
  Calls Tryd.prog 19 #[.slice A n c] w fun e w' => IsTruth e ∧ w' = w := by
 have HR := Hh hr
 have HH := Hh hH
 have HN := Hh hn
 have SM := Hh (fun (A : Option Addr) (n c : Nat) (w : World) => mk2_Small A n c w)
 clear hr hH hn
 go_enter Tryd.func19, Tryd.ntmps19
 go_wp2_with fail
 go_loopw [7] (fun v7 wr => ∃ k : Nat, k ≤ n ∧ v7 = .int .i64 (k : Int) ∧ wr = w) (fun v7 _ => n - (intOf v7).toNat)
 case atStart => exact ⟨0, Nat.zero_le _, rfl, rfl⟩
 case round =>
  obtain ⟨k, hk, rfl, rfl⟩ := hrel
  have HKK := Hh hk
  clear hk
  by_cases hkl : k < n
  ·have hki : (k : Int) < (n : Int) := by omega
   obtain ⟨b, off, rfl, hat⟩ := HR.out.at_ (by have := HN.out; omega)
   obtain ⟨d, hd, hc⟩ := hat k (by have := HN.out; omega)
   obtain ⟨YA, yc, rfl, hyb⟩ := hd
   obtain ⟨x, hx⟩ : ∃ x, l[k]'(by have := HN.out; omega) = x := ⟨_, rfl⟩
   rw [hx] at hc hyb
   have q0 := HH.out.cell (hc 0 _ rfl)
   rw [show off + (k * lieB.k + 0) = off + k from by show off + (k * 1 + 0) = _; omega] at q0
   have HK := Hh hkl
   have hnc : (n : Int) ≤ (c : Int) := by have := HR.out.le; have := HN.out; omega
   have hk63 : (k : Int) + 1 ≤ 9223372036854775807 := by have h1 := HR.out.le; have h2 := HR.out.max; have := HN.out; omega
   clear hkl hat hc hx hyb
   go_wp2_with fail
   refine (SM.out _ _ _ _).mono ?_
   rintro e w4 ⟨⟨b', rfl, hjunk⟩, rfl⟩
   clear hjunk
   cases b' with
   | false =>
    go_wp2_with fail
    go_ret
    exact ⟨⟨false, rfl⟩, rfl⟩
   | true =>
    go_wp2_with fail
    go_roundw
    case rel => exact ⟨k + 1, HK.out, by go_num, by trivial⟩
    case measure => have := HK.out; simp [intOf]; omega
  ·have hke : ¬ ((k : Int) < (n : Int)) := by omega
   have hke' : decide ((k : Int) < (n : Int)) = false := decide_eq_false hke
   clear hkl
   go_wp2_with fail
   go_ret
   exact ⟨⟨_, rfl⟩, rfl⟩
end Go.Proofs.YtlebpackbfcfeaaDoor
