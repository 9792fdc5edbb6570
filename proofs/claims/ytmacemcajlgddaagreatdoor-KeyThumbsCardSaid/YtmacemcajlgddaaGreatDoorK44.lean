/- squeezed. SHA-256: the prime numbers. Square -/
import Derived.Test.YtmacemcajlgddaaGreatDoorK43
import Derived.Test.YtmacemcajlgddaaGreatDoorK39
import Derived.Test.YtmacemcajlgddaaGreatDoorK25
import Derived.Test.YtmacemcajlgddaaGreatDoorK34
import GoSem.Core.Float
import Derived.Laws.FloatArith
import Derived.Test.YtmacemcajlgddaaGreatDoorK06
set_option linter.unusedVariables false
set_option linter.unusedSimpArgs false
set_option maxRecDepth 100000
set_option maxHeartbeats 6400000
namespace Go.Proofs.YtmacemcajlgddaaGreatDoor
open Go.RowKit
def lieU : Lie Nat where
 k := 1
 pos := by omega
 E := fun _ x c => c = [.int .u64 (x : Int)]
 len := by rintro _ _ _ rfl; rfl
 one := by rintro _ _ _ rfl; simp [Value.oneCell']
 mono := fun _ h => h
theorem info_u64 : (Tryz.prog.info? 49).map (fun i => (i.zero, i.size, i.bytes)) = some (some (.int .u64 0), 1, 8) := by kernel_rfl
theorem ownU_at {w : World} {base : Nat} {A : Option Addr} {m c : Nat} {H : Snap} {l : List Nat} (h : OwnX lieU 49 w base (.slice A m c) H l) (h0 : 0 < l.length) :
  ∃ g, A = some ⟨g, 0, none⟩ ∧ ∀ j (hj : j < l.length), w.cell? ⟨g, j, none⟩ = some (.int .u64 (l[j] : Int)) := by
 obtain ⟨g, e, _⟩ := h.at_ 0 h0
 refine ⟨g, e, fun j hj => ?_⟩
 obtain ⟨g', e', d, hd, hc⟩ := h.at_ j hj;rw [e] at e'
 cases e'
 cases hd
 have h1 := hc 0 _ rfl
 simpa [lieU] using h1
theorem mod_ne (k q : Nat) : (((k : Int) + 2) % (q : Int) != 0) = ((k + 2) % q != 0) := by
 rw [Bool.eq_iff_iff, bne_iff_ne, bne_iff_ne];have h : ((k : Int) + 2) % (q : Int) = (((k + 2) % q : Nat) : Int) := by rw [Int.natCast_emod, Int.natCast_add]; rfl
 rw [h]
 omega
theorem sha_primes (H : Snap) (w : World) : Calls Tryz.prog 42 #[.int .i64 64] w fun e w' => ∃ A c, e = .returned (.slice A 64 c) ∧ OwnX lieU 49 w' w.heap.size (.slice A 64 c) H (primesN.take 64) ∧ Below w.heap.size w w' := by
 have hO0 := OwnX.nil lieU 49 w w.heap.size H;have hb0 := Below.refl w.heap.size w;go_enter Tryz.func42, Tryz.ntmps42
 go_wp2_with fail
 go_loopw [3, 4] (fun v3 v4 wr => ∃ (k : Nat), v4 = .int .u64 ((k : Int) + 2) ∧ Hid (k ≤ 310) ∧ OwnX lieU 49 wr w.heap.size v3 H (uptoP k) ∧ Below w.heap.size w wr) (fun _ v4 _ => 400 - (intOf v4).toNat)
 case atStart => exact ⟨0, rfl, Nat.zero_le _, hO0, hb0⟩
 case round =>
  clear hO0 hb0;obtain ⟨k, rfl, HK, hO, hb⟩ := hrel;obtain ⟨A, c, rfl, hmc, hcm⟩ := hO.form;have HPOS : Hid (∀ q ∈ uptoP k, 2 ≤ q ∧ q ≤ k + 1) := uptoP_pos k;have HSTOP : Hid (¬ (uptoP k).length < 64 → uptoP k = primesN.take 64) := uptoP_stop HK.out;have HGO : Hid ((uptoP k).length < 64 → k ≤ 309) := uptoP_go;have HSTEP : Hid (uptoP (k + 1) = stepP (uptoP k) (k + 2)) := rfl;obtain ⟨l, hl⟩ : ∃ l, uptoP k = l := ⟨_, rfl⟩
  rw [hl] at hO hmc HPOS HSTOP HGO HSTEP ⊢;obtain ⟨m, hm⟩ : ∃ m, l.length = m := ⟨_, rfl⟩
  have HML := Hh hm;rw [hm] at hmc HSTOP HGO ⊢;have HMC := Hh (And.intro hmc hcm);have hO' := hO;rw [hm] at hO';clear hl hm hmc hcm
  by_cases hlt : (m : Int) < 64
  ·have hkK : IntKind.u64.wrap ((k : Int) + 2 + 1) = (k : Int) + 2 + 1 := by
    rw [IntKind.wrap_u64];have := HK.out
    omega
   have HK9 : Hid (k ≤ 309) := HGO.out (by omega);have HLT := Hh hlt;go_wp2_with fail
   go_loop [5, 16] (fun v5 v16 => ∃ j : Nat, Hid (j ≤ m) ∧ v16 = .int .i64 (j : Int) ∧ v5 = .bool ((l.take j).all (fun q => (k + 2) % q != 0))) (fun _ v16 => m - (intOf v16).toNat)
   case atStart => exact ⟨0, Nat.zero_le _, rfl, rfl⟩
   case round =>
    obtain ⟨j, HJ, rfl, rfl⟩ := hrel;obtain ⟨bb, hbb⟩ : ∃ bb, (l.take j).all (fun q => (k + 2) % q != 0) = bb := ⟨_, rfl⟩
    rw [hbb];have HBB := Hh hbb;clear hbb
    by_cases hj : (j : Int) < (m : Int)
    ·have hjl : j < l.length := by rw [HML.out]; omega
     have HNX := Hh (all_take_succ (fun q => (k + 2) % q != 0) l j hjl);obtain ⟨g, rfl, hg⟩ := ownU_at hO (by omega);have cx := hg j hjl;have HQ := Hh (HPOS.out l[j] (List.getElem_mem hjl));obtain ⟨q, hq⟩ : ∃ q, l[j] = q := ⟨_, rfl⟩
     rw [hq] at cx HQ HNX;have hq0 : ((q : Int) = 0) = False := eq_false (by have := HQ.out; omega);have hq1 : (q = 0) = False := eq_false (by have := HQ.out; omega);have hq2 : ((q : Int) == 0) = false := by rw [beq_eq_false_iff_ne]; have := HQ.out; omega
     have HJJ := Hh hj;have HNY : Hid ((l.take (j + 1)).all (fun q => (k + 2) % q != 0) = (bb && ((k + 2) % q != 0))) := by have h := HNX.out; rw [HBB.out] at h; exact h
     clear HNX;clear hg hq hjl
     cases bb with
     | false =>
      go_wp2_with fail
      go_round
      ·exact ⟨j + 1, by have := HJJ.out; rw [Hid]; omega, by go_num, by rw [HNY.out]; rfl⟩
      ·have := HJJ.out; simp [intOf]; omega
     | true =>
      go_wp2_with fail
      go_round
      ·exact ⟨j + 1, by have := HJJ.out; rw [Hid]; omega, by go_num, by rw [HNY.out, mod_ne, Bool.true_and]⟩
      ·have := HJJ.out; simp [intOf]; omega
    ·obtain rfl : j = m := by have := HJ.out; omega
     clear hj
     have HALL : Hid (l.all (fun q => (k + 2) % q != 0) = bb) := by
      have h := HBB.out;rw [List.take_of_length_le (by rw [HML.out]; omega)] at h
      exact h
     clear HBB HPOS HSTOP HGO
     cases bb with
     | false =>
      go_wp2_with fail
      go_roundw
      case rel => exact ⟨k + 1, by go_num, by have := HK9.out; rw [Hid]; omega, by rw [HSTEP.out, stepP_no HALL.out]; exact hO', hb⟩
      case measure => have := HK9.out; simp [intOf]; omega
     | true =>
      have hO1 := hO.alloc (.cells #[.int .u64 ((k : Int) + 2)] 49);have hb1 := hb.alloc hb.size (.cells #[.int .u64 ((k : Int) + 2)] 49);have hlw : ∀ kb, (Value.slice A j c).ownBlock = some kb → w.heap.size ≤ kb := fun kb hk => (hO'.lt kb hk).1
      have hO2 : OwnX lieU 49 (wr.alloc (.cells #[.int .u64 ((k : Int) + 2)] 49)) w.heap.size (.slice A j c) H l := hO'.alloc _;go_wp2_with (at_builtin; refine stop_in ?_)
      refine OwnX.append rfl (.tmp 29) (.tmp 31) 58 rfl Tryz.underlying58 rfl (by omega) info_u64 rfl hO2 _ 1 _ [.int .u64 ((k : Int) + 2)] [k + 2] rfl rfl (RowC.one rfl) (Src.new _ _ _ _ rfl _ rfl) (by have := HML.out; have := HLT.out; simp; omega) hb1.size fun v' w6 hO6 hg6 hat6 => ?_
      have hb6 := below_of_grown hb1 hg6 hlw;clear hO hO' hO1 hO2 hb hb1 hg6 hat6;go_wp2_with fail
      go_roundw
      case rel => exact ⟨k + 1, by go_num, by have := HK9.out; rw [Hid]; omega, by rw [HSTEP.out, stepP_yes HALL.out]; exact hO6, hb6⟩
      case measure => have := HK9.out; simp [intOf]; omega
  ·have HE : Hid (l = primesN.take 64) := HSTOP.out (by omega);go_wp2_with fail
   go_ret
   have hm : m = 64 := by
    have h1 := HML.out;rw [HE.out] at h1;rw [← h1];rfl
   subst hm
   exact ⟨A, c, rfl, by rw [← HE.out]; exact hO', hb⟩
abbrev f64 := FloatKind.f64.format
def lowB (u : Nat) : Option Nat := if u < 9223372036854775808 then some u else none
def cbrtB (x : Nat) : Option Nat := do
 let t := x / 3 + 3071306043645493248
 let a ← f64.mul t t
 let r ← f64.div a x
 let b ← f64.mul r t
 let s ← f64.add 4603064841997850097 b
 let c ← f64.add s 4609048195788499471
 let d ← f64.div 13827900089180538932 s
 let e ← f64.add c d
 let g ← f64.div 4609916747145206638 e
 let h ← f64.add 4600105333671292343 g
 let u0 ← f64.mul t h
 let u ← lowB u0
 let v := u / 1073741824 * 1073741824 + 1073741824
 let i ← f64.mul v v
 let j ← f64.div x i
 let k ← f64.add v v
 let l ← f64.sub j v
 let m ← f64.add k j
 let n ← f64.div l m
 let o ← f64.mul v n
 f64.add v o
def floorB (x : Nat) : Option Nat :=
 match FloatKind.f64.decode x with
 | .nan _ _ => none
 | d => some (FloatKind.f64.encode (d.integral .down))
def chkB (q : Option Nat) : Bool :=
 match q with
 | some f => match floorB f with
  | some g => match floatToIntVal .f64 g .u64 with
   | some k => decide (1 ≤ k) && decide (k ≤ 20)
   | none => false
  | none => false
 | none => false
theorem chkB_spec {q : Option Nat} (h : chkB q = true) : ∃ f g k : Nat, q = some f ∧ floorB f = some g ∧ floatToIntVal .f64 g .u64 = some (k : Int) ∧ 1 ≤ k ∧ k ≤ 20 := by
 unfold chkB at h
 split at h
 ·rename_i f
  split at h
  ·rename_i g hg
   split at h
   ·rename_i k hk
    simp only [Bool.and_eq_true, decide_eq_true_eq] at h
    exact ⟨f, g, k.toNat, rfl, hg, by rw [hk]; congr 1; omega, by omega, by omega⟩
   ·cases h
  ·cases h
 ·cases h
def sqrtOf (p : Nat) : Option Nat := f64.sqrt (floatOfInt .f64 (p : Int))
def cbrtOf (p : Nat) : Option Nat := cbrtB (floatOfInt .f64 (p : Int))
theorem run_sqrt (x r : Nat) (h : f64.sqrt x = some r) (w : World) : (callFunc 96 #[.float .f64 x]).run Tryz.prog w = .ok (.value (.float .f64 r)) w := by
 rw [run_callFunc_extern Tryz.func96 (by kernel_rfl) (by kernel_rfl) (by kernel_rfl) (e := Extern.MathSqrt.sqrt) (by kernel_rfl)]
 have e : Extern.MathSqrt.sqrt #[.float .f64 x] = pure (.float .f64 r) := by
  show (match f64.sqrt x with | some r => pure (Value.float .f64 r) | none => do pure (Value.float .f64 (← choose (.nanBits .f64 x x)))) = _
  rw [h]
 rw [e];rfl
theorem run_floor (x r : Nat) (h : floorB x = some r) (w : World) : (callFunc 99 #[.float .f64 x]).run Tryz.prog w = .ok (.value (.float .f64 r)) w := by
 rw [run_callFunc_extern Tryz.func99 (by kernel_rfl) (by kernel_rfl) (by kernel_rfl) (e := Extern.MathFloor.toIntegral "math.archFloor" .down) (by kernel_rfl)]
 have e : (Extern.MathFloor.toIntegral "math.archFloor" .down #[.float .f64 x]) = pure (.float .f64 r) := by
  show ((match FloatKind.f64.decode x with
   | .nan s t =>
    if FloatKind.f64.format.quiet t = t then pure (Value.float .f64 x) else do
    let kept ← choose (.extern "math.Floor,Ceil,Trunc,RoundToEven.signallingNaN kept" 2)
    pure (Value.float .f64 (if kept == 1 then x else FloatKind.f64.encode (.nan s (FloatKind.f64.format.quiet t))))
   | d => pure (Value.float .f64 (FloatKind.f64.encode (d.integral .down)))) : Sem Value) = _
  unfold floorB at h
  cases hd : FloatKind.f64.decode x with
  | nan s t => rw [hd] at h; cases h
  | infinity s => rw [hd] at h; injection h with h; subst h; rfl
  | number s m i => rw [hd] at h; injection h with h; subst h; rfl
 rw [e];rfl
theorem math_Sqrt (x r : Nat) (h : f64.sqrt x = some r) (w : World) : Calls Tryz.prog 63 #[.float .f64 x] w fun e w' => e = .returned (.float .f64 r) ∧ w = w' := by
 have R := run_sqrt x r h;clear h;go_enter Tryz.func63, Tryz.ntmps63
 go_wp2_with fail
 go_ret
 exact ⟨rfl, rfl⟩
theorem math_Floor (x r : Nat) (h : floorB x = some r) (w : World) : Calls Tryz.prog 65 #[.float .f64 x] w fun e w' => e = .returned (.float .f64 r) ∧ w = w' := by
 have R := run_floor x r h;clear h;go_enter Tryz.func65, Tryz.ntmps65
 go_wp2_with fail
 go_ret
 exact ⟨rfl, rfl⟩
def cbrtPre (x : Nat) : Bool := !(f64.order x 0 == some .eq) && (f64.order x x == some .eq) && !(f64.order x 9218868437227405311 == some .gt) && !(f64.order x 0 == some .lt) && !(f64.order x 4503599627370496 == some .lt) && decide (x < 9223372036854775808)
theorem andNot_top (x : Nat) (hx : x < 9223372036854775808) : bits .andNot .u64 (x : Int) 9223372036854775808 = (x : Int) := by
 have h1 : (BitVec.ofInt 64 (x : Int)).toNat = x := by
  rw [BitVec.ofInt_natCast, BitVec.toNat_ofNat]; exact Nat.mod_eq_of_lt (by omega)
 have h2 : (~~~ (BitVec.ofInt 64 (9223372036854775808 : Int))).toNat = 9223372036854775807 := by decide
 show IntKind.u64.wrap ((BitVec.ofInt 64 (x : Int) &&& ~~~ BitVec.ofInt 64 9223372036854775808).toNat : Int) = _
 have h3 : x &&& 9223372036854775807 = x := by
  have := Nat.and_two_pow_sub_one_eq_mod x 63;have h4 : x % 2 ^ 63 = x := Nat.mod_eq_of_lt (by omega);rw [h4] at this
  simpa using this
 rw [BitVec.toNat_and, h1, h2, h3]
 exact wrap64_in x (by omega)
theorem and_low30 (x : Nat) (hx : x < 18446744073709551616) : bits .and .u64 (x : Int) 18446744072635809792 = ((x / 1073741824 * 1073741824 : Nat) : Int) := by
 have h1 : (BitVec.ofInt 64 (x : Int)).toNat = x := by
  rw [BitVec.ofInt_natCast, BitVec.toNat_ofNat]; exact Nat.mod_eq_of_lt (by omega)
 have h2 : (BitVec.ofInt 64 (18446744072635809792 : Int)) = BitVec.ofNat 64 ((2 ^ 34 - 1) <<< 30) := by decide
 show IntKind.u64.wrap ((BitVec.ofInt 64 (x : Int) &&& BitVec.ofInt 64 18446744072635809792).toNat : Int) = _
 have h3 : (BitVec.ofInt 64 (x : Int) &&& BitVec.ofInt 64 18446744072635809792).toNat = x / 1073741824 * 1073741824 := by
  rw [BitVec.toNat_and, h1, h2];have e : (BitVec.ofNat 64 ((2 ^ 34 - 1) <<< 30)).toNat = (2 ^ 34 - 1) <<< 30 := by decide
  rw [e]
  have e1 : x &&& ((2 ^ 34 - 1) <<< 30) = ((x >>> 30) &&& (2 ^ 34 - 1)) <<< 30 := by
   apply Nat.eq_of_testBit_eq
   intro i
   simp only [Nat.testBit_and, Nat.testBit_shiftLeft, Nat.testBit_shiftRight]
   by_cases hi : 30 ≤ i
   ·simp [hi, Nat.add_sub_cancel' hi]
   ·simp [hi]
  rw [e1, Nat.and_two_pow_sub_one_eq_mod, Nat.shiftRight_eq_div_pow, Nat.shiftLeft_eq];have e2 : x / 2 ^ 30 % 2 ^ 34 = x / 2 ^ 30 := Nat.mod_eq_of_lt (by omega);rw [e2]
 rw [h3]
 exact wrap64_in _ (by omega)
theorem math_IsNaNU (x : Nat) (p2 : (f64.order x x != some .eq) = false) (w : World) : Calls Tryz.prog 126 #[.float .f64 x] w fun e w' => e = .returned (.bool false) ∧ w = w' := by
 go_enter Tryz.func126, Tryz.ntmps126
 go_wp2_with fail
 go_ret
 exact ⟨rfl, rfl⟩
theorem math_AbsU (x : Nat) (p6 : x < 9223372036854775808) (w : World) : Calls Tryz.prog 136 #[.float .f64 x] w fun e w' => e = .returned (.float .f64 x) ∧ w = w' := by
 have AN := andNot_top x p6;have R1 := run_f64bits x;have R2 := run_f64frombits x;clear p6;go_enter Tryz.func136, Tryz.ntmps136
 go_wp2_with fail
 go_ret
 exact ⟨rfl, rfl⟩
theorem math_IsInfU (x : Nat) (p3 : (f64.order x 9218868437227405311 == some .gt) = false) (p6 : x < 9223372036854775808) (w : World) : Calls Tryz.prog 127 #[.float .f64 x, .int .i64 0] w fun e w' => e = .returned (.bool false) ∧ w = w' := by
 have A := Hh (math_AbsU x p6 w);clear p6;go_enter Tryz.func127, Tryz.ntmps127
 go_wp2_with fail
 refine A.out.mono ?_
 rintro e w1 ⟨rfl, rfl⟩
 go_wp2_with fail
 go_ret
 exact ⟨rfl, rfl⟩
theorem math_cbrt (x f : Nat) (hp : cbrtPre x = true) (h : cbrtB x = some f) (w : World) : Calls Tryz.prog 98 #[.float .f64 x] w fun e w' => e = .returned (.float .f64 f) ∧ w = w' := by
 simp only [cbrtPre, Bool.and_eq_true, Bool.not_eq_true', decide_eq_true_eq] at hp
 obtain ⟨⟨⟨⟨⟨p1, p2⟩, p3⟩, p4⟩, p5⟩, p6⟩ := hp;have p2' : (f64.order x x != some .eq) = false := by rw [bne, p2]; rfl
 unfold cbrtB at h
 simp only [Option.bind_eq_bind, Option.bind_eq_some_iff] at h
 obtain ⟨a, ha, r, hr, b, hb, s, hs, c, hc, d, hd, e, he, g, hg, k, hk, u0, hu0, u, hu, i, hi, j, hj, k2, hk2, l, hl, m, hm, n, hn, o, ho, hf⟩ := h
 have hul : u = u0 ∧ u < 9223372036854775808 := by
  unfold lowB at hu
  split at hu
  ·injection hu with hu; subst hu; exact ⟨rfl, by assumption⟩
  ·cases hu
 obtain ⟨rfl, ul⟩ := hul;clear hu;have hu := hu0;clear hu0;have T1 : (x : Int).tdiv 3 = ((x / 3 : Nat) : Int) := by rw [Int.tdiv_eq_ediv_of_nonneg (by omega)]; omega
 obtain ⟨x3, hx3⟩ : ∃ n, x / 3 = n := ⟨_, rfl⟩
 have hx3b : x3 < 9223372036854775808 := by omega
 rw [hx3] at T1 ha hb hu;obtain ⟨t, ht⟩ : ∃ n, x3 + 3071306043645493248 = n := ⟨_, rfl⟩
 rw [ht] at ha hb hu
 have T2 : IntKind.u64.wrap ((x3 : Int) + 3071306043645493248) = (t : Int) := by
  rw [show (x3 : Int) + 3071306043645493248 = ((t : Nat) : Int) by omega]
  exact wrap64_in _ (by omega)
 have T3 : IntKind.u64.wrap (x3 : Int) = (x3 : Int) := wrap64_in _ (by omega);obtain ⟨u3, hu3⟩ : ∃ n, u / 1073741824 * 1073741824 = n := ⟨_, rfl⟩
 have hu3b : u3 ≤ u := by rw [← hu3]; exact Nat.div_mul_le_self u 1073741824
 have AL := and_low30 u (by omega);rw [hu3] at AL hi hk2 hl ho hf;obtain ⟨v, hv⟩ : ∃ n, u3 + 1073741824 = n := ⟨_, rfl⟩
 rw [hv] at hi hk2 hl ho hf
 have T4 : IntKind.u64.wrap ((u3 : Int) + 1073741824) = (v : Int) := by
  rw [show (u3 : Int) + 1073741824 = ((v : Nat) : Int) by omega]
  exact wrap64_in _ (by omega)
 have NA := Hh (math_IsNaNU x p2' w);have IN := Hh (math_IsInfU x p3 p6 w);have R1 := run_f64bits x;have R3 := run_f64frombits t;have R4 := run_f64bits u;have R5 := run_f64frombits v;clear hu3 hv hx3 ht ul p2 hx3b hu3b p6;go_enter Tryz.func98, Tryz.ntmps98
 go_wp2_with fail
 refine NA.out.mono ?_
 rintro e1 w1 ⟨rfl, rfl⟩
 go_wp2_with fail
 refine IN.out.mono ?_
 rintro e1 w1 ⟨rfl, rfl⟩
 clear NA IN p2' p3;have F0 := fun w => run_float_arith (P := Tryz.prog) w .mul 102 .f64 t t a ha
 have F1 := fun w => run_float_arith (P := Tryz.prog) w .quo 102 .f64 a x r hr
 have F2 := fun w => run_float_arith (P := Tryz.prog) w .mul 102 .f64 r t b hb
 have F3 := fun w => run_float_arith (P := Tryz.prog) w .add 102 .f64 4603064841997850097 b s hs
 have F4 := fun w => run_float_arith (P := Tryz.prog) w .add 102 .f64 s 4609048195788499471 c hc
 have F5 := fun w => run_float_arith (P := Tryz.prog) w .quo 102 .f64 13827900089180538932 s d hd
 have F6 := fun w => run_float_arith (P := Tryz.prog) w .add 102 .f64 c d e he
 have F7 := fun w => run_float_arith (P := Tryz.prog) w .quo 102 .f64 4609916747145206638 e g hg
 have F8 := fun w => run_float_arith (P := Tryz.prog) w .add 102 .f64 4600105333671292343 g k hk
 have F9 := fun w => run_float_arith (P := Tryz.prog) w .mul 102 .f64 t k u hu
 have F10 := fun w => run_float_arith (P := Tryz.prog) w .mul 102 .f64 v v i hi
 have F11 := fun w => run_float_arith (P := Tryz.prog) w .quo 102 .f64 x i j hj
 have F12 := fun w => run_float_arith (P := Tryz.prog) w .add 102 .f64 v v k2 hk2
 have F13 := fun w => run_float_arith (P := Tryz.prog) w .sub 102 .f64 j v l hl
 have F14 := fun w => run_float_arith (P := Tryz.prog) w .add 102 .f64 k2 j m hm
 have F15 := fun w => run_float_arith (P := Tryz.prog) w .quo 102 .f64 l m n hn
 have F16 := fun w => run_float_arith (P := Tryz.prog) w .mul 102 .f64 v n o ho
 have F17 := fun w => run_float_arith (P := Tryz.prog) w .add 102 .f64 v o f hf
 clear ha hr hb hs hc hd he hg hk hu hi hj hk2 hl hm hn ho hf;go_wp2_with fail
 go_ret
 exact ⟨rfl, rfl⟩
theorem math_Cbrt (x f : Nat) (hp : cbrtPre x = true) (h : cbrtB x = some f) (w : World) : Calls Tryz.prog 64 #[.float .f64 x] w fun e w' => e = .returned (.float .f64 f) ∧ w = w' := by
 have A := Hh (math_cbrt x f hp h w);clear hp h;go_enter Tryz.func64, Tryz.ntmps64
 go_wp2_with fail
 refine A.out.mono ?_
 rintro e w1 ⟨rfl, rfl⟩
 go_wp2_with fail
 go_ret
 exact ⟨rfl, rfl⟩
theorem wp_fop {P : Program} {w : World} {o : Oper} {a : Act} {K : Act → World → Prop} {Q : Exit → Act → World → Prop} (op : BinOp) (t t2 : TypeId) (x y : Operand) (ho : o.op = .binOp op t x y t2)
  (hop : op = .add ∨ op = .sub ∨ op = .mul ∨ op = .quo) (fx fy : Nat) (hx : a.eval x = .float .f64 fx) (hy : a.eval y = .float .f64 fy)
  (h : ∀ r w', w' = w ∨ w' = w.drew → K (a.put o.dst (.float .f64 r)) w') : o.wp P a w K Q := by
 obtain ⟨r, w', hr, hw⟩ := arith_any (P := P) w op hop t fx fy
 unfold Oper.wp execOp
 have hg : (eqGuard op t x y (.float .f64 fx) (.float .f64 fy)).run P w = .ok () w := by rcases hop with rfl | rfl | rfl | rfl <;> simp [eqGuard]
 simp only [ho, hx, hy, Sem.run_bind, hg, hr, Result.andThen_ok, Sem.run_pure]
 exact h r w' hw
theorem wp_fconv {P : Program} {w : World} {o : Oper} {a : Act} {K : Act → World → Prop} {Q : Exit → Act → World → Prop} (src dst : TypeId) (x : Operand) (ho : o.op = .convert src dst x)
  (hs : (P.underlying src).isSome = true) (hd : P.underlying dst = some (.int .u64)) (fx : Nat) (hx : a.eval x = .float .f64 fx)
  (h : ∀ (n : Nat) w', n < 18446744073709551616 → w' = w ∨ w' = w.drew → K (a.put o.dst (.int .u64 (n : Int))) w') : o.wp P a w K Q := by
 obtain ⟨n, hn, w', hr, hw⟩ := conv_any (P := P) w src dst fx hs hd
 unfold Oper.wp execOp
 simp only [ho, hx, Sem.run_bind, hr, Result.andThen_ok, Sem.run_pure]
 exact h n w' hn hw
end Go.Proofs.YtmacemcajlgddaaGreatDoor
