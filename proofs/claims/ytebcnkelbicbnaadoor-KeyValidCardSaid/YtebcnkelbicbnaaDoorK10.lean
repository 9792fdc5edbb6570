/- Walks: cbor.wide, cbor.half. Walks: cbor.float. Walks: cbor.add. Walks: cbor.plain. -/
import Derived.Test.YtebcnkelbicbnaaDoorK09
import Derived.Test.YtebcnkelbicbnaaDoorK06
import Derived.Test.YtebcnkelbicbnaaDoorK03
import Derived.Test.YtebcnkelbicbnaaDoorK01
import Derived.Test.YtebcnkelbicbnaaDoorK08
import Derived.Shelf.Unicode.DecodeSlow
set_option linter.unusedVariables false
set_option linter.unusedSimpArgs false
namespace Go.Proofs.YtebcnkelbicbnaaDoor
open Go.RowKit

def byteN (n k : Nat) : UInt8 := u8 (n / 2 ^ (56 - 8 * k))
theorem byteN_cell (n k : Nat) : (#[.int .u8 ((n : Int) / 2 ^ (56 - 8 * k) % 256)] : Array Value).toList = [byteN n k].map byteV := by
  simp only [List.map_cons, List.map_nil, byteN, byteV_u8]
  simp
set_option maxRecDepth 100000 in
set_option maxHeartbeats 1600000 in
theorem cbor_wide (n : Nat) (hn : n < 18446744073709551616) (w : World) :
    Calls Tryd.prog 66 #[.int .u64 (n : Int)] w fun e w' => ∃ r, e = .returned r ∧ Fresh w (be8 n 8) r w' := by
  have HN := Lib.hid hn
  clear hn
  have hO := OwnB.nil w w.heap.size
  have hb := Below.refl w.heap.size w
  go_enter Tryd.func66, Tryd.ntmps66
  go_wp2_with fail
  go_loopw [3, 4] (fun v3 v4 wr => ∃ (k : Nat) (VA : Option Addr) (vc : Nat), k ≤ 8 ∧ v4 = .int .i64 (56 - 8 * (k : Int)) ∧ v3 = .slice VA k vc ∧ OwnB wr w.heap.size (.slice VA k vc) (be8 n k) ∧ Below w.heap.size w wr) (fun _ v4 _ => (intOf v4 + 8).toNat)
  case atStart => exact ⟨0, none, 0, by omega, rfl, rfl, hO, hb⟩
  case round =>
    obtain ⟨k, VA, vc, hk, rfl, rfl, hOr, hbr⟩ := hrel
    by_cases hlt : k < 8
    · have hcell := byteN_cell n k
      have hb3 := hbr.alloc hbr.size (.cells #[.int .u8 ((n : Int) / 2 ^ (56 - 8 * k) % 256)] 5)
      have hO3 := hOr.alloc (.cells #[.int .u8 ((n : Int) / 2 ^ (56 - 8 * k) % 256)] 5)
      have HC := Lib.hid hcell
      clear hcell
      go_wp2_with (at_builtin; refine stop_in ?_)
      unfold Stopped
      refine wpList_app_bytes rfl (.tmp 9) (.tmp 14) rfl w.heap.size _ _ rfl hO3 _ 1 _ [byteN n k] rfl rfl (Src.new _ _ _ _ rfl _ HC.out) (by simp [be8_length]; omega) hb3.size fun v' w7 hO7 hg7 hat7 => ?_
      obtain ⟨VA', vc', rfl, _⟩ := hO7.form
      have hll : (be8 n k ++ [byteN n k]).length = k + 1 := by simp [be8_length]
      have hO7' : OwnB w7 w.heap.size (.slice VA' (k + 1) vc') (be8 n (k + 1)) := by
        rw [hll] at hO7
        exact hO7
      rw [hll]
      have hb7 := hb3.grown hg7 hb3.size (fun q hq => (hO3.lt q hq).1)
      clear hll hg7 hat7 hO3 hOr hb3 hbr hO7
      go_wp2_with fail
      go_roundw
      case rel => exact ⟨k + 1, VA', vc', by omega, by go_num, rfl, hO7', hb7⟩
      case measure => simp [intOf]; omega
    · have hk8 : k = 8 := by omega
      subst hk8
      go_wp2_with fail
      go_ret
      exact ⟨_, rfl, hOr, hbr⟩

theorem and_mod32 (a k : Nat) (ha : a < 4294967296) (hk : k < 32) : bits .and .u32 (a : Int) ((2 ^ k - 1 : Nat) : Int) = ((a % 2 ^ k : Nat) : Int) := by
  have : 2 ^ k < 2 ^ 32 := Nat.pow_lt_pow_right (by omega) hk
  simp only [Nat.reducePow] at this
  rw [u32_and_nat a (2 ^ k - 1) ha (by omega), Nat.and_two_pow_sub_one_eq_mod]
theorem or_low32 (b k : Nat) (hb : b < 2 ^ k) (hk : k < 31) : bits .or .u32 (b : Int) ((2 ^ k : Nat) : Int) = ((b + 2 ^ k : Nat) : Int) := by
  have h1 : 2 ^ k < 2 ^ 31 := Nat.pow_lt_pow_right (by omega) hk
  simp only [Nat.reducePow] at h1
  rw [u32_or_nat _ _ (by omega) (by omega), Nat.or_comm]
  have := Nat.two_pow_add_eq_or_of_lt hb 1
  rw [Nat.mul_one] at this
  rw [← this, Nat.add_comm]
theorem or_add16 (a k b : Nat) (hb : b < 2 ^ k) (h : a * 2 ^ k + b < 65536) : bits .or .u16 ((a * 2 ^ k : Nat) : Int) (b : Int) = ((a * 2 ^ k + b : Nat) : Int) := by
  rw [u16_or_nat _ _ (by omega) (by omega), Nat.mul_comm, Nat.two_pow_add_eq_or_of_lt hb]
theorem u16_nat (q : Nat) (h : q < 65536) : IntKind.u16.wrap (q : Int) = (q : Int) := IntWalk.u16_in _ (by omega)
set_option maxRecDepth 100000 in
set_option maxHeartbeats 3200000 in
theorem cbor_half (v : Nat) (hv : v < 4294967296) (w : World) :
    Calls Tryd.prog 68 #[.int .u32 (v : Int)] w
      fun e w' => (∃ h : Nat, e = .returned (.tuple #[.int .u16 (h : Int), .bool (halfP v).isSome]) ∧ ∀ x, halfP v = some x → h = x) ∧ w = w' := by
  have A1 := and_mod32 (v / 2 ^ 23) 8 (by omega) (by omega)
  have A2 := and_mod32 v 23 hv (by omega)
  simp only [Nat.reducePow, Nat.reduceSub] at A1 A2
  rw [Int.natCast_ediv] at A1
  obtain ⟨ex, hex⟩ : ∃ ex, v / 8388608 % 256 = ex := ⟨_, rfl⟩
  obtain ⟨mx, hmx⟩ : ∃ mx, v % 8388608 = mx := ⟨_, rfl⟩
  obtain ⟨sg, hsg⟩ : ∃ sg, v / 2147483648 = sg := ⟨_, rfl⟩
  have hs1 : sg ≤ 1 := by omega
  have E : Hid (halfP v = if ex = 255 then some (sg * 32768 + 31744) else if ex = 0 then (if mx = 0 then some (sg * 32768) else none)
      else if 113 ≤ ex ∧ ex ≤ 142 then (if mx % 8192 = 0 then some (sg * 32768 + (ex - 112) * 1024 + mx / 8192) else none)
      else if 103 ≤ ex ∧ ex < 113 then (if (mx + 8388608) % 2 ^ (126 - ex) = 0 then some (sg * 32768 + (mx + 8388608) / 2 ^ (126 - ex)) else none) else none) := by
    rw [Hid, halfP]
    simp only [hex, hmx, hsg]
  rw [hex] at A1
  rw [hmx] at A2
  have he1 : ex < 256 := by omega
  have hm1 : mx < 8388608 := by omega
  have A1' : bits .and .u32 ((v : Int) / 8388608) 255 = (ex : Int) := A1
  have A2' : bits .and .u32 (v : Int) 8388607 = (mx : Int) := A2
  have K1 : IntKind.i64.wrap (ex : Int) = (ex : Int) := IntWalk.i64_in _ (by omega)
  have KS : Hid (IntKind.u16.wrap ((v : Int) / 2147483648 * 32768 % 4294967296) = ((sg * 2 ^ 15 : Nat) : Int)) := by
    have h : (v : Int) / 2147483648 * 32768 % 4294967296 = (sg : Int) * 32768 := by omega
    simp only [Nat.reducePow]
    rw [Hid, h, IntWalk.u16_in _ (by omega)]
    omega
  clear hv hex hmx hsg A1 A2
  go_enter Tryd.func68, Tryd.ntmps68
  go_wp2_with fail
  · have h1 : ex = 255 := by
      have h : ((ex : Int) == 255) = true := by assumption
      rw [beq_iff_eq] at h
      omega
    go_ret2
    have hor := or_add16 sg 15 31744 (by omega) (by omega)
    refine ⟨⟨sg * 32768 + 31744, ?_, ?_⟩, rfl⟩
    · show Ending.returned (Value.tuple #[Value.int .u16 _, Value.bool _]) = _
      rw [KS.out, E.out, if_pos h1]
      rw [show (31744 : Int) = ((31744 : Nat) : Int) from rfl, hor]
      rfl
    · intro x hx
      rw [E.out, if_pos h1] at hx
      injection hx
  all_goals
    have h1 : ¬ ex = 255 := by
      have h : ((ex : Int) == 255) = false := by assumption
      rw [beq_eq_false_iff_ne] at h
      omega
    rw [if_neg h1] at E
  · have h2 : ex = 0 := by
      have h : ((ex : Int) == 0) = true := by assumption
      rw [beq_iff_eq] at h
      omega
    rw [if_pos h2] at E
    go_ret2
    refine ⟨⟨sg * 32768, ?_, ?_⟩, rfl⟩
    · show Ending.returned (Value.tuple #[Value.int .u16 _, Value.bool _]) = _
      rw [KS.out, E.out]
      by_cases h : mx = 0 <;> simp [h]
    · intro x hx
      rw [E.out] at hx
      split at hx
      · injection hx
      · cases hx
  all_goals
    have h2 : ¬ ex = 0 := by
      have h : ((ex : Int) == 0) = false := by assumption
      rw [beq_eq_false_iff_ne] at h
      omega
    rw [if_neg h2] at E
  · have h3 : 113 ≤ ex ∧ ex ≤ 142 := by omega
    rw [if_pos h3] at E
    obtain ⟨q, hq⟩ : ∃ q, ex - 112 = q := ⟨_, rfl⟩
    have hqi : ((ex : Int) - 112) * 1024 = ((q * 1024 : Nat) : Int) := by omega
    have hmi : (mx : Int) / 8192 = ((mx / 8192 : Nat) : Int) := by omega
    have ha := and_mod32 mx 13 (by omega) (by omega)
    simp only [Nat.reducePow, Nat.reduceSub] at ha
    have ho1 := or_add16 sg 15 (q * 1024) (by omega) (by omega)
    have ho2 := or_add16 (sg * 2 ^ 5 + q) 10 (mx / 8192) (by omega) (by omega)
    rw [show (sg * 2 ^ 5 + q) * 2 ^ 10 = sg * 2 ^ 15 + q * 1024 by omega] at ho2
    go_ret2
    refine ⟨⟨sg * 32768 + q * 1024 + mx / 8192, ?_, ?_⟩, rfl⟩
    · show Ending.returned (Value.tuple #[Value.int .u16 _, Value.bool _]) = _
      rw [KS.out, E.out, hqi, hmi, ho1, ho2]
      have ha' : bits .and .u32 (mx : Int) 8191 = ((mx % 8192 : Nat) : Int) := ha
      rw [ha']
      by_cases h : mx % 8192 = 0
      · rw [if_pos h, h]; rfl
      · rw [if_neg h]
        have : (((mx % 8192 : Nat) : Int) == 0) = false := by rw [beq_eq_false_iff_ne]; omega
        rw [this]; rfl
    · intro x hx
      rw [E.out, hq] at hx
      split at hx
      · injection hx
      · cases hx
  · have h3 : ¬ (113 ≤ ex ∧ ex ≤ 142) := by omega
    have h4 : ¬ (103 ≤ ex ∧ ex < 113) := by omega
    rw [if_neg h3, if_neg h4] at E
    go_ret2
    refine ⟨⟨0, ?_, ?_⟩, rfl⟩
    · rw [E.out]; rfl
    · intro x hx
      rw [E.out] at hx
      cases hx
  · have h3 : ¬ (113 ≤ ex ∧ ex ≤ 142) := by omega
    have h4 : 103 ≤ ex ∧ ex < 113 := by omega
    rw [if_neg h3, if_pos h4] at E
    obtain ⟨sh, hsh⟩ : ∃ sh, 126 - ex = sh := ⟨_, rfl⟩
    obtain ⟨full, hfull⟩ : ∃ full, mx + 8388608 = full := ⟨_, rfl⟩
    have hof : bits .or .u32 (mx : Int) 8388608 = (full : Int) := by
      have := or_low32 mx 23 (by omega) (by omega)
      simp only [Nat.reducePow] at this
      rw [← hfull]
      exact this
    have hp : 2 ^ sh < 2 ^ 32 := Nat.pow_lt_pow_right (by omega) (by omega)
    have hp0 : 0 < 2 ^ sh := Nat.two_pow_pos sh
    simp only [Nat.reducePow] at hp
    have hwi : (2 : Int) ^ sh = ((2 ^ sh : Nat) : Int) := by rw [Int.natCast_pow]; rfl
    have hw : ((2 : Int) ^ sh - 1) % 4294967296 = ((2 ^ sh - 1 : Nat) : Int) := by rw [hwi]; omega
    have hdv : (full : Int) / 2 ^ sh = ((full / 2 ^ sh : Nat) : Int) := by
      rw [Int.natCast_ediv, Int.natCast_pow]; rfl
    have hlt : full / 2 ^ sh < 2 ^ 15 := by
      apply Nat.div_lt_of_lt_mul
      have h1 : 2 ^ 14 ≤ 2 ^ sh := Nat.pow_le_pow_right (by omega) (by omega)
      have h2 : 2 ^ 14 * 2 ^ 15 ≤ 2 ^ sh * 2 ^ 15 := Nat.mul_le_mul_right _ h1
      simp only [Nat.reducePow, Nat.reduceMul] at h2 ⊢
      omega
    have hlt' : full / 2 ^ sh < 32768 := hlt
    have hwr : IntKind.u16.wrap ((full / 2 ^ sh : Nat) : Int) = ((full / 2 ^ sh : Nat) : Int) := u16_nat _ (by omega)
    have ho := or_add16 sg 15 (full / 2 ^ sh) hlt (by simp only [Nat.reducePow]; omega)
    have ha := and_mod32 full sh (by omega) (by omega)
    go_ret2
    refine ⟨⟨sg * 32768 + full / 2 ^ sh, ?_, ?_⟩, rfl⟩
    · show Ending.returned (Value.tuple #[Value.int .u16 _, Value.bool _]) = _
      rw [KS.out, E.out, hsh, hof, hw, ha, hdv, hwr, ho, hfull]
      by_cases h : full % 2 ^ sh = 0
      · rw [if_pos h, h]; rfl
      · rw [if_neg h]
        have : (((full % 2 ^ sh : Nat) : Int) == 0) = false := by rw [beq_eq_false_iff_ne]; omega
        rw [this]; rfl
    · intro x hx
      rw [E.out, hsh, hfull] at hx
      split at hx
      · injection hx
      · cases hx
  · have h3 : ¬ (113 ≤ ex ∧ ex ≤ 142) := by omega
    have h4 : ¬ (103 ≤ ex ∧ ex < 113) := by omega
    rw [if_neg h3, if_neg h4] at E
    go_ret2
    refine ⟨⟨0, ?_, ?_⟩, rfl⟩
    · rw [E.out]; rfl
    · intro x hx
      rw [E.out] at hx
      cases hx
end Go.Proofs.YtebcnkelbicbnaaDoor
namespace Go.Proofs.YtebcnkelbicbnaaDoor
open Go.RowKit

theorem conv_f32 (n : Nat) (hN : isNaN n = false) (w : World) : ∃ r w', (convert 99 101 (.float .f64 n)).run Tryd.prog w = .ok (.float .f32 r) w' ∧ (w' = w ∨ w' = w.drew) ∧ r < 4294967296 ∧ (∀ s x f v, Nar31 n v s x f → r = v) := by
  have hs : Tryd.prog.underlying 99 = some (.float .f64) := Tryd.underlying99
  have hd : Tryd.prog.underlying 101 = some (.float .f32) := Tryd.underlying101
  cases hb : floatToFloatBits .f64 n .f32 with
  | some r =>
    have hs' : (Tryd.prog.underlying 99).isSome = true := by rw [hs]; rfl
    refine ⟨r, w, run_convert_float_float (P := Tryd.prog) (w := w) 99 101 .f64 .f32 n r hs' hd hb, .inl rfl, ?_, ?_⟩
    · unfold floatToFloatBits at hb
      rw [if_neg (by decide)] at hb
      have hlt : ∀ d : Ieee.Datum, FloatKind.encode .f32 d < 4294967296 := fun d => Ieee.single.write_lt d
      split at hb
      · cases hb
      · injection hb with hb; rw [← hb]; exact hlt _
      · split at hb
        · cases hb
        · injection hb with hb; rw [← hb]; exact hlt _
    · intro s x f v h
      have := slim_of h
      rw [hb] at this
      injection this
  | none =>
    have hbb := hb
    unfold floatToFloatBits at hb
    rw [if_neg (by decide)] at hb
    have hnn : ¬ (∃ a b, FloatKind.decode .f64 n = .nan a b) := by
      rintro ⟨a, b, h⟩
      have := read_nan n
      rw [hN] at this
      have h' : Ieee.double.read n = .nan a b := h
      rw [h'] at this
      cases this
    cases hq : FloatKind.decode .f64 n with
    | nan a b => exact absurd ⟨a, b, hq⟩ hnn
    | infinity a => rw [hq] at hb; cases hb
    | number a b c =>
      rw [hq] at hb
      simp only at hb
      split at hb
      · rename_i ho
        refine ⟨(Question.floatToFloat n).cut (w.tape w.drawn (Question.floatToFloat n)), w.drew, ?_, .inr rfl, ?_, ?_⟩
        · simp [convert, run_underlying hs, run_underlying hd, Conv.floatToFloat, hq, ho, Question.forced]
        · show _ % 2 ^ 32 < 4294967296
          omega
        · intro s x f v h
          have := slim_of h
          rw [hbb] at this
          cases this
      · cases hb
theorem conv_f64 (r n : Nat) (hN : isNaN n = false) (hr : r < 4294967296) (w : World) : ∃ m w', (convert 101 99 (.float .f32 r)).run Tryd.prog w = .ok (.float .f64 m) w' ∧ (w' = w ∨ w' = w.drew) ∧ (m = n → narrow n 8 23 = some r) ∧ (∀ s x f, Nar31 n r s x f → m = n) := by
  have hs : Tryd.prog.underlying 101 = some (.float .f32) := Tryd.underlying101
  have hd : Tryd.prog.underlying 99 = some (.float .f64) := Tryd.underlying99
  cases hn : (Ieee.single.read r).isNaN with
  | false =>
    obtain ⟨m, s, x, f, _, hx⟩ := single_fields hr hn
    have hw := wide_of hx
    have hs' : (Tryd.prog.underlying 101).isSome = true := by rw [hs]; rfl
    refine ⟨m, w, run_convert_float_float (P := Tryd.prog) (w := w) 101 99 .f32 .f64 r m hs' hd hw, .inl rfl, ?_, ?_⟩
    · rintro rfl
      exact narrow31_of hx
    · intro s' x' f' h
      have := wide_of h
      rw [hw] at this
      injection this
  | true =>
    cases hq : FloatKind.decode .f32 r with
    | number a b c =>
      have h' : Ieee.single.read r = .number a b c := hq
      rw [h'] at hn; cases hn
    | infinity a =>
      have h' : Ieee.single.read r = .infinity a := hq
      rw [h'] at hn; cases hn
    | nan a b =>
      refine ⟨(Question.nanConv .f64 r).cut (w.tape w.drawn (Question.nanConv .f64 r)), w.drew, ?_, .inr rfl, ?_, ?_⟩
      · simp [convert, run_underlying hs, run_underlying hd, Conv.floatToFloat, hq, Question.forced]
      · intro h
        exfalso
        have hnan : isNaN ((Question.nanConv .f64 r).cut (w.tape w.drawn (Question.nanConv .f64 r))) = true := by
          rw [isNaN_iff]
          show (_ % 2 * 2 ^ 63 + 0x7ff0000000000000 + 1 + _ / 2 % (2 ^ 52 - 1)) / 2 ^ 52 % 2048 = 2047 ∧ _
          generalize w.tape w.drawn (Question.nanConv .f64 r) = t
          show (t % 2 * 2 ^ 63 + 0x7ff0000000000000 + 1 + t / 2 % (2 ^ 52 - 1)) / 2 ^ 52 % 2048 = 2047 ∧ (t % 2 * 2 ^ 63 + 0x7ff0000000000000 + 1 + t / 2 % (2 ^ 52 - 1)) % 2 ^ 52 ≠ 0
          generalize t / 2 = u
          have : t % 2 = 0 ∨ t % 2 = 1 := by omega
          rcases this with h | h <;> rw [h] <;> simp only [Nat.reducePow, Nat.reduceSub, Nat.reduceMul, Nat.reduceAdd, Nat.zero_add] <;> omega
        rw [h, hN] at hnan
        cases hnan
      · intro s x f h
        have := read_s h
        have h' : Ieee.single.read r = .nan a b := hq
        rw [h'] at this
        split at this
        · cases this
        · split at this <;> cases this

theorem Fresh.step_ {w w1 w2 : World} {l : List UInt8} {r : Value} (hb : Below w.heap.size w w1) (h : Fresh w1 l r w2) : Fresh w l r w2 := ⟨h.own.more hb.size, hb.trans (h.2.mono hb.size)⟩
/-- Who has no 32 bits has no 16. -/
theorem narrow15_none {n : Nat} (hn : n < 18446744073709551616) (h : narrow n 8 23 = none) : narrow n 5 10 = none := by
  cases h5 : narrow n 5 10 with
  | none => rfl
  | some v =>
    obtain ⟨s, x, f, a1, a2, a3, a4, a5⟩ := narrow15_spec hn h5
    have done : ∀ {x' f' : Nat}, Nar31 n (s * 2147483648 + x' * 8388608 + f') s x' f' → False := fun hx => by
      rw [narrow31_of hx] at h
      cases h
    rcases a5 with ⟨c1, c2, c3⟩ | ⟨c1, c2, c3⟩ | ⟨c1, c2, c3⟩ | ⟨c1, t, full, c2, c3, c4, c5, c6, c7⟩
    · exact (done (x' := 255) (f' := 0) ⟨a1, rfl, by omega, by omega, .inl ⟨rfl, rfl, c3⟩⟩).elim
    · exact (done (x' := 0) (f' := 0) ⟨a1, rfl, by omega, by omega, .inr (.inl ⟨rfl, rfl, c3⟩)⟩).elim
    · have C3 : n = s * 9223372036854775808 + (x + 112 + 896) * 4503599627370496 + f * 8192 * 536870912 := by
        rw [c3, Nat.mul_assoc f 8192, Nat.add_assoc x 112]
      have C := Lib.hid C3
      clear c3 C3
      have g1 : f * 8192 < 8388608 := by omega
      have g2 : x + 112 ≤ 255 := by omega
      have g3 : 1 ≤ x + 112 := by omega
      have g4 : x + 112 ≤ 254 := by omega
      exact (done (x' := x + 112) (f' := f * 8192) ⟨a1, rfl, g1, g2, .inr (.inr (.inl ⟨g3, g4, C.out⟩))⟩).elim
    · have C := Lib.hid c7
      clear c7
      have e1 : full = f * 2 ^ (23 - t) * 536870912 := by
        rw [c5, Nat.mul_assoc, show (536870912 : Nat) = 2 ^ 29 from rfl, ← Nat.pow_add, show 23 - t + 29 = 52 - t by omega]
      have e2 : 2 ^ (t + 1) * 2 ^ (52 - t) = 9007199254740992 := by
        rw [← Nat.pow_add, show t + 1 + (52 - t) = 53 by omega]
      have b2 := Nat.mul_lt_mul_of_pos_right c4 (Nat.two_pow_pos (52 - t))
      rw [e2, ← c5] at b2
      obtain ⟨q, hq⟩ : ∃ q, f * 2 ^ (23 - t) = q := ⟨_, rfl⟩
      rw [hq] at e1
      have g0 : 8388608 ≤ q ∧ q < 16777216 := by clear a2; omega
      have g5 : full - 4503599627370496 = (q - 8388608) * 536870912 := by clear a2; omega
      have g1 : q - 8388608 < 8388608 := by omega
      have g2 : 103 + t ≤ 255 := by omega
      have g3 : 1 ≤ 103 + t := by omega
      have g4 : 103 + t ≤ 254 := by omega
      have C3 : n = s * 9223372036854775808 + (103 + t + 896) * 4503599627370496 + (q - 8388608) * 536870912 := by
        rw [C.out, g5, show 103 + t + 896 = 999 + t by omega]
      exact (done (x' := 103 + t) (f' := q - 8388608) ⟨a1, rfl, g1, g2, .inr (.inr (.inl ⟨g3, g4, C3⟩))⟩).elim
set_option maxRecDepth 100000 in
set_option maxHeartbeats 3200000 in
theorem cbor_float_nat (n : Nat) (hn : n < 18446744073709551616) (w : World) :
    Calls Tryd.prog 47 #[.int .u64 (n : Int)] w fun e w' => ∃ r, e = .returned r ∧ Fresh w (floatB n) r w' := by
  have r1 := run_f64frombits n
  have r2 := order_fne n
  cases hN : isNaN n with
  | true =>
    rw [hN] at r2
    have E : Hid (floatB n = [u8 249, u8 126, u8 0]) := by rw [Hid, floatB, if_pos hN]
    clear hN hn
    go_enter Tryd.func47, Tryd.ntmps47
    go_wp2_with fail
    go_ret
    refine ⟨_, rfl, ?_⟩
    rw [E.out]
    exact Fresh.lit w _ _ 3 rfl (by simp) rfl
  | false =>
    rw [hN] at r2
    obtain ⟨r, w1, hc1, hw1, hr, hv⟩ := conv_f32 n hN w
    obtain ⟨m, w2, hc2, hw2, hm1, hm2⟩ := conv_f64 r n hN hr w1
    have hb : Below w.heap.size w w2 := by
      rcases hw1 with rfl | rfl <;> rcases hw2 with rfl | rfl
      · exact Below.refl _ _
      · exact (Below.refl _ _).drew
      · exact (Below.refl _ _).drew
      · exact (Below.refl _ _).drew.drew
    have r3 := run_f64bits m
    have r4 := run_f32bits r
    have HNN := Lib.hid hN
    cases h2 : narrow n 8 23 with
    | none =>
      have hne : m ≠ n := fun h => by rw [hm1 h] at h2; cases h2
      have b1 : ((m : Int) != (n : Int)) = true := by rw [bne_iff_ne]; omega
      have p1 : (m = n) = False := eq_false hne
      have E : Hid (floatB n = u8 251 :: be8 n 8) := by rw [Hid, floatB, if_neg (by simp [hN]), narrow15_none hn h2, h2]
      have WD := Lib.hid (fun w3 : World => cbor_wide n hn w3)
      have hO := OwnB.lit w2 w.heap.size [u8 251] #[.int .u8 251] 1 rfl rfl hb.size (by simp)
      have hbz := hb.alloc hb.size (.cells #[.int .u8 251] 5)
      clear hm1 hm2 hv hN hn h2 hne hw1 hw2 hr
      go_enter Tryd.func47, Tryd.ntmps47
      go_wp2_with fail
      refine (WD.out _).mono ?_
      rintro e w3 ⟨rr, rfl, hf⟩
      obtain ⟨RA, rc, rfl, _⟩ := hf.own.form
      have hO3 := hO.below hf.2
      have hb3 := hbz.trans (hf.2.mono hbz.size)
      go_wp2_with (at_builtin; refine stop_in ?_)
      unfold Stopped
      refine wpList_app_bytes rfl (.tmp 21) (.tmp 23) rfl w.heap.size _ _ rfl hO3 RA _ rc (be8 n 8) rfl rfl hf.own.src (by simp [be8_length]) hb3.size fun v' w7 hO7 hg7 hat7 => ?_
      have hb7 := hb3.grown hg7 hb3.size (fun q hq => (hO3.lt q hq).1)
      clear hg7 hat7 hO3 hf
      go_wp2_with fail
      go_ret
      exact ⟨_, rfl, by rw [E.out]; exact ⟨hO7, hb7⟩⟩
    | some v =>
      obtain ⟨s, x, f, hx⟩ := narrow31_spec hn h2
      obtain rfl := hv s x f v hx
      obtain rfl := hm2 s x f hx
      have b1 : ((m : Int) != (m : Int)) = false := by simp
      have HF := half_of hx
      have HH := Lib.hid (fun w3 : World => cbor_half r hr w3)
      cases h5 : narrow m 5 10 with
      | some q =>
        rw [h5] at HF
        rw [HF] at HH
        have E : Hid (floatB m = [u8 249, u8 (q / 256), u8 q]) := by rw [Hid, floatB, if_neg (by simp [hN]), h5]
        clear hm1 hm2 hv hN hn h2 hw1 hw2 hr hx HF h5
        go_enter Tryd.func47, Tryd.ntmps47
        go_wp2_with fail
        refine (HH.out _).mono ?_
        rintro e w' ⟨⟨hq, rfl, he⟩, rfl⟩
        obtain rfl := he q rfl
        clear he
        go_wp2_with fail
        go_ret
        refine ⟨_, rfl, ?_⟩
        rw [E.out]
        refine (Fresh.lit w2 _ _ 3 rfl (by simp) ?_).step_ hb
        simp only [List.map_cons, List.map_nil, byteV_u8]
        simp
      | none =>
        rw [h5] at HF
        rw [HF] at HH
        have E : Hid (floatB m = [u8 250, u8 (r / 16777216), u8 (r / 65536), u8 (r / 256), u8 r]) := by rw [Hid, floatB, if_neg (by simp [hN]), h5, h2]
        clear hm1 hm2 hv hN hn h2 hw1 hw2 hr hx HF h5
        go_enter Tryd.func47, Tryd.ntmps47
        go_wp2_with fail
        refine (HH.out _).mono ?_
        rintro e w' ⟨⟨hq, rfl, _⟩, rfl⟩
        go_wp2_with fail
        go_ret
        refine ⟨_, rfl, ?_⟩
        rw [E.out]
        refine (Fresh.lit w2 _ _ 5 rfl (by simp) ?_).step_ hb
        simp only [List.map_cons, List.map_nil, byteV_u8]
        simp
end Go.Proofs.YtebcnkelbicbnaaDoor
namespace Go.Proofs.YtebcnkelbicbnaaDoor
open Go.RowKit

theorem cbor_float (n : Int) (w : World) (h0 : 0 ≤ n) (h1 : n < 18446744073709551616) :
    Calls Tryd.prog 47 #[.int .u64 n] w fun e w' => ∃ r, e = .returned r ∧ Fresh w (floatB n.toNat) r w' := by
  obtain ⟨m, rfl⟩ := Int.eq_ofNat_of_zero_le h0
  rw [Int.toNat_natCast]
  exact cbor_float_nat m (by omega) w

/-- In the range of a uint64. -/
def U64 (n : Int) : Prop := 0 ≤ n ∧ n < 18446744073709551616

/-- What a function that appends to its argument does. -/
def Adds (w : World) (base : Nat) (v : Value) (l : List UInt8) (e : Ending) (w' : World) : Prop :=
  ∃ r, e = .returned r ∧ OwnB w' base r l ∧ w.grownBy w' v.ownBlock ∧ At0 w v.ownBlock r.ownBlock

def AddSaid (x : Itm) : Prop := ∀ (H : Snap) (k n : Int) (ba : Option Addr) (bl bc : Nat) (ia : Option Addr) (il ic : Nat) (w : World) (base : Nat) (v : Value) (l : List UInt8),
  Kinds x → ItemA H k n ba bl bc ia il ic x → Holds w H → OwnB w base v l → base ≤ w.heap.size → (∀ g, v.ownBlock = some g → H g = none) → l.length + (encB x).length ≤ 1099511627776 →
  Calls Tryd.prog 31 #[v, .agg #[.int .i64 k, .int .u64 n, .slice ba bl bc, .slice ia il ic]] w (Adds w base v (l ++ encB x))

set_option maxRecDepth 100000 in
set_option maxHeartbeats 800000 in
theorem add_float (x : Itm) (h8 : x.kind = 8) : AddSaid x := by
  intro H k n ba bl bc ia il ic w base v l hk hx hH hown hbase hv hlen
  obtain ⟨rfl, rfl, rfl, rfl, hx⟩ := hx
  have hbd := hx.bounds
  have E : Hid (encB x = floatB x.n) := by rw [Hid, encB_eq, if_pos h8]
  rw [E.out] at hlen
  have HL := Lib.hid hlen
  have HB := Lib.hid hbd
  have HV := Lib.hid hv
  clear hlen hbd hv
  go_enter Tryd.func31, Tryd.ntmps31
  go_wp2_with (first
    | (go_at_call 47; refine (cbor_float _ _ (by omega) (by have := HB.out; omega)).mono ?_; rintro e w1 ⟨r, rfl, hf⟩; obtain ⟨A, c, rfl, _, _, hsrc⟩ := hf.own.form)
    | (at_builtin; refine wpList_app_bytes rfl (.tmp 11) (.tmp 14) rfl base v l rfl ((hown.alloc _).below hf.2) A _ c (floatB x.n) rfl (by simp) (by simpa using hsrc) HL.out (by have := hf.2.size; simp at this; omega) ?_; intro v' w2 hown' hg hat))
  go_ret
  refine ⟨v', rfl, by rw [E.out]; exact hown', ?_, ?_⟩
  · exact grown_step (grown_of_below ((below_box w _).trans (hf.2.mono (by simp))) _) hg (.inl rfl)
  · exact At0.step (.inl rfl) (by have := hf.2.size; simp at this; omega) hat

set_option maxRecDepth 100000 in
set_option maxHeartbeats 800000 in
theorem add_simple (x : Itm) (h7 : x.kind = 7) (h24 : 24 ≤ x.n) : AddSaid x := by
  intro H k n ba bl bc ia il ic w base v l hk hx hH hown hbase hv hlen
  obtain ⟨rfl, rfl, rfl, rfl, hx⟩ := hx
  have hbd := hx.bounds
  have E : Hid (encB x = [u8 248, u8 x.n]) := by rw [Hid, encB_eq, if_neg (by omega), if_pos ⟨h7, h24⟩]
  rw [E.out] at hlen
  have HL := Lib.hid hlen
  have HB := Lib.hid hbd
  have HV := Lib.hid hv
  have h24' : (24 : Int) ≤ (x.n : Int) := by omega
  clear hlen hbd hv h24
  go_enter Tryd.func31, Tryd.ntmps31
  go_wp2_with (at_builtin; refine wpList_app_bytes rfl (.tmp 25) (.tmp 29) rfl base v l rfl ((hown.alloc _).alloc _) _ 2 2 [u8 248, u8 x.n] rfl rfl ?hs HL.out (by simp; omega) ?_)
  case hs => exact Src.new _ _ _ _ (by simp) _ (by simp [u8_toNat])
  intro v' w2 hown' hg hat
  go_wp2
  go_ret
  refine ⟨v', rfl, by rw [E.out]; exact hown', ?_, ?_⟩
  · exact grown_step (grown_of_below ((below_box w _).alloc (by simp) _) _) hg (.inl rfl)
  · exact At0.step (.inl rfl) (by simp; omega) hat


theorem cell_box {w : World} {g : Nat} {cs : Array Value} {e : TypeId} (h : w.heap[g]? = some (.cells cs e (0, 0))) (i : Nat) : w.cell? ⟨g, i, none⟩ = cs[i]? := cell_of_row w g i cs e (0, 0) h
theorem more_box {w w1 w2 w3 : World} {base : Nat} {v : Value} {l : List UInt8} {cs : Array Value} {e : TypeId} (hown : OwnB w base v l)
    (h1 : Below (w.alloc (.cells cs e)).heap.size (w.alloc (.cells cs e)) w1) (h2 : Below w1.heap.size w1 w2) (h3 : w2.grownBy w3 v.ownBlock) :
    w3.heap[w.heap.size]? = some (.cells cs e (0, 0)) ∧ w.heap.size + 1 ≤ w3.heap.size := by
  have s1 := h1.size
  have s2 := h2.size
  have s3 := h3.size
  simp at s1
  refine ⟨?_, by omega⟩
  rw [h3.block _ (by omega) (fun h => by have := (hown.lt _ h.symm).2; omega), h2.block _ (by omega), h1.block _ (by simp)]
  exact heap_alloc_new w _

set_option maxRecDepth 100000 in
set_option maxHeartbeats 1600000 in
theorem add_more (x : Itm) (h8 : ¬ x.kind = 8) (h7 : ¬ (x.kind = 7 ∧ 24 ≤ x.n)) (ih : ∀ y : Itm, cnt y < cnt x → AddSaid y) : AddSaid x := by
  intro H k n ba bl bc ia il ic w base v l hk hx hH hown hbase hv hlen
  obtain ⟨rfl, rfl, rfl, rfl, hx⟩ := hx
  have hbd := hx.bounds
  have E : Hid (encB x = headB x.kind.toNat (numP x) ++ x.bytes ++ encL x.items) := by rw [Hid, encB_eq, if_neg h8, if_neg h7]
  rw [E.out] at hlen
  have hkk := hk.kind
  have hx8 : x.kind < 8 := by omega
  have b8 : (x.kind == 8) = false := by simp [h8]
  have hN0 : (numP x : Int) < 18446744073709551616 := by
    unfold numP
    repeat' split
    all_goals omega
  have HN : U64 (numP x) := ⟨by omega, hN0⟩
  clear hN0
  have hn24 : x.kind = 7 → (x.n : Int) < 24 := fun h => by have : ¬ 24 ≤ x.n := fun h' => h7 ⟨h, h'⟩; omega
  have HL := Lib.hid hlen
  have HB := Lib.hid hbd
  have HV := Lib.hid hv
  clear hlen hbd hv h8 h7
  have hkb : ((x.kind == 7) = true ∧ (x.n : Int) < 24) ∨ (x.kind == 7) = false := by
    by_cases hk7 : x.kind = 7
    · exact .inl ⟨by simp [hk7], hn24 hk7⟩
    · exact .inr (by simp [hk7])
  clear hn24
  have G : Hid (w.grownBy w none) := grown_refl w none
  rcases hkb with ⟨b7, hn⟩ | b7
  all_goals
    go_enter Tryd.func31, Tryd.ntmps31
    go_wp2_with fail
    refine (cbor_major hx.arg _ (by omega) (by omega)).mono ?_
    rintro e w1 ⟨rfl, hm⟩
    go_wp2_with fail
    refine (cbor_head _ _ _ (by omega) (by omega) (by omega) HN.2).mono ?_
    rintro e w2 ⟨r, rfl, hf⟩
    obtain ⟨A, c, rfl, _, _, hsrc⟩ := hf.own.form
    have hs1 : w.heap.size + 1 ≤ w1.heap.size := by have h1 := hm.size; simp at h1; omega
    have hs2 : w.heap.size + 1 ≤ w2.heap.size := by have h1 := hm.size; have h2 := hf.2.size; simp at h1; omega
    go_wp2_with (at_builtin; refine stop_in ?_)
    unfold Stopped
    refine wpList_app_bytes rfl (.tmp 31) (.tmp 36) rfl base v l rfl (((hown.alloc _).below hm).below hf.2) A _ c (headB x.kind.toNat (numP x)) rfl (by simp) (by simpa using hsrc) (by have := HL.out; simp at this ⊢; omega) (by omega) ?_
    intro v3 w3 hown3 hg3 hat3
    obtain ⟨hbx3, hs3⟩ := more_box hown hm hf.2 hg3
    have hc2 := cell_box hbx3 2
    have hc3 := cell_box hbx3 3
    simp at hc2 hc3
    have hH3 : Holds w3 H := (((hH.alloc _).below hm (Nat.le_refl _)).below hf.2 (Nat.le_refl _)).grown hg3 HV.out
    have hsrc5 := Src.of_row hx.bytes.row hH3
    have hG3 : w.grownBy w3 v.ownBlock := grown_step (grown_of_below (((below_box w _).trans (hm.mono (by simp))).trans (hf.2.mono (by omega))) _) hg3 (.inl rfl)
    go_wp2_with (at_builtin; refine stop_in ?_)
    unfold Stopped
    refine wpList_app_bytes rfl (.tmp 38) (.tmp 40) rfl base v3 _ rfl hown3 ba _ bc x.bytes rfl rfl hsrc5 (by have := HL.out; simp at this ⊢; omega) (by omega) ?_
    intro v4 w4 hown4 hg4 hat4
    have hH4 : Holds w4 H := hH3.grown hg4 (fun g hg => by
      rcases hat3 with h | ⟨g', h, hg'⟩
      · exact HV.out g (h ▸ hg)
      · rw [h] at hg; injection hg with hg; subst hg; exact hH.none_of_ge (by omega))
    have hat34 : At0 w v.ownBlock v3.ownBlock := At0.step (.inl rfl) (by omega) hat3
    have hG4 : w.grownBy w4 v.ownBlock := grown_step hG3 hg4 hat34
    have hbx4 : w4.heap[w.heap.size]? = some (.cells #[.int .i64 x.kind, .int .u64 x.n, .slice ba x.bytes.length bc, .slice ia x.items.length ic] 34 (0, 0)) :=
      (hg4.block _ (by omega) (fun h => by
        rcases hat34 with h' | ⟨g', h', hg'⟩
        · rw [h'] at h; have := (hown.lt _ h.symm).2; omega
        · rw [h'] at h; injection h with h; subst h
          rcases hat3 with h3 | ⟨g3, h3, hg3'⟩
          · rw [h3] at h'; have := (hown.lt _ h').2; omega
          · rw [h'] at h3; injection h3 with h3; omega)).trans hbx3
    have hc43 := cell_box hbx4 3
    simp at hc43
    have hat44 : At0 w v.ownBlock v4.ownBlock := At0.step hat34 (by omega) hat4
    clear hc2 hc3 hbx3 hbx4
    go_wp2_with (at_builtin; refine stop_in ?_)
    have hil : x.items.length ≤ 9223372036854775807 := by have := HB.out; omega
    go_loopw [0, 45] (fun v' i wr => ∃ k : Nat, k ≤ x.items.length ∧ i = .int .i64 k ∧ OwnB wr base v' (l ++ headB x.kind.toNat (numP x) ++ x.bytes ++ encL (x.items.take k)) ∧
        w.grownBy wr v.ownBlock ∧ At0 w v.ownBlock v'.ownBlock) (fun _ i _ => x.items.length - (intOf i).toNat)
    case atStart => exact ⟨0, Nat.zero_le _, rfl, by simpa [encL] using hown4, hG4, hat44⟩
    case round =>
      obtain ⟨k, hkl, rfl, hown5, hG5, hat5⟩ := hrel
      by_cases hlt : k < x.items.length
      · have hH5 : Holds wr H := hH.grown hG5 HV.out
        obtain ⟨ib, io, hia, hel⟩ := hx.items (by omega)
        obtain ⟨eba, ebc, eia, eic, q0, q1, q2, q3, hex⟩ := hel.get k hlt
        subst hia
        have p0 := hH5.cell q0
        have p1 := hH5.cell q1
        have p2 := hH5.cell q2
        have p3 := hH5.cell q3
        have hfin := encL_take_succ x.items k hlt
        have hle := encL_take_le x.items (k + 1)
        have hrow : ∀ g, u0.ownBlock = some g → H g = none := fun g hg => by
          rcases hat5 with h | ⟨g', h, hg'⟩
          · exact HV.out g (h ▸ hg)
          · rw [h] at hg; injection hg with hg; subst hg; exact hH.none_of_ge hg'
        have hs5 := hG5.size
        have hlen5 : (l ++ headB x.kind.toNat (numP x) ++ x.bytes ++ encL (x.items.take k)).length + (encB x.items[k]).length ≤ 1099511627776 := by
          have h1 := HL.out
          rw [hfin] at hle
          simp only [List.length_append] at h1 hle ⊢
          omega
        have IHC := ih x.items[k] (cnt_items x k hlt) H _ _ eba _ ebc eia _ eic (wr.alloc (.cells #[.int .i64 x.items[k].kind, .int .u64 x.items[k].n, .slice eba x.items[k].bytes.length ebc, .slice eia x.items[k].items.length eic] 34)) base u0 _
          (hk.items.get k hlt) hex.arg (hH5.alloc _) (hown5.alloc _) (by simp; omega) hrow hlen5
        have IHH := Lib.hid IHC
        have HF := Lib.hid hfin
        clear hfin hle hlen5 hrow q0 q1 q2 q3 IHC
        go_wp2_with fail
        refine IHH.out.mono ?_
        rintro e w6 ⟨r6, rfl, hown6, hg6, hat6⟩
        have R : OwnB w6 base r6 (l ++ headB x.kind.toNat (numP x) ++ x.bytes ++ encL (x.items.take (k + 1))) ∧ w.grownBy w6 v.ownBlock ∧ At0 w v.ownBlock r6.ownBlock := by
          refine ⟨by rw [HF.out]; simpa using hown6, grown_step (grown_alloc hG5 _) hg6 hat5, At0.step hat5 (by simp; omega) hat6⟩
        clear hown6 hg6 hat6 hown5 hG5 hat5 IHH HF p0 p1 p2 p3
        go_wp2_with fail
        go_roundw
        case rel => exact ⟨k + 1, by omega, by go_num, R.1, R.2.1, R.2.2⟩
        case measure => simp [intOf]; omega
      · have hkk : k = x.items.length := by omega
        subst hkk
        rw [List.take_length] at hown5
        go_wp2_with fail
        go_ret
        exact ⟨_, rfl, by rw [E.out]; simpa using hown5, hG5, hat5⟩

theorem cbor_add (x : Itm) : AddSaid x := by
  have main : ∀ N, ∀ x : Itm, cnt x ≤ N → AddSaid x := by
    intro N
    induction N with
    | zero =>
      intro x hx
      have : 0 < cnt x := by cases x; rw [cnt]; omega
      omega
    | succ N ih =>
      intro x hx
      by_cases h8 : x.kind = 8
      · exact add_float x h8
      · by_cases h7 : x.kind = 7 ∧ 24 ≤ x.n
        · exact add_simple x h7.1 h7.2
        · exact add_more x h8 h7 fun y hy => ih y (by omega)
  exact main _ x (Nat.le_refl _)
end Go.Proofs.YtebcnkelbicbnaaDoor
namespace Go.Proofs.YtebcnkelbicbnaaDoor
open Go.RowKit

theorem nn_eq (n : Nat) : ((n : Int) == 9221120237041090560) = (n == 9221120237041090560) := by rw [Bool.eq_iff_iff, beq_iff_eq, beq_iff_eq]; omega
theorem len0 {α : Type} (l : List α) : ((l.length : Int) == 0) = l.isEmpty := by cases l <;> simp <;> omega
theorem tup2 {a b c d : Bool} (h : a = b) (k : c = d) : Ending.returned (.tuple #[.bool a, .bool c]) = Ending.returned (.tuple #[.bool b, .bool d]) := by rw [h, k]

set_option maxRecDepth 100000 in
set_option maxHeartbeats 1600000 in
theorem plain_a {H : Snap} {x : Itm} {ba : Option Addr} {bc : Nat} {ia : Option Addr} {ic : Nat} (hx : IsItem H ba bc ia ic x) (w : World) (hk : x.kind = 0 ∨ x.kind = 1 ∨ x.kind = 2 ∨ x.kind = 7):
    Calls Tryd.prog 61 #[itemV x ba bc ia ic] w fun e w' => e = .returned (.tuple #[.bool (okPlain x), .bool (isPlain x)]) ∧ Below w.heap.size w w' := by
  obtain ⟨_, _, hn, hb1, hb2, hi1, hi2⟩ := hx.bounds
  have hb : x.bytes.length ≤ 9223372036854775807 := by omega
  have hi : x.items.length ≤ 9223372036854775807 := by omega
  have HN := Lib.hid hn
  clear hb1 hb2 hi1 hi2 hx hn
  rcases hk with hk | hk | hk | hk
  all_goals
    have E : Hid (okPlain x = okPlain x ∧ isPlain x = true) := ⟨rfl, by simp [isPlain, hk]⟩
    go_enter Tryd.func61, Tryd.ntmps61
    go_wp2
    all_goals go_ret2
  all_goals refine ⟨tup2 ?_ E.out.2.symm, ?_⟩
  all_goals first | exact below_box w _ | exact (below_box w _).drew | skip
  all_goals (simp [okPlain, len0, *]; try (rw [Bool.eq_iff_iff]; simp; omega); skip)
  all_goals omega

set_option maxRecDepth 100000 in
set_option maxHeartbeats 1600000 in
theorem plain_t {H : Snap} (hT : Tabs H) {x : Itm} {ba : Option Addr} {bc : Nat} {ia : Option Addr} {ic : Nat} (hx : IsItem H ba bc ia ic x) (w : World) (hH : Holds w H) (hk : x.kind = 3):
    Calls Tryd.prog 61 #[itemV x ba bc ia ic] w fun e w' => e = .returned (.tuple #[.bool (okPlain x), .bool (isPlain x)]) ∧ Below w.heap.size w w' := by
  obtain ⟨_, _, hn, hb1, hb2, hi1, hi2⟩ := hx.bounds
  have hb : x.bytes.length ≤ 9223372036854775807 := by omega
  have hi : x.items.length ≤ 9223372036854775807 := by omega
  have HN := Lib.hid hn
  have hby := hx.bytes
  clear hb1 hb2 hi1 hi2 hx hn
  have E : Hid (isPlain x = true) := by simp [Hid, isPlain, hk]
  go_enter Tryd.func61, Tryd.ntmps61
  go_wp2_with (go_at_call 88; refine (utf8_Valid hT _ (hH.alloc _) ba _ _ bc rfl hby).mono ?_; rintro e w1 ⟨rfl, hb1⟩)
  all_goals go_ret2
  all_goals refine ⟨tup2 ?_ E.out.symm, ?_⟩
  all_goals first | exact (below_box w _).trans (hb1.mono (by simp)) | exact below_box w _ | exact (below_box w _).drew | skip
  all_goals (simp [okPlain, *])

set_option maxRecDepth 100000 in
set_option maxHeartbeats 1600000 in
theorem plain_f {H : Snap} {x : Itm} {ba : Option Addr} {bc : Nat} {ia : Option Addr} {ic : Nat} (hx : IsItem H ba bc ia ic x) (w : World) (hk : x.kind = 8) :
    Calls Tryd.prog 61 #[itemV x ba bc ia ic] w fun e w' => e = .returned (.tuple #[.bool (okPlain x), .bool (isPlain x)]) ∧ Below w.heap.size w w' := by
  obtain ⟨_, _, hn, hb1, hb2, hi1, hi2⟩ := hx.bounds
  have hb : x.bytes.length ≤ 9223372036854775807 := by omega
  have hi : x.items.length ≤ 9223372036854775807 := by omega
  have HN := Lib.hid hn
  clear hb1 hb2 hi1 hi2 hx hn
  have E : Hid (isPlain x = true) := by simp [Hid, isPlain, hk]
  go_enter Tryd.func61, Tryd.ntmps61
  have r1 := run_f64frombits x.n
  have r2 := order_feq x.n
  go_wp2
  all_goals go_ret2
  all_goals refine ⟨tup2 ?_ E.out.symm, ?_⟩
  all_goals first | exact below_box w _ | exact (below_box w _).drew | skip
  all_goals simp [okPlain, notNumber, nn_eq, *]

set_option maxRecDepth 100000 in
set_option maxHeartbeats 1600000 in
theorem plain_o {x : Itm} {ba : Option Addr} {bc : Nat} {ia : Option Addr} {ic : Nat} (w : World) (hk : isPlain x = false) :
    Calls Tryd.prog 61 #[itemV x ba bc ia ic] w fun e w' => e = .returned (.tuple #[.bool (okPlain x), .bool (isPlain x)]) ∧ Below w.heap.size w w' := by
  have h : (x.kind == 0) = false ∧ (x.kind == 1) = false ∧ (x.kind == 2) = false ∧ (x.kind == 3) = false ∧ (x.kind == 7) = false ∧ (x.kind == 8) = false := by
    simp only [isPlain, Bool.or_eq_false_iff] at hk
    simp only [hk, and_self]
  obtain ⟨h0, h1, h2, h3, h7, h8⟩ := h
  have E : Hid (isPlain x = false ∧ okPlain x = false) := ⟨hk, by
    simp only [beq_eq_false_iff_ne, ne_eq] at h0 h1 h2 h3 h7 h8
    simp [okPlain, *]⟩
  clear hk
  go_enter Tryd.func61, Tryd.ntmps61
  go_wp2
  go_ret2
  exact ⟨tup2 E.out.2.symm E.out.1.symm, below_box w _⟩

theorem cbor_plain {H : Snap} (hT : Tabs H) {k n : Int} {ba : Option Addr} {bl bc : Nat} {ia : Option Addr} {il ic : Nat} {x : Itm} (hx : ItemA H k n ba bl bc ia il ic x) (w : World) (hH : Holds w H) :
    Calls Tryd.prog 61 #[.agg #[.int .i64 k, .int .u64 n, .slice ba bl bc, .slice ia il ic]] w fun e w' => e = .returned (.tuple #[.bool (okPlain x), .bool (isPlain x)]) ∧ Below w.heap.size w w' := by
  obtain ⟨rfl, rfl, rfl, rfl, hx⟩ := hx
  by_cases h3 : x.kind = 3
  · exact plain_t hT hx w hH h3
  by_cases h8 : x.kind = 8
  · exact plain_f hx w h8
  by_cases ha : x.kind = 0 ∨ x.kind = 1 ∨ x.kind = 2 ∨ x.kind = 7
  · exact plain_a hx w ha
  · exact plain_o w (by simp [isPlain]; omega)
end Go.Proofs.YtebcnkelbicbnaaDoor
