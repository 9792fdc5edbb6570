/- squeezed. Walks: cbor.float. -/
import Derived.Test.YtlebpackbfcfeaaDoorJ09
set_option linter.unusedVariables false
set_option linter.unusedSimpArgs false
namespace Go.Proofs.YtlebpackbfcfeaaDoor
open Go.RowKit

theorem conv_f32 (n : Nat) (hN : isNaN n = false) (w : World) : ∃ r w', (convert 129 130 (.float .f64 n)).run Tryd.prog w = .ok (.float .f32 r) w' ∧ (w' = w ∨ w' = w.drew) ∧ r < 4294967296 ∧ (∀ s x f v, Nar31 n v s x f → r = v) := by
 have hs : Tryd.prog.underlying 129 = some (.float .f64) := Tryd.underlying129
 have hd : Tryd.prog.underlying 130 = some (.float .f32) := Tryd.underlying130
 cases hb : floatToFloatBits .f64 n .f32 with
 | some r =>
   have hs' : (Tryd.prog.underlying 129).isSome = true := by rw [hs]; rfl
   refine ⟨r, w, run_convert_float_float (P := Tryd.prog) (w := w) 129 130 .f64 .f32 n r hs' hd hb, .inl rfl, ?_, ?_⟩
   · unfold floatToFloatBits at hb
     rw [if_neg (by decide)] at hb
     have hlt : ∀ d : Ieee.Datum, FloatKind.encode .f32 d < 4294967296 := fun d => Ieee.single.write_lt d
     split at hb
     · cases hb
     · injection hb with hb; rw [← hb]; exact hlt _
     · split at hb
       · cases hb
       · injection hb with hb; rw [← hb]; exact hlt _
   · intro s x f v h
     have := slim_of h
     rw [hb] at this
     injection this
 | none =>
   have hbb := hb
   unfold floatToFloatBits at hb
   rw [if_neg (by decide)] at hb
   have hnn : ¬ (∃ a b, FloatKind.decode .f64 n = .nan a b) := by
     rintro ⟨a, b, h⟩
     have := read_nan n
     rw [hN] at this
     have h' : Ieee.double.read n = .nan a b := h
     rw [h'] at this
     cases this
   cases hq : FloatKind.decode .f64 n with
   | nan a b => exact absurd ⟨a, b, hq⟩ hnn
   | infinity a => rw [hq] at hb; cases hb
   | number a b c =>
     rw [hq] at hb
     simp only at hb
     split at hb
     · rename_i ho
       refine ⟨(Question.floatToFloat n).cut (w.tape w.drawn (Question.floatToFloat n)), w.drew, ?_, .inr rfl, ?_, ?_⟩
       · simp [convert, run_underlying hs, run_underlying hd, Conv.floatToFloat, hq, ho, Question.forced]
       · show _ % 2 ^ 32 < 4294967296
         omega
       · intro s x f v h
         have := slim_of h
         rw [hbb] at this
         cases this
     · cases hb
theorem conv_f64 (r n : Nat) (hN : isNaN n = false) (hr : r < 4294967296) (w : World) : ∃ m w', (convert 130 129 (.float .f32 r)).run Tryd.prog w = .ok (.float .f64 m) w' ∧ (w' = w ∨ w' = w.drew) ∧ (m = n → narrow n 8 23 = some r) ∧ (∀ s x f, Nar31 n r s x f → m = n) := by
 have hs : Tryd.prog.underlying 130 = some (.float .f32) := Tryd.underlying130
 have hd : Tryd.prog.underlying 129 = some (.float .f64) := Tryd.underlying129
 cases hn : (Ieee.single.read r).isNaN with
 | false =>
   obtain ⟨m, s, x, f, _, hx⟩ := single_fields hr hn
   have hw := wide_of hx
   have hs' : (Tryd.prog.underlying 130).isSome = true := by rw [hs]; rfl
   refine ⟨m, w, run_convert_float_float (P := Tryd.prog) (w := w) 130 129 .f32 .f64 r m hs' hd hw, .inl rfl, ?_, ?_⟩
   · rintro rfl
     exact narrow31_of hx
   · intro s' x' f' h
     have := wide_of h
     rw [hw] at this
     injection this
 | true =>
   cases hq : FloatKind.decode .f32 r with
   | number a b c =>
     have h' : Ieee.single.read r = .number a b c := hq
     rw [h'] at hn; cases hn
   | infinity a =>
     have h' : Ieee.single.read r = .infinity a := hq
     rw [h'] at hn; cases hn
   | nan a b =>
     refine ⟨(Question.nanConv .f64 r).cut (w.tape w.drawn (Question.nanConv .f64 r)), w.drew, ?_, .inr rfl, ?_, ?_⟩
     · simp [convert, run_underlying hs, run_underlying hd, Conv.floatToFloat, hq, Question.forced]
     · intro h
       exfalso
       have hnan : isNaN ((Question.nanConv .f64 r).cut (w.tape w.drawn (Question.nanConv .f64 r))) = true := by
         rw [isNaN_iff]
         show (_ % 2 * 2 ^ 63 + 0x7ff0000000000000 + 1 + _ / 2 % (2 ^ 52 - 1)) / 2 ^ 52 % 2048 = 2047 ∧ _
         generalize w.tape w.drawn (Question.nanConv .f64 r) = t
         show (t % 2 * 2 ^ 63 + 0x7ff0000000000000 + 1 + t / 2 % (2 ^ 52 - 1)) / 2 ^ 52 % 2048 = 2047 ∧ (t % 2 * 2 ^ 63 + 0x7ff0000000000000 + 1 + t / 2 % (2 ^ 52 - 1)) % 2 ^ 52 ≠ 0
         generalize t / 2 = u
         have : t % 2 = 0 ∨ t % 2 = 1 := by omega
         rcases this with h | h <;> rw [h] <;> simp only [Nat.reducePow, Nat.reduceSub, Nat.reduceMul, Nat.reduceAdd, Nat.zero_add] <;> omega
       rw [h, hN] at hnan
       cases hnan
     · intro s x f h
       have := read_s h
       have h' : Ieee.single.read r = .nan a b := hq
       rw [h'] at this
       split at this
       · cases this
       · split at this <;> cases this

theorem Fresh.step_ {w w1 w2 : World} {l : List UInt8} {r : Value} (hb : Below w.heap.size w w1) (h : Fresh w1 l r w2) : Fresh w l r w2 := ⟨h.own.more hb.size, hb.trans (h.2.mono hb.size)⟩
theorem narrow15_none {n : Nat} (hn : n < 18446744073709551616) (h : narrow n 8 23 = none) : narrow n 5 10 = none := by
 cases h5 : narrow n 5 10 with
 | none => rfl
 | some v =>
   obtain ⟨s, x, f, a1, a2, a3, a4, a5⟩ := narrow15_spec hn h5
   have done : ∀ {x' f' : Nat}, Nar31 n (s * 2147483648 + x' * 8388608 + f') s x' f' → False := fun hx => by
     rw [narrow31_of hx] at h
     cases h
   rcases a5 with ⟨c1, c2, c3⟩ | ⟨c1, c2, c3⟩ | ⟨c1, c2, c3⟩ | ⟨c1, t, full, c2, c3, c4, c5, c6, c7⟩
   · exact (done (x' := 255) (f' := 0) ⟨a1, rfl, by omega, by omega, .inl ⟨rfl, rfl, c3⟩⟩).elim
   · exact (done (x' := 0) (f' := 0) ⟨a1, rfl, by omega, by omega, .inr (.inl ⟨rfl, rfl, c3⟩)⟩).elim
   · have C3 : n = s * 9223372036854775808 + (x + 112 + 896) * 4503599627370496 + f * 8192 * 536870912 := by
       rw [c3, Nat.mul_assoc f 8192, Nat.add_assoc x 112]
     have C := Lib.hid C3
     clear c3 C3
     have g1 : f * 8192 < 8388608 := by omega
     have g2 : x + 112 ≤ 255 := by omega
     have g3 : 1 ≤ x + 112 := by omega
     have g4 : x + 112 ≤ 254 := by omega
     exact (done (x' := x + 112) (f' := f * 8192) ⟨a1, rfl, g1, g2, .inr (.inr (.inl ⟨g3, g4, C.out⟩))⟩).elim
   · have C := Lib.hid c7
     clear c7
     have e1 : full = f * 2 ^ (23 - t) * 536870912 := by
       rw [c5, Nat.mul_assoc, show (536870912 : Nat) = 2 ^ 29 from rfl, ← Nat.pow_add, show 23 - t + 29 = 52 - t by omega]
     have e2 : 2 ^ (t + 1) * 2 ^ (52 - t) = 9007199254740992 := by
       rw [← Nat.pow_add, show t + 1 + (52 - t) = 53 by omega]
     have b2 := Nat.mul_lt_mul_of_pos_right c4 (Nat.two_pow_pos (52 - t))
     rw [e2, ← c5] at b2
     obtain ⟨q, hq⟩ : ∃ q, f * 2 ^ (23 - t) = q := ⟨_, rfl⟩
     rw [hq] at e1
     have g0 : 8388608 ≤ q ∧ q < 16777216 := by clear a2; omega
     have g5 : full - 4503599627370496 = (q - 8388608) * 536870912 := by clear a2; omega
     have g1 : q - 8388608 < 8388608 := by omega
     have g2 : 103 + t ≤ 255 := by omega
     have g3 : 1 ≤ 103 + t := by omega
     have g4 : 103 + t ≤ 254 := by omega
     have C3 : n = s * 9223372036854775808 + (103 + t + 896) * 4503599627370496 + (q - 8388608) * 536870912 := by
       rw [C.out, g5, show 103 + t + 896 = 999 + t by omega]
     exact (done (x' := 103 + t) (f' := q - 8388608) ⟨a1, rfl, g1, g2, .inr (.inr (.inl ⟨g3, g4, C3⟩))⟩).elim
set_option maxRecDepth 100000 in
set_option maxHeartbeats 3200000 in
theorem cbor_float_nat (n : Nat) (hn : n < 18446744073709551616) (w : World) :
   Calls Tryd.prog 95 #[.int .u64 (n : Int)] w fun e w' => ∃ r, e = .returned r ∧ Fresh w (floatB n) r w' := by
 have r1 := run_f64frombits n
 have r2 := order_fne n
 cases hN : isNaN n with
 | true =>
   rw [hN] at r2
   have E : Hid (floatB n = [u8 249, u8 126, u8 0]) := by rw [Hid, floatB, if_pos hN]
   clear hN hn
   go_enter Tryd.func95, Tryd.ntmps95
   go_wp2_with fail
   go_ret
   refine ⟨_, rfl, ?_⟩
   rw [E.out]
   exact Fresh.lit w _ _ 3 rfl (by simp) rfl
 | false =>
   rw [hN] at r2
   obtain ⟨r, w1, hc1, hw1, hr, hv⟩ := conv_f32 n hN w
   obtain ⟨m, w2, hc2, hw2, hm1, hm2⟩ := conv_f64 r n hN hr w1
   have hb : Below w.heap.size w w2 := by
     rcases hw1 with rfl | rfl <;> rcases hw2 with rfl | rfl
     · exact Below.refl _ _
     · exact (Below.refl _ _).drew
     · exact (Below.refl _ _).drew
     · exact (Below.refl _ _).drew.drew
   have r3 := run_f64bits m
   have r4 := run_f32bits r
   have HNN := Lib.hid hN
   cases h2 : narrow n 8 23 with
   | none =>
     have hne : m ≠ n := fun h => by rw [hm1 h] at h2; cases h2
     have b1 : ((m : Int) != (n : Int)) = true := by rw [bne_iff_ne]; omega
     have p1 : (m = n) = False := eq_false hne
     have E : Hid (floatB n = u8 251 :: be8 n 8) := by rw [Hid, floatB, if_neg (by simp [hN]), narrow15_none hn h2, h2]
     have WD := Lib.hid (fun w3 : World => cbor_wide n hn w3)
     have hO := OwnB.lit w2 w.heap.size [u8 251] #[.int .u8 251] 1 rfl rfl hb.size (by simp)
     have hbz := hb.alloc hb.size (.cells #[.int .u8 251] 5)
     clear hm1 hm2 hv hN hn h2 hne hw1 hw2 hr
     go_enter Tryd.func95, Tryd.ntmps95
     go_wp2_with fail
     refine (WD.out _).mono ?_
     rintro e w3 ⟨rr, rfl, hf⟩
     obtain ⟨RA, rc, rfl, _⟩ := hf.own.form
     have hO3 := hO.below hf.2
     have hb3 := hbz.trans (hf.2.mono hbz.size)
     go_wp2_with (at_builtin; refine stop_in ?_)
     unfold Stopped
     refine wpList_app_bytes rfl (.tmp 21) (.tmp 23) rfl w.heap.size _ _ rfl hO3 RA _ rc (be8 n 8) rfl rfl hf.own.src (by simp [be8_length]) hb3.size fun v' w7 hO7 hg7 hat7 => ?_
     have hb7 := hb3.grown hg7 hb3.size (fun q hq => (hO3.lt q hq).1)
     clear hg7 hat7 hO3 hf
     go_wp2_with fail
     go_ret
     exact ⟨_, rfl, by rw [E.out]; exact ⟨hO7, hb7⟩⟩
   | some v =>
     obtain ⟨s, x, f, hx⟩ := narrow31_spec hn h2
     obtain rfl := hv s x f v hx
     obtain rfl := hm2 s x f hx
     have b1 : ((m : Int) != (m : Int)) = false := by simp
     have HF := half_of hx
     have HH := Lib.hid (fun w3 : World => cbor_half r hr w3)
     cases h5 : narrow m 5 10 with
     | some q =>
       rw [h5] at HF
       rw [HF] at HH
       have E : Hid (floatB m = [u8 249, u8 (q / 256), u8 q]) := by rw [Hid, floatB, if_neg (by simp [hN]), h5]
       clear hm1 hm2 hv hN hn h2 hw1 hw2 hr hx HF h5
       go_enter Tryd.func95, Tryd.ntmps95
       go_wp2_with fail
       refine (HH.out _).mono ?_
       rintro e w' ⟨⟨hq, rfl, he⟩, rfl⟩
       obtain rfl := he q rfl
       clear he
       go_wp2_with fail
       go_ret
       refine ⟨_, rfl, ?_⟩
       rw [E.out]
       refine (Fresh.lit w2 _ _ 3 rfl (by simp) ?_).step_ hb
       simp only [List.map_cons, List.map_nil, byteV_u8]
       simp
     | none =>
       rw [h5] at HF
       rw [HF] at HH
       have E : Hid (floatB m = [u8 250, u8 (r / 16777216), u8 (r / 65536), u8 (r / 256), u8 r]) := by rw [Hid, floatB, if_neg (by simp [hN]), h5, h2]
       clear hm1 hm2 hv hN hn h2 hw1 hw2 hr hx HF h5
       go_enter Tryd.func95, Tryd.ntmps95
       go_wp2_with fail
       refine (HH.out _).mono ?_
       rintro e w' ⟨⟨hq, rfl, _⟩, rfl⟩
       go_wp2_with fail
       go_ret
       refine ⟨_, rfl, ?_⟩
       rw [E.out]
       refine (Fresh.lit w2 _ _ 5 rfl (by simp) ?_).step_ hb
       simp only [List.map_cons, List.map_nil, byteV_u8]
       simp
end Go.Proofs.YtlebpackbfcfeaaDoor
