/- squeezed. Walks: cbor.head. Walks: cbor.majo -/
import Derived.Test.YtmacemcajlgddaaGreatDoorK03
import Derived.RegionTactic
import Derived.ChangeAlike
import Derived.Test.YtmacemcajlgddaaGreatDoorK06
import Derived.Laws.FloatArith
import Derived.Test.YtmacemcajlgddaaGreatDoorK04
set_option linter.unusedVariables false
set_option linter.unusedSimpArgs false
set_option maxRecDepth 100000
set_option maxHeartbeats 3200000
namespace Go.Proofs.YtmacemcajlgddaaGreatDoor
open Go.RowKit
theorem cbor_head (m n : Int) (w : World) (hm0 : 0 ≤ m) (hm : m < 8) (h0 : 0 ≤ n) (h1 : n < 18446744073709551616) :
  Calls Tryz.prog 61 #[.int .u8 m, .int .u64 n] w fun e w' => ∃ r, e = .returned r ∧ Fresh w (headB m.toNat n.toNat) r w' := by
 obtain ⟨m', hm'⟩ := Int.eq_ofNat_of_zero_le hm0;obtain ⟨n', hn'⟩ := Int.eq_ofNat_of_zero_le h0;have HM := Hh hm';have HN := Hh hn';have H1 := Hh h1;clear h1 hm' hn';go_enter Tryz.func61, Tryz.ntmps61
 go_wp2
 ·go_ret
  obtain rfl := HM.out;obtain rfl := HN.out;rw [Int.toNat_natCast, Int.toNat_natCast];have hlt : (n' : Int) < 24 := by with_reducible assumption
  refine ⟨_, rfl, Fresh.lit _ _ _ 1 ?_ ?_ ?_⟩
  ·rw [headB_length, if_pos (by omega)]
  ·have := (headB_le m' n').2; omega
  ·rw [headB, if_pos (by omega)]
   simp only [List.map_cons, List.map_nil, byteV_u8]
   rw [u8_head m' n' (by omega) (by omega), Nat.mod_eq_of_lt (by omega)]
 ·go_ret
  obtain rfl := HM.out;obtain rfl := HN.out;rw [Int.toNat_natCast, Int.toNat_natCast];have hge : (24 : Int) ≤ n' := by with_reducible assumption
  have hlt : (n' : Int) < 256 := by with_reducible assumption
  refine ⟨_, rfl, Fresh.lit _ _ _ 2 ?_ ?_ ?_⟩
  ·rw [headB_length, if_neg (by omega), if_pos (by omega)]
  ·have := (headB_le m' n').2; omega
  ·rw [headB, if_neg (by omega), if_pos (by omega)]
   simp only [List.map_cons, List.map_nil, byteV_u8]
   have e24' := u8_head m' 24 (by omega) (by omega);rw [show ((24 : Nat) : Int) = 24 from rfl] at e24';rw [e24', Nat.mod_eq_of_lt (by omega), Nat.mod_eq_of_lt (by omega)]
 ·go_ret
  obtain rfl := HM.out;obtain rfl := HN.out;rw [Int.toNat_natCast, Int.toNat_natCast];have hge : (256 : Int) ≤ n' := by with_reducible assumption
  have hlt : (n' : Int) < 65536 := by with_reducible assumption
  refine ⟨_, rfl, Fresh.lit _ _ _ 3 ?_ ?_ ?_⟩
  ·rw [headB_length, if_neg (by omega), if_neg (by omega), if_pos (by omega)]
  ·have := (headB_le m' n').2; omega
  ·rw [headB, if_neg (by omega), if_neg (by omega), if_pos (by omega)]
   simp only [List.map_cons, List.map_nil, byteV_u8]
   have e24' := u8_head m' 25 (by omega) (by omega);rw [show ((25 : Nat) : Int) = 25 from rfl] at e24';rw [e24', Nat.mod_eq_of_lt (show m' * 32 + 25 < 256 by omega), Nat.mod_eq_of_lt (show n' / 256 < 256 by omega)];rfl
 ·go_ret
  obtain rfl := HM.out;obtain rfl := HN.out;rw [Int.toNat_natCast, Int.toNat_natCast];have hge : (65536 : Int) ≤ n' := by with_reducible assumption
  have hlt : (n' : Int) < 4294967296 := by with_reducible assumption
  refine ⟨_, rfl, Fresh.lit _ _ _ 5 ?_ ?_ ?_⟩
  ·rw [headB_length, if_neg (by omega), if_neg (by omega), if_neg (by omega), if_pos (by omega)]
  ·have := (headB_le m' n').2; omega
  ·rw [headB, if_neg (by omega), if_neg (by omega), if_neg (by omega), if_pos (by omega)]
   simp only [List.map_cons, List.map_nil, byteV_u8]
   have e24' := u8_head m' 26 (by omega) (by omega);rw [show ((26 : Nat) : Int) = 26 from rfl] at e24';rw [e24', Nat.mod_eq_of_lt (show m' * 32 + 26 < 256 by omega), Nat.mod_eq_of_lt (show n' / 16777216 < 256 by omega)];rfl
 ·have HG : Hid (headB m.toNat n.toNat = u8 (m.toNat * 32 + 27) :: be8 n.toNat 8) := by
   have hge : (4294967296 : Int) ≤ n := by with_reducible assumption
   rw [headB, if_neg (by omega), if_neg (by omega), if_neg (by omega), if_neg (by omega)];rfl
  have hst : OwnB (w.alloc (.cells #[.int .u8 (bits .or .u8 (m * 32) 27)] 5)) w.heap.size (.slice (some ⟨w.heap.size, 0, none⟩) 1 1) [u8 (m.toNat * 32 + 27)] := by
   refine OwnB.lit w _ _ _ 1 rfl ?_ (Nat.le_refl _) (by simp)
   have e27' := u8_head m.toNat 27 (by omega) (by omega);rw [show ((27 : Nat) : Int) = 27 from rfl, Int.toNat_of_nonneg hm0] at e27'
   simp only [List.map_cons, List.map_nil, byteV_u8]
   rw [e27', Nat.mod_eq_of_lt (by omega)]
  go_loopw [6, 7] (fun v s wr => ∃ k : Nat, k ≤ 8 ∧ s = .int .i64 (56 - 8 * (k : Int)) ∧ OwnB wr w.heap.size v (u8 (m.toNat * 32 + 27) :: be8 n.toNat k) ∧ Below w.heap.size w wr) (fun _ s _ => (intOf s + 8).toNat)
  case atStart => exact ⟨0, by omega, rfl, hst, (Below.refl _ _).alloc (Nat.le_refl _) _⟩
  case round =>
   obtain ⟨k, hk, rfl, hown, hb⟩ := hrel
   by_cases hlt : k < 8
   ·have hbs := hb.size;go_wp2_with (at_builtin; refine wpList_app_bytes rfl (.tmp 61) (.tmp 66) rfl w.heap.size _ _ rfl (hown.alloc _) _ 1 1 [u8 (n.toNat / 2 ^ (56 - 8 * k))] rfl rfl ?hs ?hl ?hz ?_)
    case hs =>
     rw [byteV_of (n / 2 ^ (56 - 8 * k) % 256) (n.toNat / 2 ^ (56 - 8 * k)) (by obtain rfl := HN.out; simp)]
     exact Src.lit wr #[byteV (u8 (n.toNat / 2 ^ (56 - 8 * k)))] _
    case hl => simp [be8_length]; omega
    case hz => simp; omega
    intro v' w' hown' hg _
    have R : OwnB w' w.heap.size v' (u8 (m.toNat * 32 + 27) :: be8 n.toNat (k + 1)) ∧ Below w.heap.size w w' :=
     ⟨by simpa [be8] using hown', ((hb.alloc hbs _).grown hg (by simp; omega) (fun g hg => (hown.lt g hg).1))⟩
    clear hown' hg hown hb hst;go_wp2
    go_roundw
    case rel => exact ⟨k + 1, by omega, by go_num, R.1, R.2⟩
    case measure => simp [intOf]; omega
   ·have hk8 : k = 8 := by omega
    subst hk8;go_wp2
    go_ret
    refine ⟨_, rfl, ?_⟩
    rw [HG.out]
    exact ⟨hown, hb⟩
theorem cbor_major {H : Snap} {k n : Int} {ba : Option Addr} {bl bc : Nat} {ia : Option Addr} {il ic : Nat} {x : Itm} (hx : ItemA H k n ba bl bc ia il ic x) (w : World) (h0 : 0 ≤ x.kind) (h8 : x.kind ≤ 8) :
  Calls Tryz.prog 62 #[.agg #[.int .i64 k, .int .u64 n, .slice ba bl bc, .slice ia il ic]] w fun e w' => e = .returned (.tuple #[.int .u8 x.kind, .int .u64 (numP x)]) ∧ Below w.heap.size w w' := by
 obtain ⟨rfl, rfl, rfl, rfl, hx⟩ := hx;obtain ⟨_, _, hn, hb1, hb2, hi1, hi2⟩ := hx.bounds;have hb : x.bytes.length ≤ 9223372036854775807 := by omega
 have hi : x.items.length ≤ 9223372036854775807 := by omega
 clear hb1 hb2 hi1 hi2 hx;have HN := Hh hn;clear hn
 by_cases h2 : x.kind = 2
 ·have e : Hid (Ending.returned (.tuple #[.int .u8 2, .int .u64 x.bytes.length]) = Ending.returned (.tuple #[.int .u8 x.kind, .int .u64 (numP x)])) := by simp [Hid, numP, h2]
  go_enter Tryz.func62, Tryz.ntmps62
  go_wp2
  go_region
  all_goals go_wp2
  all_goals go_ret2
  all_goals exact ⟨e.out, (below_box w _).drew⟩
 by_cases h3 : x.kind = 3
 ·have e : Hid (Ending.returned (.tuple #[.int .u8 3, .int .u64 x.bytes.length]) = Ending.returned (.tuple #[.int .u8 x.kind, .int .u64 (numP x)])) := by simp [Hid, numP, h3]
  clear h2;go_enter Tryz.func62, Tryz.ntmps62
  go_wp2
  go_region
  all_goals go_wp2
  all_goals go_ret2
  all_goals exact ⟨e.out, (below_box w _).drew⟩
 by_cases h4 : x.kind = 4
 ·have e : Hid (Ending.returned (.tuple #[.int .u8 4, .int .u64 x.items.length]) = Ending.returned (.tuple #[.int .u8 x.kind, .int .u64 (numP x)])) := by simp [Hid, numP, h4]
  clear h2 h3;go_enter Tryz.func62, Tryz.ntmps62
  go_wp2
  go_region
  all_goals go_wp2
  all_goals go_ret2
  all_goals exact ⟨e.out, (below_box w _).drew⟩
 by_cases h5 : x.kind = 5
 ·have e : Hid (Ending.returned (.tuple #[.int .u8 5, .int .u64 ((x.items.length : Int) / 2)]) = Ending.returned (.tuple #[.int .u8 x.kind, .int .u64 (numP x)])) := by simp [Hid, numP, h5]
  clear h2 h3 h4;go_enter Tryz.func62, Tryz.ntmps62
  go_wp2
  go_region
  all_goals go_wp2
  all_goals go_ret2
  all_goals exact ⟨e.out, (below_box w _).drew⟩
 have e : Hid (Ending.returned (.tuple #[.int .u8 x.kind, .int .u64 x.n]) = Ending.returned (.tuple #[.int .u8 x.kind, .int .u64 (numP x)])) := by simp [Hid, numP, h2, h3, h4, h5]
 have b2 : (x.kind == 2) = false := by simp [h2]
 have b3 : (x.kind == 3) = false := by simp [h3]
 have b4 : (x.kind == 4) = false := by simp [h4]
 have b5 : (x.kind == 5) = false := by simp [h5]
 clear h2 h3 h4 h5;go_enter Tryz.func62, Tryz.ntmps62
 go_wp2
 go_region
 all_goals go_wp2
 all_goals go_ret2
 all_goals exact ⟨e.out, (below_box w _).drew⟩
def Nar15 (n v s x f : Nat) : Prop := s ≤ 1 ∧ v = s * 32768 + x * 1024 + f ∧ f < 1024 ∧ x ≤ 31 ∧
 ((x = 31 ∧ f = 0 ∧ n = s * 9223372036854775808 + 9218868437227405312) ∨ (x = 0 ∧ f = 0 ∧ n = s * 9223372036854775808) ∨
  (1 ≤ x ∧ x ≤ 30 ∧ n = s * 9223372036854775808 + (x + 1008) * 4503599627370496 + f * 4398046511104) ∨
  (x = 0 ∧ ∃ t full, t < 10 ∧ 2 ^ t ≤ f ∧ f < 2 ^ (t + 1) ∧ full = f * 2 ^ (52 - t) ∧ 4503599627370496 ≤ full ∧ n = s * 9223372036854775808 + (999 + t) * 4503599627370496 + (full - 4503599627370496)))
theorem nar15_mk (n v s x f : Nat) (h1 : s ≤ 1) (h2 : v = s * 32768 + x * 1024 + f) (h3 : f < 1024) (h4 : x ≤ 31)
  (h : (x = 31 ∧ f = 0 ∧ n = s * 9223372036854775808 + 9218868437227405312) ∨ (x = 0 ∧ f = 0 ∧ n = s * 9223372036854775808) ∨
  (1 ≤ x ∧ x ≤ 30 ∧ n = s * 9223372036854775808 + (x + 1008) * 4503599627370496 + f * 4398046511104) ∨
  (x = 0 ∧ ∃ t full, t < 10 ∧ 2 ^ t ≤ f ∧ f < 2 ^ (t + 1) ∧ full = f * 2 ^ (52 - t) ∧ 4503599627370496 ≤ full ∧ n = s * 9223372036854775808 + (999 + t) * 4503599627370496 + (full - 4503599627370496))) : ∃ s x f, Nar15 n v s x f :=
 ⟨s, x, f, h1, h2, h3, h4, h⟩
theorem narrow15_spec {n v : Nat} (hn : n < 18446744073709551616) (h : narrow n 5 10 = some v) : ∃ s x f, Nar15 n v s x f := by
 obtain ⟨ex, hex⟩ : ∃ ex, n / 4503599627370496 % 2048 = ex := ⟨_, rfl⟩
 obtain ⟨mx, hmx⟩ : ∃ mx, n % 4503599627370496 = mx := ⟨_, rfl⟩
 obtain ⟨sg, hsg⟩ : ∃ sg, n / 9223372036854775808 = sg := ⟨_, rfl⟩
 have hs1 : sg ≤ 1 := by omega
 have hnn : n = sg * 9223372036854775808 + ex * 4503599627370496 + mx := by omega
 have he1 : ex < 2048 := by omega
 have hm1 : mx < 4503599627370496 := by omega
 rw [narrow] at h
 simp only [Nat.reducePow, Nat.reduceSub, Nat.reduceAdd, Nat.reduceMul, hex, hmx, hsg] at h
 clear hex hmx hsg hn
 split at h
 ·rename_i q1
  split at h
  ·rename_i q2
   injection h with h
   subst q1 q2
   exact nar15_mk _ _ _ _ _ hs1 (by omega) (by omega) (by omega) (.inl (And.intro rfl (And.intro rfl (by omega))))
  ·cases h
 rename_i c1
 split at h
 ·rename_i q1
  split at h
  ·rename_i q2
   injection h with h
   subst q1 q2
   exact nar15_mk _ _ _ 0 0 hs1 (by omega) (by omega) (by omega) (.inr (.inl (And.intro rfl (And.intro rfl (by rw [hnn, Nat.zero_mul]; simp only [Nat.add_zero])))))
  ·cases h
 rename_i c2
 split at h
 ·cases h
 rename_i c3
 split at h
 ·rename_i c4
  split at h
  ·rename_i c5
   injection h with h
   obtain ⟨x, hx⟩ : ∃ x, ex = x + 1008 := ⟨ex - 1008, by omega⟩
   obtain ⟨f, hf⟩ : ∃ f, mx = f * 4398046511104 := ⟨mx / 4398046511104, by omega⟩
   subst hx hf
   exact nar15_mk _ _ _ x f hs1 (by omega) (by omega) (by omega) (.inr (.inr (.inl (And.intro (by omega) (And.intro (by omega) hnn)))))
  ·cases h
 rename_i c4
 split at h
 ·cases h
 rename_i c5
 split at h
 ·rename_i c6
  injection h with h
  obtain ⟨t, ht⟩ : ∃ t, ex = 999 + t := ⟨ex - 999, by omega⟩
  have hsh : 43 + (1023 - ex - 15) = 52 - t := by omega
  rw [hsh] at h c6;obtain ⟨f, hf⟩ : ∃ f, (mx + 4503599627370496) / 2 ^ (52 - t) = f := ⟨_, rfl⟩
  have hfull : mx + 4503599627370496 = f * 2 ^ (52 - t) := by
   rw [← hf, Nat.div_mul_cancel (Nat.dvd_of_mod_eq_zero c6)]
  have hpos : 0 < 2 ^ (52 - t) := Nat.two_pow_pos _
  have e1 : 2 ^ t * 2 ^ (52 - t) = 4503599627370496 := by
   rw [← Nat.pow_add, show t + (52 - t) = 52 by omega]
  have e2 : 2 ^ (t + 1) * 2 ^ (52 - t) = 9007199254740992 := by
   rw [← Nat.pow_add, show t + 1 + (52 - t) = 53 by omega]
  have b1 : 2 ^ t ≤ f := by
   apply Nat.le_of_mul_le_mul_right _ hpos
   omega
  have b2 : f < 2 ^ (t + 1) := by
   apply Nat.lt_of_mul_lt_mul_right (a := 2 ^ (52 - t))
   omega
  have b3 : 2 ^ (t + 1) ≤ 2 ^ 10 := Nat.pow_le_pow_right (by omega) (by omega)
  simp only [Nat.reducePow] at b3
  rw [hf] at h;have hn' : n = sg * 9223372036854775808 + (999 + t) * 4503599627370496 + (mx + 4503599627370496 - 4503599627370496) := by rw [hnn, ht, Nat.add_sub_cancel]
  exact nar15_mk _ _ _ 0 f hs1 (by omega) (by omega) (by omega) (.inr (.inr (.inr (And.intro rfl ⟨t, mx + 4503599627370496, by omega, b1, b2, hfull, by omega, hn'⟩))))
 ·cases h
def Nar31 (n v s x f : Nat) : Prop := s ≤ 1 ∧ v = s * 2147483648 + x * 8388608 + f ∧ f < 8388608 ∧ x ≤ 255 ∧
 ((x = 255 ∧ f = 0 ∧ n = s * 9223372036854775808 + 9218868437227405312) ∨ (x = 0 ∧ f = 0 ∧ n = s * 9223372036854775808) ∨
  (1 ≤ x ∧ x ≤ 254 ∧ n = s * 9223372036854775808 + (x + 896) * 4503599627370496 + f * 536870912) ∨
  (x = 0 ∧ ∃ t full, t < 23 ∧ 2 ^ t ≤ f ∧ f < 2 ^ (t + 1) ∧ full = f * 2 ^ (52 - t) ∧ 4503599627370496 ≤ full ∧ n = s * 9223372036854775808 + (874 + t) * 4503599627370496 + (full - 4503599627370496)))
theorem nar31_mk (n v s x f : Nat) (h1 : s ≤ 1) (h2 : v = s * 2147483648 + x * 8388608 + f) (h3 : f < 8388608) (h4 : x ≤ 255)
  (h : (x = 255 ∧ f = 0 ∧ n = s * 9223372036854775808 + 9218868437227405312) ∨ (x = 0 ∧ f = 0 ∧ n = s * 9223372036854775808) ∨
  (1 ≤ x ∧ x ≤ 254 ∧ n = s * 9223372036854775808 + (x + 896) * 4503599627370496 + f * 536870912) ∨
  (x = 0 ∧ ∃ t full, t < 23 ∧ 2 ^ t ≤ f ∧ f < 2 ^ (t + 1) ∧ full = f * 2 ^ (52 - t) ∧ 4503599627370496 ≤ full ∧ n = s * 9223372036854775808 + (874 + t) * 4503599627370496 + (full - 4503599627370496))) : ∃ s x f, Nar31 n v s x f :=
 ⟨s, x, f, h1, h2, h3, h4, h⟩
theorem narrow31_spec {n v : Nat} (hn : n < 18446744073709551616) (h : narrow n 8 23 = some v) : ∃ s x f, Nar31 n v s x f := by
 obtain ⟨ex, hex⟩ : ∃ ex, n / 4503599627370496 % 2048 = ex := ⟨_, rfl⟩
 obtain ⟨mx, hmx⟩ : ∃ mx, n % 4503599627370496 = mx := ⟨_, rfl⟩
 obtain ⟨sg, hsg⟩ : ∃ sg, n / 9223372036854775808 = sg := ⟨_, rfl⟩
 have hs1 : sg ≤ 1 := by omega
 have hnn : n = sg * 9223372036854775808 + ex * 4503599627370496 + mx := by omega
 have he1 : ex < 2048 := by omega
 have hm1 : mx < 4503599627370496 := by omega
 rw [narrow] at h
 simp only [Nat.reducePow, Nat.reduceSub, Nat.reduceAdd, Nat.reduceMul, hex, hmx, hsg] at h
 clear hex hmx hsg hn
 split at h
 ·rename_i q1
  split at h
  ·rename_i q2
   injection h with h
   subst q1 q2
   exact nar31_mk _ _ _ _ _ hs1 (by omega) (by omega) (by omega) (.inl (And.intro rfl (And.intro rfl (by omega))))
  ·cases h
 rename_i c1
 split at h
 ·rename_i q1
  split at h
  ·rename_i q2
   injection h with h
   subst q1 q2
   exact nar31_mk _ _ _ 0 0 hs1 (by omega) (by omega) (by omega) (.inr (.inl (And.intro rfl (And.intro rfl (by rw [hnn, Nat.zero_mul]; simp only [Nat.add_zero])))))
  ·cases h
 rename_i c2
 split at h
 ·cases h
 rename_i c3
 split at h
 ·rename_i c4
  split at h
  ·rename_i c5
   injection h with h
   obtain ⟨x, hx⟩ : ∃ x, ex = x + 896 := ⟨ex - 896, by omega⟩
   obtain ⟨f, hf⟩ : ∃ f, mx = f * 536870912 := ⟨mx / 536870912, by omega⟩
   subst hx hf
   exact nar31_mk _ _ _ x f hs1 (by omega) (by omega) (by omega) (.inr (.inr (.inl (And.intro (by omega) (And.intro (by omega) hnn)))))
  ·cases h
 rename_i c4
 split at h
 ·cases h
 rename_i c5
 split at h
 ·rename_i c6
  injection h with h
  obtain ⟨t, ht⟩ : ∃ t, ex = 874 + t := ⟨ex - 874, by omega⟩
  have hsh : 30 + (1023 - ex - 127) = 52 - t := by omega
  rw [hsh] at h c6;obtain ⟨f, hf⟩ : ∃ f, (mx + 4503599627370496) / 2 ^ (52 - t) = f := ⟨_, rfl⟩
  have hfull : mx + 4503599627370496 = f * 2 ^ (52 - t) := by
   rw [← hf, Nat.div_mul_cancel (Nat.dvd_of_mod_eq_zero c6)]
  have hpos : 0 < 2 ^ (52 - t) := Nat.two_pow_pos _
  have e1 : 2 ^ t * 2 ^ (52 - t) = 4503599627370496 := by
   rw [← Nat.pow_add, show t + (52 - t) = 52 by omega]
  have e2 : 2 ^ (t + 1) * 2 ^ (52 - t) = 9007199254740992 := by
   rw [← Nat.pow_add, show t + 1 + (52 - t) = 53 by omega]
  have b1 : 2 ^ t ≤ f := by
   apply Nat.le_of_mul_le_mul_right _ hpos
   omega
  have b2 : f < 2 ^ (t + 1) := by
   apply Nat.lt_of_mul_lt_mul_right (a := 2 ^ (52 - t))
   omega
  have b3 : 2 ^ (t + 1) ≤ 2 ^ 23 := Nat.pow_le_pow_right (by omega) (by omega)
  simp only [Nat.reducePow] at b3
  rw [hf] at h;have hn' : n = sg * 9223372036854775808 + (874 + t) * 4503599627370496 + (mx + 4503599627370496 - 4503599627370496) := by rw [hnn, ht, Nat.add_sub_cancel]
  exact nar31_mk _ _ _ 0 f hs1 (by omega) (by omega) (by omega) (.inr (.inr (.inr (And.intro rfl ⟨t, mx + 4503599627370496, by omega, b1, b2, hfull, by omega, hn'⟩))))
 ·cases h
theorem log2_of {n t : Nat} (h1 : 2 ^ t ≤ n) (h2 : n < 2 ^ (t + 1)) : n.log2 = t := by
 have hn : n ≠ 0 := by have := Nat.two_pow_pos t; omega
 have a := (Nat.le_log2 hn).2 h1;have b := (Nat.log2_lt hn).2 h2
 omega
theorem cut_exact (neg : Bool) (q d : Nat) (h : d ≤ (q * 2 ^ d).log2 + 2) : Ieee.Toward.even.cut neg (q * 2 ^ d) d = q := by
 have hg : (1 : Nat) <<< min d ((q * 2 ^ d).log2 + 2) = 2 ^ d := by rw [Nat.min_eq_left h, Nat.shiftLeft_eq, Nat.one_mul]
 have hp : 0 < 2 ^ d := Nat.two_pow_pos d;have h1 : q * 2 ^ d / 2 ^ d = q := Nat.mul_div_cancel _ hp;have h2 : q * 2 ^ d % 2 ^ d = 0 := Nat.mul_mod_left _ _
 unfold Ieee.Toward.cut
 simp only [hg, h1, h2]
 have e1 : decide (2 ^ d < 2 * 0) = false := by simp
 have e2 : (2 ^ d == 2 * 0) = false := by rw [beq_eq_false_iff_ne]; omega
 rw [e1, e2]
 simp
theorem single_fields {r : Nat} (hr : r < 4294967296) (hn : (Ieee.single.read r).isNaN = false) : ∃ n s x f, n < 18446744073709551616 ∧ Nar31 n r s x f := by
 obtain ⟨s, hs⟩ : ∃ s, r / 2147483648 = s := ⟨_, rfl⟩
 obtain ⟨x, hx⟩ : ∃ x, r / 8388608 % 256 = x := ⟨_, rfl⟩
 obtain ⟨f, hf⟩ : ∃ f, r % 8388608 = f := ⟨_, rfl⟩
 have hs1 : s ≤ 1 := by omega
 have hx1 : x ≤ 255 := by omega
 have hf1 : f < 8388608 := by omega
 have hv : r = s * 2147483648 + x * 8388608 + f := by omega
 by_cases h1 : x = 255
 ·by_cases h0 : f = 0
  ·exact ⟨s * 9223372036854775808 + 9218868437227405312, s, x, f, by omega, hs1, by omega, by omega, by omega, .inl ⟨h1, h0, rfl⟩⟩
  ·exfalso
   have e1 : Ieee.single.signWeight = 2147483648 := rfl;have e2 : Ieee.single.binade = 8388608 := rfl;have e3 : Ieee.single.infRung = 2139095040 := rfl
   unfold Ieee.Format.read at hn
   rw [e1, e2, e3] at hn
   simp only [show ¬ r % 2147483648 < 8388608 by omega, show ¬ r % 2147483648 < 2139095040 by omega, show ¬ r % 2147483648 = 2139095040 by omega, if_false] at hn
   cases hn
 by_cases h2 : x = 0
 ·by_cases h0 : f = 0
  ·exact ⟨s * 9223372036854775808, s, x, f, by omega, hs1, by omega, by omega, by omega, .inr (.inl ⟨h2, h0, rfl⟩)⟩
  ·have a1 : 2 ^ f.log2 ≤ f := Nat.log2_self_le h0;have a2 : f < 2 ^ (f.log2 + 1) := Nat.lt_log2_self;have a3 : f.log2 < 23 := (Nat.log2_lt h0).2 (by simpa using hf1)
   generalize f.log2 = t at a1 a2 a3
   have e1 : 2 ^ t * 2 ^ (52 - t) = 4503599627370496 := by
    rw [← Nat.pow_add, show t + (52 - t) = 52 by omega]
   have e2 : 2 ^ (t + 1) * 2 ^ (52 - t) = 9007199254740992 := by
    rw [← Nat.pow_add, show t + 1 + (52 - t) = 53 by omega]
   have b1 := Nat.mul_le_mul_right (2 ^ (52 - t)) a1;have b2 := Nat.mul_lt_mul_of_pos_right a2 (Nat.two_pow_pos (52 - t))
   refine ⟨s * 9223372036854775808 + (874 + t) * 4503599627370496 + (f * 2 ^ (52 - t) - 4503599627370496), s, x, f, by omega, hs1, by omega, by omega, by omega, .inr (.inr (.inr ⟨h2, t, _, a3, a1, a2, rfl, by omega, rfl⟩))⟩
 ·exact ⟨s * 9223372036854775808 + (x + 896) * 4503599627370496 + f * 536870912, s, x, f, by omega, hs1, by omega, by omega, by omega, .inr (.inr (.inl ⟨by omega, by omega, rfl⟩))⟩
theorem word_d (s r : Nat) (hs : s ≤ 1) : Ieee.double.word (s % 2 == 1) r = s * 9223372036854775808 + r := by
 have e : Ieee.double.signWeight = 9223372036854775808 := rfl
 unfold Ieee.Format.word
 rcases (by omega : s = 0 ∨ s = 1) with rfl | rfl <;> simp [e]
theorem word_s (s r : Nat) (hs : s ≤ 1) : Ieee.single.word (s % 2 == 1) r = s * 2147483648 + r := by
 have e : Ieee.single.signWeight = 2147483648 := rfl
 unfold Ieee.Format.word
 rcases (by omega : s = 0 ∨ s = 1) with rfl | rfl <;> simp [e]
theorem read_s {n v s x f : Nat} (h : Nar31 n v s x f) : Ieee.single.read v = if x = 255 then .infinity (s % 2 == 1) else if x = 0 then .number (s % 2 == 1) f (-149) else .number (s % 2 == 1) (8388608 + f) ((x : Int) - 150) := by
 obtain ⟨a1, a2, a3, a4, a5⟩ := h;have e1 : Ieee.single.signWeight = 2147483648 := rfl;have e2 : Ieee.single.binade = 8388608 := rfl;have e3 : Ieee.single.infRung = 2139095040 := rfl;have e4 : Ieee.single.leastPlace = -149 := rfl;have hd : v / 2147483648 = s := by omega
 have hm : v % 2147483648 = x * 8388608 + f := by omega
 unfold Ieee.Format.read
 rw [e1, e2, e3, e4, hd, hm]
 simp only
 by_cases h0 : x = 0
 ·rw [if_pos (by omega), if_neg (by omega), if_pos h0, h0]; simp
 rw [if_neg (by omega)]
 by_cases h1 : x = 255
 ·have : f = 0 := by omega
  rw [if_neg (by omega), if_pos (by omega), if_pos h1]
 ·rw [if_pos (by omega), if_neg h1, if_neg h0];congr 1
  ·omega
  ·omega
theorem read_d {n v s x f : Nat} (h : Nar31 n v s x f) : ∃ e m, e ≤ 2047 ∧ m < 4503599627370496 ∧ n = s * 9223372036854775808 + e * 4503599627370496 + m ∧
  (x = 255 → e = 2047 ∧ m = 0) ∧ (x = 0 ∧ f = 0 → e = 0 ∧ m = 0) ∧ (1 ≤ x ∧ x ≤ 254 → e = x + 896 ∧ m = f * 536870912) ∧ (x = 0 ∧ 0 < f → ∃ t, t < 23 ∧ 2 ^ t ≤ f ∧ f < 2 ^ (t + 1) ∧ e = 874 + t ∧ m + 4503599627370496 = f * 2 ^ (52 - t)) ∧
  Ieee.double.read n = if e = 2047 then .infinity (s % 2 == 1) else if e = 0 then .number (s % 2 == 1) m (-1074) else .number (s % 2 == 1) (4503599627370496 + m) ((e : Int) - 1075) := by
 obtain ⟨a1, a2, a3, a4, a5⟩ := h
 have key : ∀ e m, e ≤ 2047 → m < 4503599627370496 → (e = 2047 → m = 0) → n = s * 9223372036854775808 + e * 4503599627370496 + m → Ieee.double.read n = if e = 2047 then .infinity (s % 2 == 1) else if e = 0 then .number (s % 2 == 1) m (-1074) else .number (s % 2 == 1) (4503599627370496 + m) ((e : Int) - 1075) := by
  intro e m he hm h7 hn
  have e1 : Ieee.double.signWeight = 9223372036854775808 := rfl;have e2 : Ieee.double.binade = 4503599627370496 := rfl;have e3 : Ieee.double.infRung = 9218868437227405312 := rfl;have e4 : Ieee.double.leastPlace = -1074 := rfl;have hd : n / 9223372036854775808 = s := by omega
  have hmm : n % 9223372036854775808 = e * 4503599627370496 + m := by omega
  unfold Ieee.Format.read
  rw [e1, e2, e3, e4, hd, hmm]
  simp only
  by_cases h0 : e = 0
  ·rw [if_pos (by omega), if_neg (by omega), if_pos h0, h0]; simp
  rw [if_neg (by omega)]
  by_cases h1 : e = 2047
  ·have := h7 h1;rw [if_neg (by omega), if_pos (by omega), if_pos h1]
  ·rw [if_pos (by omega), if_neg h1, if_neg h0];congr 1
   ·omega
   ·omega
 rcases a5 with ⟨c1, c2, c3⟩ | ⟨c1, c2, c3⟩ | ⟨c1, c2, c3⟩ | ⟨c1, t, full, c2, c3, c4, c5, c6, c7⟩
 ·exact ⟨2047, 0, by omega, by omega, by omega, fun _ => ⟨rfl, rfl⟩, by omega, by omega, by omega, key 2047 0 (by omega) (by omega) (fun _ => rfl) (by omega)⟩
 ·have C3 : n = s * 9223372036854775808 + 0 * 4503599627370496 + 0 := by rw [c3]; simp only [Nat.zero_mul, Nat.add_zero]
  have C3 := Hh C3;clear c3;have x1 : x ≠ 255 := by omega
  have x3 : ¬ (1 ≤ x ∧ x ≤ 254) := by omega
  have x4 : ¬ (x = 0 ∧ 0 < f) := by omega
  exact ⟨0, 0, by omega, by omega, C3.out, fun h => absurd h x1, fun _ => ⟨rfl, rfl⟩, fun h => absurd h x3, fun h => absurd h x4, key 0 0 (by omega) (by omega) (by omega) C3.out⟩
 ·have C3 := Hh c3;clear c3;have t1 : x + 896 ≤ 2047 := by omega
  have t2 : x + 896 ≠ 2047 := by omega
  have m1 : f * 536870912 < 4503599627370496 := by omega
  have x1 : x ≠ 255 := by omega
  have x2 : x ≠ 0 := by omega
  exact ⟨x + 896, f * 536870912, t1, m1, C3.out, fun h => absurd h x1, fun h => absurd h.1 x2, fun _ => ⟨rfl, rfl⟩, fun h => absurd h.1 x2, key _ _ t1 m1 (fun h => absurd h t2) C3.out⟩
 ·have hp : 0 < f := by have := Nat.two_pow_pos t; omega
  have e2 : 2 ^ (t + 1) * 2 ^ (52 - t) = 9007199254740992 := by
   rw [← Nat.pow_add, show t + 1 + (52 - t) = 53 by omega]
  have b2 := Nat.mul_lt_mul_of_pos_right c4 (Nat.two_pow_pos (52 - t));rw [e2, ← c5] at b2;have C7 := Hh c7;clear c7;have m1 : full - 4503599627370496 < 4503599627370496 := by clear a2; omega
  have m2 : full - 4503599627370496 + 4503599627370496 = f * 2 ^ (52 - t) := by rw [← c5]; clear a2; omega
  have t1 : 874 + t ≤ 2047 := by omega
  have t2 : 874 + t ≠ 2047 := by omega
  have x1 : x ≠ 255 := by omega
  have x2 : ¬ (x = 0 ∧ f = 0) := by omega
  have x3 : ¬ (1 ≤ x ∧ x ≤ 254) := by omega
  exact ⟨874 + t, full - 4503599627370496, t1, m1, C7.out, fun h => absurd h x1, fun h => absurd h x2, fun h => absurd h x3, fun _ => ⟨t, c2, c3, c4, rfl, m2⟩, key _ _ t1 m1 (fun h => absurd h t2) C7.out⟩
theorem wide_of {n v s x f : Nat} (h : Nar31 n v s x f) : floatToFloatBits .f32 v .f64 = some n := by
 have hr := read_s h;obtain ⟨e, m, he, hm, hn, g1, g2, g3, g4, hd⟩ := read_d h;obtain ⟨a1, a2, a3, a4, _⟩ := h;have e1 : Ieee.double.fractionBits = 52 := rfl;have e2 : Ieee.double.binade = 4503599627370496 := rfl;have e3 : Ieee.double.infRung = 9218868437227405312 := rfl;have e4 : Ieee.double.leastPlace = -1074 := rfl
 have hw : Ieee.double.write (Ieee.single.read v) = n := by
  rw [hr]
  by_cases h1 : x = 255
  ·obtain ⟨rfl, rfl⟩ := g1 h1;rw [if_pos h1];show Ieee.double.word _ Ieee.double.infRung = n
   rw [word_d _ _ a1, e3]; omega
  rw [if_neg h1]
  have near : ∀ (mag : Nat) (pl : Int) (t : Nat), t ≤ 52 → 2 ^ t ≤ mag → mag < 2 ^ (t + 1) → -149 ≤ pl → pl ≤ 104 → e = (pl + t + 1023).toNat → mag * 2 ^ (52 - t) = 4503599627370496 + m → Ieee.double.nearest (s % 2 == 1) mag pl = n := by
   intro mag pl t ht b1 b2 p1 p2 he' hmm
   have hl := log2_of b1 b2;have h0 : mag ≠ 0 := by have := Nat.two_pow_pos t; omega
   unfold Ieee.Format.nearest
   rw [if_neg h0, hl, e1, e2, e3, e4];have hlast : max (pl + (t : Int) - (52 : Nat)) (-1074) = pl + t - 52 := by omega
   simp only [hlast]
   rw [show (pl - (pl + (t : Int) - 52)).toNat = 52 - t by omega, show ((pl + (t : Int) - 52) - pl).toNat = 0 by omega, Nat.shiftLeft_eq, hmm];have hc := cut_exact (s % 2 == 1) (4503599627370496 + m) 0 (by omega);rw [Nat.pow_zero, Nat.mul_one] at hc;rw [hc, word_d _ _ a1, Nat.min_eq_left (by omega)]
   omega
  by_cases h2 : x = 0
  ·rw [if_pos h2]
   by_cases h3 : f = 0
   ·obtain ⟨rfl, rfl⟩ := g2 ⟨h2, h3⟩;subst h3;show Ieee.double.nearest _ 0 _ = n
    unfold Ieee.Format.nearest
    rw [if_pos rfl, word_d _ _ a1]; omega
   ·obtain ⟨t, t1, t2, t3, t4, t5⟩ := g4 ⟨h2, by omega⟩
    exact near f (-149) t (by omega) t2 t3 (by omega) (by omega) (by omega) (by omega)
  ·rw [if_neg h2];obtain ⟨k1, k2⟩ := g3 ⟨by omega, by omega⟩
   refine near (8388608 + f) ((x : Int) - 150) 23 (by omega) (by simp) (by simp; omega) (by omega) (by omega) (by omega) ?_
   simp only [Nat.reduceSub, Nat.reducePow]
   omega
 unfold floatToFloatBits
 rw [if_neg (by decide)];show (match Ieee.single.read v with | .nan _ _ => none | .infinity s => some (Ieee.double.write (.infinity s)) | .number s m e => if (Ieee.double.read (Ieee.double.write (.number s m e))).isInfinity then none else some (Ieee.double.write (.number s m e))) = some n
 cases hq : Ieee.single.read v with
 | nan a b =>
  rw [hq] at hr
  split at hr
  ·cases hr
  ·split at hr <;> cases hr
 | infinity q => simp only; rw [← hq, hw]
 | number a b c =>
  simp only
  rw [← hq, hw]
  have hx : x ≠ 255 := by
   intro h1
   rw [hq, if_pos h1] at hr
   cases hr
  have he7 : e ≠ 2047 := by
   by_cases h2 : x = 0
   ·by_cases h3 : f = 0
    ·have := g2 ⟨h2, h3⟩; omega
    ·obtain ⟨t, t1, t2, t3, t4, t5⟩ := g4 ⟨h2, by omega⟩; omega
   ·have := g3 ⟨by omega, by omega⟩; omega
  rw [hd, if_neg he7]
  by_cases h0 : e = 0
  ·rw [if_pos h0]; rfl
  ·rw [if_neg h0]; rfl
theorem slim_of {n v s x f : Nat} (h : Nar31 n v s x f) : floatToFloatBits .f64 n .f32 = some v := by
 have hr := read_s h;obtain ⟨e, m, he, hm, hn, g1, g2, g3, g4, hd⟩ := read_d h;obtain ⟨a1, a2, a3, a4, _⟩ := h;have e1 : Ieee.single.fractionBits = 23 := rfl;have e2 : Ieee.single.binade = 8388608 := rfl;have e3 : Ieee.single.infRung = 2139095040 := rfl;have e4 : Ieee.single.leastPlace = -149 := rfl
 have hw : Ieee.single.write (Ieee.double.read n) = v := by
  rw [hd]
  by_cases h1 : x = 255
  ·obtain ⟨h5, h6⟩ := g1 h1;rw [if_pos h5];show Ieee.single.word _ Ieee.single.infRung = v
   rw [word_s _ _ a1, e3]
   omega
  by_cases h2 : x = 0
  ·by_cases h3 : f = 0
   ·obtain ⟨h5, h6⟩ := g2 ⟨h2, h3⟩;rw [if_neg (by omega), if_pos h5, h6];show Ieee.single.nearest _ 0 _ = v
    unfold Ieee.Format.nearest
    rw [if_pos rfl, word_s _ _ a1]; omega
   ·obtain ⟨t, t1, t2, t3, t4, t5⟩ := g4 ⟨h2, by omega⟩;rw [if_neg (by omega), if_neg (by omega)];show Ieee.single.nearest _ _ _ = v
    have hl : (4503599627370496 + m).log2 = 52 := log2_of (by simp) (by simp; omega)
    unfold Ieee.Format.nearest
    rw [if_neg (by omega), hl, e1, e2, e3, e4];have hlast : max ((e : Int) - 1075 + (52 : Nat) - (23 : Nat)) (-149) = -149 := by omega
    simp only [hlast]
    rw [show ((e : Int) - 1075 - -149).toNat = 0 by omega, show (-149 - ((e : Int) - 1075)).toNat = 52 - t by omega, Nat.shiftLeft_eq, Nat.pow_zero, Nat.mul_one, show 4503599627370496 + m = f * 2 ^ (52 - t) by omega];rw [cut_exact _ _ _ (by rw [← t5, Nat.add_comm m, hl]; omega), word_s _ _ a1, Nat.min_eq_left (by omega)];rw [a2, h2, show ((-149 : Int) - -149).toNat = 0 from rfl]
    simp only [Nat.zero_mul, Nat.zero_add, Nat.add_zero]
  ·obtain ⟨k1, k2⟩ := g3 ⟨by omega, by omega⟩;rw [if_neg (by omega), if_neg (by omega)];show Ieee.single.nearest _ _ _ = v
   have hl : (4503599627370496 + m).log2 = 52 := log2_of (by simp) (by simp; omega)
   unfold Ieee.Format.nearest
   rw [if_neg (by omega), hl, e1, e2, e3, e4];have hlast : max ((e : Int) - 1075 + (52 : Nat) - (23 : Nat)) (-149) = (e : Int) - 1046 := by omega
   simp only [hlast]
   have hq : 4503599627370496 + m = (8388608 + f) * 2 ^ 29 := by simp only [Nat.reducePow]; omega
   rw [show ((e : Int) - 1075 - ((e : Int) - 1046)).toNat = 0 by omega, show (((e : Int) - 1046) - ((e : Int) - 1075)).toNat = 29 by omega, Nat.shiftLeft_eq, Nat.pow_zero, Nat.mul_one, hq];rw [cut_exact _ _ _ (by rw [← hq, hl]; omega), word_s _ _ a1, Nat.min_eq_left (by omega)]
   omega
 unfold floatToFloatBits
 rw [if_neg (by decide)];show (match Ieee.double.read n with | .nan _ _ => none | .infinity s => some (Ieee.single.write (.infinity s)) | .number s m e => if (Ieee.single.read (Ieee.single.write (.number s m e))).isInfinity then none else some (Ieee.single.write (.number s m e))) = some v
 cases hq : Ieee.double.read n with
 | nan a b =>
  rw [hq] at hd
  split at hd
  ·cases hd
  ·split at hd <;> cases hd
 | infinity q => simp only; rw [← hq, hw]
 | number a b c =>
  simp only
  rw [← hq, hw]
  have hx : x ≠ 255 := by
   intro h1
   have := g1 h1;rw [hq, if_pos this.1] at hd
   cases hd
  rw [hr, if_neg hx]
  by_cases h0 : x = 0
  ·rw [if_pos h0]; rfl
  ·rw [if_neg h0]; rfl
theorem narrow31_of {n v s x f : Nat} (h : Nar31 n v s x f) : narrow n 8 23 = some v := by
 obtain ⟨e, m, he, hm, hn, g1, g2, g3, g4, hd⟩ := read_d h;obtain ⟨a1, a2, a3, a4, _⟩ := h;have k1 : n / 4503599627370496 % 2048 = e := by omega
 have k2 : n % 4503599627370496 = m := by omega
 have k3 : n / 9223372036854775808 = s := by omega
 rw [narrow]
 simp only [Nat.reducePow, Nat.reduceSub, Nat.reduceAdd, Nat.reduceMul, k1, k2, k3]
 by_cases h1 : x = 255
 ·obtain ⟨h5, h6⟩ := g1 h1;rw [if_pos h5, if_pos h6];congr 1; omega
 by_cases h2 : x = 0
 ·by_cases h3 : f = 0
  ·obtain ⟨h5, h6⟩ := g2 ⟨h2, h3⟩;rw [if_neg (by omega), if_pos h5, if_pos h6];congr 1; omega
  ·obtain ⟨t, t1, t2, t3, t4, t5⟩ := g4 ⟨h2, by omega⟩;rw [if_neg (by omega), if_neg (by omega), if_neg (by omega), if_neg (by omega), if_neg (by omega), show 30 + (1023 - e - 127) = 52 - t by omega, t5, if_pos (Nat.mul_mod_left _ _), Nat.mul_div_cancel _ (Nat.two_pow_pos _)];congr 1; omega
 ·obtain ⟨h5, h6⟩ := g3 ⟨by omega, by omega⟩;rw [if_neg (by omega), if_neg (by omega), if_neg (by omega), if_pos (by omega), if_pos (by omega)];congr 1; omega
def halfP (v : Nat) : Option Nat :=
 let s := v / 2147483648
 let e := v / 8388608 % 256
 let m := v % 8388608
 if e = 255 then some (s * 32768 + 31744) else if e = 0 then (if m = 0 then some (s * 32768) else none)
 else if 113 ≤ e ∧ e ≤ 142 then (if m % 8192 = 0 then some (s * 32768 + (e - 112) * 1024 + m / 8192) else none)
 else if 103 ≤ e ∧ e < 113 then (if (m + 8388608) % 2 ^ (126 - e) = 0 then some (s * 32768 + (m + 8388608) / 2 ^ (126 - e)) else none) else none
theorem half_of {n v s x f : Nat} (h : Nar31 n v s x f) : halfP v = narrow n 5 10 := by
 obtain ⟨e, m, he, hm, hn, g1, g2, g3, g4, hd⟩ := read_d h;obtain ⟨a1, a2, a3, a4, _⟩ := h;have k1 : n / 4503599627370496 % 2048 = e := by omega
 have k2 : n % 4503599627370496 = m := by omega
 have k3 : n / 9223372036854775808 = s := by omega
 have j1 : v / 2147483648 = s := by omega
 have j2 : v / 8388608 % 256 = x := by omega
 have j3 : v % 8388608 = f := by omega
 rw [narrow, halfP]
 simp only [Nat.reducePow, Nat.reduceSub, Nat.reduceAdd, Nat.reduceMul, k1, k2, k3, j1, j2, j3]
 by_cases h1 : x = 255
 ·obtain ⟨h5, h6⟩ := g1 h1;rw [if_pos h5, if_pos h6, if_pos h1]
 by_cases h2 : x = 0
 ·by_cases h3 : f = 0
  ·obtain ⟨h5, h6⟩ := g2 ⟨h2, h3⟩;rw [if_neg (by omega), if_pos h2, if_pos h3, if_neg (by omega), if_pos h5, if_pos h6]
  ·obtain ⟨t, t1, t2, t3, t4, t5⟩ := g4 ⟨h2, by omega⟩;rw [if_neg (by omega), if_pos h2, if_neg h3, if_neg (by omega), if_neg (by omega), if_neg (by omega), if_neg (by omega), if_pos (by omega)]
 ·obtain ⟨h5, h6⟩ := g3 ⟨by omega, by omega⟩;have n1 : ¬ e = 2047 := by omega
  have n2 : ¬ e = 0 := by omega
  rw [if_neg h1, if_neg h2, if_neg n1, if_neg n2]
  by_cases h7 : 143 ≤ x
  ·have p1 : ¬ (113 ≤ x ∧ x ≤ 142) := by omega
   have p2 : ¬ (103 ≤ x ∧ x < 113) := by omega
   have p3 : 1023 + 31 ≤ e + 15 := by omega
   rw [if_neg p1, if_neg p2, if_pos p3]
  ·have p3 : ¬ (1023 + 31 ≤ e + 15) := by omega
   by_cases h8 : 113 ≤ x
   ·have p1 : 113 ≤ x ∧ x ≤ 142 := by omega
    have p4 : 1023 < e + 15 := by omega
    rw [if_pos p1, if_neg p3, if_pos p4]
    by_cases h9 : f % 8192 = 0
    ·have p5 : m % 4398046511104 = 0 := by omega
     rw [if_pos h9, if_pos p5];obtain ⟨q, rfl⟩ : ∃ q, f = 8192 * q := ⟨f / 8192, by omega⟩
     have z1 : m / 4398046511104 = 8192 * q / 8192 := by omega
     have z2 : e + 15 - 1023 = x - 112 := by omega
     rw [z1, z2]
    ·have p5 : ¬ m % 4398046511104 = 0 := by omega
     rw [if_neg h9, if_neg p5]
   ·have p1 : ¬ (113 ≤ x ∧ x ≤ 142) := by omega
    have p4 : ¬ 1023 < e + 15 := by omega
    rw [if_neg p1, if_neg p3, if_neg p4]
    by_cases h9 : 103 ≤ x
    ·have p2 : 103 ≤ x ∧ x < 113 := by omega
     have p6 : ¬ 52 < 43 + (1023 - e - 15) := by omega
     rw [if_pos p2, if_neg p6];have hs : 43 + (1023 - e - 15) = 126 - x + 29 := by omega
     have hq : m + 4503599627370496 = (f + 8388608) * 2 ^ 29 := by simp only [Nat.reducePow]; omega
     rw [hs, hq, Nat.pow_add, Nat.mul_mod_mul_right, Nat.mul_div_mul_right _ _ (Nat.two_pow_pos 29)]
     by_cases h10 : (f + 8388608) % 2 ^ (126 - x) = 0
     ·have h11 : (f + 8388608) % 2 ^ (126 - x) * 2 ^ 29 = 0 := by rw [h10, Nat.zero_mul]
      rw [if_pos h10, if_pos h11]
     ·have h11 : ¬ (f + 8388608) % 2 ^ (126 - x) * 2 ^ 29 = 0 := by
       intro h
       have := Nat.two_pow_pos 29
       rcases Nat.mul_eq_zero.1 h with h | h <;> omega
      rw [if_neg h10, if_neg h11]
    ·have p2 : ¬ (103 ≤ x ∧ x < 113) := by omega
     have p6 : 52 < 43 + (1023 - e - 15) := by omega
     rw [if_neg p2, if_pos p6]
def byteN (n k : Nat) : UInt8 := u8 (n / 2 ^ (56 - 8 * k))
theorem byteN_cell (n k : Nat) : (#[.int .u8 ((n : Int) / 2 ^ (56 - 8 * k) % 256)] : Array Value).toList = [byteN n k].map byteV := by
 simp only [List.map_cons, List.map_nil, byteN, byteV_u8]
 simp
theorem cbor_wide (n : Nat) (hn : n < 18446744073709551616) (w : World) :
  Calls Tryz.prog 93 #[.int .u64 (n : Int)] w fun e w' => ∃ r, e = .returned r ∧ Fresh w (be8 n 8) r w' := by
 have HN := Hh hn;clear hn;have hO := OwnB.nil w w.heap.size;have hb := Below.refl w.heap.size w;go_enter Tryz.func93, Tryz.ntmps93
 go_wp2_with fail
 go_loopw [3, 4] (fun v3 v4 wr => ∃ (k : Nat) (VA : Option Addr) (vc : Nat), k ≤ 8 ∧ v4 = .int .i64 (56 - 8 * (k : Int)) ∧ v3 = .slice VA k vc ∧ OwnB wr w.heap.size (.slice VA k vc) (be8 n k) ∧ Below w.heap.size w wr) (fun _ v4 _ => (intOf v4 + 8).toNat)
 case atStart => exact ⟨0, none, 0, by omega, rfl, rfl, hO, hb⟩
 case round =>
  obtain ⟨k, VA, vc, hk, rfl, rfl, hOr, hbr⟩ := hrel
  by_cases hlt : k < 8
  ·have hcell := byteN_cell n k;have hb3 := hbr.alloc hbr.size (.cells #[.int .u8 ((n : Int) / 2 ^ (56 - 8 * k) % 256)] 5);have hO3 := hOr.alloc (.cells #[.int .u8 ((n : Int) / 2 ^ (56 - 8 * k) % 256)] 5);have HC := Hh hcell;clear hcell;go_wp2_with (at_builtin; refine stop_in ?_)
   refine wpList_app_bytes rfl (.tmp 9) (.tmp 14) rfl w.heap.size _ _ rfl hO3 _ 1 _ [byteN n k] rfl rfl (Src.new _ _ _ _ rfl _ HC.out) (by simp [be8_length]; omega) hb3.size fun v' w7 hO7 hg7 hat7 => ?_
   obtain ⟨VA', vc', rfl, _⟩ := hO7.form;have hll : (be8 n k ++ [byteN n k]).length = k + 1 := by simp [be8_length]
   have hO7' : OwnB w7 w.heap.size (.slice VA' (k + 1) vc') (be8 n (k + 1)) := by
    rw [hll] at hO7
    exact hO7
   rw [hll];have hb7 := hb3.grown hg7 hb3.size (fun q hq => (hO3.lt q hq).1);clear hll hg7 hat7 hO3 hOr hb3 hbr hO7;go_wp2_with fail
   go_roundw
   case rel => exact ⟨k + 1, VA', vc', by omega, by go_num, rfl, hO7', hb7⟩
   case measure => simp [intOf]; omega
  ·have hk8 : k = 8 := by omega
   subst hk8;go_wp2_with fail
   go_ret
   exact ⟨_, rfl, hOr, hbr⟩
theorem and_mod32 (a k : Nat) (ha : a < 4294967296) (hk : k < 32) : bits .and .u32 (a : Int) ((2 ^ k - 1 : Nat) : Int) = ((a % 2 ^ k : Nat) : Int) := by
 have : 2 ^ k < 2 ^ 32 := Nat.pow_lt_pow_right (by omega) hk
 simp only [Nat.reducePow] at this
 rw [u32_and_nat a (2 ^ k - 1) ha (by omega), Nat.and_two_pow_sub_one_eq_mod]
theorem or_low32 (b k : Nat) (hb : b < 2 ^ k) (hk : k < 31) : bits .or .u32 (b : Int) ((2 ^ k : Nat) : Int) = ((b + 2 ^ k : Nat) : Int) := by
 have h1 : 2 ^ k < 2 ^ 31 := Nat.pow_lt_pow_right (by omega) hk
 simp only [Nat.reducePow] at h1
 rw [u32_or_nat _ _ (by omega) (by omega), Nat.or_comm];have := Nat.two_pow_add_eq_or_of_lt hb 1;rw [Nat.mul_one] at this;rw [← this, Nat.add_comm]
theorem or_add16 (a k b : Nat) (hb : b < 2 ^ k) (h : a * 2 ^ k + b < 65536) : bits .or .u16 ((a * 2 ^ k : Nat) : Int) (b : Int) = ((a * 2 ^ k + b : Nat) : Int) := by
 rw [u16_or_nat _ _ (by omega) (by omega), Nat.mul_comm, Nat.two_pow_add_eq_or_of_lt hb]
theorem u16_nat (q : Nat) (h : q < 65536) : IntKind.u16.wrap (q : Int) = (q : Int) := IntWalk.u16_in _ (by omega)
theorem cbor_half (v : Nat) (hv : v < 4294967296) (w : World) :
  Calls Tryz.prog 95 #[.int .u32 (v : Int)] w
   fun e w' => (∃ h : Nat, e = .returned (.tuple #[.int .u16 (h : Int), .bool (halfP v).isSome]) ∧ ∀ x, halfP v = some x → h = x) ∧ w = w' := by
 have A1 := and_mod32 (v / 2 ^ 23) 8 (by omega) (by omega);have A2 := and_mod32 v 23 hv (by omega)
 simp only [Nat.reducePow, Nat.reduceSub] at A1 A2
 rw [Int.natCast_ediv] at A1;obtain ⟨ex, hex⟩ : ∃ ex, v / 8388608 % 256 = ex := ⟨_, rfl⟩
 obtain ⟨mx, hmx⟩ : ∃ mx, v % 8388608 = mx := ⟨_, rfl⟩
 obtain ⟨sg, hsg⟩ : ∃ sg, v / 2147483648 = sg := ⟨_, rfl⟩
 have hs1 : sg ≤ 1 := by omega
 have E : Hid (halfP v = if ex = 255 then some (sg * 32768 + 31744) else if ex = 0 then (if mx = 0 then some (sg * 32768) else none)
   else if 113 ≤ ex ∧ ex ≤ 142 then (if mx % 8192 = 0 then some (sg * 32768 + (ex - 112) * 1024 + mx / 8192) else none)
   else if 103 ≤ ex ∧ ex < 113 then (if (mx + 8388608) % 2 ^ (126 - ex) = 0 then some (sg * 32768 + (mx + 8388608) / 2 ^ (126 - ex)) else none) else none) := by
  rw [Hid, halfP]
  simp only [hex, hmx, hsg]
 rw [hex] at A1;rw [hmx] at A2;have he1 : ex < 256 := by omega
 have hm1 : mx < 8388608 := by omega
 have A1' : bits .and .u32 ((v : Int) / 8388608) 255 = (ex : Int) := A1;have A2' : bits .and .u32 (v : Int) 8388607 = (mx : Int) := A2;have K1 : IntKind.i64.wrap (ex : Int) = (ex : Int) := IntWalk.i64_in _ (by omega)
 have KS : Hid (IntKind.u16.wrap ((v : Int) / 2147483648 * 32768 % 4294967296) = ((sg * 2 ^ 15 : Nat) : Int)) := by
  have h : (v : Int) / 2147483648 * 32768 % 4294967296 = (sg : Int) * 32768 := by omega
  simp only [Nat.reducePow]
  rw [Hid, h, IntWalk.u16_in _ (by omega)]
  omega
 clear hv hex hmx hsg A1 A2;go_enter Tryz.func95, Tryz.ntmps95
 go_wp2_with fail
 ·have h1 : ex = 255 := by
   have h : ((ex : Int) == 255) = true := by assumption
   rw [beq_iff_eq] at h
   omega
  go_ret2
  have hor := or_add16 sg 15 31744 (by omega) (by omega)
  refine ⟨⟨sg * 32768 + 31744, ?_, ?_⟩, rfl⟩
  ·show Ending.returned (Value.tuple #[Value.int .u16 _, Value.bool _]) = _
   rw [KS.out, E.out, if_pos h1];rw [show (31744 : Int) = ((31744 : Nat) : Int) from rfl, hor];rfl
  ·intro x hx
   rw [E.out, if_pos h1] at hx;injection hx
 all_goals
  have h1 : ¬ ex = 255 := by
   have h : ((ex : Int) == 255) = false := by assumption
   rw [beq_eq_false_iff_ne] at h
   omega
  rw [if_neg h1] at E
 ·have h2 : ex = 0 := by
   have h : ((ex : Int) == 0) = true := by assumption
   rw [beq_iff_eq] at h
   omega
  rw [if_pos h2] at E;go_ret2
  refine ⟨⟨sg * 32768, ?_, ?_⟩, rfl⟩
  ·show Ending.returned (Value.tuple #[Value.int .u16 _, Value.bool _]) = _
   rw [KS.out, E.out]
   by_cases h : mx = 0 <;> simp [h]
  ·intro x hx
   rw [E.out] at hx
   split at hx
   ·injection hx
   ·cases hx
 all_goals
  have h2 : ¬ ex = 0 := by
   have h : ((ex : Int) == 0) = false := by assumption
   rw [beq_eq_false_iff_ne] at h
   omega
  rw [if_neg h2] at E
 ·have h3 : 113 ≤ ex ∧ ex ≤ 142 := by omega
  rw [if_pos h3] at E;obtain ⟨q, hq⟩ : ∃ q, ex - 112 = q := ⟨_, rfl⟩
  have hqi : ((ex : Int) - 112) * 1024 = ((q * 1024 : Nat) : Int) := by omega
  have hmi : (mx : Int) / 8192 = ((mx / 8192 : Nat) : Int) := by omega
  have ha := and_mod32 mx 13 (by omega) (by omega)
  simp only [Nat.reducePow, Nat.reduceSub] at ha
  have ho1 := or_add16 sg 15 (q * 1024) (by omega) (by omega);have ho2 := or_add16 (sg * 2 ^ 5 + q) 10 (mx / 8192) (by omega) (by omega);rw [show (sg * 2 ^ 5 + q) * 2 ^ 10 = sg * 2 ^ 15 + q * 1024 by omega] at ho2;go_ret2
  refine ⟨⟨sg * 32768 + q * 1024 + mx / 8192, ?_, ?_⟩, rfl⟩
  ·show Ending.returned (Value.tuple #[Value.int .u16 _, Value.bool _]) = _
   rw [KS.out, E.out, hqi, hmi, ho1, ho2];have ha' : bits .and .u32 (mx : Int) 8191 = ((mx % 8192 : Nat) : Int) := ha;rw [ha']
   by_cases h : mx % 8192 = 0
   ·rw [if_pos h, h]; rfl
   ·rw [if_neg h];have : (((mx % 8192 : Nat) : Int) == 0) = false := by rw [beq_eq_false_iff_ne]; omega
    rw [this]; rfl
  ·intro x hx
   rw [E.out, hq] at hx
   split at hx
   ·injection hx
   ·cases hx
 ·have h3 : ¬ (113 ≤ ex ∧ ex ≤ 142) := by omega
  have h4 : ¬ (103 ≤ ex ∧ ex < 113) := by omega
  rw [if_neg h3, if_neg h4] at E;go_ret2
  refine ⟨⟨0, ?_, ?_⟩, rfl⟩
  ·rw [E.out]; rfl
  ·intro x hx
   rw [E.out] at hx
   cases hx
 ·have h3 : ¬ (113 ≤ ex ∧ ex ≤ 142) := by omega
  have h4 : 103 ≤ ex ∧ ex < 113 := by omega
  rw [if_neg h3, if_pos h4] at E;obtain ⟨sh, hsh⟩ : ∃ sh, 126 - ex = sh := ⟨_, rfl⟩
  obtain ⟨full, hfull⟩ : ∃ full, mx + 8388608 = full := ⟨_, rfl⟩
  have hof : bits .or .u32 (mx : Int) 8388608 = (full : Int) := by
   have := or_low32 mx 23 (by omega) (by omega)
   simp only [Nat.reducePow] at this
   rw [← hfull]
   exact this
  have hp : 2 ^ sh < 2 ^ 32 := Nat.pow_lt_pow_right (by omega) (by omega);have hp0 : 0 < 2 ^ sh := Nat.two_pow_pos sh
  simp only [Nat.reducePow] at hp
  have hwi : (2 : Int) ^ sh = ((2 ^ sh : Nat) : Int) := by rw [Int.natCast_pow]; rfl
  have hw : ((2 : Int) ^ sh - 1) % 4294967296 = ((2 ^ sh - 1 : Nat) : Int) := by rw [hwi]; omega
  have hdv : (full : Int) / 2 ^ sh = ((full / 2 ^ sh : Nat) : Int) := by
   rw [Int.natCast_ediv, Int.natCast_pow]; rfl
  have hlt : full / 2 ^ sh < 2 ^ 15 := by
   apply Nat.div_lt_of_lt_mul
   have h1 : 2 ^ 14 ≤ 2 ^ sh := Nat.pow_le_pow_right (by omega) (by omega);have h2 : 2 ^ 14 * 2 ^ 15 ≤ 2 ^ sh * 2 ^ 15 := Nat.mul_le_mul_right _ h1
   simp only [Nat.reducePow, Nat.reduceMul] at h2 ⊢
   omega
  have hlt' : full / 2 ^ sh < 32768 := hlt;have hwr : IntKind.u16.wrap ((full / 2 ^ sh : Nat) : Int) = ((full / 2 ^ sh : Nat) : Int) := u16_nat _ (by omega);have ho := or_add16 sg 15 (full / 2 ^ sh) hlt (by simp only [Nat.reducePow]; omega);have ha := and_mod32 full sh (by omega) (by omega);go_ret2
  refine ⟨⟨sg * 32768 + full / 2 ^ sh, ?_, ?_⟩, rfl⟩
  ·show Ending.returned (Value.tuple #[Value.int .u16 _, Value.bool _]) = _
   rw [KS.out, E.out, hsh, hof, hw, ha, hdv, hwr, ho, hfull]
   by_cases h : full % 2 ^ sh = 0
   ·rw [if_pos h, h]; rfl
   ·rw [if_neg h];have : (((full % 2 ^ sh : Nat) : Int) == 0) = false := by rw [beq_eq_false_iff_ne]; omega
    rw [this]; rfl
  ·intro x hx
   rw [E.out, hsh, hfull] at hx
   split at hx
   ·injection hx
   ·cases hx
 ·have h3 : ¬ (113 ≤ ex ∧ ex ≤ 142) := by omega
  have h4 : ¬ (103 ≤ ex ∧ ex < 113) := by omega
  rw [if_neg h3, if_neg h4] at E;go_ret2
  refine ⟨⟨0, ?_, ?_⟩, rfl⟩
  ·rw [E.out]; rfl
  ·intro x hx
   rw [E.out] at hx
   cases hx
end Go.Proofs.YtmacemcajlgddaaGreatDoor
