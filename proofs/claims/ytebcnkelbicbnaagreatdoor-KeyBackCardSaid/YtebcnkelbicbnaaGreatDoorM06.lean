/- Walks: cbor.head. Walks: cbor.major. Encodings are prefix-free: plain mathematics. -/
import Derived.Test.YtebcnkelbicbnaaGreatDoorM01
import Derived.RegionTactic
import Derived.ChangeAlike
import Derived.Test.YtebcnkelbicbnaaGreatDoorM02
set_option linter.unusedVariables false
set_option linter.unusedSimpArgs false
namespace Go.Proofs.YtebcnkelbicbnaaGreatDoor
open Go.RowKit

set_option maxRecDepth 100000 in
set_option maxHeartbeats 800000 in
theorem cbor_head (m n : Int) (w : World) (hm0 : 0 ≤ m) (hm : m < 8) (h0 : 0 ≤ n) (h1 : n < 18446744073709551616) :
    Calls Tryz.prog 77 #[.int .u8 m, .int .u64 n] w fun e w' => ∃ r, e = .returned r ∧ Fresh w (headB m.toNat n.toNat) r w' := by
  obtain ⟨m', hm'⟩ := Int.eq_ofNat_of_zero_le hm0
  obtain ⟨n', hn'⟩ := Int.eq_ofNat_of_zero_le h0
  have HM := Lib.hid hm'
  have HN := Lib.hid hn'
  have H1 := Lib.hid h1
  clear h1 hm' hn'
  go_enter Tryz.func77, Tryz.ntmps77
  go_wp2
  · go_ret
    obtain rfl := HM.out
    obtain rfl := HN.out
    rw [Int.toNat_natCast, Int.toNat_natCast]
    have hlt : (n' : Int) < 24 := by with_reducible assumption
    refine ⟨_, rfl, Fresh.lit _ _ _ 1 ?_ ?_ ?_⟩
    · rw [headB_length, if_pos (by omega)]
    · have := (headB_le m' n').2; omega
    · rw [headB, if_pos (by omega)]
      simp only [List.map_cons, List.map_nil, byteV_u8]
      rw [u8_head m' n' (by omega) (by omega), Nat.mod_eq_of_lt (by omega)]
  · go_ret
    obtain rfl := HM.out
    obtain rfl := HN.out
    rw [Int.toNat_natCast, Int.toNat_natCast]
    have hge : (24 : Int) ≤ n' := by with_reducible assumption
    have hlt : (n' : Int) < 256 := by with_reducible assumption
    refine ⟨_, rfl, Fresh.lit _ _ _ 2 ?_ ?_ ?_⟩
    · rw [headB_length, if_neg (by omega), if_pos (by omega)]
    · have := (headB_le m' n').2; omega
    · rw [headB, if_neg (by omega), if_pos (by omega)]
      simp only [List.map_cons, List.map_nil, byteV_u8]
      have e24' := u8_head m' 24 (by omega) (by omega)
      rw [show ((24 : Nat) : Int) = 24 from rfl] at e24'
      rw [e24', Nat.mod_eq_of_lt (by omega), Nat.mod_eq_of_lt (by omega)]
  · go_ret
    obtain rfl := HM.out
    obtain rfl := HN.out
    rw [Int.toNat_natCast, Int.toNat_natCast]
    have hge : (256 : Int) ≤ n' := by with_reducible assumption
    have hlt : (n' : Int) < 65536 := by with_reducible assumption
    refine ⟨_, rfl, Fresh.lit _ _ _ 3 ?_ ?_ ?_⟩
    · rw [headB_length, if_neg (by omega), if_neg (by omega), if_pos (by omega)]
    · have := (headB_le m' n').2; omega
    · rw [headB, if_neg (by omega), if_neg (by omega), if_pos (by omega)]
      simp only [List.map_cons, List.map_nil, byteV_u8]
      have e24' := u8_head m' 25 (by omega) (by omega)
      rw [show ((25 : Nat) : Int) = 25 from rfl] at e24'
      rw [e24', Nat.mod_eq_of_lt (show m' * 32 + 25 < 256 by omega), Nat.mod_eq_of_lt (show n' / 256 < 256 by omega)]
      rfl
  · go_ret
    obtain rfl := HM.out
    obtain rfl := HN.out
    rw [Int.toNat_natCast, Int.toNat_natCast]
    have hge : (65536 : Int) ≤ n' := by with_reducible assumption
    have hlt : (n' : Int) < 4294967296 := by with_reducible assumption
    refine ⟨_, rfl, Fresh.lit _ _ _ 5 ?_ ?_ ?_⟩
    · rw [headB_length, if_neg (by omega), if_neg (by omega), if_neg (by omega), if_pos (by omega)]
    · have := (headB_le m' n').2; omega
    · rw [headB, if_neg (by omega), if_neg (by omega), if_neg (by omega), if_pos (by omega)]
      simp only [List.map_cons, List.map_nil, byteV_u8]
      have e24' := u8_head m' 26 (by omega) (by omega)
      rw [show ((26 : Nat) : Int) = 26 from rfl] at e24'
      rw [e24', Nat.mod_eq_of_lt (show m' * 32 + 26 < 256 by omega), Nat.mod_eq_of_lt (show n' / 16777216 < 256 by omega)]
      rfl
  · have HG : Hid (headB m.toNat n.toNat = u8 (m.toNat * 32 + 27) :: be8 n.toNat 8) := by
      have hge : (4294967296 : Int) ≤ n := by with_reducible assumption
      rw [headB, if_neg (by omega), if_neg (by omega), if_neg (by omega), if_neg (by omega)]
      rfl
    have hst : OwnB (w.alloc (.cells #[.int .u8 (bits .or .u8 (m * 32) 27)] 5)) w.heap.size (.slice (some ⟨w.heap.size, 0, none⟩) 1 1) [u8 (m.toNat * 32 + 27)] := by
      refine OwnB.lit w _ _ _ 1 rfl ?_ (Nat.le_refl _) (by simp)
      have e27' := u8_head m.toNat 27 (by omega) (by omega)
      rw [show ((27 : Nat) : Int) = 27 from rfl, Int.toNat_of_nonneg hm0] at e27'
      simp only [List.map_cons, List.map_nil, byteV_u8]
      rw [e27', Nat.mod_eq_of_lt (by omega)]
    go_loopw [6, 7] (fun v s wr => ∃ k : Nat, k ≤ 8 ∧ s = .int .i64 (56 - 8 * (k : Int)) ∧ OwnB wr w.heap.size v (u8 (m.toNat * 32 + 27) :: be8 n.toNat k) ∧ Below w.heap.size w wr) (fun _ s _ => (intOf s + 8).toNat)
    case atStart => exact ⟨0, by omega, rfl, hst, (Below.refl _ _).alloc (Nat.le_refl _) _⟩
    case round =>
      obtain ⟨k, hk, rfl, hown, hb⟩ := hrel
      by_cases hlt : k < 8
      · have hbs := hb.size
        go_wp2_with (at_builtin; refine wpList_app_bytes rfl (.tmp 61) (.tmp 66) rfl w.heap.size _ _ rfl (hown.alloc _) _ 1 1 [u8 (n.toNat / 2 ^ (56 - 8 * k))] rfl rfl ?hs ?hl ?hz ?_)
        case hs =>
          rw [byteV_of (n / 2 ^ (56 - 8 * k) % 256) (n.toNat / 2 ^ (56 - 8 * k)) (by obtain rfl := HN.out; simp)]
          exact Src.lit wr #[byteV (u8 (n.toNat / 2 ^ (56 - 8 * k)))] _
        case hl => simp [be8_length]; omega
        case hz => simp; omega
        intro v' w' hown' hg _
        have R : OwnB w' w.heap.size v' (u8 (m.toNat * 32 + 27) :: be8 n.toNat (k + 1)) ∧ Below w.heap.size w w' :=
          ⟨by simpa [be8] using hown', ((hb.alloc hbs _).grown hg (by simp; omega) (fun g hg => (hown.lt g hg).1))⟩
        clear hown' hg hown hb hst
        go_wp2
        go_roundw
        case rel => exact ⟨k + 1, by omega, by go_num, R.1, R.2⟩
        case measure => simp [intOf]; omega
      · have hk8 : k = 8 := by omega
        subst hk8
        go_wp2
        go_ret
        refine ⟨_, rfl, ?_⟩
        rw [HG.out]
        exact ⟨hown, hb⟩
end Go.Proofs.YtebcnkelbicbnaaGreatDoor
namespace Go.Proofs.YtebcnkelbicbnaaGreatDoor
open Go.RowKit

set_option maxRecDepth 100000 in
set_option maxHeartbeats 800000 in
theorem cbor_major {H : Snap} {k n : Int} {ba : Option Addr} {bl bc : Nat} {ia : Option Addr} {il ic : Nat} {x : Itm} (hx : ItemA H k n ba bl bc ia il ic x) (w : World) (h0 : 0 ≤ x.kind) (h8 : x.kind ≤ 8) :
    Calls Tryz.prog 78 #[.agg #[.int .i64 k, .int .u64 n, .slice ba bl bc, .slice ia il ic]] w fun e w' => e = .returned (.tuple #[.int .u8 x.kind, .int .u64 (numP x)]) ∧ Below w.heap.size w w' := by
  obtain ⟨rfl, rfl, rfl, rfl, hx⟩ := hx
  obtain ⟨_, _, hn, hb1, hb2, hi1, hi2⟩ := hx.bounds
  have hb : x.bytes.length ≤ 9223372036854775807 := by omega
  have hi : x.items.length ≤ 9223372036854775807 := by omega
  clear hb1 hb2 hi1 hi2 hx
  have HN := Lib.hid hn
  clear hn
  by_cases h2 : x.kind = 2
  · have e : Hid (Ending.returned (.tuple #[.int .u8 2, .int .u64 x.bytes.length]) = Ending.returned (.tuple #[.int .u8 x.kind, .int .u64 (numP x)])) := by simp [Hid, numP, h2]
    go_enter Tryz.func78, Tryz.ntmps78
    go_wp2
    go_region
    all_goals go_wp2
    all_goals go_ret2
    all_goals exact ⟨e.out, (below_box w _).drew⟩
  by_cases h3 : x.kind = 3
  · have e : Hid (Ending.returned (.tuple #[.int .u8 3, .int .u64 x.bytes.length]) = Ending.returned (.tuple #[.int .u8 x.kind, .int .u64 (numP x)])) := by simp [Hid, numP, h3]
    clear h2
    go_enter Tryz.func78, Tryz.ntmps78
    go_wp2
    go_region
    all_goals go_wp2
    all_goals go_ret2
    all_goals exact ⟨e.out, (below_box w _).drew⟩
  by_cases h4 : x.kind = 4
  · have e : Hid (Ending.returned (.tuple #[.int .u8 4, .int .u64 x.items.length]) = Ending.returned (.tuple #[.int .u8 x.kind, .int .u64 (numP x)])) := by simp [Hid, numP, h4]
    clear h2 h3
    go_enter Tryz.func78, Tryz.ntmps78
    go_wp2
    go_region
    all_goals go_wp2
    all_goals go_ret2
    all_goals exact ⟨e.out, (below_box w _).drew⟩
  by_cases h5 : x.kind = 5
  · have e : Hid (Ending.returned (.tuple #[.int .u8 5, .int .u64 ((x.items.length : Int) / 2)]) = Ending.returned (.tuple #[.int .u8 x.kind, .int .u64 (numP x)])) := by simp [Hid, numP, h5]
    clear h2 h3 h4
    go_enter Tryz.func78, Tryz.ntmps78
    go_wp2
    go_region
    all_goals go_wp2
    all_goals go_ret2
    all_goals exact ⟨e.out, (below_box w _).drew⟩
  have e : Hid (Ending.returned (.tuple #[.int .u8 x.kind, .int .u64 x.n]) = Ending.returned (.tuple #[.int .u8 x.kind, .int .u64 (numP x)])) := by simp [Hid, numP, h2, h3, h4, h5]
  have b2 : (x.kind == 2) = false := by simp [h2]
  have b3 : (x.kind == 3) = false := by simp [h3]
  have b4 : (x.kind == 4) = false := by simp [h4]
  have b5 : (x.kind == 5) = false := by simp [h5]
  clear h2 h3 h4 h5
  go_enter Tryz.func78, Tryz.ntmps78
  go_wp2
  go_region
  all_goals go_wp2
  all_goals go_ret2
  all_goals exact ⟨e.out, (below_box w _).drew⟩

end Go.Proofs.YtebcnkelbicbnaaGreatDoor
namespace Go.Proofs.YtebcnkelbicbnaaGreatDoor
open Go.RowKit

/-- What bits a narrow number has, and which wide one it is. -/
def Nar15 (n v s x f : Nat) : Prop := s ≤ 1 ∧ v = s * 32768 + x * 1024 + f ∧ f < 1024 ∧ x ≤ 31 ∧
  ((x = 31 ∧ f = 0 ∧ n = s * 9223372036854775808 + 9218868437227405312) ∨ (x = 0 ∧ f = 0 ∧ n = s * 9223372036854775808) ∨
   (1 ≤ x ∧ x ≤ 30 ∧ n = s * 9223372036854775808 + (x + 1008) * 4503599627370496 + f * 4398046511104) ∨
   (x = 0 ∧ ∃ t full, t < 10 ∧ 2 ^ t ≤ f ∧ f < 2 ^ (t + 1) ∧ full = f * 2 ^ (52 - t) ∧ 4503599627370496 ≤ full ∧ n = s * 9223372036854775808 + (999 + t) * 4503599627370496 + (full - 4503599627370496)))
theorem nar15_mk (n v s x f : Nat) (h1 : s ≤ 1) (h2 : v = s * 32768 + x * 1024 + f) (h3 : f < 1024) (h4 : x ≤ 31)
    (h : (x = 31 ∧ f = 0 ∧ n = s * 9223372036854775808 + 9218868437227405312) ∨ (x = 0 ∧ f = 0 ∧ n = s * 9223372036854775808) ∨
   (1 ≤ x ∧ x ≤ 30 ∧ n = s * 9223372036854775808 + (x + 1008) * 4503599627370496 + f * 4398046511104) ∨
   (x = 0 ∧ ∃ t full, t < 10 ∧ 2 ^ t ≤ f ∧ f < 2 ^ (t + 1) ∧ full = f * 2 ^ (52 - t) ∧ 4503599627370496 ≤ full ∧ n = s * 9223372036854775808 + (999 + t) * 4503599627370496 + (full - 4503599627370496))) : ∃ s x f, Nar15 n v s x f :=
  ⟨s, x, f, h1, h2, h3, h4, h⟩
theorem narrow15_spec {n v : Nat} (hn : n < 18446744073709551616) (h : narrow n 5 10 = some v) : ∃ s x f, Nar15 n v s x f := by
  obtain ⟨ex, hex⟩ : ∃ ex, n / 4503599627370496 % 2048 = ex := ⟨_, rfl⟩
  obtain ⟨mx, hmx⟩ : ∃ mx, n % 4503599627370496 = mx := ⟨_, rfl⟩
  obtain ⟨sg, hsg⟩ : ∃ sg, n / 9223372036854775808 = sg := ⟨_, rfl⟩
  have hs1 : sg ≤ 1 := by omega
  have hnn : n = sg * 9223372036854775808 + ex * 4503599627370496 + mx := by omega
  have he1 : ex < 2048 := by omega
  have hm1 : mx < 4503599627370496 := by omega
  rw [narrow] at h
  simp only [Nat.reducePow, Nat.reduceSub, Nat.reduceAdd, Nat.reduceMul, hex, hmx, hsg] at h
  clear hex hmx hsg hn
  split at h
  · rename_i q1
    split at h
    · rename_i q2
      injection h with h
      subst q1 q2
      exact nar15_mk _ _ _ _ _ hs1 (by omega) (by omega) (by omega) (.inl (And.intro rfl (And.intro rfl (by omega))))
    · cases h
  rename_i c1
  split at h
  · rename_i q1
    split at h
    · rename_i q2
      injection h with h
      subst q1 q2
      exact nar15_mk _ _ _ 0 0 hs1 (by omega) (by omega) (by omega) (.inr (.inl (And.intro rfl (And.intro rfl (by rw [hnn, Nat.zero_mul]; simp only [Nat.add_zero])))))
    · cases h
  rename_i c2
  split at h
  · cases h
  rename_i c3
  split at h
  · rename_i c4
    split at h
    · rename_i c5
      injection h with h
      obtain ⟨x, hx⟩ : ∃ x, ex = x + 1008 := ⟨ex - 1008, by omega⟩
      obtain ⟨f, hf⟩ : ∃ f, mx = f * 4398046511104 := ⟨mx / 4398046511104, by omega⟩
      subst hx hf
      exact nar15_mk _ _ _ x f hs1 (by omega) (by omega) (by omega) (.inr (.inr (.inl (And.intro (by omega) (And.intro (by omega) hnn)))))
    · cases h
  rename_i c4
  split at h
  · cases h
  rename_i c5
  split at h
  · rename_i c6
    injection h with h
    obtain ⟨t, ht⟩ : ∃ t, ex = 999 + t := ⟨ex - 999, by omega⟩
    have hsh : 43 + (1023 - ex - 15) = 52 - t := by omega
    rw [hsh] at h c6
    obtain ⟨f, hf⟩ : ∃ f, (mx + 4503599627370496) / 2 ^ (52 - t) = f := ⟨_, rfl⟩
    have hfull : mx + 4503599627370496 = f * 2 ^ (52 - t) := by
      rw [← hf, Nat.div_mul_cancel (Nat.dvd_of_mod_eq_zero c6)]
    have hpos : 0 < 2 ^ (52 - t) := Nat.two_pow_pos _
    have e1 : 2 ^ t * 2 ^ (52 - t) = 4503599627370496 := by
      rw [← Nat.pow_add, show t + (52 - t) = 52 by omega]
    have e2 : 2 ^ (t + 1) * 2 ^ (52 - t) = 9007199254740992 := by
      rw [← Nat.pow_add, show t + 1 + (52 - t) = 53 by omega]
    have b1 : 2 ^ t ≤ f := by
      apply Nat.le_of_mul_le_mul_right _ hpos
      omega
    have b2 : f < 2 ^ (t + 1) := by
      apply Nat.lt_of_mul_lt_mul_right (a := 2 ^ (52 - t))
      omega
    have b3 : 2 ^ (t + 1) ≤ 2 ^ 10 := Nat.pow_le_pow_right (by omega) (by omega)
    simp only [Nat.reducePow] at b3
    rw [hf] at h
    have hn' : n = sg * 9223372036854775808 + (999 + t) * 4503599627370496 + (mx + 4503599627370496 - 4503599627370496) := by rw [hnn, ht, Nat.add_sub_cancel]
    exact nar15_mk _ _ _ 0 f hs1 (by omega) (by omega) (by omega) (.inr (.inr (.inr (And.intro rfl ⟨t, mx + 4503599627370496, by omega, b1, b2, hfull, by omega, hn'⟩))))
  · cases h
theorem pow_uniq15 {f t t' : Nat} (h1 : 2 ^ t ≤ f) (h2 : f < 2 ^ (t + 1)) (h3 : 2 ^ t' ≤ f) (h4 : f < 2 ^ (t' + 1)) : t = t' := by
  rcases Nat.lt_trichotomy t t' with h | h | h
  · have : 2 ^ (t + 1) ≤ 2 ^ t' := Nat.pow_le_pow_right (by omega) h
    omega
  · exact h
  · have : 2 ^ (t' + 1) ≤ 2 ^ t := Nat.pow_le_pow_right (by omega) h
    omega
theorem narrow15_inj {n n' v : Nat} (hn : n < 18446744073709551616) (hn' : n' < 18446744073709551616) (h : narrow n 5 10 = some v) (h' : narrow n' 5 10 = some v) : n = n' := by
  obtain ⟨s, x, f, a1, a2, a3, a4, a5⟩ := narrow15_spec hn h
  obtain ⟨s', x', f', b1, b2, b3, b4, b5⟩ := narrow15_spec hn' h'
  obtain rfl : s = s' := by omega
  obtain rfl : x = x' := by omega
  obtain rfl : f = f' := by omega
  rcases a5 with ⟨c1, c2, c3⟩ | ⟨c1, c2, c3⟩ | ⟨c1, c2, c3⟩ | ⟨c1, t, full, c2, c3, c4, c5, c6, c7⟩ <;> rcases b5 with ⟨d1, d2, d3⟩ | ⟨d1, d2, d3⟩ | ⟨d1, d2, d3⟩ | ⟨d1, t', full', d2, d3, d4, d5, d6, d7⟩
  all_goals try omega
  · obtain rfl := pow_uniq15 c3 c4 d3 d4
    rw [← c5] at d5
    omega
theorem narrow15_lt {n v : Nat} (hn : n < 18446744073709551616) (h : narrow n 5 10 = some v) : v < 65536 := by
  obtain ⟨s, x, f, a1, a2, a3, a4, a5⟩ := narrow15_spec hn h
  omega

/-- What bits a narrow number has, and which wide one it is. -/
def Nar31 (n v s x f : Nat) : Prop := s ≤ 1 ∧ v = s * 2147483648 + x * 8388608 + f ∧ f < 8388608 ∧ x ≤ 255 ∧
  ((x = 255 ∧ f = 0 ∧ n = s * 9223372036854775808 + 9218868437227405312) ∨ (x = 0 ∧ f = 0 ∧ n = s * 9223372036854775808) ∨
   (1 ≤ x ∧ x ≤ 254 ∧ n = s * 9223372036854775808 + (x + 896) * 4503599627370496 + f * 536870912) ∨
   (x = 0 ∧ ∃ t full, t < 23 ∧ 2 ^ t ≤ f ∧ f < 2 ^ (t + 1) ∧ full = f * 2 ^ (52 - t) ∧ 4503599627370496 ≤ full ∧ n = s * 9223372036854775808 + (874 + t) * 4503599627370496 + (full - 4503599627370496)))
theorem nar31_mk (n v s x f : Nat) (h1 : s ≤ 1) (h2 : v = s * 2147483648 + x * 8388608 + f) (h3 : f < 8388608) (h4 : x ≤ 255)
    (h : (x = 255 ∧ f = 0 ∧ n = s * 9223372036854775808 + 9218868437227405312) ∨ (x = 0 ∧ f = 0 ∧ n = s * 9223372036854775808) ∨
   (1 ≤ x ∧ x ≤ 254 ∧ n = s * 9223372036854775808 + (x + 896) * 4503599627370496 + f * 536870912) ∨
   (x = 0 ∧ ∃ t full, t < 23 ∧ 2 ^ t ≤ f ∧ f < 2 ^ (t + 1) ∧ full = f * 2 ^ (52 - t) ∧ 4503599627370496 ≤ full ∧ n = s * 9223372036854775808 + (874 + t) * 4503599627370496 + (full - 4503599627370496))) : ∃ s x f, Nar31 n v s x f :=
  ⟨s, x, f, h1, h2, h3, h4, h⟩
theorem narrow31_spec {n v : Nat} (hn : n < 18446744073709551616) (h : narrow n 8 23 = some v) : ∃ s x f, Nar31 n v s x f := by
  obtain ⟨ex, hex⟩ : ∃ ex, n / 4503599627370496 % 2048 = ex := ⟨_, rfl⟩
  obtain ⟨mx, hmx⟩ : ∃ mx, n % 4503599627370496 = mx := ⟨_, rfl⟩
  obtain ⟨sg, hsg⟩ : ∃ sg, n / 9223372036854775808 = sg := ⟨_, rfl⟩
  have hs1 : sg ≤ 1 := by omega
  have hnn : n = sg * 9223372036854775808 + ex * 4503599627370496 + mx := by omega
  have he1 : ex < 2048 := by omega
  have hm1 : mx < 4503599627370496 := by omega
  rw [narrow] at h
  simp only [Nat.reducePow, Nat.reduceSub, Nat.reduceAdd, Nat.reduceMul, hex, hmx, hsg] at h
  clear hex hmx hsg hn
  split at h
  · rename_i q1
    split at h
    · rename_i q2
      injection h with h
      subst q1 q2
      exact nar31_mk _ _ _ _ _ hs1 (by omega) (by omega) (by omega) (.inl (And.intro rfl (And.intro rfl (by omega))))
    · cases h
  rename_i c1
  split at h
  · rename_i q1
    split at h
    · rename_i q2
      injection h with h
      subst q1 q2
      exact nar31_mk _ _ _ 0 0 hs1 (by omega) (by omega) (by omega) (.inr (.inl (And.intro rfl (And.intro rfl (by rw [hnn, Nat.zero_mul]; simp only [Nat.add_zero])))))
    · cases h
  rename_i c2
  split at h
  · cases h
  rename_i c3
  split at h
  · rename_i c4
    split at h
    · rename_i c5
      injection h with h
      obtain ⟨x, hx⟩ : ∃ x, ex = x + 896 := ⟨ex - 896, by omega⟩
      obtain ⟨f, hf⟩ : ∃ f, mx = f * 536870912 := ⟨mx / 536870912, by omega⟩
      subst hx hf
      exact nar31_mk _ _ _ x f hs1 (by omega) (by omega) (by omega) (.inr (.inr (.inl (And.intro (by omega) (And.intro (by omega) hnn)))))
    · cases h
  rename_i c4
  split at h
  · cases h
  rename_i c5
  split at h
  · rename_i c6
    injection h with h
    obtain ⟨t, ht⟩ : ∃ t, ex = 874 + t := ⟨ex - 874, by omega⟩
    have hsh : 30 + (1023 - ex - 127) = 52 - t := by omega
    rw [hsh] at h c6
    obtain ⟨f, hf⟩ : ∃ f, (mx + 4503599627370496) / 2 ^ (52 - t) = f := ⟨_, rfl⟩
    have hfull : mx + 4503599627370496 = f * 2 ^ (52 - t) := by
      rw [← hf, Nat.div_mul_cancel (Nat.dvd_of_mod_eq_zero c6)]
    have hpos : 0 < 2 ^ (52 - t) := Nat.two_pow_pos _
    have e1 : 2 ^ t * 2 ^ (52 - t) = 4503599627370496 := by
      rw [← Nat.pow_add, show t + (52 - t) = 52 by omega]
    have e2 : 2 ^ (t + 1) * 2 ^ (52 - t) = 9007199254740992 := by
      rw [← Nat.pow_add, show t + 1 + (52 - t) = 53 by omega]
    have b1 : 2 ^ t ≤ f := by
      apply Nat.le_of_mul_le_mul_right _ hpos
      omega
    have b2 : f < 2 ^ (t + 1) := by
      apply Nat.lt_of_mul_lt_mul_right (a := 2 ^ (52 - t))
      omega
    have b3 : 2 ^ (t + 1) ≤ 2 ^ 23 := Nat.pow_le_pow_right (by omega) (by omega)
    simp only [Nat.reducePow] at b3
    rw [hf] at h
    have hn' : n = sg * 9223372036854775808 + (874 + t) * 4503599627370496 + (mx + 4503599627370496 - 4503599627370496) := by rw [hnn, ht, Nat.add_sub_cancel]
    exact nar31_mk _ _ _ 0 f hs1 (by omega) (by omega) (by omega) (.inr (.inr (.inr (And.intro rfl ⟨t, mx + 4503599627370496, by omega, b1, b2, hfull, by omega, hn'⟩))))
  · cases h
theorem pow_uniq31 {f t t' : Nat} (h1 : 2 ^ t ≤ f) (h2 : f < 2 ^ (t + 1)) (h3 : 2 ^ t' ≤ f) (h4 : f < 2 ^ (t' + 1)) : t = t' := by
  rcases Nat.lt_trichotomy t t' with h | h | h
  · have : 2 ^ (t + 1) ≤ 2 ^ t' := Nat.pow_le_pow_right (by omega) h
    omega
  · exact h
  · have : 2 ^ (t' + 1) ≤ 2 ^ t := Nat.pow_le_pow_right (by omega) h
    omega
theorem narrow31_inj {n n' v : Nat} (hn : n < 18446744073709551616) (hn' : n' < 18446744073709551616) (h : narrow n 8 23 = some v) (h' : narrow n' 8 23 = some v) : n = n' := by
  obtain ⟨s, x, f, a1, a2, a3, a4, a5⟩ := narrow31_spec hn h
  obtain ⟨s', x', f', b1, b2, b3, b4, b5⟩ := narrow31_spec hn' h'
  obtain rfl : s = s' := by omega
  obtain rfl : x = x' := by omega
  obtain rfl : f = f' := by omega
  rcases a5 with ⟨c1, c2, c3⟩ | ⟨c1, c2, c3⟩ | ⟨c1, c2, c3⟩ | ⟨c1, t, full, c2, c3, c4, c5, c6, c7⟩ <;> rcases b5 with ⟨d1, d2, d3⟩ | ⟨d1, d2, d3⟩ | ⟨d1, d2, d3⟩ | ⟨d1, t', full', d2, d3, d4, d5, d6, d7⟩
  all_goals try omega
  · obtain rfl := pow_uniq31 c3 c4 d3 d4
    rw [← c5] at d5
    omega
theorem narrow31_lt {n v : Nat} (hn : n < 18446744073709551616) (h : narrow n 8 23 = some v) : v < 4294967296 := by
  obtain ⟨s, x, f, a1, a2, a3, a4, a5⟩ := narrow31_spec hn h
  omega

theorem narrow15_nan {n : Nat} (hn : n < 18446744073709551616) : narrow n 5 10 ≠ some 32256 := by
  intro h
  obtain ⟨s, x, f, a1, a2, a3, a4, a5⟩ := narrow15_spec hn h
  rcases a5 with ⟨c1, c2, c3⟩ | ⟨c1, c2, c3⟩ | ⟨c1, c2, c3⟩ | ⟨c1, t, full, c2, c3, c4, c5, c6, c7⟩ <;> omega
/-- The numbers of floats are in their one form. -/
def FloatOk (n : Nat) : Prop := n < 18446744073709551616 ∧ (isNaN n = true → n = notNumber)
theorem floatB_inj {n m : Nat} (hn : FloatOk n) (hm : FloatOk m) {r s : List UInt8} (h : floatB n ++ r = floatB m ++ s) : n = m ∧ r = s := by
  have key : ∀ n, FloatOk n → (∃ v, floatB n = [u8 249, u8 (v / 256), u8 v] ∧ v < 65536 ∧ ((isNaN n = true ∧ v = 32256) ∨ (isNaN n = false ∧ narrow n 5 10 = some v))) ∨
      (∃ v, floatB n = [u8 250, u8 (v / 16777216), u8 (v / 65536), u8 (v / 256), u8 v] ∧ v < 4294967296 ∧ narrow n 8 23 = some v) ∨ floatB n = u8 251 :: be8 n 8 := by
    intro n hn
    unfold floatB
    by_cases h1 : isNaN n = true
    · rw [if_pos h1]
      exact .inl ⟨32256, rfl, by omega, .inl ⟨h1, rfl⟩⟩
    · rw [if_neg h1]
      cases h2 : narrow n 5 10 with
      | some v => exact .inl ⟨v, rfl, narrow15_lt hn.1 h2, .inr ⟨by simpa using h1, rfl⟩⟩
      | none =>
        cases h3 : narrow n 8 23 with
        | some v => exact .inr (.inl ⟨v, rfl, narrow31_lt hn.1 h3, rfl⟩)
        | none => exact .inr (.inr rfl)
  rcases key n hn with ⟨v, e, hv, hc⟩ | ⟨v, e, hv, hc⟩ | e <;> rcases key m hm with ⟨v', e', hv', hc'⟩ | ⟨v', e', hv', hc'⟩ | e' <;> rw [e, e'] at h <;> simp only [List.cons_append, List.nil_append] at h <;> injection h with h0 h
  any_goals (have := u8_eq h0; omega)
  · obtain ⟨h1, h2, h3⟩ := two_cons h
    have h1 := u8_eq h1
    have h2 := u8_eq h2
    obtain rfl : v = v' := by omega
    refine ⟨?_, h3⟩
    rcases hc with ⟨c1, c2⟩ | ⟨c1, c2⟩ <;> rcases hc' with ⟨d1, d2⟩ | ⟨d1, d2⟩
    · rw [hn.2 c1, hm.2 d1]
    · rw [c2] at d2; exact absurd d2 (narrow15_nan hm.1)
    · rw [d2] at c2; exact absurd c2 (narrow15_nan hn.1)
    · exact narrow15_inj hn.1 hm.1 c2 d2
  · obtain ⟨h1, h2, h3⟩ := two_cons h
    obtain ⟨h4, h5, h6⟩ := two_cons h3
    have h1 := u8_eq h1
    have h2 := u8_eq h2
    have h4 := u8_eq h4
    have h5 := u8_eq h5
    have g0 : v / 16777216 = v' / 16777216 := by omega
    have g1 : v / 65536 = v' / 65536 := by omega
    have g2 : v / 256 = v' / 256 := by omega
    obtain rfl : v = v' := by omega
    exact ⟨narrow31_inj hn.1 hm.1 hc hc', h6⟩
  · obtain ⟨h1, h2⟩ := List.append_inj h (by rw [be8_length, be8_length])
    exact ⟨be8_eq hn.1 hm.1 h1, h2⟩

theorem okPlain_float {x : Itm} (h8 : x.kind = 8) (h : okPlain x = true) (hn : Nums x) : FloatOk x.n := by
  refine ⟨hn.n_, fun hq => ?_⟩
  simp [okPlain, h8, hq] at h
  exact h.2
theorem head_plain {x : Itm} (h : 0 ≤ x.kind ∧ x.kind ≤ 8) (h8 : x.kind ≠ 8) (h7 : ¬ (x.kind = 7 ∧ 24 ≤ x.n)) (r : List UInt8) : encB x ++ r = headB x.kind.toNat (numP x) ++ (x.bytes ++ (encL x.items ++ r)) := by
  rw [encB_eq, if_neg h8, if_neg h7, List.append_assoc, List.append_assoc]
/-- What the laws ask of an item. -/
structure Fits (x : Itm) (lv : Nat) : Prop where
  good : Good x lv
  small : Small x
  nums : Nums x
  cnt : cnt x ≤ 256
theorem Fits.of {x : Itm} (h : validP x = true) (hn : Nums x) : Fits x 0 := by
  rw [validP_iff] at h
  exact ⟨h.1, h.1.small h.2.2, hn, h.2.1⟩
theorem SmallL.get : ∀ {l : List Itm}, SmallL l → ∀ x ∈ l, Small x
  | [], _, x, hx => by cases hx
  | y :: l, h, x, hx => by
    rw [SmallL] at h
    rcases List.mem_cons.1 hx with rfl | hx
    · exact h.1
    · exact h.2.get x hx
theorem Small.items {x : Itm} (h : Small x) : SmallL x.items := by cases x; rw [Small] at h; exact h.2
theorem Small.bytes {x : Itm} (h : Small x) : x.bytes.length ≤ 4096 := by cases x; rw [Small] at h; exact h.1
theorem Fits.elem {x y : Itm} {lv : Nat} (h : Fits x lv) (hy : y ∈ x.items) : Fits y (lv + 1) :=
  ⟨h.good.items.get y hy, h.small.items.get y hy, h.nums.items.get y hy, by have := cntL_mem hy; have := cnt_eq x; have := h.cnt; omega⟩
theorem Fits.numP {x : Itm} {lv : Nat} (h : Fits x lv) : numP x < 18446744073709551616 := by
  have h1 := h.small.bytes
  have h2 := cntL_len x.items
  have h3 := cnt_eq x
  have h4 := h.cnt
  have h5 := h.nums.n_
  unfold Proofs.YtebcnkelbicbnaaGreatDoor.numP
  repeat' split
  all_goals omega
theorem frame_of {x : Itm} {lv : Nat} (h : Good x lv) (hk : 4 ≤ x.kind ∧ x.kind ≤ 6) : frameOk x lv = true := by
  rcases nodeOk_cases h.node with ⟨h1, _⟩ | ⟨_, h1⟩
  · rw [isPlain_iff] at h1; omega
  · exact h1
theorem plain_of {x : Itm} {lv : Nat} (h : Good x lv) (hk : x.kind = 0 ∨ x.kind = 1 ∨ x.kind = 2 ∨ x.kind = 3 ∨ x.kind = 7 ∨ x.kind = 8) : okPlain x = true := by
  rcases nodeOk_cases h.node with ⟨_, h1⟩ | ⟨h1, _⟩
  · exact h1
  · rw [(isPlain_iff x).2 hk] at h1; cases h1
theorem topB_of {x : Itm} (h : topB x = 7) : x.kind = 7 ∨ x.kind = 8 := by
  unfold topB at h
  by_cases h8 : x.kind = 8
  · exact .inr h8
  · rw [if_neg h8] at h; omega
theorem topB_8 {x : Itm} (h : x.kind = 8) : topB x = 7 := by rw [topB, if_pos h]
theorem topB_7 {x : Itm} (h : x.kind = 7) : topB x = 7 := by rw [topB, if_neg (by omega)]; omega
theorem topB_no {x : Itm} (h : x.kind ≠ 8) : topB x = x.kind.toNat := by rw [topB, if_neg h]
mutual
theorem encB_inj : ∀ (x y : Itm) (lv lv' : Nat) (r s : List UInt8), Fits x lv → Fits y lv' → encB x ++ r = encB y ++ s → x = y ∧ r = s
  | .mk k n bs l, y, lv, lv', r, s, hx, hy, h => by
    have hkx := nodeOk_kind hx.good.node
    have hky := nodeOk_kind hy.good.node
    have ht := top_eq hkx hky h
    have hnx := hx.numP
    have hny := hy.numP
    by_cases h7 : topB (.mk k n bs l) = 7
    · -- simple values and floats
      have ky : y.kind = 7 ∨ y.kind = 8 := by
        rw [h7] at ht
        exact topB_of ht.symm
      have kx : k = 7 ∨ k = 8 := by
        have h7 := topB_of h7
        simp only [Itm.kind] at h7 hkx
        omega
      have ox := plain_of hx.good (by simp only [Itm.kind]; omega)
      have oy := plain_of hy.good (by omega)
      have F8 : ∀ z : Itm, z.kind = 8 → encB z = floatB z.n := fun z hz => by rw [encB_eq, if_pos hz]
      have F7 : ∀ z : Itm, z.kind = 7 → okPlain z = true → z.n < 256 ∧ z.bytes = [] ∧ z.items = [] ∧ ((24 ≤ z.n ∧ encB z = [u8 248, u8 z.n]) ∨ (z.n < 24 ∧ encB z = [u8 (224 + z.n)])) := by
        intro z hz ho
        have hi := okPlain_items ((isPlain_iff z).2 (by omega)) ho
        have hb := hi.2 (by omega)
        have hn : z.n < 256 := by simp [okPlain, hz] at ho; omega
        refine ⟨hn, hb, hi.1, ?_⟩
        by_cases h24 : 24 ≤ z.n
        · exact .inl ⟨h24, by rw [encB_eq, if_neg (by omega), if_pos ⟨hz, h24⟩]⟩
        · refine .inr ⟨by omega, ?_⟩
          have hp : Proofs.YtebcnkelbicbnaaGreatDoor.numP z = z.n := by simp [Proofs.YtebcnkelbicbnaaGreatDoor.numP, hz]
          rw [encB_eq, if_neg (by omega), if_neg (by omega), hb, hi.1, encL, hp, headB, if_pos (by omega), hz]
          rfl
      have G8 : ∀ z : Itm, z.kind = 8 → okPlain z = true → z.bytes = [] ∧ z.items = [] := by
        intro z hz ho
        have hi := okPlain_items ((isPlain_iff z).2 (by omega)) ho
        exact ⟨hi.2 (by omega), hi.1⟩
      obtain ⟨k', n', bs', l'⟩ := y
      simp only [Itm.kind] at ky
      rcases kx with rfl | rfl <;> rcases ky with rfl | rfl
      · obtain ⟨a1, a2, a3, a4⟩ := F7 _ rfl ox
        obtain ⟨b1, b2, b3, b4⟩ := F7 _ rfl oy
        simp only [Itm.n, Itm.bytes, Itm.items] at *
        subst a2 a3 b2 b3
        rcases a4 with ⟨a4, a5⟩ | ⟨a4, a5⟩ <;> rcases b4 with ⟨b4, b5⟩ | ⟨b4, b5⟩ <;> rw [a5, b5] at h <;> simp only [List.cons_append, List.nil_append] at h
        · obtain ⟨_, h2, h3⟩ := two_cons h
          have := u8_eq h2
          exact ⟨by congr 1; omega, h3⟩
        · injection h with h1 _
          have := u8_eq h1
          omega
        · injection h with h1 _
          have := u8_eq h1
          omega
        · injection h with h1 h2
          have := u8_eq h1
          exact ⟨by congr 1; omega, h2⟩
      · obtain ⟨_, _, _, a4⟩ := F7 _ rfl ox
        rw [F8 (.mk 8 n' bs' l') rfl] at h
        obtain ⟨c, t, e, c1, c2⟩ := floatB_cons n'
        simp only [Itm.n] at h a4
        rw [e] at h
        rcases a4 with ⟨a4, a5⟩ | ⟨a4, a5⟩ <;> rw [a5] at h <;> simp only [List.cons_append, List.nil_append] at h <;> injection h with h1 _ <;> have := u8_eq h1 <;> omega
      · obtain ⟨_, _, _, a4⟩ := F7 _ rfl oy
        rw [F8 (.mk 8 n bs l) rfl] at h
        obtain ⟨c, t, e, c1, c2⟩ := floatB_cons n
        simp only [Itm.n] at h a4
        rw [e] at h
        rcases a4 with ⟨a4, a5⟩ | ⟨a4, a5⟩ <;> rw [a5] at h <;> simp only [List.cons_append, List.nil_append] at h <;> injection h with h1 _ <;> have := u8_eq h1 <;> omega
      · rw [F8 (.mk 8 n bs l) rfl, F8 (.mk 8 n' bs' l') rfl] at h
        obtain ⟨a1, a2⟩ := G8 _ rfl ox
        obtain ⟨b1, b2⟩ := G8 _ rfl oy
        obtain ⟨h1, h2⟩ := floatB_inj (okPlain_float rfl ox hx.nums) (okPlain_float rfl oy hy.nums) h
        simp only [Itm.n, Itm.bytes, Itm.items] at *
        subst a1 a2 b1 b2 h1 h2
        exact ⟨rfl, rfl⟩
    · have h7' : topB y ≠ 7 := by rw [← ht]; exact h7
      have kx : k ≠ 8 ∧ k ≠ 7 := by
        constructor
        · intro h8; exact h7 (topB_8 h8)
        · intro h8; exact h7 (topB_7 h8)
      have ky : y.kind = k := by
        have a1 := topB_no (x := .mk k n bs l) kx.1
        have a2 := topB_no (x := y) (fun h8 => h7' (topB_8 h8))
        simp only [Itm.kind] at a1 hkx
        omega
      rw [head_plain hkx kx.1 (fun h => kx.2 h.1), head_plain hky (by rw [ky]; exact kx.1) (fun h => kx.2 (by rw [← ky]; exact h.1)), ky] at h
      simp only [Itm.kind, Itm.bytes, Itm.items] at h hkx
      obtain ⟨_, hnum, hz⟩ := headB_inj (by omega) (by omega) hnx hny h
      obtain ⟨k', n', bs', l'⟩ := y
      simp only [Itm.kind] at ky
      subst ky
      simp only [Proofs.YtebcnkelbicbnaaGreatDoor.numP, Itm.kind, Itm.n, Itm.bytes, Itm.items] at hnum hz
      by_cases hp : k' = 0 ∨ k' = 1 ∨ k' = 2 ∨ k' = 3
      · have ox := plain_of hx.good (by simp only [Itm.kind]; omega)
        have oy := plain_of hy.good (by simp only [Itm.kind]; omega)
        have ix := (okPlain_items ((isPlain_iff _).2 (by simp only [Itm.kind]; omega)) ox).1
        have iy := (okPlain_items ((isPlain_iff _).2 (by simp only [Itm.kind]; omega)) oy).1
        simp only [Itm.items] at ix iy
        subst ix iy
        rw [encL, List.nil_append, List.nil_append] at hz
        rcases hp with rfl | rfl | rfl | rfl
        · simp [okPlain, Itm.kind, Itm.bytes, Itm.items] at ox oy hnum
          subst ox oy hnum
          exact ⟨rfl, by simpa using hz⟩
        · simp [okPlain, Itm.kind, Itm.bytes, Itm.items] at ox oy hnum
          subst ox oy hnum
          exact ⟨rfl, by simpa using hz⟩
        · simp [okPlain, Itm.kind, Itm.bytes, Itm.items, Itm.n] at ox oy hnum
          obtain ⟨h1, h2⟩ := List.append_inj hz hnum
          subst ox oy h1 h2
          exact ⟨rfl, rfl⟩
        · simp [okPlain, Itm.kind, Itm.bytes, Itm.items, Itm.n] at ox oy hnum
          obtain ⟨h1, h2⟩ := List.append_inj hz hnum
          obtain ⟨ox, _⟩ := ox
          obtain ⟨oy, _⟩ := oy
          subst ox oy h1 h2
          exact ⟨rfl, rfl⟩
      · have fx := frameOk_spec (frame_of hx.good (by simp only [Itm.kind]; omega))
        have fy := frameOk_spec (frame_of hy.good (by simp only [Itm.kind]; omega))
        simp only [Itm.kind, Itm.bytes, Itm.items, Itm.n, List.length_eq_zero_iff] at fx fy
        obtain ⟨_, _, _, hb, x6, xn, x5⟩ := fx
        obtain ⟨_, _, _, hb', y6, yn, y5⟩ := fy
        subst hb hb'
        rw [List.nil_append, List.nil_append] at hz
        have hll : l.length = l'.length ∧ n = n' := by
          by_cases e4 : k' = 4
          · have := xn (by omega)
            have := yn (by omega)
            simp [e4] at hnum
            omega
          by_cases e5 : k' = 5
          · have := xn (by omega)
            have := yn (by omega)
            have := x5 e5
            have := y5 e5
            simp [e5] at hnum
            omega
          · have e6 : k' = 6 := by omega
            have := x6 e6
            have := y6 e6
            simp [e6] at hnum
            omega
        obtain ⟨h1, h2⟩ := encL_inj l l' (lv + 1) (lv' + 1) r s hll.1 (fun z hz' => hx.elem hz') (fun z hz' => hy.elem hz') hz
        exact ⟨by rw [h1, hll.2], h2⟩
theorem encL_inj : ∀ (l m : List Itm) (lv lv' : Nat) (r s : List UInt8), l.length = m.length → (∀ x ∈ l, Fits x lv) → (∀ x ∈ m, Fits x lv') → encL l ++ r = encL m ++ s → l = m ∧ r = s
  | [], [], _, _, r, s, _, _, _, h => by
    rw [encL, List.nil_append, List.nil_append] at h
    exact ⟨rfl, h⟩
  | [], _ :: _, _, _, _, _, hl, _, _, _ => by simp at hl
  | _ :: _, [], _, _, _, _, hl, _, _, _ => by simp at hl
  | x :: l, y :: m, lv, lv', r, s, hl, hx, hy, h => by
    rw [encL, encL, List.append_assoc, List.append_assoc] at h
    obtain ⟨h1, h2⟩ := encB_inj x y lv lv' _ _ (hx x (by simp)) (hy y (by simp)) h
    obtain ⟨h3, h4⟩ := encL_inj l m lv lv' r s (by simpa using hl) (fun z hz => hx z (by simp [hz])) (fun z hz => hy z (by simp [hz])) h2
    exact ⟨by rw [h1, h3], h4⟩
end
end Go.Proofs.YtebcnkelbicbnaaGreatDoor
