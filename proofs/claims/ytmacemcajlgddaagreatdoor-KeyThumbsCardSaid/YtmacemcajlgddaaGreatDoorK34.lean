/- squeezed. Numbers of several words: the scho -/
import Derived.Test.YtmacemcajlgddaaGreatDoorK03
import Derived.KernelRfl
import Derived.Test.YtmacemcajlgddaaGreatDoorK00
import Derived.Test.YtmacemcajlgddaaGreatDoorK01
set_option linter.unusedVariables false
set_option linter.unusedSimpArgs false
set_option maxRecDepth 100000
namespace Go.Proofs.YtmacemcajlgddaaGreatDoor
def num : List Nat → Nat
 | [] => 0
 | x :: l => x + 18446744073709551616 * num l
def W64 (l : List Nat) : Prop := ∀ x ∈ l, x < 18446744073709551616
def mulRow (x : Nat) : List Nat → List Nat → Nat → List Nat
 | y :: ys, z :: zs, c => (z + x * y + c) % 18446744073709551616 :: mulRow x ys zs ((z + x * y + c) / 18446744073709551616)
 | _, _, _ => []
theorem mulRow_len (x : Nat) : ∀ (ys zs : List Nat) (c : Nat), zs.length ≤ ys.length → (mulRow x ys zs c).length = zs.length
 | _, [], _, _ => by simp [mulRow]
 | [], z :: zs, _, h => by simp at h
 | y :: ys, z :: zs, c, h => by simp [mulRow, mulRow_len x ys zs _ (by simpa using h)]
theorem mulRow_w (x : Nat) : ∀ (ys zs : List Nat) (c : Nat), W64 (mulRow x ys zs c)
 | _, [], _ => by simp [mulRow, W64]
 | [], z :: zs, _ => by simp [mulRow, W64]
 | y :: ys, z :: zs, c => by
  intro a ha
  simp only [mulRow, List.mem_cons] at ha
  rcases ha with rfl | ha
  ·exact Nat.mod_lt _ (by decide)
  ·exact mulRow_w x ys zs _ a ha
theorem mulRow_num (x : Nat) : ∀ (ys zs : List Nat) (c : Nat), zs.length ≤ ys.length →
  num (mulRow x ys zs c) % 18446744073709551616 ^ zs.length = (num zs + x * num ys + c) % 18446744073709551616 ^ zs.length
 | _, [], _, _ => by simp [Nat.mod_one]
 | [], z :: zs, _, h => by simp at h
 | y :: ys, z :: zs, c, h => by
  have ih := mulRow_num x ys zs ((z + x * y + c) / 18446744073709551616) (by simpa using h)
  simp only [mulRow, num, List.length_cons, Nat.pow_succ]
  generalize hD : (18446744073709551616 : Nat) = D at *
  generalize hP : D ^ zs.length = P at *
  have hDp : 0 < D := by omega
  have e : z + D * num zs + x * (y + D * num ys) + c = (z + x * y + c) % D + D * (num zs + x * num ys + (z + x * y + c) / D) := by
   have := Nat.mod_add_div (z + x * y + c) D;have e2 : x * (y + D * num ys) = x * y + D * (x * num ys) := by rw [Nat.mul_add, Nat.mul_left_comm]
   rw [e2, Nat.mul_add, Nat.mul_add]
   omega
  rw [e, Nat.mul_comm P D, Nat.mod_mul, Nat.mod_mul];have hlt : (z + x * y + c) % D < D := Nat.mod_lt _ hDp
  generalize (z + x * y + c) % D = r at *
  rw [Nat.add_mul_mod_self_left, Nat.add_mul_mod_self_left, Nat.mod_eq_of_lt hlt, Nat.add_mul_div_left _ _ hDp, Nat.add_mul_div_left _ _ hDp, Nat.div_eq_of_lt hlt, Nat.zero_add, Nat.zero_add, ih]
theorem num_lt : ∀ {l : List Nat}, W64 l → num l < 18446744073709551616 ^ l.length
 | [], _ => by simp [num]
 | x :: l, h => by
  have h1 : x < 18446744073709551616 := h x (by simp);have h2 := num_lt (l := l) (fun a ha => h a (by simp [ha]))
  simp only [num, List.length_cons, Nat.pow_succ]
  generalize 18446744073709551616 ^ l.length = P at *
  omega
def mulRows : List Nat → List Nat → List Nat → List Nat
 | x :: xs, ys, z :: zs => match mulRow x ys (z :: zs) 0 with
  | a :: r => a :: mulRows xs ys r
  | [] => []
 | _, _, zs => zs
theorem mulRows_spec : ∀ (xs ys zs : List Nat), xs.length = zs.length → zs.length ≤ ys.length → W64 zs →
  (mulRows xs ys zs).length = zs.length ∧ W64 (mulRows xs ys zs) ∧ num (mulRows xs ys zs) % 18446744073709551616 ^ zs.length = (num zs + num xs * num ys) % 18446744073709551616 ^ zs.length
 | [], _, [], _, _, _ => by simp [mulRows, W64, Nat.mod_one]
 | [], _, _ :: _, h, _, _ => by simp at h
 | _ :: _, _, [], h, _, _ => by simp at h
 | x :: xs, ys, z :: zs, hx, hy, hw => by
  obtain ⟨a, r, hr⟩ : ∃ a r, mulRow x ys (z :: zs) 0 = a :: r := by
   cases ys with
   | nil => simp at hy
   | cons y ys => exact ⟨_, _, rfl⟩
  have hl := mulRow_len x ys (z :: zs) 0 hy;have hn := mulRow_num x ys (z :: zs) 0 hy;have hwr := mulRow_w x ys (z :: zs) 0;rw [hr] at hl hn hwr;have hrl : r.length = zs.length := by simpa using hl
  have ih := mulRows_spec xs ys r (by rw [hrl]; simpa using hx) (by rw [hrl]; simp at hy; omega) (fun b hb => hwr b (by simp [hb]));rw [hrl] at ih;have ha : a < 18446744073709551616 := hwr a (by simp)
  refine ⟨by simp [mulRows, hr, ih.1], ?_, ?_⟩
  ·intro b hb
   simp only [mulRows, hr, List.mem_cons] at hb
   rcases hb with rfl | hb
   ·exact ha
   ·exact ih.2.1 b hb
  ·have e := ih.2.2
   simp only [mulRows, hr, num, List.length_cons, Nat.pow_succ, Nat.add_zero] at hn ⊢
   generalize hD : (18446744073709551616 : Nat) = D at *
   generalize hP : D ^ zs.length = P at *
   have hDp : 0 < D := by omega
   rw [Nat.mul_comm P D] at hn ⊢
   have e1 : (a + D * num (mulRows xs ys r)) % (D * P) = (a + D * (num r + num xs * num ys)) % (D * P) := by
    rw [Nat.mod_mul, Nat.mod_mul, Nat.add_mul_mod_self_left, Nat.add_mul_mod_self_left, Nat.add_mul_div_left _ _ hDp, Nat.add_mul_div_left _ _ hDp, Nat.div_eq_of_lt ha, Nat.zero_add, Nat.zero_add, e]
   rw [e1, Nat.mul_add, ← Nat.add_assoc, Nat.add_mod, hn, ← Nat.add_mod, Nat.add_mul, Nat.mul_assoc D, Nat.add_assoc, Nat.add_assoc]
theorem mulRows4 {x y : List Nat} (hx : x.length = 4) (hy : y.length = 4) :
  (mulRows x y [0, 0, 0, 0]).length = 4 ∧ W64 (mulRows x y [0, 0, 0, 0]) ∧ (num x * num y < 18446744073709551616 ^ 4 → num (mulRows x y [0, 0, 0, 0]) = num x * num y) := by
 have h := mulRows_spec x y [0, 0, 0, 0] (by simp [hx]) (by simp [hy]) (by simp [W64])
 refine ⟨by simpa using h.1, h.2.1, fun hb => ?_⟩
 have h2 := num_lt h.2.1;have e := h.2.2;have hz : num [0, 0, 0, 0] = 0 := by decide
 rw [h.1] at h2
 simp only [List.length_cons, List.length_nil, hz, Nat.zero_add, Nat.reduceAdd] at h2 e
 rwa [Nat.mod_eq_of_lt h2, Nat.mod_eq_of_lt hb] at e
theorem root_unique {n a b g : Nat} (hn : n ≠ 0) (h1 : a ^ n ≤ g) (h2 : g < (a + 1) ^ n) (h3 : b ^ n ≤ g) (h4 : g < (b + 1) ^ n) : a = b := by
 rcases Nat.lt_trichotomy a b with h | h | h
 ·have := Nat.pow_le_pow_left (show a + 1 ≤ b by omega) n
  omega
 ·exact h
 ·have := Nat.pow_le_pow_left (show b + 1 ≤ a by omega) n
  omega
theorem mul_step {x y z c : Nat} (hx : x < 18446744073709551616) (hy : y < 18446744073709551616) (hz : z < 18446744073709551616) (hc : c < 18446744073709551616) :
  x * y / 18446744073709551616 + (x * y % 18446744073709551616 + c) / 18446744073709551616 < 18446744073709551616 ∧
  x * y / 18446744073709551616 + (x * y % 18446744073709551616 + c) / 18446744073709551616 + (z + (x * y % 18446744073709551616 + c) % 18446744073709551616) / 18446744073709551616 = (z + x * y + c) / 18446744073709551616 ∧
  (z + (x * y % 18446744073709551616 + c) % 18446744073709551616) % 18446744073709551616 = (z + x * y + c) % 18446744073709551616 ∧ (z + x * y + c) / 18446744073709551616 < 18446744073709551616 := by
 have := Nat.mul_le_mul (show x ≤ 18446744073709551615 by omega) (show y ≤ 18446744073709551615 by omega)
 generalize x * y = p at *
 omega
def primesN : List Nat := [2, 3, 5, 7, 11, 13, 17, 19, 23, 29, 31, 37, 41, 43, 47, 53, 59, 61, 67, 71, 73, 79, 83, 89, 97, 101, 103, 107, 109, 113, 127, 131, 137, 139, 149, 151, 157, 163, 167, 173, 179, 181, 191, 193, 197, 199, 211, 223, 227, 229, 233, 239, 241, 251, 257, 263, 269, 271, 277, 281, 283, 293, 307, 311, 313, 317, 331, 337, 347, 349, 353, 359, 367, 373, 379, 383, 389, 397, 401, 409]
def constK : List Nat := [4794697086780616226, 8158064640168781261, 13096744586834688815, 16840607885511220156, 4131703408338449720, 6480981068601479193, 10538285296894168987, 12329834152419229976, 15566598209576043074, 1334009975649890238, 2608012711638119052, 6128411473006802146, 8268148722764581231, 9286055187155687089, 11230858885718282805, 13951009754708518548, 16472876342353939154, 17275323862435702243, 1135362057144423861, 2597628984639134821, 3308224258029322869, 5365058923640841347, 6679025012923562964, 8573033837759648693, 10970295158949994411, 12119686244451234320, 12683024718118986047, 13788192230050041572, 14330467153632333762, 15395433587784984357, 489312712824947311, 1452737877330783856, 2861767655752347644, 3322285676063803686, 5560940570517711597, 5996557281743188959, 7280758554555802590, 8532644243296465576, 9350256976987008742, 10552545826968843579, 11727347734174303076, 12113106623233404929, 14000437183269869457, 14369950271660146224, 15101387698204529176, 15463397548674623760, 17586052441742319658, 1182934255886127544, 1847814050463011016, 2177327727835720531, 2830643537854262169, 3796741975233480872, 4115178125766777443, 5681478168544905931, 6601373596472566643, 7507060721942968483, 8399075790359081724, 8693463985226723168, 9568029438360202098, 10144078919501101548, 10430055236837252648, 11840083180663258601, 13761210420658862357, 14299343276471374635, 14566680578165727644, 15097957966210449927, 16922976911328602910, 17689382322260857208, 500013540394364858, 748580250866718886, 1242879168328830382, 1977374033974150939, 2944078676154940804, 3659926193048069267, 4368137639120453308, 4836135668995329356, 5532061633213252278, 6448918945643986474, 6902733635092675308, 7801388544844847127]
def constH : List Nat := [7640891576956012808, 13503953896175478587, 4354685564936845355, 11912009170470909681, 5840696475078001361, 11170449401992604703, 2270897969802886507, 6620516959819538809]
def isFrac (n p c : Nat) : Bool := (List.range 21).any fun w => decide ((w * 18446744073709551616 + c) ^ n ≤ p * 18446744073709551616 ^ n) && decide (p * 18446744073709551616 ^ n < (w * 18446744073709551616 + c + 1) ^ n)
def getN (l : List Nat) (i : Nat) : Nat := l.getD i 0
theorem getN_lt {l : List Nat} (h : W64 l) (i : Nat) : getN l i < 18446744073709551616 := by
 unfold getN
 rcases Nat.lt_or_ge i l.length with h1 | h1
 ·rw [List.getD_eq_getElem?_getD, List.getElem?_eq_getElem h1]
  exact h _ (List.getElem_mem h1)
 ·rw [List.getD_eq_getElem?_getD, List.getElem?_eq_none h1];decide
theorem drop_getN {l : List Nat} {i : Nat} (h : i < l.length) : l.drop i = getN l i :: l.drop (i + 1) := by
 rw [List.drop_eq_getElem_cons h]
 simp [getN, h]
theorem W64.set {l : List Nat} (h : W64 l) (i : Nat) {n : Nat} (hn : n < 18446744073709551616) : W64 (l.set i n) := fun a ha => by
 rcases List.mem_or_eq_of_mem_set ha with h1 | h1
 ·exact h a h1
 ·rw [h1]; exact hn
theorem set_take {l : List Nat} {k u : Nat} (h : k < l.length) : (l.set k u).take (k + 1) = l.take k ++ [u] ∧ (l.set k u).drop (k + 1) = l.drop (k + 1) := by
 have e : l.set k u = l.take k ++ u :: l.drop (k + 1) := by rw [List.set_eq_take_append_cons_drop, if_pos h]
 have hl : (l.take k).length = k := by rw [List.length_take]; omega
 constructor
 ·rw [e, List.take_append, hl, List.take_of_length_le (by omega), Nat.add_sub_cancel_left]; rfl
 ·rw [e, List.drop_append, hl, List.drop_of_length_le (by omega), Nat.add_sub_cancel_left]; rfl
theorem times_inner {zs ys : List Nat} {x c k j : Nat} (hk : k < zs.length) (hj : j < ys.length) :
  (zs.set k ((getN zs k + x * getN ys j + c) % 18446744073709551616)).take (k + 1) ++ mulRow x (ys.drop (j + 1)) ((zs.set k ((getN zs k + x * getN ys j + c) % 18446744073709551616)).drop (k + 1)) ((getN zs k + x * getN ys j + c) / 18446744073709551616) =
  zs.take k ++ mulRow x (ys.drop j) (zs.drop k) c := by
 rw [(set_take hk).1, (set_take hk).2, drop_getN hk, drop_getN hj, mulRow, List.append_assoc];rfl
theorem times_outer {x y zs zs' : List Nat} {i : Nat} (hi : i < x.length) (hz : i < zs.length) (hy : 0 < y.length) (h : zs' = zs.take i ++ mulRow (getN x i) y (zs.drop i) 0) :
  zs'.take (i + 1) ++ mulRows (x.drop (i + 1)) y (zs'.drop (i + 1)) = zs.take i ++ mulRows (x.drop i) y (zs.drop i) := by
 have hl : (zs.take i).length = i := by rw [List.length_take]; omega
 obtain ⟨a, r, hr⟩ : ∃ a r, mulRow (getN x i) y (zs.drop i) 0 = a :: r := by
  rw [drop_getN hz]
  cases y with
  | nil => simp at hy
  | cons b y => exact ⟨_, _, rfl⟩
 have e1 : zs'.take (i + 1) = zs.take i ++ [a] := by
  rw [h, hr, List.take_append, hl, List.take_of_length_le (by omega), Nat.add_sub_cancel_left]; rfl
 have e2 : zs'.drop (i + 1) = r := by
  rw [h, hr, List.drop_append, hl, List.drop_of_length_le (by omega), Nat.add_sub_cancel_left]; rfl
 rw [e1, e2, drop_getN hi];rw [drop_getN hz] at hr ⊢;rw [mulRows, hr, List.append_assoc];rfl
theorem mulRow_nil (x : Nat) (ys : List Nat) (c : Nat) : mulRow x ys [] c = [] := by cases ys <;> rfl
theorem mulRows_nil (ys zs : List Nat) : mulRows [] ys zs = zs := by cases zs <;> rfl
def rotP (a b x : Int) : Int := bits .or .u32 (x * a % 4294967296) (x / b)
theorem bits_Rot17 (x : Int) (w : World) :
  Calls Tryz.prog 72 #[.int .u32 x, .int .i64 (-17)] w fun e w' => e = .returned (.int .u32 (rotP 32768 131072 x)) ∧ w = w' := by
 have e1 : bits .and .u64 (IntKind.u64.wrap (-17)) 31 = 15 := by kernel_rfl
 have e2 : IntKind.u64.wrap (32 - 15) = 17 := by kernel_rfl
 go_enter Tryz.func72, Tryz.ntmps72
 go_wp2_with fail
 go_ret
 exact ⟨rfl, rfl⟩
theorem sha_rot17 (x : Int) (w : World) :
  Calls Tryz.prog 44 #[.int .u32 x, .int .i64 17] w fun e w' => e = .returned (.int .u32 (rotP 32768 131072 x)) ∧ w = w' := by
 have R := Hh (bits_Rot17 x w);go_enter Tryz.func44, Tryz.ntmps44
 go_wp2_with fail
 refine R.out.mono ?_
 rintro e w1 ⟨rfl, rfl⟩
 go_wp2_with fail
 go_ret
 exact ⟨rfl, rfl⟩
theorem ref_rot17 (x : Int) (w : World) :
  Calls Tryz.prog 50 #[.int .u32 x, .int .i64 17] w fun e w' => e = .returned (.int .u32 (rotP 32768 131072 x)) ∧ w = w' := by
 have R := Hh (bits_Rot17 x w);go_enter Tryz.func50, Tryz.ntmps50
 go_wp2_with fail
 refine R.out.mono ?_
 rintro e w1 ⟨rfl, rfl⟩
 go_wp2_with fail
 go_ret
 exact ⟨rfl, rfl⟩
theorem bits_Rot19 (x : Int) (w : World) :
  Calls Tryz.prog 72 #[.int .u32 x, .int .i64 (-19)] w fun e w' => e = .returned (.int .u32 (rotP 8192 524288 x)) ∧ w = w' := by
 have e1 : bits .and .u64 (IntKind.u64.wrap (-19)) 31 = 13 := by kernel_rfl
 have e2 : IntKind.u64.wrap (32 - 13) = 19 := by kernel_rfl
 go_enter Tryz.func72, Tryz.ntmps72
 go_wp2_with fail
 go_ret
 exact ⟨rfl, rfl⟩
theorem sha_rot19 (x : Int) (w : World) :
  Calls Tryz.prog 44 #[.int .u32 x, .int .i64 19] w fun e w' => e = .returned (.int .u32 (rotP 8192 524288 x)) ∧ w = w' := by
 have R := Hh (bits_Rot19 x w);go_enter Tryz.func44, Tryz.ntmps44
 go_wp2_with fail
 refine R.out.mono ?_
 rintro e w1 ⟨rfl, rfl⟩
 go_wp2_with fail
 go_ret
 exact ⟨rfl, rfl⟩
theorem ref_rot19 (x : Int) (w : World) :
  Calls Tryz.prog 50 #[.int .u32 x, .int .i64 19] w fun e w' => e = .returned (.int .u32 (rotP 8192 524288 x)) ∧ w = w' := by
 have R := Hh (bits_Rot19 x w);go_enter Tryz.func50, Tryz.ntmps50
 go_wp2_with fail
 refine R.out.mono ?_
 rintro e w1 ⟨rfl, rfl⟩
 go_wp2_with fail
 go_ret
 exact ⟨rfl, rfl⟩
theorem bits_Rot7 (x : Int) (w : World) :
  Calls Tryz.prog 72 #[.int .u32 x, .int .i64 (-7)] w fun e w' => e = .returned (.int .u32 (rotP 33554432 128 x)) ∧ w = w' := by
 have e1 : bits .and .u64 (IntKind.u64.wrap (-7)) 31 = 25 := by kernel_rfl
 have e2 : IntKind.u64.wrap (32 - 25) = 7 := by kernel_rfl
 go_enter Tryz.func72, Tryz.ntmps72
 go_wp2_with fail
 go_ret
 exact ⟨rfl, rfl⟩
theorem sha_rot7 (x : Int) (w : World) :
  Calls Tryz.prog 44 #[.int .u32 x, .int .i64 7] w fun e w' => e = .returned (.int .u32 (rotP 33554432 128 x)) ∧ w = w' := by
 have R := Hh (bits_Rot7 x w);go_enter Tryz.func44, Tryz.ntmps44
 go_wp2_with fail
 refine R.out.mono ?_
 rintro e w1 ⟨rfl, rfl⟩
 go_wp2_with fail
 go_ret
 exact ⟨rfl, rfl⟩
theorem ref_rot7 (x : Int) (w : World) :
  Calls Tryz.prog 50 #[.int .u32 x, .int .i64 7] w fun e w' => e = .returned (.int .u32 (rotP 33554432 128 x)) ∧ w = w' := by
 have R := Hh (bits_Rot7 x w);go_enter Tryz.func50, Tryz.ntmps50
 go_wp2_with fail
 refine R.out.mono ?_
 rintro e w1 ⟨rfl, rfl⟩
 go_wp2_with fail
 go_ret
 exact ⟨rfl, rfl⟩
theorem bits_Rot18 (x : Int) (w : World) :
  Calls Tryz.prog 72 #[.int .u32 x, .int .i64 (-18)] w fun e w' => e = .returned (.int .u32 (rotP 16384 262144 x)) ∧ w = w' := by
 have e1 : bits .and .u64 (IntKind.u64.wrap (-18)) 31 = 14 := by kernel_rfl
 have e2 : IntKind.u64.wrap (32 - 14) = 18 := by kernel_rfl
 go_enter Tryz.func72, Tryz.ntmps72
 go_wp2_with fail
 go_ret
 exact ⟨rfl, rfl⟩
theorem sha_rot18 (x : Int) (w : World) :
  Calls Tryz.prog 44 #[.int .u32 x, .int .i64 18] w fun e w' => e = .returned (.int .u32 (rotP 16384 262144 x)) ∧ w = w' := by
 have R := Hh (bits_Rot18 x w);go_enter Tryz.func44, Tryz.ntmps44
 go_wp2_with fail
 refine R.out.mono ?_
 rintro e w1 ⟨rfl, rfl⟩
 go_wp2_with fail
 go_ret
 exact ⟨rfl, rfl⟩
theorem ref_rot18 (x : Int) (w : World) :
  Calls Tryz.prog 50 #[.int .u32 x, .int .i64 18] w fun e w' => e = .returned (.int .u32 (rotP 16384 262144 x)) ∧ w = w' := by
 have R := Hh (bits_Rot18 x w);go_enter Tryz.func50, Tryz.ntmps50
 go_wp2_with fail
 refine R.out.mono ?_
 rintro e w1 ⟨rfl, rfl⟩
 go_wp2_with fail
 go_ret
 exact ⟨rfl, rfl⟩
theorem bits_Rot6 (x : Int) (w : World) :
  Calls Tryz.prog 72 #[.int .u32 x, .int .i64 (-6)] w fun e w' => e = .returned (.int .u32 (rotP 67108864 64 x)) ∧ w = w' := by
 have e1 : bits .and .u64 (IntKind.u64.wrap (-6)) 31 = 26 := by kernel_rfl
 have e2 : IntKind.u64.wrap (32 - 26) = 6 := by kernel_rfl
 go_enter Tryz.func72, Tryz.ntmps72
 go_wp2_with fail
 go_ret
 exact ⟨rfl, rfl⟩
theorem sha_rot6 (x : Int) (w : World) :
  Calls Tryz.prog 44 #[.int .u32 x, .int .i64 6] w fun e w' => e = .returned (.int .u32 (rotP 67108864 64 x)) ∧ w = w' := by
 have R := Hh (bits_Rot6 x w);go_enter Tryz.func44, Tryz.ntmps44
 go_wp2_with fail
 refine R.out.mono ?_
 rintro e w1 ⟨rfl, rfl⟩
 go_wp2_with fail
 go_ret
 exact ⟨rfl, rfl⟩
theorem ref_rot6 (x : Int) (w : World) :
  Calls Tryz.prog 50 #[.int .u32 x, .int .i64 6] w fun e w' => e = .returned (.int .u32 (rotP 67108864 64 x)) ∧ w = w' := by
 have R := Hh (bits_Rot6 x w);go_enter Tryz.func50, Tryz.ntmps50
 go_wp2_with fail
 refine R.out.mono ?_
 rintro e w1 ⟨rfl, rfl⟩
 go_wp2_with fail
 go_ret
 exact ⟨rfl, rfl⟩
theorem bits_Rot11 (x : Int) (w : World) :
  Calls Tryz.prog 72 #[.int .u32 x, .int .i64 (-11)] w fun e w' => e = .returned (.int .u32 (rotP 2097152 2048 x)) ∧ w = w' := by
 have e1 : bits .and .u64 (IntKind.u64.wrap (-11)) 31 = 21 := by kernel_rfl
 have e2 : IntKind.u64.wrap (32 - 21) = 11 := by kernel_rfl
 go_enter Tryz.func72, Tryz.ntmps72
 go_wp2_with fail
 go_ret
 exact ⟨rfl, rfl⟩
theorem sha_rot11 (x : Int) (w : World) :
  Calls Tryz.prog 44 #[.int .u32 x, .int .i64 11] w fun e w' => e = .returned (.int .u32 (rotP 2097152 2048 x)) ∧ w = w' := by
 have R := Hh (bits_Rot11 x w);go_enter Tryz.func44, Tryz.ntmps44
 go_wp2_with fail
 refine R.out.mono ?_
 rintro e w1 ⟨rfl, rfl⟩
 go_wp2_with fail
 go_ret
 exact ⟨rfl, rfl⟩
theorem ref_rot11 (x : Int) (w : World) :
  Calls Tryz.prog 50 #[.int .u32 x, .int .i64 11] w fun e w' => e = .returned (.int .u32 (rotP 2097152 2048 x)) ∧ w = w' := by
 have R := Hh (bits_Rot11 x w);go_enter Tryz.func50, Tryz.ntmps50
 go_wp2_with fail
 refine R.out.mono ?_
 rintro e w1 ⟨rfl, rfl⟩
 go_wp2_with fail
 go_ret
 exact ⟨rfl, rfl⟩
theorem bits_Rot25 (x : Int) (w : World) :
  Calls Tryz.prog 72 #[.int .u32 x, .int .i64 (-25)] w fun e w' => e = .returned (.int .u32 (rotP 128 33554432 x)) ∧ w = w' := by
 have e1 : bits .and .u64 (IntKind.u64.wrap (-25)) 31 = 7 := by kernel_rfl
 have e2 : IntKind.u64.wrap (32 - 7) = 25 := by kernel_rfl
 go_enter Tryz.func72, Tryz.ntmps72
 go_wp2_with fail
 go_ret
 exact ⟨rfl, rfl⟩
theorem sha_rot25 (x : Int) (w : World) :
  Calls Tryz.prog 44 #[.int .u32 x, .int .i64 25] w fun e w' => e = .returned (.int .u32 (rotP 128 33554432 x)) ∧ w = w' := by
 have R := Hh (bits_Rot25 x w);go_enter Tryz.func44, Tryz.ntmps44
 go_wp2_with fail
 refine R.out.mono ?_
 rintro e w1 ⟨rfl, rfl⟩
 go_wp2_with fail
 go_ret
 exact ⟨rfl, rfl⟩
theorem ref_rot25 (x : Int) (w : World) :
  Calls Tryz.prog 50 #[.int .u32 x, .int .i64 25] w fun e w' => e = .returned (.int .u32 (rotP 128 33554432 x)) ∧ w = w' := by
 have R := Hh (bits_Rot25 x w);go_enter Tryz.func50, Tryz.ntmps50
 go_wp2_with fail
 refine R.out.mono ?_
 rintro e w1 ⟨rfl, rfl⟩
 go_wp2_with fail
 go_ret
 exact ⟨rfl, rfl⟩
theorem bits_Rot2 (x : Int) (w : World) :
  Calls Tryz.prog 72 #[.int .u32 x, .int .i64 (-2)] w fun e w' => e = .returned (.int .u32 (rotP 1073741824 4 x)) ∧ w = w' := by
 have e1 : bits .and .u64 (IntKind.u64.wrap (-2)) 31 = 30 := by kernel_rfl
 have e2 : IntKind.u64.wrap (32 - 30) = 2 := by kernel_rfl
 go_enter Tryz.func72, Tryz.ntmps72
 go_wp2_with fail
 go_ret
 exact ⟨rfl, rfl⟩
theorem sha_rot2 (x : Int) (w : World) :
  Calls Tryz.prog 44 #[.int .u32 x, .int .i64 2] w fun e w' => e = .returned (.int .u32 (rotP 1073741824 4 x)) ∧ w = w' := by
 have R := Hh (bits_Rot2 x w);go_enter Tryz.func44, Tryz.ntmps44
 go_wp2_with fail
 refine R.out.mono ?_
 rintro e w1 ⟨rfl, rfl⟩
 go_wp2_with fail
 go_ret
 exact ⟨rfl, rfl⟩
theorem ref_rot2 (x : Int) (w : World) :
  Calls Tryz.prog 50 #[.int .u32 x, .int .i64 2] w fun e w' => e = .returned (.int .u32 (rotP 1073741824 4 x)) ∧ w = w' := by
 have R := Hh (bits_Rot2 x w);go_enter Tryz.func50, Tryz.ntmps50
 go_wp2_with fail
 refine R.out.mono ?_
 rintro e w1 ⟨rfl, rfl⟩
 go_wp2_with fail
 go_ret
 exact ⟨rfl, rfl⟩
theorem bits_Rot13 (x : Int) (w : World) :
  Calls Tryz.prog 72 #[.int .u32 x, .int .i64 (-13)] w fun e w' => e = .returned (.int .u32 (rotP 524288 8192 x)) ∧ w = w' := by
 have e1 : bits .and .u64 (IntKind.u64.wrap (-13)) 31 = 19 := by kernel_rfl
 have e2 : IntKind.u64.wrap (32 - 19) = 13 := by kernel_rfl
 go_enter Tryz.func72, Tryz.ntmps72
 go_wp2_with fail
 go_ret
 exact ⟨rfl, rfl⟩
theorem sha_rot13 (x : Int) (w : World) :
  Calls Tryz.prog 44 #[.int .u32 x, .int .i64 13] w fun e w' => e = .returned (.int .u32 (rotP 524288 8192 x)) ∧ w = w' := by
 have R := Hh (bits_Rot13 x w);go_enter Tryz.func44, Tryz.ntmps44
 go_wp2_with fail
 refine R.out.mono ?_
 rintro e w1 ⟨rfl, rfl⟩
 go_wp2_with fail
 go_ret
 exact ⟨rfl, rfl⟩
theorem ref_rot13 (x : Int) (w : World) :
  Calls Tryz.prog 50 #[.int .u32 x, .int .i64 13] w fun e w' => e = .returned (.int .u32 (rotP 524288 8192 x)) ∧ w = w' := by
 have R := Hh (bits_Rot13 x w);go_enter Tryz.func50, Tryz.ntmps50
 go_wp2_with fail
 refine R.out.mono ?_
 rintro e w1 ⟨rfl, rfl⟩
 go_wp2_with fail
 go_ret
 exact ⟨rfl, rfl⟩
theorem bits_Rot22 (x : Int) (w : World) :
  Calls Tryz.prog 72 #[.int .u32 x, .int .i64 (-22)] w fun e w' => e = .returned (.int .u32 (rotP 1024 4194304 x)) ∧ w = w' := by
 have e1 : bits .and .u64 (IntKind.u64.wrap (-22)) 31 = 10 := by kernel_rfl
 have e2 : IntKind.u64.wrap (32 - 10) = 22 := by kernel_rfl
 go_enter Tryz.func72, Tryz.ntmps72
 go_wp2_with fail
 go_ret
 exact ⟨rfl, rfl⟩
theorem sha_rot22 (x : Int) (w : World) :
  Calls Tryz.prog 44 #[.int .u32 x, .int .i64 22] w fun e w' => e = .returned (.int .u32 (rotP 1024 4194304 x)) ∧ w = w' := by
 have R := Hh (bits_Rot22 x w);go_enter Tryz.func44, Tryz.ntmps44
 go_wp2_with fail
 refine R.out.mono ?_
 rintro e w1 ⟨rfl, rfl⟩
 go_wp2_with fail
 go_ret
 exact ⟨rfl, rfl⟩
theorem ref_rot22 (x : Int) (w : World) :
  Calls Tryz.prog 50 #[.int .u32 x, .int .i64 22] w fun e w' => e = .returned (.int .u32 (rotP 1024 4194304 x)) ∧ w = w' := by
 have R := Hh (bits_Rot22 x w);go_enter Tryz.func50, Tryz.ntmps50
 go_wp2_with fail
 refine R.out.mono ?_
 rintro e w1 ⟨rfl, rfl⟩
 go_wp2_with fail
 go_ret
 exact ⟨rfl, rfl⟩
end Go.Proofs.YtmacemcajlgddaaGreatDoor
