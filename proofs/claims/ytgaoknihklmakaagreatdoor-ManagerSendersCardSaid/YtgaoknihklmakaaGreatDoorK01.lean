/- squeezed. Heads of data items as lists of by -/
import Derived.Test.YtgaoknihklmakaaGreatDoorK00
import Derived.Laws.BytesArg
import Derived.Lib.Bytealg
import Derived.Laws.Externs
import Derived.Deep.DeepCutAuto
import Derived.Deep.CutBlock
import Derived.Laws.BitsAllLaws
import Derived.Lib.ValidU
import Derived.Shelf.Unicode.DecodeSlow
set_option linter.unusedVariables false
set_option linter.unusedSimpArgs false
set_option maxRecDepth 100000
set_option maxHeartbeats 3200000
namespace Go.Proofs.YtgaoknihklmakaaGreatDoor
open Go.RowKit
def u8 (n : Nat) : UInt8 := UInt8.ofNat n
theorem u8_toNat (n : Nat) : (u8 n).toNat = n % 256 := by simp [u8]
theorem byteV_u8 (n : Nat) : byteV (u8 n) = .int .u8 ((n % 256 : Nat) : Int) := by simp [byteV, u8_toNat]
theorem byteV_of (x : Int) (n : Nat) (h : x = ((n % 256 : Nat) : Int)) : Value.int .u8 x = byteV (u8 n) := by rw [byteV_u8, h]
def be8 (n : Nat) : Nat → List UInt8
 | 0 => []
 | k + 1 => be8 n k ++ [u8 (n / 2 ^ (56 - 8 * k))]
theorem be8_length (n k : Nat) : (be8 n k).length = k := by induction k <;> simp [be8, *]
def headB (m n : Nat) : List UInt8 :=
 if n < 24 then [u8 (m * 32 + n)]
 else if n < 256 then [u8 (m * 32 + 24), u8 n]
 else if n < 65536 then [u8 (m * 32 + 25), u8 (n / 256), u8 n]
 else if n < 4294967296 then [u8 (m * 32 + 26), u8 (n / 16777216), u8 (n / 65536), u8 (n / 256), u8 n]
 else u8 (m * 32 + 27) :: be8 n 8
theorem headB_length (m n : Nat) : (headB m n).length = if n < 24 then 1 else if n < 256 then 2 else if n < 65536 then 3 else if n < 4294967296 then 5 else 9 := by
 unfold headB
 repeat' split
 all_goals simp [be8_length]
theorem headB_le (m n : Nat) : 1 ≤ (headB m n).length ∧ (headB m n).length ≤ 9 := by
 rw [headB_length]
 repeat' split
 all_goals omega
theorem ofInt_u8 (a : Nat) (ha : a < 256) : (BitVec.ofInt 8 (a : Int)).toNat = a := by
 rw [BitVec.ofInt_natCast, BitVec.toNat_ofNat]; exact Nat.mod_eq_of_lt (by omega)
theorem u8_or_nat (a b : Nat) (ha : a < 256) (hb : b < 256) : bits .or .u8 (a : Int) (b : Int) = ((a ||| b : Nat) : Int) := by
 have hx : a ||| b < 2 ^ 8 := Nat.or_lt_two_pow (by omega) (by omega);show IntKind.u8.wrap ((BitVec.ofInt 8 (a : Int) ||| BitVec.ofInt 8 (b : Int)).toNat : Int) = _
 rw [BitVec.toNat_or, ofInt_u8 a ha, ofInt_u8 b hb, IntKind.wrap_u8]
 omega
theorem or_head (m n : Nat) (hn : n < 32) : m * 32 ||| n = m * 32 + n := by
 have h := Nat.two_pow_add_eq_or_of_lt (i := 5) (b := n) (by omega) m;rw [show 2 ^ 5 * m = m * 32 by omega] at h
 exact h.symm
theorem u8_head (m n : Nat) (hm : m < 8) (hn : n < 32) : bits .or .u8 ((m : Int) * 32) (n : Int) = ((m * 32 + n : Nat) : Int) := by
 have h := u8_or_nat (m * 32) n (by omega) (by omega);rw [or_head m n hn] at h
 simpa using h
theorem cbor_head (m n : Int) (w : World) (hm0 : 0 ≤ m) (hm : m < 8) (h0 : 0 ≤ n) (h1 : n < 18446744073709551616) :
  Calls Tryz.prog 81 #[.int .u8 m, .int .u64 n] w fun e w' => ∃ r, e = .returned r ∧ Fresh w (headB m.toNat n.toNat) r w' := by
 obtain ⟨m', hm'⟩ := Int.eq_ofNat_of_zero_le hm0;obtain ⟨n', hn'⟩ := Int.eq_ofNat_of_zero_le h0;have HM := Hh hm';have HN := Hh hn';have H1 := Hh h1;clear h1 hm' hn';go_enter Tryz.func81, Tryz.ntmps81
 go_wp2
 ·go_ret
  obtain rfl := HM.out;obtain rfl := HN.out;rw [Int.toNat_natCast, Int.toNat_natCast];have hlt : (n' : Int) < 24 := by with_reducible assumption
  refine ⟨_, rfl, Fresh.lit _ _ _ 1 ?_ ?_ ?_⟩
  ·rw [headB_length, if_pos (by omega)]
  ·have := (headB_le m' n').2; omega
  ·rw [headB, if_pos (by omega)]
   simp only [List.map_cons, List.map_nil, byteV_u8]
   rw [u8_head m' n' (by omega) (by omega), Nat.mod_eq_of_lt (by omega)]
 ·go_ret
  obtain rfl := HM.out;obtain rfl := HN.out;rw [Int.toNat_natCast, Int.toNat_natCast];have hge : (24 : Int) ≤ n' := by with_reducible assumption
  have hlt : (n' : Int) < 256 := by with_reducible assumption
  refine ⟨_, rfl, Fresh.lit _ _ _ 2 ?_ ?_ ?_⟩
  ·rw [headB_length, if_neg (by omega), if_pos (by omega)]
  ·have := (headB_le m' n').2; omega
  ·rw [headB, if_neg (by omega), if_pos (by omega)]
   simp only [List.map_cons, List.map_nil, byteV_u8]
   have e24' := u8_head m' 24 (by omega) (by omega);rw [show ((24 : Nat) : Int) = 24 from rfl] at e24';rw [e24', Nat.mod_eq_of_lt (by omega), Nat.mod_eq_of_lt (by omega)]
 ·go_ret
  obtain rfl := HM.out;obtain rfl := HN.out;rw [Int.toNat_natCast, Int.toNat_natCast];have hge : (256 : Int) ≤ n' := by with_reducible assumption
  have hlt : (n' : Int) < 65536 := by with_reducible assumption
  refine ⟨_, rfl, Fresh.lit _ _ _ 3 ?_ ?_ ?_⟩
  ·rw [headB_length, if_neg (by omega), if_neg (by omega), if_pos (by omega)]
  ·have := (headB_le m' n').2; omega
  ·rw [headB, if_neg (by omega), if_neg (by omega), if_pos (by omega)]
   simp only [List.map_cons, List.map_nil, byteV_u8]
   have e24' := u8_head m' 25 (by omega) (by omega);rw [show ((25 : Nat) : Int) = 25 from rfl] at e24';rw [e24', Nat.mod_eq_of_lt (show m' * 32 + 25 < 256 by omega), Nat.mod_eq_of_lt (show n' / 256 < 256 by omega)];rfl
 ·go_ret
  obtain rfl := HM.out;obtain rfl := HN.out;rw [Int.toNat_natCast, Int.toNat_natCast];have hge : (65536 : Int) ≤ n' := by with_reducible assumption
  have hlt : (n' : Int) < 4294967296 := by with_reducible assumption
  refine ⟨_, rfl, Fresh.lit _ _ _ 5 ?_ ?_ ?_⟩
  ·rw [headB_length, if_neg (by omega), if_neg (by omega), if_neg (by omega), if_pos (by omega)]
  ·have := (headB_le m' n').2; omega
  ·rw [headB, if_neg (by omega), if_neg (by omega), if_neg (by omega), if_pos (by omega)]
   simp only [List.map_cons, List.map_nil, byteV_u8]
   have e24' := u8_head m' 26 (by omega) (by omega);rw [show ((26 : Nat) : Int) = 26 from rfl] at e24';rw [e24', Nat.mod_eq_of_lt (show m' * 32 + 26 < 256 by omega), Nat.mod_eq_of_lt (show n' / 16777216 < 256 by omega)];rfl
 ·have HG : Hid (headB m.toNat n.toNat = u8 (m.toNat * 32 + 27) :: be8 n.toNat 8) := by
   have hge : (4294967296 : Int) ≤ n := by with_reducible assumption
   rw [headB, if_neg (by omega), if_neg (by omega), if_neg (by omega), if_neg (by omega)];rfl
  have hst : OwnB (w.alloc (.cells #[.int .u8 (bits .or .u8 (m * 32) 27)] 5)) w.heap.size (.slice (some ⟨w.heap.size, 0, none⟩) 1 1) [u8 (m.toNat * 32 + 27)] := by
   refine OwnB.lit w _ _ _ 1 rfl ?_ (Nat.le_refl _) (by simp)
   have e27' := u8_head m.toNat 27 (by omega) (by omega);rw [show ((27 : Nat) : Int) = 27 from rfl, Int.toNat_of_nonneg hm0] at e27'
   simp only [List.map_cons, List.map_nil, byteV_u8]
   rw [e27', Nat.mod_eq_of_lt (by omega)]
  go_loopw [6, 7] (fun v s wr => ∃ k : Nat, k ≤ 8 ∧ s = .int .i64 (56 - 8 * (k : Int)) ∧ OwnB wr w.heap.size v (u8 (m.toNat * 32 + 27) :: be8 n.toNat k) ∧ Below w.heap.size w wr) (fun _ s _ => (intOf s + 8).toNat)
  case atStart => exact ⟨0, by omega, rfl, hst, (Below.refl _ _).alloc (Nat.le_refl _) _⟩
  case round =>
   obtain ⟨k, hk, rfl, hown, hb⟩ := hrel
   by_cases hlt : k < 8
   ·have hbs := hb.size;go_wp2_with (at_builtin; refine wpList_app_bytes rfl (.tmp 61) (.tmp 66) rfl w.heap.size _ _ rfl (hown.alloc _) _ 1 1 [u8 (n.toNat / 2 ^ (56 - 8 * k))] rfl rfl ?hs ?hl ?hz ?_)
    case hs =>
     rw [byteV_of (n / 2 ^ (56 - 8 * k) % 256) (n.toNat / 2 ^ (56 - 8 * k)) (by obtain rfl := HN.out; simp)]
     exact Src.lit wr #[byteV (u8 (n.toNat / 2 ^ (56 - 8 * k)))] _
    case hl => simp [be8_length]; omega
    case hz => simp; omega
    intro v' w' hown' hg _
    have R : OwnB w' w.heap.size v' (u8 (m.toNat * 32 + 27) :: be8 n.toNat (k + 1)) ∧ Below w.heap.size w w' :=
     ⟨by simpa [be8] using hown', ((hb.alloc hbs _).grown hg (by simp; omega) (fun g hg => (hown.lt g hg).1))⟩
    clear hown' hg hown hb hst;go_wp2
    go_roundw
    case rel => exact ⟨k + 1, by omega, by go_num, R.1, R.2⟩
    case measure => simp [intOf]; omega
   ·have hk8 : k = 8 := by omega
    subst hk8;go_wp2
    go_ret
    refine ⟨_, rfl, ?_⟩
    rw [HG.out]
    exact ⟨hown, hb⟩
structure Lie (α : Type) where
 k : Nat
 pos : 0 < k
 E : Snap → α → List Value → Prop
 len : ∀ {H x c}, E H x c → c.length = k
 one : ∀ {H x c}, E H x c → ∀ u ∈ c, u.oneCell' = true
 mono : ∀ {H K x c}, H.le K → E H x c → E K x c
section
variable {α : Type} {L : Lie α}
def RowC (L : Lie α) (H : Snap) : List Value → List α → Prop
 | cs, [] => cs = []
 | cs, x :: l => ∃ c rest, cs = c ++ rest ∧ L.E H x c ∧ RowC L H rest l
theorem RowC.nil (L : Lie α) (H : Snap) : RowC L H [] [] := by rw [RowC]
theorem RowC.len {H : Snap} : ∀ {l : List α} {cs : List Value}, RowC L H cs l → cs.length = l.length * L.k
 | [], cs, h => by rw [RowC] at h; subst h; simp
 | x :: l, cs, h => by
  obtain ⟨c, rest, rfl, hx, hr⟩ := h;rw [List.length_append, L.len hx, hr.len, List.length_cons, Nat.succ_mul, Nat.add_comm]
theorem RowC.mono {H K : Snap} (hl : H.le K) : ∀ {l : List α} {cs : List Value}, RowC L H cs l → RowC L K cs l
 | [], cs, h => h
 | x :: l, cs, h => by
  obtain ⟨c, rest, e, hx, hr⟩ := h
  exact ⟨c, rest, e, L.mono hl hx, hr.mono hl⟩
theorem RowC.one {H : Snap} {x : α} {c : List Value} (h : L.E H x c) : RowC L H c [x] := ⟨c, [], by simp, h, RowC.nil L H⟩
theorem RowC.app {H : Snap} : ∀ {l m : List α} {cs ds : List Value}, RowC L H cs l → RowC L H ds m → RowC L H (cs ++ ds) (l ++ m)
 | [], m, cs, ds, h, hd => by rw [RowC] at h; subst h; exact hd
 | x :: l, m, cs, ds, h, hd => by
  obtain ⟨c, rest, rfl, hx, hr⟩ := h
  exact ⟨c, rest ++ ds, by simp, hx, hr.app hd⟩
theorem RowC.oneCell {H : Snap} : ∀ {l : List α} {cs : List Value}, RowC L H cs l → ∀ u ∈ cs, u.oneCell' = true
 | [], cs, h => by rw [RowC] at h; subst h; simp
 | x :: l, cs, h => by
  obtain ⟨c, rest, rfl, hx, hr⟩ := h
  intro u hu
  rw [List.mem_append] at hu
  rcases hu with hu | hu
  ·exact L.one hx u hu
  ·exact hr.oneCell u hu
theorem RowC.get {H : Snap} : ∀ {l : List α} {cs : List Value}, RowC L H cs l → ∀ (j : Nat) (hj : j < l.length), ∃ c, L.E H l[j] c ∧ ∀ i v, c[i]? = some v → cs[j * L.k + i]? = some v
 | [], _, _, j, hj => by simp at hj
 | x :: l, cs, h, 0, _ => by
  obtain ⟨c, rest, rfl, hx, hr⟩ := h
  refine ⟨c, hx, fun i v hi => ?_⟩
  rw [Nat.zero_mul, Nat.zero_add, List.getElem?_append_left (List.getElem?_eq_some_iff.1 hi).1]
  exact hi
 | x :: l, cs, h, j + 1, hj => by
  obtain ⟨c, rest, rfl, hx, hr⟩ := h;obtain ⟨c', hc', hi'⟩ := hr.get j (by simpa using hj)
  refine ⟨c', by simpa using hc', fun i v hi => ?_⟩
  have := hi' i v hi;rw [List.getElem?_append_right (by rw [L.len hx, Nat.succ_mul]; omega), L.len hx, show (j + 1) * L.k + i - L.k = j * L.k + i by rw [Nat.succ_mul]; omega]
  exact this
structure IsRow (L : Lie α) (H : Snap) (A : Option Addr) (c : Nat) (l : List α) : Prop where
 le : l.length ≤ c
 max : c ≤ 9223372036854775807
 row : 0 < l.length → ∃ b off cs, A = some ⟨b, off, none⟩ ∧ RowC L H cs l ∧ Cells H b off cs
theorem IsRow.mono {H K : Snap} {A : Option Addr} {c : Nat} {l : List α} (h : IsRow L H A c l) (hl : H.le K) : IsRow L K A c l := ⟨h.le, h.max, fun h0 => by
 obtain ⟨b, off, cs, e, h1, h2⟩ := h.row h0
 exact ⟨b, off, cs, e, h1.mono hl, fun j v hj => hl.cell (h2 j v hj)⟩⟩
theorem IsRow.at_ {H : Snap} {A : Option Addr} {c : Nat} {l : List α} (h : IsRow L H A c l) (h0 : 0 < l.length) : ∃ b off, A = some ⟨b, off, none⟩ ∧ ∀ j (hj : j < l.length), ∃ d, L.E H l[j] d ∧ ∀ i v, d[i]? = some v → H.cell? ⟨b, off + (j * L.k + i), none⟩ = some v := by
 obtain ⟨b, off, cs, e, h1, h2⟩ := h.row h0
 refine ⟨b, off, e, fun j hj => ?_⟩
 obtain ⟨d, hd, hi⟩ := h1.get j hj
 exact ⟨d, hd, fun i v hv => h2 _ _ (hi i v hv)⟩
def OwnX (L : Lie α) (t : TypeId) (w : World) (base : Nat) (v : Value) (H : Snap) (l : List α) : Prop := ∃ cs, RowC L H cs l ∧ w.ownsRow base t L.k v l.length cs
variable {t : TypeId} {w w' : World} {base : Nat} {v : Value} {H : Snap} {l : List α}
theorem OwnX.nil (L : Lie α) (t : TypeId) (w : World) (base : Nat) (H : Snap) : OwnX L t w base (.slice none 0 0) H [] := ⟨[], RowC.nil L H, World.ownsRow_nil _ _ _ _⟩
theorem OwnX.lt (h : OwnX L t w base v H l) : ∀ k, v.ownBlock = some k → base ≤ k ∧ k < w.heap.size := by obtain ⟨_, _, h⟩ := h; exact World.ownsRow.lt h
theorem OwnX.kept {row : Option Nat} (h : OwnX L t w base v H l) (hg : w.grownBy w' row) (hne : v.ownBlock = none ∨ v.ownBlock ≠ row) : OwnX L t w' base v H l := by
 obtain ⟨cs, hc, h⟩ := h; exact ⟨cs, hc, World.ownsRow.kept h hg hne⟩
theorem OwnX.below (h : OwnX L t w base v H l) (hb : Below w.heap.size w w') : OwnX L t w' base v H l := by
 refine h.kept (grown_of_below hb none) ?_
 cases hv : v.ownBlock with
 | none => exact .inl rfl
 | some g => exact .inr (by simp)
theorem OwnX.alloc (h : OwnX L t w base v H l) (o : Obj) : OwnX L t (w.alloc o) base v H l := h.below (below_box w o)
theorem OwnX.mono {K : Snap} (h : OwnX L t w base v H l) (hl : H.le K) : OwnX L t w base v K l := by obtain ⟨cs, hc, h⟩ := h; exact ⟨cs, hc.mono hl, h⟩
theorem OwnX.more {base' : Nat} (h : OwnX L t w base v H l) (hb : base' ≤ base) : OwnX L t w base' v H l := by
 obtain ⟨cs, hc, h⟩ := h
 refine ⟨cs, hc, h.1, ?_⟩
 rcases h.2 with h2 | ⟨g, cap, cur, hv, hg, r⟩
 ·exact .inl h2
 ·exact .inr ⟨g, cap, cur, hv, by omega, r⟩
theorem OwnX.form (h : OwnX L t w base v H l) : ∃ A c, v = .slice A l.length c ∧ l.length ≤ c ∧ c ≤ 9223372036854775807 := by
 obtain ⟨cs, hc, h⟩ := h
 rcases h.2 with ⟨rfl, hz⟩ | ⟨g, cap, cur, rfl, _, _, hn, hm, _⟩
 ·exact ⟨none, 0, by rw [hz], by omega, by omega⟩
 ·exact ⟨_, cap, rfl, hn, by simpa [maxLen] using hm⟩
theorem OwnX.snap {A : Option Addr} {m c : Nat} (h : OwnX L t w base (.slice A m c) H l) (hw : Holds w H) (hn : ∀ g, A.map (·.block) = some g → H g = none) :
  ∃ H', H.le H' ∧ Holds w H' ∧ (∀ b o, H' b = some o → H b = some o ∨ A.map (·.block) = some b) ∧ m = l.length ∧ IsRow L H' A c l := by
 obtain ⟨cs, hcs, h⟩ := h
 rcases h.2 with ⟨hv, hz⟩ | ⟨g, cap, cur, hv, _, hg, hc, hm, hcz, ht⟩
 ·cases hv
  exact ⟨H, Snap.le.refl _, hw, fun _ _ h => .inl h, hz.symm, ⟨by omega, by omega, by omega⟩⟩
 ·cases hv
  have hg0 : H g = none := hn g rfl
  refine ⟨H.with g (.cells cur t), Snap.le_with hg0, hw.with hg, fun b o hb => ?_, rfl, hc, by simpa [maxLen] using hm, fun _ => ⟨g, 0, cs, rfl, hcs.mono (Snap.le_with hg0), fun j v hj => ?_⟩⟩
  ·unfold Snap.with at hb
   split at hb
   ·subst b; exact .inr rfl
   ·exact .inl hb
  ·rw [← ht, List.getElem?_take] at hj
   split at hj
   ·simp [Snap.cell?, Snap.with]
    simpa using hj
   ·cases hj
theorem OwnX.append {ops : Array Oper} {rest : List Oper} {o : Oper} {a : Act} {Q : Exit → Act → World → Prop} (hgd : o.guard = none) (s x : Operand) (T : TypeId)
  (ho : o.op = .call { callee := .builtin .append, args := #[s, x], argTypes := #[T, T] }) (hT : Tryz.prog.underlying T = some (.slice t)) {z : Value} {bytes : Nat} (hzs : z.cells.size = L.k) (hby : bytes ≤ 128)
  (hinfo : (Tryz.prog.info? t).map (fun i => (i.zero, i.size, i.bytes)) = some (some z, L.k, bytes))
  (hs : a.eval s = v) (hown : OwnX L t w base v H l) (A : Option Addr) (m c : Nat) (cs : List Value) (news : List α) (hx : a.eval x = .slice A m c) (hm : m = news.length)
  (hn : RowC L H cs news) (hr : Src w A cs) (hlen : l.length + news.length ≤ 1099511627776) (hbase : base ≤ w.heap.size)
  (h : ∀ v' w', OwnX L t w' base v' H (l ++ news) → w.grownBy w' v.ownBlock → At0 w v.ownBlock v'.ownBlock → wpList Tryz.prog ops Q rest (a.put o.dst v') w') :
  wpList Tryz.prog ops Q (o :: rest) a w := by
 subst hm;obtain ⟨xs, hxs, hown⟩ := hown;obtain ⟨i0, hi0, hz0, hz1, hz2⟩ := info_parts hinfo
 refine wpList_plain hgd fun K hK => wp_append_src s x _ ho base t i0 _ L.k bytes hT hi0 hz0 hz1 hz2 hzs L.pos v l.length xs hs hown A news.length c cs hx hn.len hr hn.oneCell
  (by simp only [maxLen]; omega) (by have := Nat.mul_le_mul hlen hby; omega) hbase fun v' w' h2 h3 h4 => hK _ _ (h v' w' ?_ h3 ?_)
 ·exact ⟨xs ++ cs, hxs.app hn, by simpa using h2⟩
 ·rcases h4 with h4 | h4
  ·exact .inl h4
  ·exact .inr ⟨_, h4, Nat.le_refl _⟩
end
theorem byteV_getD (l : List UInt8) (i : Nat) : (l.map fun u => (u.toNat : Int)).getD i 0 = ((l.getD i 0).toNat : Int) := by
 simp [List.getD]
 cases h : l[i]? <;> simp
theorem strOfNums_bytes (l : List UInt8) : strOfNums (l.map fun u => (u.toNat : Int)) = ⟨l.toArray⟩ := by
 have h : (fun n : Int => UInt8.ofNat n.toNat) ∘ (fun u : UInt8 => (u.toNat : Int)) = id := by funext u; simp
 unfold strOfNums
 simp [h]
theorem conv_bytes {w : World} {A : Option Addr} {l : List UInt8} (h : Src w A (l.map byteV)) (n c : Nat) (hn : n = l.length) :
  (convert 27 9 (.slice A n c)).run Tryz.prog w = .ok (.string ⟨l.toArray⟩) w := by
 subst hn
 by_cases hl : l = []
 ·subst hl
  cases A with
  | none => exact run_convert_bytes_nil w _ 5 Tryz.underlying27 Tryz.underlying5 _ _ _ Tryz.underlying9
  | some a =>
   obtain ⟨b, off, spot⟩ := a;rw [run_convert_bytes_string w _ _ 5 _ _ c Tryz.underlying27 Tryz.underlying5 Tryz.underlying9];rfl
 ·obtain ⟨b, off, rfl, hc⟩ := h (by simpa using hl)
  have := run_convert_bytes_arg (P := Tryz.prog) w 27 5 Tryz.underlying27 Tryz.underlying5 b off l.length c (l.map fun u => (u.toNat : Int)) (by simp)
   (fun i hi => by rw [byteV_getD, hc i (byteV l[i]) (by simp [hi])]; simp [List.getD, hi]) _ Tryz.underlying9
  rw [this, strOfNums_bytes]
theorem bytes_Equal (w : World) (A B : Option Addr) (a b : List UInt8) (n m c d : Nat) (hn : n = a.length) (hm : m = b.length) (ha : Src w A (a.map byteV)) (hb : Src w B (b.map byteV)) :
  Calls Tryz.prog 61 #[.slice A n c, .slice B m d] w fun e w' => e = .returned (.bool (a == b)) ∧ w = w' := by
 have h1 := conv_bytes ha n c hn;have h2 := conv_bytes hb m d hm;clear hn hm ha hb;go_enter Tryz.func61, Tryz.ntmps61
 go_wp2
 go_ret
 exact ⟨rfl, rfl⟩
theorem run_loadBytes {P : Program} {w : World} (b : Nat) : ∀ (l : List UInt8) (off : Nat) (acc : ByteArray), (∀ j v, (l.map byteV)[j]? = some v → w.cell? ⟨b, off + j, none⟩ = some v) →
  (Extern.Bytes.loadBytes ⟨b, off, none⟩ l.length acc).run P w = .ok ⟨acc.data ++ l.toArray⟩ w
 | [], off, acc, _ => by simp [Extern.Bytes.loadBytes]
 | u :: l, off, acc, h => by
  have h0 := h 0 (byteV u) rfl;have ih := run_loadBytes (P := P) b l (off + 1) (acc.push u) (fun j v hj => by rw [show off + 1 + j = off + (j + 1) by omega]; exact h (j + 1) v (by simpa using hj))
  simp only [List.length_cons, Extern.Bytes.loadBytes]
  simp [load, Sem.run, Result.andThen, byteV] at h0 ⊢
  simp [h0, addr_add, ByteArray.push]
  rw [show (⟨acc.data.push u⟩ : ByteArray) = acc.push u from rfl, ih];congr 2
  simp [ByteArray.push]
theorem run_bytesOf {P : Program} {w : World} {A : Option Addr} {l : List UInt8} (h : Src w A (l.map byteV)) (n c : Nat) (hn : n = l.length) :
  (Extern.Bytes.bytesOf (.slice A n c)).run P w = .ok ⟨l.toArray⟩ w := by
 subst hn
 by_cases hl : l = []
 ·subst hl
  cases A with
  | none => rfl
  | some a => rfl
 ·obtain ⟨b, off, rfl, hc⟩ := h (by simpa using hl);have := run_loadBytes (P := P) b l off .empty hc
  simp only [Extern.Bytes.bytesOf]
  rw [this]
  simp [ByteArray.empty, ByteArray.emptyWithCapacity]
  rfl
theorem run_compare {P : Program} {w : World} {A B : Option Addr} {a b : List UInt8} (ha : Src w A (a.map byteV)) (hb : Src w B (b.map byteV)) (n m c d : Nat) (hn : n = a.length) (hm : m = b.length) :
  (Extern.BytealgCompare.compare #[.slice A n c, .slice B m d]).run P w = .ok (.int .i64 (Lib.compareBytes a b)) w := by
 change Sem.run P (do pure (goInt (Extern.BytealgCompare.cmp (← Extern.Bytes.bytesOf (.slice A n c)) (← Extern.Bytes.bytesOf (.slice B m d))))) w = _
 simp only [Sem.run_bind, Sem.run_pure, Result.andThen, run_bytesOf ha n c hn, run_bytesOf hb m d hm]
 rw [Lib.cmp_eq];rfl
theorem bytes_Compare (w : World) (A B : Option Addr) (a b : List UInt8) (n m c d : Nat) (hn : n = a.length) (hm : m = b.length) (ha : Src w A (a.map byteV)) (hb : Src w B (b.map byteV)) :
  Calls Tryz.prog 69 #[.slice A n c, .slice B m d] w fun e w' => e = .returned (.int .i64 (Lib.compareBytes a b)) ∧ w = w' := by
 have h1 := Hh (run_compare (P := Tryz.prog) ha hb n m c d hn hm);clear hn hm ha hb;go_enter Tryz.func69, Tryz.ntmps69
 go_wp2
 rw [run_callFunc_extern Tryz.func85 (by kernel_rfl) (by kernel_rfl) (by kernel_rfl) (e := Extern.BytealgCompare.compare) (by kernel_rfl), h1.out]
 simp only [Result.andThen]
 rw [Oper.upon_value];go_wp2
 go_ret
 exact ⟨rfl, rfl⟩
theorem bytes_Clone (w : World) (A : Option Addr) (l : List UInt8) (n c : Nat) (hn : n = l.length) (hl : l.length ≤ 1099511627776) (hs : Src w A (l.map byteV)) :
  Calls Tryz.prog 65 #[.slice A n c] w fun e w' => ∃ r, e = .returned r ∧ Fresh w l r w' := by
 cases A with
 | none =>
  have h0 : l = [] := by
   cases l with
   | nil => rfl
   | cons a l => obtain ⟨b, off, h, _⟩ := hs (by simp); cases h
  subst h0;have he := fun w : World => Lib.run_eql_slice_nil (P := Tryz.prog) w _ _ none n c 0 0 Tryz.underlying27
  clear hn hl;go_enter Tryz.func65, Tryz.ntmps65
  go_wp2
  go_ret
  exact ⟨_, rfl, OwnB.nil _ _, Below.refl _ _⟩
 | some a =>
  have he := fun w : World => Lib.run_eql_slice_nil (P := Tryz.prog) w _ _ (some a) n c 0 0 Tryz.underlying27
  simp only [Option.isNone] at he
  have HN := Hh hn;clear hn;go_enter Tryz.func65, Tryz.ntmps65
  go_wp2_with (at_builtin; refine stop_in ?_)
  unfold Stopped
  have h0 : OwnB (w.alloc (.cells #[] 5)) w.heap.size (.slice (some ⟨w.heap.size, 0, none⟩) 0 0) [] := OwnB.lit w _ [] #[] 0 rfl rfl (Nat.le_refl _) (by simp)
  refine wpList_app_bytes rfl (.tmp 5) (.tmp 6) rfl w.heap.size _ [] rfl h0 (some a) n c l rfl HN.out ?_ (by simpa using hl) (by simp) ?_
  ·exact hs.alloc _
  intro v' w' hown hg _
  have hf : Fresh w l v' w' := ⟨by rw [List.nil_append] at hown; exact hown, (below_box w _).grown hg (by simp) (fun k hk => (h0.lt k hk).1)⟩
  clear hown hg h0;go_wp2
  go_ret
  exact ⟨_, rfl, hf⟩
theorem slices_Clone (w : World) (A : Option Addr) (l : List UInt8) (n c : Nat) (hn : n = l.length) (hl : l.length ≤ 1099511627776) (hs : Src w A (l.map byteV)) :
  Calls Tryz.prog 110 #[.slice A n c] w fun e w' => ∃ r, e = .returned r ∧ Fresh w l r w' := by
 cases A with
 | none =>
  have h0 : l = [] := by
   cases l with
   | nil => rfl
   | cons a l => obtain ⟨b, off, h, _⟩ := hs (by simp); cases h
  subst h0;have he := fun w : World => Lib.run_eql_slice_nil (P := Tryz.prog) w _ _ none n c 0 0 Tryz.underlying27
  clear hn hl;go_enter Tryz.func110, Tryz.ntmps110
  go_wp2
  go_ret
  exact ⟨_, rfl, OwnB.nil _ _, Below.refl _ _⟩
 | some a =>
  have he := fun w : World => Lib.run_eql_slice_nil (P := Tryz.prog) w _ _ (some a) n c 0 0 Tryz.underlying27
  simp only [Option.isNone] at he
  have HN := Hh hn;clear hn;go_enter Tryz.func110, Tryz.ntmps110
  go_wp2_with (at_builtin; refine stop_in ?_)
  unfold Stopped
  have h0 : OwnB (w.alloc (.cells #[] 5)) w.heap.size (.slice (some ⟨w.heap.size, 0, none⟩) 0 0) [] := OwnB.lit w _ [] #[] 0 rfl rfl (Nat.le_refl _) (by simp)
  refine wpList_app_bytes rfl (.tmp 5) (.tmp 6) rfl w.heap.size _ [] rfl h0 (some a) n c l rfl HN.out ?_ (by simpa using hl) (by simp) ?_
  ·exact hs.alloc _
  intro v' w' hown hg _
  have hf : Fresh w l v' w' := ⟨by rw [List.nil_append] at hown; exact hown, (below_box w _).grown hg (by simp) (fun k hk => (h0.lt k hk).1)⟩
  clear hown hg h0;go_wp2
  go_ret
  exact ⟨_, rfl, hf⟩
theorem ref_Compare (w : World) (A B : Option Addr) (a b : List UInt8) (n m c d : Nat) (hn : n = a.length) (hm : m = b.length) (hna : n ≤ 1099511627776) (hmb : m ≤ 1099511627776) (ha : Src w A (a.map byteV)) (hb : Src w B (b.map byteV)) :
  Calls Tryz.prog 27 #[.slice A n c, .slice B m d] w fun e w' => e = .returned (.int .i64 (Lib.compareBytes a b)) ∧ Below w.heap.size w w' := by
 have HN := Hh hn;have HM := Hh hm;clear hn hm;go_enter Tryz.func27, Tryz.ntmps27
 go_wp2_with fail
 go_loopw [5] (fun vi wr => ∃ k : Nat, k ≤ n ∧ k ≤ m ∧ vi = .int .i64 k ∧ Lib.compareBytes (a.drop k) (b.drop k) = Lib.compareBytes a b ∧ Below w.heap.size w wr) (fun vi _ => n - (intOf vi).toNat)
 case atStart => exact ⟨0, by omega, by omega, rfl, by simp, Below.refl _ _⟩
 case round =>
  obtain ⟨k, hk1, hk2, rfl, hc, hbr⟩ := hrel;have hn := HN.out;have hm := HM.out
  by_cases h1 : k < n
  ·by_cases h2 : k < m
   ·obtain ⟨ab, ao, rfl, hsa⟩ := (ha.below hbr) (by intro h; simp at h; subst h; simp at hn; omega)
    obtain ⟨bb, bo, rfl, hsb⟩ := (hb.below hbr) (by intro h; simp at h; subst h; simp at hm; omega)
    have ka : k < a.length := by omega
    have kb : k < b.length := by omega
    have p0 := hsa k (byteV a[k]) (by simp [ka]);have q0 := hsb k (byteV b[k]) (by simp [kb])
    have hd : Lib.compareBytes (a.drop k) (b.drop k) = if a[k] < b[k] then -1 else if b[k] < a[k] then 1 else Lib.compareBytes (a.drop (k + 1)) (b.drop (k + 1)) := by
     rw [List.drop_eq_getElem_cons ka, List.drop_eq_getElem_cons kb, Lib.compareBytes]
    rw [hc] at hd
    generalize a[k]'ka = x at *
    generalize b[k]'kb = y at *
    have HD := Hh hd;clear hd hc hn hm hsa hsb ka kb;go_upto_region 4 with fail
    refine wp_region_ways 8 (fun w' => w'.cell? ⟨ab, ao + k, none⟩ = some (byteV x) ∧ w'.cell? ⟨bb, bo + k, none⟩ = some (byteV y)) (by kernel_rfl) (⟨p0, q0⟩) (fun hHeld => ?_)
    refine Tk 0 rfl hHeld ?_
    refine Tk 1 rfl hHeld ?_
    refine Tk 2 rfl hHeld ?_
    refine Tk 3 rfl hHeld ?_
    refine Tk 4 rfl hHeld ?_
    refine Tk 5 rfl hHeld ?_
    refine Tk 6 rfl hHeld ?_
    refine Tk 7 rfl hHeld ?_
    refine To 8 rfl fun K hK => ?_
    go_simp
    refine Kz hK ?_
    clear hK K
    refine Wd ?_
    clear hHeld
    by_cases hxy : x = y
    ·subst hxy;have E : Hid (Lib.compareBytes (a.drop (k + 1)) (b.drop (k + 1)) = Lib.compareBytes a b) := by rw [Hid, HD.out, if_neg (UInt8.lt_irrefl x), if_neg (UInt8.lt_irrefl x)]
     have hb2 := hbr.drew;go_wp2_with fail
     go_roundw
     case rel => exact ⟨k + 1, by omega, by omega, by go_num, E.out, hb2⟩
     case measure => simp [intOf]; omega
    ·have hne : ((x.toNat : Int) != (y.toNat : Int)) = true := by
      rw [bne_iff_ne]
      intro h
      exact hxy (UInt8.toNat_inj.1 (by omega))
     have hb2 := hbr.drew.drew;have HXY := Hh hxy;clear hxy;go_upto_region 5 with fail
     refine wp_region_ways 8 (fun w' => w'.cell? ⟨ab, ao + k, none⟩ = some (byteV x) ∧ w'.cell? ⟨bb, bo + k, none⟩ = some (byteV y)) (by kernel_rfl) (⟨p0, q0⟩) (fun hHeld => ?_)
     refine Tk 0 rfl hHeld ?_
     refine Tk 1 rfl hHeld ?_
     refine Tk 2 rfl hHeld ?_
     refine Tk 3 rfl hHeld ?_
     refine Tk 4 rfl hHeld ?_
     refine Tk 5 rfl hHeld ?_
     refine Tk 6 rfl hHeld ?_
     refine Tk 7 rfl hHeld ?_
     refine To 8 rfl fun K hK => ?_
     go_simp
     refine Kz hK ?_
     clear hK K
     refine Wd ?_
     clear hHeld
     by_cases hl : x < y
     ·have E : Hid (Lib.compareBytes a b = -1) := by rw [Hid, HD.out, if_pos hl]
      have hl2 : (x.toNat : Int) < (y.toNat : Int) := by have := UInt8.lt_iff_toNat_lt.1 hl; omega
      clear hl;go_wp2_with fail
      go_ret
      exact ⟨by rw [E.out]; rfl, hb2⟩
     ·have hg : y < x := by
       have := HXY.out
       rcases Nat.lt_trichotomy x.toNat y.toNat with h | h | h
       ·exact absurd (UInt8.lt_iff_toNat_lt.2 h) hl
       ·exact absurd (UInt8.toNat_inj.1 h) this
       ·exact UInt8.lt_iff_toNat_lt.2 h
      have E : Hid (Lib.compareBytes a b = 1) := by rw [Hid, HD.out, if_neg hl, if_pos hg]
      have hl2 : (y.toNat : Int) ≤ (x.toNat : Int) := by have := UInt8.lt_iff_toNat_lt.1 hg; omega
      clear hl hg;go_wp2_with fail
      go_ret
      exact ⟨by rw [E.out]; rfl, hbr.drew.drew⟩
   ·have hkm : k = m := by omega
    have E : Hid (Lib.compareBytes a b = 1) := by
     rw [Hid, ← hc, List.drop_eq_getElem_cons (show k < a.length by omega), List.drop_eq_nil_of_le (show b.length ≤ k by omega), Lib.compareBytes]
    clear hc hn hm;go_wp2_with fail
    go_ret
    exact ⟨by rw [E.out]; rfl, hbr⟩
  ·have hkn : k = n := by omega
   by_cases h2 : k < m
   ·have E : Hid (Lib.compareBytes a b = -1) := by
     rw [Hid, ← hc, List.drop_eq_nil_of_le (show a.length ≤ k by omega), List.drop_eq_getElem_cons (show k < b.length by omega), Lib.compareBytes]
    clear hc hn hm;go_wp2_with fail
    go_ret
    exact ⟨by rw [E.out]; rfl, hbr⟩
   ·have E : Hid (Lib.compareBytes a b = 0) := by
     rw [Hid, ← hc, List.drop_eq_nil_of_le (show a.length ≤ k by omega), List.drop_eq_nil_of_le (show b.length ≤ k by omega), Lib.compareBytes]
    clear hc hn hm;go_wp2_with fail
    go_ret
    exact ⟨by rw [E.out]; rfl, hbr⟩
theorem OwnB.blk {w : World} {g base : Nat} {cs : Array Value} {l : List UInt8} (h : Blk w g 5 cs) (hc : cs.toList = l.map byteV) (hb : base ≤ g) (hm : l.length ≤ 4096) (k : Nat) (hk : k = l.length) :
  OwnB w base (.slice (some ⟨g, 0, none⟩) k k) l := by
 subst hk
 refine ⟨by simp, .inr ⟨g, l.length, cs, rfl, hb, h, Nat.le_refl _, by simp only [maxLen]; omega, ?_, ?_⟩⟩
 ·rw [← Array.length_toList, hc]; simp
 ·rw [hc, Nat.mul_one]; exact List.take_of_length_le (by simp)
def tailB (n s j : Nat) : List UInt8 := (List.range j).map fun t => u8 (n / 2 ^ (8 * (s - 1 - t)))
theorem tailB_succ (n s j : Nat) : tailB n s (j + 1) = tailB n s j ++ [u8 (n / 2 ^ (8 * (s - 1 - j)))] := by
 simp [tailB, List.range_succ]
theorem tailB_len (n s j : Nat) : (tailB n s j).length = j := by simp [tailB]
def tailF (n s j : Nat) : UInt8 := u8 (n / 2 ^ (8 * (s - 1 - j)))
def headS (n : Nat) : Nat := if n < 256 then 1 else if n < 65536 then 2 else if n < 4294967296 then 4 else 8
def headA (n : Nat) : Nat := if n < 256 then 24 else if n < 65536 then 25 else if n < 4294967296 then 26 else 27
def headF (m n : Nat) : UInt8 := u8 (m * 32 + headA n)
theorem headB_tail (m n : Nat) (h : 24 ≤ n) : headB m n = headF m n :: tailB n (headS n) (headS n) := by
 rw [headB, if_neg (by omega), headF, headA, headS]
 by_cases h1 : n < 256
 ·simp [h1, tailB, List.range_succ]
 by_cases h2 : n < 65536
 ·simp [h1, h2, tailB, List.range_succ]
 by_cases h3 : n < 4294967296
 ·simp [h1, h2, h3, tailB, List.range_succ]
 ·simp [h1, h2, h3, tailB, be8, List.range_succ]
theorem head_1 {n : Int} (h : n < 256) : headS n.toNat = 1 ∧ headA n.toNat = 24 := by
 constructor <;> (simp only [headS, headA]; repeat (first | rw [if_pos (by omega)] | rw [if_neg (by omega)]))
theorem head_2 {n : Int} (h : 256 ≤ n) (h' : n < 65536) : headS n.toNat = 2 ∧ headA n.toNat = 25 := by
 constructor <;> (simp only [headS, headA]; repeat (first | rw [if_pos (by omega)] | rw [if_neg (by omega)]))
theorem head_3 {n : Int} (h : 65536 ≤ n) (h' : n < 4294967296) : headS n.toNat = 4 ∧ headA n.toNat = 26 := by
 constructor <;> (simp only [headS, headA]; repeat (first | rw [if_pos (by omega)] | rw [if_neg (by omega)]))
theorem head_4 {n : Int} (h : 4294967296 ≤ n) : headS n.toNat = 8 ∧ headA n.toNat = 27 := by
 constructor <;> (simp only [headS, headA]; repeat (first | rw [if_pos (by omega)] | rw [if_neg (by omega)]))
theorem headS_le (n : Nat) : 1 ≤ headS n ∧ headS n ≤ 8 := by
 unfold headS
 repeat' split
 all_goals omega
theorem head_cell {m n : Int} (hm0 : 0 ≤ m) (hm : m < 8) (h0 : 0 ≤ n) (h : n < 24) : (#[.int .u8 (32 * m + n)] : Array Value).toList = (headB m.toNat n.toNat).map byteV := by
 rw [headB, if_pos (by omega)]
 simp only [List.map_cons, List.map_nil, byteV_u8]
 congr 2
 omega
theorem ref_Head (m n : Int) (w : World) (hm0 : 0 ≤ m) (hm : m < 8) (h0 : 0 ≤ n) (h1 : n < 18446744073709551616) :
  Calls Tryz.prog 54 #[.int .i64 m, .int .u64 n] w fun e w' => ∃ r, e = .returned r ∧ Fresh w (headB m.toNat n.toNat) r w' := by
 have H1 := Hh h1;have H0 := Hh h0;have K0 : IntKind.u8.wrap (32 * m + 24) = 32 * m + 24 := IntWalk.u8_in _ (by omega);have K1 : IntKind.i64.wrap (32 * m) = 32 * m := IntWalk.i64_in _ (by omega);have K2 : IntKind.i64.wrap (32 * m + 24) = 32 * m + 24 := IntWalk.i64_in _ (by omega);have K3 : IntKind.u8.wrap (32 * m) = 32 * m := IntWalk.u8_in _ (by omega);have hB := Blk.new w 5 #[.int .u8 (32 * m + 24)];have hb0 := below_box w (.cells #[.int .u8 (32 * m + 24)] 5);clear h1;go_enter Tryz.func54, Tryz.ntmps54
 go_upto_block 0 with fail
 go_cut [5, 6] (fun s5 s6 wx => 24 ≤ n ∧ s5 = .slice (some ⟨w.heap.size, 0, none⟩) 1 1 ∧ s6 = .int .i64 (headS n.toNat : Int) ∧ Blk wx w.heap.size 5 #[.int .u8 (32 * m + (headA n.toNat : Int))] ∧ Below w.heap.size w wx)
 case first =>
  go_wp2_with fail
  ·go_ret
   have hlt : n < 24 := by with_reducible assumption
   have hc := head_cell hm0 hm H0.out hlt;have hB2 := Blk.new (w.alloc (.cells #[.int .u8 (32 * m + 24)] 5)) 5 #[.int .u8 (32 * m + n)]
   simp only [size_alloc] at hB2
   have hl1 : 1 = (headB m.toNat n.toNat).length := by rw [headB_length, if_pos (by omega)]
   exact ⟨_, rfl, OwnB.blk hB2 hc (by omega) (by omega) 1 hl1, hb0.alloc hb0.size _⟩
  ·have h24 : 24 ≤ n := by with_reducible assumption
   have hlt : n < 256 := by with_reducible assumption
   obtain ⟨e1, e2⟩ := head_1 hlt;go_meet
   rw [e1, e2]
   exact ⟨h24, rfl, rfl, hB, hb0⟩
  ·have h24 : 24 ≤ n := by with_reducible assumption
   have hge : 256 ≤ n := by with_reducible assumption
   have hlt : n < 65536 := by with_reducible assumption
   obtain ⟨e1, e2⟩ := head_2 hge hlt;go_meet
   rw [e1, e2];have := Blk.new w 5 #[.int .u8 (32 * m + 24 + 1)];rw [show 32 * m + 24 + 1 = 32 * m + ((25 : Nat) : Int) by omega] at this ⊢
   exact ⟨h24, rfl, rfl, this, below_box _ _⟩
  ·have h24 : 24 ≤ n := by with_reducible assumption
   have hge : 65536 ≤ n := by with_reducible assumption
   have hlt : n < 4294967296 := by with_reducible assumption
   obtain ⟨e1, e2⟩ := head_3 hge hlt;go_meet
   rw [e1, e2];have := Blk.new w 5 #[.int .u8 (32 * m + 24 + 2)];rw [show 32 * m + 24 + 2 = 32 * m + ((26 : Nat) : Int) by omega] at this ⊢
   exact ⟨h24, rfl, rfl, this, below_box _ _⟩
  ·have h24 : 24 ≤ n := by with_reducible assumption
   have hge : 4294967296 ≤ n := by with_reducible assumption
   obtain ⟨e1, e2⟩ := head_4 hge;go_meet
   rw [e1, e2];have := Blk.new w 5 #[.int .u8 (32 * m + 24 + 3)];rw [show 32 * m + 24 + 3 = 32 * m + ((27 : Nat) : Int) by omega] at this ⊢
   exact ⟨h24, rfl, rfl, this, below_box _ _⟩
 case rest =>
  obtain ⟨h24, rfl, rfl, hB2, hb2⟩ := hcut;obtain ⟨hs1, hs2⟩ := headS_le n.toNat;have HT := Hh (headB_tail m.toNat n.toNat (by omega))
  generalize headS n.toNat = s at *
  have K5 : IntKind.i64.wrap ((s : Int) - 1) = (s : Int) - 1 := IntWalk.i64_in _ (by omega)
  have hO : OwnB wc w.heap.size (.slice (some ⟨w.heap.size, 0, none⟩) 1 1) [headF m.toNat n.toNat] := by
   refine OwnB.blk hB2 ?_ (Nat.le_refl _) (by simp) 1 rfl
   simp only [List.map_cons, List.map_nil, headF, byteV_u8]
   have : headA n.toNat ≤ 27 := by unfold headA; (repeat' split); all_goals omega
   congr 2
   omega
  go_upto_region 13 with fail
  go_loopw [5, 7] (fun v5 v7 wr => ∃ (j : Nat) (VA : Option Addr) (vc : Nat), j ≤ s ∧ v7 = .int .i64 ((s : Int) - 1 - j) ∧ v5 = .slice VA (1 + j) vc ∧ OwnB wr w.heap.size (.slice VA (1 + j) vc) (headF m.toNat n.toNat :: tailB n.toNat s j) ∧ Below w.heap.size w wr) (fun _ v7 _ => (intOf v7 + 1).toNat)
  case atStart => exact ⟨0, _, _, by omega, by go_num, rfl, hO, hb2⟩
  case round =>
   obtain ⟨j, VA, vc, hj, rfl, rfl, hOr, hbr⟩ := hrel
   by_cases hlt : j < s
   ·have hge : (0 : Int) ≤ (s : Int) - 1 - j := by omega
    have hcell : (#[.int .u8 (n / 2 ^ (8 * (s - 1 - j)) % 256)] : Array Value).toList = [tailF n.toNat s j].map byteV := by
     simp only [List.map_cons, List.map_nil, tailF, byteV_u8]
     obtain ⟨n', rfl⟩ := Int.eq_ofNat_of_zero_le H0.out
     simp
    have hb3 := hbr.alloc hbr.size (.cells #[.int .u8 (n / 2 ^ (8 * (s - 1 - j)) % 256)] 5);have hO3 := hOr.alloc (.cells #[.int .u8 (n / 2 ^ (8 * (s - 1 - j)) % 256)] 5);have HC := Hh hcell;clear hcell;go_wp2_with (at_builtin; refine stop_in ?_)
    refine wpList_app_bytes rfl (.tmp 56) (.tmp 63) rfl w.heap.size _ _ rfl hO3 _ 1 _ [tailF n.toNat s j] rfl rfl (Src.new _ _ _ _ rfl _ HC.out) (by simp [tailB_len]; omega) hb3.size fun v' w7 hO7 hg7 hat7 => ?_
    have hl7 : (headF m.toNat n.toNat :: tailB n.toNat s j) ++ [tailF n.toNat s j] = headF m.toNat n.toNat :: tailB n.toNat s (j + 1) := by rw [tailB_succ]; rfl
    obtain ⟨VA', vc', rfl, _⟩ := hO7.form;have hll : ((headF m.toNat n.toNat :: tailB n.toNat s j) ++ [tailF n.toNat s j]).length = 1 + (j + 1) := by simp [tailB_len]; omega
    rw [hll] at hO7;rw [hll];rw [hl7] at hO7;have hb7 := hb3.grown hg7 hb3.size (fun q hq => (hO3.lt q hq).1);clear hl7 hll hg7 hat7 hO3 hOr hb3 hbr;go_wp2_with fail
    go_roundw
    case rel => exact ⟨j + 1, VA', vc', by omega, by rw [show ((j + 1 : Nat) : Int) = (j : Int) + 1 by omega, show (s : Int) - 1 - ((j : Int) + 1) = (s : Int) - 1 - j - 1 by omega], rfl, hO7, hb7⟩
    case measure => simp [intOf]; omega
   ·have hjs : j = s := by omega
    subst hjs;have E : Hid (headB m.toNat n.toNat = headF m.toNat n.toNat :: tailB n.toNat j j) := HT.out;have hneg : (j : Int) - 1 - j < 0 := by omega
    go_wp2_with fail
    go_ret
    rw [E.out]
    exact ⟨_, rfl, hOr, hbr⟩
def isNaN (n : Nat) : Bool := n / 2 ^ 52 % 2048 == 2047 && n % 2 ^ 52 != 0
def narrow (n eb mb : Nat) : Option Nat :=
 let sign := n / 2 ^ 63 * 2 ^ (eb + mb)
 let e := n / 2 ^ 52 % 2048
 let m := n % 2 ^ 52
 let top := 2 ^ eb - 1
 let bias := 2 ^ (eb - 1) - 1
 if e = 2047 then (if m = 0 then some (sign + top * 2 ^ mb) else none)
 else if e = 0 then (if m = 0 then some sign else none)
 else if 1023 + top ≤ e + bias then none
 else if 1023 < e + bias then (if m % 2 ^ (52 - mb) = 0 then some (sign + (e + bias - 1023) * 2 ^ mb + m / 2 ^ (52 - mb)) else none)
 else
  let shift := 53 - mb + (1023 - e - bias)
  if 52 < shift then none else if (m + 2 ^ 52) % 2 ^ shift = 0 then some (sign + (m + 2 ^ 52) / 2 ^ shift) else none
def floatB (n : Nat) : List UInt8 :=
 if isNaN n then [u8 249, u8 126, u8 0] else
 match narrow n 5 10 with
 | some v => [u8 249, u8 (v / 256), u8 v]
 | none => match narrow n 8 23 with
  | some v => [u8 250, u8 (v / 16777216), u8 (v / 65536), u8 (v / 256), u8 v]
  | none => u8 251 :: be8 n 8
theorem floatB_length (n : Nat) : (floatB n).length = 3 ∨ (floatB n).length = 5 ∨ (floatB n).length = 9 := by
 unfold floatB
 repeat' split
 all_goals simp [be8_length]
def numP (x : Itm) : Nat :=
 if x.kind = 2 ∨ x.kind = 3 then x.bytes.length else if x.kind = 4 then x.items.length else if x.kind = 5 then x.items.length / 2 else x.n
mutual
def encB : Itm → List UInt8
 | .mk k n bs l =>
  if k = 8 then floatB n
  else if k = 7 ∧ 24 ≤ n then [u8 248, u8 n]
  else headB k.toNat (numP (.mk k n bs l)) ++ bs ++ encL l
def encL : List Itm → List UInt8
 | [] => []
 | x :: l => encB x ++ encL l
end
theorem encL_append (l m : List Itm) : encL (l ++ m) = encL l ++ encL m := by
 induction l with
 | nil => rw [List.nil_append, encL, List.nil_append]
 | cons x l ih => rw [List.cons_append, encL, encL, ih, List.append_assoc]
theorem encL_take_succ (l : List Itm) (k : Nat) (h : k < l.length) : encL (l.take (k + 1)) = encL (l.take k) ++ encB l[k] := by
 rw [List.take_succ_eq_append_getElem h, encL_append, encL, encL, List.append_nil]
theorem encB_eq (x : Itm) : encB x = if x.kind = 8 then floatB x.n else if x.kind = 7 ∧ 24 ≤ x.n then [u8 248, u8 x.n] else headB x.kind.toNat (numP x) ++ x.bytes ++ encL x.items := by
 cases x
 rw [encB];rfl
theorem encL_take_le (l : List Itm) (k : Nat) : (encL (l.take k)).length ≤ (encL l).length := by
 have h := encL_append (l.take k) (l.drop k);rw [List.take_append_drop] at h;rw [h]
 simp
mutual
def Kinds : Itm → Prop
 | .mk k _ _ l => (0 ≤ k ∧ k ≤ 8) ∧ KindsL l
def KindsL : List Itm → Prop
 | [] => True
 | x :: l => Kinds x ∧ KindsL l
end
theorem Kinds.kind {x : Itm} (h : Kinds x) : 0 ≤ x.kind ∧ x.kind ≤ 8 := by cases x; rw [Kinds] at h; exact h.1
theorem Kinds.items {x : Itm} (h : Kinds x) : KindsL x.items := by cases x; rw [Kinds] at h; exact h.2
theorem KindsL.get : ∀ {l : List Itm}, KindsL l → ∀ (k : Nat) (hk : k < l.length), Kinds l[k]
 | [], _, k, hk => by simp at hk
 | x :: l, h, 0, _ => by rw [KindsL] at h; exact h.1
 | x :: l, h, k + 1, hk => by rw [KindsL] at h; exact h.2.get k (by simpa using hk)
mutual
def cnt : Itm → Nat
 | .mk _ _ _ l => cntL l + 1
def cntL : List Itm → Nat
 | [] => 0
 | x :: l => cnt x + cntL l
end
theorem cntL_get : ∀ (l : List Itm) (k : Nat) (hk : k < l.length), cnt l[k] ≤ cntL l
 | [], k, hk => by simp at hk
 | x :: l, 0, _ => by rw [cntL]; simp
 | x :: l, k + 1, hk => by
  have := cntL_get l k (by simpa using hk);rw [cntL]
  simp only [List.getElem_cons_succ]
  omega
theorem cnt_items (x : Itm) (k : Nat) (hk : k < x.items.length) : cnt x.items[k] < cnt x := by
 cases x with
 | mk a b c l =>
  have := cntL_get l k hk;rw [cnt]
  simp only [Itm.items]
  omega
theorem and_mod (a k : Nat) (ha : a < 2 ^ 64) (hk : k < 64) : bits .and .u64 (a : Int) ((2 ^ k - 1 : Nat) : Int) = ((a % 2 ^ k : Nat) : Int) := by
 rw [u64_and_nat a (2 ^ k - 1) (by simpa using ha) ?_, Nat.and_two_pow_sub_one_eq_mod];have : 2 ^ k < 2 ^ 64 := Nat.pow_lt_pow_right (by omega) hk
 omega
theorem or_add (a k b : Nat) (hb : b < 2 ^ k) (h : a * 2 ^ k + b < 2 ^ 64) : bits .or .u64 ((a * 2 ^ k : Nat) : Int) (b : Int) = ((a * 2 ^ k + b : Nat) : Int) := by
 rw [u64_or_nat _ _ (by omega) (by omega), Nat.mul_comm, Nat.two_pow_add_eq_or_of_lt hb]
theorem or_low (b k : Nat) (hb : b < 2 ^ k) (hk : k < 64) : bits .or .u64 (b : Int) ((2 ^ k : Nat) : Int) = ((b + 2 ^ k : Nat) : Int) := by
 have h1 : 2 ^ k < 2 ^ 64 := Nat.pow_lt_pow_right (by omega) hk;rw [u64_or_nat _ _ (by omega) (by omega), Nat.or_comm];have := Nat.two_pow_add_eq_or_of_lt hb 1;rw [Nat.mul_one] at this;rw [← this, Nat.add_comm]
theorem pow_mask (k : Nat) (hk : k < 64) : IntKind.u64.wrap (IntKind.u64.wrap ((2 : Int) ^ k) - 1) = ((2 ^ k - 1 : Nat) : Int) := by
 have h1 : 2 ^ k < 2 ^ 64 := Nat.pow_lt_pow_right (by omega) hk;have h2 : 0 < 2 ^ k := Nat.two_pow_pos k;have e : (2 : Int) ^ k = ((2 ^ k : Nat) : Int) := by rw [Int.natCast_pow]; rfl
 simp only [Nat.reducePow] at h1
 have e1 : IntKind.u64.wrap ((2 ^ k : Nat) : Int) = ((2 ^ k : Nat) : Int) := IntWalk.u64_in _ (by omega);rw [e, e1, IntWalk.u64_in _ (by omega)]
 omega
theorem ref_IsNaN (n : Nat) (hn : n < 18446744073709551616) (w : World) :
  Calls Tryz.prog 73 #[.int .u64 (n : Int)] w fun e w' => e = .returned (.bool (isNaN n)) ∧ w = w' := by
 have A1 := and_mod (n / 2 ^ 52) 11 (by omega) (by omega);have A2 := and_mod n 52 (by omega) (by omega)
 have E : Hid (isNaN n = (((n / 2 ^ 52 % 2 ^ 11 : Nat) : Int) == 2047 && ((n % 2 ^ 52 : Nat) : Int) != 0)) := by
  rw [Hid, isNaN, Bool.eq_iff_iff]
  simp only [Bool.and_eq_true, beq_iff_eq, bne_iff_ne]
  omega
 simp only [Nat.reducePow, Nat.reduceSub] at A1 A2 E
 rw [Int.natCast_ediv] at A1;have HN := Hh hn;have HA1 := Hh A1;have HA2 := Hh A2;clear hn A1 A2;go_enter Tryz.func73, Tryz.ntmps73
 go_wp2_with fail
 all_goals
  go_ret
  refine ⟨?_, rfl⟩
  have A1 := HA1.out;have A2 := HA2.out;have E' := E.out;show Ending.returned (Value.bool _) = _
  clear E HA1 HA2 HN
  simp_all
theorem ref_Narrow16 (n : Nat) (hn : n < 18446744073709551616) (w : World) :
  Calls Tryz.prog 74 #[.int .u64 (n : Int), .int .i64 5, .int .i64 10] w
   fun e w' => (∃ v : Nat, e = .returned (.tuple #[.int .u64 (v : Int), .bool (narrow n 5 10).isSome]) ∧ ∀ x, narrow n 5 10 = some x → v = x) ∧ w = w' := by
 have A1 := and_mod (n / 2 ^ 52) 11 (by omega) (by omega);have A2 := and_mod n 52 (by omega) (by omega)
 simp only [Nat.reducePow, Nat.reduceSub] at A1 A2
 rw [Int.natCast_ediv] at A1;obtain ⟨ex, hex⟩ : ∃ ex, n / 4503599627370496 % 2048 = ex := ⟨_, rfl⟩
 obtain ⟨mx, hmx⟩ : ∃ mx, n % 4503599627370496 = mx := ⟨_, rfl⟩
 obtain ⟨sg, hsg⟩ : ∃ sg, n / 9223372036854775808 = sg := ⟨_, rfl⟩
 have hs1 : sg ≤ 1 := by omega
 have E : Hid (narrow n 5 10 = if ex = 2047 then (if mx = 0 then some (sg * 32768 + 31744) else none) else if ex = 0 then (if mx = 0 then some (sg * 32768) else none)
   else if 1023 + 31 ≤ ex + 15 then none else if 1023 < ex + 15 then (if mx % 4398046511104 = 0 then some (sg * 32768 + (ex + 15 - 1023) * 1024 + mx / 4398046511104) else none)
   else if 52 < 43 + (1023 - ex - 15) then none else if (mx + 4503599627370496) % 2 ^ (43 + (1023 - ex - 15)) = 0 then some (sg * 32768 + (mx + 4503599627370496) / 2 ^ (43 + (1023 - ex - 15))) else none) := by
  rw [Hid, narrow]
  simp only [Nat.reducePow, Nat.reduceSub, Nat.reduceAdd, Nat.reduceMul, hex, hmx, hsg]
 rw [hex] at A1;rw [hmx] at A2;have he1 : ex < 2048 := by omega
 have hm1 : mx < 4503599627370496 := by omega
 have A1' : bits .and .u64 ((n : Int) / 4503599627370496) 2047 = (ex : Int) := A1;have A2' : bits .and .u64 (n : Int) 4503599627370495 = (mx : Int) := A2;have K1 : IntKind.i64.wrap (ex : Int) = (ex : Int) := IntWalk.i64_in _ (by omega)
 have KS : Hid (IntKind.u64.wrap ((n : Int) / 9223372036854775808 * 32768) = ((sg * 2 ^ 15 : Nat) : Int)) := by
  rw [Hid, IntWalk.u64_in _ (by omega)]
  omega
 clear hn hex hmx hsg A1 A2;go_enter Tryz.func74, Tryz.ntmps74
 go_wp2_with fail
 ·have h1 : ex = 2047 := by
   have h : ((ex : Int) == 2047) = true := by assumption
   rw [beq_iff_eq] at h
   omega
  go_ret2
  have hor := or_add sg 15 31744 (by omega) (by omega)
  refine ⟨⟨sg * 32768 + 31744, ?_, ?_⟩, rfl⟩
  ·show Ending.returned (Value.tuple #[Value.int .u64 _, Value.bool _]) = _
   rw [KS.out, E.out, if_pos h1];rw [show (31744 : Int) = ((31744 : Nat) : Int) from rfl, hor]
   by_cases h : mx = 0 <;> simp [h]
  ·intro x hx
   rw [E.out, if_pos h1] at hx
   split at hx
   ·injection hx
   ·cases hx
 ·have h1 : ¬ ex = 2047 := by
   have h : ((ex : Int) == 2047) = false := by assumption
   rw [beq_eq_false_iff_ne] at h
   omega
  have h2 : ex = 0 := by
   have h : ((ex : Int) == 0) = true := by assumption
   rw [beq_iff_eq] at h
   omega
  go_ret2
  refine ⟨⟨sg * 32768, ?_, ?_⟩, rfl⟩
  ·show Ending.returned (Value.tuple #[Value.int .u64 _, Value.bool _]) = _
   rw [KS.out, E.out, if_neg h1, if_pos h2]
   by_cases h : mx = 0 <;> simp [h]
  ·intro x hx
   rw [E.out, if_neg h1, if_pos h2] at hx
   split at hx
   ·injection hx
   ·cases hx
 all_goals
  have h1 : ¬ ex = 2047 := by
   have h : ((ex : Int) == 2047) = false := by assumption
   rw [beq_eq_false_iff_ne] at h
   omega
  have h2 : ¬ ex = 0 := by
   have h : ((ex : Int) == 0) = false := by assumption
   rw [beq_eq_false_iff_ne] at h
   omega
  rw [if_neg h1, if_neg h2] at E
 ·have h3 : 1023 + 31 ≤ ex + 15 := by omega
  go_ret2
  refine ⟨⟨0, ?_, ?_⟩, rfl⟩
  ·rw [E.out, if_pos h3];rfl
  ·intro x hx
   rw [E.out, if_pos h3] at hx
   cases hx
 ·have h3 : ¬ 1023 + 31 ≤ ex + 15 := by omega
  have h4 : 1023 < ex + 15 := by omega
  obtain ⟨q, hq⟩ : ∃ q, ex + 15 - 1023 = q := ⟨_, rfl⟩
  have hqi : ((ex : Int) - 1023 + 15) * 1024 = ((q * 1024 : Nat) : Int) := by omega
  have hmi : (mx : Int) / 4398046511104 = ((mx / 4398046511104 : Nat) : Int) := by omega
  have ha := and_mod mx 42 (by omega) (by omega)
  simp only [Nat.reducePow, Nat.reduceSub] at ha
  have ho1 := or_add sg 15 (q * 1024) (by omega) (by omega);have ho2 := or_add (sg * 2 ^ 5 + q) 10 (mx / 4398046511104) (by omega) (by omega);rw [show (sg * 2 ^ 5 + q) * 2 ^ 10 = sg * 2 ^ 15 + q * 1024 by omega] at ho2;go_ret2
  refine ⟨⟨sg * 32768 + q * 1024 + mx / 4398046511104, ?_, ?_⟩, rfl⟩
  ·show Ending.returned (Value.tuple #[Value.int .u64 _, Value.bool _]) = _
   rw [KS.out, E.out, if_neg h3, if_pos h4, hqi, hmi, ho1, ho2];have ha' : bits .and .u64 (mx : Int) 4398046511103 = ((mx % 4398046511104 : Nat) : Int) := ha;rw [ha']
   by_cases h : mx % 4398046511104 = 0
   ·rw [if_pos h, h]; rfl
   ·rw [if_neg h];have : (((mx % 4398046511104 : Nat) : Int) == 0) = false := by rw [beq_eq_false_iff_ne]; omega
    rw [this]; rfl
  ·intro x hx
   rw [E.out, if_neg h3, if_pos h4, hq] at hx
   split at hx
   ·injection hx
   ·cases hx
 ·have h5 : 52 < 43 + (1023 - ex - 15) := by omega
  have h3 : ¬ 1023 + 31 ≤ ex + 15 := by omega
  have h4 : ¬ 1023 < ex + 15 := by omega
  go_ret2
  refine ⟨⟨0, ?_, ?_⟩, rfl⟩
  ·rw [E.out, if_neg h3, if_neg h4, if_pos h5];rfl
  ·intro x hx
   rw [E.out, if_neg h3, if_neg h4, if_pos h5] at hx
   cases hx
 ·have h3 : ¬ 1023 + 31 ≤ ex + 15 := by omega
  have h4 : ¬ 1023 < ex + 15 := by omega
  have h5 : ¬ 52 < 43 + (1023 - ex - 15) := by omega
  obtain ⟨sh, hsh⟩ : ∃ sh, 43 + (1023 - ex - 15) = sh := ⟨_, rfl⟩
  have hsi : (43 - ((ex : Int) - 1023 + 15)).toNat = sh := by omega
  obtain ⟨full, hfull⟩ : ∃ full, mx + 4503599627370496 = full := ⟨_, rfl⟩
  have hof : bits .or .u64 (mx : Int) 4503599627370496 = (full : Int) := by
   have := or_low mx 52 (by omega) (by omega)
   simp only [Nat.reducePow] at this
   rw [← hfull]
   exact this
  have hw : IntKind.u64.wrap (IntKind.u64.wrap ((2 : Int) ^ sh) - 1) = ((2 ^ sh - 1 : Nat) : Int) := pow_mask sh (by omega)
  have hdv : (full : Int) / 2 ^ sh = ((full / 2 ^ sh : Nat) : Int) := by
   rw [Int.natCast_ediv, Int.natCast_pow]; rfl
  have hlt : full / 2 ^ sh < 2 ^ 15 := by
   apply Nat.div_lt_of_lt_mul
   have : 2 ^ 43 ≤ 2 ^ sh := Nat.pow_le_pow_right (by omega) (by omega);have h2 : 2 ^ 43 * 2 ^ 15 ≤ 2 ^ sh * 2 ^ 15 := Nat.mul_le_mul_right _ this
   simp only [Nat.reducePow, Nat.reduceMul] at h2 ⊢
   omega
  have ho := or_add sg 15 (full / 2 ^ sh) hlt (by simp only [Nat.reducePow] at hlt ⊢; omega);have ha := and_mod full sh (by omega) (by omega);go_ret2
  refine ⟨⟨sg * 32768 + full / 2 ^ sh, ?_, ?_⟩, rfl⟩
  ·show Ending.returned (Value.tuple #[Value.int .u64 _, Value.bool _]) = _
   rw [KS.out, E.out, if_neg h3, if_neg h4, if_neg h5, hsi, hof, hw, ha, hdv, ho, hsh, hfull]
   by_cases h : full % 2 ^ sh = 0
   ·rw [if_pos h, h]; rfl
   ·rw [if_neg h];have : (((full % 2 ^ sh : Nat) : Int) == 0) = false := by rw [beq_eq_false_iff_ne]; omega
    rw [this]; rfl
  ·intro x hx
   rw [E.out, if_neg h3, if_neg h4, if_neg h5, hsh, hfull] at hx
   split at hx
   ·injection hx
   ·cases hx
theorem ref_Narrow32 (n : Nat) (hn : n < 18446744073709551616) (w : World) :
  Calls Tryz.prog 74 #[.int .u64 (n : Int), .int .i64 8, .int .i64 23] w
   fun e w' => (∃ v : Nat, e = .returned (.tuple #[.int .u64 (v : Int), .bool (narrow n 8 23).isSome]) ∧ ∀ x, narrow n 8 23 = some x → v = x) ∧ w = w' := by
 have A1 := and_mod (n / 2 ^ 52) 11 (by omega) (by omega);have A2 := and_mod n 52 (by omega) (by omega)
 simp only [Nat.reducePow, Nat.reduceSub] at A1 A2
 rw [Int.natCast_ediv] at A1;obtain ⟨ex, hex⟩ : ∃ ex, n / 4503599627370496 % 2048 = ex := ⟨_, rfl⟩
 obtain ⟨mx, hmx⟩ : ∃ mx, n % 4503599627370496 = mx := ⟨_, rfl⟩
 obtain ⟨sg, hsg⟩ : ∃ sg, n / 9223372036854775808 = sg := ⟨_, rfl⟩
 have hs1 : sg ≤ 1 := by omega
 have E : Hid (narrow n 8 23 = if ex = 2047 then (if mx = 0 then some (sg * 2147483648 + 2139095040) else none) else if ex = 0 then (if mx = 0 then some (sg * 2147483648) else none)
   else if 1023 + 255 ≤ ex + 127 then none else if 1023 < ex + 127 then (if mx % 536870912 = 0 then some (sg * 2147483648 + (ex + 127 - 1023) * 8388608 + mx / 536870912) else none)
   else if 52 < 30 + (1023 - ex - 127) then none else if (mx + 4503599627370496) % 2 ^ (30 + (1023 - ex - 127)) = 0 then some (sg * 2147483648 + (mx + 4503599627370496) / 2 ^ (30 + (1023 - ex - 127))) else none) := by
  rw [Hid, narrow]
  simp only [Nat.reducePow, Nat.reduceSub, Nat.reduceAdd, Nat.reduceMul, hex, hmx, hsg]
 rw [hex] at A1;rw [hmx] at A2;have he1 : ex < 2048 := by omega
 have hm1 : mx < 4503599627370496 := by omega
 have A1' : bits .and .u64 ((n : Int) / 4503599627370496) 2047 = (ex : Int) := A1;have A2' : bits .and .u64 (n : Int) 4503599627370495 = (mx : Int) := A2;have K1 : IntKind.i64.wrap (ex : Int) = (ex : Int) := IntWalk.i64_in _ (by omega)
 have KS : Hid (IntKind.u64.wrap ((n : Int) / 9223372036854775808 * 2147483648) = ((sg * 2 ^ 31 : Nat) : Int)) := by
  rw [Hid, IntWalk.u64_in _ (by omega)]
  omega
 clear hn hex hmx hsg A1 A2;go_enter Tryz.func74, Tryz.ntmps74
 go_wp2_with fail
 ·have h1 : ex = 2047 := by
   have h : ((ex : Int) == 2047) = true := by assumption
   rw [beq_iff_eq] at h
   omega
  go_ret2
  have hor := or_add sg 31 2139095040 (by omega) (by omega)
  refine ⟨⟨sg * 2147483648 + 2139095040, ?_, ?_⟩, rfl⟩
  ·show Ending.returned (Value.tuple #[Value.int .u64 _, Value.bool _]) = _
   rw [KS.out, E.out, if_pos h1];rw [show (2139095040 : Int) = ((2139095040 : Nat) : Int) from rfl, hor]
   by_cases h : mx = 0 <;> simp [h]
  ·intro x hx
   rw [E.out, if_pos h1] at hx
   split at hx
   ·injection hx
   ·cases hx
 ·have h1 : ¬ ex = 2047 := by
   have h : ((ex : Int) == 2047) = false := by assumption
   rw [beq_eq_false_iff_ne] at h
   omega
  have h2 : ex = 0 := by
   have h : ((ex : Int) == 0) = true := by assumption
   rw [beq_iff_eq] at h
   omega
  go_ret2
  refine ⟨⟨sg * 2147483648, ?_, ?_⟩, rfl⟩
  ·show Ending.returned (Value.tuple #[Value.int .u64 _, Value.bool _]) = _
   rw [KS.out, E.out, if_neg h1, if_pos h2]
   by_cases h : mx = 0 <;> simp [h]
  ·intro x hx
   rw [E.out, if_neg h1, if_pos h2] at hx
   split at hx
   ·injection hx
   ·cases hx
 all_goals
  have h1 : ¬ ex = 2047 := by
   have h : ((ex : Int) == 2047) = false := by assumption
   rw [beq_eq_false_iff_ne] at h
   omega
  have h2 : ¬ ex = 0 := by
   have h : ((ex : Int) == 0) = false := by assumption
   rw [beq_eq_false_iff_ne] at h
   omega
  rw [if_neg h1, if_neg h2] at E
 ·have h3 : 1023 + 255 ≤ ex + 127 := by omega
  go_ret2
  refine ⟨⟨0, ?_, ?_⟩, rfl⟩
  ·rw [E.out, if_pos h3];rfl
  ·intro x hx
   rw [E.out, if_pos h3] at hx
   cases hx
 ·have h3 : ¬ 1023 + 255 ≤ ex + 127 := by omega
  have h4 : 1023 < ex + 127 := by omega
  obtain ⟨q, hq⟩ : ∃ q, ex + 127 - 1023 = q := ⟨_, rfl⟩
  have hqi : ((ex : Int) - 1023 + 127) * 8388608 = ((q * 8388608 : Nat) : Int) := by omega
  have hmi : (mx : Int) / 536870912 = ((mx / 536870912 : Nat) : Int) := by omega
  have ha := and_mod mx 29 (by omega) (by omega)
  simp only [Nat.reducePow, Nat.reduceSub] at ha
  have ho1 := or_add sg 31 (q * 8388608) (by omega) (by omega);have ho2 := or_add (sg * 2 ^ 8 + q) 23 (mx / 536870912) (by omega) (by omega);rw [show (sg * 2 ^ 8 + q) * 2 ^ 23 = sg * 2 ^ 31 + q * 8388608 by omega] at ho2;go_ret2
  refine ⟨⟨sg * 2147483648 + q * 8388608 + mx / 536870912, ?_, ?_⟩, rfl⟩
  ·show Ending.returned (Value.tuple #[Value.int .u64 _, Value.bool _]) = _
   rw [KS.out, E.out, if_neg h3, if_pos h4, hqi, hmi, ho1, ho2];have ha' : bits .and .u64 (mx : Int) 536870911 = ((mx % 536870912 : Nat) : Int) := ha;rw [ha']
   by_cases h : mx % 536870912 = 0
   ·rw [if_pos h, h]; rfl
   ·rw [if_neg h];have : (((mx % 536870912 : Nat) : Int) == 0) = false := by rw [beq_eq_false_iff_ne]; omega
    rw [this]; rfl
  ·intro x hx
   rw [E.out, if_neg h3, if_pos h4, hq] at hx
   split at hx
   ·injection hx
   ·cases hx
 ·have h5 : 52 < 30 + (1023 - ex - 127) := by omega
  have h3 : ¬ 1023 + 255 ≤ ex + 127 := by omega
  have h4 : ¬ 1023 < ex + 127 := by omega
  go_ret2
  refine ⟨⟨0, ?_, ?_⟩, rfl⟩
  ·rw [E.out, if_neg h3, if_neg h4, if_pos h5];rfl
  ·intro x hx
   rw [E.out, if_neg h3, if_neg h4, if_pos h5] at hx
   cases hx
 ·have h3 : ¬ 1023 + 255 ≤ ex + 127 := by omega
  have h4 : ¬ 1023 < ex + 127 := by omega
  have h5 : ¬ 52 < 30 + (1023 - ex - 127) := by omega
  obtain ⟨sh, hsh⟩ : ∃ sh, 30 + (1023 - ex - 127) = sh := ⟨_, rfl⟩
  have hsi : (30 - ((ex : Int) - 1023 + 127)).toNat = sh := by omega
  obtain ⟨full, hfull⟩ : ∃ full, mx + 4503599627370496 = full := ⟨_, rfl⟩
  have hof : bits .or .u64 (mx : Int) 4503599627370496 = (full : Int) := by
   have := or_low mx 52 (by omega) (by omega)
   simp only [Nat.reducePow] at this
   rw [← hfull]
   exact this
  have hw : IntKind.u64.wrap (IntKind.u64.wrap ((2 : Int) ^ sh) - 1) = ((2 ^ sh - 1 : Nat) : Int) := pow_mask sh (by omega)
  have hdv : (full : Int) / 2 ^ sh = ((full / 2 ^ sh : Nat) : Int) := by
   rw [Int.natCast_ediv, Int.natCast_pow]; rfl
  have hlt : full / 2 ^ sh < 2 ^ 31 := by
   apply Nat.div_lt_of_lt_mul
   have : 2 ^ 30 ≤ 2 ^ sh := Nat.pow_le_pow_right (by omega) (by omega);have h2 : 2 ^ 30 * 2 ^ 31 ≤ 2 ^ sh * 2 ^ 31 := Nat.mul_le_mul_right _ this
   simp only [Nat.reducePow, Nat.reduceMul] at h2 ⊢
   omega
  have ho := or_add sg 31 (full / 2 ^ sh) hlt (by simp only [Nat.reducePow] at hlt ⊢; omega);have ha := and_mod full sh (by omega) (by omega);go_ret2
  refine ⟨⟨sg * 2147483648 + full / 2 ^ sh, ?_, ?_⟩, rfl⟩
  ·show Ending.returned (Value.tuple #[Value.int .u64 _, Value.bool _]) = _
   rw [KS.out, E.out, if_neg h3, if_neg h4, if_neg h5, hsi, hof, hw, ha, hdv, ho, hsh, hfull]
   by_cases h : full % 2 ^ sh = 0
   ·rw [if_pos h, h]; rfl
   ·rw [if_neg h];have : (((full % 2 ^ sh : Nat) : Int) == 0) = false := by rw [beq_eq_false_iff_ne]; omega
    rw [this]; rfl
  ·intro x hx
   rw [E.out, if_neg h3, if_neg h4, if_neg h5, hsh, hfull] at hx
   split at hx
   ·injection hx
   ·cases hx
theorem ref_float (n : Nat) (hn : n < 18446744073709551616) (w : World) :
  Calls Tryz.prog 55 #[.int .u64 (n : Int)] w fun e w' => ∃ r, e = .returned r ∧ Fresh w (floatB n) r w' := by
 have I := Hh (ref_IsNaN n hn w);have N1 := Hh (ref_Narrow16 n hn w);have N2 := Hh (ref_Narrow32 n hn w);have HN := Hh hn;clear hn
 cases hN : isNaN n with
 | true =>
  rw [hN] at I;have E : Hid (floatB n = [u8 249, u8 126, u8 0]) := by rw [Hid, floatB, if_pos hN]
  clear hN;go_enter Tryz.func55, Tryz.ntmps55
  go_wp2_with fail
  refine I.out.mono ?_
  rintro e w' ⟨rfl, rfl⟩
  go_wp2_with fail
  go_ret
  refine ⟨_, rfl, ?_⟩
  rw [E.out]
  exact Fresh.lit w _ _ 3 rfl (by simp) rfl
 | false =>
  rw [hN] at I
  cases h1 : narrow n 5 10 with
  | some v =>
   have E : Hid (floatB n = [u8 249, u8 (v / 256), u8 v]) := by rw [Hid, floatB, if_neg (by simp [hN]), h1]
   rw [h1] at N1;clear hN h1;go_enter Tryz.func55, Tryz.ntmps55
   go_wp2_with fail
   refine I.out.mono ?_
   rintro e w' ⟨rfl, rfl⟩
   go_wp2_with fail
   refine N1.out.mono ?_
   rintro e w' ⟨⟨v', rfl, hv⟩, rfl⟩
   obtain rfl := hv v rfl;clear hv;go_wp2_with fail
   go_ret
   refine ⟨_, rfl, ?_⟩
   rw [E.out]
   refine Fresh.lit w _ _ 3 rfl (by simp) ?_
   simp only [List.map_cons, List.map_nil, byteV_u8]
   simp
  | none =>
   rw [h1] at N1
   cases h2 : narrow n 8 23 with
   | some v =>
    have E : Hid (floatB n = [u8 250, u8 (v / 16777216), u8 (v / 65536), u8 (v / 256), u8 v]) := by rw [Hid, floatB, if_neg (by simp [hN]), h1, h2]
    rw [h2] at N2;clear hN h1 h2;go_enter Tryz.func55, Tryz.ntmps55
    go_wp2_with fail
    refine I.out.mono ?_
    rintro e w' ⟨rfl, rfl⟩
    go_wp2_with fail
    refine N1.out.mono ?_
    rintro e w' ⟨⟨v', rfl, _⟩, rfl⟩
    go_wp2_with fail
    refine N2.out.mono ?_
    rintro e w' ⟨⟨v'', rfl, hv⟩, rfl⟩
    obtain rfl := hv v rfl;clear hv;go_wp2_with fail
    go_ret
    refine ⟨_, rfl, ?_⟩
    rw [E.out]
    refine Fresh.lit w _ _ 5 rfl (by simp) ?_
    simp only [List.map_cons, List.map_nil, byteV_u8]
    simp
   | none =>
    have E : Hid (floatB n = u8 251 :: tailB n 8 8) := by
     rw [Hid, floatB, if_neg (by simp [hN]), h1, h2]
     simp [tailB, be8, List.range_succ]
    rw [h2] at N2;clear hN h1 h2;have hO : OwnB (w.alloc (.cells #[.int .u8 251] 5)) w.heap.size (.slice (some ⟨w.heap.size, 0, none⟩) 1 1) [u8 251] := OwnB.lit w _ _ _ 1 rfl rfl (Nat.le_refl _) (by simp);have hb2 := below_box w (.cells #[.int .u8 251] 5);go_enter Tryz.func55, Tryz.ntmps55
    go_wp2_with fail
    refine I.out.mono ?_
    rintro e w' ⟨rfl, rfl⟩
    go_wp2_with fail
    refine N1.out.mono ?_
    rintro e w' ⟨⟨v', rfl, _⟩, rfl⟩
    go_wp2_with fail
    refine N2.out.mono ?_
    rintro e w' ⟨⟨v'', rfl, _⟩, rfl⟩
    go_wp2_with fail
    go_loopw [7, 8] (fun v7 v8 wr => ∃ (j : Nat) (VA : Option Addr) (vc : Nat), j ≤ 8 ∧ v8 = .int .i64 (7 - (j : Int)) ∧ v7 = .slice VA (1 + j) vc ∧ OwnB wr w.heap.size (.slice VA (1 + j) vc) (u8 251 :: tailB n 8 j) ∧ Below w.heap.size w wr) (fun _ v8 _ => (intOf v8 + 1).toNat)
    case atStart => exact ⟨0, _, _, by omega, by go_num, rfl, hO, hb2⟩
    case round =>
     obtain ⟨j, VA, vc, hj, rfl, rfl, hOr, hbr⟩ := hrel
     by_cases hlt : j < 8
     ·have hge : (0 : Int) ≤ 7 - (j : Int) := by omega
      have hcell : (#[.int .u8 ((n : Int) / 2 ^ (8 * (7 - j)) % 256)] : Array Value).toList = [tailF n 8 j].map byteV := by
       simp only [List.map_cons, List.map_nil, tailF, byteV_u8]
       rw [show 8 - 1 - j = 7 - j by omega]
       simp
      have hb3 := hbr.alloc hbr.size (.cells #[.int .u8 ((n : Int) / 2 ^ (8 * (7 - j)) % 256)] 5);have hO3 := hOr.alloc (.cells #[.int .u8 ((n : Int) / 2 ^ (8 * (7 - j)) % 256)] 5);have HC := Hh hcell;clear hcell;go_wp2_with (at_builtin; refine stop_in ?_)
      refine wpList_app_bytes rfl (.tmp 47) (.tmp 54) rfl w.heap.size _ _ rfl hO3 _ 1 _ [tailF n 8 j] rfl rfl (Src.new _ _ _ _ rfl _ HC.out) (by simp [tailB_len]; omega) hb3.size fun v' w7 hO7 hg7 hat7 => ?_
      have hl7 : (u8 251 :: tailB n 8 j) ++ [tailF n 8 j] = u8 251 :: tailB n 8 (j + 1) := by rw [tailB_succ]; rfl
      obtain ⟨VA', vc', rfl, _⟩ := hO7.form;have hll : ((u8 251 :: tailB n 8 j) ++ [tailF n 8 j]).length = 1 + (j + 1) := by simp [tailB_len]; omega
      rw [hll] at hO7;rw [hll];rw [hl7] at hO7;have hb7 := hb3.grown hg7 hb3.size (fun q hq => (hO3.lt q hq).1);clear hl7 hll hg7 hat7 hO3 hOr hb3 hbr;go_wp2_with fail
      go_roundw
      case rel => exact ⟨j + 1, VA', vc', by omega, by rw [show ((j + 1 : Nat) : Int) = (j : Int) + 1 by omega, show (7 : Int) - ((j : Int) + 1) = 7 - j - 1 by omega], rfl, hO7, hb7⟩
      case measure => simp [intOf]; omega
     ·have hjs : j = 8 := by omega
      subst hjs;go_wp2_with fail
      go_ret
      rw [E.out]
      exact ⟨_, rfl, hOr, hbr⟩
def notNumber : Nat := 9221120237041090560
def isPlain (x : Itm) : Bool := x.kind == 0 || x.kind == 1 || x.kind == 2 || x.kind == 3 || x.kind == 7 || x.kind == 8
def okPlain (x : Itm) : Bool :=
 if x.kind = 0 ∨ x.kind = 1 then x.bytes.isEmpty && x.items.isEmpty
 else if x.kind = 2 then x.n == 0 && x.items.isEmpty
 else if x.kind = 3 then x.n == 0 && x.items.isEmpty && Lib.validD x.bytes
 else if x.kind = 7 then x.bytes.isEmpty && x.items.isEmpty && (decide (x.n < 24) || decide (32 ≤ x.n) && decide (x.n < 256))
 else if x.kind = 8 then x.bytes.isEmpty && x.items.isEmpty && (!isNaN x.n || x.n == notNumber)
 else false
def spendP (x : Itm) : Nat :=
 if x.kind = 8 then (floatB x.n).length else if x.kind = 7 then (if 24 ≤ x.n then 2 else 1) else (headB x.kind.toNat (numP x)).length + x.bytes.length
def ascP : List Itm → Bool
 | a :: b :: c :: l => decide (Lib.compareBytes (encB a) (encB c) < 0) && ascP (c :: l)
 | _ => true
theorem ascP_drop (l : List Itm) (j : Nat) (h2 : 2 ≤ j) (h : j < l.length) :
  ascP (l.drop (j - 2)) = (decide (Lib.compareBytes (encB (l[j - 2]'(by omega))) (encB l[j]) < 0) && ascP (l.drop j)) := by
 have e1 : l.drop (j - 2) = l[j - 2]'(by omega) :: l.drop (j - 1) := by
  rw [List.drop_eq_getElem_cons (by omega)];rw [show j - 2 + 1 = j - 1 by omega]
 have e2 : l.drop (j - 1) = l[j - 1]'(by omega) :: l.drop j := by
  rw [List.drop_eq_getElem_cons (by omega)];rw [show j - 1 + 1 = j by omega]
 have e3 : l.drop j = l[j] :: l.drop (j + 1) := List.drop_eq_getElem_cons h;rw [e1, e2, e3, ascP]
theorem ascP_end (l : List Itm) (j : Nat) (h2 : 2 ≤ j) (h : l.length ≤ j) : ascP (l.drop (j - 2)) = true := by
 have hl : (l.drop (j - 2)).length ≤ 2 := by rw [List.length_drop]; omega
 match l.drop (j - 2), hl with
 | [], _ => rfl
 | [_], _ => rfl
 | [_, _], _ => rfl
 | _ :: _ :: _ :: _, h => simp at h
def frameOk (x : Itm) (lv : Nat) : Bool :=
 decide (4 ≤ x.kind ∧ x.kind ≤ 6 ∧ lv < 8 ∧ x.bytes.length = 0 ∧ (x.kind = 6 → x.items.length = 1) ∧ (x.kind ≠ 6 → x.n = 0) ∧ (x.kind = 5 → x.items.length % 2 = 0))
mutual
def chk : Itm → Nat → Nat → Nat → Option (Nat × Nat)
 | .mk k n bs l, lv, i, s =>
  if 256 < i + 1 ∨ 4096 < bs.length ∨ 256 < l.length then none
  else if isPlain (.mk k n bs l) = true then (if okPlain (.mk k n bs l) = true ∧ s + spendP (.mk k n bs l) ≤ 4096 then some (i + 1, s + spendP (.mk k n bs l)) else none)
  else if frameOk (.mk k n bs l) lv = false then none
  else if 4096 < s + spendP (.mk k n bs l) then none
  else match chkL l (lv + 1) (i + 1) (s + spendP (.mk k n bs l)) with
   | none => none
   | some p => if k = 5 ∧ ascP l = false then none else some p
def chkL : List Itm → Nat → Nat → Nat → Option (Nat × Nat)
 | [], _, i, s => some (i, s)
 | x :: l, lv, i, s => match chk x lv i s with
  | none => none
  | some p => chkL l lv p.1 p.2
end
theorem chk_eq (x : Itm) (lv i s : Nat) : chk x lv i s =
  if 256 < i + 1 ∨ 4096 < x.bytes.length ∨ 256 < x.items.length then none
  else if isPlain x = true then (if okPlain x = true ∧ s + spendP x ≤ 4096 then some (i + 1, s + spendP x) else none)
  else if frameOk x lv = false then none
  else if 4096 < s + spendP x then none
  else match chkL x.items (lv + 1) (i + 1) (s + spendP x) with
   | none => none
   | some p => if x.kind = 5 ∧ ascP x.items = false then none else some p := by
 cases x
 rw [chk];rfl
theorem isPlain_iff (x : Itm) : isPlain x = true ↔ x.kind = 0 ∨ x.kind = 1 ∨ x.kind = 2 ∨ x.kind = 3 ∨ x.kind = 7 ∨ x.kind = 8 := by
 simp [isPlain]
 omega
theorem spend_enc (x : Itm) (h : x.items = []) (h8 : x.kind = 8 ∨ x.kind = 7 → x.bytes = []) : spendP x = (encB x).length := by
 rw [encB_eq, spendP]
 by_cases h1 : x.kind = 8
 ·rw [if_pos h1, if_pos h1]
 rw [if_neg h1, if_neg h1]
 by_cases h2 : x.kind = 7
 ·rw [if_pos h2]
  by_cases h3 : 24 ≤ x.n
  ·rw [if_pos h3, if_pos ⟨h2, h3⟩]; rfl
  ·have hn : numP x = x.n := by simp [numP, h2]
   rw [if_neg h3, if_neg (by omega), h8 (.inr h2), h, encL, hn, headB, if_pos (by omega)];rfl
 ·rw [if_neg h2, if_neg (by omega), h, encL]
  simp
theorem spend_mid (x : Itm) (h8 : x.kind ≠ 8) (h7 : x.kind ≠ 7) : spendP x = (headB x.kind.toNat (numP x)).length + x.bytes.length := by
 rw [spendP, if_neg h8, if_neg h7]
theorem frameOk_spec {x : Itm} {lv : Nat} (h : frameOk x lv = true) : 4 ≤ x.kind ∧ x.kind ≤ 6 ∧ lv < 8 ∧ x.bytes.length = 0 ∧ (x.kind = 6 → x.items.length = 1) ∧ (x.kind ≠ 6 → x.n = 0) ∧ (x.kind = 5 → x.items.length % 2 = 0) :=
 of_decide_eq_true h
theorem okPlain_items {x : Itm} (hp : isPlain x = true) (ho : okPlain x = true) : x.items = [] ∧ (x.kind = 8 ∨ x.kind = 7 → x.bytes = []) := by
 rw [isPlain_iff] at hp
 unfold okPlain at ho
 rcases hp with h | h | h | h | h | h <;> simp [h] at ho ⊢ <;> simp [ho]
mutual
theorem chk_spec : ∀ (x : Itm) (lv i s : Nat) (p : Nat × Nat), chk x lv i s = some p → Kinds x ∧ p = (i + cnt x, s + (encB x).length) ∧ p.1 ≤ 256 ∧ p.2 ≤ 4096
 | .mk k n bs l, lv, i, s, p, h => by
  rw [chk] at h
  split at h
  ·cases h
  rename_i h0
  split at h
  ·rename_i hp
   split at h
   ·rename_i ho
    obtain ⟨hi, hb⟩ := okPlain_items hp ho.1;have hk := (isPlain_iff _).1 hp;have hs := spend_enc (.mk k n bs l) hi hb
    simp only [Itm.items, Itm.kind] at hi hk
    subst hi;injection h with h
    subst h;rw [← hs]
    refine ⟨?_, ?_, ?_, ?_⟩
    ·rw [Kinds, KindsL]; exact ⟨by omega, trivial⟩
    ·rw [cnt, cntL]
    ·simp only; omega
    ·exact ho.2
   ·cases h
  rename_i hp
  split at h
  ·cases h
  rename_i hf
  split at h
  ·cases h
  rename_i h4
  have hf' := frameOk_spec (by simpa using hf)
  simp only [Itm.kind, Itm.bytes, Itm.items, List.length_eq_zero_iff] at hf'
  split at h
  ·cases h
  rename_i q hq
  split at h
  ·cases h
  injection h with h
  subst h;obtain ⟨hk, hq', h1, h2⟩ := chkL_spec l _ _ _ _ hq (by omega) (by omega);have hsp := spend_mid (.mk k n bs l) (by simp only [Itm.kind]; omega) (by simp only [Itm.kind]; omega)
  simp only [Itm.kind, Itm.bytes] at hsp
  rw [hf'.2.2.2.1] at hsp
  refine ⟨by rw [Kinds]; exact ⟨by omega, hk⟩, ?_, h1, h2⟩
  rw [hq', cnt, encB, if_neg (by omega), if_neg (by omega), hf'.2.2.2.1, hsp]
  simp only [List.length_append, List.length_nil, Prod.mk.injEq]
  omega
theorem chkL_spec : ∀ (l : List Itm) (lv i s : Nat) (p : Nat × Nat), chkL l lv i s = some p → i ≤ 256 → s ≤ 4096 → KindsL l ∧ p = (i + cntL l, s + (encL l).length) ∧ p.1 ≤ 256 ∧ p.2 ≤ 4096
 | [], lv, i, s, p, h, hi, hs => by
  rw [chkL] at h;injection h with h
  subst h;rw [KindsL, cntL, encL]
  exact ⟨trivial, rfl, hi, hs⟩
 | x :: l, lv, i, s, p, h, hi, hs => by
  rw [chkL] at h
  split at h
  ·cases h
  rename_i q hq
  obtain ⟨hk, hq', h1, h2⟩ := chk_spec x _ _ _ _ hq;obtain ⟨hkl, hp, h3, h4⟩ := chkL_spec l _ _ _ _ h h1 h2
  refine ⟨by rw [KindsL]; exact ⟨hk, hkl⟩, ?_, h3, h4⟩
  rw [hp, hq', cntL, encL]
  simp
  omega
end
def validP (x : Itm) : Bool := (chk x 0 0 0).isSome
theorem validP_spec {x : Itm} (h : validP x = true) : Kinds x ∧ cnt x ≤ 256 ∧ (encB x).length ≤ 4096 := by
 obtain ⟨p, hp⟩ := Option.isSome_iff_exists.1 h;obtain ⟨hk, he, h1, h2⟩ := chk_spec _ _ _ _ _ hp;subst he
 simp only at h1 h2
 exact ⟨hk, by omega, by omega⟩
mutual
def Modest : Itm → Prop
 | .mk _ _ bs l => bs.length ≤ 1099511627776 ∧ l.length ≤ 1099511627776 ∧ ModestL l
def ModestL : List Itm → Prop
 | [] => True
 | x :: l => Modest x ∧ ModestL l
end
theorem Modest.parts {x : Itm} (h : Modest x) : x.bytes.length ≤ 1099511627776 ∧ x.items.length ≤ 1099511627776 ∧ ModestL x.items := by cases x; rw [Modest] at h; exact h
theorem ModestL.get : ∀ {l : List Itm}, ModestL l → ∀ (k : Nat) (hk : k < l.length), Modest l[k]
 | [], _, k, hk => by simp at hk
 | x :: l, h, 0, hk => by rw [ModestL] at h; exact h.1
 | x :: l, h, k + 1, hk => by rw [ModestL] at h; exact h.2.get k (by simpa using hk)
def findL (key : List UInt8) : List Itm → Option Itm
 | a :: b :: r => if encB a = key then some b else findL key r
 | _ => none
def findP (m key : Itm) : Option Itm := if m.kind = 5 ∧ validP m = true ∧ validP key = true then findL (encB key) m.items else none
abbrev zeroItm : Itm := .mk 0 0 [] []
theorem validP_even {x : Itm} (h : validP x = true) (h5 : x.kind = 5) : x.items.length % 2 = 0 := by
 obtain ⟨p, hp⟩ := Option.isSome_iff_exists.1 h;rw [chk_eq] at hp
 split at hp
 ·cases hp
 split at hp
 ·rename_i h1
  rw [isPlain_iff] at h1
  omega
 split at hp
 ·cases hp
 ·rename_i h1
  exact (frameOk_spec (by simpa using h1)).2.2.2.2.2.2 h5
theorem validP_items {x : Itm} (h : validP x = true) : x.bytes.length ≤ 4096 ∧ x.items.length ≤ 256 ∧ KindsL x.items ∧ (encL x.items).length ≤ 4096 := by
 obtain ⟨hk, hc, he⟩ := validP_spec h;obtain ⟨p, hp⟩ := Option.isSome_iff_exists.1 h;rw [chk_eq] at hp
 split at hp
 ·cases hp
 rename_i h0
 refine ⟨by omega, by omega, hk.items, ?_⟩
 split at hp
 ·rename_i h1
  split at hp
  ·rename_i h2
   rw [(okPlain_items h1 h2.1).1]
   simp [encL]
  ·cases hp
 split at hp
 ·cases hp
 rename_i h1
 have := frameOk_spec (by simpa using h1);rw [encB_eq, if_neg (by omega), if_neg (by omega)] at he
 simp only [List.length_append] at he
 omega
theorem encL_get (l : List Itm) (k : Nat) (hk : k < l.length) : (encB l[k]).length ≤ (encL l).length := by
 have a1 := encL_take_succ l k hk;have a2 := encL_take_le l (k + 1);rw [a1] at a2
 simp only [List.length_append] at a2
 omega
mutual
theorem chk_modest : ∀ (x : Itm) (lv i s : Nat) (p : Nat × Nat), chk x lv i s = some p → Modest x
 | .mk k n bs l, lv, i, s, p, h => by
  rw [chk] at h
  split at h
  ·cases h
  rename_i h0
  rw [Modest]
  refine ⟨by omega, by omega, ?_⟩
  split at h
  ·rename_i h1
   split at h
   ·rename_i h2
    rw [show l = [] from (okPlain_items h1 h2.1).1, ModestL];trivial
   ·cases h
  split at h
  ·cases h
  split at h
  ·cases h
  split at h
  ·cases h
  ·rename_i q hq
   exact chkL_modest l _ _ _ _ hq
theorem chkL_modest : ∀ (l : List Itm) (lv i s : Nat) (p : Nat × Nat), chkL l lv i s = some p → ModestL l
 | [], _, _, _, _, _ => by rw [ModestL]; trivial
 | x :: l, lv, i, s, p, h => by
  rw [chkL] at h
  split at h
  ·cases h
  ·rename_i q hq
   rw [ModestL]
   exact ⟨chk_modest x _ _ _ _ hq, chkL_modest l _ _ _ _ h⟩
end
theorem validP_modest {x : Itm} (h : validP x = true) : Modest x := by
 obtain ⟨p, hp⟩ := Option.isSome_iff_exists.1 h
 exact chk_modest _ _ _ _ _ hp
theorem findL_step (key : List UInt8) (l : List Itm) (k : Nat) (hk : k + 1 < l.length) : findL key (l.drop k) = if encB l[k] = key then some l[k + 1] else findL key (l.drop (k + 2)) := by
 rw [List.drop_eq_getElem_cons (show k < l.length by omega), List.drop_eq_getElem_cons hk, findL]
def intP (n : Int) : Itm := if n < 0 then .mk 1 (-1 - n).toNat [] [] else .mk 0 n.toNat [] []
def numberP (x : Itm) : Bool := (x.kind == 0 || x.kind == 1) && decide (x.n ≤ 65535)
def permP (a b : Itm) : Bool :=
 if a.kind = 3 then true else if numberP a = false then false else if a.kind = 1 then true
 else if a.n = 1 then numberP b && (b.kind == 1 || b.n != 0) else if a.n = 4 ∨ a.n = 5 ∨ a.n = 6 ∨ a.n = 12 then b.kind == 2 else true
structure Ad where
 ba : Option Addr
 bc : Nat
 ia : Option Addr
 ic : Nat
def permL : List Itm → Bool
 | a :: b :: r => permP a b && permL r
 | _ => true
def Tabs (H : Snap) : Prop := ∀ w, Holds w H → Lib.Utf8Tabs 0 1 w
theorem Tabs.mono {H K : Snap} (h : Tabs H) (hl : H.le K) : Tabs K := fun w hw => h w (hw.mono hl)
def nodeOk (x : Itm) (lv : Nat) : Bool := if isPlain x = true then okPlain x else frameOk x lv
mutual
def Good : Itm → Nat → Prop
 | .mk k n bs l, lv => nodeOk (.mk k n bs l) lv = true ∧ GoodL l (lv + 1) ∧ (k = 5 → ascP l = true)
def GoodL : List Itm → Nat → Prop
 | [], _ => True
 | x :: l, lv => Good x lv ∧ GoodL l lv
end
theorem Good.node {x : Itm} {lv : Nat} (h : Good x lv) : nodeOk x lv = true := by cases x; rw [Good] at h; exact h.1
theorem Good.items {x : Itm} {lv : Nat} (h : Good x lv) : GoodL x.items (lv + 1) := by cases x; rw [Good] at h; exact h.2.1
theorem Good.asc {x : Itm} {lv : Nat} (h : Good x lv) (h5 : x.kind = 5) : ascP x.items = true := by cases x; rw [Good] at h; exact h.2.2 h5
theorem Good.of {x : Itm} {lv : Nat} (h1 : nodeOk x lv = true) (h2 : GoodL x.items (lv + 1)) (h3 : x.kind = 5 → ascP x.items = true) : Good x lv := by cases x; rw [Good]; exact ⟨h1, h2, h3⟩
theorem GoodL.get : ∀ {l : List Itm} {lv : Nat}, GoodL l lv → ∀ x ∈ l, Good x lv
 | [], _, _, x, hx => by cases hx
 | y :: l, lv, h, x, hx => by
  rw [GoodL] at h
  rcases List.mem_cons.1 hx with rfl | hx
  ·exact h.1
  ·exact h.2.get x hx
theorem GoodL.of : ∀ {l : List Itm} {lv : Nat}, (∀ x ∈ l, Good x lv) → GoodL l lv
 | [], _, _ => by rw [GoodL]; trivial
 | y :: l, lv, h => by
  rw [GoodL]
  exact ⟨h y (by simp), GoodL.of fun x hx => h x (by simp [hx])⟩
theorem nodeOk_cases {x : Itm} {lv : Nat} (h : nodeOk x lv = true) : (isPlain x = true ∧ okPlain x = true) ∨ (isPlain x = false ∧ frameOk x lv = true) := by
 unfold nodeOk at h
 cases hp : isPlain x with
 | true => rw [if_pos hp] at h; exact .inl ⟨rfl, h⟩
 | false => rw [if_neg (by simp [hp])] at h; exact .inr ⟨rfl, h⟩
theorem nodeOk_kind {x : Itm} {lv : Nat} (h : nodeOk x lv = true) : 0 ≤ x.kind ∧ x.kind ≤ 8 := by
 rcases nodeOk_cases h with ⟨h1, _⟩ | ⟨_, h1⟩
 ·rw [isPlain_iff] at h1; omega
 ·have := frameOk_spec h1; omega
theorem frameOk_le {x : Itm} {lv lv' : Nat} (h : frameOk x lv = true) (hl : lv' ≤ lv) : frameOk x lv' = true := by
 obtain ⟨h1, h2, h3, h4⟩ := frameOk_spec h
 exact decide_eq_true ⟨h1, h2, by omega, h4⟩
theorem nodeOk_le {x : Itm} {lv lv' : Nat} (h : nodeOk x lv = true) (hl : lv' ≤ lv) : nodeOk x lv' = true := by
 rcases nodeOk_cases h with ⟨h1, h2⟩ | ⟨h1, h2⟩
 ·rw [nodeOk, if_pos h1]; exact h2
 ·rw [nodeOk, if_neg (by simp [h1])]; exact frameOk_le h2 hl
mutual
theorem Good.le : ∀ {x : Itm} {lv lv' : Nat}, Good x lv → lv' ≤ lv → Good x lv'
 | .mk k n bs l, lv, lv', h, hl => by
  rw [Good] at h ⊢
  exact ⟨nodeOk_le h.1 hl, GoodL.le h.2.1 (by omega), h.2.2⟩
theorem GoodL.le : ∀ {l : List Itm} {lv lv' : Nat}, GoodL l lv → lv' ≤ lv → GoodL l lv'
 | [], _, _, _, _ => by rw [GoodL]; trivial
 | x :: l, lv, lv', h, hl => by
  rw [GoodL] at h ⊢
  exact ⟨Good.le h.1 hl, GoodL.le h.2 hl⟩
end
theorem node_plain {x : Itm} {lv : Nat} (h : nodeOk x lv = true) (hp : isPlain x = true) : x.items = [] ∧ (x.kind = 8 ∨ x.kind = 7 → x.bytes = []) := by
 rcases nodeOk_cases h with ⟨_, h2⟩ | ⟨h1, _⟩
 ·exact okPlain_items hp h2
 ·rw [hp] at h1; cases h1
theorem node_enc {x : Itm} {lv : Nat} (h : nodeOk x lv = true) : (encB x).length = spendP x + (encL x.items).length := by
 cases hp : isPlain x with
 | true =>
  obtain ⟨h1, h2⟩ := node_plain h hp;rw [← spend_enc x h1 h2, h1, encL]; simp
 | false =>
  rcases nodeOk_cases h with ⟨h1, _⟩ | ⟨_, h2⟩
  ·rw [hp] at h1; cases h1
  ·have hf := frameOk_spec h2;rw [encB_eq, if_neg (by omega), if_neg (by omega), spend_mid x (by omega) (by omega)]
   simp; omega
theorem spend_bytes {x : Itm} {lv : Nat} (h : nodeOk x lv = true) : x.bytes.length ≤ spendP x := by
 by_cases h8 : x.kind = 8
 ·have := (node_plain h ((isPlain_iff x).2 (by omega))).2 (by omega);rw [this]; simp
 by_cases h7 : x.kind = 7
 ·have := (node_plain h ((isPlain_iff x).2 (by omega))).2 (by omega);rw [this]; simp
 rw [spend_mid x h8 h7]; omega
theorem cntL_len : ∀ l : List Itm, l.length ≤ cntL l
 | [] => by simp [cntL]
 | x :: l => by
  have := cntL_len l;have h : 0 < cnt x := by cases x; rw [cnt]; omega
  rw [cntL]; simp; omega
theorem cnt_eq (x : Itm) : cnt x = cntL x.items + 1 := by cases x; rw [cnt]; rfl
mutual
theorem chk_good : ∀ (x : Itm) (lv i s : Nat) (p : Nat × Nat), chk x lv i s = some p → Good x lv
 | .mk k n bs l, lv, i, s, p, h => by
  rw [chk] at h
  split at h
  ·cases h
  split at h
  ·rename_i hp
   split at h
   ·rename_i ho
    have hi := (okPlain_items hp ho.1).1;have hk := (isPlain_iff _).1 hp
    simp only [Itm.items, Itm.kind] at hi hk
    subst hi;rw [Good, GoodL]
    exact ⟨by rw [nodeOk, if_pos hp]; exact ho.1, trivial, fun h => by omega⟩
   ·cases h
  rename_i hp
  split at h
  ·cases h
  rename_i hf
  split at h
  ·cases h
  split at h
  ·cases h
  rename_i q hq
  split at h
  ·cases h
  rename_i ha
  rw [Good]
  refine ⟨by rw [nodeOk, if_neg hp]; simpa using hf, chkL_good l _ _ _ _ hq, fun h5 => ?_⟩
  cases hs : ascP l with
  | true => rfl
  | false => exact absurd ⟨h5, hs⟩ ha
theorem chkL_good : ∀ (l : List Itm) (lv i s : Nat) (p : Nat × Nat), chkL l lv i s = some p → GoodL l lv
 | [], _, _, _, _, _ => by rw [GoodL]; trivial
 | x :: l, lv, i, s, p, h => by
  rw [chkL] at h
  split at h
  ·cases h
  rename_i q hq
  rw [GoodL]
  exact ⟨chk_good x _ _ _ _ hq, chkL_good l _ _ _ _ h⟩
end
mutual
theorem good_chk : ∀ (x : Itm) (lv i s : Nat), Good x lv → i + cnt x ≤ 256 → s + (encB x).length ≤ 4096 → chk x lv i s = some (i + cnt x, s + (encB x).length)
 | .mk k n bs l, lv, i, s, h, hi, hs => by
  have hn := h.node;have hit := h.items;have has := h.asc;have hsp := node_enc hn;have hby := spend_bytes hn;have hc := cnt_eq (.mk k n bs l);have hl := cntL_len l
  simp only [Itm.items, Itm.bytes, Itm.kind] at *
  rw [chk, if_neg (by omega)]
  rcases nodeOk_cases hn with ⟨h1, h2⟩ | ⟨h1, h2⟩
  ·have h0 := (okPlain_items h1 h2).1
   simp only [Itm.items] at h0
   subst h0;rw [encL] at hsp;rw [cntL] at hc
   simp only [List.length_nil] at hsp
   rw [if_pos h1, if_pos ⟨h2, by omega⟩, hc, hsp];congr 2
  ·rw [if_neg (by simp [h1]), if_neg (by simp [h2]), if_neg (by omega), goodL_chk l (lv + 1) (i + 1) _ hit (by omega) (by omega)]
   simp only
   rw [if_neg (by rintro ⟨h5, ha⟩; rw [has h5] at ha; cases ha)];congr 2 <;> omega
theorem goodL_chk : ∀ (l : List Itm) (lv i s : Nat), GoodL l lv → i + cntL l ≤ 256 → s + (encL l).length ≤ 4096 → chkL l lv i s = some (i + cntL l, s + (encL l).length)
 | [], lv, i, s, _, _, _ => by rw [chkL, cntL, encL]; rfl
 | x :: l, lv, i, s, h, hi, hs => by
  rw [GoodL] at h;rw [cntL] at hi ⊢;rw [encL] at hs ⊢
  simp only [List.length_append] at hs ⊢
  rw [chkL, good_chk x lv i s h.1 (by omega) (by omega)]
  simp only
  rw [goodL_chk l lv _ _ h.2 (by omega) (by omega)];congr 2 <;> omega
end
theorem validP_iff (x : Itm) : validP x = true ↔ Good x 0 ∧ cnt x ≤ 256 ∧ (encB x).length ≤ 4096 := by
 constructor
 ·intro h
  obtain ⟨p, hp⟩ := Option.isSome_iff_exists.1 h;have := validP_spec h
  exact ⟨chk_good _ _ _ _ _ hp, this.2.1, this.2.2⟩
 ·rintro ⟨h1, h2, h3⟩
  rw [validP, good_chk x 0 0 0 h1 (by omega) (by omega)];rfl
mutual
def Small : Itm → Prop
 | .mk _ _ bs l => bs.length ≤ 4096 ∧ SmallL l
def SmallL : List Itm → Prop
 | [] => True
 | x :: l => Small x ∧ SmallL l
end
def nodeR (x : Itm) (d m : Nat) : Bool := nodeOk x d && decide (x.bytes.length ≤ 4096) && decide (x.items.length ≤ m)
mutual
def leftP : Itm → Nat → Nat → Option Nat
 | .mk k n bs l, c, d =>
  if c < 1 then none
  else if nodeR (.mk k n bs l) d (c - 1) = false then none
  else match leftL l (c - 1) (d + 1) with
   | none => none
   | some r => if k = 5 ∧ ascP l = false then none else some r
def leftL : List Itm → Nat → Nat → Option Nat
 | [], c, _ => some c
 | x :: l, c, d => match leftP x c d with
  | none => none
  | some r => leftL l r d
end
theorem leftP_eq (x : Itm) (c d : Nat) : leftP x c d =
  if c < 1 then none
  else if nodeR x d (c - 1) = false then none
  else match leftL x.items (c - 1) (d + 1) with
   | none => none
   | some r => if x.kind = 5 ∧ ascP x.items = false then none else some r := by
 cases x
 rw [leftP];rfl
theorem nodeR_spec {x : Itm} {d m : Nat} (h : nodeR x d m = true) : nodeOk x d = true ∧ x.bytes.length ≤ 4096 ∧ x.items.length ≤ m := by
 simpa [nodeR, and_assoc] using h
mutual
theorem left_spec : ∀ (x : Itm) (c d r : Nat), leftP x c d = some r → Good x d ∧ Small x ∧ r + cnt x = c
 | .mk k n bs l, c, d, r, h => by
  rw [leftP] at h
  split at h
  ·cases h
  split at h
  ·cases h
  rename_i hn
  obtain ⟨h1, h2, h3⟩ := nodeR_spec (by simpa using hn)
  split at h
  ·cases h
  rename_i q hq
  split at h
  ·cases h
  rename_i ha
  injection h with h
  subst h;obtain ⟨g1, g2, g3⟩ := leftL_spec l _ _ _ hq;rw [Good, Small, cnt]
  refine ⟨⟨h1, g1, fun h5 => ?_⟩, ⟨h2, g2⟩, by omega⟩
  cases hs : ascP l with
  | true => rfl
  | false => exact absurd ⟨h5, hs⟩ ha
theorem leftL_spec : ∀ (l : List Itm) (c d r : Nat), leftL l c d = some r → GoodL l d ∧ SmallL l ∧ r + cntL l = c
 | [], c, d, r, h => by
  rw [leftL] at h;injection h with h
  subst h;rw [GoodL, SmallL, cntL]
  exact ⟨trivial, trivial, rfl⟩
 | x :: l, c, d, r, h => by
  rw [leftL] at h
  split at h
  ·cases h
  rename_i q hq
  obtain ⟨h1, h2, h3⟩ := left_spec x _ _ _ hq;obtain ⟨g1, g2, g3⟩ := leftL_spec l _ _ _ h;rw [GoodL, SmallL, cntL]
  exact ⟨⟨h1, g1⟩, ⟨h2, g2⟩, by omega⟩
end
mutual
theorem good_left : ∀ (x : Itm) (c d : Nat), Good x d → Small x → cnt x ≤ c → leftP x c d = some (c - cnt x)
 | .mk k n bs l, c, d, h, hs, hc => by
  have hn := h.node;have hit := h.items;have has := h.asc;have hcn := cnt_eq (.mk k n bs l);have hl := cntL_len l;rw [Small] at hs
  simp only [Itm.items, Itm.bytes, Itm.kind] at *
  have hr : nodeR (.mk k n bs l) d (c - 1) = true := by
   have e2 : l.length ≤ c - 1 := by omega
   simp [nodeR, hn, Itm.bytes, Itm.items, hs.1, e2]
  rw [leftP, if_neg (by omega), if_neg (by simp [hr]), goodL_left l (c - 1) (d + 1) hit hs.2 (by omega)]
  simp only
  rw [if_neg (by rintro ⟨h5, ha⟩; rw [has h5] at ha; cases ha)];congr 1; omega
theorem goodL_left : ∀ (l : List Itm) (c d : Nat), GoodL l d → SmallL l → cntL l ≤ c → leftL l c d = some (c - cntL l)
 | [], c, d, _, _, _ => by rw [leftL, cntL]; rfl
 | x :: l, c, d, h, hs, hc => by
  rw [GoodL] at h;rw [SmallL] at hs;rw [cntL] at hc ⊢;rw [leftL, good_left x c d h.1 hs.1 (by omega)]
  simp only
  rw [goodL_left l _ d h.2 hs.2 (by omega)];congr 1; omega
end
mutual
theorem Good.small : ∀ {x : Itm} {lv : Nat}, Good x lv → (encB x).length ≤ 4096 → Small x
 | .mk k n bs l, lv, h, hl => by
  have h1 := node_enc h.node;have h2 := spend_bytes h.node;have h3 := h.items
  simp only [Itm.items, Itm.bytes] at *
  rw [Small]
  exact ⟨by omega, GoodL.small h3 (by omega)⟩
theorem GoodL.small : ∀ {l : List Itm} {lv : Nat}, GoodL l lv → (encL l).length ≤ 4096 → SmallL l
 | [], _, _, _ => by rw [SmallL]; trivial
 | x :: l, lv, h, hl => by
  rw [GoodL] at h;rw [encL] at hl
  simp only [List.length_append] at hl
  rw [SmallL]
  exact ⟨Good.small h.1 (by omega), GoodL.small h.2 (by omega)⟩
end
theorem spend_le {x : Itm} {lv : Nat} (h : nodeOk x lv = true) : spendP x ≤ x.bytes.length + 9 := by
 unfold spendP
 split
 ·have := floatB_length x.n; omega
 split
 ·split <;> omega
 ·have := (headB_le x.kind.toNat (numP x)).2; omega
mutual
theorem Good.bytes : ∀ {x : Itm} {lv : Nat}, Good x lv → Small x → (encB x).length ≤ cnt x * 4105
 | .mk k n bs l, lv, h, hs => by
  have h1 := node_enc h.node;have h2 := spend_le h.node;have h3 := h.items;have h4 := cnt_eq (.mk k n bs l);rw [Small] at hs
  simp only [Itm.items, Itm.bytes] at *
  have := GoodL.bytes h3 hs.2
  omega
theorem GoodL.bytes : ∀ {l : List Itm} {lv : Nat}, GoodL l lv → SmallL l → (encL l).length ≤ cntL l * 4105
 | [], _, _, _ => by rw [encL, cntL]; simp
 | x :: l, lv, h, hs => by
  rw [GoodL] at h;rw [SmallL] at hs;rw [encL, cntL];have h1 := Good.bytes h.1 hs.1;have h2 := GoodL.bytes h.2 hs.2
  simp only [List.length_append]
  omega
end
def validR (x : Itm) : Bool := (leftP x 256 0).isSome && decide ((encB x).length ≤ 4096)
theorem validR_eq (x : Itm) : validR x = validP x := by
 rw [Bool.eq_iff_iff, validP_iff];constructor
 ·intro h
  simp only [validR, Bool.and_eq_true, decide_eq_true_eq] at h
  obtain ⟨r, hr⟩ := Option.isSome_iff_exists.1 h.1;obtain ⟨h1, h2, h3⟩ := left_spec _ _ _ _ hr
  exact ⟨h1, by omega, h.2⟩
 ·rintro ⟨h1, h2, h3⟩
  simp only [validR, Bool.and_eq_true, decide_eq_true_eq]
  rw [good_left x 256 0 h1 (h1.small h3) h2]
  exact ⟨rfl, h3⟩
theorem OwnX.kl {α : Type} {L : Lie α} {t : TypeId} {w w' : World} {base N : Nat} {v : Value} {H : Snap} {l : List α} (h : OwnX L t w base v H l) (hg : w.grownBy w' (some N)) (hl : ∀ q, v.ownBlock = some q → q < N) : OwnX L t w' base v H l := h.kept hg (by cases hv : v.ownBlock with | none => exact .inl rfl | some q => exact .inr (fun e => by injection e with e; exact Nat.lt_irrefl _ (e ▸ hl q hv)))
end Go.Proofs.YtgaoknihklmakaaGreatDoor
