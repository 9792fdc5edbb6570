/- squeezed. Reading data items, third part: wh -/
import Derived.Test.YtlebpackbfcfeaaDoorK12
import Derived.Test.YtlebpackbfcfeaaDoorK07
import Derived.Test.YtlebpackbfcfeaaDoorK01
import Derived.Test.YtlebpackbfcfeaaDoorK09
import Derived.Test.YtlebpackbfcfeaaDoorK00
import Derived.Test.YtlebpackbfcfeaaDoorK04
set_option linter.unusedVariables false
set_option linter.unusedSimpArgs false
set_option maxRecDepth 100000
namespace Go.Proofs.YtlebpackbfcfeaaDoor
open Go.RowKit
structure Read (d : Nat) (b : List UInt8) (c : Nat) (x : Itm) (k c' : Nat) : Prop where
 le : k ≤ b.length
 pos : 0 < k
 enc : encB x = b.take k
 cnt : c' = c + cnt x
 lim : c' ≤ 256
 good : ∀ lv, lv + d = 8 → Good x lv
 nums : Nums x
structure ReadL (d : Nat) (b : List UInt8) (c : Nat) (l : List Itm) (n k c' : Nat) : Prop where
 le : k ≤ b.length
 enc : encL l = b.take k
 cnt : c' = c + cntL l
 lim : c' ≤ 256
 good : ∀ lv, lv + d = 8 → GoodL l lv
 nums : NumsL l
 len : l.length = n
theorem take_drop_app {α : Type} (b : List α) (k k' : Nat) : b.take (k + k') = b.take k ++ (b.drop k).take k' := List.take_add
theorem arr_spec {d : Nat} {p : List UInt8 → Nat → PR} (hp : ∀ b c x k c', p b c = .ok x k c' → Read d b c x k c') :
  ∀ (n : Nat) (b : List UInt8) (c : Nat) (l : List Itm) (k c' : Nat), c ≤ 256 → arrP p n b c = .ok l k c' → ReadL d b c l n k c'
 | 0, b, c, l, k, c', hc, h => by
  rw [arrP] at h
  injection h with h1 h2 h3
  subst h1 h2 h3
  exact ⟨by omega, by simp [encL], by simp [cntL], hc, fun lv _ => by rw [GoodL]; trivial, by rw [NumsL]; trivial, rfl⟩
 | n + 1, b, c, l, k, c', hc, h => by
  rw [arrP] at h
  split at h
  ·cases h
  rename_i x k1 c1 h1
  split at h
  ·cases h
  rename_i l1 k2 c2 h2
  injection h with e1 e2 e3
  subst e1 e2 e3
  have r1 := hp _ _ _ _ _ h1
  have r2 := arr_spec hp n _ _ _ _ _ r1.lim h2
  have hl := r2.le
  rw [List.length_drop] at hl
  have := r1.le
  refine ⟨by omega, ?_, ?_, r2.lim, fun lv hlv => ?_, ?_, by rw [List.length_cons, r2.len]⟩
  ·rw [encL, r1.enc, r2.enc, take_drop_app]
  ·rw [cntL, r2.cnt, r1.cnt]; omega
  ·rw [GoodL]; exact ⟨r1.good lv hlv, r2.good lv hlv⟩
  ·rw [NumsL]; exact ⟨r1.nums, r2.nums⟩
def AscFrom (last : Option (List UInt8)) (l : List Itm) : Prop :=
 ascP l = true ∧ ∀ q, last = some q → ∀ x t, l = x :: t → Lib.compareBytes q (encB x) < 0
theorem cmp_not : ∀ a b : List UInt8, ¬ Lib.compareBytes a b = 0 → ¬ Lib.compareBytes a b < 0 → Lib.compareBytes b a < 0
 | [], [], h, _ => absurd rfl h
 | [], _ :: _, _, h => absurd (by show (-1 : Int) < 0; decide) h
 | _ :: _, [], _, _ => by show (-1 : Int) < 0; decide
 | x :: a, y :: b, h, k => by
  rw [Lib.compareBytes] at h k ⊢
  split at h
  ·rename_i h1
   rw [if_pos h1] at k
   exact absurd (by decide) k
  rename_i h1
  rw [if_neg h1] at k
  split at h
  ·rename_i h2
   rw [if_pos h2]
   decide
  rename_i h2
  rw [if_neg h2] at k
  rw [if_neg h2, if_neg h1]
  exact cmp_not a b h k
theorem keyP_none {last : Option (List UInt8)} {key : List UInt8} (h : keyP last key = none) : ∀ q, last = some q → Lib.compareBytes q key < 0 := by
 intro q hq
 subst hq
 rw [keyP] at h
 split at h
 ·cases h
 split at h
 ·cases h
 rename_i h1 h2
 exact cmp_not _ _ h1 h2
theorem map_spec {d : Nat} {p : List UInt8 → Nat → PR} (hp : ∀ b c x k c', p b c = .ok x k c' → Read d b c x k c') :
  ∀ (n : Nat) (b : List UInt8) (c : Nat) (last : Option (List UInt8)) (l : List Itm) (k c' : Nat), c ≤ 256 → mapP p n b c last = .ok l k c' → ReadL d b c l (2 * n) k c' ∧ AscFrom last l
 | 0, b, c, last, l, k, c', hc, h => by
  rw [mapP] at h
  injection h with h1 h2 h3
  subst h1 h2 h3
  exact ⟨⟨by omega, by simp [encL], by simp [cntL], hc, fun lv _ => by rw [GoodL]; trivial, by rw [NumsL]; trivial, rfl⟩, rfl, fun _ _ _ _ h => by cases h⟩
 | n + 1, b, c, last, l, k, c', hc, h => by
  rw [mapP] at h
  split at h
  ·cases h
  rename_i x k1 c1 h1
  split at h
  ·cases h
  rename_i hk
  split at h
  ·cases h
  rename_i y k2 c2 h2
  split at h
  ·cases h
  rename_i l1 k3 c3 h3
  injection h with e1 e2 e3
  subst e1 e2 e3
  have r1 := hp _ _ _ _ _ h1
  have r2 := hp _ _ _ _ _ h2
  obtain ⟨r3, a1, a2⟩ := map_spec hp n _ _ _ _ _ _ r2.lim h3
  have hl2 := r2.le
  have hl3 := r3.le
  rw [List.length_drop] at hl2 hl3
  have := r1.le
  refine ⟨⟨by omega, ?_, ?_, r3.lim, fun lv hlv => ?_, ?_, by rw [List.length_cons, List.length_cons, r3.len]; omega⟩, ?_, fun q hq x' t ht => ?_⟩
  ·rw [encL, encL, r1.enc, r2.enc, r3.enc, ← List.append_assoc, ← take_drop_app, ← take_drop_app]
  ·rw [cntL, cntL, r3.cnt, r2.cnt, r1.cnt]; omega
  ·rw [GoodL, GoodL]; exact ⟨r1.good lv hlv, r2.good lv hlv, r3.good lv hlv⟩
  ·rw [NumsL, NumsL]; exact ⟨r1.nums, r2.nums, r3.nums⟩
  ·cases l1 with
   | nil => rfl
   | cons z l2 =>
    rw [ascP, a1]
    have := a2 _ rfl z l2 rfl
    rw [← r1.enc] at this
    simp [this]
  ·injection ht with ht _
   subst ht
   rw [r1.enc]
   exact keyP_none hk q hq
theorem good_leaf {x : Itm} (h : ∀ lv, nodeOk x lv = true) (hi : x.items = []) (h5 : x.kind ≠ 5) : ∀ lv, Good x lv := fun lv =>
 Good.of (h lv) (by rw [hi, GoodL]; trivial) (fun h => absurd h h5)
theorem parse_spec : ∀ (d : Nat) (b : List UInt8) (c : Nat) (x : Itm) (k c' : Nat), parse d b c = .ok x k c' → Read d b c x k c' := by
 intro d
 induction d using Nat.strongRecOn with
 | _ d ih =>
  intro b c x k c' h
  rw [parse.eq_def] at h
  simp only at h
  split at h
  ·cases h
  rename_i hc
  split at h
  ·cases h
  rename_i f n k1 hh
  have H := headP_spec hh
  have hlow := H.low
  have hf := H.f_lt
  split at h
  ·rename_i h1
   injection h with e1 e2 e3
   subst e1 e2 e3
   have hk : f / 32 = 0 ∨ f / 32 = 1 := by omega
   refine ⟨H.le, H.pos, ?_, by simp [cnt, cntL], by omega, fun lv _ => good_leaf (fun lv => ?_) rfl (by simp only [Itm.kind]; omega) lv, ?_⟩
   ·rw [← H.enc (by omega), encB_eq, if_neg (by simp only [Itm.kind]; omega), if_neg (by simp only [Itm.kind]; omega)]
    have e : numP (.mk (f / 32 : Nat) n [] []) = n := by
     rw [numP, if_neg (by simp only [Itm.kind]; omega), if_neg (by simp only [Itm.kind]; omega), if_neg (by simp only [Itm.kind]; omega)]; rfl
    rw [e, show (Itm.mk (f / 32 : Nat) n [] []).kind.toNat = f / 32 from rfl]
    simp [Itm.bytes, Itm.items, encL]
   ·rw [nodeOk]
    rcases hk with hk | hk <;> simp [isPlain, okPlain, Itm.kind, Itm.bytes, Itm.items, hk]
   ·rw [Nums]; exact ⟨H.n_lt, by rw [NumsL]; trivial⟩
  rename_i h1
  split at h
  ·rename_i h3
   split at h
   ·cases h
   rename_i h4
   split at h
   ·cases h
   rename_i h5
   injection h with e1 e2 e3
   subst e1 e2 e3
   have hk : f / 32 = 2 ∨ f / 32 = 3 := by omega
   have hle := H.le
   have hlen : ((b.drop k1).take n).length = n := by rw [List.length_take, List.length_drop]; omega
   have hn := H.n_lt
   have hpos := H.pos
   refine ⟨by omega, by omega, ?_, by simp [cnt, cntL], by omega, fun lv _ => good_leaf (fun lv => ?_) rfl (by simp only [Itm.kind]; omega) lv, ?_⟩
   ·rw [take_drop_app, ← H.enc (by omega), encB_eq, if_neg (by simp only [Itm.kind]; omega), if_neg (by simp only [Itm.kind]; omega)]
    have e : numP (.mk (f / 32 : Nat) 0 ((b.drop k1).take n) []) = n := by
     rw [numP, if_pos (by simp only [Itm.kind]; omega)]
     exact hlen
    rw [e, show (Itm.mk (f / 32 : Nat) 0 ((b.drop k1).take n) []).kind.toNat = f / 32 from rfl]
    simp [Itm.bytes, Itm.items, encL]
   ·rw [nodeOk]
    rcases hk with hk | hk
    ·simp [isPlain, okPlain, Itm.kind, Itm.bytes, Itm.items, Itm.n, hk]
    ·have : Lib.validD ((b.drop k1).take n) = true := by
      cases h : Lib.validD ((b.drop k1).take n) with
      | true => rfl
      | false => exact absurd ⟨hk, h⟩ h5
     simp [isPlain, okPlain, Itm.kind, Itm.bytes, Itm.items, Itm.n, hk, this]
   ·rw [Nums]; exact ⟨by omega, by rw [NumsL]; trivial⟩
  rename_i h3
  split at h
  ·rename_i h7
   split at h
   ·cases h
   rename_i y hs
   injection h with e1 e2 e3
   subst e1 e2 e3
   have hu : u8 f = u8 (7 * 32 + f % 32) := by rw [show 7 * 32 + f % 32 = f by omega]
   rcases Nat.lt_or_ge (f % 32) 24 with hl | hl
   ·obtain ⟨s1, s2, s3⟩ := H.small hl
    obtain ⟨g1, g2, g3, g4, g5⟩ := seven_spec (low := f % 32) (t := []) (by omega) (fun _ => ⟨s1, rfl⟩) (fun h => by omega) hs
    refine ⟨H.le, H.pos, by rw [s3, g1, hu], by rw [g5], by omega, fun lv _ => g2 lv, ?_⟩
    cases y
    rw [Nums]
    simp only [Itm.items] at g4
    subst g4
    exact ⟨g3, by rw [NumsL]; trivial⟩
   ·obtain ⟨s1, t, s2, s3, s4⟩ := H.wide hl
    obtain ⟨g1, g2, g3, g4, g5⟩ := seven_spec (low := f % 32) (t := t) (by omega) (fun h => by omega) (fun _ => ⟨s2, s4⟩) hs
    refine ⟨H.le, H.pos, by rw [s3, g1, hu], by rw [g5], by omega, fun lv _ => g2 lv, ?_⟩
    cases y
    rw [Nums]
    simp only [Itm.items] at g4
    subst g4
    exact ⟨g3, by rw [NumsL]; trivial⟩
  rename_i h7
  cases d with
  | zero => cases h
  | succ d =>
   simp only at h
   have hd : d < d + 1 := by omega
   have hpos := H.pos
   split at h
   ·rename_i h6
    split at h
    ·cases h
    rename_i y k2 c2 hy
    injection h with e1 e2 e3
    subst e1 e2 e3
    have r := ih d hd _ _ _ _ _ hy
    have hle := H.le
    have hl := r.le
    rw [List.length_drop] at hl
    refine ⟨by omega, by omega, ?_, ?_, r.lim, fun lv hlv => Good.of ?_ ?_ (fun h => by simp only [Itm.kind] at h; omega), ?_⟩
    ·rw [take_drop_app, ← H.enc (by omega), encB_eq, if_neg (by simp only [Itm.kind]; omega), if_neg (by simp only [Itm.kind]; omega), h6]
     have e : numP (.mk 6 n [] [y]) = n := by simp [numP, Itm.kind, Itm.n]
     rw [e, ← r.enc]
     simp [Itm.kind, Itm.bytes, Itm.items, encL]
    ·rw [cnt, cntL, cntL, r.cnt]; omega
    ·rw [nodeOk, if_neg (by simp [isPlain, Itm.kind])]
     simp [frameOk, Itm.kind, Itm.bytes, Itm.items, Itm.n]
     omega
    ·simp only [Itm.items]
     rw [GoodL, GoodL]
     exact ⟨r.good _ (by omega), trivial⟩
    ·rw [Nums, NumsL, NumsL]
     exact ⟨H.n_lt, r.nums, trivial⟩
   rename_i h6
   split at h
   ·rename_i h5
    split at h
    ·cases h
    rename_i l k2 c2 hy
    injection h with e1 e2 e3
    subst e1 e2 e3
    obtain ⟨r, asc, _⟩ := map_spec (ih d hd) _ _ _ _ _ _ _ (by omega) hy
    have hle := H.le
    have hl := r.le
    have hlen := r.len
    rw [List.length_drop] at hl
    refine ⟨by omega, by omega, ?_, ?_, r.lim, fun lv hlv => Good.of ?_ ?_ (fun _ => asc), ?_⟩
    ·rw [take_drop_app, ← H.enc (by omega), encB_eq, if_neg (by simp only [Itm.kind]; omega), if_neg (by simp only [Itm.kind]; omega), h5]
     have e : numP (.mk 5 0 [] l) = n := by simp [numP, Itm.kind, Itm.n, Itm.items, hlen]
     rw [e, ← r.enc]
     simp [Itm.kind, Itm.bytes, Itm.items]
    ·rw [cnt, r.cnt]; omega
    ·rw [nodeOk, if_neg (by simp [isPlain, Itm.kind])]
     simp [frameOk, Itm.kind, Itm.bytes, Itm.items, Itm.n, hlen]
     omega
    ·exact r.good _ (by omega)
    ·rw [Nums]
     exact ⟨by omega, r.nums⟩
   rename_i h5
   split at h
   ·cases h
   rename_i l k2 c2 hy
   injection h with e1 e2 e3
   subst e1 e2 e3
   have h4 : f / 32 = 4 := by omega
   have r := arr_spec (ih d hd) _ _ _ _ _ _ (by omega) hy
   have hle := H.le
   have hl := r.le
   have hlen := r.len
   rw [List.length_drop] at hl
   refine ⟨by omega, by omega, ?_, ?_, r.lim, fun lv hlv => Good.of ?_ ?_ (fun h => by simp only [Itm.kind] at h; omega), ?_⟩
   ·rw [take_drop_app, ← H.enc (by omega), encB_eq, if_neg (by simp only [Itm.kind]; omega), if_neg (by simp only [Itm.kind]; omega), h4]
    have e : numP (.mk 4 0 [] l) = n := by simp [numP, Itm.kind, Itm.n, Itm.items, hlen]
    rw [e, ← r.enc]
    simp [Itm.kind, Itm.bytes, Itm.items]
   ·rw [cnt, r.cnt]; omega
   ·rw [nodeOk, if_neg (by simp [isPlain, Itm.kind])]
    simp [frameOk, Itm.kind, Itm.bytes, Itm.items, Itm.n, hlen]
    omega
   ·exact r.good _ (by omega)
   ·rw [Nums]
    exact ⟨by omega, r.nums⟩
def ReadsUp (p : List UInt8 → Nat → PR) : Prop := ∀ b c x k c', p b c = .ok x k c' → c < c' ∧ c' ≤ 256
theorem cnt_pos (x : Itm) : 0 < cnt x := by rw [cnt_eq]; omega
theorem parse_counts (d : Nat) : ReadsUp (parse d) := fun b c x k c' h => by
 have r := parse_spec d b c x k c' h
 have := cnt_pos x
 exact ⟨by rw [r.cnt]; omega, r.lim⟩
theorem map_min {p : List UInt8 → Nat → PR} (hp : ReadsUp p) : ∀ (m n : Nat) (b : List UInt8) (c : Nat) (last : Option (List UInt8)), 256 < c + m → 256 < c + n → c ≤ 256 → mapP p m b c last = mapP p n b c last
 | 0, n, b, c, last, h1, _, h3 => by omega
 | m + 1, 0, b, c, last, _, h2, h3 => by omega
 | m + 1, n + 1, b, c, last, h1, h2, h3 => by
  rw [mapP, mapP]
  cases h : p b c with
  | err e => rfl
  | ok x k c1 =>
   have a1 := hp _ _ _ _ _ h
   simp only
   cases keyP last (b.take k) with
   | some e => rfl
   | none =>
    simp only
    cases h' : p (b.drop k) c1 with
    | err e => rfl
    | ok y k2 c2 =>
     have a2 := hp _ _ _ _ _ h'
     simp only
     rw [map_min hp m n (b.drop (k + k2)) c2 (some (b.take k)) (by omega) (by omega) a2.2]
def prefixP (b : List UInt8) : PR := parse 8 (b.take 4096) 0
theorem prefix_spec {b : List UInt8} {x : Itm} {k c : Nat} (h : prefixP b = .ok x k c) : k ≤ b.length ∧ k ≤ 4096 ∧ 0 < k ∧ encB x = b.take k ∧ Good x 0 ∧ Nums x ∧ cnt x ≤ 256 := by
 have r := parse_spec _ _ _ _ _ _ h
 have hl := r.le
 rw [List.length_take] at hl
 have h1 := r.cnt
 have h2 := r.lim
 refine ⟨by omega, by omega, r.pos, ?_, r.good 0 rfl, r.nums, by omega⟩
 rw [r.enc, List.take_take, show min k 4096 = k by omega]
structure Ext where
 label : Int
 has : Bool
 val : List UInt8
def numE (x : Itm) (lim : Nat) : Option Int :=
 if x.kind = 0 ∧ x.n ≤ lim then some (x.n : Int) else if x.kind = 1 ∧ x.n < lim then some (-1 - (x.n : Int)) else none
def extOk (x : Ext) : Bool := decide (-65535 ≤ x.label) && decide (x.label ≤ 65535) && decide (x.val.length ≤ 600) && (x.has || decide (x.val.length = 0))
def goodExt (l : List Ext) : Bool := decide (l.length ≤ 4) && l.all extOk
def intB (n : Int) : List UInt8 := if n < 0 then headB 1 (-1 - n).toNat else headB 0 n.toNat
def strB (b : List UInt8) : List UInt8 := headB 2 b.length ++ b
def extB (x : Ext) : List UInt8 := intB x.label ++ if x.has then strB x.val else []
def extsB : List Ext → List UInt8
 | [] => []
 | x :: l => extB x ++ extsB l
def encExt (l : List Ext) : Except Nat (List UInt8) := if goodExt l then .ok (extsB l) else .error 1
def decExtN : Nat → List Ext → List UInt8 → Except Nat (List Ext)
 | 0, out, _ => .ok out
 | n + 1, out, b =>
  if b.length = 0 then .ok out
  else match prefixP b with
   | .err e => .error e
   | .ok x k _ =>
    if x.kind = 2 then
     (match out.getLast? with
     | none => .error 4
     | some l =>
      if l.has then .error 4 else if 600 < x.bytes.length then .error 8
      else decExtN n (out.dropLast ++ [{ l with has := true, val := x.bytes }]) (b.drop k))
    else match numE x 65535 with
     | none => .error 4
     | some v => if out.length = 4 then .error 8 else decExtN n (out ++ [{ label := v, has := false, val := [] }]) (b.drop k)
def decExt (b : List UInt8) : Except Nat (List Ext) := decExtN (b.length + 1) [] b
theorem decExtN_more : ∀ (n m : Nat) (out : List Ext) (b : List UInt8), b.length < n → b.length < m → decExtN n out b = decExtN m out b
 | 0, _, _, _, h, _ => by omega
 | _ + 1, 0, _, _, _, h => by omega
 | n + 1, m + 1, out, b, h1, h2 => by
  rw [decExtN, decExtN]
  by_cases h0 : b.length = 0
  ·rw [if_pos h0, if_pos h0]
  rw [if_neg h0, if_neg h0]
  cases hp : prefixP b with
  | err e => rfl
  | ok x k c =>
   obtain ⟨k1, _, k2, _⟩ := prefix_spec hp
   have hd : (b.drop k).length = b.length - k := List.length_drop
   simp only
   repeat' split
   all_goals first | rfl | exact decExtN_more n m _ _ (by omega) (by omega)
def shortB (c : UInt8) : Bool := decide (c.toNat < 24) || decide (32 ≤ c.toNat) && decide (c.toNat < 56)
def connB (c : List UInt8) : List UInt8 :=
 match c with
 | [x] => if shortB x then [x] else strB [x]
 | _ => strB c
def parseConn (b : List UInt8) : Except Nat (List UInt8 × Nat) :=
 match b with
 | [] => .error 2
 | x :: t =>
  if shortB x then .ok ([x], 1)
  else if x.toNat < 64 ∨ 88 < x.toNat then .error 4
  else if 7 < x.toNat - 64 then .error 8
  else if b.length < 1 + (x.toNat - 64) then .error 2
  else if x.toNat - 64 = 1 ∧ shortB (b.getD 1 0) then .error 4
  else .ok (t.take (x.toNat - 64), 1 + (x.toNat - 64))
def twice : List Int → Bool
 | [] => false
 | x :: l => l.contains x || twice l
def goodSuites (l : List Int) : Bool := decide (1 ≤ l.length) && decide (l.length ≤ 8) && l.all (fun n => decide (0 ≤ n) && decide (n ≤ 65535)) && !twice l
structure First where
 method : Int
 suites : List Int
 gx : List UInt8
 conn : List UInt8
 ext : List Ext
def intsB : List Int → List UInt8
 | [] => []
 | n :: l => intB n ++ intsB l
def suitesB (l : List Int) : List UInt8 := if l.length = 1 then intsB l else headB 4 l.length ++ intsB l
def firstOk (f : First) : Bool := decide (0 ≤ f.method) && decide (f.method ≤ 3) && goodSuites f.suites && goodExt f.ext && decide (1 ≤ f.gx.length) && decide (f.gx.length ≤ 64) && decide (f.conn.length ≤ 7)
def firstB (f : First) : List UInt8 := intB f.method ++ suitesB f.suites ++ strB f.gx ++ connB f.conn ++ extsB f.ext
def limited (b : List UInt8) : Except Nat (List UInt8) := if 600 < b.length then .error 1 else .ok b
def encFirst (f : First) : Except Nat (List UInt8) := if firstOk f then limited (firstB f) else .error 1
def numsE : List Itm → Option (List Int)
 | [] => some []
 | x :: l => match numE x 65535 with
  | none => none
  | some v => if v < 0 then none else match numsE l with
   | none => none
   | some t => some (v :: t)
def suitesE (x : Itm) : Except Nat (List Int) :=
 if x.kind = 0 then (if x.n ≤ 65535 then .ok [(x.n : Int)] else .error 4)
 else if x.kind ≠ 4 ∨ x.items.length < 2 then .error 4
 else match numsE x.items with
  | none => .error 4
  | some l => if twice l then .error 7 else if 8 < l.length then .error 8 else .ok l
def decFirst (b : List UInt8) : Except Nat First :=
 if 600 < b.length then .error 8
 else match prefixP b with
  | .err e => .error e
  | .ok x k _ =>
   if x.kind ≠ 0 ∨ 3 < x.n then .error 4
   else match prefixP (b.drop k) with
    | .err e => .error e
    | .ok y k2 _ => match suitesE y with
     | .error e => .error e
     | .ok l => match prefixP ((b.drop k).drop k2) with
      | .err e => .error e
      | .ok z k3 _ =>
       if z.kind ≠ 2 ∨ z.bytes.length < 1 ∨ 64 < z.bytes.length then .error 4
       else match parseConn (((b.drop k).drop k2).drop k3) with
        | .error e => .error e
        | .ok (c, k4) => match decExt ((((b.drop k).drop k2).drop k3).drop k4) with
         | .error e => .error e
         | .ok ext => .ok ⟨(x.n : Int), l, z.bytes, c, ext⟩
def decE (out : List Ext) (b : List UInt8) : Except Nat (List Ext) := decExtN (b.length + 1) out b
theorem decE_start (b : List UInt8) : decExt b = decE [] b := rfl
section
variable {out : List Ext} {b : List UInt8} {q k c : Nat} {x : Itm}
theorem decE_end (h : b.length = 0) : decE out b = .ok out := by rw [decE, decExtN, if_pos h]
theorem decE_err (h : b.length ≠ 0) (hp : prefixP b = .err q) : decE out b = .error q := by rw [decE, decExtN, if_neg h, hp]
theorem decE_more (hp : prefixP b = .ok x k c) (o : List Ext) : decExtN b.length o (b.drop k) = decE o (b.drop k) := by
 obtain ⟨k1, _, k2, _⟩ := prefix_spec hp
 have hd : (b.drop k).length = b.length - k := List.length_drop
 exact decExtN_more _ _ _ _ (by omega) (by omega)
theorem decE_val0 (h : b.length ≠ 0) (hp : prefixP b = .ok x k c) (hk : x.kind = 2) : decE [] b = .error 4 := by
 rw [decE, decExtN, if_neg h, hp]; simp only; rw [if_pos hk]; rfl
theorem decE_val1 {y : Ext} (h : b.length ≠ 0) (hp : prefixP b = .ok x k c) (hk : x.kind = 2) (hy : y.has = true) : decE (out ++ [y]) b = .error 4 := by
 rw [decE, decExtN, if_neg h, hp]; simp only; rw [if_pos hk]; simp [hy]
theorem decE_val2 {y : Ext} (h : b.length ≠ 0) (hp : prefixP b = .ok x k c) (hk : x.kind = 2) (hy : y.has = false) (hl : 600 < x.bytes.length) : decE (out ++ [y]) b = .error 8 := by
 rw [decE, decExtN, if_neg h, hp]; simp only; rw [if_pos hk]; simp [hy, hl]
theorem decE_val3 {y : Ext} (h : b.length ≠ 0) (hp : prefixP b = .ok x k c) (hk : x.kind = 2) (hy : y.has = false) (hl : ¬ 600 < x.bytes.length) : decE (out ++ [y]) b = decE (out ++ [{ y with has := true, val := x.bytes }]) (b.drop k) := by
 rw [decE, decExtN, if_neg h, hp]; simp only; rw [if_pos hk]; simp only [List.getLast?_append, List.getLast?_singleton, Option.some_or, hy, if_false, List.dropLast_concat, if_neg hl]
 simp only [Bool.false_eq_true, if_false]
 exact decE_more hp _
theorem decE_num0 (h : b.length ≠ 0) (hp : prefixP b = .ok x k c) (hk : x.kind ≠ 2) (hv : numE x 65535 = none) : decE out b = .error 4 := by
 rw [decE, decExtN, if_neg h, hp]; simp only; rw [if_neg hk, hv]
theorem decE_num1 {v : Int} (h : b.length ≠ 0) (hp : prefixP b = .ok x k c) (hk : x.kind ≠ 2) (hv : numE x 65535 = some v) (hl : out.length = 4) : decE out b = .error 8 := by
 rw [decE, decExtN, if_neg h, hp]; simp only; rw [if_neg hk, hv]; simp only; rw [if_pos hl]
theorem decE_num2 {v : Int} (h : b.length ≠ 0) (hp : prefixP b = .ok x k c) (hk : x.kind ≠ 2) (hv : numE x 65535 = some v) (hl : out.length ≠ 4) : decE out b = decE (out ++ [{ label := v, has := false, val := [] }]) (b.drop k) := by
 rw [decE, decExtN, if_neg h, hp]; simp only; rw [if_neg hk, hv]; simp only; rw [if_neg hl]
 exact decE_more hp _
end
theorem good_intP (n : Int) (lv : Nat) : Good (intP n) lv := by
 rw [intP]
 split <;> (rw [Good]; refine ⟨?_, by rw [GoodL]; trivial, by intro h; omega⟩; simp [nodeOk, isPlain, okPlain, frameOk, Itm.kind, Itm.bytes, Itm.items, Itm.n])
theorem encB_intP (n : Int) : encB (intP n) = intB n := by
 rw [enc_num (good_intP n 0) (by rw [intP]; split <;> simp [Itm.kind]), intP, intB]
 split <;> rfl
theorem intB_le (n : Int) : 1 ≤ (intB n).length ∧ (intB n).length ≤ 9 := by
 rw [intB]; split <;> exact headB_le _ _
theorem strB_le (l : List UInt8) : (strB l).length ≤ l.length + 9 := by
 have := (headB_le 2 l.length).2
 rw [strB, List.length_append]; omega
theorem extsB_app : ∀ (l m : List Ext), extsB (l ++ m) = extsB l ++ extsB m
 | [], m => rfl
 | x :: l, m => by rw [List.cons_append, extsB, extsB, extsB_app l m, List.append_assoc]
theorem extsB_take (l : List Ext) (k : Nat) (hk : k < l.length) : extsB (l.take (k + 1)) = extsB (l.take k) ++ extB l[k] := by
 rw [List.take_succ_eq_append_getElem hk, extsB_app, extsB, extsB, List.append_nil]
theorem extB_le {x : Ext} (h : x.val.length ≤ 1099511) : (extB x).length ≤ 1099600 := by
 have h1 := (intB_le x.label).2
 have h2 := strB_le x.val
 rw [extB]
 split <;> simp only [List.length_append, List.length_nil] <;> omega
theorem extsB_le : ∀ (l : List Ext), (∀ x ∈ l, x.val.length ≤ 1099511) → (extsB l).length ≤ 1099600 * l.length
 | [], _ => by simp [extsB]
 | x :: l, h => by
  have h1 := extB_le (h x (by simp))
  have h2 := extsB_le l (fun y hy => h y (by simp [hy]))
  rw [extsB, List.length_append, List.length_cons]; omega
theorem extOk_iff (x : Ext) : extOk x = true ↔ (-65535 ≤ x.label ∧ x.label ≤ 65535 ∧ x.val.length ≤ 600 ∧ (x.has = true ∨ x.val.length = 0)) := by
 simp [extOk, and_assoc]
theorem goodExt_iff (l : List Ext) : goodExt l = true ↔ (l.length ≤ 4 ∧ ∀ x ∈ l, extOk x = true) := by
 simp [goodExt]
theorem goodExt_bad {l : List Ext} {k : Nat} (hk : k < l.length) (h : extOk l[k] = false) : goodExt l = false := by
 cases hg : goodExt l with
 | false => rfl
 | true => have := ((goodExt_iff l).1 hg).2 _ (List.getElem_mem hk); rw [h] at this; cases this
theorem goodExt_all {l : List Ext} (hl : l.length ≤ 4) (h : ∀ j (hj : j < l.length), extOk l[j] = true) : goodExt l = true := by
 rw [goodExt_iff]
 refine ⟨hl, fun x hx => ?_⟩
 obtain ⟨j, hj, rfl⟩ := List.mem_iff_getElem.1 hx
 exact h j hj
theorem getD_lt {l : List Int} {j : Nat} (h : j < l.length) : l.getD j 0 = l[j] := by rw [List.getD_eq_getElem?_getD, List.getElem?_eq_getElem h]; rfl
theorem twice_iff : ∀ l : List Int, twice l = true ↔ ∃ i j, j < i ∧ i < l.length ∧ l.getD j 0 = l.getD i 0
 | [] => by simp [twice]
 | x :: l => by
  rw [twice, Bool.or_eq_true, twice_iff l, List.contains_iff_mem]
  constructor
  ·rintro (h | ⟨i, j, h1, h2, h3⟩)
   ·obtain ⟨i, hi, e⟩ := List.mem_iff_getElem.1 h
    exact ⟨i + 1, 0, by omega, by simpa using hi, by rw [List.getD_cons_zero, List.getD_cons_succ, getD_lt hi, e]⟩
   ·exact ⟨i + 1, j + 1, by omega, by simpa using h2, by rw [List.getD_cons_succ, List.getD_cons_succ]; exact h3⟩
  ·rintro ⟨i, j, h1, h2, h3⟩
   obtain ⟨i, rfl⟩ : ∃ i', i = i' + 1 := ⟨i - 1, by omega⟩
   have hi : i < l.length := by simpa using h2
   cases j with
   | zero => left; rw [List.getD_cons_zero, List.getD_cons_succ, getD_lt hi] at h3; rw [h3]; exact List.getElem_mem hi
   | succ j => right; exact ⟨i, j, by omega, hi, by rwa [List.getD_cons_succ, List.getD_cons_succ] at h3⟩
theorem twice_no {l : List Int} (h : ∀ i j, j < i → i < l.length → l.getD j 0 ≠ l.getD i 0) : twice l = false := by
 cases ht : twice l with
 | false => rfl
 | true => obtain ⟨i, j, h1, h2, h3⟩ := (twice_iff l).1 ht; exact absurd h3 (h i j h1 h2)
theorem twice_yes {l : List Int} {i j : Nat} (h1 : j < i) (h2 : i < l.length) (h3 : l.getD j 0 = l.getD i 0) : twice l = true := (twice_iff l).2 ⟨i, j, h1, h2, h3⟩
theorem all_getD {l : List Int} {p : Int → Bool} : l.all p = true ↔ ∀ j, j < l.length → p (l.getD j 0) = true := by
 rw [List.all_eq_true]
 constructor
 ·intro h j hj; rw [getD_lt hj]; exact h _ (List.getElem_mem hj)
 ·intro h x hx
  obtain ⟨j, hj, rfl⟩ := List.mem_iff_getElem.1 hx
  rw [← getD_lt hj]; exact h j hj
theorem goodSuites_iff (l : List Int) : goodSuites l = true ↔ (1 ≤ l.length ∧ l.length ≤ 8 ∧ (∀ j, j < l.length → 0 ≤ l.getD j 0 ∧ l.getD j 0 ≤ 65535) ∧ twice l = false) := by
 rw [goodSuites, Bool.and_eq_true, Bool.and_eq_true, Bool.and_eq_true, all_getD]
 simp only [decide_eq_true_eq, Bool.not_eq_true', Bool.and_eq_true, and_assoc]
theorem goodSuites_no {l : List Int} (h : ¬ (1 ≤ l.length ∧ l.length ≤ 8 ∧ (∀ j, j < l.length → 0 ≤ l.getD j 0 ∧ l.getD j 0 ≤ 65535) ∧ twice l = false)) : goodSuites l = false := by
 cases hg : goodSuites l with
 | false => rfl
 | true => exact absurd ((goodSuites_iff l).1 hg) h
theorem intsB_le : ∀ (l : List Int), (intsB l).length ≤ 9 * l.length
 | [] => by simp [intsB]
 | x :: l => by
  have h1 := (intB_le x).2
  have h2 := intsB_le l
  rw [intsB, List.length_append, List.length_cons]; omega
theorem intsB_flat : ∀ (l : List Int), (l.map intB).flatten = intsB l
 | [] => rfl
 | x :: l => by rw [List.map_cons, List.flatten_cons, intsB_flat l, intsB]
theorem numsE_app : ∀ (l m : List Itm), numsE (l ++ m) = (match numsE l with | none => none | some a => match numsE m with | none => none | some b => some (a ++ b))
 | [], m => by rw [List.nil_append, numsE]; cases numsE m <;> rfl
 | x :: l, m => by
  rw [List.cons_append, numsE, numsE]
  cases numE x 65535 with
  | none => rfl
  | some v =>
   simp only
   split
   ·rfl
   ·rw [numsE_app l m]
    cases numsE l with
    | none => rfl
    | some a => simp only; cases numsE m <;> rfl
theorem OwnI.lit {w : World} {H : Snap} {l : List Itm} {cs : List Value} (h : ItemsC H cs l) (base : Nat) (hb : base ≤ w.heap.size) (hm : l.length ≤ 4096) :
  OwnI (w.alloc (.cells cs.toArray 69)) base (.slice (some ⟨w.heap.size, 0, none⟩) l.length l.length) H l := by
 refine ⟨cs, h, h.len, .inr ⟨w.heap.size, l.length, cs.toArray, rfl, hb, heap_alloc_new w _, Nat.le_refl _, by simp only [maxLen]; omega, ?_, ?_⟩⟩
 ·simpa using h.len
 ·rw [← h.len]; simp
end Go.Proofs.YtlebpackbfcfeaaDoor
