/- squeezed. Reading data items, third part: wh -/
import Derived.Test.YtgaoknihklmakaaGreatDoorK02
import Derived.Test.YtgaoknihklmakaaGreatDoorK01
import Derived.Test.YtgaoknihklmakaaGreatDoorK00
import Derived.BigQuiet
import Derived.OwnWalk
import Derived.Laws.IdiomStrings
import Derived.Laws.Externs
import Derived.Laws.FloatArith
import Derived.Shelf.Unicode.ValidAny
import Derived.Deep.QuietTactic
set_option linter.unusedVariables false
set_option linter.unusedSimpArgs false
set_option maxRecDepth 100000
set_option maxHeartbeats 8000000
namespace Go.Proofs.YtgaoknihklmakaaGreatDoor
open Go.RowKit
structure Read (d : Nat) (b : List UInt8) (c : Nat) (x : Itm) (k c' : Nat) : Prop where
 le : k ≤ b.length
 pos : 0 < k
 enc : encB x = b.take k
 cnt : c' = c + cnt x
 lim : c' ≤ 256
 good : ∀ lv, lv + d = 8 → Good x lv
 nums : Nums x
structure ReadL (d : Nat) (b : List UInt8) (c : Nat) (l : List Itm) (n k c' : Nat) : Prop where
 le : k ≤ b.length
 enc : encL l = b.take k
 cnt : c' = c + cntL l
 lim : c' ≤ 256
 good : ∀ lv, lv + d = 8 → GoodL l lv
 nums : NumsL l
 len : l.length = n
theorem take_drop_app {α : Type} (b : List α) (k k' : Nat) : b.take (k + k') = b.take k ++ (b.drop k).take k' := List.take_add
theorem arr_spec {d : Nat} {p : List UInt8 → Nat → PR} (hp : ∀ b c x k c', p b c = .ok x k c' → Read d b c x k c') :
  ∀ (n : Nat) (b : List UInt8) (c : Nat) (l : List Itm) (k c' : Nat), c ≤ 256 → arrP p n b c = .ok l k c' → ReadL d b c l n k c'
 | 0, b, c, l, k, c', hc, h => by
  rw [arrP] at h;injection h with h1 h2 h3
  subst h1 h2 h3
  exact ⟨by omega, by simp [encL], by simp [cntL], hc, fun lv _ => by rw [GoodL]; trivial, by rw [NumsL]; trivial, rfl⟩
 | n + 1, b, c, l, k, c', hc, h => by
  rw [arrP] at h
  split at h
  ·cases h
  rename_i x k1 c1 h1
  split at h
  ·cases h
  rename_i l1 k2 c2 h2
  injection h with e1 e2 e3
  subst e1 e2 e3;have r1 := hp _ _ _ _ _ h1;have r2 := arr_spec hp n _ _ _ _ _ r1.lim h2;have hl := r2.le;rw [List.length_drop] at hl;have := r1.le
  refine ⟨by omega, ?_, ?_, r2.lim, fun lv hlv => ?_, ?_, by rw [List.length_cons, r2.len]⟩
  ·rw [encL, r1.enc, r2.enc, take_drop_app]
  ·rw [cntL, r2.cnt, r1.cnt]; omega
  ·rw [GoodL]; exact ⟨r1.good lv hlv, r2.good lv hlv⟩
  ·rw [NumsL]; exact ⟨r1.nums, r2.nums⟩
def AscFrom (last : Option (List UInt8)) (l : List Itm) : Prop :=
 ascP l = true ∧ ∀ q, last = some q → ∀ x t, l = x :: t → Lib.compareBytes q (encB x) < 0
theorem cmp_not : ∀ a b : List UInt8, ¬ Lib.compareBytes a b = 0 → ¬ Lib.compareBytes a b < 0 → Lib.compareBytes b a < 0
 | [], [], h, _ => absurd rfl h
 | [], _ :: _, _, h => absurd (by show (-1 : Int) < 0; decide) h
 | _ :: _, [], _, _ => by show (-1 : Int) < 0; decide
 | x :: a, y :: b, h, k => by
  rw [Lib.compareBytes] at h k ⊢
  split at h
  ·rename_i h1
   rw [if_pos h1] at k
   exact absurd (by decide) k
  rename_i h1
  rw [if_neg h1] at k
  split at h
  ·rename_i h2
   rw [if_pos h2];decide
  rename_i h2
  rw [if_neg h2] at k;rw [if_neg h2, if_neg h1]
  exact cmp_not a b h k
theorem keyP_none {last : Option (List UInt8)} {key : List UInt8} (h : keyP last key = none) : ∀ q, last = some q → Lib.compareBytes q key < 0 := by
 intro q hq
 subst hq;rw [keyP] at h
 split at h
 ·cases h
 split at h
 ·cases h
 rename_i h1 h2
 exact cmp_not _ _ h1 h2
theorem map_spec {d : Nat} {p : List UInt8 → Nat → PR} (hp : ∀ b c x k c', p b c = .ok x k c' → Read d b c x k c') :
  ∀ (n : Nat) (b : List UInt8) (c : Nat) (last : Option (List UInt8)) (l : List Itm) (k c' : Nat), c ≤ 256 → mapP p n b c last = .ok l k c' → ReadL d b c l (2 * n) k c' ∧ AscFrom last l
 | 0, b, c, last, l, k, c', hc, h => by
  rw [mapP] at h;injection h with h1 h2 h3
  subst h1 h2 h3
  exact ⟨⟨by omega, by simp [encL], by simp [cntL], hc, fun lv _ => by rw [GoodL]; trivial, by rw [NumsL]; trivial, rfl⟩, rfl, fun _ _ _ _ h => by cases h⟩
 | n + 1, b, c, last, l, k, c', hc, h => by
  rw [mapP] at h
  split at h
  ·cases h
  rename_i x k1 c1 h1
  split at h
  ·cases h
  rename_i hk
  split at h
  ·cases h
  rename_i y k2 c2 h2
  split at h
  ·cases h
  rename_i l1 k3 c3 h3
  injection h with e1 e2 e3
  subst e1 e2 e3;have r1 := hp _ _ _ _ _ h1;have r2 := hp _ _ _ _ _ h2;obtain ⟨r3, a1, a2⟩ := map_spec hp n _ _ _ _ _ _ r2.lim h3;have hl2 := r2.le;have hl3 := r3.le;rw [List.length_drop] at hl2 hl3;have := r1.le
  refine ⟨⟨by omega, ?_, ?_, r3.lim, fun lv hlv => ?_, ?_, by rw [List.length_cons, List.length_cons, r3.len]; omega⟩, ?_, fun q hq x' t ht => ?_⟩
  ·rw [encL, encL, r1.enc, r2.enc, r3.enc, ← List.append_assoc, ← take_drop_app, ← take_drop_app]
  ·rw [cntL, cntL, r3.cnt, r2.cnt, r1.cnt]; omega
  ·rw [GoodL, GoodL]; exact ⟨r1.good lv hlv, r2.good lv hlv, r3.good lv hlv⟩
  ·rw [NumsL, NumsL]; exact ⟨r1.nums, r2.nums, r3.nums⟩
  ·cases l1 with
   | nil => rfl
   | cons z l2 =>
    rw [ascP, a1];have := a2 _ rfl z l2 rfl;rw [← r1.enc] at this
    simp [this]
  ·injection ht with ht _
   subst ht;rw [r1.enc]
   exact keyP_none hk q hq
theorem good_leaf {x : Itm} (h : ∀ lv, nodeOk x lv = true) (hi : x.items = []) (h5 : x.kind ≠ 5) : ∀ lv, Good x lv := fun lv =>
 Good.of (h lv) (by rw [hi, GoodL]; trivial) (fun h => absurd h h5)
theorem parse_spec : ∀ (d : Nat) (b : List UInt8) (c : Nat) (x : Itm) (k c' : Nat), parse d b c = .ok x k c' → Read d b c x k c' := by
 intro d
 induction d using Nat.strongRecOn with
 | _ d ih =>
  intro b c x k c' h
  rw [parse.eq_def] at h
  simp only at h
  split at h
  ·cases h
  rename_i hc
  split at h
  ·cases h
  rename_i f n k1 hh
  have H := headP_spec hh;have hlow := H.low;have hf := H.f_lt
  split at h
  ·rename_i h1
   injection h with e1 e2 e3
   subst e1 e2 e3;have hk : f / 32 = 0 ∨ f / 32 = 1 := by omega
   refine ⟨H.le, H.pos, ?_, by simp [cnt, cntL], by omega, fun lv _ => good_leaf (fun lv => ?_) rfl (by simp only [Itm.kind]; omega) lv, ?_⟩
   ·rw [← H.enc (by omega), encB_eq, if_neg (by simp only [Itm.kind]; omega), if_neg (by simp only [Itm.kind]; omega)]
    have e : numP (.mk (f / 32 : Nat) n [] []) = n := by
     rw [numP, if_neg (by simp only [Itm.kind]; omega), if_neg (by simp only [Itm.kind]; omega), if_neg (by simp only [Itm.kind]; omega)]; rfl
    rw [e, show (Itm.mk (f / 32 : Nat) n [] []).kind.toNat = f / 32 from rfl]
    simp [Itm.bytes, Itm.items, encL]
   ·rw [nodeOk]
    rcases hk with hk | hk <;> simp [isPlain, okPlain, Itm.kind, Itm.bytes, Itm.items, hk]
   ·rw [Nums]; exact ⟨H.n_lt, by rw [NumsL]; trivial⟩
  rename_i h1
  split at h
  ·rename_i h3
   split at h
   ·cases h
   rename_i h4
   split at h
   ·cases h
   rename_i h5
   injection h with e1 e2 e3
   subst e1 e2 e3;have hk : f / 32 = 2 ∨ f / 32 = 3 := by omega
   have hle := H.le;have hlen : ((b.drop k1).take n).length = n := by rw [List.length_take, List.length_drop]; omega
   have hn := H.n_lt;have hpos := H.pos
   refine ⟨by omega, by omega, ?_, by simp [cnt, cntL], by omega, fun lv _ => good_leaf (fun lv => ?_) rfl (by simp only [Itm.kind]; omega) lv, ?_⟩
   ·rw [take_drop_app, ← H.enc (by omega), encB_eq, if_neg (by simp only [Itm.kind]; omega), if_neg (by simp only [Itm.kind]; omega)]
    have e : numP (.mk (f / 32 : Nat) 0 ((b.drop k1).take n) []) = n := by
     rw [numP, if_pos (by simp only [Itm.kind]; omega)]
     exact hlen
    rw [e, show (Itm.mk (f / 32 : Nat) 0 ((b.drop k1).take n) []).kind.toNat = f / 32 from rfl]
    simp [Itm.bytes, Itm.items, encL]
   ·rw [nodeOk]
    rcases hk with hk | hk
    ·simp [isPlain, okPlain, Itm.kind, Itm.bytes, Itm.items, Itm.n, hk]
    ·have : Lib.validD ((b.drop k1).take n) = true := by
      cases h : Lib.validD ((b.drop k1).take n) with
      | true => rfl
      | false => exact absurd ⟨hk, h⟩ h5
     simp [isPlain, okPlain, Itm.kind, Itm.bytes, Itm.items, Itm.n, hk, this]
   ·rw [Nums]; exact ⟨by omega, by rw [NumsL]; trivial⟩
  rename_i h3
  split at h
  ·rename_i h7
   split at h
   ·cases h
   rename_i y hs
   injection h with e1 e2 e3
   subst e1 e2 e3;have hu : u8 f = u8 (7 * 32 + f % 32) := by rw [show 7 * 32 + f % 32 = f by omega]
   rcases Nat.lt_or_ge (f % 32) 24 with hl | hl
   ·obtain ⟨s1, s2, s3⟩ := H.small hl;obtain ⟨g1, g2, g3, g4, g5⟩ := seven_spec (low := f % 32) (t := []) (by omega) (fun _ => ⟨s1, rfl⟩) (fun h => by omega) hs
    refine ⟨H.le, H.pos, by rw [s3, g1, hu], by rw [g5], by omega, fun lv _ => g2 lv, ?_⟩
    cases y
    rw [Nums]
    simp only [Itm.items] at g4
    subst g4
    exact ⟨g3, by rw [NumsL]; trivial⟩
   ·obtain ⟨s1, t, s2, s3, s4⟩ := H.wide hl;obtain ⟨g1, g2, g3, g4, g5⟩ := seven_spec (low := f % 32) (t := t) (by omega) (fun h => by omega) (fun _ => ⟨s2, s4⟩) hs
    refine ⟨H.le, H.pos, by rw [s3, g1, hu], by rw [g5], by omega, fun lv _ => g2 lv, ?_⟩
    cases y
    rw [Nums]
    simp only [Itm.items] at g4
    subst g4
    exact ⟨g3, by rw [NumsL]; trivial⟩
  rename_i h7
  cases d with
  | zero => cases h
  | succ d =>
   simp only at h
   have hd : d < d + 1 := by omega
   have hpos := H.pos
   split at h
   ·rename_i h6
    split at h
    ·cases h
    rename_i y k2 c2 hy
    injection h with e1 e2 e3
    subst e1 e2 e3;have r := ih d hd _ _ _ _ _ hy;have hle := H.le;have hl := r.le;rw [List.length_drop] at hl
    refine ⟨by omega, by omega, ?_, ?_, r.lim, fun lv hlv => Good.of ?_ ?_ (fun h => by simp only [Itm.kind] at h; omega), ?_⟩
    ·rw [take_drop_app, ← H.enc (by omega), encB_eq, if_neg (by simp only [Itm.kind]; omega), if_neg (by simp only [Itm.kind]; omega), h6];have e : numP (.mk 6 n [] [y]) = n := by simp [numP, Itm.kind, Itm.n]
     rw [e, ← r.enc]
     simp [Itm.kind, Itm.bytes, Itm.items, encL]
    ·rw [cnt, cntL, cntL, r.cnt]; omega
    ·rw [nodeOk, if_neg (by simp [isPlain, Itm.kind])]
     simp [frameOk, Itm.kind, Itm.bytes, Itm.items, Itm.n]
     omega
    ·simp only [Itm.items]
     rw [GoodL, GoodL]
     exact ⟨r.good _ (by omega), trivial⟩
    ·rw [Nums, NumsL, NumsL]
     exact ⟨H.n_lt, r.nums, trivial⟩
   rename_i h6
   split at h
   ·rename_i h5
    split at h
    ·cases h
    rename_i l k2 c2 hy
    injection h with e1 e2 e3
    subst e1 e2 e3;obtain ⟨r, asc, _⟩ := map_spec (ih d hd) _ _ _ _ _ _ _ (by omega) hy;have hle := H.le;have hl := r.le;have hlen := r.len;rw [List.length_drop] at hl
    refine ⟨by omega, by omega, ?_, ?_, r.lim, fun lv hlv => Good.of ?_ ?_ (fun _ => asc), ?_⟩
    ·rw [take_drop_app, ← H.enc (by omega), encB_eq, if_neg (by simp only [Itm.kind]; omega), if_neg (by simp only [Itm.kind]; omega), h5];have e : numP (.mk 5 0 [] l) = n := by simp [numP, Itm.kind, Itm.n, Itm.items, hlen]
     rw [e, ← r.enc]
     simp [Itm.kind, Itm.bytes, Itm.items]
    ·rw [cnt, r.cnt]; omega
    ·rw [nodeOk, if_neg (by simp [isPlain, Itm.kind])]
     simp [frameOk, Itm.kind, Itm.bytes, Itm.items, Itm.n, hlen]
     omega
    ·exact r.good _ (by omega)
    ·rw [Nums]
     exact ⟨by omega, r.nums⟩
   rename_i h5
   split at h
   ·cases h
   rename_i l k2 c2 hy
   injection h with e1 e2 e3
   subst e1 e2 e3;have h4 : f / 32 = 4 := by omega
   have r := arr_spec (ih d hd) _ _ _ _ _ _ (by omega) hy;have hle := H.le;have hl := r.le;have hlen := r.len;rw [List.length_drop] at hl
   refine ⟨by omega, by omega, ?_, ?_, r.lim, fun lv hlv => Good.of ?_ ?_ (fun h => by simp only [Itm.kind] at h; omega), ?_⟩
   ·rw [take_drop_app, ← H.enc (by omega), encB_eq, if_neg (by simp only [Itm.kind]; omega), if_neg (by simp only [Itm.kind]; omega), h4];have e : numP (.mk 4 0 [] l) = n := by simp [numP, Itm.kind, Itm.n, Itm.items, hlen]
    rw [e, ← r.enc]
    simp [Itm.kind, Itm.bytes, Itm.items]
   ·rw [cnt, r.cnt]; omega
   ·rw [nodeOk, if_neg (by simp [isPlain, Itm.kind])]
    simp [frameOk, Itm.kind, Itm.bytes, Itm.items, Itm.n, hlen]
    omega
   ·exact r.good _ (by omega)
   ·rw [Nums]
    exact ⟨by omega, r.nums⟩
def ReadsUp (p : List UInt8 → Nat → PR) : Prop := ∀ b c x k c', p b c = .ok x k c' → c < c' ∧ c' ≤ 256
theorem cnt_pos (x : Itm) : 0 < cnt x := by rw [cnt_eq]; omega
theorem parse_counts (d : Nat) : ReadsUp (parse d) := fun b c x k c' h => by
 have r := parse_spec d b c x k c' h;have := cnt_pos x
 exact ⟨by rw [r.cnt]; omega, r.lim⟩
def prefixP (b : List UInt8) : PR := parse 8 (b.take 4096) 0
theorem prefix_spec {b : List UInt8} {x : Itm} {k c : Nat} (h : prefixP b = .ok x k c) : k ≤ b.length ∧ k ≤ 4096 ∧ 0 < k ∧ encB x = b.take k ∧ Good x 0 ∧ Nums x ∧ cnt x ≤ 256 := by
 have r := parse_spec _ _ _ _ _ _ h;have hl := r.le;rw [List.length_take] at hl;have h1 := r.cnt;have h2 := r.lim
 refine ⟨by omega, by omega, r.pos, ?_, r.good 0 rfl, r.nums, by omega⟩
 rw [r.enc, List.take_take, show min k 4096 = k by omega]
def decodeP (b : List UInt8) : Except Nat Itm :=
 if 4096 < b.length then .error 8 else match prefixP b with
 | .err e => .error e
 | .ok x k _ => if k < b.length then .error 9 else .ok x
structure Ext where
 label : Int
 has : Bool
 val : List UInt8
def numE (x : Itm) (lim : Nat) : Option Int :=
 if x.kind = 0 ∧ x.n ≤ lim then some (x.n : Int) else if x.kind = 1 ∧ x.n < lim then some (-1 - (x.n : Int)) else none
def intB (n : Int) : List UInt8 := if n < 0 then headB 1 (-1 - n).toNat else headB 0 n.toNat
def decExtN : Nat → List Ext → List UInt8 → Except Nat (List Ext)
 | 0, out, _ => .ok out
 | n + 1, out, b =>
  if b.length = 0 then .ok out
  else match prefixP b with
   | .err e => .error e
   | .ok x k _ =>
    if x.kind = 2 then
     (match out.getLast? with
     | none => .error 4
     | some l =>
      if l.has then .error 4 else if 600 < x.bytes.length then .error 8
      else decExtN n (out.dropLast ++ [{ l with has := true, val := x.bytes }]) (b.drop k))
    else match numE x 65535 with
     | none => .error 4
     | some v => if out.length = 4 then .error 8 else decExtN n (out ++ [{ label := v, has := false, val := [] }]) (b.drop k)
def decExt (b : List UInt8) : Except Nat (List Ext) := decExtN (b.length + 1) [] b
def shortB (c : UInt8) : Bool := decide (c.toNat < 24) || decide (32 ≤ c.toNat) && decide (c.toNat < 56)
def parseConn (b : List UInt8) : Except Nat (List UInt8 × Nat) :=
 match b with
 | [] => .error 2
 | x :: t =>
  if shortB x then .ok ([x], 1)
  else if x.toNat < 64 ∨ 88 < x.toNat then .error 4
  else if 7 < x.toNat - 64 then .error 8
  else if b.length < 1 + (x.toNat - 64) then .error 2
  else if x.toNat - 64 = 1 ∧ shortB (b.getD 1 0) then .error 4
  else .ok (t.take (x.toNat - 64), 1 + (x.toNat - 64))
def twice : List Int → Bool
 | [] => false
 | x :: l => l.contains x || twice l
structure First where
 method : Int
 suites : List Int
 gx : List UInt8
 conn : List UInt8
 ext : List Ext
def numsE : List Itm → Option (List Int)
 | [] => some []
 | x :: l => match numE x 65535 with
  | none => none
  | some v => if v < 0 then none else match numsE l with
   | none => none
   | some t => some (v :: t)
def suitesE (x : Itm) : Except Nat (List Int) :=
 if x.kind = 0 then (if x.n ≤ 65535 then .ok [(x.n : Int)] else .error 4)
 else if x.kind ≠ 4 ∨ x.items.length < 2 then .error 4
 else match numsE x.items with
  | none => .error 4
  | some l => if twice l then .error 7 else if 8 < l.length then .error 8 else .ok l
theorem good_intP (n : Int) (lv : Nat) : Good (intP n) lv := by
 rw [intP]
 split <;> (rw [Good]; refine ⟨?_, by rw [GoodL]; trivial, by intro h; omega⟩; simp [nodeOk, isPlain, okPlain, frameOk, Itm.kind, Itm.bytes, Itm.items, Itm.n])
theorem encB_intP (n : Int) : encB (intP n) = intB n := by
 rw [enc_num (good_intP n 0) (by rw [intP]; split <;> simp [Itm.kind]), intP, intB]
 split <;> rfl
abbrev psrC (A : Option Addr) (n c p cnt : Nat) : Array Value := #[.slice A n c, .int .i64 (p : Int), .int .i64 (cnt : Int)]
structure Psr (T : TypeId) (w : World) (g : Nat) (H : Snap) (A : Option Addr) (c : Nat) (l : List UInt8) (p cnt : Nat) : Prop where
 blk : Blk w g T (psrC A l.length c p cnt)
 bytes : IsBytes H A c l
 holds : Holds w H
 apart : H g = none
 le : p ≤ l.length
 small : l.length ≤ 4096
 cnt_le : cnt ≤ 256
theorem grown_drewN {w0 w : World} {r : Option Nat} (h : w0.grownBy w r) : ∀ q, w0.grownBy (w.drewN q) r
 | 0 => h
 | q + 1 => grown_drew (grown_drewN h q)
def NumSaid (T : TypeId) (w : World) (g : Nat) (A : Option Addr) (c : Nat) (l : List UInt8) (p cnt z : Nat) (e : Ending) (w' : World) : Prop :=
 (l.length < p + z ∧ e = .returned (.tuple #[.int .u64 0, .bool false]) ∧ Blk w' g T (psrC A l.length c p cnt) ∧ w.grownBy w' (some g)) ∨
 (p + z ≤ l.length ∧ e = .returned (.tuple #[.int .u64 (beN ((l.drop p).take z) : Int), .bool true]) ∧ Blk w' g T (psrC A l.length c (p + z) cnt) ∧ w.grownBy w' (some g))
theorem or_byte (x c : Nat) (hc : c < 256) : x * 256 ||| c = x * 256 + c := by
 have h := Nat.shiftLeft_add_eq_or_of_lt (show c < 2 ^ 8 by omega) x;rw [Nat.shiftLeft_eq] at h
 exact h.symm
theorem u64_or_byte (x c : Nat) (hx : x * 256 < 18446744073709551616) (hc : c < 256) : bits .or .u64 ((x : Int) * 256) (c : Int) = ((x * 256 + c : Nat) : Int) := by
 rw [show ((x : Int) * 256) = ((x * 256 : Nat) : Int) by omega, u64_or_nat _ _ hx (by omega), or_byte x c hc]
theorem beN_take (l : List UInt8) (k : Nat) (hk : k < l.length) : beN (l.take (k + 1)) = beN (l.take k) * 256 + l[k].toNat := by
 rw [List.take_succ_eq_append_getElem hk, beN_snoc]
theorem beN_take_lt (l : List UInt8) (k : Nat) (hk : k < 8) : beN (l.take k) * 256 < 18446744073709551616 := by
 have h := beN_lt (l.take k);have h2 : (l.take k).length ≤ 7 := by rw [List.length_take]; omega
 have h3 : (256 : Nat) ^ (l.take k).length ≤ 256 ^ 7 := Nat.pow_le_pow_right (by omega) h2;have h4 : (256 : Nat) ^ 7 = 72057594037927936 := by decide
 omega
theorem size_int1 : (Tryz.prog.info? 3).map (·.size) = some 1 := by kernel_rfl
theorem p_number {w : World} {g : Nat} {H : Snap} {A : Option Addr} {c : Nat} {l : List UInt8} {p cnt : Nat} (hP : Psr 107 w g H A c l p cnt) (z : Nat) (hz1 : 1 ≤ z) (hz8 : z ≤ 8) :
  Calls Tryz.prog 89 #[.pointer (some ⟨g, 0, none⟩), .int .i64 (z : Int)] w (NumSaid 107 w g A c l p cnt z) := by
 have hB := hP.blk;have c0 := hB.cell 0 rfl;have c1 := hB.cell 1 rfl;have HP := Hh hP;have hpl := hP.le;have hsm := hP.small;have hcl := hP.bytes.le;have hcm := hP.bytes.max;have HZ := Hh (And.intro hz1 hz8);have hzi : (z : Int) ≤ 8 := by omega
 have hpi : (p : Int) ≤ (l.length : Int) := by omega
 have hli : (l.length : Int) ≤ 4096 := by omega
 have K0 : IntKind.i64.wrap ((l.length : Int) - (p : Int)) = (l.length : Int) - (p : Int) := IntWalk.i64_in _ (by omega)
 by_cases hlt : l.length < p + z
 ·have z0 : (l.length : Int) - (p : Int) < (z : Int) := by omega
  have HL := Hh hlt;clear hz1 hz8 hpl hsm hcl hcm hP hlt;go_enter Tryz.func89, Tryz.ntmps89
  go_wp2_with fail
  go_big_quiet (fail)
  go_wp2_with fail
  go_ret2
  exact .inl ⟨HL.out, rfl, hB, grown_drewN (grown_refl w _) _⟩
 ·have z0 : ¬ ((l.length : Int) - (p : Int) < (z : Int)) := by omega
  have z0b : decide ((l.length : Int) - (p : Int) < (z : Int)) = false := decide_eq_false z0;have K1 : IntKind.i64.wrap ((p : Int) + (z : Int)) = (p : Int) + (z : Int) := IntWalk.i64_in _ (by omega);have hle2 : (p : Int) ≤ (p : Int) + (z : Int) := by omega
  have hle3 : (p : Int) + (z : Int) ≤ (c : Int) := by omega
  have hle4 : (p : Int) ≤ (c : Int) := by omega
  have hp0 : (0 : Int) ≤ (p : Int) := by omega
  have hcp : (c = p) = False := eq_false (by omega);obtain ⟨b, off, rfl, hcell⟩ := hP.bytes.at_ (by omega);have HC := Hh hcell;have HH := Hh hP.holds;have HL := Hh (Nat.not_lt.1 hlt);clear hz1 hz8 hpl hsm hcl hcm hP hcell hlt;go_enter Tryz.func89, Tryz.ntmps89
  go_wp2_with fail
  go_big_quiet (fail)
  obtain ⟨w1, hw1⟩ : ∃ W, w.drewN nq = W := ⟨_, rfl⟩
  have hB1 : Blk w1 g 107 (psrC (some ⟨b, off, none⟩) l.length c p cnt) := hw1 ▸ hB;have hG1 : w.grownBy w1 (some g) := hw1 ▸ grown_drewN (grown_refl w _) _;have hH1 : Holds w1 H := hw1 ▸ HH.out;rw [hw1];clear hw1 c0 c1;have c0 := hB1.cell 0 rfl;have c1 := hB1.cell 1 rfl;go_wp2_with fail
  go_big_quiet (fail)
  go_wp2_with fail
  obtain ⟨W, hW⟩ : ∃ W, w1.drewN nq = W := ⟨_, rfl⟩
  have hBW : Blk W g 107 (psrC (some ⟨b, off, none⟩) l.length c p cnt) := hW ▸ hB1;have hGW : w.grownBy W (some g) := hW ▸ grown_drewN hG1 _;have hHW : Holds W H := hW ▸ hH1;rw [hW];clear hW c0 c1 hB hB1 hG1 hH1;have E : Hid ((l.drop p).length = l.length - p) := List.length_drop;go_loopw [6, 8, 37] (fun v6 v8 v37 wr => wr = W ∧ ∃ k : Nat, k ≤ z ∧ v37 = .int .i64 (k : Int) ∧ v6 = .int .u64 (beN ((l.drop p).take k) : Int)) (fun _ _ v37 _ => z - (intOf v37).toNat)
  case atStart => exact ⟨rfl, 0, Nat.zero_le _, rfl, rfl⟩
  case round =>
   obtain ⟨rfl, k, hk, rfl, rfl⟩ := hrel
   by_cases hkz : k < z
   ·have hkl : p + k < l.length := by have := HL.out; omega
    have hkz2 : (k : Int) < (z : Int) := by omega
    have hkd : k < (l.drop p).length := by have := E.out; omega
    have q0 := hHW.cell (HC.out (p + k) hkl);rw [← Nat.add_assoc] at q0;have ex : (l.drop p)[k] = l[p + k] := by rw [List.getElem_drop]
    have hX := beN_take_lt (l.drop p) k (by have := HZ.out; omega);have hS := beN_take (l.drop p) k hkd;rw [ex] at hS;obtain ⟨X, hXX⟩ : ∃ X, beN ((l.drop p).take k) = X := ⟨_, rfl⟩
    obtain ⟨ch, hch⟩ : ∃ ch, l[p + k] = ch := ⟨_, rfl⟩
    rw [hXX] at hX hS ⊢;rw [hch] at hS q0;have lc := ch.toNat_lt;have K2 : IntKind.u64.wrap ((X : Int) * 256) = (X : Int) * 256 := by rw [IntKind.wrap_u64]; omega
    have K3 : bits .or .u64 ((X : Int) * 256) (ch.toNat : Int) = ((X * 256 + ch.toNat : Nat) : Int) := u64_or_byte X _ hX lc;have HS := Hh hS;have hk1 : (k : Int) + 1 ≤ 9223372036854775807 := by have := HZ.out; omega
    clear hX hS hXX hch ex hkd;go_wp2_with fail
    go_roundw
    case rel => exact ⟨by trivial, k + 1, by omega, by go_num, by rw [HS.out, Int.natCast_add, Int.natCast_mul]; rfl⟩
    case measure => simp [intOf]; omega
   ·have hkk : k = z := by omega
    subst hkk;have hnl : ¬ ((k : Int) < (k : Int)) := by omega
    have c1 := hBW.cell 1 rfl;obtain ⟨X, hXX⟩ : ∃ X, beN ((l.drop p).take k) = X := ⟨_, rfl⟩
    rw [hXX];have HX := Hh hXX;clear hXX;go_wp2_with (with_reducible refine stop_store ?_)
    refine wpList_store_cell rfl _ _ _ rfl rfl g 1 (.int .i64 ((p : Int) + (k : Int))) rfl rfl _ _ hBW size_int1 (by simp) rfl fun w2 hB2 hG2 => ?_
    have hG3 := grown_step hGW hG2 (.inl rfl)
    have hB3 : Blk w2 g 107 (psrC (some ⟨b, off, none⟩) l.length c (p + k) cnt) := by
     have e : ((p + k : Nat) : Int) = (p : Int) + (k : Int) := by omega
     rw [psrC, e]
     exact hB2
    clear hB2 hG2 hBW hGW c1;go_wp2_with fail
    go_ret2
    exact .inr ⟨HL.out, by rw [HX.out]; rfl, hB3, hG3⟩
def HeadSaid (T : TypeId) (w : World) (g : Nat) (A : Option Addr) (c : Nat) (l : List UInt8) (p cnt : Nat) (e : Ending) (w' : World) : Prop :=
 match headP (l.drop p) with
 | .error q => e = .returned (.tuple #[.int .u8 0, .int .u64 0, .int .i64 (q : Int)]) ∧ (∃ p', p' ≤ l.length ∧ Blk w' g T (psrC A l.length c p' cnt)) ∧ w.grownBy w' (some g)
 | .ok (f, n, k) => e = .returned (.tuple #[.int .u8 (f : Int), .int .u64 (n : Int), .int .i64 0]) ∧ Blk w' g T (psrC A l.length c (p + k) cnt) ∧ w.grownBy w' (some g)
theorem HeadSaid.err {T : TypeId} {w w' : World} {g : Nat} {A : Option Addr} {c : Nat} {l : List UInt8} {p cnt : Nat} {e : Ending} {q : Nat} (h : headP (l.drop p) = .error q) (he : e = .returned (.tuple #[.int .u8 0, .int .u64 0, .int .i64 (q : Int)]))
  (p' : Nat) (hp : p' ≤ l.length) (hb : Blk w' g T (psrC A l.length c p' cnt)) (hg : w.grownBy w' (some g)) : HeadSaid T w g A c l p cnt e w' := by
 rw [HeadSaid, h]; exact ⟨he, ⟨p', hp, hb⟩, hg⟩
theorem HeadSaid.ok {T : TypeId} {w w' : World} {g : Nat} {A : Option Addr} {c : Nat} {l : List UInt8} {p cnt : Nat} {e : Ending} {f n k : Nat} (h : headP (l.drop p) = .ok (f, n, k)) (he : e = .returned (.tuple #[.int .u8 (f : Int), .int .u64 (n : Int), .int .i64 0]))
  (hb : Blk w' g T (psrC A l.length c (p + k) cnt)) (hg : w.grownBy w' (some g)) : HeadSaid T w g A c l p cnt e w' := by
 rw [HeadSaid, h]; exact ⟨he, hb, hg⟩
theorem and31 : ∀ X : Fin 256, bits .and .u8 ((X.val : Nat) : Int) 31 = ((X.val % 32 : Nat) : Int) := by decide
theorem drop_cons {l : List UInt8} {p : Nat} (hp : p < l.length) : l.drop p = l[p] :: l.drop (p + 1) := List.drop_eq_getElem_cons hp
theorem p_head {w : World} {g : Nat} {H : Snap} {A : Option Addr} {c : Nat} {l : List UInt8} {p cnt : Nat} (hP : Psr 107 w g H A c l p cnt) :
  Calls Tryz.prog 76 #[.pointer (some ⟨g, 0, none⟩)] w (HeadSaid 107 w g A c l p cnt) := by
 have hB := hP.blk;have c0 := hB.cell 0 rfl;have c1 := hB.cell 1 rfl;have hpl := hP.le;have hsm := hP.small;have hcl := hP.bytes.le;have hcm := hP.bytes.max;have HP := Hh hP
 by_cases hlt : p = l.length
 ·have E : Hid (headP (l.drop p) = .error 2) := by rw [Hid, hlt, List.drop_length]; rfl
  have z0 : ((p : Int) == (l.length : Int)) = true := by simp [hlt]
  have HL := Hh hpl;clear hpl hsm hcl hcm hP hlt;go_enter Tryz.func76, Tryz.ntmps76
  go_wp2_with fail
  go_big_quiet (fail)
  go_wp2_with fail
  go_ret3
  exact HeadSaid.err E.out rfl p HL.out hB (grown_drewN (grown_refl w _) _)
 ·have z0 : ((p : Int) == (l.length : Int)) = false := by simp; omega
  have hp2 : p < l.length := by omega
  have hpi : (p : Int) < (l.length : Int) := by omega
  have hp0 : (0 : Int) ≤ (p : Int) := by omega
  have hpm : (p : Int) + 1 ≤ 9223372036854775807 := by omega
  obtain ⟨b, off, rfl, hcell⟩ := hP.bytes.at_ (by omega);have HC := Hh hcell;have HH := Hh hP.holds;have q0 := hP.holds.cell (hcell p hp2);have ED := Hh (drop_cons hp2);obtain ⟨ch, hch⟩ : ∃ ch, l[p] = ch := ⟨_, rfl⟩
  rw [hch] at q0 ED;have lc := ch.toNat_lt;have KA := and31 ⟨ch.toNat, lc⟩
  simp only at KA
  obtain ⟨low, hlow⟩ : ∃ low, ch.toNat % 32 = low := ⟨_, rfl⟩
  rw [hlow] at KA;have HLOW := Hh hlow;have hl32 : low < 32 := by omega
  have HL := Hh (And.intro hp2 (And.intro hsm (And.intro hcl hcm)))
  have EH : Hid (headP (l.drop p) = if 27 < low then .error 3 else if low < 24 then .ok (ch.toNat, low, 1) else if (l.drop (p + 1)).length < 2 ^ (low - 24) then .error 2
    else if ch.toNat / 32 < 7 ∧ (headB 0 (beN ((l.drop (p + 1)).take (2 ^ (low - 24))))).length ≠ 1 + 2 ^ (low - 24) then .error 4
    else .ok (ch.toNat, beN ((l.drop (p + 1)).take (2 ^ (low - 24))), 1 + 2 ^ (low - 24))) := by rw [Hid, ED.out, headP, hlow]
  clear hpl hsm hcl hcm hP hlt hcell hch hlow hp2 ED lc;go_enter Tryz.func76, Tryz.ntmps76
  go_wp2_with fail
  go_big_quiet (fail)
  obtain ⟨w1, hw1⟩ : ∃ W, w.drewN nq = W := ⟨_, rfl⟩
  have hB1 : Blk w1 g 107 (psrC (some ⟨b, off, none⟩) l.length c p cnt) := hw1 ▸ hB;have hG1 : w.grownBy w1 (some g) := hw1 ▸ grown_drewN (grown_refl w _) _;have hH1 : Holds w1 H := hw1 ▸ HH.out;have q1 : w1.cell? ⟨b, off + p, none⟩ = some (byteV ch) := hw1 ▸ q0;rw [hw1];clear hw1 c0 c1 q0 hB;have c0 := hB1.cell 0 rfl;have c1 := hB1.cell 1 rfl;go_upto_region 3 with fail
  go_big_quiet (fail)
  obtain ⟨w2, hw2⟩ : ∃ W, w1.drewN nq = W := ⟨_, rfl⟩
  have hB2 : Blk w2 g 107 (psrC (some ⟨b, off, none⟩) l.length c p cnt) := hw2 ▸ hB1;have hG2 : w.grownBy w2 (some g) := hw2 ▸ grown_drewN hG1 _;have hH2 : Holds w2 H := hw2 ▸ hH1;rw [hw2];clear hw2 c0 c1 hB1 hG1 hH1 q1;have c1 := hB2.cell 1 rfl
  by_cases h27 : 27 < low
  ·have z27 : (27 : Int) < (low : Int) := by omega
   have E : Hid (headP (l.drop p) = .error 3) := by rw [Hid, EH.out, if_pos h27]
   go_wp2_with fail
   go_ret3
   exact HeadSaid.err E.out rfl p (Nat.le_of_lt HL.out.1) hB2 hG2
  have z27 : ¬ ((27 : Int) < (low : Int)) := by omega
  have E1 : Hid (headP (l.drop p) = if low < 24 then .ok (ch.toNat, low, 1) else if (l.drop (p + 1)).length < 2 ^ (low - 24) then .error 2
    else if ch.toNat / 32 < 7 ∧ (headB 0 (beN ((l.drop (p + 1)).take (2 ^ (low - 24))))).length ≠ 1 + 2 ^ (low - 24) then .error 4
    else .ok (ch.toNat, beN ((l.drop (p + 1)).take (2 ^ (low - 24))), 1 + 2 ^ (low - 24))) := by rw [Hid, EH.out, if_neg h27]
  clear EH;have K1 : IntKind.i64.wrap ((p : Int) + 1) = (p : Int) + 1 := IntWalk.i64_in _ (by omega);go_wp2_with (with_reducible refine stop_store ?_)
  refine wpList_store_cell rfl _ _ _ rfl rfl g 1 (.int .i64 ((p : Int) + 1)) rfl rfl _ _ hB2 size_int1 (by simp) rfl fun w3 hB3 hG3' => ?_
  have hG3 := grown_step hG2 hG3' (.inl rfl);have hB3 : Blk w3 g 107 (psrC (some ⟨b, off, none⟩) l.length c (p + 1) cnt) := hB3;have hH3 : Holds w3 H := hH2.grown hG3' (by rintro q ⟨⟩; exact HP.out.apart);clear hB2 hG2 hG3' c1 hH2 K1
  by_cases h24 : low < 24
  ·have z24 : (low : Int) < 24 := by omega
   have E : Hid (headP (l.drop p) = .ok (ch.toNat, low, 1)) := by rw [Hid, E1.out, if_pos h24]
   have KU : IntKind.u64.wrap (low : Int) = (low : Int) := by rw [IntKind.wrap_u64]; omega
   go_wp2_with fail
   go_ret3
   exact HeadSaid.ok E.out rfl hB3 hG3
  have z24 : ¬ ((low : Int) < 24) := by omega
  have E2 : Hid (headP (l.drop p) = if (l.drop (p + 1)).length < 2 ^ (low - 24) then .error 2
    else if ch.toNat / 32 < 7 ∧ (headB 0 (beN ((l.drop (p + 1)).take (2 ^ (low - 24))))).length ≠ 1 + 2 ^ (low - 24) then .error 4
    else .ok (ch.toNat, beN ((l.drop (p + 1)).take (2 ^ (low - 24))), 1 + 2 ^ (low - 24))) := by rw [Hid, E1.out, if_neg h24]
  clear E1;have hP3 : Psr 107 w3 g H (some ⟨b, off, none⟩) c l (p + 1) cnt := ⟨hB3, HP.out.bytes, hH3, HP.out.apart, HL.out.1, HP.out.small, HP.out.cnt_le⟩
  rcases (by omega : low = 24 ∨ low = 25 ∨ low = 26 ∨ low = 27) with rfl | rfl | rfl | rfl
  ·have NM := Hh (p_number hP3 1 (by omega) (by omega))
   simp only [Nat.reduceSub, Nat.reducePow, Nat.reduceAdd] at E2
   clear h27 h24 z27 z24 hl32 hP3;go_wp2_with fail
   refine NM.out.mono ?_
   rintro e w4 (⟨hs, rfl, hB4, hG4⟩ | ⟨hs, rfl, hB4, hG4⟩)
   ·have E : Hid (headP (l.drop p) = .error 2) := by rw [Hid, E2.out, if_pos (by rw [List.length_drop]; have := HL.out.1; omega)]
    have hG5 := grown_step hG3 hG4 (.inl rfl);clear NM hs;go_wp2_with fail
    go_ret3
    exact HeadSaid.err E.out rfl (p + 1) HL.out.1 hB4 hG5
   ·have E3 : Hid (headP (l.drop p) = if ch.toNat / 32 < 7 ∧ (headB 0 (beN ((l.drop (p + 1)).take 1))).length ≠ 2 then .error 4 else .ok (ch.toNat, beN ((l.drop (p + 1)).take 1), 2)) := by
     rw [Hid, E2.out, if_neg (by rw [List.length_drop]; have := HL.out.1; omega)]
    have hG5 := grown_step hG3 hG4 (.inl rfl);have hnb := beN_lt ((l.drop (p + 1)).take 1);have hnl : ((l.drop (p + 1)).take 1).length = 1 := by rw [List.length_take, List.length_drop]; omega
    rw [hnl] at hnb
    simp only [Nat.reducePow] at hnb
    obtain ⟨n, hn⟩ : ∃ n, beN ((l.drop (p + 1)).take 1) = n := ⟨_, rfl⟩
    rw [hn] at E3 hnb ⊢;have HD := Hh (fun w => cbor_head 0 (n : Int) w (by omega) (by omega) (by omega) (by omega));have HS := Hh hs;have hB5 : Blk w4 g 107 (psrC (some ⟨b, off, none⟩) l.length c (p + 2) cnt) := hB4;clear NM hs E2 hn hnl hnb hB4 hG4
    by_cases h7 : ch.toNat / 32 < 7
    ·have z7 : (ch.toNat : Int) / 32 < 7 := by omega
     have E4 : Hid (headP (l.drop p) = if (headB 0 n).length ≠ 2 then .error 4 else .ok (ch.toNat, n, 2)) := by
      rw [Hid, E3.out]
      by_cases h : (headB 0 n).length = 2 <;> simp [h, h7]
     clear E3 h7;go_wp2_with fail
     refine (HD.out _).mono ?_
     rintro e w5 ⟨r, rfl, hf⟩
     have hB6 := hB5.below hf.2;have hG6 := grown_below hG5 hf.2;obtain ⟨RA, rc, rfl, _⟩ := hf.own.form;obtain ⟨hn, hhn⟩ : ∃ hn, (headB (0 : Int).toNat (n : Int).toNat).length = hn := ⟨_, rfl⟩
     rw [hhn];have E5 : Hid (headP (l.drop p) = if hn ≠ 2 then .error 4 else .ok (ch.toNat, n, 2)) := by rw [Hid, E4.out, ← hhn]; rfl
     clear hf HD E4 hhn hB5 hG5
     by_cases hq : hn = 2
     ·subst hq;have E : Hid (headP (l.drop p) = .ok (ch.toNat, n, 2)) := by rw [Hid, E5.out, if_neg (by simp)]
      clear E5;go_wp2_with fail
      go_ret3
      exact HeadSaid.ok E.out rfl hB6 hG6
     ·have zq : ((hn : Int) == 2) = false := by simp; omega
      have zq2 : ((hn : Int) = 2) = False := eq_false (by omega);have E : Hid (headP (l.drop p) = .error 4) := by rw [Hid, E5.out, if_pos hq]
      clear E5 hq z0 hpm hpi hp0 KA;go_wp2_with fail
      go_ret3
      exact HeadSaid.err E.out rfl (p + 2) (by have := HS.out; omega) hB6 hG6
    ·have z7 : ¬ ((ch.toNat : Int) / 32 < 7) := by omega
     have z7b : decide ((ch.toNat : Int) / 32 < 7) = false := decide_eq_false z7;have E : Hid (headP (l.drop p) = .ok (ch.toNat, n, 2)) := by rw [Hid, E3.out, if_neg (fun h => h7 h.1)]
     clear E3 h7 HD z7 z0;go_wp2_with fail
     go_ret3
     exact HeadSaid.ok E.out rfl hB5 hG5
  ·have NM := Hh (p_number hP3 2 (by omega) (by omega))
   simp only [Nat.reduceSub, Nat.reducePow, Nat.reduceAdd] at E2
   clear h27 h24 z27 z24 hl32 hP3;go_wp2_with fail
   refine NM.out.mono ?_
   rintro e w4 (⟨hs, rfl, hB4, hG4⟩ | ⟨hs, rfl, hB4, hG4⟩)
   ·have E : Hid (headP (l.drop p) = .error 2) := by rw [Hid, E2.out, if_pos (by rw [List.length_drop]; have := HL.out.1; omega)]
    have hG5 := grown_step hG3 hG4 (.inl rfl);clear NM hs;go_wp2_with fail
    go_ret3
    exact HeadSaid.err E.out rfl (p + 1) HL.out.1 hB4 hG5
   ·have E3 : Hid (headP (l.drop p) = if ch.toNat / 32 < 7 ∧ (headB 0 (beN ((l.drop (p + 1)).take 2))).length ≠ 3 then .error 4 else .ok (ch.toNat, beN ((l.drop (p + 1)).take 2), 3)) := by
     rw [Hid, E2.out, if_neg (by rw [List.length_drop]; have := HL.out.1; omega)]
    have hG5 := grown_step hG3 hG4 (.inl rfl);have hnb := beN_lt ((l.drop (p + 1)).take 2);have hnl : ((l.drop (p + 1)).take 2).length = 2 := by rw [List.length_take, List.length_drop]; omega
    rw [hnl] at hnb
    simp only [Nat.reducePow] at hnb
    obtain ⟨n, hn⟩ : ∃ n, beN ((l.drop (p + 1)).take 2) = n := ⟨_, rfl⟩
    rw [hn] at E3 hnb ⊢;have HD := Hh (fun w => cbor_head 0 (n : Int) w (by omega) (by omega) (by omega) (by omega));have HS := Hh hs;have hB5 : Blk w4 g 107 (psrC (some ⟨b, off, none⟩) l.length c (p + 3) cnt) := hB4;clear NM hs E2 hn hnl hnb hB4 hG4
    by_cases h7 : ch.toNat / 32 < 7
    ·have z7 : (ch.toNat : Int) / 32 < 7 := by omega
     have E4 : Hid (headP (l.drop p) = if (headB 0 n).length ≠ 3 then .error 4 else .ok (ch.toNat, n, 3)) := by
      rw [Hid, E3.out]
      by_cases h : (headB 0 n).length = 3 <;> simp [h, h7]
     clear E3 h7;go_wp2_with fail
     refine (HD.out _).mono ?_
     rintro e w5 ⟨r, rfl, hf⟩
     have hB6 := hB5.below hf.2;have hG6 := grown_below hG5 hf.2;obtain ⟨RA, rc, rfl, _⟩ := hf.own.form;obtain ⟨hn, hhn⟩ : ∃ hn, (headB (0 : Int).toNat (n : Int).toNat).length = hn := ⟨_, rfl⟩
     rw [hhn];have E5 : Hid (headP (l.drop p) = if hn ≠ 3 then .error 4 else .ok (ch.toNat, n, 3)) := by rw [Hid, E4.out, ← hhn]; rfl
     clear hf HD E4 hhn hB5 hG5
     by_cases hq : hn = 3
     ·subst hq;have E : Hid (headP (l.drop p) = .ok (ch.toNat, n, 3)) := by rw [Hid, E5.out, if_neg (by simp)]
      clear E5;go_wp2_with fail
      go_ret3
      exact HeadSaid.ok E.out rfl hB6 hG6
     ·have zq : ((hn : Int) == 3) = false := by simp; omega
      have zq2 : ((hn : Int) = 3) = False := eq_false (by omega);have E : Hid (headP (l.drop p) = .error 4) := by rw [Hid, E5.out, if_pos hq]
      clear E5 hq z0 hpm hpi hp0 KA;go_wp2_with fail
      go_ret3
      exact HeadSaid.err E.out rfl (p + 3) (by have := HS.out; omega) hB6 hG6
    ·have z7 : ¬ ((ch.toNat : Int) / 32 < 7) := by omega
     have z7b : decide ((ch.toNat : Int) / 32 < 7) = false := decide_eq_false z7;have E : Hid (headP (l.drop p) = .ok (ch.toNat, n, 3)) := by rw [Hid, E3.out, if_neg (fun h => h7 h.1)]
     clear E3 h7 HD z7 z0;go_wp2_with fail
     go_ret3
     exact HeadSaid.ok E.out rfl hB5 hG5
  ·have NM := Hh (p_number hP3 4 (by omega) (by omega))
   simp only [Nat.reduceSub, Nat.reducePow, Nat.reduceAdd] at E2
   clear h27 h24 z27 z24 hl32 hP3;go_wp2_with fail
   refine NM.out.mono ?_
   rintro e w4 (⟨hs, rfl, hB4, hG4⟩ | ⟨hs, rfl, hB4, hG4⟩)
   ·have E : Hid (headP (l.drop p) = .error 2) := by rw [Hid, E2.out, if_pos (by rw [List.length_drop]; have := HL.out.1; omega)]
    have hG5 := grown_step hG3 hG4 (.inl rfl);clear NM hs;go_wp2_with fail
    go_ret3
    exact HeadSaid.err E.out rfl (p + 1) HL.out.1 hB4 hG5
   ·have E3 : Hid (headP (l.drop p) = if ch.toNat / 32 < 7 ∧ (headB 0 (beN ((l.drop (p + 1)).take 4))).length ≠ 5 then .error 4 else .ok (ch.toNat, beN ((l.drop (p + 1)).take 4), 5)) := by
     rw [Hid, E2.out, if_neg (by rw [List.length_drop]; have := HL.out.1; omega)]
    have hG5 := grown_step hG3 hG4 (.inl rfl);have hnb := beN_lt ((l.drop (p + 1)).take 4);have hnl : ((l.drop (p + 1)).take 4).length = 4 := by rw [List.length_take, List.length_drop]; omega
    rw [hnl] at hnb
    simp only [Nat.reducePow] at hnb
    obtain ⟨n, hn⟩ : ∃ n, beN ((l.drop (p + 1)).take 4) = n := ⟨_, rfl⟩
    rw [hn] at E3 hnb ⊢;have HD := Hh (fun w => cbor_head 0 (n : Int) w (by omega) (by omega) (by omega) (by omega));have HS := Hh hs;have hB5 : Blk w4 g 107 (psrC (some ⟨b, off, none⟩) l.length c (p + 5) cnt) := hB4;clear NM hs E2 hn hnl hnb hB4 hG4
    by_cases h7 : ch.toNat / 32 < 7
    ·have z7 : (ch.toNat : Int) / 32 < 7 := by omega
     have E4 : Hid (headP (l.drop p) = if (headB 0 n).length ≠ 5 then .error 4 else .ok (ch.toNat, n, 5)) := by
      rw [Hid, E3.out]
      by_cases h : (headB 0 n).length = 5 <;> simp [h, h7]
     clear E3 h7;go_wp2_with fail
     refine (HD.out _).mono ?_
     rintro e w5 ⟨r, rfl, hf⟩
     have hB6 := hB5.below hf.2;have hG6 := grown_below hG5 hf.2;obtain ⟨RA, rc, rfl, _⟩ := hf.own.form;obtain ⟨hn, hhn⟩ : ∃ hn, (headB (0 : Int).toNat (n : Int).toNat).length = hn := ⟨_, rfl⟩
     rw [hhn];have E5 : Hid (headP (l.drop p) = if hn ≠ 5 then .error 4 else .ok (ch.toNat, n, 5)) := by rw [Hid, E4.out, ← hhn]; rfl
     clear hf HD E4 hhn hB5 hG5
     by_cases hq : hn = 5
     ·subst hq;have E : Hid (headP (l.drop p) = .ok (ch.toNat, n, 5)) := by rw [Hid, E5.out, if_neg (by simp)]
      clear E5;go_wp2_with fail
      go_ret3
      exact HeadSaid.ok E.out rfl hB6 hG6
     ·have zq : ((hn : Int) == 5) = false := by simp; omega
      have zq2 : ((hn : Int) = 5) = False := eq_false (by omega);have E : Hid (headP (l.drop p) = .error 4) := by rw [Hid, E5.out, if_pos hq]
      clear E5 hq z0 hpm hpi hp0 KA;go_wp2_with fail
      go_ret3
      exact HeadSaid.err E.out rfl (p + 5) (by have := HS.out; omega) hB6 hG6
    ·have z7 : ¬ ((ch.toNat : Int) / 32 < 7) := by omega
     have z7b : decide ((ch.toNat : Int) / 32 < 7) = false := decide_eq_false z7;have E : Hid (headP (l.drop p) = .ok (ch.toNat, n, 5)) := by rw [Hid, E3.out, if_neg (fun h => h7 h.1)]
     clear E3 h7 HD z7 z0;go_wp2_with fail
     go_ret3
     exact HeadSaid.ok E.out rfl hB5 hG5
  ·have NM := Hh (p_number hP3 8 (by omega) (by omega))
   simp only [Nat.reduceSub, Nat.reducePow, Nat.reduceAdd] at E2
   clear h27 h24 z27 z24 hl32 hP3;go_wp2_with fail
   refine NM.out.mono ?_
   rintro e w4 (⟨hs, rfl, hB4, hG4⟩ | ⟨hs, rfl, hB4, hG4⟩)
   ·have E : Hid (headP (l.drop p) = .error 2) := by rw [Hid, E2.out, if_pos (by rw [List.length_drop]; have := HL.out.1; omega)]
    have hG5 := grown_step hG3 hG4 (.inl rfl);clear NM hs;go_wp2_with fail
    go_ret3
    exact HeadSaid.err E.out rfl (p + 1) HL.out.1 hB4 hG5
   ·have E3 : Hid (headP (l.drop p) = if ch.toNat / 32 < 7 ∧ (headB 0 (beN ((l.drop (p + 1)).take 8))).length ≠ 9 then .error 4 else .ok (ch.toNat, beN ((l.drop (p + 1)).take 8), 9)) := by
     rw [Hid, E2.out, if_neg (by rw [List.length_drop]; have := HL.out.1; omega)]
    have hG5 := grown_step hG3 hG4 (.inl rfl);have hnb := beN_lt ((l.drop (p + 1)).take 8);have hnl : ((l.drop (p + 1)).take 8).length = 8 := by rw [List.length_take, List.length_drop]; omega
    rw [hnl] at hnb
    simp only [Nat.reducePow] at hnb
    obtain ⟨n, hn⟩ : ∃ n, beN ((l.drop (p + 1)).take 8) = n := ⟨_, rfl⟩
    rw [hn] at E3 hnb ⊢;have HD := Hh (fun w => cbor_head 0 (n : Int) w (by omega) (by omega) (by omega) (by omega));have HS := Hh hs;have hB5 : Blk w4 g 107 (psrC (some ⟨b, off, none⟩) l.length c (p + 9) cnt) := hB4;clear NM hs E2 hn hnl hnb hB4 hG4
    by_cases h7 : ch.toNat / 32 < 7
    ·have z7 : (ch.toNat : Int) / 32 < 7 := by omega
     have E4 : Hid (headP (l.drop p) = if (headB 0 n).length ≠ 9 then .error 4 else .ok (ch.toNat, n, 9)) := by
      rw [Hid, E3.out]
      by_cases h : (headB 0 n).length = 9 <;> simp [h, h7]
     clear E3 h7;go_wp2_with fail
     refine (HD.out _).mono ?_
     rintro e w5 ⟨r, rfl, hf⟩
     have hB6 := hB5.below hf.2;have hG6 := grown_below hG5 hf.2;obtain ⟨RA, rc, rfl, _⟩ := hf.own.form;obtain ⟨hn, hhn⟩ : ∃ hn, (headB (0 : Int).toNat (n : Int).toNat).length = hn := ⟨_, rfl⟩
     rw [hhn];have E5 : Hid (headP (l.drop p) = if hn ≠ 9 then .error 4 else .ok (ch.toNat, n, 9)) := by rw [Hid, E4.out, ← hhn]; rfl
     clear hf HD E4 hhn hB5 hG5
     by_cases hq : hn = 9
     ·subst hq;have E : Hid (headP (l.drop p) = .ok (ch.toNat, n, 9)) := by rw [Hid, E5.out, if_neg (by simp)]
      clear E5;go_wp2_with fail
      go_ret3
      exact HeadSaid.ok E.out rfl hB6 hG6
     ·have zq : ((hn : Int) == 9) = false := by simp; omega
      have zq2 : ((hn : Int) = 9) = False := eq_false (by omega);have E : Hid (headP (l.drop p) = .error 4) := by rw [Hid, E5.out, if_pos hq]
      clear E5 hq z0 hpm hpi hp0 KA;go_wp2_with fail
      go_ret3
      exact HeadSaid.err E.out rfl (p + 9) (by have := HS.out; omega) hB6 hG6
    ·have z7 : ¬ ((ch.toNat : Int) / 32 < 7) := by omega
     have z7b : decide ((ch.toNat : Int) / 32 < 7) = false := decide_eq_false z7;have E : Hid (headP (l.drop p) = .ok (ch.toNat, n, 9)) := by rw [Hid, E3.out, if_neg (fun h => h7 h.1)]
     clear E3 h7 HD z7 z0;go_wp2_with fail
     go_ret3
     exact HeadSaid.ok E.out rfl hB5 hG5
theorem IsItem.plain (H : Snap) (k : Int) (n : Nat) (hk : -9223372036854775808 ≤ k ∧ k ≤ 9223372036854775807) (hn : n < 18446744073709551616) : IsItem H none 0 none 0 (.mk k n [] []) := by
 rw [IsItem]
 exact ⟨⟨hk.1, hk.2, hn, Nat.le_refl _, by omega⟩, IsBytes.nil H, fun h => absurd h (by simp)⟩
theorem Gives.plain {w w' : World} {H : Snap} {k n : Int} {m : Nat} (hH : Holds w H) (hb : Below w.heap.size w w') (hk : -9223372036854775808 ≤ k ∧ k ≤ 9223372036854775807) (hm : m < 18446744073709551616) (hn : n = (m : Int)) :
  Gives w H (.mk k m [] []) (.agg #[.int .i64 k, .int .u64 n, .slice none 0 0, .slice none 0 0]) w' := by
 subst hn
 exact ⟨none, 0, none, 0, H, rfl, Grows.of_below hH hb, IsItem.plain H k m hk hm⟩
theorem Fresh.gives {w w1 : World} {H : Snap} {l : List UInt8} {r : Value} {k : Int} (hH : Holds w H) (h : Fresh w l r w1) (hk : -9223372036854775808 ≤ k ∧ k ≤ 9223372036854775807) :
  Gives w H (.mk k 0 l []) (.agg #[.int .i64 k, .int .u64 0, r, .slice none 0 0]) w1 := by
 obtain ⟨A, c, rfl, _⟩ := h.own.form;obtain ⟨H', hl, hh, hf, _, hi⟩ := h.own.snap (hH.below h.2 (Nat.le_refl _)) (fun g hg => hH.none_of_ge (h.own.lt g (by cases A <;> simp_all [Value.ownBlock])).1)
 refine ⟨A, c, none, 0, H', rfl, ⟨h.2, hl, hh, fun b o hb => ?_⟩, ?_⟩
 ·rcases hf b o hb with h1 | h1
  ·exact .inl h1
  ·exact .inr (h.own.lt b (by cases A <;> simp_all [Value.ownBlock])).1
 ·rw [IsItem]
  exact ⟨⟨hk.1, hk.2, by omega, Nat.le_refl _, by omega⟩, hi, fun h => absurd h (by simp)⟩
theorem Grows.own {w wA w1 w' : World} {H H' : Snap} {g : Nat} (hA : Below w.heap.size w wA) (hH : Holds w H) (h : Grows wA H w1 H') (hg : w1.grownBy w' (some g)) (h1 : w.heap.size ≤ g) (h2 : g < wA.heap.size) : Grows w H w' H' :=
 ⟨(hA.trans (h.below.mono hA.size)).grown hg (Nat.le_trans hA.size h.below.size) (by rintro k ⟨⟩; exact h1), h.le, h.holds.grown hg (by rintro k ⟨⟩; exact h.none (hH.none_of_ge h1) h2), fun b o hb => by
  rcases h.fresh b o hb with h | h
  ·exact .inl h
  ·exact .inr (Nat.le_trans hA.size h)⟩
theorem Gives.own {w wA w1 w' : World} {H : Snap} {x : Itm} {v : Value} {g : Nat} (hA : Below w.heap.size w wA) (hH : Holds w H) (h : Gives wA H x v w1) (hg : w1.grownBy w' (some g)) (h1 : w.heap.size ≤ g) (h2 : g < wA.heap.size) : Gives w H x v w' := by
 obtain ⟨ba, bc, ia, ic, H', e, hG, hi⟩ := h
 exact ⟨ba, bc, ia, ic, H', e, hG.own hA hH hg h1 h2, hi⟩
theorem one4 (a b c d : Value) (ha : a.oneCell' = true) (hb : b.oneCell' = true) (hc : c.oneCell' = true) (hd : d.oneCell' = true) : (#[a, b, c, d] : Array Value).all (·.oneCell') = true := by simp [ha, hb, hc, hd]
theorem cbor_Uint (n : Nat) (hn : n < 18446744073709551616) {H : Snap} (w : World) (hH : Holds w H) :
  Calls Tryz.prog 63 #[.int .u64 n] w fun e w' => ∃ v, e = .returned v ∧ Gives w H (.mk 0 n [] []) v w' := by
 have HN := Hh hn;clear hn;go_enter Tryz.func63, Tryz.ntmps63
 go_wp2_with fail
 refine ret_row rfl rfl (Blk.new _ _ _) rfl rfl size_item rfl ?_
 exact ⟨_, rfl, Gives.plain hH (below_box _ _) (by omega) HN.out rfl⟩
theorem cbor_Int (n : Int) (h1 : -9223372036854775808 ≤ n) (h2 : n ≤ 9223372036854775807) {H : Snap} (w : World) (hH : Holds w H) :
  Calls Tryz.prog 47 #[.int .i64 n] w fun e w' => ∃ v, e = .returned v ∧ Gives w H (intP n) v w' := by
 by_cases h0 : n < 0
 ·have E : Hid (intP n = .mk 1 (-1 - n).toNat [] [] ∧ (-1 - n).toNat < 18446744073709551616 ∧ -1 - n = ((-1 - n).toNat : Int)) := ⟨by rw [intP, if_pos h0], by omega, by omega⟩
  have K1 : IntKind.u64.wrap (-1 - n) = -1 - n := by rw [IntKind.wrap_u64]; omega
  have K0 : IntKind.i64.wrap (-1 - n) = -1 - n := IntWalk.i64_in _ (by omega);clear h1 h2;go_enter Tryz.func47, Tryz.ntmps47
  go_wp2_with fail
  refine ret_row rfl rfl (Blk.new _ _ _) rfl rfl size_item rfl ?_
  rw [E.out.1]
  exact ⟨_, rfl, Gives.plain hH (below_box _ _) (by omega) E.out.2.1 E.out.2.2⟩
 ·have E : Hid (intP n = .mk 0 n.toNat [] [] ∧ n.toNat < 18446744073709551616 ∧ n = (n.toNat : Int)) := ⟨by rw [intP, if_neg h0], by omega, by omega⟩
  have K1 : IntKind.u64.wrap n = n := by rw [IntKind.wrap_u64]; omega
  have U := Hh (cbor_Uint n.toNat E.out.2.1 (w.alloc (.cells #[.int .i64 0, .int .u64 0, .slice none 0 0, .slice none 0 0] 75)) (hH.alloc _));rw [← E.out.2.2] at U;have hn := Int.not_lt.1 h0;clear h1 h2 h0;go_enter Tryz.func47, Tryz.ntmps47
  go_wp2_with fail
  refine U.out.mono ?_
  rintro e w1 ⟨v, rfl, hg⟩
  have HG := Hh hg;obtain ⟨ba, bc, ia, ic, H', rfl, hg, hi⟩ := hg;have hB := (Blk.new w 75 #[.int .i64 0, .int .u64 0, .slice none 0 0, .slice none 0 0]).below hg.below;go_wp2_with (with_reducible refine stop_store ?_)
  refine wpList_store_item rfl _ _ _ rfl rfl _ _ rfl rfl _ _ hB size_item rfl (one4 _ _ _ _ rfl rfl rfl rfl) fun w2 hB2 hG2 => ?_
  go_wp2_with fail
  refine ret_row rfl rfl hB2 rfl rfl size_item rfl ?_
  rw [E.out.1]
  exact ⟨_, rfl, HG.out.own (below_box _ _) hH hG2 (Nat.le_refl _) (by simp)⟩
theorem cbor_Bytes {A : Option Addr} {n c : Nat} {l : List UInt8} (hn : n = l.length) (hl : l.length ≤ 1099511627776) {H : Snap} (w : World) (hs : Src w A (l.map byteV)) (hH : Holds w H) :
  Calls Tryz.prog 101 #[.slice A n c] w fun e w' => ∃ v, e = .returned v ∧ Gives w H (.mk 2 0 l []) v w' := by
 have C := Hh (slices_Clone (w.alloc (.cells #[.int .i64 0, .int .u64 0, .slice none 0 0, .slice none 0 0] 75)) A l n c hn hl (hs.alloc _));clear hn;go_enter Tryz.func101, Tryz.ntmps101
 go_wp2_with fail
 refine C.out.mono ?_
 rintro e w1 ⟨r, rfl, hf⟩
 have hB := (Blk.new w 75 #[.int .i64 0, .int .u64 0, .slice none 0 0, .slice none 0 0]).below hf.2;have HF := Hh (hf.gives (k := 2) (hH.alloc (.cells #[.int .i64 0, .int .u64 0, .slice none 0 0, .slice none 0 0] 75)) (by omega));obtain ⟨A', c', rfl, _⟩ := hf.own.form;go_wp2_with (with_reducible refine stop_store ?_)
 refine wpList_store_item rfl _ _ _ rfl rfl _ _ rfl rfl _ _ hB size_item rfl (one4 _ _ _ _ rfl rfl rfl rfl) fun w2 hB2 hG2 => ?_
 go_wp2_with fail
 refine ret_row rfl rfl hB2 rfl rfl size_item rfl ?_
 exact ⟨_, rfl, HF.out.own (below_box _ _) hH hG2 (Nat.le_refl _) (by simp)⟩
theorem conv_string {w : World} {H : Snap} (hH : Holds w H) (s : ByteArray) (hl : s.size ≤ 1099511627776) :
  ∃ g c w', (convert 9 27 (.string s)).run Tryz.prog w = .ok (.slice (some ⟨g, 0, none⟩) s.size c) w' ∧ Below w.heap.size w w' ∧ ∃ H', Grows w H w' H' ∧ IsBytes H' (some ⟨g, 0, none⟩) c s.data.toList := by
 refine ⟨_, _, _, run_bytes_of_string (P := Tryz.prog) w 9 27 5 s Tryz.underlying9 Tryz.underlying27 Tryz.underlying5, ?_, ?_⟩
 ·exact (Below.refl _ _).drew.alloc (Nat.le_refl _) _
 ·obtain ⟨o, ho⟩ : ∃ o, o = Obj.cells (bytesRow s (grownCap w s.size 0 5)) 5 ((bytesRow s (grownCap w s.size 0 5)).size, (bytesRow s (grownCap w s.size 0 5)).size + 1) := ⟨_, rfl⟩
  rw [← ho];have h0 : H w.heap.size = none := hH.none_of_ge (Nat.le_refl _)
  refine ⟨H.with w.heap.size o, ⟨(Below.refl _ _).drew.alloc (Nat.le_refl _) _, Snap.le_with h0, (hH.drew.alloc o).with (heap_alloc_new w.drew o), fun b x hb => ?_⟩, ?_, ?_, ?_⟩
  ·unfold Snap.with at hb
   split at hb
   ·subst b; exact .inr (Nat.le_refl _)
   ·exact .inl hb
  ·simpa using grownCap_ge w s.size 0 5
  ·have := grownCap_le_maxLen w s.size 0 5 (by simp only [maxLen]; omega)
   simpa [maxLen] using this
  ·refine fun _ => ⟨w.heap.size, 0, rfl, fun j v hj => ?_⟩
   have hjl : j < s.data.size := by
    have := (List.getElem?_eq_some_iff.1 hj).1
    simpa using this
   subst ho
   simp only [Snap.cell?, Snap.with, if_true, Nat.zero_add, Option.isSome, Bool.false_eq_true, if_false]
   rw [bytesRow_at s _ j hjl]
   simp at hj
   obtain ⟨a, h1, h2⟩ := hj;rw [Array.getElem?_eq_getElem hjl] at h1;injection h1 with h1
   rw [h1, ← h2]
theorem cbor_Text (s : ByteArray) (hl : s.size ≤ 1099511627776) {H : Snap} (w : World) (hH : Holds w H) :
  Calls Tryz.prog 71 #[.string s] w fun e w' => ∃ v, e = .returned v ∧ Gives w H (.mk 3 0 s.data.toList []) v w' := by
 obtain ⟨g, c, w1, hr, hb, H', hG, hi⟩ := conv_string (hH.alloc (.cells #[.int .i64 0, .int .u64 0, .slice none 0 0, .slice none 0 0] 75)) s hl;have hB := (Blk.new w 75 #[.int .i64 0, .int .u64 0, .slice none 0 0, .slice none 0 0]).below hb
 have HI : Gives (w.alloc (.cells #[.int .i64 0, .int .u64 0, .slice none 0 0, .slice none 0 0] 75)) H (.mk 3 0 s.data.toList []) (.agg #[.int .i64 3, .int .u64 0, .slice (some ⟨g, 0, none⟩) s.size c, .slice none 0 0]) w1 := by
  refine ⟨some ⟨g, 0, none⟩, c, none, 0, H', by simp [itemV, Itm.kind, Itm.n, Itm.bytes, Itm.items], hG, ?_⟩
  rw [IsItem]
  exact ⟨⟨by omega, by omega, by omega, Nat.le_refl _, by omega⟩, hi, fun h => absurd h (by simp)⟩
 have HII := Hh HI;clear hb hi HI;go_enter Tryz.func71, Tryz.ntmps71
 go_wp2_with (with_reducible refine stop_store ?_)
 refine wpList_store_item rfl _ _ _ rfl rfl _ _ rfl rfl _ _ hB size_item rfl (one4 _ _ _ _ rfl rfl rfl rfl) fun w2 hB2 hG2 => ?_
 go_wp2_with fail
 refine ret_row rfl rfl hB2 rfl rfl size_item rfl ?_
 exact ⟨_, rfl, HII.out.own (below_box _ _) hH hG2 (Nat.le_refl _) (by simp)⟩
theorem raw_more (x : Itm) (hk : 4 ≤ x.kind ∧ x.kind ≤ 6) (ih : ∀ y : Itm, cnt y < cnt x → RawSaid y) : RawSaid x := by
 intro H k n ba bl bc ia il ic w lv hg hl hx hH
 obtain ⟨rfl, rfl, rfl, rfl, hxi⟩ := hx.eqs_;have hx := hxi;have hbd := hx.bounds;have e0 := enc_more hg hk;rw [e0, List.length_append] at hl;have HL := Hh hl;have HG := Hh hg.items;have hf6 := frameOk_spec (show frameOk x lv = true by rcases nodeOk_cases hg.node with ⟨h1, _⟩ | ⟨_, h1⟩; (rw [isPlain_iff] at h1; omega); exact h1);have hB := Blk.new w 75 #[.int .i64 x.kind, .int .u64 x.n, .slice ba x.bytes.length bc, .slice ia x.items.length ic];have hb0 := below_box w (itemO x ba bc ia ic);have hil : x.items.length ≤ 9223372036854775807 := by omega
 have HX := Hh hx;have HN := Hh hbd.2.2.1;clear hl hbd hf6 hg hx
 have three : ∃ (q m : Int) (hd : List UInt8) (D : Hid (∀ w1 : World, Calls Tryz.prog 54 #[.int .i64 q, .int .u64 m] w1 fun e w' => ∃ r, e = .returned r ∧ Fresh w1 hd r w')),
   encB x = hd ++ encL x.items ∧ ((x.kind = 4 ∧ q = 4 ∧ m = x.items.length) ∨ (x.kind = 5 ∧ q = 5 ∧ m = (x.items.length : Int) / 2) ∨ (x.kind = 6 ∧ q = 6 ∧ m = x.n)) := by
  rcases (by omega : x.kind = 4 ∨ x.kind = 5 ∨ x.kind = 6) with h | h | h
  ·refine ⟨4, x.items.length, _, fun w1 => ref_Head 4 _ w1 (by omega) (by omega) (by omega) (by omega), ?_, .inl ⟨h, rfl, rfl⟩⟩
   have : numP x = x.items.length := by simp [numP, h]
   rw [e0, h, this]; rfl
  ·refine ⟨5, (x.items.length : Int) / 2, _, fun w1 => ref_Head 5 _ w1 (by omega) (by omega) (by omega) (by omega), ?_, .inr (.inl ⟨h, rfl, rfl⟩)⟩
   have : numP x = x.items.length / 2 := by simp [numP, h]
   rw [e0, h, this]; rfl
  ·refine ⟨6, x.n, _, fun w1 => ref_Head 6 _ w1 (by omega) (by omega) (by omega) (by have := HN.out; omega), ?_, .inr (.inr ⟨h, rfl, rfl⟩)⟩
   have : numP x = x.n := by simp [numP, h]
   rw [e0, h, this]; rfl
 obtain ⟨q, m, hd, D, e1, h3⟩ := three;have E := Hh e1;have hl2 : hd.length + (encL x.items).length ≤ 1099511627776 := by rw [← List.length_append, ← e1, e0, List.length_append]; exact HL.out
 have HL2 := Hh hl2;clear e0 e1 hl2 HL hk;have KW : IntKind.u64.wrap (x.items.length : Int) = (x.items.length : Int) := IntWalk.u64_in _ (by omega);have KW2 : IntKind.u64.wrap ((x.items.length : Int) / 2) = (x.items.length : Int) / 2 := IntWalk.u64_in _ (by omega)
 rcases h3 with ⟨hk, rfl, rfl⟩ | ⟨hk, rfl, rfl⟩ | ⟨hk, rfl, rfl⟩
 ·obtain ⟨b0, b1, b2, b3, b4, b5, b6, b7, b8⟩ := kinds4 hk;clear hk;go_enter Tryz.func39, Tryz.ntmps39
  go_wp2_with fail
  refine (D.out _).mono ?_
  rintro e w1 ⟨r, rfl, hf⟩
  have hB1 := hB.below hf.2;have hb1 := hb0.trans (hf.2.mono hb0.size);have c3 := hB1.cell 3 rfl;have hO1 := hf.own.more hb0.size;obtain ⟨RA, rc, rfl, _⟩ := hO1.form;clear hf;go_wp2_with fail
  go_loopw [3, 69] (fun v3 v69 wr => ∃ (k : Nat) (VA : Option Addr) (vc vn : Nat) (l : List UInt8), k ≤ x.items.length ∧ v69 = .int .i64 k ∧ v3 = .slice VA vn vc ∧ OwnB wr w.heap.size (.slice VA vn vc) l ∧ vn = l.length ∧ (encB x = l ++ encL (x.items.drop k)) ∧ Below w.heap.size w wr) (fun _ v69 _ => x.items.length - (intOf v69).toNat)
  case atStart => exact ⟨0, _, _, _, _, Nat.zero_le _, rfl, rfl, hO1, rfl, by rw [E.out]; rfl, hb1⟩
  case round =>
   obtain ⟨k, VA, vc, vn, l, hkl, rfl, rfl, hOr, hvn, hel, hbr⟩ := hrel;have HV := Hh hvn;have HE := Hh hel;clear hvn hel
   by_cases hlt : k < x.items.length
   ·have hHr : Holds wr H := hH.below hbr (Nat.le_refl _);obtain ⟨ib, io, hia, hel⟩ := HX.out.items (by omega);obtain ⟨eba, ebc, eia, eic, q0, q1, q2, q3, hex⟩ := hel.get k hlt;subst hia;have p0 := hHr.cell q0;have p1 := hHr.cell q1;have p2 := hHr.cell q2;have p3 := hHr.cell q3;have hfin : encL (x.items.drop k) = encB x.items[k] ++ encL (x.items.drop (k + 1)) := by rw [List.drop_eq_getElem_cons hlt, encL]
    have hlen5 : l.length + (encB x.items[k]).length ≤ 1099511627776 := by
     have h1 := HL2.out;rw [← List.length_append, ← E.out, HE.out, hfin] at h1
     simp only [List.length_append] at h1
     omega
    have HF : Hid (encB x = (l ++ encB x.items[k]) ++ encL (x.items.drop (k + 1))) := by rw [Hid, HE.out, hfin, List.append_assoc]
    have IHC := ih x.items[k] (cnt_items x k hlt) H _ _ eba _ ebc eia _ eic (wr.alloc (.cells #[.int .i64 x.items[k].kind, .int .u64 x.items[k].n, .slice eba x.items[k].bytes.length ebc, .slice eia x.items[k].items.length eic] 75)) (lv + 1)
     (HG.out.get _ (List.getElem_mem hlt)) (by omega) hex.arg (hHr.alloc _)
    have IHH := Hh IHC;have hbr5 := hbr.alloc hbr.size (itemO x.items[k] eba ebc eia eic);have hO5 := hOr.alloc (itemO x.items[k] eba ebc eia eic);clear hfin q0 q1 q2 q3 IHC hOr;go_wp2_with fail
    refine IHH.out.mono ?_
    rintro e w6 ⟨r6, rfl, hf6⟩
    obtain ⟨SA, sc, rfl, _⟩ := hf6.own.form;have hO6 := hO5.below hf6.2;have hb6 := hbr5.trans (hf6.2.mono hbr5.size);have hlen6 := hlen5;clear hlen5;go_wp2_with (at_builtin; refine stop_in ?_)
    unfold Stopped
    obtain rfl := HV.out
    refine wpList_app_bytes rfl (.tmp 73) (.tmp 75) rfl w.heap.size _ _ rfl hO6 SA _ sc (encB x.items[k]) rfl rfl hf6.own.src hlen6 hb6.size fun v' w7 hO7 hg7 hat7 => ?_
    obtain ⟨VA', vc', rfl, _⟩ := hO7.form;have hO7' : OwnB w7 w.heap.size (.slice VA' (l.length + (encB x.items[k]).length) vc') (l ++ encB x.items[k]) := by rw [← List.length_append]; exact hO7
    have hb7 := hb6.grown hg7 hb6.size (fun q hq => (hO6.lt q hq).1);clear hlen6 hO6 hO7 hg7 hat7 hf6 IHH p0 p1 p2 p3 hO5 hbr5 hb6 hbr;go_wp2_with fail
    go_roundw
    case rel => exact ⟨k + 1, VA', vc', _, _, by omega, by go_num, rfl, hO7', by rw [List.length_append], HF.out, hb7⟩
    case measure => simp [intOf]; omega
   ·have hkk : k = x.items.length := by omega
    subst hkk;have HZ : Hid (encB x = l) := by rw [Hid, HE.out, List.drop_length, encL, List.append_nil]
    go_wp2_with fail
    go_ret
    obtain rfl := HV.out
    exact ⟨_, rfl, by rw [HZ.out]; exact ⟨hOr, hbr⟩⟩
 ·obtain ⟨b0, b1, b2, b3, b4, b5, b6, b7, b8⟩ := kinds5 hk;clear hk;go_enter Tryz.func39, Tryz.ntmps39
  go_wp2_with fail
  refine (D.out _).mono ?_
  rintro e w1 ⟨r, rfl, hf⟩
  have hB1 := hB.below hf.2;have hb1 := hb0.trans (hf.2.mono hb0.size);have c3 := hB1.cell 3 rfl;have hO1 := hf.own.more hb0.size;obtain ⟨RA, rc, rfl, _⟩ := hO1.form;clear hf;go_wp2_with fail
  go_loopw [3, 69] (fun v3 v69 wr => ∃ (k : Nat) (VA : Option Addr) (vc vn : Nat) (l : List UInt8), k ≤ x.items.length ∧ v69 = .int .i64 k ∧ v3 = .slice VA vn vc ∧ OwnB wr w.heap.size (.slice VA vn vc) l ∧ vn = l.length ∧ (encB x = l ++ encL (x.items.drop k)) ∧ Below w.heap.size w wr) (fun _ v69 _ => x.items.length - (intOf v69).toNat)
  case atStart => exact ⟨0, _, _, _, _, Nat.zero_le _, rfl, rfl, hO1, rfl, by rw [E.out]; rfl, hb1⟩
  case round =>
   obtain ⟨k, VA, vc, vn, l, hkl, rfl, rfl, hOr, hvn, hel, hbr⟩ := hrel;have HV := Hh hvn;have HE := Hh hel;clear hvn hel
   by_cases hlt : k < x.items.length
   ·have hHr : Holds wr H := hH.below hbr (Nat.le_refl _);obtain ⟨ib, io, hia, hel⟩ := HX.out.items (by omega);obtain ⟨eba, ebc, eia, eic, q0, q1, q2, q3, hex⟩ := hel.get k hlt;subst hia;have p0 := hHr.cell q0;have p1 := hHr.cell q1;have p2 := hHr.cell q2;have p3 := hHr.cell q3;have hfin : encL (x.items.drop k) = encB x.items[k] ++ encL (x.items.drop (k + 1)) := by rw [List.drop_eq_getElem_cons hlt, encL]
    have hlen5 : l.length + (encB x.items[k]).length ≤ 1099511627776 := by
     have h1 := HL2.out;rw [← List.length_append, ← E.out, HE.out, hfin] at h1
     simp only [List.length_append] at h1
     omega
    have HF : Hid (encB x = (l ++ encB x.items[k]) ++ encL (x.items.drop (k + 1))) := by rw [Hid, HE.out, hfin, List.append_assoc]
    have IHC := ih x.items[k] (cnt_items x k hlt) H _ _ eba _ ebc eia _ eic (wr.alloc (.cells #[.int .i64 x.items[k].kind, .int .u64 x.items[k].n, .slice eba x.items[k].bytes.length ebc, .slice eia x.items[k].items.length eic] 75)) (lv + 1)
     (HG.out.get _ (List.getElem_mem hlt)) (by omega) hex.arg (hHr.alloc _)
    have IHH := Hh IHC;have hbr5 := hbr.alloc hbr.size (itemO x.items[k] eba ebc eia eic);have hO5 := hOr.alloc (itemO x.items[k] eba ebc eia eic);clear hfin q0 q1 q2 q3 IHC hOr;go_wp2_with fail
    refine IHH.out.mono ?_
    rintro e w6 ⟨r6, rfl, hf6⟩
    obtain ⟨SA, sc, rfl, _⟩ := hf6.own.form;have hO6 := hO5.below hf6.2;have hb6 := hbr5.trans (hf6.2.mono hbr5.size);have hlen6 := hlen5;clear hlen5;go_wp2_with (at_builtin; refine stop_in ?_)
    unfold Stopped
    obtain rfl := HV.out
    refine wpList_app_bytes rfl (.tmp 73) (.tmp 75) rfl w.heap.size _ _ rfl hO6 SA _ sc (encB x.items[k]) rfl rfl hf6.own.src hlen6 hb6.size fun v' w7 hO7 hg7 hat7 => ?_
    obtain ⟨VA', vc', rfl, _⟩ := hO7.form;have hO7' : OwnB w7 w.heap.size (.slice VA' (l.length + (encB x.items[k]).length) vc') (l ++ encB x.items[k]) := by rw [← List.length_append]; exact hO7
    have hb7 := hb6.grown hg7 hb6.size (fun q hq => (hO6.lt q hq).1);clear hlen6 hO6 hO7 hg7 hat7 hf6 IHH p0 p1 p2 p3 hO5 hbr5 hb6 hbr;go_wp2_with fail
    go_roundw
    case rel => exact ⟨k + 1, VA', vc', _, _, by omega, by go_num, rfl, hO7', by rw [List.length_append], HF.out, hb7⟩
    case measure => simp [intOf]; omega
   ·have hkk : k = x.items.length := by omega
    subst hkk;have HZ : Hid (encB x = l) := by rw [Hid, HE.out, List.drop_length, encL, List.append_nil]
    go_wp2_with fail
    go_ret
    obtain rfl := HV.out
    exact ⟨_, rfl, by rw [HZ.out]; exact ⟨hOr, hbr⟩⟩
 ·obtain ⟨b0, b1, b2, b3, b4, b5, b6, b7, b8⟩ := kinds6 hk;clear hk;go_enter Tryz.func39, Tryz.ntmps39
  go_wp2_with fail
  refine (D.out _).mono ?_
  rintro e w1 ⟨r, rfl, hf⟩
  have hB1 := hB.below hf.2;have hb1 := hb0.trans (hf.2.mono hb0.size);have c3 := hB1.cell 3 rfl;have hO1 := hf.own.more hb0.size;obtain ⟨RA, rc, rfl, _⟩ := hO1.form;clear hf;go_wp2_with fail
  go_loopw [3, 69] (fun v3 v69 wr => ∃ (k : Nat) (VA : Option Addr) (vc vn : Nat) (l : List UInt8), k ≤ x.items.length ∧ v69 = .int .i64 k ∧ v3 = .slice VA vn vc ∧ OwnB wr w.heap.size (.slice VA vn vc) l ∧ vn = l.length ∧ (encB x = l ++ encL (x.items.drop k)) ∧ Below w.heap.size w wr) (fun _ v69 _ => x.items.length - (intOf v69).toNat)
  case atStart => exact ⟨0, _, _, _, _, Nat.zero_le _, rfl, rfl, hO1, rfl, by rw [E.out]; rfl, hb1⟩
  case round =>
   obtain ⟨k, VA, vc, vn, l, hkl, rfl, rfl, hOr, hvn, hel, hbr⟩ := hrel;have HV := Hh hvn;have HE := Hh hel;clear hvn hel
   by_cases hlt : k < x.items.length
   ·have hHr : Holds wr H := hH.below hbr (Nat.le_refl _);obtain ⟨ib, io, hia, hel⟩ := HX.out.items (by omega);obtain ⟨eba, ebc, eia, eic, q0, q1, q2, q3, hex⟩ := hel.get k hlt;subst hia;have p0 := hHr.cell q0;have p1 := hHr.cell q1;have p2 := hHr.cell q2;have p3 := hHr.cell q3;have hfin : encL (x.items.drop k) = encB x.items[k] ++ encL (x.items.drop (k + 1)) := by rw [List.drop_eq_getElem_cons hlt, encL]
    have hlen5 : l.length + (encB x.items[k]).length ≤ 1099511627776 := by
     have h1 := HL2.out;rw [← List.length_append, ← E.out, HE.out, hfin] at h1
     simp only [List.length_append] at h1
     omega
    have HF : Hid (encB x = (l ++ encB x.items[k]) ++ encL (x.items.drop (k + 1))) := by rw [Hid, HE.out, hfin, List.append_assoc]
    have IHC := ih x.items[k] (cnt_items x k hlt) H _ _ eba _ ebc eia _ eic (wr.alloc (.cells #[.int .i64 x.items[k].kind, .int .u64 x.items[k].n, .slice eba x.items[k].bytes.length ebc, .slice eia x.items[k].items.length eic] 75)) (lv + 1)
     (HG.out.get _ (List.getElem_mem hlt)) (by omega) hex.arg (hHr.alloc _)
    have IHH := Hh IHC;have hbr5 := hbr.alloc hbr.size (itemO x.items[k] eba ebc eia eic);have hO5 := hOr.alloc (itemO x.items[k] eba ebc eia eic);clear hfin q0 q1 q2 q3 IHC hOr;go_wp2_with fail
    refine IHH.out.mono ?_
    rintro e w6 ⟨r6, rfl, hf6⟩
    obtain ⟨SA, sc, rfl, _⟩ := hf6.own.form;have hO6 := hO5.below hf6.2;have hb6 := hbr5.trans (hf6.2.mono hbr5.size);have hlen6 := hlen5;clear hlen5;go_wp2_with (at_builtin; refine stop_in ?_)
    unfold Stopped
    obtain rfl := HV.out
    refine wpList_app_bytes rfl (.tmp 73) (.tmp 75) rfl w.heap.size _ _ rfl hO6 SA _ sc (encB x.items[k]) rfl rfl hf6.own.src hlen6 hb6.size fun v' w7 hO7 hg7 hat7 => ?_
    obtain ⟨VA', vc', rfl, _⟩ := hO7.form;have hO7' : OwnB w7 w.heap.size (.slice VA' (l.length + (encB x.items[k]).length) vc') (l ++ encB x.items[k]) := by rw [← List.length_append]; exact hO7
    have hb7 := hb6.grown hg7 hb6.size (fun q hq => (hO6.lt q hq).1);clear hlen6 hO6 hO7 hg7 hat7 hf6 IHH p0 p1 p2 p3 hO5 hbr5 hb6 hbr;go_wp2_with fail
    go_roundw
    case rel => exact ⟨k + 1, VA', vc', _, _, by omega, by go_num, rfl, hO7', by rw [List.length_append], HF.out, hb7⟩
    case measure => simp [intOf]; omega
   ·have hkk : k = x.items.length := by omega
    subst hkk;have HZ : Hid (encB x = l) := by rw [Hid, HE.out, List.drop_length, encL, List.append_nil]
    go_wp2_with fail
    go_ret
    obtain rfl := HV.out
    exact ⟨_, rfl, by rw [HZ.out]; exact ⟨hOr, hbr⟩⟩
theorem ref_Raw (x : Itm) : RawSaid x := by
 have main : ∀ N, ∀ x : Itm, cnt x ≤ N → RawSaid x := by
  intro N
  induction N with
  | zero =>
   intro x hx
   have : 0 < cnt x := by cases x; rw [cnt]; omega
   omega
  | succ N ih =>
   intro x hx
   by_cases hk : 4 ≤ x.kind ∧ x.kind ≤ 6
   ·exact raw_more x hk fun y hy => ih y (by omega)
   ·intro H k n ba bl bc ia il ic w lv hg hl ha hH
    obtain ⟨rfl, rfl, rfl, rfl, hi⟩ := ha.eqs_;have hkk := nodeOk_kind hg.node
    rcases (by omega : (x.kind = 0 ∨ x.kind = 1) ∨ (x.kind = 2 ∨ x.kind = 3) ∨ x.kind = 7 ∨ x.kind = 8) with h | h | h | h
    ·exact raw_num x w lv h hg hi
    ·exact raw_str x w lv h hg hl hi hH
    ·exact raw_simple x w lv h hg hi
    ·exact raw_float x w h hi
 exact main _ x (Nat.le_refl _)
theorem isNaN_iff (n : Nat) : isNaN n = true ↔ n / 2 ^ 52 % 2048 = 2047 ∧ n % 2 ^ 52 ≠ 0 := by
 simp [isNaN]
theorem read_nan (n : Nat) : (Ieee.double.read n).isNaN = isNaN n := by
 rw [Bool.eq_iff_iff, isNaN_iff];have hs : Ieee.double.signWeight = 9223372036854775808 := rfl;have hb : Ieee.double.binade = 4503599627370496 := rfl;have hi : Ieee.double.infRung = 9218868437227405312 := rfl
 simp only [Nat.reducePow]
 by_cases h1 : n % Ieee.double.signWeight < Ieee.double.binade
 ·rw [show Ieee.double.read n = .number _ _ _ from if_pos h1];rw [hs, hb] at h1
  simp only [Ieee.Datum.isNaN, Bool.false_eq_true, false_iff]
  omega
 by_cases h2 : n % Ieee.double.signWeight < Ieee.double.infRung
 ·rw [show Ieee.double.read n = .number _ _ _ from (if_neg h1).trans (if_pos h2)];rw [hs, hi] at h2
  simp only [Ieee.Datum.isNaN, Bool.false_eq_true, false_iff]
  omega
 by_cases h3 : n % Ieee.double.signWeight = Ieee.double.infRung
 ·rw [show Ieee.double.read n = .infinity _ from (if_neg h1).trans ((if_neg h2).trans (if_pos h3))];rw [hs, hi] at h3
  simp only [Ieee.Datum.isNaN, Bool.false_eq_true, false_iff]
  omega
 rw [show Ieee.double.read n = .nan _ _ from (if_neg h1).trans ((if_neg h2).trans (if_neg h3))];rw [hs, hi] at h2 h3
 simp only [Ieee.Datum.isNaN, true_iff]
 omega
theorem order_self (d : Ieee.Datum) : (d.order d == some .eq) = !d.isNaN := by
 cases d with
 | nan a b => rfl
 | infinity s => cases s <;> rfl
 | number s m i =>
  simp [Ieee.Datum.order, Ieee.Datum.isNaN]
theorem order_feq (n : Nat) : (FloatKind.f64.format.order n n == some .eq) = !isNaN n := by
 show (Ieee.Datum.order (Ieee.double.read n) (Ieee.double.read n) == some .eq) = _
 rw [order_self, read_nan]
theorem order_fne (n : Nat) : (FloatKind.f64.format.order n n != some .eq) = isNaN n := by
 rw [bne, order_feq, Bool.not_not]
theorem run_f64frombits (n : Nat) (w : World) : (callFunc 96 #[.int .u64 (n : Int)]).run Tryz.prog w = .ok (.value (.float .f64 n)) w := by
 rw [run_callFunc_extern Tryz.func96 (by kernel_rfl) (by kernel_rfl) (by kernel_rfl) (e := Extern.MathFloatBits.float64frombits) (by kernel_rfl)];rfl
theorem run_f64bits (n : Nat) (w : World) : (callFunc 91 #[.float .f64 n]).run Tryz.prog w = .ok (.value (.int .u64 (n : Int))) w := by
 rw [run_callFunc_extern Tryz.func91 (by kernel_rfl) (by kernel_rfl) (by kernel_rfl) (e := Extern.MathFloatBits.float64bits) (by kernel_rfl)];rfl
theorem run_f32bits (n : Nat) (w : World) : (callFunc 98 #[.float .f32 n]).run Tryz.prog w = .ok (.value (.int .u32 (n : Int))) w := by
 rw [run_callFunc_extern Tryz.func98 (by kernel_rfl) (by kernel_rfl) (by kernel_rfl) (e := Extern.MathFloatBits.float32bits) (by kernel_rfl)];rfl
def SB (H : Snap) (A : Option Addr) (t : ByteArray) : Prop := 0 < t.size → ∃ b off, A = some ⟨b, off, none⟩ ∧ ∀ j, j < t.size → H.cell? ⟨b, off + j, none⟩ = some (.int .u8 ((t.get! j).toNat : Int))
theorem ba_list (l : List UInt8) : (⟨l.toArray⟩ : ByteArray).data.toList = l := by simp
theorem ba_get (l : List UInt8) (j : Nat) (h : j < l.length) : (⟨l.toArray⟩ : ByteArray).get! j = l[j] := by
 show l.toArray[j]! = l[j]
 rw [getElem!_pos l.toArray j (by simpa using h)]
 simp
theorem SB.of {H : Snap} {A : Option Addr} {c : Nat} {l : List UInt8} (h : IsBytes H A c l) : SB H A ⟨l.toArray⟩ := fun h0 => by
 have hl : (⟨l.toArray⟩ : ByteArray).size = l.length := by show l.toArray.size = l.length; simp
 rw [hl] at h0;obtain ⟨b, off, e, hc⟩ := h.at_ h0
 refine ⟨b, off, e, fun j hj => ?_⟩
 rw [hl] at hj;rw [hc j hj, ba_get l j hj]
theorem utf8_word {H : Snap} {A : Option Addr} {t : ByteArray} (hs : SB H A t) (h8 : 8 ≤ t.size) (c : Nat) (w : World) (hH : Holds w H) :
  Calls Tryz.prog 88 #[.slice A t.size c] w fun e w' => e = .returned (.int .u64 ((Lib.leNat [t.get! 0, t.get! 1, t.get! 2, t.get! 3, t.get! 4, t.get! 5, t.get! 6, t.get! 7] : Nat) : Int)) ∧ ∃ q, w' = w.drewN q := by
 obtain ⟨b, off, rfl, hc⟩ := hs (by omega);have c0 := hH.cell (hc 0 (by omega));have q0 : (0 : Int) < (t.size : Int) := by omega
 have p0 : 0 < t.size := by omega
 have c1 := hH.cell (hc 1 (by omega));have q1 : (1 : Int) < (t.size : Int) := by omega
 have p1 : 1 < t.size := by omega
 have c2 := hH.cell (hc 2 (by omega));have q2 : (2 : Int) < (t.size : Int) := by omega
 have p2 : 2 < t.size := by omega
 have c3 := hH.cell (hc 3 (by omega));have q3 : (3 : Int) < (t.size : Int) := by omega
 have p3 : 3 < t.size := by omega
 have c4 := hH.cell (hc 4 (by omega));have q4 : (4 : Int) < (t.size : Int) := by omega
 have p4 : 4 < t.size := by omega
 have c5 := hH.cell (hc 5 (by omega));have q5 : (5 : Int) < (t.size : Int) := by omega
 have p5 : 5 < t.size := by omega
 have c6 := hH.cell (hc 6 (by omega));have q6 : (6 : Int) < (t.size : Int) := by omega
 have p6 : 6 < t.size := by omega
 have c7 := hH.cell (hc 7 (by omega));have q7 : (7 : Int) < (t.size : Int) := by omega
 have p7 : 7 < t.size := by omega
 have l0 := (t.get! 0).toNat_lt
 generalize t.get! 0 = x0 at *
 have l1 := (t.get! 1).toNat_lt
 generalize t.get! 1 = x1 at *
 have l2 := (t.get! 2).toNat_lt
 generalize t.get! 2 = x2 at *
 have l3 := (t.get! 3).toNat_lt
 generalize t.get! 3 = x3 at *
 have l4 := (t.get! 4).toNat_lt
 generalize t.get! 4 = x4 at *
 have l5 := (t.get! 5).toNat_lt
 generalize t.get! 5 = x5 at *
 have l6 := (t.get! 6).toNat_lt
 generalize t.get! 6 = x6 at *
 have l7 := (t.get! 7).toNat_lt
 generalize t.get! 7 = x7 at *
 have hv : ((Lib.leNat [x0, x1, x2, x3, x4, x5, x6, x7] : Nat) : Int) = (x0.toNat : Int) + (x1.toNat : Int) * 256 + (x2.toNat : Int) * 65536 + (x3.toNat : Int) * 16777216 + (x4.toNat : Int) * 4294967296 + (x5.toNat : Int) * 1099511627776 + (x6.toNat : Int) * 281474976710656 + (x7.toNat : Int) * 72057594037927936 := by
  simp only [Lib.leNat]
  push_cast
  omega
 have HV := Hh hv;clear hv hc hs
 simp only [Nat.add_zero] at c0
 go_enter Tryz.func88, Tryz.ntmps88
 go_upto_region 2 with fail
 refine wp_region_ways 47 (fun w' => w'.cell? ⟨b, off, none⟩ = some (.int .u8 (x0.toNat : Int)) ∧ w'.cell? ⟨b, off + 1, none⟩ = some (.int .u8 (x1.toNat : Int)) ∧ w'.cell? ⟨b, off + 2, none⟩ = some (.int .u8 (x2.toNat : Int)) ∧ w'.cell? ⟨b, off + 3, none⟩ = some (.int .u8 (x3.toNat : Int)) ∧ w'.cell? ⟨b, off + 4, none⟩ = some (.int .u8 (x4.toNat : Int)) ∧ w'.cell? ⟨b, off + 5, none⟩ = some (.int .u8 (x5.toNat : Int)) ∧ w'.cell? ⟨b, off + 6, none⟩ = some (.int .u8 (x6.toNat : Int)) ∧ w'.cell? ⟨b, off + 7, none⟩ = some (.int .u8 (x7.toNat : Int))) (by kernel_rfl) (⟨c0, c1, c2, c3, c4, c5, c6, c7⟩) (fun hHeld => ?_)
 refine TkS 0 rfl hHeld ?_
 refine TkS 1 rfl hHeld ?_
 refine TkS 2 rfl hHeld ?_
 refine TkS 3 rfl hHeld ?_
 refine TkS 4 rfl hHeld ?_
 refine TkS 5 rfl hHeld ?_
 refine TkS 6 rfl hHeld ?_
 refine TkS 7 rfl hHeld ?_
 refine TkS 8 rfl hHeld ?_
 refine TkS 9 rfl hHeld ?_
 refine TkS 10 rfl hHeld ?_
 refine TkS 11 rfl hHeld ?_
 refine TkS 12 rfl hHeld ?_
 refine TkS 13 rfl hHeld ?_
 refine TkS 14 rfl hHeld ?_
 refine TkS 15 rfl hHeld ?_
 refine TkS 16 rfl hHeld ?_
 refine TkS 17 rfl hHeld ?_
 refine TkS 18 rfl hHeld ?_
 refine TkS 19 rfl hHeld ?_
 refine TkS 20 rfl hHeld ?_
 refine TkS 21 rfl hHeld ?_
 refine TkS 22 rfl hHeld ?_
 refine TkS 23 rfl hHeld ?_
 refine TkS 24 rfl hHeld ?_
 refine TkS 25 rfl hHeld ?_
 refine TkS 26 rfl hHeld ?_
 refine TkS 27 rfl hHeld ?_
 refine TkS 28 rfl hHeld ?_
 refine TkS 29 rfl hHeld ?_
 refine TkS 30 rfl hHeld ?_
 refine TkS 31 rfl hHeld ?_
 refine TkS 32 rfl hHeld ?_
 refine TkS 33 rfl hHeld ?_
 refine TkS 34 rfl hHeld ?_
 refine TkS 35 rfl hHeld ?_
 refine TkS 36 rfl hHeld ?_
 refine TkS 37 rfl hHeld ?_
 refine TkS 38 rfl hHeld ?_
 refine TkS 39 rfl hHeld ?_
 refine TkS 40 rfl hHeld ?_
 refine TkS 41 rfl hHeld ?_
 refine TkS 42 rfl hHeld ?_
 refine TkS 43 rfl hHeld ?_
 refine TkS 44 rfl hHeld ?_
 refine TkS 45 rfl hHeld ?_
 refine TkS 46 rfl hHeld ?_
 refine Wd ?_
 clear hHeld;go_wp2_with fail
 go_ret
 refine ⟨?_, 1, rfl⟩
 simp (disch := omega) only [u64_wrap_id, u64_or8, u64_or16, u64_or24, u64_or32, u64_or40, u64_or48, u64_or56]
 rw [HV.out];rfl
theorem stI {w : World} {ops : Array Oper} {rest : List Oper} {o : Oper} {a : Act} {Q : Exit → Act → World → Prop} {x y : Operand} {g : Nat} {c0 c1 c2 c3 : Value} {t : TypeId} {old : Array Value} (hB : Blk w g t old)
  (h : ∀ w', Blk w' g t #[c0, c1, c2, c3] → w.grownBy w' (some g) → wpList Tryz.prog ops Q rest a w')
  (hgd : o.guard = none := by rfl) (ho : o.op = .store 75 x y := by rfl) (hd : o.dst = none := by rfl) (hx : a.eval x = .pointer (some ⟨g, 0, none⟩) := by rfl) (hy : a.eval y = .agg #[c0, c1, c2, c3] := by rfl) (hold : (#[c0, c1, c2, c3] : Array Value).size = old.size := by rfl) (h1 : c0.oneCell' = true := by rfl) (h2 : c1.oneCell' = true := by rfl) (h3 : c2.oneCell' = true := by rfl) (h4 : c3.oneCell' = true := by rfl) : wpList Tryz.prog ops Q (o :: rest) a w :=
 wpList_store_item hgd _ _ _ ho hd _ _ hx hy _ _ hB size_item hold (one4 _ _ _ _ h1 h2 h3 h4) h
end Go.Proofs.YtgaoknihklmakaaGreatDoor
