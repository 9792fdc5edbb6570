/- Reading data items, third part: what was read encodes to the bytes that it was read from, and is valid; plain mathematics. Reading data items, fourth part: long counts, prefixes, whole items; plain mathematics. The messages of a key exchange as lists of bytes: plain mathematics. Walks: the references' Same. Walks: connection identifiers, equality of byte strings: the program's and the references'. External data, suites: their bytes; plain mathematics. Walks: the program's parser: numbers. -/
import Derived.Test.YtebcnkelbicbnaaGreatDoorM10
import Derived.Test.YtebcnkelbicbnaaGreatDoorM02
import Derived.Test.YtebcnkelbicbnaaGreatDoorM08
import Derived.Test.YtebcnkelbicbnaaGreatDoorM06
import Derived.Test.YtebcnkelbicbnaaGreatDoorM01
import Derived.OwnWalk
import Derived.BigQuiet
set_option linter.unusedVariables false
set_option linter.unusedSimpArgs false
namespace Go.Proofs.YtebcnkelbicbnaaGreatDoor
open Go.RowKit

/-- What is known of an item that was read. -/
structure Read (d : Nat) (b : List UInt8) (c : Nat) (x : Itm) (k c' : Nat) : Prop where
  le : k ≤ b.length
  pos : 0 < k
  enc : encB x = b.take k
  cnt : c' = c + cnt x
  lim : c' ≤ 256
  good : ∀ lv, lv + d = 8 → Good x lv
  nums : Nums x
structure ReadL (d : Nat) (b : List UInt8) (c : Nat) (l : List Itm) (n k c' : Nat) : Prop where
  le : k ≤ b.length
  enc : encL l = b.take k
  cnt : c' = c + cntL l
  lim : c' ≤ 256
  good : ∀ lv, lv + d = 8 → GoodL l lv
  nums : NumsL l
  len : l.length = n
theorem take_drop_app {α : Type} (b : List α) (k k' : Nat) : b.take (k + k') = b.take k ++ (b.drop k).take k' := List.take_add

theorem arr_spec {d : Nat} {p : List UInt8 → Nat → PR} (hp : ∀ b c x k c', p b c = .ok x k c' → Read d b c x k c') :
    ∀ (n : Nat) (b : List UInt8) (c : Nat) (l : List Itm) (k c' : Nat), c ≤ 256 → arrP p n b c = .ok l k c' → ReadL d b c l n k c'
  | 0, b, c, l, k, c', hc, h => by
    rw [arrP] at h
    injection h with h1 h2 h3
    subst h1 h2 h3
    exact ⟨by omega, by simp [encL], by simp [cntL], hc, fun lv _ => by rw [GoodL]; trivial, by rw [NumsL]; trivial, rfl⟩
  | n + 1, b, c, l, k, c', hc, h => by
    rw [arrP] at h
    split at h
    · cases h
    rename_i x k1 c1 h1
    split at h
    · cases h
    rename_i l1 k2 c2 h2
    injection h with e1 e2 e3
    subst e1 e2 e3
    have r1 := hp _ _ _ _ _ h1
    have r2 := arr_spec hp n _ _ _ _ _ r1.lim h2
    have hl := r2.le
    rw [List.length_drop] at hl
    have := r1.le
    refine ⟨by omega, ?_, ?_, r2.lim, fun lv hlv => ?_, ?_, by rw [List.length_cons, r2.len]⟩
    · rw [encL, r1.enc, r2.enc, take_drop_app]
    · rw [cntL, r2.cnt, r1.cnt]; omega
    · rw [GoodL]; exact ⟨r1.good lv hlv, r2.good lv hlv⟩
    · rw [NumsL]; exact ⟨r1.nums, r2.nums⟩
/-- The keys of the pairs ascend, the first one behind 'last'. -/
def AscFrom (last : Option (List UInt8)) (l : List Itm) : Prop :=
  ascP l = true ∧ ∀ q, last = some q → ∀ x t, l = x :: t → Lib.compareBytes q (encB x) < 0
theorem cmp_not : ∀ a b : List UInt8, ¬ Lib.compareBytes a b = 0 → ¬ Lib.compareBytes a b < 0 → Lib.compareBytes b a < 0
  | [], [], h, _ => absurd rfl h
  | [], _ :: _, _, h => absurd (by show (-1 : Int) < 0; decide) h
  | _ :: _, [], _, _ => by show (-1 : Int) < 0; decide
  | x :: a, y :: b, h, k => by
    rw [Lib.compareBytes] at h k ⊢
    split at h
    · rename_i h1
      rw [if_pos h1] at k
      exact absurd (by decide) k
    rename_i h1
    rw [if_neg h1] at k
    split at h
    · rename_i h2
      rw [if_pos h2]
      decide
    rename_i h2
    rw [if_neg h2] at k
    rw [if_neg h2, if_neg h1]
    exact cmp_not a b h k
theorem keyP_none {last : Option (List UInt8)} {key : List UInt8} (h : keyP last key = none) : ∀ q, last = some q → Lib.compareBytes q key < 0 := by
  intro q hq
  subst hq
  rw [keyP] at h
  split at h
  · cases h
  split at h
  · cases h
  rename_i h1 h2
  exact cmp_not _ _ h1 h2
theorem map_spec {d : Nat} {p : List UInt8 → Nat → PR} (hp : ∀ b c x k c', p b c = .ok x k c' → Read d b c x k c') :
    ∀ (n : Nat) (b : List UInt8) (c : Nat) (last : Option (List UInt8)) (l : List Itm) (k c' : Nat), c ≤ 256 → mapP p n b c last = .ok l k c' → ReadL d b c l (2 * n) k c' ∧ AscFrom last l
  | 0, b, c, last, l, k, c', hc, h => by
    rw [mapP] at h
    injection h with h1 h2 h3
    subst h1 h2 h3
    exact ⟨⟨by omega, by simp [encL], by simp [cntL], hc, fun lv _ => by rw [GoodL]; trivial, by rw [NumsL]; trivial, rfl⟩, rfl, fun _ _ _ _ h => by cases h⟩
  | n + 1, b, c, last, l, k, c', hc, h => by
    rw [mapP] at h
    split at h
    · cases h
    rename_i x k1 c1 h1
    split at h
    · cases h
    rename_i hk
    split at h
    · cases h
    rename_i y k2 c2 h2
    split at h
    · cases h
    rename_i l1 k3 c3 h3
    injection h with e1 e2 e3
    subst e1 e2 e3
    have r1 := hp _ _ _ _ _ h1
    have r2 := hp _ _ _ _ _ h2
    obtain ⟨r3, a1, a2⟩ := map_spec hp n _ _ _ _ _ _ r2.lim h3
    have hl2 := r2.le
    have hl3 := r3.le
    rw [List.length_drop] at hl2 hl3
    have := r1.le
    refine ⟨⟨by omega, ?_, ?_, r3.lim, fun lv hlv => ?_, ?_, by rw [List.length_cons, List.length_cons, r3.len]; omega⟩, ?_, fun q hq x' t ht => ?_⟩
    · rw [encL, encL, r1.enc, r2.enc, r3.enc, ← List.append_assoc, ← take_drop_app, ← take_drop_app]
    · rw [cntL, cntL, r3.cnt, r2.cnt, r1.cnt]; omega
    · rw [GoodL, GoodL]; exact ⟨r1.good lv hlv, r2.good lv hlv, r3.good lv hlv⟩
    · rw [NumsL, NumsL]; exact ⟨r1.nums, r2.nums, r3.nums⟩
    · cases l1 with
      | nil => rfl
      | cons z l2 =>
        rw [ascP, a1]
        have := a2 _ rfl z l2 rfl
        rw [← r1.enc] at this
        simp [this]
    · injection ht with ht _
      subst ht
      rw [r1.enc]
      exact keyP_none hk q hq
theorem good_leaf {x : Itm} (h : ∀ lv, nodeOk x lv = true) (hi : x.items = []) (h5 : x.kind ≠ 5) : ∀ lv, Good x lv := fun lv =>
  Good.of (h lv) (by rw [hi, GoodL]; trivial) (fun h => absurd h h5)
theorem parse_spec : ∀ (d : Nat) (b : List UInt8) (c : Nat) (x : Itm) (k c' : Nat), parse d b c = .ok x k c' → Read d b c x k c' := by
  intro d
  induction d using Nat.strongRecOn with
  | _ d ih =>
    intro b c x k c' h
    rw [parse.eq_def] at h
    simp only at h
    split at h
    · cases h
    rename_i hc
    split at h
    · cases h
    rename_i f n k1 hh
    have H := headP_spec hh
    have hlow := H.low
    have hf := H.f_lt
    split at h
    · rename_i h1
      injection h with e1 e2 e3
      subst e1 e2 e3
      have hk : f / 32 = 0 ∨ f / 32 = 1 := by omega
      refine ⟨H.le, H.pos, ?_, by simp [cnt, cntL], by omega, fun lv _ => good_leaf (fun lv => ?_) rfl (by simp only [Itm.kind]; omega) lv, ?_⟩
      · rw [← H.enc (by omega), encB_eq, if_neg (by simp only [Itm.kind]; omega), if_neg (by simp only [Itm.kind]; omega)]
        have e : numP (.mk (f / 32 : Nat) n [] []) = n := by
          rw [numP, if_neg (by simp only [Itm.kind]; omega), if_neg (by simp only [Itm.kind]; omega), if_neg (by simp only [Itm.kind]; omega)]; rfl
        rw [e, show (Itm.mk (f / 32 : Nat) n [] []).kind.toNat = f / 32 from rfl]
        simp [Itm.bytes, Itm.items, encL]
      · rw [nodeOk]
        rcases hk with hk | hk <;> simp [isPlain, okPlain, Itm.kind, Itm.bytes, Itm.items, hk]
      · rw [Nums]; exact ⟨H.n_lt, by rw [NumsL]; trivial⟩
    rename_i h1
    split at h
    · rename_i h3
      split at h
      · cases h
      rename_i h4
      split at h
      · cases h
      rename_i h5
      injection h with e1 e2 e3
      subst e1 e2 e3
      have hk : f / 32 = 2 ∨ f / 32 = 3 := by omega
      have hle := H.le
      have hlen : ((b.drop k1).take n).length = n := by rw [List.length_take, List.length_drop]; omega
      have hn := H.n_lt
      have hpos := H.pos
      refine ⟨by omega, by omega, ?_, by simp [cnt, cntL], by omega, fun lv _ => good_leaf (fun lv => ?_) rfl (by simp only [Itm.kind]; omega) lv, ?_⟩
      · rw [take_drop_app, ← H.enc (by omega), encB_eq, if_neg (by simp only [Itm.kind]; omega), if_neg (by simp only [Itm.kind]; omega)]
        have e : numP (.mk (f / 32 : Nat) 0 ((b.drop k1).take n) []) = n := by
          rw [numP, if_pos (by simp only [Itm.kind]; omega)]
          exact hlen
        rw [e, show (Itm.mk (f / 32 : Nat) 0 ((b.drop k1).take n) []).kind.toNat = f / 32 from rfl]
        simp [Itm.bytes, Itm.items, encL]
      · rw [nodeOk]
        rcases hk with hk | hk
        · simp [isPlain, okPlain, Itm.kind, Itm.bytes, Itm.items, Itm.n, hk]
        · have : Lib.validD ((b.drop k1).take n) = true := by
            cases h : Lib.validD ((b.drop k1).take n) with
            | true => rfl
            | false => exact absurd ⟨hk, h⟩ h5
          simp [isPlain, okPlain, Itm.kind, Itm.bytes, Itm.items, Itm.n, hk, this]
      · rw [Nums]; exact ⟨by omega, by rw [NumsL]; trivial⟩
    rename_i h3
    split at h
    · rename_i h7
      split at h
      · cases h
      rename_i y hs
      injection h with e1 e2 e3
      subst e1 e2 e3
      have hu : u8 f = u8 (7 * 32 + f % 32) := by rw [show 7 * 32 + f % 32 = f by omega]
      rcases Nat.lt_or_ge (f % 32) 24 with hl | hl
      · obtain ⟨s1, s2, s3⟩ := H.small hl
        obtain ⟨g1, g2, g3, g4, g5⟩ := seven_spec (low := f % 32) (t := []) (by omega) (fun _ => ⟨s1, rfl⟩) (fun h => by omega) hs
        refine ⟨H.le, H.pos, by rw [s3, g1, hu], by rw [g5], by omega, fun lv _ => g2 lv, ?_⟩
        cases y
        rw [Nums]
        simp only [Itm.items] at g4
        subst g4
        exact ⟨g3, by rw [NumsL]; trivial⟩
      · obtain ⟨s1, t, s2, s3, s4⟩ := H.wide hl
        obtain ⟨g1, g2, g3, g4, g5⟩ := seven_spec (low := f % 32) (t := t) (by omega) (fun h => by omega) (fun _ => ⟨s2, s4⟩) hs
        refine ⟨H.le, H.pos, by rw [s3, g1, hu], by rw [g5], by omega, fun lv _ => g2 lv, ?_⟩
        cases y
        rw [Nums]
        simp only [Itm.items] at g4
        subst g4
        exact ⟨g3, by rw [NumsL]; trivial⟩
    rename_i h7
    cases d with
    | zero => cases h
    | succ d =>
      simp only at h
      have hd : d < d + 1 := by omega
      have hpos := H.pos
      split at h
      · rename_i h6
        split at h
        · cases h
        rename_i y k2 c2 hy
        injection h with e1 e2 e3
        subst e1 e2 e3
        have r := ih d hd _ _ _ _ _ hy
        have hle := H.le
        have hl := r.le
        rw [List.length_drop] at hl
        refine ⟨by omega, by omega, ?_, ?_, r.lim, fun lv hlv => Good.of ?_ ?_ (fun h => by simp only [Itm.kind] at h; omega), ?_⟩
        · rw [take_drop_app, ← H.enc (by omega), encB_eq, if_neg (by simp only [Itm.kind]; omega), if_neg (by simp only [Itm.kind]; omega), h6]
          have e : numP (.mk 6 n [] [y]) = n := by simp [numP, Itm.kind, Itm.n]
          rw [e, ← r.enc]
          simp [Itm.kind, Itm.bytes, Itm.items, encL]
        · rw [cnt, cntL, cntL, r.cnt]; omega
        · rw [nodeOk, if_neg (by simp [isPlain, Itm.kind])]
          simp [frameOk, Itm.kind, Itm.bytes, Itm.items, Itm.n]
          omega
        · simp only [Itm.items]
          rw [GoodL, GoodL]
          exact ⟨r.good _ (by omega), trivial⟩
        · rw [Nums, NumsL, NumsL]
          exact ⟨H.n_lt, r.nums, trivial⟩
      rename_i h6
      split at h
      · rename_i h5
        split at h
        · cases h
        rename_i l k2 c2 hy
        injection h with e1 e2 e3
        subst e1 e2 e3
        obtain ⟨r, asc, _⟩ := map_spec (ih d hd) _ _ _ _ _ _ _ (by omega) hy
        have hle := H.le
        have hl := r.le
        have hlen := r.len
        rw [List.length_drop] at hl
        refine ⟨by omega, by omega, ?_, ?_, r.lim, fun lv hlv => Good.of ?_ ?_ (fun _ => asc), ?_⟩
        · rw [take_drop_app, ← H.enc (by omega), encB_eq, if_neg (by simp only [Itm.kind]; omega), if_neg (by simp only [Itm.kind]; omega), h5]
          have e : numP (.mk 5 0 [] l) = n := by simp [numP, Itm.kind, Itm.n, Itm.items, hlen]
          rw [e, ← r.enc]
          simp [Itm.kind, Itm.bytes, Itm.items]
        · rw [cnt, r.cnt]; omega
        · rw [nodeOk, if_neg (by simp [isPlain, Itm.kind])]
          simp [frameOk, Itm.kind, Itm.bytes, Itm.items, Itm.n, hlen]
          omega
        · exact r.good _ (by omega)
        · rw [Nums]
          exact ⟨by omega, r.nums⟩
      rename_i h5
      split at h
      · cases h
      rename_i l k2 c2 hy
      injection h with e1 e2 e3
      subst e1 e2 e3
      have h4 : f / 32 = 4 := by omega
      have r := arr_spec (ih d hd) _ _ _ _ _ _ (by omega) hy
      have hle := H.le
      have hl := r.le
      have hlen := r.len
      rw [List.length_drop] at hl
      refine ⟨by omega, by omega, ?_, ?_, r.lim, fun lv hlv => Good.of ?_ ?_ (fun h => by simp only [Itm.kind] at h; omega), ?_⟩
      · rw [take_drop_app, ← H.enc (by omega), encB_eq, if_neg (by simp only [Itm.kind]; omega), if_neg (by simp only [Itm.kind]; omega), h4]
        have e : numP (.mk 4 0 [] l) = n := by simp [numP, Itm.kind, Itm.n, Itm.items, hlen]
        rw [e, ← r.enc]
        simp [Itm.kind, Itm.bytes, Itm.items]
      · rw [cnt, r.cnt]; omega
      · rw [nodeOk, if_neg (by simp [isPlain, Itm.kind])]
        simp [frameOk, Itm.kind, Itm.bytes, Itm.items, Itm.n, hlen]
        omega
      · exact r.good _ (by omega)
      · rw [Nums]
        exact ⟨by omega, r.nums⟩
end Go.Proofs.YtebcnkelbicbnaaGreatDoor
namespace Go.Proofs.YtebcnkelbicbnaaGreatDoor
open Go.RowKit

/-- An element parser that counts what it reads. -/
def ReadsUp (p : List UInt8 → Nat → PR) : Prop := ∀ b c x k c', p b c = .ok x k c' → c < c' ∧ c' ≤ 256
theorem cnt_pos (x : Itm) : 0 < cnt x := by rw [cnt_eq]; omega
theorem parse_counts (d : Nat) : ReadsUp (parse d) := fun b c x k c' h => by
  have r := parse_spec d b c x k c' h
  have := cnt_pos x
  exact ⟨by rw [r.cnt]; omega, r.lim⟩
/-- An item at the beginning of bytes. -/
def prefixP (b : List UInt8) : PR := parse 8 (b.take 4096) 0
/-- The item that fills bytes. -/
def decodeP (b : List UInt8) : Except Nat Itm :=
  if 4096 < b.length then .error 8 else match prefixP b with
  | .err e => .error e
  | .ok x k _ => if k < b.length then .error 9 else .ok x
end Go.Proofs.YtebcnkelbicbnaaGreatDoor
namespace Go.Proofs.YtebcnkelbicbnaaGreatDoor
open Go.RowKit

structure Ext where
  label : Int
  has : Bool
  val : List UInt8
/-- The number of an item, if its magnitude is at most lim. -/
def numE (x : Itm) (lim : Nat) : Option Int :=
  if x.kind = 0 ∧ x.n ≤ lim then some (x.n : Int) else if x.kind = 1 ∧ x.n < lim then some (-1 - (x.n : Int)) else none
def intB (n : Int) : List UInt8 := if n < 0 then headB 1 (-1 - n).toNat else headB 0 n.toNat
/-- Reading external data; n: more than there are bytes. -/
def decExtN : Nat → List Ext → List UInt8 → Except Nat (List Ext)
  | 0, out, _ => .ok out
  | n + 1, out, b =>
    if b.length = 0 then .ok out
    else match prefixP b with
      | .err e => .error e
      | .ok x k _ =>
        if x.kind = 2 then
          (match out.getLast? with
          | none => .error 4
          | some l =>
            if l.has then .error 4 else if 600 < x.bytes.length then .error 8
            else decExtN n (out.dropLast ++ [{ l with has := true, val := x.bytes }]) (b.drop k))
        else match numE x 65535 with
          | none => .error 4
          | some v => if out.length = 4 then .error 8 else decExtN n (out ++ [{ label := v, has := false, val := [] }]) (b.drop k)
def decExt (b : List UInt8) : Except Nat (List Ext) := decExtN (b.length + 1) [] b
def shortB (c : UInt8) : Bool := decide (c.toNat < 24) || decide (32 ≤ c.toNat) && decide (c.toNat < 56)
def parseConn (b : List UInt8) : Except Nat (List UInt8 × Nat) :=
  match b with
  | [] => .error 2
  | x :: t =>
    if shortB x then .ok ([x], 1)
    else if x.toNat < 64 ∨ 88 < x.toNat then .error 4
    else if 7 < x.toNat - 64 then .error 8
    else if b.length < 1 + (x.toNat - 64) then .error 2
    else if x.toNat - 64 = 1 ∧ shortB (b.getD 1 0) then .error 4
    else .ok (t.take (x.toNat - 64), 1 + (x.toNat - 64))
/-- An element stands twice. -/
def twice : List Int → Bool
  | [] => false
  | x :: l => l.contains x || twice l
structure First where
  method : Int
  suites : List Int
  gx : List UInt8
  conn : List UInt8
  ext : List Ext
def numsE : List Itm → Option (List Int)
  | [] => some []
  | x :: l => match numE x 65535 with
    | none => none
    | some v => if v < 0 then none else match numsE l with
      | none => none
      | some t => some (v :: t)
def suitesE (x : Itm) : Except Nat (List Int) :=
  if x.kind = 0 then (if x.n ≤ 65535 then .ok [(x.n : Int)] else .error 4)
  else if x.kind ≠ 4 ∨ x.items.length < 2 then .error 4
  else match numsE x.items with
    | none => .error 4
    | some l => if twice l then .error 7 else if 8 < l.length then .error 8 else .ok l
end Go.Proofs.YtebcnkelbicbnaaGreatDoor
namespace Go.Proofs.YtebcnkelbicbnaaGreatDoor
open Go.RowKit

theorem cmp_zero : ∀ a b : List UInt8, Lib.compareBytes a b = 0 ↔ a = b
  | [], [] => by rw [Lib.compareBytes]; simp
  | [], y :: b => by rw [Lib.compareBytes]; simp
  | x :: a, [] => by rw [Lib.compareBytes]; simp
  | x :: a, y :: b => by
    rw [Lib.compareBytes]
    by_cases h1 : x < y
    · rw [if_pos h1]
      have : x ≠ y := by rintro rfl; exact UInt8.lt_irrefl x h1
      simp [this]
    · rw [if_neg h1]
      by_cases h2 : y < x
      · rw [if_pos h2]
        have : x ≠ y := by rintro rfl; exact UInt8.lt_irrefl x h2
        simp [this]
      · rw [if_neg h2]
        have e : x = y := UInt8.toNat_inj.1 (by rw [UInt8.lt_iff_toNat_lt] at h1 h2; omega)
        subst e
        simp [cmp_zero a b]
end Go.Proofs.YtebcnkelbicbnaaGreatDoor
namespace Go.Proofs.YtebcnkelbicbnaaGreatDoor
open Go.RowKit

theorem src_sub {w : World} {b off n : Nat} {l : List UInt8} (h : ∀ j (hj : j < l.length), w.cell? ⟨b, off + j, none⟩ = some (byteV l[j])) (k : Nat) (B : Option Addr) (hB : n ≠ 0 → B = some ⟨b, off + k, none⟩) (hk : k + n ≤ l.length) : Src w B (((l.drop k).take n).map byteV) := fun hne => by
  have h0 : n ≠ 0 := by
    intro h0
    subst h0
    simp at hne
  refine ⟨b, off + k, hB h0, fun j v hj => ?_⟩
  rw [List.getElem?_map] at hj
  obtain ⟨u, hu, rfl⟩ := Option.map_eq_some_iff.1 hj
  rw [List.getElem?_take] at hu
  split at hu
  · rename_i hjn
    rw [List.getElem?_drop] at hu
    obtain ⟨h1, h2⟩ := List.getElem?_eq_some_iff.1 hu
    rw [Nat.add_assoc, h (k + j) h1, h2]
  · cases hu

end Go.Proofs.YtebcnkelbicbnaaGreatDoor
namespace Go.Proofs.YtebcnkelbicbnaaGreatDoor
open Go.RowKit

theorem good_intP (n : Int) (lv : Nat) : Good (intP n) lv := by
  rw [intP]
  split <;> (rw [Good]; refine ⟨?_, by rw [GoodL]; trivial, by intro h; omega⟩; simp [nodeOk, isPlain, okPlain, frameOk, Itm.kind, Itm.bytes, Itm.items, Itm.n])
theorem encB_intP (n : Int) : encB (intP n) = intB n := by
  rw [enc_num (good_intP n 0) (by rw [intP]; split <;> simp [Itm.kind]), intP, intB]
  split <;> rfl
end Go.Proofs.YtebcnkelbicbnaaGreatDoor
namespace Go.Proofs.YtebcnkelbicbnaaGreatDoor
open Go.RowKit

/-- A reader's three cells: the bytes, the place, the count of items. -/
abbrev psrC (A : Option Addr) (n c p cnt : Nat) : Array Value := #[.slice A n c, .int .i64 (p : Int), .int .i64 (cnt : Int)]
/-- A reader at T, and the bytes that stay. -/
structure Psr (T : TypeId) (w : World) (g : Nat) (H : Snap) (A : Option Addr) (c : Nat) (l : List UInt8) (p cnt : Nat) : Prop where
  blk : Blk w g T (psrC A l.length c p cnt)
  bytes : IsBytes H A c l
  holds : Holds w H
  apart : H g = none
  le : p ≤ l.length
  small : l.length ≤ 4096
  cnt_le : cnt ≤ 256
theorem grown_drewN {w0 w : World} {r : Option Nat} (h : w0.grownBy w r) : ∀ q, w0.grownBy (w.drewN q) r
  | 0 => h
  | q + 1 => grown_drew (grown_drewN h q)
def NumSaid (T : TypeId) (w : World) (g : Nat) (A : Option Addr) (c : Nat) (l : List UInt8) (p cnt z : Nat) (e : Ending) (w' : World) : Prop :=
  (l.length < p + z ∧ e = .returned (.tuple #[.int .u64 0, .bool false]) ∧ Blk w' g T (psrC A l.length c p cnt) ∧ w.grownBy w' (some g)) ∨
  (p + z ≤ l.length ∧ e = .returned (.tuple #[.int .u64 (beN ((l.drop p).take z) : Int), .bool true]) ∧ Blk w' g T (psrC A l.length c (p + z) cnt) ∧ w.grownBy w' (some g))
theorem or_byte (x c : Nat) (hc : c < 256) : x * 256 ||| c = x * 256 + c := by
  have h := Nat.shiftLeft_add_eq_or_of_lt (show c < 2 ^ 8 by omega) x
  rw [Nat.shiftLeft_eq] at h
  exact h.symm
theorem u64_or_byte (x c : Nat) (hx : x * 256 < 18446744073709551616) (hc : c < 256) : bits .or .u64 ((x : Int) * 256) (c : Int) = ((x * 256 + c : Nat) : Int) := by
  rw [show ((x : Int) * 256) = ((x * 256 : Nat) : Int) by omega, u64_or_nat _ _ hx (by omega), or_byte x c hc]
theorem beN_take (l : List UInt8) (k : Nat) (hk : k < l.length) : beN (l.take (k + 1)) = beN (l.take k) * 256 + l[k].toNat := by
  rw [List.take_succ_eq_append_getElem hk, beN_snoc]
theorem beN_take_lt (l : List UInt8) (k : Nat) (hk : k < 8) : beN (l.take k) * 256 < 18446744073709551616 := by
  have h := beN_lt (l.take k)
  have h2 : (l.take k).length ≤ 7 := by rw [List.length_take]; omega
  have h3 : (256 : Nat) ^ (l.take k).length ≤ 256 ^ 7 := Nat.pow_le_pow_right (by omega) h2
  have h4 : (256 : Nat) ^ 7 = 72057594037927936 := by decide
  omega

theorem size_int1 : (Tryz.prog.info? 3).map (·.size) = some 1 := by kernel_rfl
set_option maxRecDepth 100000 in
set_option maxHeartbeats 1600000 in
theorem p_number {w : World} {g : Nat} {H : Snap} {A : Option Addr} {c : Nat} {l : List UInt8} {p cnt : Nat} (hP : Psr 109 w g H A c l p cnt) (z : Nat) (hz1 : 1 ≤ z) (hz8 : z ≤ 8) :
    Calls Tryz.prog 119 #[.pointer (some ⟨g, 0, none⟩), .int .i64 (z : Int)] w (NumSaid 109 w g A c l p cnt z) := by
  have hB := hP.blk
  have c0 := hB.cell 0 rfl
  have c1 := hB.cell 1 rfl
  have HP := Lib.hid hP
  have hpl := hP.le
  have hsm := hP.small
  have hcl := hP.bytes.le
  have hcm := hP.bytes.max
  have HZ := Lib.hid (And.intro hz1 hz8)
  have hzi : (z : Int) ≤ 8 := by omega
  have hpi : (p : Int) ≤ (l.length : Int) := by omega
  have hli : (l.length : Int) ≤ 4096 := by omega
  have K0 : IntKind.i64.wrap ((l.length : Int) - (p : Int)) = (l.length : Int) - (p : Int) := IntWalk.i64_in _ (by omega)
  by_cases hlt : l.length < p + z
  · have z0 : (l.length : Int) - (p : Int) < (z : Int) := by omega
    have HL := Lib.hid hlt
    clear hz1 hz8 hpl hsm hcl hcm hP hlt
    go_enter Tryz.func119, Tryz.ntmps119
    go_wp2_with fail
    go_big_quiet (fail)
    go_wp2_with fail
    go_ret2
    exact .inl ⟨HL.out, rfl, hB, grown_drewN (grown_refl w _) _⟩
  · have z0 : ¬ ((l.length : Int) - (p : Int) < (z : Int)) := by omega
    have z0b : decide ((l.length : Int) - (p : Int) < (z : Int)) = false := decide_eq_false z0
    have K1 : IntKind.i64.wrap ((p : Int) + (z : Int)) = (p : Int) + (z : Int) := IntWalk.i64_in _ (by omega)
    have hle2 : (p : Int) ≤ (p : Int) + (z : Int) := by omega
    have hle3 : (p : Int) + (z : Int) ≤ (c : Int) := by omega
    have hle4 : (p : Int) ≤ (c : Int) := by omega
    have hp0 : (0 : Int) ≤ (p : Int) := by omega
    have hcp : (c = p) = False := eq_false (by omega)
    obtain ⟨b, off, rfl, hcell⟩ := hP.bytes.at_ (by omega)
    have HC := Lib.hid hcell
    have HH := Lib.hid hP.holds
    have HL := Lib.hid (Nat.not_lt.1 hlt)
    clear hz1 hz8 hpl hsm hcl hcm hP hcell hlt
    go_enter Tryz.func119, Tryz.ntmps119
    go_wp2_with fail
    go_big_quiet (fail)
    obtain ⟨w1, hw1⟩ : ∃ W, w.drewN nq = W := ⟨_, rfl⟩
    have hB1 : Blk w1 g 109 (psrC (some ⟨b, off, none⟩) l.length c p cnt) := hw1 ▸ hB
    have hG1 : w.grownBy w1 (some g) := hw1 ▸ grown_drewN (grown_refl w _) _
    have hH1 : Holds w1 H := hw1 ▸ HH.out
    rw [hw1]
    clear hw1 c0 c1
    have c0 := hB1.cell 0 rfl
    have c1 := hB1.cell 1 rfl
    go_wp2_with fail
    go_big_quiet (fail)
    go_wp2_with fail
    obtain ⟨W, hW⟩ : ∃ W, w1.drewN nq = W := ⟨_, rfl⟩
    have hBW : Blk W g 109 (psrC (some ⟨b, off, none⟩) l.length c p cnt) := hW ▸ hB1
    have hGW : w.grownBy W (some g) := hW ▸ grown_drewN hG1 _
    have hHW : Holds W H := hW ▸ hH1
    rw [hW]
    clear hW c0 c1 hB hB1 hG1 hH1
    have E : Hid ((l.drop p).length = l.length - p) := List.length_drop
    go_loopw [6, 8, 37] (fun v6 v8 v37 wr => wr = W ∧ ∃ k : Nat, k ≤ z ∧ v37 = .int .i64 (k : Int) ∧ v6 = .int .u64 (beN ((l.drop p).take k) : Int)) (fun _ _ v37 _ => z - (intOf v37).toNat)
    case atStart => exact ⟨rfl, 0, Nat.zero_le _, rfl, rfl⟩
    case round =>
      obtain ⟨rfl, k, hk, rfl, rfl⟩ := hrel
      by_cases hkz : k < z
      · have hkl : p + k < l.length := by have := HL.out; omega
        have hkz2 : (k : Int) < (z : Int) := by omega
        have hkd : k < (l.drop p).length := by have := E.out; omega
        have q0 := hHW.cell (HC.out (p + k) hkl)
        rw [← Nat.add_assoc] at q0
        have ex : (l.drop p)[k] = l[p + k] := by rw [List.getElem_drop]
        have hX := beN_take_lt (l.drop p) k (by have := HZ.out; omega)
        have hS := beN_take (l.drop p) k hkd
        rw [ex] at hS
        obtain ⟨X, hXX⟩ : ∃ X, beN ((l.drop p).take k) = X := ⟨_, rfl⟩
        obtain ⟨ch, hch⟩ : ∃ ch, l[p + k] = ch := ⟨_, rfl⟩
        rw [hXX] at hX hS ⊢
        rw [hch] at hS q0
        have lc := ch.toNat_lt
        have K2 : IntKind.u64.wrap ((X : Int) * 256) = (X : Int) * 256 := by rw [IntKind.wrap_u64]; omega
        have K3 : bits .or .u64 ((X : Int) * 256) (ch.toNat : Int) = ((X * 256 + ch.toNat : Nat) : Int) := u64_or_byte X _ hX lc
        have HS := Lib.hid hS
        have hk1 : (k : Int) + 1 ≤ 9223372036854775807 := by have := HZ.out; omega
        clear hX hS hXX hch ex hkd
        go_wp2_with fail
        go_roundw
        case rel => exact ⟨by trivial, k + 1, by omega, by go_num, by rw [HS.out, Int.natCast_add, Int.natCast_mul]; rfl⟩
        case measure => simp [intOf]; omega
      · have hkk : k = z := by omega
        subst hkk
        have hnl : ¬ ((k : Int) < (k : Int)) := by omega
        have c1 := hBW.cell 1 rfl
        obtain ⟨X, hXX⟩ : ∃ X, beN ((l.drop p).take k) = X := ⟨_, rfl⟩
        rw [hXX]
        have HX := Lib.hid hXX
        clear hXX
        go_wp2_with (with_reducible refine stop_store ?_)
        unfold Stopped
        refine wpList_store_cell rfl _ _ _ rfl rfl g 1 (.int .i64 ((p : Int) + (k : Int))) rfl rfl _ _ hBW size_int1 (by simp) rfl fun w2 hB2 hG2 => ?_
        have hG3 := grown_step hGW hG2 (.inl rfl)
        have hB3 : Blk w2 g 109 (psrC (some ⟨b, off, none⟩) l.length c (p + k) cnt) := by
          have e : ((p + k : Nat) : Int) = (p : Int) + (k : Int) := by omega
          rw [psrC, e]
          exact hB2
        clear hB2 hG2 hBW hGW c1
        go_wp2_with fail
        go_ret2
        exact .inr ⟨HL.out, by rw [HX.out]; rfl, hB3, hG3⟩
end Go.Proofs.YtebcnkelbicbnaaGreatDoor
