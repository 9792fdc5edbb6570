/- squeezed. Walks: the messages of a key excha -/
import Derived.Test.YtlebpackbfcfeaaGreatDoorK37
import Derived.Test.YtlebpackbfcfeaaGreatDoorK25
import Derived.Test.YtlebpackbfcfeaaGreatDoorK21
set_option linter.unusedVariables false
set_option linter.unusedSimpArgs false
set_option maxRecDepth 100000
set_option maxHeartbeats 6400000
namespace Go.Proofs.YtlebpackbfcfeaaGreatDoor
open Go.RowKit
def lieE : Lie Ext where
 k := 3
 pos := by omega
 E := fun H x c => ∃ A cc, c = [.int .i64 x.label, .bool x.has, .slice A x.val.length cc] ∧ IsBytes H A cc x.val
 len := by rintro _ _ _ ⟨_, _, rfl, _⟩; rfl
 one := by rintro _ _ _ ⟨_, _, rfl, _⟩; simp [Value.oneCell']
 mono := by rintro H K x c hl ⟨A, cc, e, h⟩; exact ⟨A, cc, e, h.mono hl⟩
def numK (kd : Int) (n lim : Nat) : Option Int := if kd = 0 ∧ n ≤ lim then some (n : Int) else if kd = 1 ∧ n < lim then some (-1 - (n : Int)) else none
theorem numE_K (x : Itm) (lim : Nat) : numE x lim = numK x.kind x.n lim := rfl
def numV : Option Int → Array Value
 | none => #[.int .i64 0, .bool false]
 | some v => #[.int .i64 v, .bool true]
theorem IsBytes.drop {H : Snap} {A : Option Addr} {c : Nat} {l : List UInt8} (h : IsBytes H A c l) (k : Nat) (hk : k ≤ l.length) : IsBytes H (if c = k then A else Option.map (fun x => x.add k) A) (c - k) (l.drop k) := by
 have hle := h.le;have hmax := h.max
 refine ⟨by rw [List.length_drop]; omega, by omega, fun hne => ?_⟩
 have hkl : k < l.length := by
  rcases Nat.lt_or_ge k l.length with h1 | h1
  ·exact h1
  ·rw [List.drop_eq_nil_of_le h1] at hne; exact absurd rfl hne
 obtain ⟨b, off, rfl, hc⟩ := h.row (by intro h0; rw [List.map_eq_nil_iff] at h0; subst h0; simp at hkl);rw [if_neg (by omega)]
 refine ⟨b, off + k, by rw [Option.map_some, addr_add], fun j v hj => ?_⟩
 rw [List.map_drop, List.getElem?_drop] at hj;have := hc (k + j) v hj;rwa [← Nat.add_assoc] at this
section
variable (kd : Int) (n : Nat) (ja : Option Addr) (jl jb : Nat) (jc : Option Addr) (jm jd : Nat) (w : World)
theorem e_number : Calls Tryz.prog 64 #[.agg #[.int .i64 kd, .int .u64 (n : Int), .slice ja jl jb, .slice jc jm jd]] w
  fun e w' => e = .returned (.tuple (numV (numK kd n 65535))) ∧ Below w.heap.size w w' := by
 have hB := Blk.new w 31 #[.int .i64 kd, .int .u64 (n : Int), .slice ja jl jb, .slice jc jm jd];have hb := below_box w (.cells #[.int .i64 kd, .int .u64 (n : Int), .slice ja jl jb, .slice jc jm jd] 31);have c0 := hB.cell 0 rfl;have c1 := hB.cell 1 rfl
 by_cases h0 : kd = 0
 ·subst h0
  by_cases hn : n ≤ 65535
  ·have z : (n : Int) ≤ 65535 := by omega
   have zb : decide ((n : Int) ≤ 65535) = true := decide_eq_true z;have K : IntKind.i64.wrap (n : Int) = (n : Int) := IntWalk.i64_in _ (by omega);have E : Hid (numK 0 n 65535 = some (n : Int)) := by rw [Hid, numK, if_pos ⟨rfl, hn⟩]
   clear hn;go_enter Tryz.func64, Tryz.ntmps64
   go_wp2_with fail
   go_ret2
   exact ⟨by rw [E.out]; rfl, hb⟩
  ·have z : ¬ ((n : Int) ≤ 65535) := by omega
   have zb : decide ((n : Int) ≤ 65535) = false := decide_eq_false z;have E : Hid (numK 0 n 65535 = none) := by rw [Hid, numK, if_neg (fun h => hn h.2), if_neg (fun h => by omega)]
   clear hn;go_enter Tryz.func64, Tryz.ntmps64
   go_wp2_with fail
   go_ret2
   exact ⟨by rw [E.out]; rfl, hb⟩
 have p0 : (kd == 0) = false := by simpa using h0
 have p0' : (kd = 0) = False := eq_false h0
 by_cases h1 : kd = 1
 ·subst h1
  by_cases hn : n < 65535
  ·have z : (n : Int) < 65535 := by omega
   have zb : decide ((n : Int) < 65535) = true := decide_eq_true z;have K : IntKind.i64.wrap (n : Int) = (n : Int) := IntWalk.i64_in _ (by omega);have E : Hid (numK 1 n 65535 = some (-1 - (n : Int))) := by rw [Hid, numK, if_neg (fun h => by omega), if_pos ⟨rfl, hn⟩]
   clear hn h0;go_enter Tryz.func64, Tryz.ntmps64
   go_wp2_with fail
   go_ret2
   exact ⟨by rw [E.out]; rfl, hb⟩
  ·have z : ¬ ((n : Int) < 65535) := by omega
   have zb : decide ((n : Int) < 65535) = false := decide_eq_false z;have E : Hid (numK 1 n 65535 = none) := by rw [Hid, numK, if_neg (fun h => by omega), if_neg (fun h => hn h.2)]
   clear hn h0;go_enter Tryz.func64, Tryz.ntmps64
   go_wp2_with fail
   go_ret2
   exact ⟨by rw [E.out]; rfl, hb⟩
 have p1 : (kd == 1) = false := by simpa using h1
 have p1' : (kd = 1) = False := eq_false h1;have E : Hid (numK kd n 65535 = none) := by rw [Hid, numK, if_neg (fun h => h0 h.1), if_neg (fun h => h1 h.1)]
 clear h0 h1;go_enter Tryz.func64, Tryz.ntmps64
 go_wp2_with fail
 go_ret2
 exact ⟨by rw [E.out]; rfl, hb⟩
theorem ref_number (lim : Nat) (hl : lim ≤ 65535) : Calls Tryz.prog 39 #[.agg #[.int .i64 kd, .int .u64 (n : Int), .slice ja jl jb, .slice jc jm jd], .int .u64 (lim : Int)] w
  fun e w' => e = .returned (.tuple (numV (numK kd n lim))) ∧ Below w.heap.size w w' := by
 have hB := Blk.new w 31 #[.int .i64 kd, .int .u64 (n : Int), .slice ja jl jb, .slice jc jm jd];have hb := below_box w (.cells #[.int .i64 kd, .int .u64 (n : Int), .slice ja jl jb, .slice jc jm jd] 31);have c0 := hB.cell 0 rfl;have c1 := hB.cell 1 rfl;have hli : (lim : Int) ≤ 65535 := by omega
 have HL := Hh hl;clear hl
 by_cases h0 : kd = 0
 ·subst h0
  by_cases hn : n ≤ lim
  ·have z : (n : Int) ≤ (lim : Int) := by omega
   have zb : decide ((n : Int) ≤ (lim : Int)) = true := decide_eq_true z;have K : IntKind.i64.wrap (n : Int) = (n : Int) := IntWalk.i64_in _ (by have := HL.out; omega);have E : Hid (numK 0 n lim = some (n : Int)) := by rw [Hid, numK, if_pos ⟨rfl, hn⟩]
   clear hn;go_enter Tryz.func39, Tryz.ntmps39
   go_wp2_with fail
   go_ret2
   exact ⟨by rw [E.out]; rfl, hb⟩
  ·have z : ¬ ((n : Int) ≤ (lim : Int)) := by omega
   have zb : decide ((n : Int) ≤ (lim : Int)) = false := decide_eq_false z;have E : Hid (numK 0 n lim = none) := by rw [Hid, numK, if_neg (fun h => hn h.2), if_neg (fun h => by omega)]
   clear hn;go_enter Tryz.func39, Tryz.ntmps39
   go_wp2_with fail
   go_ret2
   exact ⟨by rw [E.out]; rfl, hb⟩
 have p0 : (kd == 0) = false := by simpa using h0
 have p0' : (kd = 0) = False := eq_false h0
 by_cases h1 : kd = 1
 ·subst h1
  by_cases hn : n < lim
  ·have z : (n : Int) < (lim : Int) := by omega
   have zb : decide ((n : Int) < (lim : Int)) = true := decide_eq_true z;have K : IntKind.i64.wrap (n : Int) = (n : Int) := IntWalk.i64_in _ (by have := HL.out; omega);have hn6 : (n : Int) ≤ 65535 := by omega
   have E : Hid (numK 1 n lim = some (-1 - (n : Int))) := by rw [Hid, numK, if_neg (fun h => by omega), if_pos ⟨rfl, hn⟩]
   clear hn h0;go_enter Tryz.func39, Tryz.ntmps39
   go_wp2_with fail
   go_ret2
   exact ⟨by rw [E.out]; rfl, hb⟩
  ·have z : ¬ ((n : Int) < (lim : Int)) := by omega
   have zb : decide ((n : Int) < (lim : Int)) = false := decide_eq_false z;have E : Hid (numK 1 n lim = none) := by rw [Hid, numK, if_neg (fun h => by omega), if_neg (fun h => hn h.2)]
   clear hn h0;go_enter Tryz.func39, Tryz.ntmps39
   go_wp2_with fail
   go_ret2
   exact ⟨by rw [E.out]; rfl, hb⟩
 have p1 : (kd == 1) = false := by simpa using h1
 have p1' : (kd = 1) = False := eq_false h1;have E : Hid (numK kd n lim = none) := by rw [Hid, numK, if_neg (fun h => h0 h.1), if_neg (fun h => h1 h.1)]
 clear h0 h1;go_enter Tryz.func39, Tryz.ntmps39
 go_wp2_with fail
 go_ret2
 exact ⟨by rw [E.out]; rfl, hb⟩
end
theorem size_errno : (Tryz.prog.info? 34).map (·.size) = some 1 := by kernel_rfl
theorem size_er : (Tryz.prog.info? 70).map (·.size) = some 2 := by kernel_rfl
abbrev erC (A : Option Addr) (n c q : Nat) : Array Value := #[.slice A n c, .int .i64 (q : Int)]
section
variable {w : World} {g : Nat} {A : Option Addr} {n c q : Nat}
theorem e_fail (hB : Blk w g 70 (erC A n c q)) (e0 : Nat) : Calls Tryz.prog 36 #[.pointer (some ⟨g, 0, none⟩), .int .i64 (e0 : Int)] w
  fun e w' => (∃ v, e = .returned v) ∧ Blk w' g 70 (erC A n c (if q = 0 then e0 else q)) ∧ w.grownBy w' (some g) := by
 have c1 := hB.cell 1 rfl
 by_cases hq : q = 0
 ·subst hq;rw [if_pos rfl];go_enter Tryz.func36, Tryz.ntmps36
  go_wp2_with (with_reducible refine stop_store ?_)
  refine wpList_store_cell rfl _ _ _ rfl rfl g 1 (.int .i64 (e0 : Int)) rfl rfl _ _ hB size_errno (by simp) rfl fun w3 hB3 hG3 => ?_
  go_wp2_with fail
  go_end0
  exact ⟨⟨_, rfl⟩, hB3, hG3⟩
 ·have z : ((q : Int) == 0) = false := by simp; omega
  have z' : ((q : Int) = 0) = False := eq_false (by omega);rw [if_neg hq];clear hq;go_enter Tryz.func36, Tryz.ntmps36
  go_wp2_with fail
  go_end0
  exact ⟨⟨_, rfl⟩, hB, grown_refl w _⟩
end
structure Rdr (w : World) (g : Nat) (H : Snap) (A : Option Addr) (c : Nat) (l : List UInt8) (q : Nat) : Prop where
 blk : Blk w g 70 (erC A l.length c q)
 bytes : IsBytes H A c l
 holds : Holds w H
 apart : H g = none
structure Est (w : World) (H : Snap) (w' : World) (H' : Snap) (g : Nat) (A : Option Addr) (c : Nat) (l : List UInt8) (q : Nat) : Prop where
 grows : GrowsBut w H w' H' g
 rd : Rdr w' g H' A c l q
section
variable {w w' w'' : World} {H H' H'' : Snap} {g : Nat} {A A' : Option Addr} {c c' : Nat} {l l' : List UInt8} {q q' : Nat}
theorem Rdr.gt (h : Rdr w g H A c l q) : g < w.heap.size := h.blk.lt
theorem Est.refl (h : Rdr w g H A c l q) : Est w H w H g A c l q := ⟨GrowsBut.refl h.holds g, h⟩
theorem Est.trans (h : Est w H w' H' g A c l q) (k : Est w' H' w'' H'' g A' c' l' q') : Est w H w'' H'' g A' c' l' q' := ⟨h.grows.trans k.grows, k.rd⟩
theorem Rdr.grows (h : Rdr w g H A c l q) (k : Grows w H w' H') : Est w H w' H' g A c l q :=
 ⟨k.but g, ⟨h.blk.below k.below, h.bytes.mono k.le, k.holds, k.none h.apart h.gt⟩⟩
theorem Est.grown (h : Est w H w' H' g A c l q) (k : Grows w' H' w'' H'') : Est w H w'' H'' g A c l q := h.trans (h.rd.grows k)
theorem Est.alloc (h : Est w H w' H' g A c l q) (o : Obj) : Est w H (w'.alloc o) H' g A c l q := h.grown ((Grows.refl h.rd.holds).alloc o)
theorem Est.below_ (h : Est w H w' H' g A c l q) (k : Below w'.heap.size w' w'') : Est w H w'' H' g A c l q := h.grown (Grows.of_below h.rd.holds k)
theorem Est.drewN (h : Est w H w' H' g A c l q) (m : Nat) : Est w H (w'.drewN m) H' g A c l q := h.below_ (below_drewNv (Below.refl _ _) m)
theorem Est.size (h : Est w H w' H' g A c l q) : w.heap.size ≤ w'.heap.size := h.grows.grown.size
theorem Est.hid (h : Est w H w' H' g A c l q) {k : Nat} (hk : H k = .none) (hl : k < w.heap.size) : H' k = .none := h.grows.hid hk hl
theorem Est.step (h : Est w H w' H' g A c l q) (hg : w'.grownBy w'' (some g)) (hb : Blk w'' g 70 (erC A' l'.length c' q')) (hl : IsBytes H' A' c' l') : Est w H w'' H' g A' c' l' q' :=
 ⟨⟨grown_step h.grows.grown hg (.inl rfl), h.grows.le, h.rd.holds.grown hg (by rintro q ⟨⟩; exact h.rd.apart), h.grows.fresh⟩,
  hb, hl, h.rd.holds.grown hg (by rintro q ⟨⟩; exact h.rd.apart), h.rd.apart⟩
theorem Est.grownRow {row : Option Nat} (h : Est w H w' H' g A c l q) (h0 : ∀ k, row = some k → H' k = .none) (hw : ∀ k, row = some k → w.heap.size ≤ k) (hlt : g < w.heap.size) (hg : w'.grownBy w'' row) : Est w H w'' H' g A c l q := by
 have hd := h.rd;have hne : row ≠ some g := fun e => by have := hw g e; omega
 refine ⟨⟨?_, h.grows.le, hd.holds.grown hg h0, h.grows.fresh⟩, hd.blk.grown hg hne, hd.bytes, hd.holds.grown hg h0, hd.apart⟩
 exact ⟨hg.os.trans h.grows.grown.os, hg.tape.trans h.grows.grown.tape, hg.output.trans h.grows.grown.output, Nat.le_trans h.size hg.size, fun i hi hne' =>
   (hg.block i (Nat.lt_of_lt_of_le hi h.size) (fun e => by have := hw i e.symm; omega)).trans (h.grows.grown.block i hi hne')⟩
theorem Blk.est {k : Nat} {t : TypeId} {cs : Array Value} (h : Blk w k t cs) (hd : Est w H w' H' g A c l q) (hk : k ≠ g) : Blk w' k t cs :=
 h.grown hd.grows.grown (by intro e; injection e with e; exact hk e.symm)
theorem OwnX.est {α : Type} {L : Lie α} {t : TypeId} {base : Nat} {v : Value} {K : Snap} {xs : List α} (h : OwnX L t w base v K xs) (hd : Est w H w' H' g A c l q) (hb : g < base) : OwnX L t w' base v K xs := by
 refine h.kept hd.grows.grown ?_
 cases hv : v.ownBlock with
 | none => exact .inl rfl
 | some k => exact .inr (fun e => by injection e with e; have := h.lt k hv; omega)
def EItem (w : World) (H : Snap) (g : Nat) (l : List UInt8) (e : Ending) (w' : World) : Prop :=
 match prefixP l with
 | .err q => e = .returned zeroV ∧ ∃ H' A' c', Est w H w' H' g A' c' l q
 | .ok x k _ => ∃ ja jb jc jd H' A' c', e = .returned (itemV x ja jb jc jd) ∧ Est w H w' H' g A' c' (l.drop k) 0 ∧ IsItem H' ja jb jc jd x
theorem EItem.err {e : Ending} (hr : prefixP l = .err q) (he : e = .returned zeroV) (h : Est w H w' H' g A c l q) : EItem w H g l e w' := by
 rw [EItem, hr]; exact ⟨he, H', A, c, h⟩
theorem EItem.ok {e : Ending} {x : Itm} {k m : Nat} {ja : Option Addr} {jb : Nat} {jc : Option Addr} {jd : Nat} (hr : prefixP l = .ok x k m) (he : e = .returned (itemV x ja jb jc jd)) (h : Est w H w' H' g A c (l.drop k) 0) (hi : IsItem H' ja jb jc jd x) : EItem w H g l e w' := by
 rw [EItem, hr]; exact ⟨ja, jb, jc, jd, H', A, c, he, h, hi⟩
theorem e_item (hTab : Tabs H) (hR : Rdr w g H A c l 0) : Calls Tryz.prog 35 #[.pointer (some ⟨g, 0, none⟩)] w (EItem w H g l) := by
 have hgl := hR.gt;have hd0 := (Est.refl hR).alloc zeroO;have hT0 := Blk.new w 31 #[.int .i64 0, .int .u64 0, .slice none 0 0, .slice none 0 0];have hn0 : H w.heap.size = none := hR.holds.none_of_ge (Nat.le_refl _);have c0 := hd0.rd.blk.cell 0 rfl;have c1 := hd0.rd.blk.cell 1 rfl;have PF := Hh (cbor_Prefix hTab (w.alloc zeroO) hd0.rd.holds rfl hR.bytes);go_enter Tryz.func35, Tryz.ntmps35
 go_wp2_with fail
 have hT0' : Blk (w.alloc zeroO) w.heap.size 31 #[.int .i64 0, .int .u64 0, .slice none 0 0, .slice none 0 0] := hT0;clear hT0 c0 c1
 generalize w.alloc zeroO = w1 at hd0 hT0' PF ⊢
 have hd1 := hd0;have hT1 := hT0';clear hd0 hT0'
 refine PF.out.mono ?_
 intro e w2 hs
 unfold PrefixOut at hs
 cases hp : prefixP l with
 | err q =>
  rw [hp] at hs;obtain ⟨rfl, hb2⟩ := hs;have HP := Hh hp;have hq0 : ((q : Int) != 0) = true := by rw [bne_iff_ne]; have := parse_err _ _ _ _ hp; omega
  have hq0' : ((q : Int) = 0) = False := eq_false (by have := parse_err _ _ _ _ hp; omega);have hd2 := hd1.below_ hb2;have hT2 := hT1.below hb2;have hX0 := Blk.new w2 31 #[.int .i64 0, .int .u64 0, .slice none 0 0, .slice none 0 0];have hXn : H w2.heap.size = none := hd2.rd.holds.none_of_ge (Nat.le_refl _);have hTl := Hh hT2.lt;have hd3 := hd2.alloc zeroO;have hT3 := hT2.alloc zeroO;clear hp PF hd1 hT1 hb2 hd2 hT2;go_wp2_with (with_reducible refine stop_store ?_)
  refine stI hX0 fun w4 hX4 hg4 => ?_
  have hd4 := hd3.grownRow (row := some w2.heap.size) (by rintro q ⟨⟩; exact hXn) (by rintro q ⟨⟩; exact Nat.le_of_lt hTl.out) hgl hg4;have hT4 := hT3.grown hg4 (by intro e; injection e with e; have := hTl.out; omega);have FL := Hh (e_fail hd4.rd.blk q);rw [if_pos rfl] at FL;clear hd3 hT3 hX0 hg4 hX4;go_wp2_with fail
  refine FL.out.mono ?_
  rintro e w5 ⟨⟨v, rfl⟩, hB5, hG5⟩
  have hd5 := hd4.step hG5 hB5 hd4.rd.bytes;have hT5 := hT4.gr hG5 (by omega);clear FL hd4 hT4 hB5 hG5;go_wp2_with (with_reducible refine stop_store ?_)
  refine stI hT5 fun wz hTy hgz => ?_
  have hdz := hd5.grownRow (row := some w.heap.size) (by rintro q ⟨⟩; exact hn0) (by rintro q ⟨⟩; exact Nat.le_refl _) hgl hgz;go_wp2_with fail
  refine ret_row rfl rfl hTy rfl rfl size_item rfl ?_
  exact EItem.err HP.out rfl hdz
 | ok x k m =>
  rw [hp] at hs;obtain ⟨ja, jb, jc, jd, H2, rfl, hG2, hi2⟩ := hs;have HP := Hh hp;have hkl := (prefix_spec hp).1;have hcl := hR.bytes.le;have hcm := hR.bytes.max;have hd2 := hd1.grown hG2;have hT2 := hT1.below hG2.below;have hn2 := hG2.none hn0 hT1.lt;have hX0 := Blk.new w2 31 #[.int .i64 0, .int .u64 0, .slice none 0 0, .slice none 0 0];have hXn : H2 w2.heap.size = none := hd2.rd.holds.none_of_ge (Nat.le_refl _);have hTl := Hh hT2.lt;have hd3 := hd2.alloc zeroO;have hT3 := hT2.alloc zeroO;have HCL := Hh (And.intro hkl (And.intro hcl hcm));obtain ⟨b, off, rfl, _⟩ := hR.bytes.at_ (by have := (prefix_spec HP.out).2.2.1; omega);have HDR0 := Hh (hd2.rd.bytes.drop k hkl);have HKP := Hh (prefix_spec HP.out).2.2.1;clear hp PF hd1 hT1 hG2 hd2 hT2 hkl hcl hcm;go_wp2_with (with_reducible refine stop_store ?_)
  refine stI hX0 fun w4 hX4 hg4 => ?_
  have hd4 := hd3.grownRow (row := some w2.heap.size) (by rintro q ⟨⟩; exact hXn) (by rintro q ⟨⟩; exact Nat.le_of_lt hTl.out) hgl hg4;have hT4 := hT3.grown hg4 (by intro e; injection e with e; have := hTl.out; omega);have a0 := hd4.rd.blk.cell 0 rfl;have s1 : (k : Int) ≤ (l.length : Int) := by have := HCL.out.1; omega
  have s2 : (l.length : Int) ≤ (c : Int) := by have := HCL.out.2.1; omega
  have s3 : (k : Int) ≤ (c : Int) := by omega
  have s4 : (0 : Int) ≤ (k : Int) := by omega
  clear hd3 hT3 hX0 hg4
  by_cases hck : c = k
  ·have hck' : k = c := hck.symm;subst hck
   have HDR : Hid (IsBytes H2 (some ⟨b, off, none⟩) 0 (l.drop c)) := by
    have h := HDR0.out;rw [if_pos rfl, Nat.sub_self] at h
    exact h
   clear HDR0 hck';go_wp2_with (with_reducible refine stop_store ?_)
   refine wpList_store_cell rfl _ _ _ rfl rfl g 0 (.slice (some ⟨b, off, none⟩) (l.length - c) 0) rfl rfl _ _ hd4.rd.blk size_bytes (by simp) rfl fun w5 hB5 hG5 => ?_
   have hB5' : Blk w5 g 70 (erC (some ⟨b, off, none⟩) (l.drop c).length 0 0) := by rw [List.length_drop]; exact hB5
   have hd5 := hd4.step hG5 hB5' HDR.out;have hT5 := hT4.gr hG5 (by omega);have hXg := Hh (show w2.heap.size ≠ g by have := hTl.out; omega);have hX5 := hX4.grown hG5 (by intro e; injection e with e; exact hXg.out e.symm);have b0 := hX5.cell 0 rfl;have b1 := hX5.cell 1 rfl;have b2 := hX5.cell 2 rfl;have b3 := hX5.cell 3 rfl;clear hd4 hT4 hB5 hB5' hG5 a0 hX4 s1 s2 s3 s4;go_wp2_with (with_reducible refine stop_store ?_)
   refine stI hT5 fun wz hTy hgz => ?_
   have hdz := hd5.grownRow (row := some w.heap.size) (by rintro q ⟨⟩; exact hn2) (by rintro q ⟨⟩; exact Nat.le_refl _) hgl hgz;go_wp2_with fail
   refine ret_row rfl rfl hTy rfl rfl size_item rfl ?_
   exact EItem.ok HP.out rfl hdz hi2
  ·have hckF : (c = k) = False := eq_false hck
   have HDR : Hid (IsBytes H2 (some ⟨b, off + k, none⟩) (c - k) (l.drop k)) := by
    have h := HDR0.out;rw [if_neg hck, Option.map_some, addr_add] at h
    exact h
   clear HDR0 hck;go_wp2_with (with_reducible refine stop_store ?_)
   refine wpList_store_cell rfl _ _ _ rfl rfl g 0 (.slice (some ⟨b, off + k, none⟩) (l.length - k) (c - k)) rfl rfl _ _ hd4.rd.blk size_bytes (by simp) rfl fun w5 hB5 hG5 => ?_
   have hB5' : Blk w5 g 70 (erC (some ⟨b, off + k, none⟩) (l.drop k).length (c - k) 0) := by rw [List.length_drop]; exact hB5
   have hd5 := hd4.step hG5 hB5' HDR.out;have hT5 := hT4.gr hG5 (by omega);have hXg := Hh (show w2.heap.size ≠ g by have := hTl.out; omega);have hX5 := hX4.grown hG5 (by intro e; injection e with e; exact hXg.out e.symm);have b0 := hX5.cell 0 rfl;have b1 := hX5.cell 1 rfl;have b2 := hX5.cell 2 rfl;have b3 := hX5.cell 3 rfl;clear hd4 hT4 hB5 hB5' hG5 a0 hX4 s1 s2 s3 s4;go_wp2_with (with_reducible refine stop_store ?_)
   refine stI hT5 fun wz hTy hgz => ?_
   have hdz := hd5.grownRow (row := some w.heap.size) (by rintro q ⟨⟩; exact hn2) (by rintro q ⟨⟩; exact Nat.le_refl _) hgl hgz;go_wp2_with fail
   refine ret_row rfl rfl hTy rfl rfl size_item rfl ?_
   exact EItem.ok HP.out rfl hdz hi2
end
theorem Est.gb {w w' w'' : World} {H H' : Snap} {g k : Nat} {A : Option Addr} {c : Nat} {l : List UInt8} {q : Nat} (h : Est w H w' H' g A c l q) (h0 : H' k = none) (hw : w.heap.size ≤ k) (hlt : g < w.heap.size) (hg : w'.grownBy w'' (some k)) : Est w H w'' H' g A c l q := h.grownRow (row := some k) (by rintro q ⟨⟩; exact h0) (by rintro q ⟨⟩; exact hw) hlt hg
end Go.Proofs.YtlebpackbfcfeaaGreatDoor
