/- squeezed. Walks: the program's Prefix. Walks -/
import Derived.Test.YtgaoknihklmakaaGreatDoorK09
import Derived.Test.YtgaoknihklmakaaGreatDoorK01
import GoSem.Core.Float
import Derived.Laws.FloatArith
import Derived.Test.YtgaoknihklmakaaGreatDoorK00
import Derived.Deep.Cut
import Derived.Lib.Mul64
import Derived.Laws.Bits64
import Derived.Laws.Externs
import Derived.Test.YtgaoknihklmakaaGreatDoorK03
import Derived.Test.YtgaoknihklmakaaGreatDoorK05
set_option linter.unusedVariables false
set_option linter.unusedSimpArgs false
set_option maxRecDepth 100000
set_option maxHeartbeats 12800000
namespace Go.Proofs.YtgaoknihklmakaaGreatDoor
open Go.RowKit
theorem IsBytes.take {H : Snap} {A : Option Addr} {c : Nat} {l : List UInt8} (h : IsBytes H A c l) (m : Nat) : IsBytes H A c (l.take m) := by
 refine ⟨by have := h.le; rw [List.length_take]; omega, h.max, fun hne => ?_⟩
 obtain ⟨b, off, e, hc⟩ := h.row (by intro h0; rw [List.map_eq_nil_iff] at h0; subst h0; simp at hne)
 refine ⟨b, off, e, fun j v hj => hc j v ?_⟩
 rw [List.map_take, List.getElem?_take] at hj
 split at hj
 ·exact hj
 ·cases hj
def PrefixOut (w : World) (H : Snap) (l : List UInt8) (e : Ending) (w' : World) : Prop :=
 match prefixP l with
 | .err q => e = .returned (.tuple #[zeroV, .int .i64 0, .int .i64 (q : Int)]) ∧ Below w.heap.size w w'
 | .ok x k _ => ∃ ja jb jc jd H', e = .returned (.tuple #[itemV x ja jb jc jd, .int .i64 (k : Int), .int .i64 0]) ∧ Grows w H w' H' ∧ IsItem H' ja jb jc jd x
theorem results_cell_tmp2 {fn : Func} {p u v : Tmp} {ty : TypeId} (h : fn.results = #[.cell p ty, .tmp u, .tmp v]) (tmps : Array Value) (P : Program) (w : World) :
  (results fn tmps).run P w =
   ((asAddr (tmps.getD p undef)).run P w).andThen fun a w₁ => ((loadVar ty a).run P w₁).andThen fun x w₂ => .ok (.tuple #[x, tmps.getD u undef, tmps.getD v undef]) w₂ := by
 simp only [results, h]
 simp [Sem.run_bind, Result.andThen]
theorem ret_row_tmp2 {fn : Func} {p u v : Tmp} {ty : TypeId} {a : Act} {w : World} {R : Ending → World → Prop} {g : Nat} {t : TypeId} {cs : Array Value} {d : TypeDesc} (h : fn.results = #[.cell p ty, .tmp u, .tmp v]) (hp : a.tmps.getD p undef = .pointer (some ⟨g, 0, none⟩)) (hg : Blk w g t cs)
  (hd : (match d with | .struct _ | .array _ _ => true | _ => false) = true) (hu : Tryz.prog.underlying ty = some d) (hi : (Tryz.prog.info? ty).map (·.size) = some cs.size)
  (hdf : a.defers = []) (hR : R (.returned (.tuple #[.agg cs, a.tmps.getD u undef, a.tmps.getD v undef])) w) : bodyPost Tryz.prog fn R .ret a w := by
 refine bodyPost_ret (v := .tuple #[.agg cs, a.tmps.getD u undef, a.tmps.getD v undef]) ?_ hdf hR
 rw [results_cell_tmp2 h, hp];have hd' := run_loadVar_row (P := Tryz.prog) w g t ty cs (0, 0) d hg hu (by cases d <;> first | exact hd | rfl | cases hd) hi
 simp [asAddr, hd', Result.andThen]
theorem one3 (a b c : Value) (ha : a.oneCell' = true) (hb : b.oneCell' = true) (hc : c.oneCell' = true) : (#[a, b, c] : Array Value).all (·.oneCell') = true := by simp [ha, hb, hc]
theorem size_psr : (Tryz.prog.info? 107).map (·.size) = some 3 := by kernel_rfl
theorem Grows.trans_but {w w' w'' : World} {H H' H'' : Snap} {g : Nat} (h : Grows w H w' H') (k : GrowsBut w' H' w'' H'' g) (hg : w.heap.size ≤ g) : Grows w H w'' H'' := by
 refine ⟨below_of_grown h.below k.grown (by rintro q ⟨⟩; exact hg), h.le.trans k.le, k.holds, fun x o hx => ?_⟩
 rcases k.fresh x o hx with hx | hx
 ·exact h.fresh x o hx
 ·exact .inr (Nat.le_trans h.below.size hx)
theorem cbor_Prefix {H : Snap} (hTab : Tabs H) (w : World) (hH : Holds w H) {A : Option Addr} {n c : Nat} {l : List UInt8} (hn : n = l.length) (hl : IsBytes H A c l) :
  Calls Tryz.prog 44 #[.slice A n c] w (PrefixOut w H l) := by
 have hlm := hl.le;have hcm := hl.max;obtain ⟨m, hm⟩ : ∃ m, min n 4096 = m := ⟨_, rfl⟩
 have hmi : min (n : Int) 4096 = (m : Int) := by omega
 have m1 : (m : Int) ≤ (c : Int) := by omega
 have m0 : (0 : Int) ≤ (m : Int) := by omega
 have hml : (l.take 4096).length = m := by rw [List.length_take]; omega
 have hHN := Hh (And.intro hn (And.intro hm hml));clear hn hm hml hlm;go_enter Tryz.func44, Tryz.ntmps44
 go_wp2_with (with_reducible refine stop_store ?_)
 unfold Stopped
 have e1 : (w.alloc zeroO).heap.size = w.heap.size + 1 := by go_simp
 have hT := (Blk.new w 75 #[.int .i64 0, .int .u64 0, .slice none 0 0, .slice none 0 0]).alloc (.cells #[.slice none 0 0, .int .i64 0, .int .i64 0] 107);have hB := Blk.new (w.alloc zeroO) 107 #[.slice none 0 0, .int .i64 0, .int .i64 0];have hG := ((Grows.refl hH).alloc zeroO).alloc (.cells #[.slice none 0 0, .int .i64 0, .int .i64 0] 107);rw [e1] at hB;have hT0 : Blk ((w.alloc zeroO).alloc (.cells #[.slice none 0 0, .int .i64 0, .int .i64 0] 107)) w.heap.size 75 #[.int .i64 0, .int .u64 0, .slice none 0 0, .slice none 0 0] := hT;clear hT
 generalize (w.alloc zeroO).alloc (.cells #[.slice none 0 0, .int .i64 0, .int .i64 0] 107) = w1 at hB hG hT0 ⊢
 have hz1 : w.heap.size + 1 < w1.heap.size := hB.lt;have hn0 : H w.heap.size = none := hH.none_of_ge (by omega);have hn1 : H (w.heap.size + 1) = none := hH.none_of_ge (by omega)
 refine wpList_store_item rfl _ _ _ rfl rfl _ _ rfl rfl _ _ hB size_psr rfl (one3 _ _ _ rfl rfl rfl) fun w2 hB2 hg2 => ?_
 have hG2 := hG.grownOwn hn1 (by omega) hg2;have hT2 := hT0.gr hg2 (by omega);clear hG hT0 hB
 have hPs : Psr 107 w2 (w.heap.size + 1) H A c (l.take 4096) 0 0 :=
  ⟨by obtain ⟨_, _, hml⟩ := hHN.out; rw [hml]; exact hB2, hl.take 4096, hG2.holds, hn1, by omega, by rw [List.length_take]; omega, by omega⟩
 have C0 : (Calls Tryz.prog 58 #[.pointer (some ⟨w.heap.size + 1, 0, none⟩), .int .i64 0] w2 (ItemOut 107 w2 H (w.heap.size + 1) A c (l.take 4096) 0 (prefixP l))) :=
  (p_item 8 w2 H (w.heap.size + 1) A c (l.take 4096) 0 0 0 hTab (by omega) hPs)
 have C := Hh C0;clear hPs C0;go_wp2_with fail
 refine C.out.mono ?_
 rintro e w3 hout
 clear C
 cases hr : prefixP l with
 | err q =>
  rw [hr, ItemOut] at hout;obtain ⟨rfl, H', p', cnt', hd⟩ := hout;have hr' := Hh hr;clear hr;have hT3 := hT2.rdg hd (by omega);have hG3 := hG2.trans_but hd.grows (by omega);go_wp2_with (with_reducible refine stop_store ?_)
  unfold Stopped
  have hz3 : w.heap.size + 1 < w3.heap.size := hd.psr.gt;have hN := Blk.new w3 75 #[.int .i64 0, .int .u64 0, .slice none 0 0, .slice none 0 0];have hT4 : Blk (w3.alloc zeroO) w.heap.size 75 #[.int .i64 0, .int .u64 0, .slice none 0 0, .slice none 0 0] := hT3.alloc _;have hG4 := hG3.alloc zeroO;have hk3 : H' w3.heap.size = none := hG3.holds.none_of_ge (by omega);have hk0 : H' w.heap.size = none := hd.hid hn0 hT2.lt;have hN' : Blk (w3.alloc zeroO) w3.heap.size 75 #[.int .i64 0, .int .u64 0, .slice none 0 0, .slice none 0 0] := hN;clear hN hT3
  generalize w3.alloc zeroO = w4 at hN' hT4 hG4 ⊢
  refine stI hN' fun w5 hT5 hg5 => ?_
  have hT6 := hT4.gr hg5 (by omega);have hG6 := hG4.grownOwn hk3 (by omega) hg5;clear hT4 hG4 hN';have hq0 : ((q : Int) != 0) = true := by rw [bne_iff_ne]; have := parse_err _ _ _ _ hr'.out; omega
  have hq0' : ((q : Int) = 0) = False := eq_false (by have := parse_err _ _ _ _ hr'.out; omega);go_wp2_with (with_reducible refine stop_store ?_)
  refine stI hT6 fun w7 hT7 hg7 => ?_
  have hG7 := hG6.grownOwn hk0 (by omega) hg7;go_wp2_with fail
  refine ret_row_tmp2 rfl rfl hT7 rfl rfl size_item rfl ?_
  unfold PrefixOut
  rw [hr'.out]
  exact ⟨rfl, hG7.below⟩
 | ok x k cc =>
  rw [hr, ItemOut, Nat.zero_add] at hout;obtain ⟨ja, jb, jc, jd, H', rfl, hd, hi⟩ := hout;have hr' := Hh hr;clear hr;have hT3 := hT2.rdg hd (by omega);have hG3 := hG2.trans_but hd.grows (by omega)
  have hB3 : Blk w3 (w.heap.size + 1) 107 #[.slice A m c, .int .i64 (k : Int), .int .i64 (cc : Int)] := by
   have := hd.psr.blk; obtain ⟨_, _, hml⟩ := hHN.out; rw [hml] at this; exact this
  go_wp2_with (with_reducible refine stop_store ?_)
  unfold Stopped
  have hz3 : w.heap.size + 1 < w3.heap.size := hd.psr.gt;have hN := Blk.new w3 75 #[.int .i64 0, .int .u64 0, .slice none 0 0, .slice none 0 0];have hT4 : Blk (w3.alloc zeroO) w.heap.size 75 #[.int .i64 0, .int .u64 0, .slice none 0 0, .slice none 0 0] := hT3.alloc _;have hB4 : Blk (w3.alloc zeroO) (w.heap.size + 1) 107 #[.slice A m c, .int .i64 (k : Int), .int .i64 (cc : Int)] := hB3.alloc _;have hG4 := hG3.alloc zeroO;have hk3 : H' w3.heap.size = none := hG3.holds.none_of_ge (by omega);have hk0 : H' w.heap.size = none := hd.hid hn0 hT2.lt;have hN' : Blk (w3.alloc zeroO) w3.heap.size 75 #[.int .i64 0, .int .u64 0, .slice none 0 0, .slice none 0 0] := hN;clear hN hT3 hB3
  generalize w3.alloc zeroO = w4 at hN' hT4 hG4 hB4 ⊢
  refine stI hN' fun w5 hT5 hg5 => ?_
  have hT6 := hT4.gr hg5 (by omega);have hB6 := hB4.gr hg5 (by omega);have hG6 := hG4.grownOwn hk3 (by omega) hg5;clear hT4 hG4 hN' hB4;go_upto_region 5 with fail
  have hT6 := hT6.drew;have hT5 := hT5.drew;have hB6 := hB6.drew;have hG6 := hG6.drew
  refine wp_region_ways 5 (fun w' => w'.cell? ⟨w3.heap.size, 0, none⟩ = some (.int .i64 x.kind) ∧ w'.cell? ⟨w3.heap.size, 1, none⟩ = some (.int .u64 x.n) ∧ w'.cell? ⟨w3.heap.size, 2, none⟩ = some (.slice ja x.bytes.length jb) ∧ w'.cell? ⟨w3.heap.size, 3, none⟩ = some (.slice jc x.items.length jd) ∧ w'.cell? ⟨w.heap.size + 1, 1, none⟩ = some (.int .i64 (k : Int))) (by kernel_rfl) (⟨hT5.cell 0 rfl, hT5.cell 1 rfl, hT5.cell 2 rfl, hT5.cell 3 rfl, hB6.cell 1 rfl⟩) (fun hHeld => ?_)
  refine Tk 0 rfl hHeld ?_
  refine Tk 1 rfl hHeld ?_
  refine Tk 2 rfl hHeld ?_
  refine To 3 rfl fun K hK => ?_
  refine wp_store_item _ _ _ rfl _ _ rfl rfl _ _ hT6 size_item rfl (one4 _ _ _ _ rfl rfl rfl rfl) fun w7 hT7 hg7 => ?_
  have hT5 := hT5.gr hg7 (by omega);have hB6 := hB6.gr hg7 (by omega);have hG7 := hG6.grownOwn hk0 (by omega) hg7;go_simp
  refine Ko hK ?_ fun hHeld => ?_
  ·exact ⟨hT5.cell 0 rfl, hT5.cell 1 rfl, hT5.cell 2 rfl, hT5.cell 3 rfl, hB6.cell 1 rfl⟩
  clear hK K
  refine Tk 4 rfl hHeld ?_
  refine To 5 rfl fun K hK => ?_
  go_simp
  refine Kz hK ?_
  clear hK K
  refine Wd ?_
  go_wp2_with fail
  refine ret_row_tmp2 rfl rfl hT7 rfl rfl size_item rfl ?_
  unfold PrefixOut
  rw [hr'.out]
  exact ⟨ja, jb, jc, jd, H', rfl, hG7, hi⟩
def DecodeOut (w : World) (H : Snap) (l : List UInt8) (e : Ending) (w' : World) : Prop :=
 match decodeP l with
 | .error q => e = .returned (.tuple #[zeroV, .int .i64 (q : Int)]) ∧ Below w.heap.size w w'
 | .ok x => ∃ ja jb jc jd H', e = .returned (.tuple #[itemV x ja jb jc jd, .int .i64 0]) ∧ Grows w H w' H' ∧ IsItem H' ja jb jc jd x
theorem cbor_Decode {H : Snap} (hTab : Tabs H) (w : World) (hH : Holds w H) {A : Option Addr} {n c : Nat} {l : List UInt8} (hn : n = l.length) (hl : IsBytes H A c l) :
  Calls Tryz.prog 34 #[.slice A n c] w (DecodeOut w H l) := by
 have hT := Blk.new w 75 #[.int .i64 0, .int .u64 0, .slice none 0 0, .slice none 0 0];have hG := (Grows.refl hH).alloc zeroO;have hT0 : Blk (w.alloc zeroO) w.heap.size 75 #[.int .i64 0, .int .u64 0, .slice none 0 0, .slice none 0 0] := hT;have hn0 : H w.heap.size = none := hH.none_of_ge (by omega);clear hT;have hHN := Hh hn;have C := fun w1 h1 => Hh (cbor_Prefix hTab w1 h1 hn hl)
 clear hn
 by_cases hbig : 4096 < n
 ·have b1 : decide ((n : Int) > 4096) = true := by rw [decide_eq_true_eq]; omega
  have b2 : decide ((4096 : Int) < n) = true := by rw [decide_eq_true_eq]; omega
  have hd : decodeP l = .error 8 := by have := hHN.out; rw [decodeP, if_pos (by omega)]
  have hd' := Hh hd;clear hd C;go_enter Tryz.func34, Tryz.ntmps34
  go_wp2_with (with_reducible refine stop_store ?_)
  unfold Stopped
  generalize w.alloc zeroO = w1 at hT0 hG ⊢
  refine stI hT0 fun w7 hT7 hg7 => ?_
  have hG7 := hG.grownOwn hn0 (by omega) hg7;go_wp2_with fail
  refine ret_row_tmp rfl rfl hT7 rfl rfl size_item rfl ?_
  unfold DecodeOut
  rw [hd'.out]
  exact ⟨rfl, hG7.below⟩
 ·have b1 : decide ((n : Int) > 4096) = false := by rw [decide_eq_false_iff_not]; omega
  have b2 : decide ((4096 : Int) < n) = false := by rw [decide_eq_false_iff_not]; omega
  have hbig' := Hh hbig;clear hbig;go_enter Tryz.func34, Tryz.ntmps34
  go_wp2_with fail
  have hz1 : w.heap.size < (w.alloc zeroO).heap.size := hT0.lt
  generalize w.alloc zeroO = w1 at hT0 hG hz1 ⊢
  refine (C w1 hG.holds).out.mono ?_
  rintro e w3 hout
  unfold PrefixOut at hout
  cases hr : prefixP l with
  | err q =>
   rw [hr] at hout;obtain ⟨rfl, hb⟩ := hout;have hr' := Hh hr;have hd' := Hh (show decodeP l = .error q by have := hHN.out; have := hbig'.out; rw [decodeP, if_neg (by omega), hr]);clear hr;have hT3 := hT0.below hb;obtain ⟨H', hH'⟩ : ∃ H', H' = H := ⟨_, rfl⟩
   have hG3 : Grows w H w3 H' := by rw [hH']; exact hG.trans (Grows.of_below hG.holds hb)
   have hk0 : H' w.heap.size = none := by rw [hH']; exact hn0
   clear hH';have hq0 : ((q : Int) != 0) = true := by rw [bne_iff_ne]; have := parse_err _ _ _ _ hr'.out; omega
   have hq0' : ((q : Int) = 0) = False := eq_false (by have := parse_err _ _ _ _ hr'.out; omega);go_wp2_with (with_reducible refine stop_store ?_)
   unfold Stopped
   have hz3 : w.heap.size < w3.heap.size := hT3.lt;have hN := Blk.new w3 75 #[.int .i64 0, .int .u64 0, .slice none 0 0, .slice none 0 0];have hT4 : Blk (w3.alloc zeroO) w.heap.size 75 #[.int .i64 0, .int .u64 0, .slice none 0 0, .slice none 0 0] := hT3.alloc _;have hG4 := hG3.alloc zeroO;have hk3 : H' w3.heap.size = none := hG3.holds.none_of_ge (by omega);have hN' : Blk (w3.alloc zeroO) w3.heap.size 75 #[.int .i64 0, .int .u64 0, .slice none 0 0, .slice none 0 0] := hN;clear hN hT3
   generalize w3.alloc zeroO = w4 at hN' hT4 hG4 ⊢
   refine stI hN' fun w5 hT5 hg5 => ?_
   have hT6 := hT4.gr hg5 (by omega);have hG6 := hG4.grownOwn hk3 (by omega) hg5;clear hT4 hG4 hN';go_wp2_with (with_reducible refine stop_store ?_)
   refine stI hT6 fun w7 hT7 hg7 => ?_
   have hG7 := hG6.grownOwn hk0 (by omega) hg7;go_wp2_with fail
   refine ret_row_tmp rfl rfl hT7 rfl rfl size_item rfl ?_
   unfold DecodeOut
   rw [hd'.out]
   exact ⟨rfl, hG7.below⟩
  | ok x k cc =>
   rw [hr] at hout;obtain ⟨ja, jb, jc, jd, H', rfl, hg, hi⟩ := hout;have hr' := Hh hr;clear hr;have hT3 := hT0.below hg.below;have hG3 : Grows w H w3 H' := hG.trans hg;have hk0 : H' w.heap.size = none := hg.none hn0 hT0.lt
   by_cases hk : k < n
   ·have hd' := Hh (show decodeP l = .error 9 by have := hHN.out; have := hbig'.out; rw [decodeP, if_neg (by omega), hr'.out]; simp only; rw [if_pos (by omega)]);have k1 : decide ((k : Int) < n) = true := by rw [decide_eq_true_eq]; omega
    have k2 : (k < n) = True := eq_true hk;clear hk;go_wp2_with (with_reducible refine stop_store ?_)
    unfold Stopped
    have hz3 : w.heap.size < w3.heap.size := hT3.lt;have hN := Blk.new w3 75 #[.int .i64 0, .int .u64 0, .slice none 0 0, .slice none 0 0];have hT4 : Blk (w3.alloc zeroO) w.heap.size 75 #[.int .i64 0, .int .u64 0, .slice none 0 0, .slice none 0 0] := hT3.alloc _;have hG4 := hG3.alloc zeroO;have hk3 : H' w3.heap.size = none := hG3.holds.none_of_ge (by omega);have hN' : Blk (w3.alloc zeroO) w3.heap.size 75 #[.int .i64 0, .int .u64 0, .slice none 0 0, .slice none 0 0] := hN;clear hN hT3
    generalize w3.alloc zeroO = w4 at hN' hT4 hG4 ⊢
    refine stI hN' fun w5 hT5 hg5 => ?_
    have hT6 := hT4.gr hg5 (by omega);have hG6 := hG4.grownOwn hk3 (by omega) hg5;clear hT4 hG4 hN';go_wp2_with (with_reducible refine stop_store ?_)
    refine stI hT6 fun w7 hT7 hg7 => ?_
    have hG7 := hG6.grownOwn hk0 (by omega) hg7;go_wp2_with fail
    refine ret_row_tmp rfl rfl hT7 rfl rfl size_item rfl ?_
    unfold DecodeOut
    rw [hd'.out]
    exact ⟨rfl, hG7.below⟩
   ·have hd' := Hh (show decodeP l = .ok x by have := hHN.out; have := hbig'.out; rw [decodeP, if_neg (by omega), hr'.out]; simp only; rw [if_neg (by omega)]);have k1 : decide ((k : Int) < n) = false := by rw [decide_eq_false_iff_not]; omega
    have k2 : (k < n) = False := eq_false hk;clear hk;go_wp2_with (with_reducible refine stop_store ?_)
    unfold Stopped
    have hz3 : w.heap.size < w3.heap.size := hT3.lt;have hN := Blk.new w3 75 #[.int .i64 0, .int .u64 0, .slice none 0 0, .slice none 0 0];have hT4 : Blk (w3.alloc zeroO) w.heap.size 75 #[.int .i64 0, .int .u64 0, .slice none 0 0, .slice none 0 0] := hT3.alloc _;have hG4 := hG3.alloc zeroO;have hk3 : H' w3.heap.size = none := hG3.holds.none_of_ge (by omega);have hN' : Blk (w3.alloc zeroO) w3.heap.size 75 #[.int .i64 0, .int .u64 0, .slice none 0 0, .slice none 0 0] := hN;clear hN hT3
    generalize w3.alloc zeroO = w4 at hN' hT4 hG4 ⊢
    refine stI hN' fun w5 hT5 hg5 => ?_
    have hT6 := hT4.gr hg5 (by omega);have hG6 := hG4.grownOwn hk3 (by omega) hg5;clear hT4 hG4 hN';have c0 := hT5.cell 0 rfl;have c1 := hT5.cell 1 rfl;have c2 := hT5.cell 2 rfl;have c3 := hT5.cell 3 rfl;go_wp2_with (with_reducible refine stop_store ?_)
    refine stI hT6 fun w7 hT7 hg7 => ?_
    have hG7 := hG6.grownOwn hk0 (by omega) hg7;go_wp2_with fail
    refine ret_row_tmp rfl rfl hT7 rfl rfl size_item rfl ?_
    unfold DecodeOut
    rw [hd'.out]
    exact ⟨ja, jb, jc, jd, H', rfl, hG7, hi⟩
end Go.Proofs.YtgaoknihklmakaaGreatDoor
namespace Go.Proofs.YtgaoknihklmakaaGreatDoor
def num : List Nat → Nat
 | [] => 0
 | x :: l => x + 18446744073709551616 * num l
end Go.Proofs.YtgaoknihklmakaaGreatDoor
namespace Go.Proofs.YtgaoknihklmakaaGreatDoor
abbrev f64 := FloatKind.f64.format
end Go.Proofs.YtgaoknihklmakaaGreatDoor
namespace Go.Proofs.YtgaoknihklmakaaGreatDoor
def getN (l : List Nat) (i : Nat) : Nat := l.getD i 0
end Go.Proofs.YtgaoknihklmakaaGreatDoor
namespace Go.Proofs.YtgaoknihklmakaaGreatDoor
open Go.RowKit
structure S8 where
 a : Int
 b : Int
 c : Int
 d : Int
 e : Int
 f : Int
 g : Int
 h : Int
theorem wrap64_in (n : Nat) (h : n < 18446744073709551616) : IntKind.u64.wrap (n : Int) = (n : Int) := IntWalk.u64_in _ (by omega)
def rowN (l : List Nat) : Array Value := (l.map fun n : Nat => Value.int .u64 (n : Int)).toArray
theorem rowN_size (l : List Nat) : (rowN l).size = l.length := by simp [rowN]
theorem rowN_get (l : List Nat) (i : Nat) (h : i < l.length) : (rowN l)[i]? = some (.int .u64 (getN l i : Int)) := by
 simp [rowN, getN, h]
theorem rowN_set (l : List Nat) (i n : Nat) : (rowN l).setIfInBounds i (.int .u64 (n : Int)) = rowN (l.set i n) := by
 simp [rowN, List.map_set]
structure Mb where
 name : ByteArray
 sender : List UInt8
 roles : Int
 cred : List UInt8
 share : List UInt8
 wrap : List UInt8
 since : Int
structure MAd where
 sa : Option Addr
 sc : Nat
 ca : Option Addr
 cc : Nat
 ha : Option Addr
 hc : Nat
 wa : Option Addr
 wc : Nat
abbrev memC (name : ByteArray) (roles since : Int) (sa : Option Addr) (sn sc : Nat) (ca : Option Addr) (cn cc : Nat) (ha : Option Addr) (hn hc : Nat) (wa : Option Addr) (wn wc : Nat) : Array Value :=
 #[.string name, .slice sa sn sc, .int .i64 roles, .slice ca cn cc, .slice ha hn hc, .slice wa wn wc, .int .i64 since]
abbrev memQ (m : Mb) (a : MAd) : Array Value := memC m.name m.roles m.since a.sa m.sender.length a.sc a.ca m.cred.length a.cc a.ha m.share.length a.hc a.wa m.wrap.length a.wc
structure MemA (H : Snap) (m : Mb) (a : MAd) : Prop where
 name : m.name.size ≤ 1099511627
 sender : IsBytes H a.sa a.sc m.sender
 cred : IsBytes H a.ca a.cc m.cred
 share : IsBytes H a.ha a.hc m.share
 wrap : IsBytes H a.wa a.wc m.wrap
 small : m.sender.length ≤ 1099511 ∧ m.cred.length ≤ 1099511 ∧ m.share.length ≤ 1099511 ∧ m.wrap.length ≤ 1099511
theorem MemA.mono {H K : Snap} {m : Mb} {a : MAd} (h : MemA H m a) (hl : H.le K) : MemA K m a := ⟨h.name, h.sender.mono hl, h.cred.mono hl, h.share.mono hl, h.wrap.mono hl, h.small⟩
def lieM : Lie Mb where
 k := 7
 pos := by omega
 E := fun H m c => ∃ a, c = (memQ m a).toList ∧ MemA H m a
 len := by rintro _ _ _ ⟨_, rfl, _⟩; rfl
 one := by rintro _ _ _ ⟨_, rfl, _⟩; simp [Value.oneCell']
 mono := by rintro H K x c hl ⟨a, e, h⟩; exact ⟨a, e, h.mono hl⟩
abbrev zeroM : Array Value := #[.string ⟨#[]⟩, .slice none 0 0, .int .i64 0, .slice none 0 0, .slice none 0 0, .slice none 0 0, .int .i64 0]
theorem size_mem : (Tryz.prog.info? 39).map (·.size) = some 7 := by kernel_rfl
theorem one7m (a b c d e f g : Value) (ha : a.oneCell' = true) (hb : b.oneCell' = true) (hc : c.oneCell' = true) (hd : d.oneCell' = true) (he : e.oneCell' = true) (hf : f.oneCell' = true) (hg : g.oneCell' = true) :
  (#[a, b, c, d, e, f, g] : Array Value).all (·.oneCell') = true := by simp [ha, hb, hc, hd, he, hf, hg]
theorem size_bytesm : (Tryz.prog.info? 27).map (·.size) = some 1 := by kernel_rfl
theorem clone_Bytes {A : Option Addr} {c : Nat} {l : List UInt8} {n : Nat} (hn : n = l.length) (hl : l.length ≤ 1099511627) (w : World) (hS : Src w A (l.map byteV)) :
  Calls Tryz.prog 16 #[.slice A n c] w fun e w' => ∃ r, e = .returned r ∧ Fresh w l r w' := by
 have HN := Hh (And.intro hn hl);clear hn hl;go_enter Tryz.func16, Tryz.ntmps16
 go_wp2_with (at_builtin; refine stop_in ?_)
 refine wpList_app_bytes rfl (.const (.slice none 0 0)) (.tmp 3) rfl w.heap.size (.slice none 0 0) [] rfl (OwnB.nil _ _) A n c l rfl HN.out.1 hS (by have := HN.out.2; simp; omega) (Nat.le_refl _) fun v1 w1 hO1 hg1 hat1 => ?_
 rw [List.nil_append] at hO1;have hb1 := grown_none (by simpa [Value.ownBlock] using hg1);clear hg1 hat1 hS;go_wp2_with fail
 go_ret
 exact ⟨_, rfl, hO1, hb1⟩
structure MN (W0 : World) (H : Snap) (R K : Nat) (kc : Array Value) (w : World) (Hr : Snap) : Prop where
 grows : Grows W0 H w Hr
 res : Blk w R 39 zeroM
 key : Blk w K 39 kc
 hR : Hr R = none
 hK : Hr K = none
 neRK : R ≠ K
 wR : W0.heap.size ≤ R
 wK : W0.heap.size ≤ K
section
variable {W0 w w' : World} {H Hr Hs : Snap} {R K : Nat} {kc kc' : Array Value}
theorem MN.grow (h : MN W0 H R K kc w Hr) (k : Grows w Hr w' Hs) : MN W0 H R K kc w' Hs :=
 ⟨h.grows.trans k, h.res.below k.below, h.key.below k.below, k.none h.hR h.res.lt, k.none h.hK h.key.lt, h.neRK, h.wR, h.wK⟩
theorem MN.below (h : MN W0 H R K kc w Hr) (k : Below w.heap.size w w') : MN W0 H R K kc w' Hr := h.grow (Grows.of_below h.grows.holds k)
theorem MN.drew (h : MN W0 H R K kc w Hr) : MN W0 H R K kc w.drew Hr := h.below (Below.refl _ _).drew
theorem MN.set (h : MN W0 H R K kc w Hr) (hB : Blk w' K 39 kc') (hg : w.grownBy w' (some K)) : MN W0 H R K kc' w' Hr :=
 ⟨h.grows.grownOwn h.hK h.wK hg, h.res.grown hg (fun e => by injection e with e; exact h.neRK e.symm), hB, h.hR, h.hK, h.neRK, h.wR, h.wK⟩
end
def MemOut (w : World) (H : Snap) (m : Mb) (e : Ending) (w' : World) : Prop := ∃ a H', e = .returned (.agg (memQ m a)) ∧ Grows w H w' H' ∧ MemA H' m a
theorem manager_member {H : Snap} {m : Mb} {a : MAd} (hm : MemA H m a) (w : World) (hH : Holds w H) :
  Calls Tryz.prog 21 #[.agg (memQ m a)] w (MemOut w H m) := by
 obtain ⟨ns, hns⟩ : ∃ n, n = m.sender.length := ⟨_, rfl⟩
 obtain ⟨nc, hnc⟩ : ∃ n, n = m.cred.length := ⟨_, rfl⟩
 obtain ⟨nh, hnh⟩ : ∃ n, n = m.share.length := ⟨_, rfl⟩
 obtain ⟨nw, hnw⟩ : ∃ n, n = m.wrap.length := ⟨_, rfl⟩
 have HN := Hh (And.intro hns (And.intro hnc (And.intro hnh hnw)));have HSM := Hh hm.small;have HNM := Hh hm.name;have HBs := Hh hm.sender;have HBc := Hh hm.cred;have HBh := Hh hm.share;have HBw := Hh hm.wrap;show Calls Tryz.prog 21 #[.agg (memC m.name m.roles m.since a.sa m.sender.length a.sc a.ca m.cred.length a.cc a.ha m.share.length a.hc a.wa m.wrap.length a.wc)] w (MemOut w H m)
 rw [← hns, ← hnc, ← hnh, ← hnw];have hB1 := (Blk.new w 39 (memC m.name m.roles m.since a.sa ns a.sc a.ca nc a.cc a.ha nh a.hc a.wa nw a.wc)).alloc (.cells zeroM 39);have hT := Blk.new (w.alloc (.cells (memC m.name m.roles m.since a.sa ns a.sc a.ca nc a.cc a.ha nh a.hc a.wa nw a.wc) 39)) 39 zeroM;rw [size_alloc] at hT;have hMN : MN w H (w.heap.size + 1) w.heap.size (memC m.name m.roles m.since a.sa ns a.sc a.ca nc a.cc a.ha nh a.hc a.wa nw a.wc) _ H := ⟨((Grows.refl hH).alloc (.cells (memC m.name m.roles m.since a.sa ns a.sc a.ca nc a.cc a.ha nh a.hc a.wa nw a.wc) 39)).alloc (.cells zeroM 39), hT, hB1, hH.none_of_ge (by omega), hH.none_of_ge (by omega), by omega, by omega, by omega⟩
 clear hns hnc hnh hnw hm hH hB1 hT;go_enter Tryz.func21, Tryz.ntmps21
 go_upto_region 1 with fail
 replace hMN := hMN.drew;go_cut [1] (fun s1 wx => s1 = .pointer (some ⟨w.heap.size, 0, none⟩) ∧ ∃ sa sc ca cc ha hc wa wc Hr, MN w H (w.heap.size + 1) w.heap.size (memC m.name m.roles m.since sa ns sc ca nc cc ha nh hc wa nw wc) wx Hr ∧ IsBytes Hr sa sc m.sender ∧ IsBytes Hr ca cc m.cred ∧ IsBytes Hr ha hc m.share ∧ IsBytes Hr wa wc m.wrap)
 case first =>
  refine wp_region_waysZ 13 (fun wx => wx.cell? ⟨w.heap.size, 1, none⟩ = some (.slice a.sa ns a.sc) ∧ wx.cell? ⟨w.heap.size, 3, none⟩ = some (.slice a.ca nc a.cc) ∧ wx.cell? ⟨w.heap.size, 4, none⟩ = some (.slice a.ha nh a.hc) ∧ wx.cell? ⟨w.heap.size, 5, none⟩ = some (.slice a.wa nw a.wc)) (by kernel_rfl) (⟨hMN.key.cell 1 rfl, hMN.key.cell 3 rfl, hMN.key.cell 4 rfl, hMN.key.cell 5 rfl⟩) (fun hHeld => ?_)
  refine Zk 0 rfl hHeld ?_
  refine Zk 1 rfl hHeld ?_
  refine Zk 3 rfl hHeld ?_
  refine Zk 4 rfl hHeld ?_
  refine Zk 6 rfl hHeld ?_
  refine Zk 7 rfl hHeld ?_
  refine Zk 9 rfl hHeld ?_
  refine Zk 10 rfl hHeld ?_
  refine Zo 2 rfl fun K hK => ?_
  go_simp
  refine (clone_Bytes (c := a.sc) HN.out.1 (by have := HSM.out; omega) _ (Src.of_row HBs.out.row hMN.grows.holds)).mono ?_
  rintro e w2 ⟨r2, rfl, hf2⟩
  obtain ⟨A2, c2, rfl, hj2⟩ := hf2.own.form;clear hj2;obtain ⟨H2, hG2, hb2, hj2⟩ := Fresh.snapB hMN.grows.holds hf2;clear hj2;rw [← HN.out.1];have HR2 := Hh hb2;replace hMN := hMN.grow hG2;replace HBs := Hh (HBs.out.mono hG2.le);replace HBc := Hh (HBc.out.mono hG2.le);replace HBh := Hh (HBh.out.mono hG2.le);replace HBw := Hh (HBw.out.mono hG2.le)
  try replace HR5 := Hh (HR5.out.mono hG2.le)
  try replace HR8 := Hh (HR8.out.mono hG2.le)
  try replace HR11 := Hh (HR11.out.mono hG2.le)
  clear hG2 hb2 hf2
  refine Ko hK ?_ fun hHeld => ?_
  ·exact ⟨hMN.key.cell 1 rfl, hMN.key.cell 3 rfl, hMN.key.cell 4 rfl, hMN.key.cell 5 rfl⟩
  clear hK K
  refine Zk 12 rfl hHeld ?_
  refine Zo 5 rfl fun K hK => ?_
  go_simp
  refine (clone_Bytes (c := a.cc) HN.out.2.1 (by have := HSM.out; omega) _ (Src.of_row HBc.out.row hMN.grows.holds)).mono ?_
  rintro e w5 ⟨r5, rfl, hf5⟩
  obtain ⟨A5, c5, rfl, hj5⟩ := hf5.own.form;clear hj5;obtain ⟨H5, hG5, hb5, hj5⟩ := Fresh.snapB hMN.grows.holds hf5;clear hj5;rw [← HN.out.2.1];have HR5 := Hh hb5;replace hMN := hMN.grow hG5;replace HBs := Hh (HBs.out.mono hG5.le);replace HBc := Hh (HBc.out.mono hG5.le);replace HBh := Hh (HBh.out.mono hG5.le);replace HBw := Hh (HBw.out.mono hG5.le)
  try replace HR2 := Hh (HR2.out.mono hG5.le)
  try replace HR8 := Hh (HR8.out.mono hG5.le)
  try replace HR11 := Hh (HR11.out.mono hG5.le)
  clear hG5 hb5 hf5
  refine Ko hK ?_ fun hHeld => ?_
  ·exact ⟨hMN.key.cell 1 rfl, hMN.key.cell 3 rfl, hMN.key.cell 4 rfl, hMN.key.cell 5 rfl⟩
  clear hK K
  refine Zo 8 rfl fun K hK => ?_
  go_simp
  refine (clone_Bytes (c := a.hc) HN.out.2.2.1 (by have := HSM.out; omega) _ (Src.of_row HBh.out.row hMN.grows.holds)).mono ?_
  rintro e w8 ⟨r8, rfl, hf8⟩
  obtain ⟨A8, c8, rfl, hj8⟩ := hf8.own.form;clear hj8;obtain ⟨H8, hG8, hb8, hj8⟩ := Fresh.snapB hMN.grows.holds hf8;clear hj8;rw [← HN.out.2.2.1];have HR8 := Hh hb8;replace hMN := hMN.grow hG8;replace HBs := Hh (HBs.out.mono hG8.le);replace HBc := Hh (HBc.out.mono hG8.le);replace HBh := Hh (HBh.out.mono hG8.le);replace HBw := Hh (HBw.out.mono hG8.le)
  try replace HR2 := Hh (HR2.out.mono hG8.le)
  try replace HR5 := Hh (HR5.out.mono hG8.le)
  try replace HR11 := Hh (HR11.out.mono hG8.le)
  clear hG8 hb8 hf8
  refine Ko hK ?_ fun hHeld => ?_
  ·exact ⟨hMN.key.cell 1 rfl, hMN.key.cell 3 rfl, hMN.key.cell 4 rfl, hMN.key.cell 5 rfl⟩
  clear hK K
  refine Zo 11 rfl fun K hK => ?_
  go_simp
  refine (clone_Bytes (c := a.wc) HN.out.2.2.2 (by have := HSM.out; omega) _ (Src.of_row HBw.out.row hMN.grows.holds)).mono ?_
  rintro e w11 ⟨r11, rfl, hf11⟩
  obtain ⟨A11, c11, rfl, hj11⟩ := hf11.own.form;clear hj11;obtain ⟨H11, hG11, hb11, hj11⟩ := Fresh.snapB hMN.grows.holds hf11;clear hj11;rw [← HN.out.2.2.2];have HR11 := Hh hb11;replace hMN := hMN.grow hG11;replace HBs := Hh (HBs.out.mono hG11.le);replace HBc := Hh (HBc.out.mono hG11.le);replace HBh := Hh (HBh.out.mono hG11.le);replace HBw := Hh (HBw.out.mono hG11.le)
  try replace HR2 := Hh (HR2.out.mono hG11.le)
  try replace HR5 := Hh (HR5.out.mono hG11.le)
  try replace HR8 := Hh (HR8.out.mono hG11.le)
  clear hG11 hb11 hf11
  refine Ko hK ?_ fun hHeld => ?_
  ·exact ⟨hMN.key.cell 1 rfl, hMN.key.cell 3 rfl, hMN.key.cell 4 rfl, hMN.key.cell 5 rfl⟩
  clear hK K
  refine Zo 13 rfl fun K hK => ?_
  rw [if_pos (by rfl)]
  refine wp_store_cell _ _ _ rfl w.heap.size 1 (.slice A2 ns c2) rfl rfl _ _ hMN.key size_bytesm (by simp) rfl fun w13 hK13 hg13 => ?_
  replace hMN := hMN.set hK13 hg13;clear hK13 hg13
  refine Kz hK ?_
  clear hK K
  refine ZkT 14 rfl (fun h => absurd h (by decide)) ?_
  refine Zo 15 rfl fun K hK => ?_
  rw [if_pos (by rfl)]
  refine wp_store_cell _ _ _ rfl w.heap.size 3 (.slice A5 nc c5) rfl rfl _ _ hMN.key size_bytesm (by simp) rfl fun w15 hK15 hg15 => ?_
  replace hMN := hMN.set hK15 hg15;clear hK15 hg15
  refine Kz hK ?_
  clear hK K
  refine ZkT 16 rfl (fun h => absurd h (by decide)) ?_
  refine Zo 17 rfl fun K hK => ?_
  rw [if_pos (by rfl)]
  refine wp_store_cell _ _ _ rfl w.heap.size 4 (.slice A8 nh c8) rfl rfl _ _ hMN.key size_bytesm (by simp) rfl fun w17 hK17 hg17 => ?_
  replace hMN := hMN.set hK17 hg17;clear hK17 hg17
  refine Kz hK ?_
  clear hK K
  refine ZkT 18 rfl (fun h => absurd h (by decide)) ?_
  refine Zo 19 rfl fun K hK => ?_
  rw [if_pos (by rfl)]
  refine wp_store_cell _ _ _ rfl w.heap.size 5 (.slice A11 nw c11) rfl rfl _ _ hMN.key size_bytesm (by simp) rfl fun w19 hK19 hg19 => ?_
  replace hMN := hMN.set hK19 hg19;clear hK19 hg19
  refine Kz hK ?_
  clear hK K
  refine WaysZ.done (by kernel_rfl) ?_
  try clear hHeld
  go_wp2_with fail
  go_meet
  exact ⟨rfl, A2, c2, A5, c5, A8, c8, A11, c11, _, hMN, HR2.out, HR5.out, HR8.out, HR11.out⟩
 case rest =>
  clear hMN;obtain ⟨rfl, sa, sc, ca, cc, ha, hc, wa, wc, Hr, hMN, hbs, hbc, hbh, hbw⟩ := hcut;have HM := Hh (And.intro hMN (And.intro hbs (And.intro hbc (And.intro hbh hbw))));have c0 := hMN.key.cell 0 rfl;have c1 := hMN.key.cell 1 rfl;have c2 := hMN.key.cell 2 rfl;have c3 := hMN.key.cell 3 rfl;have c4 := hMN.key.cell 4 rfl;have c5 := hMN.key.cell 5 rfl;have c6 := hMN.key.cell 6 rfl;have hRR := hMN.res;clear hMN hbs hbc hbh hbw;go_wp2_with (with_reducible refine stop_store ?_)
  refine wpList_store_item rfl _ _ _ rfl rfl _ _ rfl rfl _ _ hRR size_mem rfl (one7m _ _ _ _ _ _ _ rfl rfl rfl rfl rfl rfl rfl) fun wz hRz hgz => ?_
  have hdz := HM.out.1.grows.grownOwn HM.out.1.hR HM.out.1.wR hgz;clear hRR hgz c0 c1 c2 c3 c4 c5 c6;go_wp2_with fail
  refine ret_row rfl rfl hRz rfl rfl size_mem rfl ?_
  exact ⟨⟨sa, sc, ca, cc, ha, hc, wa, wc⟩, Hr, by rw [HN.out.1, HN.out.2.1, HN.out.2.2.1, HN.out.2.2.2], hdz, ⟨HNM.out, HM.out.2.1, HM.out.2.2.1, HM.out.2.2.2.1, HM.out.2.2.2.2, HSM.out⟩⟩
structure EAd where
 ia : Option Addr
 ic : Nat
 sa : Option Addr
 sc : Nat
 ma : Option Addr
 mc : Nat
structure Gp where
 id : List UInt8
 secret : List UInt8
 number : Int
 members : List Mb
abbrev gpC (ia : Option Addr) (il ic : Nat) (sa : Option Addr) (sl sc : Nat) (num : Int) (ma : Option Addr) (ml mc : Nat) : Array Value := #[.slice ia il ic, .slice sa sl sc, .int .i64 num, .slice ma ml mc]
abbrev gpQ (g : Gp) (a : EAd) : Array Value := gpC a.ia g.id.length a.ic a.sa g.secret.length a.sc g.number a.ma g.members.length a.mc
structure GpA (H : Snap) (g : Gp) (a : EAd) : Prop where
 id : IsBytes H a.ia a.ic g.id
 secret : IsBytes H a.sa a.sc g.secret
 number : -9223372036854775808 ≤ g.number ∧ g.number ≤ 9223372036854775807
 members : IsRow lieM H a.ma a.mc g.members
 small : g.id.length ≤ 1099511 ∧ g.secret.length ≤ 1099511 ∧ g.members.length ≤ 1099511
theorem GpA.mono {H K : Snap} {g : Gp} {a : EAd} (h : GpA H g a) (hl : H.le K) : GpA K g a := ⟨h.id.mono hl, h.secret.mono hl, h.number, h.members.mono hl, h.small⟩
abbrev zeroG : Array Value := #[.slice none 0 0, .slice none 0 0, .int .i64 0, .slice none 0 0]
theorem size_group : (Tryz.prog.info? 30).map (·.size) = some 4 := by kernel_rfl
theorem rowNil (H : Snap) : IsRow lieM H none 0 [] := ⟨by simp, by omega, by simp⟩
theorem zeroGA (H : Snap) : GpA H ⟨[], [], 0, []⟩ ⟨none, 0, none, 0, none, 0⟩ := ⟨IsBytes.nil _, IsBytes.nil _, by show (-9223372036854775808 : Int) ≤ 0 ∧ (0 : Int) ≤ 9223372036854775807; omega, rowNil H, by simp⟩
structure UnlP (l : List Mb) : Prop where
 one : ∀ m ∈ l, m.sender.length = 1
 pair : l.Pairwise fun a b => a.name ≠ b.name ∧ a.sender ≠ b.sender
theorem UnlP.nil : UnlP [] := ⟨by simp, List.Pairwise.nil⟩
theorem UnlP.snoc {l : List Mb} {m : Mb} (h : UnlP l) (h1 : m.sender.length = 1) (h2 : ∀ o ∈ l, o.name ≠ m.name ∧ o.sender ≠ m.sender) : UnlP (l ++ [m]) :=
 ⟨fun x hx => by rcases List.mem_append.1 hx with hx | hx; exact h.one x hx; rw [List.mem_singleton.1 hx]; exact h1,
  List.pairwise_append.2 ⟨h.pair, List.pairwise_singleton _ _, fun a ha b hb => by rw [List.mem_singleton.1 hb]; exact h2 a ha⟩⟩
theorem UnlP.at_ {l : List Mb} (h : UnlP l) {i k : Nat} (hk : k < i) (hi : i < l.length) : l[k].name ≠ l[i].name ∧ l[k].sender ≠ l[i].sender := List.pairwise_iff_getElem.1 h.pair k i (by omega) hi hk
theorem UnlP.sub {l m : List Mb} (h : UnlP l) (hs : m.Sublist l) : UnlP m := ⟨fun x hx => h.one x (hs.subset hx), h.pair.sublist hs⟩
theorem UnlP.take_succ {l : List Mb} {i : Nat} (hi : i < l.length) (h : UnlP (l.take i)) (h1 : l[i].sender.length = 1) (h2 : ∀ k (hk : k < i), l[k].name ≠ l[i].name ∧ l[k].sender ≠ l[i].sender) : UnlP (l.take (i + 1)) := by
 rw [List.take_succ_eq_append_getElem hi]
 refine h.snoc h1 fun o ho => ?_
 obtain ⟨k, hk, rfl⟩ := List.mem_take_iff_getElem.1 ho
 exact h2 k (by omega)
structure ValidG (sP : Mb → Bool) (g : Gp) : Prop where
 id1 : 1 ≤ g.id.length
 id8 : g.id.length ≤ 8
 sec : g.secret.length = 32
 num0 : 0 ≤ g.number
 num1 : g.number ≤ 65535
 few : g.members.length ≤ 16
 unl : UnlP g.members
 all : ∀ m ∈ g.members, sP m = true ∧ m.wrap.length = 16 ∧ 0 ≤ m.since ∧ m.since ≤ g.number
def nilG : Gp := ⟨[], [], 0, []⟩
def ValidOutP (sP : Mb → Bool) (w : World) (g : Gp) (e : Ending) (w' : World) : Prop := ∃ b, e = .returned (.bool b) ∧ (b = true ↔ ValidG sP g) ∧ Below w.heap.size w w'
def newG (id secret : List UInt8) : Gp := ⟨id, secret, 0, []⟩
theorem newG_valid (sP : Mb → Bool) (id secret : List UInt8) : ValidG sP (newG id secret) ↔ 1 ≤ id.length ∧ id.length ≤ 8 ∧ secret.length = 32 :=
 ⟨fun h => ⟨h.id1, h.id8, h.sec⟩, fun h => ⟨h.1, h.2.1, h.2.2, by show (0 : Int) ≤ 0; omega, by show (0 : Int) ≤ 65535; omega, by show (0 : Nat) ≤ 16; omega, UnlP.nil, by intro m hm; cases hm⟩⟩
inductive CreateP (sP : Mb → Bool) (id secret : List UInt8) : Int → Gp → Prop
 | arg : ¬ ValidG sP (newG id secret) → CreateP sP id secret 1 nilG
 | ok : ValidG sP (newG id secret) → CreateP sP id secret 0 (newG id secret)
def CrOut (sP : Mb → Bool) (w : World) (H : Snap) (id secret : List UInt8) (e : Ending) (w' : World) : Prop := ∃ g a H' n, e = .returned (.tuple #[.agg (gpQ g a), .int .i64 n]) ∧ Grows w H w' H' ∧ GpA H' g a ∧ CreateP sP id secret n g
structure FreeP (l : List Mb) (n : UInt8) : Prop where
 free : ∀ m ∈ l, m.sender ≠ [n]
 least : ∀ k : UInt8, k.toNat < n.toNat → ∃ m ∈ l, m.sender = [k]
def Clash (l : List Mb) (m : Mb) : Prop := ∃ o ∈ l, o.name = m.name ∨ o.cred = m.cred ∨ o.wrap = m.wrap
def ArgA (sP : Mb → Bool) (g : Gp) (m : Mb) : Prop := ValidG sP g ∧ sP m = true ∧ m.wrap.length = 16
def admG (g : Gp) (m : Mb) (n : UInt8) : Gp := ⟨g.id, g.secret, g.number + 1, g.members ++ [{ m with sender := [n], since := g.number + 1 }]⟩
inductive AdmP (sP : Mb → Bool) (g : Gp) (m : Mb) : Int → Gp → List UInt8 → Prop
 | arg : ¬ ArgA sP g m → AdmP sP g m 1 nilG []
 | twice : ArgA sP g m → Clash g.members m → AdmP sP g m 7 nilG []
 | full : ArgA sP g m → ¬ Clash g.members m → 16 ≤ g.members.length → AdmP sP g m 16 nilG []
 | limit : ArgA sP g m → ¬ Clash g.members m → g.members.length < 16 → g.number = 65535 → AdmP sP g m 8 nilG []
 | ok (n : UInt8) : ArgA sP g m → ¬ Clash g.members m → g.members.length < 16 → g.number ≠ 65535 → FreeP g.members n → AdmP sP g m 0 (admG g m n) [n]
def AdmOutP (sP : Mb → Bool) (w : World) (H : Snap) (g : Gp) (m : Mb) (e : Ending) (w' : World) : Prop := ∃ x a H' A c l n, e = .returned (.tuple #[.agg (gpQ x a), .slice A l.length c, .int .i64 n]) ∧ Grows w H w' H' ∧ GpA H' x a ∧ IsBytes H' A c l ∧ AdmP sP g m n x l
theorem admG_valid {sP : Mb → Bool} (hI : ∀ m s n, sP { m with sender := s, since := n } = sP m) {g : Gp} {m : Mb} {n : UInt8} (h : ArgA sP g m) (hc : ¬ Clash g.members m) (hl : g.members.length < 16) (hn : g.number ≠ 65535) (hf : FreeP g.members n) : ValidG sP (admG g m n) := by
 obtain ⟨v, s, w⟩ := h;have hs : sP { m with sender := [n], since := g.number + 1 } = true := (hI _ _ _).trans s
 refine ⟨v.id1, v.id8, v.sec, by have := v.num0; show (0 : Int) ≤ g.number + 1; omega, by have := v.num1; show g.number + 1 ≤ 65535; omega, by show (g.members ++ [_]).length ≤ 16; rw [List.length_append, List.length_singleton]; omega, v.unl.snoc rfl fun o ho => ⟨fun e => hc ⟨o, ho, .inl e⟩, hf.free o ho⟩, fun x hx => ?_⟩
 rcases List.mem_append.1 hx with hx | hx
 ·have := v.all x hx
  exact ⟨this.1, this.2.1, this.2.2.1, by show x.since ≤ g.number + 1; omega⟩
 ·rw [List.mem_singleton.1 hx]
  exact ⟨hs, w, by have := v.num0; show (0 : Int) ≤ g.number + 1; omega, by show g.number + 1 ≤ g.number + 1; omega⟩
def excG (g : Gp) (name : ByteArray) : Gp := ⟨g.id, g.secret, g.number + 1, g.members.filter fun m => decide (m.name ≠ name)⟩
inductive ExcP (sP : Mb → Bool) (g : Gp) (name : ByteArray) : Int → Gp → Prop
 | arg : ¬ ValidG sP g → ExcP sP g name 1 nilG
 | gone : ValidG sP g → (∀ m ∈ g.members, m.name ≠ name) → ExcP sP g name 38 nilG
 | limit : ValidG sP g → (∃ m ∈ g.members, m.name = name) → g.number = 65535 → ExcP sP g name 8 nilG
 | ok : ValidG sP g → (∃ m ∈ g.members, m.name = name) → g.number ≠ 65535 → ExcP sP g name 0 (excG g name)
def ExcOutP (sP : Mb → Bool) (w : World) (H : Snap) (g : Gp) (name : ByteArray) (e : Ending) (w' : World) : Prop := ∃ x a H' n, e = .returned (.tuple #[.agg (gpQ x a), .int .i64 n]) ∧ Grows w H w' H' ∧ GpA H' x a ∧ ExcP sP g name n x
theorem excG_valid {sP : Mb → Bool} {g : Gp} {name : ByteArray} (v : ValidG sP g) (hn : g.number ≠ 65535) : ValidG sP (excG g name) := by
 refine ⟨v.id1, v.id8, v.sec, by have := v.num0; show (0 : Int) ≤ g.number + 1; omega, by have := v.num1; show g.number + 1 ≤ 65535; omega, by have := List.length_filter_le (fun m : Mb => decide (m.name ≠ name)) g.members; have := v.few; show (List.filter _ g.members).length ≤ 16; omega, v.unl.sub List.filter_sublist, fun x hx => ?_⟩
 have := v.all x (List.mem_filter.1 hx).1
 exact ⟨this.1, this.2.1, this.2.2.1, by show x.since ≤ g.number + 1; omega⟩
theorem filter_all {l : List Mb} {name : ByteArray} (h : ∀ m ∈ l, m.name ≠ name) : l.filter (fun m => decide (m.name ≠ name)) = l := List.filter_eq_self.2 fun m hm => decide_eq_true (h m hm)
theorem cut_filter {l : List Mb} {name : ByteArray} (v : UnlP l) {i : Nat} (hi : i < l.length) (hn : l[i].name = name) : l.take i ++ l.drop (i + 1) = l.filter fun m => decide (m.name ≠ name) := by
 have e : l = l.take i ++ (l[i] :: l.drop (i + 1)) := by rw [← List.drop_eq_getElem_cons hi, List.take_append_drop]
 have h1 : ∀ m ∈ l.take i, m.name ≠ name := fun m hm => by
  obtain ⟨k, hk, rfl⟩ := List.mem_take_iff_getElem.1 hm;rw [← hn]
  exact (v.at_ (by omega : k < i) hi).1
 have h2 : ∀ m ∈ l.drop (i + 1), m.name ≠ name := fun m hm => by
  obtain ⟨k, hk, rfl⟩ := List.mem_drop_iff_getElem.1 hm;rw [← hn]
  exact fun h => (v.at_ (k := i) (i := i + 1 + k) (by omega) (by omega)).1 h.symm
 conv => rhs; rw [e]
 rw [List.filter_append, filter_all h1, List.filter_cons, if_neg (by simp [hn]), filter_all h2]
theorem pigeon : ∀ (b : Nat) (l : List Nat), (∀ k, k < b → k ∈ l) → b ≤ l.length
 | 0, _, _ => Nat.zero_le _
 | b + 1, l, h => by
  have hb := h b (by omega);have h1 := pigeon b (l.erase b) (fun k hk => (List.mem_erase_of_ne (by omega)).2 (h k (by omega)));rw [List.length_erase_of_mem hb] at h1;have := List.length_pos_of_mem hb
  omega
end Go.Proofs.YtgaoknihklmakaaGreatDoor
