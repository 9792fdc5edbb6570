/- squeezed. Walks: reading error messages. -/
import Derived.Test.YtlebpackbfcfeaaGreatDoorK42
import Derived.Test.YtlebpackbfcfeaaGreatDoorK28
import Derived.Test.YtlebpackbfcfeaaGreatDoorK37
import Derived.Test.YtlebpackbfcfeaaGreatDoorK20
set_option linter.unusedVariables false
set_option linter.unusedSimpArgs false
set_option maxRecDepth 100000
set_option maxHeartbeats 12800000
namespace Go.Proofs.YtlebpackbfcfeaaGreatDoor
open Go.RowKit
theorem results_tmp_cell_tmp {fn : Func} {p u v : Tmp} {ty : TypeId} (h : fn.results = #[.tmp u, .cell p ty, .tmp v]) (tmps : Array Value) (P : Program) (w : World) :
  (results fn tmps).run P w =
   ((asAddr (tmps.getD p undef)).run P w).andThen fun a w₁ => ((loadVar ty a).run P w₁).andThen fun x w₂ => .ok (.tuple #[tmps.getD u undef, x, tmps.getD v undef]) w₂ := by
 simp only [results, h]
 simp [Sem.run_bind, Result.andThen]
theorem ret_tmp_row_tmp {fn : Func} {p u v : Tmp} {ty : TypeId} {a : Act} {w : World} {R : Ending → World → Prop} {g : Nat} {t : TypeId} {cs : Array Value} {d : TypeDesc} (h : fn.results = #[.tmp u, .cell p ty, .tmp v]) (hp : a.tmps.getD p undef = .pointer (some ⟨g, 0, none⟩)) (hg : Blk w g t cs)
  (hd : (match d with | .struct _ | .array _ _ => true | _ => false) = true) (hu : Tryz.prog.underlying ty = some d) (hi : (Tryz.prog.info? ty).map (·.size) = some cs.size)
  (hdf : a.defers = []) (hR : R (.returned (.tuple #[a.tmps.getD u undef, .agg cs, a.tmps.getD v undef])) w) : bodyPost Tryz.prog fn R .ret a w := by
 refine bodyPost_ret (v := .tuple #[a.tmps.getD u undef, .agg cs, a.tmps.getD v undef]) ?_ hdf hR
 rw [results_tmp_cell_tmp h, hp];have hd' := run_loadVar_row (P := Tryz.prog) w g t ty cs (0, 0) d hg hu (by cases d <;> first | exact hd | rfl | cases hd) hi
 simp [asAddr, hd', Result.andThen]
def ErrOut (w : World) (H : Snap) (r : Except Nat (Int × Itm)) (e : Ending) (w' : World) : Prop :=
 match r with
 | .error q => e = .returned (.tuple #[.int .i64 0, zeroV, .int .i64 (q : Int)]) ∧ Below w.heap.size w w'
 | .ok (v, y) => ∃ ja jb jc jd H', e = .returned (.tuple #[.int .i64 v, itemV y ja jb jc jd, .int .i64 0]) ∧ Grows w H w' H' ∧ IsItem H' ja jb jc jd y
theorem ErrOut.err {w w' : World} {H : Snap} {r : Except Nat (Int × Itm)} {e : Ending} {q : Nat} (hr : r = .error q) (he : e = .returned (.tuple #[.int .i64 0, zeroV, .int .i64 (q : Int)])) (hb : Below w.heap.size w w') : ErrOut w H r e w' := by
 subst hr; exact ⟨he, hb⟩
theorem ErrOut.ok {w w' : World} {H H' : Snap} {r : Except Nat (Int × Itm)} {e : Ending} {v : Int} {y : Itm} {ja : Option Addr} {jb : Nat} {jc : Option Addr} {jd : Nat} (hr : r = .ok (v, y)) (he : e = .returned (.tuple #[.int .i64 v, itemV y ja jb jc jd, .int .i64 0])) (hG : Grows w H w' H') (hi : IsItem H' ja jb jc jd y) : ErrOut w H r e w' := by
 subst hr; exact ⟨ja, jb, jc, jd, H', he, hG, hi⟩
theorem decErr_long {b : List UInt8} (h : 600 < b.length) : decErr b = .error 8 := by rw [decErr, if_pos h]
theorem decErr_err {b : List UInt8} (h : ¬ 600 < b.length) {q : Nat} (hp : prefixP b = .err q) : decErr b = .error q := by rw [decErr, if_neg h, hp]
theorem decErr_form {b : List UInt8} (h : ¬ 600 < b.length) {x : Itm} {k c : Nat} (hp : prefixP b = .ok x k c) (hx : x.kind ≠ 0 ∨ x.n < 1 ∨ 65535 < x.n) : decErr b = .error 4 := by rw [decErr, if_neg h, hp]; simp only; rw [if_pos hx]
theorem decErr_go {b : List UInt8} (h : ¬ 600 < b.length) {x : Itm} {k c : Nat} (hp : prefixP b = .ok x k c) (hx : ¬ (x.kind ≠ 0 ∨ x.n < 1 ∨ 65535 < x.n)) : decErr b = (match decodeP (b.drop k) with | .error e => .error e | .ok y => .ok ((x.n : Int), y)) := by
 rw [decErr, if_neg h, hp]; simp only; rw [if_neg hx]; cases decodeP (b.drop k) <;> rfl
theorem numEE_none {x : Itm} (h : numE x 65535 = none) : x.kind ≠ 0 ∨ x.n < 1 ∨ 65535 < x.n := by
 rcases Classical.em (x.kind = 0 ∧ x.n ≤ 65535) with h2 | h2
 ·rw [numE, if_pos h2] at h; cases h
 ·omega
theorem numEE_lt {x : Itm} {v : Int} (h : numE x 65535 = some v) (hv : v < 1) : x.kind ≠ 0 ∨ x.n < 1 ∨ 65535 < x.n := by
 unfold numE at h
 split at h
 ·injection h with h; omega
 ·split at h
  ·rename_i h2; have := h2.1; omega
  ·cases h
theorem numEE_ok {x : Itm} {v : Int} (h : numE x 65535 = some v) (hv : ¬ v < 1) : x.kind = 0 ∧ 1 ≤ x.n ∧ x.n ≤ 65535 ∧ v = (x.n : Int) := by
 unfold numE at h
 split at h
 ·rename_i h2; injection h with h; omega
 ·split at h
  ·injection h with h; omega
  ·cases h
theorem decodeP_err0 {l : List UInt8} {q : Nat} (h : decodeP l = .error q) : q ≠ 0 := by
 unfold decodeP at h
 split at h
 ·injection h with h; omega
 ·split at h
  ·rename_i e hp
   injection h with h
   subst h
   exact parse_err _ _ _ _ hp
  ·split at h
   ·injection h with h; omega
   ·cases h
theorem e_DecodeError {H : Snap} (hTab : Tabs H) (w : World) (hH : Holds w H) {A : Option Addr} {n c : Nat} {l : List UInt8} (hn : n = l.length) (hl : IsBytes H A c l) :
  Calls Tryz.prog 13 #[.slice A n c] w (ErrOut w H (decErr l)) := by
 by_cases hlong : 600 < n
 ·have z : (600 : Int) < (n : Int) := by omega
  have zd : decide ((600 : Int) < (n : Int)) = true := decide_eq_true z;have E : Hid (decErr l = .error 8) := by rw [Hid]; exact decErr_long (by rw [← hn]; exact hlong)
  have hT := Blk.new w 31 #[.int .i64 0, .int .u64 0, .slice none 0 0, .slice none 0 0];have nT : H w.heap.size = none := hH.none_of_ge (Nat.le_refl _);have hG := (Grows.refl hH).alloc zeroO;clear hlong hn;go_enter Tryz.func13, Tryz.ntmps13
  go_wp2_with (with_reducible refine stop_store ?_)
  refine stI hT fun wz hTz hgz => ?_
  have hGz := hG.grownOwn nT (Nat.le_refl _) hgz;go_wp2_with fail
  refine ret_tmp_row_tmp rfl rfl hTz rfl rfl size_item rfl ?_
  exact ErrOut.err (q := 8) E.out rfl hGz.below
 have z : ¬ ((600 : Int) < (n : Int)) := by omega
 have zd : decide ((600 : Int) < (n : Int)) = false := decide_eq_false z;have HLG := Hh (show ¬ 600 < l.length by omega);have nT : H w.heap.size = none := hH.none_of_ge (Nat.le_refl _);have ng : H (w.heap.size + 1) = none := hH.none_of_ge (Nat.le_succ _);have hG := ((Grows.refl hH).alloc zeroO).alloc (.cells (erC A n c 0) 70);have hT0 := (Blk.new w 31 #[.int .i64 0, .int .u64 0, .slice none 0 0, .slice none 0 0]).alloc (.cells (erC A n c 0) 70);have hB := Blk.new (w.alloc zeroO) 70 (erC A n c 0);rw [show (w.alloc zeroO).heap.size = w.heap.size + 1 by simp] at hB;have hT : Blk ((w.alloc zeroO).alloc (.cells (erC A n c 0) 70)) w.heap.size 31 #[.int .i64 0, .int .u64 0, .slice none 0 0, .slice none 0 0] := hT0;have hB' : Blk ((w.alloc zeroO).alloc (.cells (erC A n c 0) 70)) (w.heap.size + 1) 70 (erC A n c 0) := hB;have HN := Hh hn;clear hlong z hT0 hB hn;go_enter Tryz.func13, Tryz.ntmps13
 go_upto_region 4 with fail
 generalize (w.alloc zeroO).alloc (.cells (erC A n c 0) 70) = w1 at hG hT hB' ⊢
 have hR : Rdr w1 (w.heap.size + 1) H A c l 0 := ⟨by rw [← HN.out]; exact hB', hl, hG.holds, ng⟩
 clear hB' ng hH;obtain ⟨T, hTT⟩ : ∃ T, w.heap.size = T := ⟨_, rfl⟩
 obtain ⟨g, hgg⟩ : ∃ g, T + 1 = g := ⟨_, rfl⟩
 have hTw : w.heap.size ≤ T := Nat.le_of_eq hTT;have hgw : w.heap.size ≤ g := by omega
 have hTg : T < g := by omega
 rw [hTT, hgg] at hR;rw [hTT] at nT hT;rw [hTT, hgg];clear hTT hgg;have IT := Hh (e_item hTab hR);have HTab := Hh hTab;clear hTab;go_wp2_with fail
 refine IT.out.mono ?_
 intro e w2 hs
 unfold EItem at hs
 clear IT
 cases hp : prefixP l with
 | err q1 =>
  rw [hp] at hs;obtain ⟨rfl, H2, A2, c2, hd⟩ := hs;have E : Hid (decErr l = .error q1) := by rw [Hid]; exact decErr_err HLG.out hp
  have HQ := Hh (parse_err _ _ _ _ hp);clear hp;replace hG := hG.trans_but hd.grows hgw;replace nT := hd.hid nT hT.lt;replace hT := hT.est hd (by omega);clear hR;have hR := hd.rd;clear hd;have hX0 := Blk.new w2 31 #[.int .i64 0, .int .u64 0, .slice none 0 0, .slice none 0 0];have nX := hG.holds.none_of_ge (Nat.le_refl w2.heap.size);have hTX := hT.lt;have hXw : w.heap.size ≤ w2.heap.size := hG.size;replace hG := hG.alloc zeroO;replace hT := hT.alloc zeroO;have hRX := hR.gt;replace hR := hR.alloc zeroO;go_wp2_with (with_reducible refine stop_store ?_)
  refine stI hX0 fun v1 hX hg' => ?_
  replace hG := hG.grownOwn nX hXw hg';replace hT := hT.gr hg' (by omega);replace hR := hR.grown hg' (by omega) nX;obtain ⟨X, hXX⟩ : ∃ X, w2.heap.size = X := ⟨_, rfl⟩
  rw [hXX] at hX nX hTX hXw hRX ⊢;clear hXX hg' hX0;have b0 := hX.cell 0 rfl;have b1 := hX.cell 1 rfl;have FL0 := e_fail hR.blk 4;rw [if_neg HQ.out] at FL0;have FL := Hh FL0;clear FL0;go_wp2_with fail
  refine FL.out.mono ?_
  rintro e v2 ⟨⟨vv, rfl⟩, hB', hg'⟩
  clear FL;replace hG := hG.grownOwn hR.apart hgw hg';have hR' : Rdr v2 g _ _ _ _ _ := ⟨hB', hR.bytes, hG.holds, hR.apart⟩
  replace hT := hT.gr hg' (by omega);replace hX := hX.gr hg' (by omega);replace hR := hR';clear hR' hB' hg';clear b0 b1;have a1 := hR.blk.cell 1 rfl;have yq : ((q1 : Int) != 0) = true := by first | decide | (rw [bne_iff_ne]; have := HQ.out; omega)
  have yq' : ((q1 : Int) = 0) = False := eq_false (by have := HQ.out; omega);have nTq := nT;have hGq := hG.drew;have hTq := hT.drew;have hRq := hR.blk.drew;clear hX;go_upto_region 8 with fail
  refine wp_region_ways 8 (fun w' => w'.cell? ⟨g, 1, none⟩ = some (.int .i64 (q1 : Int))) (by kernel_rfl) (a1) (fun hHeld => ?_)
  refine TkS 0 rfl hHeld ?_
  refine TkS 1 rfl hHeld ?_
  refine TkS 2 rfl hHeld ?_
  refine TkS 3 rfl hHeld ?_
  refine TkS 4 rfl hHeld ?_
  refine TkS 5 rfl hHeld ?_
  refine To 6 rfl fun K hK => ?_
  refine wp_store_item _ _ _ rfl _ _ rfl rfl _ _ hTq size_item rfl (one4 _ _ _ _ rfl rfl rfl rfl) fun wz hTz hgz => ?_
  have hGz := hGq.grownOwn nTq hTw hgz;have hRz := hRq.gr hgz (by omega);go_simp
  refine hK.out _ _ (fun _ => ?_) (fun hHeld => ?_)
  ·exact hRz.cell 1 rfl
  clear hK K;have hHeld := hHeld (by decide)
  try simp only [Act.put, zz1, zz2, zz3, zz4, zz5, zz6]
  refine TkS 7 rfl hHeld ?_
  refine Ways.done (by kernel_rfl) ?_
  go_wp2_with fail
  refine ret_tmp_row_tmp rfl rfl hTz rfl rfl size_item rfl ?_
  exact ErrOut.err E.out rfl hGz.below
 | ok x k m1 =>
  rw [hp] at hs;obtain ⟨ja, jb, jc, jd, H2, A2, c2, rfl, hd, hi⟩ := hs;replace hG := hG.trans_but hd.grows hgw;replace nT := hd.hid nT hT.lt;replace hT := hT.est hd (by omega);clear hR;have hR := hd.rd;have HP := Hh hp;have HLE2 := Hh hd.grows.le;clear hd hp hl;have hX0 := Blk.new w2 31 #[.int .i64 0, .int .u64 0, .slice none 0 0, .slice none 0 0];have nX := hG.holds.none_of_ge (Nat.le_refl w2.heap.size);have hTX := hT.lt;have hXw : w.heap.size ≤ w2.heap.size := hG.size;replace hG := hG.alloc zeroO;replace hT := hT.alloc zeroO;have hRX := hR.gt;replace hR := hR.alloc zeroO;go_wp2_with (with_reducible refine stop_store ?_)
  refine stI hX0 fun v3 hX hg' => ?_
  replace hG := hG.grownOwn nX hXw hg';replace hT := hT.gr hg' (by omega);replace hR := hR.grown hg' (by omega) nX;obtain ⟨X, hXX⟩ : ∃ X, w2.heap.size = X := ⟨_, rfl⟩
  rw [hXX] at hX nX hTX hXw hRX ⊢;clear hXX hg' hX0;obtain ⟨kd, hkd⟩ : ∃ kd, x.kind = kd := ⟨_, rfl⟩
  obtain ⟨xn, hxn⟩ : ∃ xn, x.n = xn := ⟨_, rfl⟩
  rw [hkd, hxn] at hX;have HKD := Hh (And.intro hkd hxn);have b0 := hX.cell 0 rfl;have b1 := hX.cell 1 rfl;clear hkd hxn hi
  by_cases h0 : kd = 0
  case neg =>
   have k0 : (kd != 0) = true := by rw [bne_iff_ne]; exact h0
   have k0' : (kd = 0) = False := eq_false h0;have E : Hid (decErr l = .error 4) := by rw [Hid]; exact decErr_form HLG.out HP.out (by have := HKD.out; omega)
   have HQ : Hid ((4 : Nat) ≠ 0) := by rw [Hid]; omega
   have FL0 := e_fail hR.blk 4;rw [if_pos rfl] at FL0;have FL := Hh FL0;clear FL0;go_wp2_with fail
   refine FL.out.mono ?_
   rintro e v4 ⟨⟨vv, rfl⟩, hB', hg'⟩
   clear FL;replace hG := hG.grownOwn hR.apart hgw hg';have hR' : Rdr v4 g _ _ _ _ _ := ⟨hB', hR.bytes, hG.holds, hR.apart⟩
   replace hT := hT.gr hg' (by omega);replace hX := hX.gr hg' (by omega);replace hR := hR';clear hR' hB' hg';(try clear b0 b1)
   have a1 := hR.blk.cell 1 rfl;have yq : ((4 : Int) != 0) = true := by first | decide | (rw [bne_iff_ne]; have := HQ.out; omega)
   have yq' : ((4 : Int) = 0) = False := eq_false (by have := HQ.out; omega);have nTq := nT;have hGq := hG.drew;have hTq := hT.drew;have hRq := hR.blk.drew;clear hX;go_upto_region 8 with fail
   refine wp_region_ways 8 (fun w' => w'.cell? ⟨g, 1, none⟩ = some (.int .i64 (4 : Int))) (by kernel_rfl) (a1) (fun hHeld => ?_)
   refine TkS 0 rfl hHeld ?_
   refine TkS 1 rfl hHeld ?_
   refine TkS 2 rfl hHeld ?_
   refine TkS 3 rfl hHeld ?_
   refine TkS 4 rfl hHeld ?_
   refine TkS 5 rfl hHeld ?_
   refine To 6 rfl fun K hK => ?_
   refine wp_store_item _ _ _ rfl _ _ rfl rfl _ _ hTq size_item rfl (one4 _ _ _ _ rfl rfl rfl rfl) fun wz hTz hgz => ?_
   have hGz := hGq.grownOwn nTq hTw hgz;have hRz := hRq.gr hgz (by omega);go_simp
   refine hK.out _ _ (fun _ => ?_) (fun hHeld => ?_)
   ·exact hRz.cell 1 rfl
   clear hK K;have hHeld := hHeld (by decide)
   try simp only [Act.put, zz1, zz2, zz3, zz4, zz5, zz6]
   refine TkS 7 rfl hHeld ?_
   refine Ways.done (by kernel_rfl) ?_
   go_wp2_with fail
   refine ret_tmp_row_tmp rfl rfl hTz rfl rfl size_item rfl ?_
   exact ErrOut.err E.out rfl hGz.below
  have k0 : (kd != 0) = false := by rw [bne_eq_false_iff_eq]; exact h0
  have k0' : (kd = 0) = True := eq_true h0
  by_cases h1 : xn < 1
  ·have z1 : (xn : Int) < 1 := by omega
   have z1d : decide ((xn : Int) < 1) = true := decide_eq_true z1;have z1n : xn = 0 := by omega
   subst z1n;have E : Hid (decErr l = .error 4) := by rw [Hid]; exact decErr_form HLG.out HP.out (by have := HKD.out; omega)
   have HQ : Hid ((4 : Nat) ≠ 0) := by rw [Hid]; omega
   have FL0 := e_fail hR.blk 4;rw [if_pos rfl] at FL0;have FL := Hh FL0;clear FL0;go_wp2_with fail
   refine FL.out.mono ?_
   rintro e v5 ⟨⟨vv, rfl⟩, hB', hg'⟩
   clear FL;replace hG := hG.grownOwn hR.apart hgw hg';have hR' : Rdr v5 g _ _ _ _ _ := ⟨hB', hR.bytes, hG.holds, hR.apart⟩
   replace hT := hT.gr hg' (by omega);replace hX := hX.gr hg' (by omega);replace hR := hR';clear hR' hB' hg';(try clear b0 b1)
   have a1 := hR.blk.cell 1 rfl;have yq : ((4 : Int) != 0) = true := by first | decide | (rw [bne_iff_ne]; have := HQ.out; omega)
   have yq' : ((4 : Int) = 0) = False := eq_false (by have := HQ.out; omega);have nTq := nT;have hGq := hG.drew;have hTq := hT.drew;have hRq := hR.blk.drew;clear hX;go_upto_region 8 with fail
   refine wp_region_ways 8 (fun w' => w'.cell? ⟨g, 1, none⟩ = some (.int .i64 (4 : Int))) (by kernel_rfl) (a1) (fun hHeld => ?_)
   refine TkS 0 rfl hHeld ?_
   refine TkS 1 rfl hHeld ?_
   refine TkS 2 rfl hHeld ?_
   refine TkS 3 rfl hHeld ?_
   refine TkS 4 rfl hHeld ?_
   refine TkS 5 rfl hHeld ?_
   refine To 6 rfl fun K hK => ?_
   refine wp_store_item _ _ _ rfl _ _ rfl rfl _ _ hTq size_item rfl (one4 _ _ _ _ rfl rfl rfl rfl) fun wz hTz hgz => ?_
   have hGz := hGq.grownOwn nTq hTw hgz;have hRz := hRq.gr hgz (by omega);go_simp
   refine hK.out _ _ (fun _ => ?_) (fun hHeld => ?_)
   ·exact hRz.cell 1 rfl
   clear hK K;have hHeld := hHeld (by decide)
   try simp only [Act.put, zz1, zz2, zz3, zz4, zz5, zz6]
   refine TkS 7 rfl hHeld ?_
   refine Ways.done (by kernel_rfl) ?_
   go_wp2_with fail
   refine ret_tmp_row_tmp rfl rfl hTz rfl rfl size_item rfl ?_
   exact ErrOut.err E.out rfl hGz.below
  have z1 : ¬ ((xn : Int) < 1) := by omega
  have z1d : decide ((xn : Int) < 1) = false := decide_eq_false z1
  by_cases h3 : 65535 < xn
  ·have z3 : (65535 : Int) < (xn : Int) := by omega
   have z3d : decide ((65535 : Int) < (xn : Int)) = true := decide_eq_true z3;have z3n : decide (65535 < xn) = true := decide_eq_true h3;have E : Hid (decErr l = .error 4) := by rw [Hid]; exact decErr_form HLG.out HP.out (by have := HKD.out; omega)
   have HQ : Hid ((4 : Nat) ≠ 0) := by rw [Hid]; omega
   have FL0 := e_fail hR.blk 4;rw [if_pos rfl] at FL0;have FL := Hh FL0;clear FL0;go_wp2_with fail
   refine FL.out.mono ?_
   rintro e v6 ⟨⟨vv, rfl⟩, hB', hg'⟩
   clear FL;replace hG := hG.grownOwn hR.apart hgw hg';have hR' : Rdr v6 g _ _ _ _ _ := ⟨hB', hR.bytes, hG.holds, hR.apart⟩
   replace hT := hT.gr hg' (by omega);replace hX := hX.gr hg' (by omega);replace hR := hR';clear hR' hB' hg';(try clear b0 b1)
   have a1 := hR.blk.cell 1 rfl;have yq : ((4 : Int) != 0) = true := by first | decide | (rw [bne_iff_ne]; have := HQ.out; omega)
   have yq' : ((4 : Int) = 0) = False := eq_false (by have := HQ.out; omega);have nTq := nT;have hGq := hG.drew;have hTq := hT.drew;have hRq := hR.blk.drew;clear hX;go_upto_region 8 with fail
   refine wp_region_ways 8 (fun w' => w'.cell? ⟨g, 1, none⟩ = some (.int .i64 (4 : Int))) (by kernel_rfl) (a1) (fun hHeld => ?_)
   refine TkS 0 rfl hHeld ?_
   refine TkS 1 rfl hHeld ?_
   refine TkS 2 rfl hHeld ?_
   refine TkS 3 rfl hHeld ?_
   refine TkS 4 rfl hHeld ?_
   refine TkS 5 rfl hHeld ?_
   refine To 6 rfl fun K hK => ?_
   refine wp_store_item _ _ _ rfl _ _ rfl rfl _ _ hTq size_item rfl (one4 _ _ _ _ rfl rfl rfl rfl) fun wz hTz hgz => ?_
   have hGz := hGq.grownOwn nTq hTw hgz;have hRz := hRq.gr hgz (by omega);go_simp
   refine hK.out _ _ (fun _ => ?_) (fun hHeld => ?_)
   ·exact hRz.cell 1 rfl
   clear hK K;have hHeld := hHeld (by decide)
   try simp only [Act.put, zz1, zz2, zz3, zz4, zz5, zz6]
   refine TkS 7 rfl hHeld ?_
   refine Ways.done (by kernel_rfl) ?_
   go_wp2_with fail
   refine ret_tmp_row_tmp rfl rfl hTz rfl rfl size_item rfl ?_
   exact ErrOut.err E.out rfl hGz.below
  have z3 : ¬ ((65535 : Int) < (xn : Int)) := by omega
  have z3d : decide ((65535 : Int) < (xn : Int)) = false := decide_eq_false z3;have z3n : decide (65535 < xn) = false := decide_eq_false h3;have HXN := Hh (show 1 ≤ xn ∧ xn ≤ 65535 by omega)
  have E0 : Hid (decErr l = match decodeP (l.drop k) with | .error e => .error e | .ok y => .ok ((xn : Int), y)) := by
   rw [Hid, decErr_go HLG.out HP.out (by rw [HKD.out.1, HKD.out.2]; omega), HKD.out.2]
  obtain ⟨l1, hl1⟩ : ∃ l1, l.drop k = l1 := ⟨_, rfl⟩
  rw [hl1] at hR E0;have a0 := hR.blk.cell 0 rfl;have a1 := hR.blk.cell 1 rfl;have DC := Hh (cbor_Decode (HTab.out.mono hG.le) v3 hG.holds rfl hR.bytes);clear h0 h1 h3 hl1;go_wp2_with fail
  refine DC.out.mono ?_
  intro e w4 hs
  unfold DecodeOut at hs
  clear DC a0 a1 b0 b1
  cases hde : decodeP l1 with
  | error q2 =>
   rw [hde] at hs;obtain ⟨rfl, hb⟩ := hs;have E : Hid (decErr l = .error q2) := by rw [Hid, E0.out, hde]
   have HQ := Hh (decodeP_err0 hde);have hGn := Grows.of_below hG.holds hb;replace nT := hGn.none nT hT.lt;replace hT := hT.below hGn.below;replace hG := hG.trans hGn;have yq : ((q2 : Int) != 0) = true := by rw [bne_iff_ne]; have := HQ.out; omega
   have yq' : ((q2 : Int) = 0) = False := eq_false (by have := HQ.out; omega);clear hb hGn hde E0 hR hX;have hX0 := Blk.new w4 31 #[.int .i64 0, .int .u64 0, .slice none 0 0, .slice none 0 0];have nY := hG.holds.none_of_ge (Nat.le_refl w4.heap.size);have hTY := hT.lt;have hYw : w.heap.size ≤ w4.heap.size := hG.size;replace hG := hG.alloc zeroO;replace hT := hT.alloc zeroO;go_wp2_with (with_reducible refine stop_store ?_)
   refine stI hX0 fun v7 hY hg' => ?_
   replace hG := hG.grownOwn nY hYw hg';replace hT := hT.gr hg' (by omega);obtain ⟨Y, hYY⟩ : ∃ Y, w4.heap.size = Y := ⟨_, rfl⟩
   rw [hYY] at hY nY hTY hYw ⊢;clear hYY hg' hX0;go_wp2_with (with_reducible refine stop_store ?_)
   refine stI hT fun wz hTz hgz => ?_
   have hGz := hG.grownOwn nT hTw hgz;go_wp2_with fail
   refine ret_tmp_row_tmp rfl rfl hTz rfl rfl size_item rfl ?_
   exact ErrOut.err (q := q2) E.out rfl hGz.below
  | ok y =>
   rw [hde] at hs;obtain ⟨ka, kb, kc, kd2, H4, rfl, hGn, hi4⟩ := hs;have E : Hid (decErr l = .ok ((xn : Int), y)) := by rw [Hid, E0.out, hde]
   replace nT := hGn.none nT hT.lt;replace hT := hT.below hGn.below;replace hX := hX.below hGn.below;have HXL := Hh hX.lt;replace hG := hG.trans hGn;clear hGn hde E0 hR;have hX0 := Blk.new w4 31 #[.int .i64 0, .int .u64 0, .slice none 0 0, .slice none 0 0];have nY := hG.holds.none_of_ge (Nat.le_refl w4.heap.size);have hTY := hT.lt;have hYw : w.heap.size ≤ w4.heap.size := hG.size;replace hG := hG.alloc zeroO;replace hT := hT.alloc zeroO;replace hX := hX.alloc zeroO;go_wp2_with (with_reducible refine stop_store ?_)
   refine stI hX0 fun v8 hY hg' => ?_
   replace hG := hG.grownOwn nY hYw hg';replace hT := hT.gr hg' (by omega);replace hX := hX.grown hg' (by intro e; injection e with e; have := HXL.out; omega);obtain ⟨Y, hYY⟩ : ∃ Y, w4.heap.size = Y := ⟨_, rfl⟩
   rw [hYY] at hY nY hTY hYw ⊢;clear hYY hg' hX0;have hXT := Hh hTX;have b1 := hX.cell 1 rfl;have y0 := hY.cell 0 rfl;have y1 := hY.cell 1 rfl;have y2 := hY.cell 2 rfl;have y3 := hY.cell 3 rfl;have KX : IntKind.i64.wrap (xn : Int) = (xn : Int) := IntWalk.i64_in _ (by have := HXN.out; omega);go_upto_region 12 with fail
   have hGq := hG.drew;have hTq := hT.drew;have hXq := hX.drew;have hYq := hY.drew;have nTq := nT
   refine wp_region_ways 7 (fun w' => w'.cell? ⟨X, 1, none⟩ = some (.int .u64 (xn : Int)) ∧ w'.cell? ⟨Y, 0, none⟩ = some (.int .i64 y.kind) ∧ w'.cell? ⟨Y, 1, none⟩ = some (.int .u64 y.n) ∧ w'.cell? ⟨Y, 2, none⟩ = some (.slice ka y.bytes.length kb) ∧ w'.cell? ⟨Y, 3, none⟩ = some (.slice kc y.items.length kd2)) (by kernel_rfl) (⟨b1, y0, y1, y2, y3⟩) (fun hHeld => ?_)
   refine TkS 0 rfl hHeld ?_
   refine TkS 1 rfl hHeld ?_
   refine TkS 2 rfl hHeld ?_
   refine TkS 3 rfl hHeld ?_
   refine TkS 4 rfl hHeld ?_
   refine To 5 rfl fun K hK => ?_
   refine wp_store_item _ _ _ rfl _ _ rfl rfl _ _ hTq size_item rfl (one4 _ _ _ _ rfl rfl rfl rfl) fun wz hTz hgz => ?_
   have hGz := hGq.grownOwn nTq hTw hgz;have hXz := hXq.gr hgz (by omega);have hYz := hYq.gr hgz (by omega);go_simp
   refine hK.out _ _ (fun _ => ?_) (fun hHeld => ?_)
   ·exact ⟨hXz.cell 1 rfl, hYz.cell 0 rfl, hYz.cell 1 rfl, hYz.cell 2 rfl, hYz.cell 3 rfl⟩
   clear hK K;have hHeld := hHeld (by decide)
   try simp only [Act.put, zz1, zz2, zz3, zz4, zz5, zz6]
   refine TkS 6 rfl hHeld ?_
   refine Ways.done (by kernel_rfl) ?_
   go_wp2_with fail
   refine ret_tmp_row_tmp rfl rfl hTz rfl rfl size_item rfl ?_
   exact ErrOut.ok E.out rfl hGz hi4
end Go.Proofs.YtlebpackbfcfeaaGreatDoor
