/- Walks: the program's Prefix. -/
import Derived.Test.YtebcnkelbicbnaaGreatDoorM20
set_option linter.unusedVariables false
set_option linter.unusedSimpArgs false
namespace Go.Proofs.YtebcnkelbicbnaaGreatDoor
open Go.RowKit

theorem IsBytes.take {H : Snap} {A : Option Addr} {c : Nat} {l : List UInt8} (h : IsBytes H A c l) (m : Nat) : IsBytes H A c (l.take m) := by
  refine ⟨by have := h.le; rw [List.length_take]; omega, h.max, fun hne => ?_⟩
  obtain ⟨b, off, e, hc⟩ := h.row (by intro h0; rw [List.map_eq_nil_iff] at h0; subst h0; simp at hne)
  refine ⟨b, off, e, fun j v hj => hc j v ?_⟩
  rw [List.map_take, List.getElem?_take] at hj
  split at hj
  · exact hj
  · cases hj
def PrefixOut (w : World) (H : Snap) (l : List UInt8) (e : Ending) (w' : World) : Prop :=
  match prefixP l with
  | .err q => e = .returned (.tuple #[zeroV, .int .i64 0, .int .i64 (q : Int)]) ∧ Below w.heap.size w w'
  | .ok x k _ => ∃ ja jb jc jd H', e = .returned (.tuple #[itemV x ja jb jc jd, .int .i64 (k : Int), .int .i64 0]) ∧ Grows w H w' H' ∧ IsItem H' ja jb jc jd x
theorem results_cell_tmp2 {fn : Func} {p u v : Tmp} {ty : TypeId} (h : fn.results = #[.cell p ty, .tmp u, .tmp v]) (tmps : Array Value) (P : Program) (w : World) :
    (results fn tmps).run P w =
      ((asAddr (tmps.getD p undef)).run P w).andThen fun a w₁ => ((loadVar ty a).run P w₁).andThen fun x w₂ => .ok (.tuple #[x, tmps.getD u undef, tmps.getD v undef]) w₂ := by
  simp only [results, h]
  simp [Sem.run_bind, Result.andThen]
theorem ret_row_tmp2 {fn : Func} {p u v : Tmp} {ty : TypeId} {a : Act} {w : World} {R : Ending → World → Prop} {g : Nat} {t : TypeId} {cs : Array Value} {d : TypeDesc} (h : fn.results = #[.cell p ty, .tmp u, .tmp v]) (hp : a.tmps.getD p undef = .pointer (some ⟨g, 0, none⟩)) (hg : Blk w g t cs)
    (hd : (match d with | .struct _ | .array _ _ => true | _ => false) = true) (hu : Tryz.prog.underlying ty = some d) (hi : (Tryz.prog.info? ty).map (·.size) = some cs.size)
    (hdf : a.defers = []) (hR : R (.returned (.tuple #[.agg cs, a.tmps.getD u undef, a.tmps.getD v undef])) w) : bodyPost Tryz.prog fn R .ret a w := by
  refine bodyPost_ret (v := .tuple #[.agg cs, a.tmps.getD u undef, a.tmps.getD v undef]) ?_ hdf hR
  rw [results_cell_tmp2 h, hp]
  have hd' := run_loadVar_row (P := Tryz.prog) w g t ty cs (0, 0) d hg hu (by cases d <;> first | exact hd | rfl | cases hd) hi
  simp [asAddr, hd', Result.andThen]
theorem one3 (a b c : Value) (ha : a.oneCell' = true) (hb : b.oneCell' = true) (hc : c.oneCell' = true) : (#[a, b, c] : Array Value).all (·.oneCell') = true := by simp [ha, hb, hc]
theorem size_psr : (Tryz.prog.info? 109).map (·.size) = some 3 := by kernel_rfl
theorem Grows.trans_but {w w' w'' : World} {H H' H'' : Snap} {g : Nat} (h : Grows w H w' H') (k : GrowsBut w' H' w'' H'' g) (hg : w.heap.size ≤ g) : Grows w H w'' H'' := by
  refine ⟨below_of_grown h.below k.grown (by rintro q ⟨⟩; exact hg), h.le.trans k.le, k.holds, fun x o hx => ?_⟩
  rcases k.fresh x o hx with hx | hx
  · exact h.fresh x o hx
  · exact .inr (Nat.le_trans h.below.size hx)
set_option maxRecDepth 100000 in
set_option maxHeartbeats 6400000 in
theorem cbor_Prefix {H : Snap} (hTab : Tabs H) (w : World) (hH : Holds w H) {A : Option Addr} {n c : Nat} {l : List UInt8} (hn : n = l.length) (hl : IsBytes H A c l) :
    Calls Tryz.prog 60 #[.slice A n c] w (PrefixOut w H l) := by
  have hlm := hl.le
  have hcm := hl.max
  obtain ⟨m, hm⟩ : ∃ m, min n 4096 = m := ⟨_, rfl⟩
  have hmi : min (n : Int) 4096 = (m : Int) := by omega
  have m1 : (m : Int) ≤ (c : Int) := by omega
  have m0 : (0 : Int) ≤ (m : Int) := by omega
  have hml : (l.take 4096).length = m := by rw [List.length_take]; omega
  have hHN := Lib.hid (And.intro hn (And.intro hm hml))
  clear hn hm hml hlm
  go_enter Tryz.func60, Tryz.ntmps60
  go_wp2_with (with_reducible refine stop_store ?_)
  unfold Stopped
  have e1 : (w.alloc zeroO).heap.size = w.heap.size + 1 := by go_simp
  have hT := (Blk.new w 26 #[.int .i64 0, .int .u64 0, .slice none 0 0, .slice none 0 0]).alloc (.cells #[.slice none 0 0, .int .i64 0, .int .i64 0] 109)
  have hB := Blk.new (w.alloc zeroO) 109 #[.slice none 0 0, .int .i64 0, .int .i64 0]
  have hG := ((Grows.refl hH).alloc zeroO).alloc (.cells #[.slice none 0 0, .int .i64 0, .int .i64 0] 109)
  rw [e1] at hB
  have hT0 : Blk ((w.alloc zeroO).alloc (.cells #[.slice none 0 0, .int .i64 0, .int .i64 0] 109)) w.heap.size 26 #[.int .i64 0, .int .u64 0, .slice none 0 0, .slice none 0 0] := hT
  clear hT
  generalize (w.alloc zeroO).alloc (.cells #[.slice none 0 0, .int .i64 0, .int .i64 0] 109) = w1 at hB hG hT0 ⊢
  have hz1 : w.heap.size + 1 < w1.heap.size := hB.lt
  have hn0 : H w.heap.size = none := hH.none_of_ge (by omega)
  have hn1 : H (w.heap.size + 1) = none := hH.none_of_ge (by omega)
  refine wpList_store_item rfl _ _ _ rfl rfl _ _ rfl rfl _ _ hB size_psr rfl (one3 _ _ _ rfl rfl rfl) fun w2 hB2 hg2 => ?_
  have hG2 := hG.grownOwn hn1 (by omega) hg2
  have hT2 := hT0.grown hg2 (by intro e; injection e with e; omega)
  clear hG hT0 hB
  have hPs : Psr 109 w2 (w.heap.size + 1) H A c (l.take 4096) 0 0 :=
    ⟨by obtain ⟨_, _, hml⟩ := hHN.out; rw [hml]; exact hB2, hl.take 4096, hG2.holds, hn1, by omega, by rw [List.length_take]; omega, by omega⟩
  have C0 : (Calls Tryz.prog 79 #[.pointer (some ⟨w.heap.size + 1, 0, none⟩), .int .i64 0] w2 (ItemOut 109 w2 H (w.heap.size + 1) A c (l.take 4096) 0 (prefixP l))) :=
    (p_item 8 w2 H (w.heap.size + 1) A c (l.take 4096) 0 0 0 hTab (by omega) hPs)
  have C := Lib.hid C0
  clear hPs C0
  go_wp2_with fail
  refine C.out.mono ?_
  rintro e w3 hout
  clear C
  cases hr : prefixP l with
  | err q =>
    rw [hr, ItemOut] at hout
    obtain ⟨rfl, H', p', cnt', hd⟩ := hout
    have hr' := Lib.hid hr
    clear hr
    have hT3 := hT2.rdg hd (by omega)
    have hG3 := hG2.trans_but hd.grows (by omega)
    go_wp2_with (with_reducible refine stop_store ?_)
    unfold Stopped
    have hz3 : w.heap.size + 1 < w3.heap.size := hd.psr.gt
    have hN := Blk.new w3 26 #[.int .i64 0, .int .u64 0, .slice none 0 0, .slice none 0 0]
    have hT4 : Blk (w3.alloc zeroO) w.heap.size 26 #[.int .i64 0, .int .u64 0, .slice none 0 0, .slice none 0 0] := hT3.alloc _
    have hG4 := hG3.alloc zeroO
    have hk3 : H' w3.heap.size = none := hG3.holds.none_of_ge (by omega)
    have hk0 : H' w.heap.size = none := hd.hid hn0 hT2.lt
    have hN' : Blk (w3.alloc zeroO) w3.heap.size 26 #[.int .i64 0, .int .u64 0, .slice none 0 0, .slice none 0 0] := hN
    clear hN hT3
    generalize w3.alloc zeroO = w4 at hN' hT4 hG4 ⊢
    refine wpList_store_item rfl _ _ _ rfl rfl _ _ rfl rfl _ _ hN' size_item rfl (one4 _ _ _ _ rfl rfl rfl rfl) fun w5 hT5 hg5 => ?_
    have hT6 := hT4.grown hg5 (by intro e; injection e with e; omega)
    have hG6 := hG4.grownOwn hk3 (by omega) hg5
    clear hT4 hG4 hN'
    have hq0 : ((q : Int) != 0) = true := by rw [bne_iff_ne]; have := parse_err _ _ _ _ hr'.out; omega
    have hq0' : ((q : Int) = 0) = False := eq_false (by have := parse_err _ _ _ _ hr'.out; omega)
    go_wp2_with (with_reducible refine stop_store ?_)
    unfold Stopped
    refine wpList_store_item rfl _ _ _ rfl rfl _ _ rfl rfl _ _ hT6 size_item rfl (one4 _ _ _ _ rfl rfl rfl rfl) fun w7 hT7 hg7 => ?_
    have hG7 := hG6.grownOwn hk0 (by omega) hg7
    go_wp2_with fail
    refine ret_row_tmp2 rfl rfl hT7 rfl rfl size_item rfl ?_
    unfold PrefixOut
    rw [hr'.out]
    exact ⟨rfl, hG7.below⟩
  | ok x k cc =>
    rw [hr, ItemOut, Nat.zero_add] at hout
    obtain ⟨ja, jb, jc, jd, H', rfl, hd, hi⟩ := hout
    have hr' := Lib.hid hr
    clear hr
    have hT3 := hT2.rdg hd (by omega)
    have hG3 := hG2.trans_but hd.grows (by omega)
    have hB3 : Blk w3 (w.heap.size + 1) 109 #[.slice A m c, .int .i64 (k : Int), .int .i64 (cc : Int)] := by
      have := hd.psr.blk; obtain ⟨_, _, hml⟩ := hHN.out; rw [hml] at this; exact this
    go_wp2_with (with_reducible refine stop_store ?_)
    unfold Stopped
    have hz3 : w.heap.size + 1 < w3.heap.size := hd.psr.gt
    have hN := Blk.new w3 26 #[.int .i64 0, .int .u64 0, .slice none 0 0, .slice none 0 0]
    have hT4 : Blk (w3.alloc zeroO) w.heap.size 26 #[.int .i64 0, .int .u64 0, .slice none 0 0, .slice none 0 0] := hT3.alloc _
    have hB4 : Blk (w3.alloc zeroO) (w.heap.size + 1) 109 #[.slice A m c, .int .i64 (k : Int), .int .i64 (cc : Int)] := hB3.alloc _
    have hG4 := hG3.alloc zeroO
    have hk3 : H' w3.heap.size = none := hG3.holds.none_of_ge (by omega)
    have hk0 : H' w.heap.size = none := hd.hid hn0 hT2.lt
    have hN' : Blk (w3.alloc zeroO) w3.heap.size 26 #[.int .i64 0, .int .u64 0, .slice none 0 0, .slice none 0 0] := hN
    clear hN hT3 hB3
    generalize w3.alloc zeroO = w4 at hN' hT4 hG4 hB4 ⊢
    refine wpList_store_item rfl _ _ _ rfl rfl _ _ rfl rfl _ _ hN' size_item rfl (one4 _ _ _ _ rfl rfl rfl rfl) fun w5 hT5 hg5 => ?_
    have hT6 := hT4.grown hg5 (by intro e; injection e with e; omega)
    have hB6 := hB4.grown hg5 (by intro e; injection e with e; omega)
    have hG6 := hG4.grownOwn hk3 (by omega) hg5
    clear hT4 hG4 hN' hB4
    go_upto_region 5 with fail
    have hT6 := hT6.drew
    have hT5 := hT5.drew
    have hB6 := hB6.drew
    have hG6 := hG6.drew
    refine wp_region_ways 5 (fun w' => w'.cell? ⟨w3.heap.size, 0, none⟩ = some (.int .i64 x.kind) ∧ w'.cell? ⟨w3.heap.size, 1, none⟩ = some (.int .u64 x.n) ∧ w'.cell? ⟨w3.heap.size, 2, none⟩ = some (.slice ja x.bytes.length jb) ∧ w'.cell? ⟨w3.heap.size, 3, none⟩ = some (.slice jc x.items.length jd) ∧ w'.cell? ⟨w.heap.size + 1, 1, none⟩ = some (.int .i64 (k : Int))) (by kernel_rfl) (⟨hT5.cell 0 rfl, hT5.cell 1 rfl, hT5.cell 2 rfl, hT5.cell 3 rfl, hB6.cell 1 rfl⟩) (fun hHeld => ?_)
    refine Ways.take (i := 0) (v := ?_) rfl (by kernel_rfl) (fun _ _ _ h => h) (Or.inl ⟨by rfl, ?_⟩) hHeld ?_
    rotate_left
    · (intro w hSw; (try dsimp only at hSw); go_simp; try with_reducible rfl)
    try simp only [Act.put, List.getElem_toArray, List.getElem_cons_zero, List.getElem_cons_succ, List.setIfInBounds_toArray, List.set_cons_zero, List.set_cons_succ]
    refine Ways.take (i := 1) (v := ?_) rfl (by kernel_rfl) (fun _ _ _ h => h) (Or.inl ⟨by rfl, ?_⟩) hHeld ?_
    rotate_left
    · (intro w hSw; (try dsimp only at hSw); go_simp; try with_reducible rfl)
    try simp only [Act.put, List.getElem_toArray, List.getElem_cons_zero, List.getElem_cons_succ, List.setIfInBounds_toArray, List.set_cons_zero, List.set_cons_succ]
    refine Ways.take (i := 2) (v := ?_) rfl (by kernel_rfl) (fun _ _ _ h => h) (Or.inl ⟨by rfl, ?_⟩) hHeld ?_
    rotate_left
    · (intro w hSw; (try dsimp only at hSw); go_simp; try with_reducible rfl)
    try simp only [Act.put, List.getElem_toArray, List.getElem_cons_zero, List.getElem_cons_succ, List.setIfInBounds_toArray, List.set_cons_zero, List.set_cons_succ]
    refine Ways.one (i := 3) rfl (by kernel_rfl) (fun K hK => ?_)
    refine wp_store_item _ _ _ rfl _ _ rfl rfl _ _ hT6 size_item rfl (one4 _ _ _ _ rfl rfl rfl rfl) fun w7 hT7 hg7 => ?_
    have hT5 := hT5.grown hg7 (by intro e; injection e with e; omega)
    have hB6 := hB6.grown hg7 (by intro e; injection e with e; omega)
    have hG7 := hG6.grownOwn hk0 (by omega) hg7
    go_simp
    refine hK.out _ _ (fun _ => ?_) (fun hHeld => ?_)
    · exact ⟨hT5.cell 0 rfl, hT5.cell 1 rfl, hT5.cell 2 rfl, hT5.cell 3 rfl, hB6.cell 1 rfl⟩
    clear hK K
    have hHeld := hHeld (by decide)
    try simp only [Act.put, List.getElem_toArray, List.getElem_cons_zero, List.getElem_cons_succ, List.setIfInBounds_toArray, List.set_cons_zero, List.set_cons_succ]
    refine Ways.take (i := 4) (v := ?_) rfl (by kernel_rfl) (fun _ _ _ h => h) (Or.inl ⟨by rfl, ?_⟩) hHeld ?_
    rotate_left
    · (intro w hSw; (try dsimp only at hSw); go_simp; try with_reducible rfl)
    try simp only [Act.put, List.getElem_toArray, List.getElem_cons_zero, List.getElem_cons_succ, List.setIfInBounds_toArray, List.set_cons_zero, List.set_cons_succ]
    refine Ways.one (i := 5) rfl (by kernel_rfl) (fun K hK => ?_)
    go_simp
    refine hK.out _ _ (fun h => absurd rfl h) (fun _ => ?_)
    clear hK K
    try simp only [Act.put, List.getElem_toArray, List.getElem_cons_zero, List.getElem_cons_succ, List.setIfInBounds_toArray, List.set_cons_zero, List.set_cons_succ]
    refine Ways.done (by kernel_rfl) ?_
    go_wp2_with fail
    refine ret_row_tmp2 rfl rfl hT7 rfl rfl size_item rfl ?_
    unfold PrefixOut
    rw [hr'.out]
    exact ⟨ja, jb, jc, jd, H', rfl, hG7, hi⟩
end Go.Proofs.YtebcnkelbicbnaaGreatDoor
